/- What the proofs of the lexer's laws share, part 6 of 13. -/
import Derived.Test.YtnnhlphbfpnaaaaGreatDoorD5
set_option linter.unusedVariables false
set_option linter.unusedSimpArgs false
section
namespace Go.Ev.R2
open Go Go.Ev Go.Proofs
set_option maxRecDepth 100000
set_option linter.unusedVariables false
set_option linter.unusedSimpArgs false
theorem w134 (y : D) (p : V → Prop) : (evBodyT (Cn T83) T83 noCS 0 noSp noHn 134 [V.d (eV y)] Heap.empty fun v H => p (freezeR H v)) =
  (FitE (eV y) ∧
  p
  (V.d
    (D.agg
      [D.lit (Value.bool (intOf (cellOf y 1) != 0)), D.lit (Value.bool (intOf (cellOf y 9) != 0)),
        D.lit (Value.bool !(intOf (cellOf y 5) == 0 && (intOf (cellOf y 6) == 0 && true))),
        D.lit (Value.bool !(strOf (cellOf y 14)).toList == (ByteArray.mk #[]).toList),
        D.lit (Value.bool (decide ((↑(seqD (cellOf y 2)).length : Int) > 0))), D.lit (Value.bool (hasPat (eV y))),
        D.lit (Value.bool (decide ((↑(seqD (cellOf y 10)).length : Int) > 0))),
        D.lit (Value.bool (bif intOf (cellOf y 3) != 0 then true else intOf (cellOf y 4) != 0)),
        D.lit (Value.bool (decide ((↑(seqD (cellOf y 7)).length : Int) > 0))),
        D.lit (Value.bool (boolOf (cellOf y 8)))]))) := by kernel_rfl
def presB (y : D) (i : Nat) : Bool := match i with
  | 0 => intOf (cellOf y 1) != 0 | 1 => intOf (cellOf y 9) != 0
  | 2 => !(intOf (cellOf y 5) == 0 && (intOf (cellOf y 6) == 0 && true))
  | 3 => !(strOf (cellOf y 14)).toList == (ByteArray.mk #[]).toList
  | 4 => decide ((↑(seqD (cellOf y 2)).length : Int) > 0) | 5 => hasPat y
  | 6 => decide ((↑(seqD (cellOf y 10)).length : Int) > 0)
  | 7 => bif intOf (cellOf y 3) != 0 then true else intOf (cellOf y 4) != 0
  | 8 => decide ((↑(seqD (cellOf y 7)).length : Int) > 0)
  | _ => boolOf (cellOf y 8)
noncomputable def c134 : Ct := ⟨fun | [x] => FitE x | _ => False, fun | [x] => some (.agg [bD (presB x 0), bD (presB x 1), bD (presB x 2), bD (presB x 3), bD (presB x 4), bD (presB x 5), bD (presB x 6), bD (presB x 7), bD (presB x 8), bD (presB x 9)]) | _ => none⟩
noncomputable def T134 : Tab := T83.add 134 c134
def butB (a b : Bool) : Bool := bif a then !b else false
noncomputable def c135 : Ct := ⟨fun _ => True, fun | [.agg [.lit (.bool a0), .lit (.bool a1), .lit (.bool a2), .lit (.bool a3), .lit (.bool a4), .lit (.bool a5), .lit (.bool a6), .lit (.bool a7), .lit (.bool a8), .lit (.bool a9)], .agg [.lit (.bool b0), .lit (.bool b1), .lit (.bool b2), .lit (.bool b3), .lit (.bool b4), .lit (.bool b5), .lit (.bool b6), .lit (.bool b7), .lit (.bool b8), .lit (.bool b9)]] => some (.agg [bD (butB a0 b0), bD (butB a1 b1), bD (butB a2 b2), bD (butB a3 b3), bD (butB a4 b4), bD (butB a5 b5), bD (butB a6 b6), bD (butB a7 b7), bD (butB a8 b8), bD (butB a9 b9)]) | _ => none⟩
noncomputable def T135 : Tab := T134.add 135 c135
theorem w135 (a0 : Bool) (a1 : Bool) (a2 : Bool) (a3 : Bool) (a4 : Bool) (a5 : Bool) (a6 : Bool) (a7 : Bool) (a8 : Bool) (a9 : Bool) (b0 : Bool) (b1 : Bool) (b2 : Bool) (b3 : Bool) (b4 : Bool) (b5 : Bool) (b6 : Bool) (b7 : Bool) (b8 : Bool) (b9 : Bool) (p : V → Prop) : (evBodyT (Cn T134) T134 noCS 0 noSp noHn 135
  [V.d (D.agg [bD a0, bD a1, bD a2, bD a3, bD a4, bD a5, bD a6, bD a7, bD a8, bD a9]),
    V.d (D.agg [bD b0, bD b1, bD b2, bD b3, bD b4, bD b5, bD b6, bD b7, bD b8, bD b9])]
  Heap.empty fun v H => p (freezeR H v)) =
  p
  (V.d
    (D.agg
      [D.lit (Value.bool (bif a0 then !b0 else false)), D.lit (Value.bool (bif a1 then !b1 else false)),
        D.lit (Value.bool (bif a2 then !b2 else false)), D.lit (Value.bool (bif a3 then !b3 else false)),
        D.lit (Value.bool (bif a4 then !b4 else false)), D.lit (Value.bool (bif a5 then !b5 else false)),
        D.lit (Value.bool (bif a6 then !b6 else false)), D.lit (Value.bool (bif a7 then !b7 else false)),
        D.lit (Value.bool (bif a8 then !b8 else false)), D.lit (Value.bool (bif a9 then !b9 else false))])) := by kernel_rfl
def IsKinds (es : List (D × D)) : Prop := es = kindsEs
theorem w72 (y : D) (p : V → Prop) : (evBodyT (Cn T135) T135 noCS 0 noSp noHn 72 [V.d (eV y), V.d (D.map kindsEs)] Heap.empty fun v H => p (freezeR H v)) =
  (bif intOf (cellOf y 0) == 1 then
   (FitE (eV y) ∧
   (FitE (eV y) ∧
   (True ∧
   (bif bif
    !(butB (presB (eV y) 0) false == false &&
        (butB (presB (eV y) 1) false == false &&
          (butB (presB (eV y) 2)
                (numB true (intOf (D.lit (Value.int IntKind.i64 (intOf (cellOf y 0)))))
                  (intOf (D.lit (Value.int IntKind.i64 (intOf (cellOf y 1)))))) ==
              false &&
            (butB (presB (eV y) 3)
                  (textB false (intOf (D.lit (Value.int IntKind.i64 (intOf (cellOf y 0)))))
                    (intOf (D.lit (Value.int IntKind.i64 (intOf (cellOf y 1)))))) ==
                false &&
              (butB (presB (eV y) 4) false == false &&
                (butB (presB (eV y) 5) false == false &&
                  (butB (presB (eV y) 6) false == false &&
                    (butB (presB (eV y) 7) false == false &&
                      (butB (presB (eV y) 8) false == false &&
                        (butB (presB (eV y) 9) false == false && true)))))))))) then
  true
else (↑(seqD (cellOf y 15)).length : Int) != 0 then
    p (V.d (D.lit (Value.int IntKind.i64 1))) else
    (bif numB true (intOf (D.lit (Value.int IntKind.i64 (intOf (cellOf y 0)))))
  (intOf (D.lit (Value.int IntKind.i64 (intOf (cellOf y 1))))) then
     (FitE (eV y) ∧
     (bif numberE (eV y) != 0 then
      p (V.d (D.lit (Value.int IntKind.i64 (numberE (eV y))))) else
      ((1 = 1 ∧ ∀ (y_1 : D), y_1 ∈ seqD (cellOf y 7) → FitN y_1) ∧
      (bif namesE (seqD (cellOf y 7)) (intOf (cellOf y 0) == 4) != 0 then
       p (V.d (D.lit (Value.int IntKind.i64 (namesE (seqD (cellOf y 7)) (intOf (cellOf y 0) == 4))))) else
       (bif bif decide (intOf (cellOf y 9) < 0) then true else decide (intOf (cellOf y 9) > 2) then
        p (V.d (D.lit (Value.int IntKind.i64 8))) else
        ((4 = 4 ∧ ∀ (y_1 : D), y_1 ∈ seqD (cellOf y 10) → FitG y_1) ∧
        (bif stagesE (seqD (cellOf y 10)) != 0 then
         p (V.d (D.lit (Value.int IntKind.i64 (stagesE (seqD (cellOf y 10)))))) else
         (bif textB false (intOf (D.lit (Value.int IntKind.i64 (intOf (cellOf y 0)))))
  (intOf (D.lit (Value.int IntKind.i64 (intOf (cellOf y 1))))) then
          (FitE (eV y) ∧
          p (V.d (D.lit (Value.int IntKind.i64 (textE (eV y)))))) else
          p (V.d (D.lit (Value.int IntKind.i64 0))))))))))) else
     ((1 = 1 ∧ ∀ (y_1 : D), y_1 ∈ seqD (cellOf y 7) → FitN y_1) ∧
     (bif namesE (seqD (cellOf y 7)) (intOf (cellOf y 0) == 4) != 0 then
      p (V.d (D.lit (Value.int IntKind.i64 (namesE (seqD (cellOf y 7)) (intOf (cellOf y 0) == 4))))) else
      (bif bif decide (intOf (cellOf y 9) < 0) then true else decide (intOf (cellOf y 9) > 2) then
       p (V.d (D.lit (Value.int IntKind.i64 8))) else
       ((4 = 4 ∧ ∀ (y_1 : D), y_1 ∈ seqD (cellOf y 10) → FitG y_1) ∧
       (bif stagesE (seqD (cellOf y 10)) != 0 then
        p (V.d (D.lit (Value.int IntKind.i64 (stagesE (seqD (cellOf y 10)))))) else
        (bif textB false (intOf (D.lit (Value.int IntKind.i64 (intOf (cellOf y 0)))))
  (intOf (D.lit (Value.int IntKind.i64 (intOf (cellOf y 1))))) then
         (FitE (eV y) ∧
         p (V.d (D.lit (Value.int IntKind.i64 (textE (eV y)))))) else
         p (V.d (D.lit (Value.int IntKind.i64 0)))))))))))))) else
   (bif intOf (cellOf y 0) == 2 then
    (bif bif true then bif decide (intOf (cellOf y 1) < 1) then true else decide (intOf (cellOf y 1) > (↑11 : Int)) else false then
     p (V.d (D.lit (Value.int IntKind.i64 8))) else
     (FitE (eV y) ∧
     (FitE (eV y) ∧
     (True ∧
     (bif bif
    !(butB (presB (eV y) 0) true == false &&
        (butB (presB (eV y) 1) false == false &&
          (butB (presB (eV y) 2)
                (numB false (intOf (D.lit (Value.int IntKind.i64 (intOf (cellOf y 0)))))
                  (intOf (D.lit (Value.int IntKind.i64 (intOf (cellOf y 1)))))) ==
              false &&
            (butB (presB (eV y) 3)
                  (textB false (intOf (D.lit (Value.int IntKind.i64 (intOf (cellOf y 0)))))
                    (intOf (D.lit (Value.int IntKind.i64 (intOf (cellOf y 1)))))) ==
                false &&
              (butB (presB (eV y) 4) true == false &&
                (butB (presB (eV y) 5) false == false &&
                  (butB (presB (eV y) 6) false == false &&
                    (butB (presB (eV y) 7) true == false &&
                      (butB (presB (eV y) 8) false == false &&
                        (butB (presB (eV y) 9) false == false && true)))))))))) then
  true
else (↑(seqD (cellOf y 15)).length : Int) != 0 then
      p (V.d (D.lit (Value.int IntKind.i64 1))) else
      ((3 = 3 ∧ ∀ (y_1 : D), y_1 ∈ seqD (cellOf y 2) → FitM y_1) ∧
      (bif matchersE (seqD (cellOf y 2)) != 0 then
       p (V.d (D.lit (Value.int IntKind.i64 (matchersE (seqD (cellOf y 2)))))) else
       (bif bif true then
  bif
      bif bif decide (intOf (cellOf y 3) < 1) then true else decide (intOf (cellOf y 3) > 1099511627776) then true
      else decide (intOf (cellOf y 4) < 0) then
    true
  else decide (intOf (cellOf y 4) > 1099511627776)
else false then
        p (V.d (D.lit (Value.int IntKind.i64 2))) else
        (bif numB false (intOf (D.lit (Value.int IntKind.i64 (intOf (cellOf y 0)))))
  (intOf (D.lit (Value.int IntKind.i64 (intOf (cellOf y 1))))) then
         (FitE (eV y) ∧
         (bif numberE (eV y) != 0 then
          p (V.d (D.lit (Value.int IntKind.i64 (numberE (eV y))))) else
          ((1 = 1 ∧ ∀ (y_1 : D), y_1 ∈ seqD (cellOf y 7) → FitN y_1) ∧
          (bif namesE (seqD (cellOf y 7)) (intOf (cellOf y 0) == 4) != 0 then
           p (V.d (D.lit (Value.int IntKind.i64 (namesE (seqD (cellOf y 7)) (intOf (cellOf y 0) == 4))))) else
           (bif bif decide (intOf (cellOf y 9) < 0) then true else decide (intOf (cellOf y 9) > 2) then
            p (V.d (D.lit (Value.int IntKind.i64 8))) else
            ((4 = 4 ∧ ∀ (y_1 : D), y_1 ∈ seqD (cellOf y 10) → FitG y_1) ∧
            (bif stagesE (seqD (cellOf y 10)) != 0 then
             p (V.d (D.lit (Value.int IntKind.i64 (stagesE (seqD (cellOf y 10)))))) else
             (bif textB false (intOf (D.lit (Value.int IntKind.i64 (intOf (cellOf y 0)))))
  (intOf (D.lit (Value.int IntKind.i64 (intOf (cellOf y 1))))) then
              (FitE (eV y) ∧
              p (V.d (D.lit (Value.int IntKind.i64 (textE (eV y)))))) else
              p (V.d (D.lit (Value.int IntKind.i64 0))))))))))) else
         ((1 = 1 ∧ ∀ (y_1 : D), y_1 ∈ seqD (cellOf y 7) → FitN y_1) ∧
         (bif namesE (seqD (cellOf y 7)) (intOf (cellOf y 0) == 4) != 0 then
          p (V.d (D.lit (Value.int IntKind.i64 (namesE (seqD (cellOf y 7)) (intOf (cellOf y 0) == 4))))) else
          (bif bif decide (intOf (cellOf y 9) < 0) then true else decide (intOf (cellOf y 9) > 2) then
           p (V.d (D.lit (Value.int IntKind.i64 8))) else
           ((4 = 4 ∧ ∀ (y_1 : D), y_1 ∈ seqD (cellOf y 10) → FitG y_1) ∧
           (bif stagesE (seqD (cellOf y 10)) != 0 then
            p (V.d (D.lit (Value.int IntKind.i64 (stagesE (seqD (cellOf y 10)))))) else
            (bif textB false (intOf (D.lit (Value.int IntKind.i64 (intOf (cellOf y 0)))))
  (intOf (D.lit (Value.int IntKind.i64 (intOf (cellOf y 1))))) then
             (FitE (eV y) ∧
             p (V.d (D.lit (Value.int IntKind.i64 (textE (eV y)))))) else
             p (V.d (D.lit (Value.int IntKind.i64 0)))))))))))))))))) else
    (bif intOf (cellOf y 0) == 3 then
     (bif bif true then bif decide (intOf (cellOf y 1) < 1) then true else decide (intOf (cellOf y 1) > (↑3 : Int)) else false then
      p (V.d (D.lit (Value.int IntKind.i64 8))) else
      (FitE (eV y) ∧
      (FitE (eV y) ∧
      (True ∧
      (bif bif
    !(butB (presB (eV y) 0) true == false &&
        (butB (presB (eV y) 1) false == false &&
          (butB (presB (eV y) 2)
                (numB false (intOf (D.lit (Value.int IntKind.i64 (intOf (cellOf y 0)))))
                  (intOf (D.lit (Value.int IntKind.i64 (intOf (cellOf y 1)))))) ==
              false &&
            (butB (presB (eV y) 3)
                  (textB false (intOf (D.lit (Value.int IntKind.i64 (intOf (cellOf y 0)))))
                    (intOf (D.lit (Value.int IntKind.i64 (intOf (cellOf y 1)))))) ==
                false &&
              (butB (presB (eV y) 4) true == false &&
                (butB (presB (eV y) 5) false == false &&
                  (butB (presB (eV y) 6) true == false &&
                    (butB (presB (eV y) 7) true == false &&
                      (butB (presB (eV y) 8) true == false &&
                        (butB (presB (eV y) 9) true == false && true)))))))))) then
  true
else (↑(seqD (cellOf y 15)).length : Int) != 0 then
       p (V.d (D.lit (Value.int IntKind.i64 1))) else
       ((3 = 3 ∧ ∀ (y_1 : D), y_1 ∈ seqD (cellOf y 2) → FitM y_1) ∧
       (bif matchersE (seqD (cellOf y 2)) != 0 then
        p (V.d (D.lit (Value.int IntKind.i64 (matchersE (seqD (cellOf y 2)))))) else
        (bif bif true then
  bif
      bif bif decide (intOf (cellOf y 3) < 1) then true else decide (intOf (cellOf y 3) > 1099511627776) then true
      else decide (intOf (cellOf y 4) < 0) then
    true
  else decide (intOf (cellOf y 4) > 1099511627776)
else false then
         p (V.d (D.lit (Value.int IntKind.i64 2))) else
         (bif numB false (intOf (D.lit (Value.int IntKind.i64 (intOf (cellOf y 0)))))
  (intOf (D.lit (Value.int IntKind.i64 (intOf (cellOf y 1))))) then
          (FitE (eV y) ∧
          (bif numberE (eV y) != 0 then
           p (V.d (D.lit (Value.int IntKind.i64 (numberE (eV y))))) else
           ((1 = 1 ∧ ∀ (y_1 : D), y_1 ∈ seqD (cellOf y 7) → FitN y_1) ∧
           (bif namesE (seqD (cellOf y 7)) (intOf (cellOf y 0) == 4) != 0 then
            p (V.d (D.lit (Value.int IntKind.i64 (namesE (seqD (cellOf y 7)) (intOf (cellOf y 0) == 4))))) else
            (bif bif decide (intOf (cellOf y 9) < 0) then true else decide (intOf (cellOf y 9) > 2) then
             p (V.d (D.lit (Value.int IntKind.i64 8))) else
             ((4 = 4 ∧ ∀ (y_1 : D), y_1 ∈ seqD (cellOf y 10) → FitG y_1) ∧
             (bif stagesE (seqD (cellOf y 10)) != 0 then
              p (V.d (D.lit (Value.int IntKind.i64 (stagesE (seqD (cellOf y 10)))))) else
              (bif textB false (intOf (D.lit (Value.int IntKind.i64 (intOf (cellOf y 0)))))
  (intOf (D.lit (Value.int IntKind.i64 (intOf (cellOf y 1))))) then
               (FitE (eV y) ∧
               p (V.d (D.lit (Value.int IntKind.i64 (textE (eV y)))))) else
               p (V.d (D.lit (Value.int IntKind.i64 0))))))))))) else
          ((1 = 1 ∧ ∀ (y_1 : D), y_1 ∈ seqD (cellOf y 7) → FitN y_1) ∧
          (bif namesE (seqD (cellOf y 7)) (intOf (cellOf y 0) == 4) != 0 then
           p (V.d (D.lit (Value.int IntKind.i64 (namesE (seqD (cellOf y 7)) (intOf (cellOf y 0) == 4))))) else
           (bif bif decide (intOf (cellOf y 9) < 0) then true else decide (intOf (cellOf y 9) > 2) then
            p (V.d (D.lit (Value.int IntKind.i64 8))) else
            ((4 = 4 ∧ ∀ (y_1 : D), y_1 ∈ seqD (cellOf y 10) → FitG y_1) ∧
            (bif stagesE (seqD (cellOf y 10)) != 0 then
             p (V.d (D.lit (Value.int IntKind.i64 (stagesE (seqD (cellOf y 10)))))) else
             (bif textB false (intOf (D.lit (Value.int IntKind.i64 (intOf (cellOf y 0)))))
  (intOf (D.lit (Value.int IntKind.i64 (intOf (cellOf y 1))))) then
              (FitE (eV y) ∧
              p (V.d (D.lit (Value.int IntKind.i64 (textE (eV y)))))) else
              p (V.d (D.lit (Value.int IntKind.i64 0)))))))))))))))))) else
     (bif intOf (cellOf y 0) == 4 then
      (FitE (eV y) ∧
      (FitE (eV y) ∧
      (True ∧
      (bif bif
    !(butB (presB (eV y) 0) false == false &&
        (butB (presB (eV y) 1) false == false &&
          (butB (presB (eV y) 2)
                (numB false (intOf (D.lit (Value.int IntKind.i64 (intOf (cellOf y 0)))))
                  (intOf (D.lit (Value.int IntKind.i64 (intOf (cellOf y 1)))))) ==
              false &&
            (butB (presB (eV y) 3)
                  (textB false (intOf (D.lit (Value.int IntKind.i64 (intOf (cellOf y 0)))))
                    (intOf (D.lit (Value.int IntKind.i64 (intOf (cellOf y 1)))))) ==
                false &&
              (butB (presB (eV y) 4) false == false &&
                (butB (presB (eV y) 5) true == false &&
                  (butB (presB (eV y) 6) false == false &&
                    (butB (presB (eV y) 7) true == false &&
                      (butB (presB (eV y) 8) true == false &&
                        (butB (presB (eV y) 9) false == false && true)))))))))) then
  true
else (↑(seqD (cellOf y 15)).length : Int) != 0 then
       p (V.d (D.lit (Value.int IntKind.i64 1))) else
       (bif bif true then
  bif
      bif bif decide (intOf (cellOf y 3) < 1) then true else decide (intOf (cellOf y 3) > 1099511627776) then true
      else decide (intOf (cellOf y 4) < 0) then
    true
  else decide (intOf (cellOf y 4) > 1099511627776)
else false then
        p (V.d (D.lit (Value.int IntKind.i64 2))) else
        (bif numB false (intOf (D.lit (Value.int IntKind.i64 (intOf (cellOf y 0)))))
  (intOf (D.lit (Value.int IntKind.i64 (intOf (cellOf y 1))))) then
         (FitE (eV y) ∧
         (bif numberE (eV y) != 0 then
          p (V.d (D.lit (Value.int IntKind.i64 (numberE (eV y))))) else
          ((1 = 1 ∧ ∀ (y_1 : D), y_1 ∈ seqD (cellOf y 7) → FitN y_1) ∧
          (bif namesE (seqD (cellOf y 7)) (intOf (cellOf y 0) == 4) != 0 then
           p (V.d (D.lit (Value.int IntKind.i64 (namesE (seqD (cellOf y 7)) (intOf (cellOf y 0) == 4))))) else
           (bif bif decide (intOf (cellOf y 9) < 0) then true else decide (intOf (cellOf y 9) > 2) then
            p (V.d (D.lit (Value.int IntKind.i64 8))) else
            ((4 = 4 ∧ ∀ (y_1 : D), y_1 ∈ seqD (cellOf y 10) → FitG y_1) ∧
            (bif stagesE (seqD (cellOf y 10)) != 0 then
             p (V.d (D.lit (Value.int IntKind.i64 (stagesE (seqD (cellOf y 10)))))) else
             (FitP (paV y) ∧
             (bif patCheckE (paV y) != 0 then
              p (V.d (D.lit (Value.int IntKind.i64 (patCheckE (paV y))))) else
              (bif textB false (intOf (D.lit (Value.int IntKind.i64 (intOf (cellOf y 0)))))
  (intOf (D.lit (Value.int IntKind.i64 (intOf (cellOf y 1))))) then
               (FitE (eV y) ∧
               p (V.d (D.lit (Value.int IntKind.i64 (textE (eV y)))))) else
               p (V.d (D.lit (Value.int IntKind.i64 0))))))))))))) else
         ((1 = 1 ∧ ∀ (y_1 : D), y_1 ∈ seqD (cellOf y 7) → FitN y_1) ∧
         (bif namesE (seqD (cellOf y 7)) (intOf (cellOf y 0) == 4) != 0 then
          p (V.d (D.lit (Value.int IntKind.i64 (namesE (seqD (cellOf y 7)) (intOf (cellOf y 0) == 4))))) else
          (bif bif decide (intOf (cellOf y 9) < 0) then true else decide (intOf (cellOf y 9) > 2) then
           p (V.d (D.lit (Value.int IntKind.i64 8))) else
           ((4 = 4 ∧ ∀ (y_1 : D), y_1 ∈ seqD (cellOf y 10) → FitG y_1) ∧
           (bif stagesE (seqD (cellOf y 10)) != 0 then
            p (V.d (D.lit (Value.int IntKind.i64 (stagesE (seqD (cellOf y 10)))))) else
            (FitP (paV y) ∧
            (bif patCheckE (paV y) != 0 then
             p (V.d (D.lit (Value.int IntKind.i64 (patCheckE (paV y))))) else
             (bif textB false (intOf (D.lit (Value.int IntKind.i64 (intOf (cellOf y 0)))))
  (intOf (D.lit (Value.int IntKind.i64 (intOf (cellOf y 1))))) then
              (FitE (eV y) ∧
              p (V.d (D.lit (Value.int IntKind.i64 (textE (eV y)))))) else
              p (V.d (D.lit (Value.int IntKind.i64 0))))))))))))))))) else
      (bif intOf (cellOf y 0) == 5 then
       (FitE (eV y) ∧
       (FitE (eV y) ∧
       (True ∧
       (bif bif
    !(butB (presB (eV y) 0) false == false &&
        (butB (presB (eV y) 1) false == false &&
          (butB (presB (eV y) 2)
                (numB false (intOf (D.lit (Value.int IntKind.i64 (intOf (cellOf y 0)))))
                  (intOf (D.lit (Value.int IntKind.i64 (intOf (cellOf y 1)))))) ==
              false &&
            (butB (presB (eV y) 3)
                  (textB true (intOf (D.lit (Value.int IntKind.i64 (intOf (cellOf y 0)))))
                    (intOf (D.lit (Value.int IntKind.i64 (intOf (cellOf y 1)))))) ==
                false &&
              (butB (presB (eV y) 4) true == false &&
                (butB (presB (eV y) 5) false == false &&
                  (butB (presB (eV y) 6) false == false &&
                    (butB (presB (eV y) 7) true == false &&
                      (butB (presB (eV y) 8) true == false &&
                        (butB (presB (eV y) 9) true == false && true)))))))))) then
  true
else (↑(seqD (cellOf y 15)).length : Int) != 0 then
        p (V.d (D.lit (Value.int IntKind.i64 1))) else
        ((3 = 3 ∧ ∀ (y_1 : D), y_1 ∈ seqD (cellOf y 2) → FitM y_1) ∧
        (bif matchersE (seqD (cellOf y 2)) != 0 then
         p (V.d (D.lit (Value.int IntKind.i64 (matchersE (seqD (cellOf y 2)))))) else
         (bif bif true then
  bif
      bif bif decide (intOf (cellOf y 3) < 1) then true else decide (intOf (cellOf y 3) > 1099511627776) then true
      else decide (intOf (cellOf y 4) < 0) then
    true
  else decide (intOf (cellOf y 4) > 1099511627776)
else false then
          p (V.d (D.lit (Value.int IntKind.i64 2))) else
          (bif numB false (intOf (D.lit (Value.int IntKind.i64 (intOf (cellOf y 0)))))
  (intOf (D.lit (Value.int IntKind.i64 (intOf (cellOf y 1))))) then
           (FitE (eV y) ∧
           (bif numberE (eV y) != 0 then
            p (V.d (D.lit (Value.int IntKind.i64 (numberE (eV y))))) else
            ((1 = 1 ∧ ∀ (y_1 : D), y_1 ∈ seqD (cellOf y 7) → FitN y_1) ∧
            (bif namesE (seqD (cellOf y 7)) (intOf (cellOf y 0) == 4) != 0 then
             p (V.d (D.lit (Value.int IntKind.i64 (namesE (seqD (cellOf y 7)) (intOf (cellOf y 0) == 4))))) else
             (bif bif decide (intOf (cellOf y 9) < 0) then true else decide (intOf (cellOf y 9) > 2) then
              p (V.d (D.lit (Value.int IntKind.i64 8))) else
              ((4 = 4 ∧ ∀ (y_1 : D), y_1 ∈ seqD (cellOf y 10) → FitG y_1) ∧
              (bif stagesE (seqD (cellOf y 10)) != 0 then
               p (V.d (D.lit (Value.int IntKind.i64 (stagesE (seqD (cellOf y 10)))))) else
               (bif textB true (intOf (D.lit (Value.int IntKind.i64 (intOf (cellOf y 0)))))
  (intOf (D.lit (Value.int IntKind.i64 (intOf (cellOf y 1))))) then
                (FitE (eV y) ∧
                p (V.d (D.lit (Value.int IntKind.i64 (textE (eV y)))))) else
                p (V.d (D.lit (Value.int IntKind.i64 0))))))))))) else
           ((1 = 1 ∧ ∀ (y_1 : D), y_1 ∈ seqD (cellOf y 7) → FitN y_1) ∧
           (bif namesE (seqD (cellOf y 7)) (intOf (cellOf y 0) == 4) != 0 then
            p (V.d (D.lit (Value.int IntKind.i64 (namesE (seqD (cellOf y 7)) (intOf (cellOf y 0) == 4))))) else
            (bif bif decide (intOf (cellOf y 9) < 0) then true else decide (intOf (cellOf y 9) > 2) then
             p (V.d (D.lit (Value.int IntKind.i64 8))) else
             ((4 = 4 ∧ ∀ (y_1 : D), y_1 ∈ seqD (cellOf y 10) → FitG y_1) ∧
             (bif stagesE (seqD (cellOf y 10)) != 0 then
              p (V.d (D.lit (Value.int IntKind.i64 (stagesE (seqD (cellOf y 10)))))) else
              (bif textB true (intOf (D.lit (Value.int IntKind.i64 (intOf (cellOf y 0)))))
  (intOf (D.lit (Value.int IntKind.i64 (intOf (cellOf y 1))))) then
               (FitE (eV y) ∧
               p (V.d (D.lit (Value.int IntKind.i64 (textE (eV y)))))) else
               p (V.d (D.lit (Value.int IntKind.i64 0))))))))))))))))) else
       (bif intOf (cellOf y 0) == 6 then
        (bif bif true then bif decide (intOf (cellOf y 1) < 1) then true else decide (intOf (cellOf y 1) > (↑9 : Int)) else false then
         p (V.d (D.lit (Value.int IntKind.i64 8))) else
         (FitE (eV y) ∧
         (FitE (eV y) ∧
         (True ∧
         (bif bif
    !(butB (presB (eV y) 0) true == false &&
        (butB (presB (eV y) 1) false == false &&
          (butB (presB (eV y) 2)
                (numB false (intOf (D.lit (Value.int IntKind.i64 (intOf (cellOf y 0)))))
                  (intOf (D.lit (Value.int IntKind.i64 (intOf (cellOf y 1)))))) ==
              false &&
            (butB (presB (eV y) 3)
                  (textB false (intOf (D.lit (Value.int IntKind.i64 (intOf (cellOf y 0)))))
                    (intOf (D.lit (Value.int IntKind.i64 (intOf (cellOf y 1)))))) ==
                false &&
              (butB (presB (eV y) 4) false == false &&
                (butB (presB (eV y) 5) false == false &&
                  (butB (presB (eV y) 6) false == false &&
                    (butB (presB (eV y) 7) false == false &&
                      (butB (presB (eV y) 8) true == false &&
                        (butB (presB (eV y) 9) true == false && true)))))))))) then
  true
else (↑(seqD (cellOf y 15)).length : Int) != 1 then
          p (V.d (D.lit (Value.int IntKind.i64 1))) else
          (bif numB false (intOf (D.lit (Value.int IntKind.i64 (intOf (cellOf y 0)))))
  (intOf (D.lit (Value.int IntKind.i64 (intOf (cellOf y 1))))) then
           (FitE (eV y) ∧
           (bif numberE (eV y) != 0 then
            p (V.d (D.lit (Value.int IntKind.i64 (numberE (eV y))))) else
            ((1 = 1 ∧ ∀ (y_1 : D), y_1 ∈ seqD (cellOf y 7) → FitN y_1) ∧
            (bif namesE (seqD (cellOf y 7)) (intOf (cellOf y 0) == 4) != 0 then
             p (V.d (D.lit (Value.int IntKind.i64 (namesE (seqD (cellOf y 7)) (intOf (cellOf y 0) == 4))))) else
             (bif bif decide (intOf (cellOf y 9) < 0) then true else decide (intOf (cellOf y 9) > 2) then
              p (V.d (D.lit (Value.int IntKind.i64 8))) else
              ((4 = 4 ∧ ∀ (y_1 : D), y_1 ∈ seqD (cellOf y 10) → FitG y_1) ∧
              (bif stagesE (seqD (cellOf y 10)) != 0 then
               p (V.d (D.lit (Value.int IntKind.i64 (stagesE (seqD (cellOf y 10)))))) else
               (bif textB false (intOf (D.lit (Value.int IntKind.i64 (intOf (cellOf y 0)))))
  (intOf (D.lit (Value.int IntKind.i64 (intOf (cellOf y 1))))) then
                (FitE (eV y) ∧
                p (V.d (D.lit (Value.int IntKind.i64 (textE (eV y)))))) else
                p (V.d (D.lit (Value.int IntKind.i64 0))))))))))) else
           ((1 = 1 ∧ ∀ (y_1 : D), y_1 ∈ seqD (cellOf y 7) → FitN y_1) ∧
           (bif namesE (seqD (cellOf y 7)) (intOf (cellOf y 0) == 4) != 0 then
            p (V.d (D.lit (Value.int IntKind.i64 (namesE (seqD (cellOf y 7)) (intOf (cellOf y 0) == 4))))) else
            (bif bif decide (intOf (cellOf y 9) < 0) then true else decide (intOf (cellOf y 9) > 2) then
             p (V.d (D.lit (Value.int IntKind.i64 8))) else
             ((4 = 4 ∧ ∀ (y_1 : D), y_1 ∈ seqD (cellOf y 10) → FitG y_1) ∧
             (bif stagesE (seqD (cellOf y 10)) != 0 then
              p (V.d (D.lit (Value.int IntKind.i64 (stagesE (seqD (cellOf y 10)))))) else
              (bif textB false (intOf (D.lit (Value.int IntKind.i64 (intOf (cellOf y 0)))))
  (intOf (D.lit (Value.int IntKind.i64 (intOf (cellOf y 1))))) then
               (FitE (eV y) ∧
               p (V.d (D.lit (Value.int IntKind.i64 (textE (eV y)))))) else
               p (V.d (D.lit (Value.int IntKind.i64 0))))))))))))))) else
        (bif intOf (cellOf y 0) == 7 then
         (bif bif true then bif decide (intOf (cellOf y 1) < 1) then true else decide (intOf (cellOf y 1) > (↑10 : Int)) else false then
          p (V.d (D.lit (Value.int IntKind.i64 8))) else
          (FitE (eV y) ∧
          (FitE (eV y) ∧
          (True ∧
          (bif bif
    !(butB (presB (eV y) 0) true == false &&
        (butB (presB (eV y) 1) true == false &&
          (butB (presB (eV y) 2)
                (numB false (intOf (D.lit (Value.int IntKind.i64 (intOf (cellOf y 0)))))
                  (intOf (D.lit (Value.int IntKind.i64 (intOf (cellOf y 1)))))) ==
              false &&
            (butB (presB (eV y) 3)
                  (textB false (intOf (D.lit (Value.int IntKind.i64 (intOf (cellOf y 0)))))
                    (intOf (D.lit (Value.int IntKind.i64 (intOf (cellOf y 1)))))) ==
                false &&
              (butB (presB (eV y) 4) false == false &&
                (butB (presB (eV y) 5) false == false &&
                  (butB (presB (eV y) 6) false == false &&
                    (butB (presB (eV y) 7) false == false &&
                      (butB (presB (eV y) 8) true == false &&
                        (butB (presB (eV y) 9) true == false && true)))))))))) then
  true
else (↑(seqD (cellOf y 15)).length : Int) != 2 then
           p (V.d (D.lit (Value.int IntKind.i64 1))) else
           (bif numB false (intOf (D.lit (Value.int IntKind.i64 (intOf (cellOf y 0)))))
  (intOf (D.lit (Value.int IntKind.i64 (intOf (cellOf y 1))))) then
            (FitE (eV y) ∧
            (bif numberE (eV y) != 0 then
             p (V.d (D.lit (Value.int IntKind.i64 (numberE (eV y))))) else
             ((1 = 1 ∧ ∀ (y_1 : D), y_1 ∈ seqD (cellOf y 7) → FitN y_1) ∧
             (bif namesE (seqD (cellOf y 7)) (intOf (cellOf y 0) == 4) != 0 then
              p (V.d (D.lit (Value.int IntKind.i64 (namesE (seqD (cellOf y 7)) (intOf (cellOf y 0) == 4))))) else
              (bif bif decide (intOf (cellOf y 9) < 0) then true else decide (intOf (cellOf y 9) > 2) then
               p (V.d (D.lit (Value.int IntKind.i64 8))) else
               ((4 = 4 ∧ ∀ (y_1 : D), y_1 ∈ seqD (cellOf y 10) → FitG y_1) ∧
               (bif stagesE (seqD (cellOf y 10)) != 0 then
                p (V.d (D.lit (Value.int IntKind.i64 (stagesE (seqD (cellOf y 10)))))) else
                (bif textB false (intOf (D.lit (Value.int IntKind.i64 (intOf (cellOf y 0)))))
  (intOf (D.lit (Value.int IntKind.i64 (intOf (cellOf y 1))))) then
                 (FitE (eV y) ∧
                 p (V.d (D.lit (Value.int IntKind.i64 (textE (eV y)))))) else
                 p (V.d (D.lit (Value.int IntKind.i64 0))))))))))) else
            ((1 = 1 ∧ ∀ (y_1 : D), y_1 ∈ seqD (cellOf y 7) → FitN y_1) ∧
            (bif namesE (seqD (cellOf y 7)) (intOf (cellOf y 0) == 4) != 0 then
             p (V.d (D.lit (Value.int IntKind.i64 (namesE (seqD (cellOf y 7)) (intOf (cellOf y 0) == 4))))) else
             (bif bif decide (intOf (cellOf y 9) < 0) then true else decide (intOf (cellOf y 9) > 2) then
              p (V.d (D.lit (Value.int IntKind.i64 8))) else
              ((4 = 4 ∧ ∀ (y_1 : D), y_1 ∈ seqD (cellOf y 10) → FitG y_1) ∧
              (bif stagesE (seqD (cellOf y 10)) != 0 then
               p (V.d (D.lit (Value.int IntKind.i64 (stagesE (seqD (cellOf y 10)))))) else
               (bif textB false (intOf (D.lit (Value.int IntKind.i64 (intOf (cellOf y 0)))))
  (intOf (D.lit (Value.int IntKind.i64 (intOf (cellOf y 1))))) then
                (FitE (eV y) ∧
                p (V.d (D.lit (Value.int IntKind.i64 (textE (eV y)))))) else
                p (V.d (D.lit (Value.int IntKind.i64 0))))))))))))))) else
         (bif intOf (cellOf y 0) == 8 then
          (FitE (eV y) ∧
          (FitE (eV y) ∧
          (True ∧
          (bif bif
    !(butB (presB (eV y) 0) false == false &&
        (butB (presB (eV y) 1) false == false &&
          (butB (presB (eV y) 2)
                (numB false (intOf (D.lit (Value.int IntKind.i64 (intOf (cellOf y 0)))))
                  (intOf (D.lit (Value.int IntKind.i64 (intOf (cellOf y 1)))))) ==
              false &&
            (butB (presB (eV y) 3)
                  (textB false (intOf (D.lit (Value.int IntKind.i64 (intOf (cellOf y 0)))))
                    (intOf (D.lit (Value.int IntKind.i64 (intOf (cellOf y 1)))))) ==
                false &&
              (butB (presB (eV y) 4) true == false &&
                (butB (presB (eV y) 5) false == false &&
                  (butB (presB (eV y) 6) true == false &&
                    (butB (presB (eV y) 7) true == false &&
                      (butB (presB (eV y) 8) false == false &&
                        (butB (presB (eV y) 9) false == false && true)))))))))) then
  true
else (↑(seqD (cellOf y 15)).length : Int) != 0 then
           p (V.d (D.lit (Value.int IntKind.i64 1))) else
           ((3 = 3 ∧ ∀ (y_1 : D), y_1 ∈ seqD (cellOf y 2) → FitM y_1) ∧
           (bif matchersE (seqD (cellOf y 2)) != 0 then
            p (V.d (D.lit (Value.int IntKind.i64 (matchersE (seqD (cellOf y 2)))))) else
            (bif bif true then
  bif
      bif bif decide (intOf (cellOf y 3) < 1) then true else decide (intOf (cellOf y 3) > 1099511627776) then true
      else decide (intOf (cellOf y 4) < 0) then
    true
  else decide (intOf (cellOf y 4) > 1099511627776)
else false then
             p (V.d (D.lit (Value.int IntKind.i64 2))) else
             (bif numB false (intOf (D.lit (Value.int IntKind.i64 (intOf (cellOf y 0)))))
  (intOf (D.lit (Value.int IntKind.i64 (intOf (cellOf y 1))))) then
              (FitE (eV y) ∧
              (bif numberE (eV y) != 0 then
               p (V.d (D.lit (Value.int IntKind.i64 (numberE (eV y))))) else
               ((1 = 1 ∧ ∀ (y_1 : D), y_1 ∈ seqD (cellOf y 7) → FitN y_1) ∧
               (bif namesE (seqD (cellOf y 7)) (intOf (cellOf y 0) == 4) != 0 then
                p (V.d (D.lit (Value.int IntKind.i64 (namesE (seqD (cellOf y 7)) (intOf (cellOf y 0) == 4))))) else
                (bif bif decide (intOf (cellOf y 9) < 0) then true else decide (intOf (cellOf y 9) > 2) then
                 p (V.d (D.lit (Value.int IntKind.i64 8))) else
                 ((4 = 4 ∧ ∀ (y_1 : D), y_1 ∈ seqD (cellOf y 10) → FitG y_1) ∧
                 (bif stagesE (seqD (cellOf y 10)) != 0 then
                  p (V.d (D.lit (Value.int IntKind.i64 (stagesE (seqD (cellOf y 10)))))) else
                  (bif textB false (intOf (D.lit (Value.int IntKind.i64 (intOf (cellOf y 0)))))
  (intOf (D.lit (Value.int IntKind.i64 (intOf (cellOf y 1))))) then
                   (FitE (eV y) ∧
                   p (V.d (D.lit (Value.int IntKind.i64 (textE (eV y)))))) else
                   p (V.d (D.lit (Value.int IntKind.i64 0))))))))))) else
              ((1 = 1 ∧ ∀ (y_1 : D), y_1 ∈ seqD (cellOf y 7) → FitN y_1) ∧
              (bif namesE (seqD (cellOf y 7)) (intOf (cellOf y 0) == 4) != 0 then
               p (V.d (D.lit (Value.int IntKind.i64 (namesE (seqD (cellOf y 7)) (intOf (cellOf y 0) == 4))))) else
               (bif bif decide (intOf (cellOf y 9) < 0) then true else decide (intOf (cellOf y 9) > 2) then
                p (V.d (D.lit (Value.int IntKind.i64 8))) else
                ((4 = 4 ∧ ∀ (y_1 : D), y_1 ∈ seqD (cellOf y 10) → FitG y_1) ∧
                (bif stagesE (seqD (cellOf y 10)) != 0 then
                 p (V.d (D.lit (Value.int IntKind.i64 (stagesE (seqD (cellOf y 10)))))) else
                 (bif textB false (intOf (D.lit (Value.int IntKind.i64 (intOf (cellOf y 0)))))
  (intOf (D.lit (Value.int IntKind.i64 (intOf (cellOf y 1))))) then
                  (FitE (eV y) ∧
                  p (V.d (D.lit (Value.int IntKind.i64 (textE (eV y)))))) else
                  p (V.d (D.lit (Value.int IntKind.i64 0))))))))))))))))) else
          (bif intOf (cellOf y 0) == 9 then
           (FitE (eV y) ∧
           (FitE (eV y) ∧
           (True ∧
           (bif bif
    !(butB (presB (eV y) 0) false == false &&
        (butB (presB (eV y) 1) false == false &&
          (butB (presB (eV y) 2)
                (numB false (intOf (D.lit (Value.int IntKind.i64 (intOf (cellOf y 0)))))
                  (intOf (D.lit (Value.int IntKind.i64 (intOf (cellOf y 1)))))) ==
              false &&
            (butB (presB (eV y) 3)
                  (textB false (intOf (D.lit (Value.int IntKind.i64 (intOf (cellOf y 0)))))
                    (intOf (D.lit (Value.int IntKind.i64 (intOf (cellOf y 1)))))) ==
                false &&
              (butB (presB (eV y) 4) false == false &&
                (butB (presB (eV y) 5) true == false &&
                  (butB (presB (eV y) 6) false == false &&
                    (butB (presB (eV y) 7) true == false &&
                      (butB (presB (eV y) 8) false == false &&
                        (butB (presB (eV y) 9) false == false && true)))))))))) then
  true
else (↑(seqD (cellOf y 15)).length : Int) != 0 then
            p (V.d (D.lit (Value.int IntKind.i64 1))) else
            (bif bif true then
  bif
      bif bif decide (intOf (cellOf y 3) < 1) then true else decide (intOf (cellOf y 3) > 1099511627776) then true
      else decide (intOf (cellOf y 4) < 0) then
    true
  else decide (intOf (cellOf y 4) > 1099511627776)
else false then
             p (V.d (D.lit (Value.int IntKind.i64 2))) else
             (bif numB false (intOf (D.lit (Value.int IntKind.i64 (intOf (cellOf y 0)))))
  (intOf (D.lit (Value.int IntKind.i64 (intOf (cellOf y 1))))) then
              (FitE (eV y) ∧
              (bif numberE (eV y) != 0 then
               p (V.d (D.lit (Value.int IntKind.i64 (numberE (eV y))))) else
               ((1 = 1 ∧ ∀ (y_1 : D), y_1 ∈ seqD (cellOf y 7) → FitN y_1) ∧
               (bif namesE (seqD (cellOf y 7)) (intOf (cellOf y 0) == 4) != 0 then
                p (V.d (D.lit (Value.int IntKind.i64 (namesE (seqD (cellOf y 7)) (intOf (cellOf y 0) == 4))))) else
                (bif bif decide (intOf (cellOf y 9) < 0) then true else decide (intOf (cellOf y 9) > 2) then
                 p (V.d (D.lit (Value.int IntKind.i64 8))) else
                 ((4 = 4 ∧ ∀ (y_1 : D), y_1 ∈ seqD (cellOf y 10) → FitG y_1) ∧
                 (bif stagesE (seqD (cellOf y 10)) != 0 then
                  p (V.d (D.lit (Value.int IntKind.i64 (stagesE (seqD (cellOf y 10)))))) else
                  (FitP (paV y) ∧
                  (bif patCheckE (paV y) != 0 then
                   p (V.d (D.lit (Value.int IntKind.i64 (patCheckE (paV y))))) else
                   (bif textB false (intOf (D.lit (Value.int IntKind.i64 (intOf (cellOf y 0)))))
  (intOf (D.lit (Value.int IntKind.i64 (intOf (cellOf y 1))))) then
                    (FitE (eV y) ∧
                    p (V.d (D.lit (Value.int IntKind.i64 (textE (eV y)))))) else
                    p (V.d (D.lit (Value.int IntKind.i64 0))))))))))))) else
              ((1 = 1 ∧ ∀ (y_1 : D), y_1 ∈ seqD (cellOf y 7) → FitN y_1) ∧
              (bif namesE (seqD (cellOf y 7)) (intOf (cellOf y 0) == 4) != 0 then
               p (V.d (D.lit (Value.int IntKind.i64 (namesE (seqD (cellOf y 7)) (intOf (cellOf y 0) == 4))))) else
               (bif bif decide (intOf (cellOf y 9) < 0) then true else decide (intOf (cellOf y 9) > 2) then
                p (V.d (D.lit (Value.int IntKind.i64 8))) else
                ((4 = 4 ∧ ∀ (y_1 : D), y_1 ∈ seqD (cellOf y 10) → FitG y_1) ∧
                (bif stagesE (seqD (cellOf y 10)) != 0 then
                 p (V.d (D.lit (Value.int IntKind.i64 (stagesE (seqD (cellOf y 10)))))) else
                 (FitP (paV y) ∧
                 (bif patCheckE (paV y) != 0 then
                  p (V.d (D.lit (Value.int IntKind.i64 (patCheckE (paV y))))) else
                  (bif textB false (intOf (D.lit (Value.int IntKind.i64 (intOf (cellOf y 0)))))
  (intOf (D.lit (Value.int IntKind.i64 (intOf (cellOf y 1))))) then
                   (FitE (eV y) ∧
                   p (V.d (D.lit (Value.int IntKind.i64 (textE (eV y)))))) else
                   p (V.d (D.lit (Value.int IntKind.i64 0))))))))))))))))) else
           (bif intOf (cellOf y 0) == 10 then
            (FitE (eV y) ∧
            (FitE (eV y) ∧
            (True ∧
            (bif bif
    !(butB (presB (eV y) 0) false == false &&
        (butB (presB (eV y) 1) false == false &&
          (butB (presB (eV y) 2)
                (numB false (intOf (D.lit (Value.int IntKind.i64 (intOf (cellOf y 0)))))
                  (intOf (D.lit (Value.int IntKind.i64 (intOf (cellOf y 1)))))) ==
              false &&
            (butB (presB (eV y) 3)
                  (textB false (intOf (D.lit (Value.int IntKind.i64 (intOf (cellOf y 0)))))
                    (intOf (D.lit (Value.int IntKind.i64 (intOf (cellOf y 1)))))) ==
                false &&
              (butB (presB (eV y) 4) true == false &&
                (butB (presB (eV y) 5) false == false &&
                  (butB (presB (eV y) 6) false == false &&
                    (butB (presB (eV y) 7) true == false &&
                      (butB (presB (eV y) 8) false == false &&
                        (butB (presB (eV y) 9) false == false && true)))))))))) then
  true
else (↑(seqD (cellOf y 15)).length : Int) != 0 then
             p (V.d (D.lit (Value.int IntKind.i64 1))) else
             ((3 = 3 ∧ ∀ (y_1 : D), y_1 ∈ seqD (cellOf y 2) → FitM y_1) ∧
             (bif matchersE (seqD (cellOf y 2)) != 0 then
              p (V.d (D.lit (Value.int IntKind.i64 (matchersE (seqD (cellOf y 2)))))) else
              (bif bif true then
  bif
      bif bif decide (intOf (cellOf y 3) < 1) then true else decide (intOf (cellOf y 3) > 1099511627776) then true
      else decide (intOf (cellOf y 4) < 0) then
    true
  else decide (intOf (cellOf y 4) > 1099511627776)
else false then
               p (V.d (D.lit (Value.int IntKind.i64 2))) else
               (bif numB false (intOf (D.lit (Value.int IntKind.i64 (intOf (cellOf y 0)))))
  (intOf (D.lit (Value.int IntKind.i64 (intOf (cellOf y 1))))) then
                (FitE (eV y) ∧
                (bif numberE (eV y) != 0 then
                 p (V.d (D.lit (Value.int IntKind.i64 (numberE (eV y))))) else
                 ((1 = 1 ∧ ∀ (y_1 : D), y_1 ∈ seqD (cellOf y 7) → FitN y_1) ∧
                 (bif namesE (seqD (cellOf y 7)) (intOf (cellOf y 0) == 4) != 0 then
                  p (V.d (D.lit (Value.int IntKind.i64 (namesE (seqD (cellOf y 7)) (intOf (cellOf y 0) == 4))))) else
                  (bif bif decide (intOf (cellOf y 9) < 0) then true else decide (intOf (cellOf y 9) > 2) then
                   p (V.d (D.lit (Value.int IntKind.i64 8))) else
                   ((4 = 4 ∧ ∀ (y_1 : D), y_1 ∈ seqD (cellOf y 10) → FitG y_1) ∧
                   (bif stagesE (seqD (cellOf y 10)) != 0 then
                    p (V.d (D.lit (Value.int IntKind.i64 (stagesE (seqD (cellOf y 10)))))) else
                    (bif textB false (intOf (D.lit (Value.int IntKind.i64 (intOf (cellOf y 0)))))
  (intOf (D.lit (Value.int IntKind.i64 (intOf (cellOf y 1))))) then
                     (FitE (eV y) ∧
                     p (V.d (D.lit (Value.int IntKind.i64 (textE (eV y)))))) else
                     p (V.d (D.lit (Value.int IntKind.i64 0))))))))))) else
                ((1 = 1 ∧ ∀ (y_1 : D), y_1 ∈ seqD (cellOf y 7) → FitN y_1) ∧
                (bif namesE (seqD (cellOf y 7)) (intOf (cellOf y 0) == 4) != 0 then
                 p (V.d (D.lit (Value.int IntKind.i64 (namesE (seqD (cellOf y 7)) (intOf (cellOf y 0) == 4))))) else
                 (bif bif decide (intOf (cellOf y 9) < 0) then true else decide (intOf (cellOf y 9) > 2) then
                  p (V.d (D.lit (Value.int IntKind.i64 8))) else
                  ((4 = 4 ∧ ∀ (y_1 : D), y_1 ∈ seqD (cellOf y 10) → FitG y_1) ∧
                  (bif stagesE (seqD (cellOf y 10)) != 0 then
                   p (V.d (D.lit (Value.int IntKind.i64 (stagesE (seqD (cellOf y 10)))))) else
                   (bif textB false (intOf (D.lit (Value.int IntKind.i64 (intOf (cellOf y 0)))))
  (intOf (D.lit (Value.int IntKind.i64 (intOf (cellOf y 1))))) then
                    (FitE (eV y) ∧
                    p (V.d (D.lit (Value.int IntKind.i64 (textE (eV y)))))) else
                    p (V.d (D.lit (Value.int IntKind.i64 0))))))))))))))))) else
            (bif intOf (cellOf y 0) == 11 then
             (FitE (eV y) ∧
             (FitE (eV y) ∧
             (True ∧
             (bif bif
    !(butB (presB (eV y) 0) false == false &&
        (butB (presB (eV y) 1) false == false &&
          (butB (presB (eV y) 2)
                (numB false (intOf (D.lit (Value.int IntKind.i64 (intOf (cellOf y 0)))))
                  (intOf (D.lit (Value.int IntKind.i64 (intOf (cellOf y 1)))))) ==
              false &&
            (butB (presB (eV y) 3)
                  (textB false (intOf (D.lit (Value.int IntKind.i64 (intOf (cellOf y 0)))))
                    (intOf (D.lit (Value.int IntKind.i64 (intOf (cellOf y 1)))))) ==
                false &&
              (butB (presB (eV y) 4) true == false &&
                (butB (presB (eV y) 5) false == false &&
                  (butB (presB (eV y) 6) false == false &&
                    (butB (presB (eV y) 7) true == false &&
                      (butB (presB (eV y) 8) false == false &&
                        (butB (presB (eV y) 9) false == false && true)))))))))) then
  true
else (↑(seqD (cellOf y 15)).length : Int) != 0 then
              p (V.d (D.lit (Value.int IntKind.i64 1))) else
              ((3 = 3 ∧ ∀ (y_1 : D), y_1 ∈ seqD (cellOf y 2) → FitM y_1) ∧
              (bif matchersE (seqD (cellOf y 2)) != 0 then
               p (V.d (D.lit (Value.int IntKind.i64 (matchersE (seqD (cellOf y 2)))))) else
               (bif bif true then
  bif
      bif bif decide (intOf (cellOf y 3) < 1) then true else decide (intOf (cellOf y 3) > 1099511627776) then true
      else decide (intOf (cellOf y 4) < 0) then
    true
  else decide (intOf (cellOf y 4) > 1099511627776)
else false then
                p (V.d (D.lit (Value.int IntKind.i64 2))) else
                (bif numB false (intOf (D.lit (Value.int IntKind.i64 (intOf (cellOf y 0)))))
  (intOf (D.lit (Value.int IntKind.i64 (intOf (cellOf y 1))))) then
                 (FitE (eV y) ∧
                 (bif numberE (eV y) != 0 then
                  p (V.d (D.lit (Value.int IntKind.i64 (numberE (eV y))))) else
                  ((1 = 1 ∧ ∀ (y_1 : D), y_1 ∈ seqD (cellOf y 7) → FitN y_1) ∧
                  (bif namesE (seqD (cellOf y 7)) (intOf (cellOf y 0) == 4) != 0 then
                   p (V.d (D.lit (Value.int IntKind.i64 (namesE (seqD (cellOf y 7)) (intOf (cellOf y 0) == 4))))) else
                   (bif bif decide (intOf (cellOf y 9) < 0) then true else decide (intOf (cellOf y 9) > 2) then
                    p (V.d (D.lit (Value.int IntKind.i64 8))) else
                    ((4 = 4 ∧ ∀ (y_1 : D), y_1 ∈ seqD (cellOf y 10) → FitG y_1) ∧
                    (bif stagesE (seqD (cellOf y 10)) != 0 then
                     p (V.d (D.lit (Value.int IntKind.i64 (stagesE (seqD (cellOf y 10)))))) else
                     (bif textB false (intOf (D.lit (Value.int IntKind.i64 (intOf (cellOf y 0)))))
  (intOf (D.lit (Value.int IntKind.i64 (intOf (cellOf y 1))))) then
                      (FitE (eV y) ∧
                      p (V.d (D.lit (Value.int IntKind.i64 (textE (eV y)))))) else
                      p (V.d (D.lit (Value.int IntKind.i64 0))))))))))) else
                 ((1 = 1 ∧ ∀ (y_1 : D), y_1 ∈ seqD (cellOf y 7) → FitN y_1) ∧
                 (bif namesE (seqD (cellOf y 7)) (intOf (cellOf y 0) == 4) != 0 then
                  p (V.d (D.lit (Value.int IntKind.i64 (namesE (seqD (cellOf y 7)) (intOf (cellOf y 0) == 4))))) else
                  (bif bif decide (intOf (cellOf y 9) < 0) then true else decide (intOf (cellOf y 9) > 2) then
                   p (V.d (D.lit (Value.int IntKind.i64 8))) else
                   ((4 = 4 ∧ ∀ (y_1 : D), y_1 ∈ seqD (cellOf y 10) → FitG y_1) ∧
                   (bif stagesE (seqD (cellOf y 10)) != 0 then
                    p (V.d (D.lit (Value.int IntKind.i64 (stagesE (seqD (cellOf y 10)))))) else
                    (bif textB false (intOf (D.lit (Value.int IntKind.i64 (intOf (cellOf y 0)))))
  (intOf (D.lit (Value.int IntKind.i64 (intOf (cellOf y 1))))) then
                     (FitE (eV y) ∧
                     p (V.d (D.lit (Value.int IntKind.i64 (textE (eV y)))))) else
                     p (V.d (D.lit (Value.int IntKind.i64 0))))))))))))))))) else
             (bif intOf (cellOf y 0) == 12 then
              (FitE (eV y) ∧
              (FitE (eV y) ∧
              (True ∧
              (bif bif
    !(butB (presB (eV y) 0) false == false &&
        (butB (presB (eV y) 1) false == false &&
          (butB (presB (eV y) 2)
                (numB false (intOf (D.lit (Value.int IntKind.i64 (intOf (cellOf y 0)))))
                  (intOf (D.lit (Value.int IntKind.i64 (intOf (cellOf y 1)))))) ==
              false &&
            (butB (presB (eV y) 3)
                  (textB false (intOf (D.lit (Value.int IntKind.i64 (intOf (cellOf y 0)))))
                    (intOf (D.lit (Value.int IntKind.i64 (intOf (cellOf y 1)))))) ==
                false &&
              (butB (presB (eV y) 4) true == false &&
                (butB (presB (eV y) 5) false == false &&
                  (butB (presB (eV y) 6) true == false &&
                    (butB (presB (eV y) 7) true == false &&
                      (butB (presB (eV y) 8) false == false &&
                        (butB (presB (eV y) 9) false == false && true)))))))))) then
  true
else (↑(seqD (cellOf y 15)).length : Int) != 1 then
               p (V.d (D.lit (Value.int IntKind.i64 1))) else
               ((3 = 3 ∧ ∀ (y_1 : D), y_1 ∈ seqD (cellOf y 2) → FitM y_1) ∧
               (bif matchersE (seqD (cellOf y 2)) != 0 then
                p (V.d (D.lit (Value.int IntKind.i64 (matchersE (seqD (cellOf y 2)))))) else
                (bif bif true then
  bif
      bif bif decide (intOf (cellOf y 3) < 1) then true else decide (intOf (cellOf y 3) > 1099511627776) then true
      else decide (intOf (cellOf y 4) < 0) then
    true
  else decide (intOf (cellOf y 4) > 1099511627776)
else false then
                 p (V.d (D.lit (Value.int IntKind.i64 2))) else
                 (bif numB false (intOf (D.lit (Value.int IntKind.i64 (intOf (cellOf y 0)))))
  (intOf (D.lit (Value.int IntKind.i64 (intOf (cellOf y 1))))) then
                  (FitE (eV y) ∧
                  (bif numberE (eV y) != 0 then
                   p (V.d (D.lit (Value.int IntKind.i64 (numberE (eV y))))) else
                   ((1 = 1 ∧ ∀ (y_1 : D), y_1 ∈ seqD (cellOf y 7) → FitN y_1) ∧
                   (bif namesE (seqD (cellOf y 7)) (intOf (cellOf y 0) == 4) != 0 then
                    p (V.d (D.lit (Value.int IntKind.i64 (namesE (seqD (cellOf y 7)) (intOf (cellOf y 0) == 4))))) else
                    (bif bif decide (intOf (cellOf y 9) < 0) then true else decide (intOf (cellOf y 9) > 2) then
                     p (V.d (D.lit (Value.int IntKind.i64 8))) else
                     ((4 = 4 ∧ ∀ (y_1 : D), y_1 ∈ seqD (cellOf y 10) → FitG y_1) ∧
                     (bif stagesE (seqD (cellOf y 10)) != 0 then
                      p (V.d (D.lit (Value.int IntKind.i64 (stagesE (seqD (cellOf y 10)))))) else
                      (bif textB false (intOf (D.lit (Value.int IntKind.i64 (intOf (cellOf y 0)))))
  (intOf (D.lit (Value.int IntKind.i64 (intOf (cellOf y 1))))) then
                       (FitE (eV y) ∧
                       p (V.d (D.lit (Value.int IntKind.i64 (textE (eV y)))))) else
                       p (V.d (D.lit (Value.int IntKind.i64 0))))))))))) else
                  ((1 = 1 ∧ ∀ (y_1 : D), y_1 ∈ seqD (cellOf y 7) → FitN y_1) ∧
                  (bif namesE (seqD (cellOf y 7)) (intOf (cellOf y 0) == 4) != 0 then
                   p (V.d (D.lit (Value.int IntKind.i64 (namesE (seqD (cellOf y 7)) (intOf (cellOf y 0) == 4))))) else
                   (bif bif decide (intOf (cellOf y 9) < 0) then true else decide (intOf (cellOf y 9) > 2) then
                    p (V.d (D.lit (Value.int IntKind.i64 8))) else
                    ((4 = 4 ∧ ∀ (y_1 : D), y_1 ∈ seqD (cellOf y 10) → FitG y_1) ∧
                    (bif stagesE (seqD (cellOf y 10)) != 0 then
                     p (V.d (D.lit (Value.int IntKind.i64 (stagesE (seqD (cellOf y 10)))))) else
                     (bif textB false (intOf (D.lit (Value.int IntKind.i64 (intOf (cellOf y 0)))))
  (intOf (D.lit (Value.int IntKind.i64 (intOf (cellOf y 1))))) then
                      (FitE (eV y) ∧
                      p (V.d (D.lit (Value.int IntKind.i64 (textE (eV y)))))) else
                      p (V.d (D.lit (Value.int IntKind.i64 0))))))))))))))))) else
              (bif intOf (cellOf y 0) == 13 then
               (FitE (eV y) ∧
               (FitE (eV y) ∧
               (True ∧
               (bif bif
    !(butB (presB (eV y) 0) false == false &&
        (butB (presB (eV y) 1) false == false &&
          (butB (presB (eV y) 2)
                (numB false (intOf (D.lit (Value.int IntKind.i64 (intOf (cellOf y 0)))))
                  (intOf (D.lit (Value.int IntKind.i64 (intOf (cellOf y 1)))))) ==
              false &&
            (butB (presB (eV y) 3)
                  (textB true (intOf (D.lit (Value.int IntKind.i64 (intOf (cellOf y 0)))))
                    (intOf (D.lit (Value.int IntKind.i64 (intOf (cellOf y 1)))))) ==
                false &&
              (butB (presB (eV y) 4) false == false &&
                (butB (presB (eV y) 5) false == false &&
                  (butB (presB (eV y) 6) false == false &&
                    (butB (presB (eV y) 7) false == false &&
                      (butB (presB (eV y) 8) false == false &&
                        (butB (presB (eV y) 9) false == false && true)))))))))) then
  true
else (↑(seqD (cellOf y 15)).length : Int) != 0 then
                p (V.d (D.lit (Value.int IntKind.i64 1))) else
                (bif numB false (intOf (D.lit (Value.int IntKind.i64 (intOf (cellOf y 0)))))
  (intOf (D.lit (Value.int IntKind.i64 (intOf (cellOf y 1))))) then
                 (FitE (eV y) ∧
                 (bif numberE (eV y) != 0 then
                  p (V.d (D.lit (Value.int IntKind.i64 (numberE (eV y))))) else
                  ((1 = 1 ∧ ∀ (y_1 : D), y_1 ∈ seqD (cellOf y 7) → FitN y_1) ∧
                  (bif namesE (seqD (cellOf y 7)) (intOf (cellOf y 0) == 4) != 0 then
                   p (V.d (D.lit (Value.int IntKind.i64 (namesE (seqD (cellOf y 7)) (intOf (cellOf y 0) == 4))))) else
                   (bif bif decide (intOf (cellOf y 9) < 0) then true else decide (intOf (cellOf y 9) > 2) then
                    p (V.d (D.lit (Value.int IntKind.i64 8))) else
                    ((4 = 4 ∧ ∀ (y_1 : D), y_1 ∈ seqD (cellOf y 10) → FitG y_1) ∧
                    (bif stagesE (seqD (cellOf y 10)) != 0 then
                     p (V.d (D.lit (Value.int IntKind.i64 (stagesE (seqD (cellOf y 10)))))) else
                     (bif textB true (intOf (D.lit (Value.int IntKind.i64 (intOf (cellOf y 0)))))
  (intOf (D.lit (Value.int IntKind.i64 (intOf (cellOf y 1))))) then
                      (FitE (eV y) ∧
                      p (V.d (D.lit (Value.int IntKind.i64 (textE (eV y)))))) else
                      p (V.d (D.lit (Value.int IntKind.i64 0))))))))))) else
                 ((1 = 1 ∧ ∀ (y_1 : D), y_1 ∈ seqD (cellOf y 7) → FitN y_1) ∧
                 (bif namesE (seqD (cellOf y 7)) (intOf (cellOf y 0) == 4) != 0 then
                  p (V.d (D.lit (Value.int IntKind.i64 (namesE (seqD (cellOf y 7)) (intOf (cellOf y 0) == 4))))) else
                  (bif bif decide (intOf (cellOf y 9) < 0) then true else decide (intOf (cellOf y 9) > 2) then
                   p (V.d (D.lit (Value.int IntKind.i64 8))) else
                   ((4 = 4 ∧ ∀ (y_1 : D), y_1 ∈ seqD (cellOf y 10) → FitG y_1) ∧
                   (bif stagesE (seqD (cellOf y 10)) != 0 then
                    p (V.d (D.lit (Value.int IntKind.i64 (stagesE (seqD (cellOf y 10)))))) else
                    (bif textB true (intOf (D.lit (Value.int IntKind.i64 (intOf (cellOf y 0)))))
  (intOf (D.lit (Value.int IntKind.i64 (intOf (cellOf y 1))))) then
                     (FitE (eV y) ∧
                     p (V.d (D.lit (Value.int IntKind.i64 (textE (eV y)))))) else
                     p (V.d (D.lit (Value.int IntKind.i64 0)))))))))))))) else
               p (V.d (D.lit (Value.int IntKind.i64 8)))))))))))))))) := by kernel_rfl
noncomputable def exprE (y : D) : Int :=
  (bif intOf (cellOf y 0) == 1 then
 (bif bif
    !(butB (presB (eV y) 0) false == false &&
        (butB (presB (eV y) 1) false == false &&
          (butB (presB (eV y) 2)
                (numB true (intOf (D.lit (Value.int IntKind.i64 (intOf (cellOf y 0)))))
                  (intOf (D.lit (Value.int IntKind.i64 (intOf (cellOf y 1)))))) ==
              false &&
            (butB (presB (eV y) 3)
                  (textB false (intOf (D.lit (Value.int IntKind.i64 (intOf (cellOf y 0)))))
                    (intOf (D.lit (Value.int IntKind.i64 (intOf (cellOf y 1)))))) ==
                false &&
              (butB (presB (eV y) 4) false == false &&
                (butB (presB (eV y) 5) false == false &&
                  (butB (presB (eV y) 6) false == false &&
                    (butB (presB (eV y) 7) false == false &&
                      (butB (presB (eV y) 8) false == false &&
                        (butB (presB (eV y) 9) false == false && true)))))))))) then
  true
else (↑(seqD (cellOf y 15)).length : Int) != 0 then
 1 else
 (bif numB true (intOf (D.lit (Value.int IntKind.i64 (intOf (cellOf y 0)))))
  (intOf (D.lit (Value.int IntKind.i64 (intOf (cellOf y 1))))) then
 (bif numberE (eV y) != 0 then
 (numberE (eV y)) else
 (bif namesE (seqD (cellOf y 7)) (intOf (cellOf y 0) == 4) != 0 then
 (namesE (seqD (cellOf y 7)) (intOf (cellOf y 0) == 4)) else
 (bif bif decide (intOf (cellOf y 9) < 0) then true else decide (intOf (cellOf y 9) > 2) then
 8 else
 (bif stagesE (seqD (cellOf y 10)) != 0 then
 (stagesE (seqD (cellOf y 10))) else
 (bif textB false (intOf (D.lit (Value.int IntKind.i64 (intOf (cellOf y 0)))))
  (intOf (D.lit (Value.int IntKind.i64 (intOf (cellOf y 1))))) then
 (textE (eV y)) else
 0))))) else
 (bif namesE (seqD (cellOf y 7)) (intOf (cellOf y 0) == 4) != 0 then
 (namesE (seqD (cellOf y 7)) (intOf (cellOf y 0) == 4)) else
 (bif bif decide (intOf (cellOf y 9) < 0) then true else decide (intOf (cellOf y 9) > 2) then
 8 else
 (bif stagesE (seqD (cellOf y 10)) != 0 then
 (stagesE (seqD (cellOf y 10))) else
 (bif textB false (intOf (D.lit (Value.int IntKind.i64 (intOf (cellOf y 0)))))
  (intOf (D.lit (Value.int IntKind.i64 (intOf (cellOf y 1))))) then
 (textE (eV y)) else
 0)))))) else
 (bif intOf (cellOf y 0) == 2 then
 (bif bif true then bif decide (intOf (cellOf y 1) < 1) then true else decide (intOf (cellOf y 1) > (↑11 : Int)) else false then
 8 else
 (bif bif
    !(butB (presB (eV y) 0) true == false &&
        (butB (presB (eV y) 1) false == false &&
          (butB (presB (eV y) 2)
                (numB false (intOf (D.lit (Value.int IntKind.i64 (intOf (cellOf y 0)))))
                  (intOf (D.lit (Value.int IntKind.i64 (intOf (cellOf y 1)))))) ==
              false &&
            (butB (presB (eV y) 3)
                  (textB false (intOf (D.lit (Value.int IntKind.i64 (intOf (cellOf y 0)))))
                    (intOf (D.lit (Value.int IntKind.i64 (intOf (cellOf y 1)))))) ==
                false &&
              (butB (presB (eV y) 4) true == false &&
                (butB (presB (eV y) 5) false == false &&
                  (butB (presB (eV y) 6) false == false &&
                    (butB (presB (eV y) 7) true == false &&
                      (butB (presB (eV y) 8) false == false &&
                        (butB (presB (eV y) 9) false == false && true)))))))))) then
  true
else (↑(seqD (cellOf y 15)).length : Int) != 0 then
 1 else
 (bif matchersE (seqD (cellOf y 2)) != 0 then
 (matchersE (seqD (cellOf y 2))) else
 (bif bif true then
  bif
      bif bif decide (intOf (cellOf y 3) < 1) then true else decide (intOf (cellOf y 3) > 1099511627776) then true
      else decide (intOf (cellOf y 4) < 0) then
    true
  else decide (intOf (cellOf y 4) > 1099511627776)
else false then
 2 else
 (bif numB false (intOf (D.lit (Value.int IntKind.i64 (intOf (cellOf y 0)))))
  (intOf (D.lit (Value.int IntKind.i64 (intOf (cellOf y 1))))) then
 (bif numberE (eV y) != 0 then
 (numberE (eV y)) else
 (bif namesE (seqD (cellOf y 7)) (intOf (cellOf y 0) == 4) != 0 then
 (namesE (seqD (cellOf y 7)) (intOf (cellOf y 0) == 4)) else
 (bif bif decide (intOf (cellOf y 9) < 0) then true else decide (intOf (cellOf y 9) > 2) then
 8 else
 (bif stagesE (seqD (cellOf y 10)) != 0 then
 (stagesE (seqD (cellOf y 10))) else
 (bif textB false (intOf (D.lit (Value.int IntKind.i64 (intOf (cellOf y 0)))))
  (intOf (D.lit (Value.int IntKind.i64 (intOf (cellOf y 1))))) then
 (textE (eV y)) else
 0))))) else
 (bif namesE (seqD (cellOf y 7)) (intOf (cellOf y 0) == 4) != 0 then
 (namesE (seqD (cellOf y 7)) (intOf (cellOf y 0) == 4)) else
 (bif bif decide (intOf (cellOf y 9) < 0) then true else decide (intOf (cellOf y 9) > 2) then
 8 else
 (bif stagesE (seqD (cellOf y 10)) != 0 then
 (stagesE (seqD (cellOf y 10))) else
 (bif textB false (intOf (D.lit (Value.int IntKind.i64 (intOf (cellOf y 0)))))
  (intOf (D.lit (Value.int IntKind.i64 (intOf (cellOf y 1))))) then
 (textE (eV y)) else
 0))))))))) else
 (bif intOf (cellOf y 0) == 3 then
 (bif bif true then bif decide (intOf (cellOf y 1) < 1) then true else decide (intOf (cellOf y 1) > (↑3 : Int)) else false then
 8 else
 (bif bif
    !(butB (presB (eV y) 0) true == false &&
        (butB (presB (eV y) 1) false == false &&
          (butB (presB (eV y) 2)
                (numB false (intOf (D.lit (Value.int IntKind.i64 (intOf (cellOf y 0)))))
                  (intOf (D.lit (Value.int IntKind.i64 (intOf (cellOf y 1)))))) ==
              false &&
            (butB (presB (eV y) 3)
                  (textB false (intOf (D.lit (Value.int IntKind.i64 (intOf (cellOf y 0)))))
                    (intOf (D.lit (Value.int IntKind.i64 (intOf (cellOf y 1)))))) ==
                false &&
              (butB (presB (eV y) 4) true == false &&
                (butB (presB (eV y) 5) false == false &&
                  (butB (presB (eV y) 6) true == false &&
                    (butB (presB (eV y) 7) true == false &&
                      (butB (presB (eV y) 8) true == false &&
                        (butB (presB (eV y) 9) true == false && true)))))))))) then
  true
else (↑(seqD (cellOf y 15)).length : Int) != 0 then
 1 else
 (bif matchersE (seqD (cellOf y 2)) != 0 then
 (matchersE (seqD (cellOf y 2))) else
 (bif bif true then
  bif
      bif bif decide (intOf (cellOf y 3) < 1) then true else decide (intOf (cellOf y 3) > 1099511627776) then true
      else decide (intOf (cellOf y 4) < 0) then
    true
  else decide (intOf (cellOf y 4) > 1099511627776)
else false then
 2 else
 (bif numB false (intOf (D.lit (Value.int IntKind.i64 (intOf (cellOf y 0)))))
  (intOf (D.lit (Value.int IntKind.i64 (intOf (cellOf y 1))))) then
 (bif numberE (eV y) != 0 then
 (numberE (eV y)) else
 (bif namesE (seqD (cellOf y 7)) (intOf (cellOf y 0) == 4) != 0 then
 (namesE (seqD (cellOf y 7)) (intOf (cellOf y 0) == 4)) else
 (bif bif decide (intOf (cellOf y 9) < 0) then true else decide (intOf (cellOf y 9) > 2) then
 8 else
 (bif stagesE (seqD (cellOf y 10)) != 0 then
 (stagesE (seqD (cellOf y 10))) else
 (bif textB false (intOf (D.lit (Value.int IntKind.i64 (intOf (cellOf y 0)))))
  (intOf (D.lit (Value.int IntKind.i64 (intOf (cellOf y 1))))) then
 (textE (eV y)) else
 0))))) else
 (bif namesE (seqD (cellOf y 7)) (intOf (cellOf y 0) == 4) != 0 then
 (namesE (seqD (cellOf y 7)) (intOf (cellOf y 0) == 4)) else
 (bif bif decide (intOf (cellOf y 9) < 0) then true else decide (intOf (cellOf y 9) > 2) then
 8 else
 (bif stagesE (seqD (cellOf y 10)) != 0 then
 (stagesE (seqD (cellOf y 10))) else
 (bif textB false (intOf (D.lit (Value.int IntKind.i64 (intOf (cellOf y 0)))))
  (intOf (D.lit (Value.int IntKind.i64 (intOf (cellOf y 1))))) then
 (textE (eV y)) else
 0))))))))) else
 (bif intOf (cellOf y 0) == 4 then
 (bif bif
    !(butB (presB (eV y) 0) false == false &&
        (butB (presB (eV y) 1) false == false &&
          (butB (presB (eV y) 2)
                (numB false (intOf (D.lit (Value.int IntKind.i64 (intOf (cellOf y 0)))))
                  (intOf (D.lit (Value.int IntKind.i64 (intOf (cellOf y 1)))))) ==
              false &&
            (butB (presB (eV y) 3)
                  (textB false (intOf (D.lit (Value.int IntKind.i64 (intOf (cellOf y 0)))))
                    (intOf (D.lit (Value.int IntKind.i64 (intOf (cellOf y 1)))))) ==
                false &&
              (butB (presB (eV y) 4) false == false &&
                (butB (presB (eV y) 5) true == false &&
                  (butB (presB (eV y) 6) false == false &&
                    (butB (presB (eV y) 7) true == false &&
                      (butB (presB (eV y) 8) true == false &&
                        (butB (presB (eV y) 9) false == false && true)))))))))) then
  true
else (↑(seqD (cellOf y 15)).length : Int) != 0 then
 1 else
 (bif bif true then
  bif
      bif bif decide (intOf (cellOf y 3) < 1) then true else decide (intOf (cellOf y 3) > 1099511627776) then true
      else decide (intOf (cellOf y 4) < 0) then
    true
  else decide (intOf (cellOf y 4) > 1099511627776)
else false then
 2 else
 (bif numB false (intOf (D.lit (Value.int IntKind.i64 (intOf (cellOf y 0)))))
  (intOf (D.lit (Value.int IntKind.i64 (intOf (cellOf y 1))))) then
 (bif numberE (eV y) != 0 then
 (numberE (eV y)) else
 (bif namesE (seqD (cellOf y 7)) (intOf (cellOf y 0) == 4) != 0 then
 (namesE (seqD (cellOf y 7)) (intOf (cellOf y 0) == 4)) else
 (bif bif decide (intOf (cellOf y 9) < 0) then true else decide (intOf (cellOf y 9) > 2) then
 8 else
 (bif stagesE (seqD (cellOf y 10)) != 0 then
 (stagesE (seqD (cellOf y 10))) else
 (bif patCheckE (paV y) != 0 then
 (patCheckE (paV y)) else
 (bif textB false (intOf (D.lit (Value.int IntKind.i64 (intOf (cellOf y 0)))))
  (intOf (D.lit (Value.int IntKind.i64 (intOf (cellOf y 1))))) then
 (textE (eV y)) else
 0)))))) else
 (bif namesE (seqD (cellOf y 7)) (intOf (cellOf y 0) == 4) != 0 then
 (namesE (seqD (cellOf y 7)) (intOf (cellOf y 0) == 4)) else
 (bif bif decide (intOf (cellOf y 9) < 0) then true else decide (intOf (cellOf y 9) > 2) then
 8 else
 (bif stagesE (seqD (cellOf y 10)) != 0 then
 (stagesE (seqD (cellOf y 10))) else
 (bif patCheckE (paV y) != 0 then
 (patCheckE (paV y)) else
 (bif textB false (intOf (D.lit (Value.int IntKind.i64 (intOf (cellOf y 0)))))
  (intOf (D.lit (Value.int IntKind.i64 (intOf (cellOf y 1))))) then
 (textE (eV y)) else
 0)))))))) else
 (bif intOf (cellOf y 0) == 5 then
 (bif bif
    !(butB (presB (eV y) 0) false == false &&
        (butB (presB (eV y) 1) false == false &&
          (butB (presB (eV y) 2)
                (numB false (intOf (D.lit (Value.int IntKind.i64 (intOf (cellOf y 0)))))
                  (intOf (D.lit (Value.int IntKind.i64 (intOf (cellOf y 1)))))) ==
              false &&
            (butB (presB (eV y) 3)
                  (textB true (intOf (D.lit (Value.int IntKind.i64 (intOf (cellOf y 0)))))
                    (intOf (D.lit (Value.int IntKind.i64 (intOf (cellOf y 1)))))) ==
                false &&
              (butB (presB (eV y) 4) true == false &&
                (butB (presB (eV y) 5) false == false &&
                  (butB (presB (eV y) 6) false == false &&
                    (butB (presB (eV y) 7) true == false &&
                      (butB (presB (eV y) 8) true == false &&
                        (butB (presB (eV y) 9) true == false && true)))))))))) then
  true
else (↑(seqD (cellOf y 15)).length : Int) != 0 then
 1 else
 (bif matchersE (seqD (cellOf y 2)) != 0 then
 (matchersE (seqD (cellOf y 2))) else
 (bif bif true then
  bif
      bif bif decide (intOf (cellOf y 3) < 1) then true else decide (intOf (cellOf y 3) > 1099511627776) then true
      else decide (intOf (cellOf y 4) < 0) then
    true
  else decide (intOf (cellOf y 4) > 1099511627776)
else false then
 2 else
 (bif numB false (intOf (D.lit (Value.int IntKind.i64 (intOf (cellOf y 0)))))
  (intOf (D.lit (Value.int IntKind.i64 (intOf (cellOf y 1))))) then
 (bif numberE (eV y) != 0 then
 (numberE (eV y)) else
 (bif namesE (seqD (cellOf y 7)) (intOf (cellOf y 0) == 4) != 0 then
 (namesE (seqD (cellOf y 7)) (intOf (cellOf y 0) == 4)) else
 (bif bif decide (intOf (cellOf y 9) < 0) then true else decide (intOf (cellOf y 9) > 2) then
 8 else
 (bif stagesE (seqD (cellOf y 10)) != 0 then
 (stagesE (seqD (cellOf y 10))) else
 (bif textB true (intOf (D.lit (Value.int IntKind.i64 (intOf (cellOf y 0)))))
  (intOf (D.lit (Value.int IntKind.i64 (intOf (cellOf y 1))))) then
 (textE (eV y)) else
 0))))) else
 (bif namesE (seqD (cellOf y 7)) (intOf (cellOf y 0) == 4) != 0 then
 (namesE (seqD (cellOf y 7)) (intOf (cellOf y 0) == 4)) else
 (bif bif decide (intOf (cellOf y 9) < 0) then true else decide (intOf (cellOf y 9) > 2) then
 8 else
 (bif stagesE (seqD (cellOf y 10)) != 0 then
 (stagesE (seqD (cellOf y 10))) else
 (bif textB true (intOf (D.lit (Value.int IntKind.i64 (intOf (cellOf y 0)))))
  (intOf (D.lit (Value.int IntKind.i64 (intOf (cellOf y 1))))) then
 (textE (eV y)) else
 0)))))))) else
 (bif intOf (cellOf y 0) == 6 then
 (bif bif true then bif decide (intOf (cellOf y 1) < 1) then true else decide (intOf (cellOf y 1) > (↑9 : Int)) else false then
 8 else
 (bif bif
    !(butB (presB (eV y) 0) true == false &&
        (butB (presB (eV y) 1) false == false &&
          (butB (presB (eV y) 2)
                (numB false (intOf (D.lit (Value.int IntKind.i64 (intOf (cellOf y 0)))))
                  (intOf (D.lit (Value.int IntKind.i64 (intOf (cellOf y 1)))))) ==
              false &&
            (butB (presB (eV y) 3)
                  (textB false (intOf (D.lit (Value.int IntKind.i64 (intOf (cellOf y 0)))))
                    (intOf (D.lit (Value.int IntKind.i64 (intOf (cellOf y 1)))))) ==
                false &&
              (butB (presB (eV y) 4) false == false &&
                (butB (presB (eV y) 5) false == false &&
                  (butB (presB (eV y) 6) false == false &&
                    (butB (presB (eV y) 7) false == false &&
                      (butB (presB (eV y) 8) true == false &&
                        (butB (presB (eV y) 9) true == false && true)))))))))) then
  true
else (↑(seqD (cellOf y 15)).length : Int) != 1 then
 1 else
 (bif numB false (intOf (D.lit (Value.int IntKind.i64 (intOf (cellOf y 0)))))
  (intOf (D.lit (Value.int IntKind.i64 (intOf (cellOf y 1))))) then
 (bif numberE (eV y) != 0 then
 (numberE (eV y)) else
 (bif namesE (seqD (cellOf y 7)) (intOf (cellOf y 0) == 4) != 0 then
 (namesE (seqD (cellOf y 7)) (intOf (cellOf y 0) == 4)) else
 (bif bif decide (intOf (cellOf y 9) < 0) then true else decide (intOf (cellOf y 9) > 2) then
 8 else
 (bif stagesE (seqD (cellOf y 10)) != 0 then
 (stagesE (seqD (cellOf y 10))) else
 (bif textB false (intOf (D.lit (Value.int IntKind.i64 (intOf (cellOf y 0)))))
  (intOf (D.lit (Value.int IntKind.i64 (intOf (cellOf y 1))))) then
 (textE (eV y)) else
 0))))) else
 (bif namesE (seqD (cellOf y 7)) (intOf (cellOf y 0) == 4) != 0 then
 (namesE (seqD (cellOf y 7)) (intOf (cellOf y 0) == 4)) else
 (bif bif decide (intOf (cellOf y 9) < 0) then true else decide (intOf (cellOf y 9) > 2) then
 8 else
 (bif stagesE (seqD (cellOf y 10)) != 0 then
 (stagesE (seqD (cellOf y 10))) else
 (bif textB false (intOf (D.lit (Value.int IntKind.i64 (intOf (cellOf y 0)))))
  (intOf (D.lit (Value.int IntKind.i64 (intOf (cellOf y 1))))) then
 (textE (eV y)) else
 0))))))) else
 (bif intOf (cellOf y 0) == 7 then
 (bif bif true then bif decide (intOf (cellOf y 1) < 1) then true else decide (intOf (cellOf y 1) > (↑10 : Int)) else false then
 8 else
 (bif bif
    !(butB (presB (eV y) 0) true == false &&
        (butB (presB (eV y) 1) true == false &&
          (butB (presB (eV y) 2)
                (numB false (intOf (D.lit (Value.int IntKind.i64 (intOf (cellOf y 0)))))
                  (intOf (D.lit (Value.int IntKind.i64 (intOf (cellOf y 1)))))) ==
              false &&
            (butB (presB (eV y) 3)
                  (textB false (intOf (D.lit (Value.int IntKind.i64 (intOf (cellOf y 0)))))
                    (intOf (D.lit (Value.int IntKind.i64 (intOf (cellOf y 1)))))) ==
                false &&
              (butB (presB (eV y) 4) false == false &&
                (butB (presB (eV y) 5) false == false &&
                  (butB (presB (eV y) 6) false == false &&
                    (butB (presB (eV y) 7) false == false &&
                      (butB (presB (eV y) 8) true == false &&
                        (butB (presB (eV y) 9) true == false && true)))))))))) then
  true
else (↑(seqD (cellOf y 15)).length : Int) != 2 then
 1 else
 (bif numB false (intOf (D.lit (Value.int IntKind.i64 (intOf (cellOf y 0)))))
  (intOf (D.lit (Value.int IntKind.i64 (intOf (cellOf y 1))))) then
 (bif numberE (eV y) != 0 then
 (numberE (eV y)) else
 (bif namesE (seqD (cellOf y 7)) (intOf (cellOf y 0) == 4) != 0 then
 (namesE (seqD (cellOf y 7)) (intOf (cellOf y 0) == 4)) else
 (bif bif decide (intOf (cellOf y 9) < 0) then true else decide (intOf (cellOf y 9) > 2) then
 8 else
 (bif stagesE (seqD (cellOf y 10)) != 0 then
 (stagesE (seqD (cellOf y 10))) else
 (bif textB false (intOf (D.lit (Value.int IntKind.i64 (intOf (cellOf y 0)))))
  (intOf (D.lit (Value.int IntKind.i64 (intOf (cellOf y 1))))) then
 (textE (eV y)) else
 0))))) else
 (bif namesE (seqD (cellOf y 7)) (intOf (cellOf y 0) == 4) != 0 then
 (namesE (seqD (cellOf y 7)) (intOf (cellOf y 0) == 4)) else
 (bif bif decide (intOf (cellOf y 9) < 0) then true else decide (intOf (cellOf y 9) > 2) then
 8 else
 (bif stagesE (seqD (cellOf y 10)) != 0 then
 (stagesE (seqD (cellOf y 10))) else
 (bif textB false (intOf (D.lit (Value.int IntKind.i64 (intOf (cellOf y 0)))))
  (intOf (D.lit (Value.int IntKind.i64 (intOf (cellOf y 1))))) then
 (textE (eV y)) else
 0))))))) else
 (bif intOf (cellOf y 0) == 8 then
 (bif bif
    !(butB (presB (eV y) 0) false == false &&
        (butB (presB (eV y) 1) false == false &&
          (butB (presB (eV y) 2)
                (numB false (intOf (D.lit (Value.int IntKind.i64 (intOf (cellOf y 0)))))
                  (intOf (D.lit (Value.int IntKind.i64 (intOf (cellOf y 1)))))) ==
              false &&
            (butB (presB (eV y) 3)
                  (textB false (intOf (D.lit (Value.int IntKind.i64 (intOf (cellOf y 0)))))
                    (intOf (D.lit (Value.int IntKind.i64 (intOf (cellOf y 1)))))) ==
                false &&
              (butB (presB (eV y) 4) true == false &&
                (butB (presB (eV y) 5) false == false &&
                  (butB (presB (eV y) 6) true == false &&
                    (butB (presB (eV y) 7) true == false &&
                      (butB (presB (eV y) 8) false == false &&
                        (butB (presB (eV y) 9) false == false && true)))))))))) then
  true
else (↑(seqD (cellOf y 15)).length : Int) != 0 then
 1 else
 (bif matchersE (seqD (cellOf y 2)) != 0 then
 (matchersE (seqD (cellOf y 2))) else
 (bif bif true then
  bif
      bif bif decide (intOf (cellOf y 3) < 1) then true else decide (intOf (cellOf y 3) > 1099511627776) then true
      else decide (intOf (cellOf y 4) < 0) then
    true
  else decide (intOf (cellOf y 4) > 1099511627776)
else false then
 2 else
 (bif numB false (intOf (D.lit (Value.int IntKind.i64 (intOf (cellOf y 0)))))
  (intOf (D.lit (Value.int IntKind.i64 (intOf (cellOf y 1))))) then
 (bif numberE (eV y) != 0 then
 (numberE (eV y)) else
 (bif namesE (seqD (cellOf y 7)) (intOf (cellOf y 0) == 4) != 0 then
 (namesE (seqD (cellOf y 7)) (intOf (cellOf y 0) == 4)) else
 (bif bif decide (intOf (cellOf y 9) < 0) then true else decide (intOf (cellOf y 9) > 2) then
 8 else
 (bif stagesE (seqD (cellOf y 10)) != 0 then
 (stagesE (seqD (cellOf y 10))) else
 (bif textB false (intOf (D.lit (Value.int IntKind.i64 (intOf (cellOf y 0)))))
  (intOf (D.lit (Value.int IntKind.i64 (intOf (cellOf y 1))))) then
 (textE (eV y)) else
 0))))) else
 (bif namesE (seqD (cellOf y 7)) (intOf (cellOf y 0) == 4) != 0 then
 (namesE (seqD (cellOf y 7)) (intOf (cellOf y 0) == 4)) else
 (bif bif decide (intOf (cellOf y 9) < 0) then true else decide (intOf (cellOf y 9) > 2) then
 8 else
 (bif stagesE (seqD (cellOf y 10)) != 0 then
 (stagesE (seqD (cellOf y 10))) else
 (bif textB false (intOf (D.lit (Value.int IntKind.i64 (intOf (cellOf y 0)))))
  (intOf (D.lit (Value.int IntKind.i64 (intOf (cellOf y 1))))) then
 (textE (eV y)) else
 0)))))))) else
 (bif intOf (cellOf y 0) == 9 then
 (bif bif
    !(butB (presB (eV y) 0) false == false &&
        (butB (presB (eV y) 1) false == false &&
          (butB (presB (eV y) 2)
                (numB false (intOf (D.lit (Value.int IntKind.i64 (intOf (cellOf y 0)))))
                  (intOf (D.lit (Value.int IntKind.i64 (intOf (cellOf y 1)))))) ==
              false &&
            (butB (presB (eV y) 3)
                  (textB false (intOf (D.lit (Value.int IntKind.i64 (intOf (cellOf y 0)))))
                    (intOf (D.lit (Value.int IntKind.i64 (intOf (cellOf y 1)))))) ==
                false &&
              (butB (presB (eV y) 4) false == false &&
                (butB (presB (eV y) 5) true == false &&
                  (butB (presB (eV y) 6) false == false &&
                    (butB (presB (eV y) 7) true == false &&
                      (butB (presB (eV y) 8) false == false &&
                        (butB (presB (eV y) 9) false == false && true)))))))))) then
  true
else (↑(seqD (cellOf y 15)).length : Int) != 0 then
 1 else
 (bif bif true then
  bif
      bif bif decide (intOf (cellOf y 3) < 1) then true else decide (intOf (cellOf y 3) > 1099511627776) then true
      else decide (intOf (cellOf y 4) < 0) then
    true
  else decide (intOf (cellOf y 4) > 1099511627776)
else false then
 2 else
 (bif numB false (intOf (D.lit (Value.int IntKind.i64 (intOf (cellOf y 0)))))
  (intOf (D.lit (Value.int IntKind.i64 (intOf (cellOf y 1))))) then
 (bif numberE (eV y) != 0 then
 (numberE (eV y)) else
 (bif namesE (seqD (cellOf y 7)) (intOf (cellOf y 0) == 4) != 0 then
 (namesE (seqD (cellOf y 7)) (intOf (cellOf y 0) == 4)) else
 (bif bif decide (intOf (cellOf y 9) < 0) then true else decide (intOf (cellOf y 9) > 2) then
 8 else
 (bif stagesE (seqD (cellOf y 10)) != 0 then
 (stagesE (seqD (cellOf y 10))) else
 (bif patCheckE (paV y) != 0 then
 (patCheckE (paV y)) else
 (bif textB false (intOf (D.lit (Value.int IntKind.i64 (intOf (cellOf y 0)))))
  (intOf (D.lit (Value.int IntKind.i64 (intOf (cellOf y 1))))) then
 (textE (eV y)) else
 0)))))) else
 (bif namesE (seqD (cellOf y 7)) (intOf (cellOf y 0) == 4) != 0 then
 (namesE (seqD (cellOf y 7)) (intOf (cellOf y 0) == 4)) else
 (bif bif decide (intOf (cellOf y 9) < 0) then true else decide (intOf (cellOf y 9) > 2) then
 8 else
 (bif stagesE (seqD (cellOf y 10)) != 0 then
 (stagesE (seqD (cellOf y 10))) else
 (bif patCheckE (paV y) != 0 then
 (patCheckE (paV y)) else
 (bif textB false (intOf (D.lit (Value.int IntKind.i64 (intOf (cellOf y 0)))))
  (intOf (D.lit (Value.int IntKind.i64 (intOf (cellOf y 1))))) then
 (textE (eV y)) else
 0)))))))) else
 (bif intOf (cellOf y 0) == 10 then
 (bif bif
    !(butB (presB (eV y) 0) false == false &&
        (butB (presB (eV y) 1) false == false &&
          (butB (presB (eV y) 2)
                (numB false (intOf (D.lit (Value.int IntKind.i64 (intOf (cellOf y 0)))))
                  (intOf (D.lit (Value.int IntKind.i64 (intOf (cellOf y 1)))))) ==
              false &&
            (butB (presB (eV y) 3)
                  (textB false (intOf (D.lit (Value.int IntKind.i64 (intOf (cellOf y 0)))))
                    (intOf (D.lit (Value.int IntKind.i64 (intOf (cellOf y 1)))))) ==
                false &&
              (butB (presB (eV y) 4) true == false &&
                (butB (presB (eV y) 5) false == false &&
                  (butB (presB (eV y) 6) false == false &&
                    (butB (presB (eV y) 7) true == false &&
                      (butB (presB (eV y) 8) false == false &&
                        (butB (presB (eV y) 9) false == false && true)))))))))) then
  true
else (↑(seqD (cellOf y 15)).length : Int) != 0 then
 1 else
 (bif matchersE (seqD (cellOf y 2)) != 0 then
 (matchersE (seqD (cellOf y 2))) else
 (bif bif true then
  bif
      bif bif decide (intOf (cellOf y 3) < 1) then true else decide (intOf (cellOf y 3) > 1099511627776) then true
      else decide (intOf (cellOf y 4) < 0) then
    true
  else decide (intOf (cellOf y 4) > 1099511627776)
else false then
 2 else
 (bif numB false (intOf (D.lit (Value.int IntKind.i64 (intOf (cellOf y 0)))))
  (intOf (D.lit (Value.int IntKind.i64 (intOf (cellOf y 1))))) then
 (bif numberE (eV y) != 0 then
 (numberE (eV y)) else
 (bif namesE (seqD (cellOf y 7)) (intOf (cellOf y 0) == 4) != 0 then
 (namesE (seqD (cellOf y 7)) (intOf (cellOf y 0) == 4)) else
 (bif bif decide (intOf (cellOf y 9) < 0) then true else decide (intOf (cellOf y 9) > 2) then
 8 else
 (bif stagesE (seqD (cellOf y 10)) != 0 then
 (stagesE (seqD (cellOf y 10))) else
 (bif textB false (intOf (D.lit (Value.int IntKind.i64 (intOf (cellOf y 0)))))
  (intOf (D.lit (Value.int IntKind.i64 (intOf (cellOf y 1))))) then
 (textE (eV y)) else
 0))))) else
 (bif namesE (seqD (cellOf y 7)) (intOf (cellOf y 0) == 4) != 0 then
 (namesE (seqD (cellOf y 7)) (intOf (cellOf y 0) == 4)) else
 (bif bif decide (intOf (cellOf y 9) < 0) then true else decide (intOf (cellOf y 9) > 2) then
 8 else
 (bif stagesE (seqD (cellOf y 10)) != 0 then
 (stagesE (seqD (cellOf y 10))) else
 (bif textB false (intOf (D.lit (Value.int IntKind.i64 (intOf (cellOf y 0)))))
  (intOf (D.lit (Value.int IntKind.i64 (intOf (cellOf y 1))))) then
 (textE (eV y)) else
 0)))))))) else
 (bif intOf (cellOf y 0) == 11 then
 (bif bif
    !(butB (presB (eV y) 0) false == false &&
        (butB (presB (eV y) 1) false == false &&
          (butB (presB (eV y) 2)
                (numB false (intOf (D.lit (Value.int IntKind.i64 (intOf (cellOf y 0)))))
                  (intOf (D.lit (Value.int IntKind.i64 (intOf (cellOf y 1)))))) ==
              false &&
            (butB (presB (eV y) 3)
                  (textB false (intOf (D.lit (Value.int IntKind.i64 (intOf (cellOf y 0)))))
                    (intOf (D.lit (Value.int IntKind.i64 (intOf (cellOf y 1)))))) ==
                false &&
              (butB (presB (eV y) 4) true == false &&
                (butB (presB (eV y) 5) false == false &&
                  (butB (presB (eV y) 6) false == false &&
                    (butB (presB (eV y) 7) true == false &&
                      (butB (presB (eV y) 8) false == false &&
                        (butB (presB (eV y) 9) false == false && true)))))))))) then
  true
else (↑(seqD (cellOf y 15)).length : Int) != 0 then
 1 else
 (bif matchersE (seqD (cellOf y 2)) != 0 then
 (matchersE (seqD (cellOf y 2))) else
 (bif bif true then
  bif
      bif bif decide (intOf (cellOf y 3) < 1) then true else decide (intOf (cellOf y 3) > 1099511627776) then true
      else decide (intOf (cellOf y 4) < 0) then
    true
  else decide (intOf (cellOf y 4) > 1099511627776)
else false then
 2 else
 (bif numB false (intOf (D.lit (Value.int IntKind.i64 (intOf (cellOf y 0)))))
  (intOf (D.lit (Value.int IntKind.i64 (intOf (cellOf y 1))))) then
 (bif numberE (eV y) != 0 then
 (numberE (eV y)) else
 (bif namesE (seqD (cellOf y 7)) (intOf (cellOf y 0) == 4) != 0 then
 (namesE (seqD (cellOf y 7)) (intOf (cellOf y 0) == 4)) else
 (bif bif decide (intOf (cellOf y 9) < 0) then true else decide (intOf (cellOf y 9) > 2) then
 8 else
 (bif stagesE (seqD (cellOf y 10)) != 0 then
 (stagesE (seqD (cellOf y 10))) else
 (bif textB false (intOf (D.lit (Value.int IntKind.i64 (intOf (cellOf y 0)))))
  (intOf (D.lit (Value.int IntKind.i64 (intOf (cellOf y 1))))) then
 (textE (eV y)) else
 0))))) else
 (bif namesE (seqD (cellOf y 7)) (intOf (cellOf y 0) == 4) != 0 then
 (namesE (seqD (cellOf y 7)) (intOf (cellOf y 0) == 4)) else
 (bif bif decide (intOf (cellOf y 9) < 0) then true else decide (intOf (cellOf y 9) > 2) then
 8 else
 (bif stagesE (seqD (cellOf y 10)) != 0 then
 (stagesE (seqD (cellOf y 10))) else
 (bif textB false (intOf (D.lit (Value.int IntKind.i64 (intOf (cellOf y 0)))))
  (intOf (D.lit (Value.int IntKind.i64 (intOf (cellOf y 1))))) then
 (textE (eV y)) else
 0)))))))) else
 (bif intOf (cellOf y 0) == 12 then
 (bif bif
    !(butB (presB (eV y) 0) false == false &&
        (butB (presB (eV y) 1) false == false &&
          (butB (presB (eV y) 2)
                (numB false (intOf (D.lit (Value.int IntKind.i64 (intOf (cellOf y 0)))))
                  (intOf (D.lit (Value.int IntKind.i64 (intOf (cellOf y 1)))))) ==
              false &&
            (butB (presB (eV y) 3)
                  (textB false (intOf (D.lit (Value.int IntKind.i64 (intOf (cellOf y 0)))))
                    (intOf (D.lit (Value.int IntKind.i64 (intOf (cellOf y 1)))))) ==
                false &&
              (butB (presB (eV y) 4) true == false &&
                (butB (presB (eV y) 5) false == false &&
                  (butB (presB (eV y) 6) true == false &&
                    (butB (presB (eV y) 7) true == false &&
                      (butB (presB (eV y) 8) false == false &&
                        (butB (presB (eV y) 9) false == false && true)))))))))) then
  true
else (↑(seqD (cellOf y 15)).length : Int) != 1 then
 1 else
 (bif matchersE (seqD (cellOf y 2)) != 0 then
 (matchersE (seqD (cellOf y 2))) else
 (bif bif true then
  bif
      bif bif decide (intOf (cellOf y 3) < 1) then true else decide (intOf (cellOf y 3) > 1099511627776) then true
      else decide (intOf (cellOf y 4) < 0) then
    true
  else decide (intOf (cellOf y 4) > 1099511627776)
else false then
 2 else
 (bif numB false (intOf (D.lit (Value.int IntKind.i64 (intOf (cellOf y 0)))))
  (intOf (D.lit (Value.int IntKind.i64 (intOf (cellOf y 1))))) then
 (bif numberE (eV y) != 0 then
 (numberE (eV y)) else
 (bif namesE (seqD (cellOf y 7)) (intOf (cellOf y 0) == 4) != 0 then
 (namesE (seqD (cellOf y 7)) (intOf (cellOf y 0) == 4)) else
 (bif bif decide (intOf (cellOf y 9) < 0) then true else decide (intOf (cellOf y 9) > 2) then
 8 else
 (bif stagesE (seqD (cellOf y 10)) != 0 then
 (stagesE (seqD (cellOf y 10))) else
 (bif textB false (intOf (D.lit (Value.int IntKind.i64 (intOf (cellOf y 0)))))
  (intOf (D.lit (Value.int IntKind.i64 (intOf (cellOf y 1))))) then
 (textE (eV y)) else
 0))))) else
 (bif namesE (seqD (cellOf y 7)) (intOf (cellOf y 0) == 4) != 0 then
 (namesE (seqD (cellOf y 7)) (intOf (cellOf y 0) == 4)) else
 (bif bif decide (intOf (cellOf y 9) < 0) then true else decide (intOf (cellOf y 9) > 2) then
 8 else
 (bif stagesE (seqD (cellOf y 10)) != 0 then
 (stagesE (seqD (cellOf y 10))) else
 (bif textB false (intOf (D.lit (Value.int IntKind.i64 (intOf (cellOf y 0)))))
  (intOf (D.lit (Value.int IntKind.i64 (intOf (cellOf y 1))))) then
 (textE (eV y)) else
 0)))))))) else
 (bif intOf (cellOf y 0) == 13 then
 (bif bif
    !(butB (presB (eV y) 0) false == false &&
        (butB (presB (eV y) 1) false == false &&
          (butB (presB (eV y) 2)
                (numB false (intOf (D.lit (Value.int IntKind.i64 (intOf (cellOf y 0)))))
                  (intOf (D.lit (Value.int IntKind.i64 (intOf (cellOf y 1)))))) ==
              false &&
            (butB (presB (eV y) 3)
                  (textB true (intOf (D.lit (Value.int IntKind.i64 (intOf (cellOf y 0)))))
                    (intOf (D.lit (Value.int IntKind.i64 (intOf (cellOf y 1)))))) ==
                false &&
              (butB (presB (eV y) 4) false == false &&
                (butB (presB (eV y) 5) false == false &&
                  (butB (presB (eV y) 6) false == false &&
                    (butB (presB (eV y) 7) false == false &&
                      (butB (presB (eV y) 8) false == false &&
                        (butB (presB (eV y) 9) false == false && true)))))))))) then
  true
else (↑(seqD (cellOf y 15)).length : Int) != 0 then
 1 else
 (bif numB false (intOf (D.lit (Value.int IntKind.i64 (intOf (cellOf y 0)))))
  (intOf (D.lit (Value.int IntKind.i64 (intOf (cellOf y 1))))) then
 (bif numberE (eV y) != 0 then
 (numberE (eV y)) else
 (bif namesE (seqD (cellOf y 7)) (intOf (cellOf y 0) == 4) != 0 then
 (namesE (seqD (cellOf y 7)) (intOf (cellOf y 0) == 4)) else
 (bif bif decide (intOf (cellOf y 9) < 0) then true else decide (intOf (cellOf y 9) > 2) then
 8 else
 (bif stagesE (seqD (cellOf y 10)) != 0 then
 (stagesE (seqD (cellOf y 10))) else
 (bif textB true (intOf (D.lit (Value.int IntKind.i64 (intOf (cellOf y 0)))))
  (intOf (D.lit (Value.int IntKind.i64 (intOf (cellOf y 1))))) then
 (textE (eV y)) else
 0))))) else
 (bif namesE (seqD (cellOf y 7)) (intOf (cellOf y 0) == 4) != 0 then
 (namesE (seqD (cellOf y 7)) (intOf (cellOf y 0) == 4)) else
 (bif bif decide (intOf (cellOf y 9) < 0) then true else decide (intOf (cellOf y 9) > 2) then
 8 else
 (bif stagesE (seqD (cellOf y 10)) != 0 then
 (stagesE (seqD (cellOf y 10))) else
 (bif textB true (intOf (D.lit (Value.int IntKind.i64 (intOf (cellOf y 0)))))
  (intOf (D.lit (Value.int IntKind.i64 (intOf (cellOf y 1))))) then
 (textE (eV y)) else
 0)))))) else
 8)))))))))))))
noncomputable def c72 : Ct := ⟨fun | [x, .map es] => FitE x ∧ IsKinds es | _ => False, fun | [x, .map es] => some (.lit (.int .i64 (exprE x))) | _ => none⟩
noncomputable def T72 : Tab := T135.add 72 c72
theorem k134 : TabOk B T134 := by
  refine add_body base k83 (fn := Tryz.f134) (cd := bodyOf Tryz.f134) (sp := noSp) (hn := noHn) Tryz.func134 (by kernel_rfl) (by kernel_rfl) noSp_ok fun ds r hp hr => ?_
  unfold c134 at hp hr
  simp only [] at hr hp
  split at hr
  · rename_i x
    cases hr
    rw [arg1 (FitE.v hp)]
    refine keep (w134 x fun v => v = _) ?_
    rw [FitE.v hp]
    exact ⟨hp, rfl⟩
  · cases hr
theorem k135 : TabOk B T135 := by
  refine add_body base k134 (fn := Tryz.f135) (cd := bodyOf Tryz.f135) (sp := noSp) (hn := noHn) Tryz.func135 (by kernel_rfl) (by kernel_rfl) noSp_ok fun ds r hp hr => ?_
  unfold c135 at hp hr
  simp only [] at hr hp
  split at hr
  · cases hr
    refine keep (w135 _ _ _ _ _ _ _ _ _ _ _ _ _ _ _ _ _ _ _ _ fun v => v = _) ?_
    rfl
  · cases hr
theorem k72 : TabOk B T72 := by
  refine add_body base k135 (fn := Tryz.f72) (cd := bodyOf Tryz.f72) (sp := noSp) (hn := noHn) Tryz.func72 (by kernel_rfl) (by kernel_rfl) noSp_ok fun ds r hp hr => ?_
  unfold c72 at hp hr
  simp only [] at hr hp
  split at hr
  · rename_i x es
    cases hr
    obtain ⟨hf, he⟩ := hp
    rw [show es = kindsEs from he, arg2 hf.v]
    refine keep (w72 x fun v => v = _) ?_
    unfold exprE
    rw [hf.v]
    have hm : ∀ y ∈ seqD (cellOf x 2), FitM y := hf.m
    have hn : ∀ y ∈ seqD (cellOf x 7), FitN y := hf.n
    have hs : ∀ y ∈ seqD (cellOf x 10), FitG y := hf.s
    (repeat' (first | with_reducible rfl | (refine cond_split (fun hcw => ?_) (fun hcw => ?_) <;> simp only [hcw, cond_true, cond_false]) | refine and_i ?_ ?_))
    all_goals first | trivial | assumption | exact hf.p
  · cases hr
end Go.Ev.R2
end
section
namespace Go.Ev.R2
open Go Go.Ev Go.Proofs
set_option maxRecDepth 100000
set_option linter.unusedVariables false
set_option linter.unusedSimpArgs false
noncomputable def partsT (rec : D → Int) (y : D) : Int :=
  (bif exprE (eV y) != 0 then
 (exprE (eV y)) else
 (match search (firstF rec (seqD (cellOf y 15))) (seqD (cellOf y 15)).length with
 | some y0 => y0
 | none => 0))
noncomputable def partsE (y : D) : Int := fixD partsT 0 (dsz y + 1) y
noncomputable def c44 : Ct := ⟨fun | [x, .map es] => (FitE x ∧ etot x ≤ 100) ∧ IsKinds es | _ => False, fun | [x, .map es] => some (.lit (.int .i64 (partsE x))) | _ => none⟩
noncomputable def U44 (κ : Nat) : Tab := T72.add 44 (c44.below μ1 κ)
noncomputable def T44 : Tab := T72.add 44 c44
noncomputable def l44 : Code := roundOf (pieceAt (bodyOf Tryz.f44) 10)
noncomputable def S44 (rec : D → Int) (κ : Nat) : Ev.Spec := { L := [1,16,17,18], ns := [], L' := [4], nm' := [], G := fun N vals bs k => match vals, bs with
  | [.d (.map es), .d (.slice b 16 xs), .d (.lit (.int .i64 n)), .d (.lit (.int .i64 i))], [] => (N = 29 ∧ IsKinds es ∧ rec = partsE ∧ i = 0 ∧ n = xs.length ∧ xs.length ≤ 100 ∧ ∀ y ∈ xs, (FitE y ∧ etot y ≤ 100) ∧ dsz y < κ) ∧ optE (search (firstF rec xs) xs.length) (k (.exit 0) [.any] []) (fun e => k .ret [lint e] [])
  | _, _ => False }
theorem b44 (κ : Nat) (es : List (D × D)) (xs : List D) (i : Int) (n : Int) (b : Bool) (R : X → List V → List Box → Prop) : (roundT (Cn (U44 κ)) (U44 κ) noCS 0 noSp noHn l44 29 [1, 16, 17, 18] [] [] [] [4] []
  [V.d (D.map es), V.d (D.slice b 16 xs), lint n, lint i] [] R) =
  (bif decide (i < n) then
   ((((0 : Int) ≤ i) ∧ (i.toNat < xs.length ∧ eV (xs.getD i.toNat D.any) = xs.getD i.toNat D.any)) ∧
   ((((FitE (eV (xs.getD i.toNat D.any)) ∧ etot (eV (xs.getD i.toNat D.any)) ≤ 100) ∧ IsKinds es) ∧ μ1 [eV (xs.getD i.toNat D.any), D.map es] < κ) ∧
   (bif partsE (eV (xs.getD i.toNat D.any)) != 0 then
    (29 = 29 ∧
    R X.ret [V.d (D.lit (Value.int IntKind.i64 (partsE (eV (xs.getD i.toNat D.any)))))] []) else
    (29 = 29 ∧
    R X.normal
  [V.d (D.map es), V.d (D.slice b 16 xs), V.d (D.lit (Value.int IntKind.i64 n)),
    V.d (D.lit (Value.int IntKind.i64 (IntKind.i64.wrap (i + 1))))]
  [])))) else
   (29 = 29 ∧
   R (X.exit 0) [V.any] [])) := by kernel_rfl
theorem w44 (rec : D → Int) (κ : Nat) (es : List (D × D)) (y : D) (p : V → Prop) : (evBodyT (Cn (U44 κ)) (U44 κ) noCS 0 (spL [(10, S44 rec κ)]) noHn 44 [V.d (eV y), V.d (D.map es)] Heap.empty fun v H =>
  p (freezeR H v)) =
  ((FitE (eV y) ∧ IsKinds es) ∧
  (bif exprE (eV y) != 0 then
   p (V.d (D.lit (Value.int IntKind.i64 (exprE (eV y))))) else
   ((29 = 29 ∧ (IsKinds es ∧ (rec = partsE ∧ (((0 : Int) = 0) ∧ ((((↑(seqD (cellOf y 15)).length : Int) : Int) = (↑(seqD (cellOf y 15)).length : Int)) ∧ ((seqD (cellOf y 15)).length ≤ 100 ∧ ∀ (y_1 : D), y_1 ∈ seqD (cellOf y 15) → (FitE y_1 ∧ etot y_1 ≤ 100) ∧ dsz y_1 < κ)))))) ∧
   (match search (firstF rec (seqD (cellOf y 15))) (seqD (cellOf y 15)).length with
   | some y0 =>
    p (V.d (D.lit (Value.int IntKind.i64 y0)))
   | none => p (V.d (D.lit (Value.int IntKind.i64 0))))))) := by kernel_rfl
theorem w17 (y : D) (p : V → Prop) : (evBodyT (Cn T44) T44 noCS 0 noSp noHn 17 [V.d (eV y)] Heap.empty fun v H => p (freezeR H v)) =
  (FitE (eV y) ∧
  (bif decide ((↑(cap (etot (eV y))) : Int) > 100) then
   p (V.d (D.lit (Value.int IntKind.i64 4))) else
   ((FitE (eV y) ∧ etot (eV y) ≤ 100) ∧
   (bif decide ((↑(edep (eV y)) : Int) > 12) then
    p (V.d (D.lit (Value.int IntKind.i64 30))) else
    (True ∧
    (((FitE (eV y) ∧ etot (eV y) ≤ 100) ∧ IsKinds kindsEs) ∧
    p (V.d (D.lit (Value.int IntKind.i64 (partsE (eV y))))))))))) := by kernel_rfl
noncomputable def checkE (y : D) : Int :=
  (bif decide ((↑(cap (etot (eV y))) : Int) > 100) then
 4 else
 (bif decide ((↑(edep (eV y)) : Int) > 12) then
 30 else
 (partsE (eV y))))
noncomputable def c17 : Ct := ⟨fun | [x] => FitE x | _ => False, fun | [x] => some (.lit (.int .i64 (checkE x))) | _ => none⟩
noncomputable def T17 : Tab := T44.add 17 c17
theorem w70 (y : D) (a : Int) (b : Int) (p : V → Prop) : (evBodyT (Cn T17) T17 noCS 0 noSp noHn 70 [V.d (eV y), lint a, lint b] Heap.empty fun v H => p (freezeR H v)) =
  (bif bif bif a != 1 then a != 2 else false then true else bif b != 1 then b != 2 else false then
   p (V.d (D.lit (Value.int IntKind.i64 0))) else
   (bif bif a == 2 then b == 2 else false then
    p (V.d (D.lit (Value.int IntKind.i64 2))) else
    (bif bif bif decide ((↑(seqD (cellOf y 7)).length : Int) > 0) then true else boolOf (cellOf y 8) then true
else intOf (cellOf y 9) != 0 then
     p (V.d (D.lit (Value.int IntKind.i64 0))) else
     (bif bif a == 2 then true else b == 2 then
      p (V.d (D.lit (Value.int IntKind.i64 2))) else
      (bif decide (intOf (cellOf y 1) ≥ 5) then
       p (V.d (D.lit (Value.int IntKind.i64 0))) else
       p (V.d (D.lit (Value.int IntKind.i64 1)))))))) := by kernel_rfl
noncomputable def binE (y : D) (a b : Int) : Int :=
  (bif bif bif a != 1 then a != 2 else false then true else bif b != 1 then b != 2 else false then
 0 else
 (bif bif a == 2 then b == 2 else false then
 2 else
 (bif bif bif decide ((↑(seqD (cellOf y 7)).length : Int) > 0) then true else boolOf (cellOf y 8) then true
else intOf (cellOf y 9) != 0 then
 0 else
 (bif bif a == 2 then true else b == 2 then
 2 else
 (bif decide (intOf (cellOf y 1) ≥ 5) then
 0 else
 1)))))
noncomputable def c70 : Ct := ⟨fun | [x, .lit (.int .i64 a), .lit (.int .i64 b)] => FitE x | _ => False, fun | [x, .lit (.int .i64 a), .lit (.int .i64 b)] => some (.lit (.int .i64 (binE x a b))) | _ => none⟩
noncomputable def T70 : Tab := T17.add 70 c70
abbrev intD (n : Int) : D := .lit (.int .i64 n)
abbrev eCells (y : D) : List V := [.d (iC y 0), .d (iC y 1), .d (lC y 2 3), .d (iC y 3), .d (iC y 4), .d (iC y 5), .d (iC y 6), .d (lC y 7 1), .d (bC y 8), .d (iC y 9), .d (lC y 10 4), .d (iC y 11), .d (lC y 12 4), .d (lC y 13 3), .d (sC y 14), .d (lC y 15 16)]
abbrev eBox (y : D) : Box := .cells 33 (eCells y)
def IsE (cs : List V) : Prop := ∃ y, cs = eCells y
noncomputable def typeT (rec : D → Int) (y : D) : Int :=
  (bif intOf (cellOf y 0) == 6 then
 (bif intOf ((List.map (fun a => intD (rec a)) (seqD (cellOf y 15))).getD 0 D.any) != 2 then
 0 else
 (bif intOf (cellOf y 0) == 1 then
 1 else
 (bif intOf (cellOf y 0) == 2 then
 2 else
 (bif intOf (cellOf y 0) == 3 then
 2 else
 (bif intOf (cellOf y 0) == 4 then
 2 else
 (bif intOf (cellOf y 0) == 5 then
 2 else
 (bif intOf (cellOf y 0) == 6 then
 2 else
 (bif intOf (cellOf y 0) == 7 then
 0 else
 (bif intOf (cellOf y 0) == 8 then
 3 else
 (bif intOf (cellOf y 0) == 9 then
 4 else
 (bif intOf (cellOf y 0) == 10 then
 5 else
 (bif intOf (cellOf y 0) == 11 then
 4 else
 (bif intOf (cellOf y 0) == 12 then
 3 else
 (bif intOf (cellOf y 0) == 13 then
 0 else
 0)))))))))))))) else
 (bif intOf (cellOf y 0) == 12 then
 (bif intOf ((List.map (fun a => intD (rec a)) (seqD (cellOf y 15))).getD 0 D.any) != 4 then
 0 else
 (bif intOf (cellOf y 0) == 1 then
 1 else
 (bif intOf (cellOf y 0) == 2 then
 2 else
 (bif intOf (cellOf y 0) == 3 then
 2 else
 (bif intOf (cellOf y 0) == 4 then
 2 else
 (bif intOf (cellOf y 0) == 5 then
 2 else
 (bif intOf (cellOf y 0) == 6 then
 2 else
 (bif intOf (cellOf y 0) == 7 then
 0 else
 (bif intOf (cellOf y 0) == 8 then
 3 else
 (bif intOf (cellOf y 0) == 9 then
 4 else
 (bif intOf (cellOf y 0) == 10 then
 5 else
 (bif intOf (cellOf y 0) == 11 then
 4 else
 (bif intOf (cellOf y 0) == 12 then
 3 else
 (bif intOf (cellOf y 0) == 13 then
 0 else
 0)))))))))))))) else
 (bif intOf (cellOf y 0) == 7 then
 (binE (eV y) (intOf ((List.map (fun a => intD (rec a)) (seqD (cellOf y 15))).getD 0 D.any))
          (intOf ((List.map (fun a => intD (rec a)) (seqD (cellOf y 15))).getD 1 D.any))) else
 (bif intOf (cellOf y 0) == 1 then
 1 else
 (bif intOf (cellOf y 0) == 2 then
 2 else
 (bif intOf (cellOf y 0) == 3 then
 2 else
 (bif intOf (cellOf y 0) == 4 then
 2 else
 (bif intOf (cellOf y 0) == 5 then
 2 else
 (bif intOf (cellOf y 0) == 6 then
 2 else
 (bif intOf (cellOf y 0) == 7 then
 0 else
 (bif intOf (cellOf y 0) == 8 then
 3 else
 (bif intOf (cellOf y 0) == 9 then
 4 else
 (bif intOf (cellOf y 0) == 10 then
 5 else
 (bif intOf (cellOf y 0) == 11 then
 4 else
 (bif intOf (cellOf y 0) == 12 then
 3 else
 (bif intOf (cellOf y 0) == 13 then
 0 else
 0))))))))))))))))
noncomputable def typeE (y : D) : Int := fixD typeT 0 (dsz y + 1) y
noncomputable def c40 : Ct := ⟨fun | [x, .map es] => (FitE x ∧ etot x ≤ 100 ∧ partsE x = 0) ∧ IsKinds es | _ => False, fun | [x, .map es] => some (.lit (.int .i64 (typeE x))) | _ => none⟩
noncomputable def U40 (κ : Nat) : Tab := T70.add 40 (c40.below μ1 κ)
noncomputable def T40 : Tab := T70.add 40 c40
noncomputable def l40 : Code := roundOf (pieceAt (bodyOf Tryz.f40) 6)
noncomputable def S40 (rec : D → Int) (κ : Nat) : Ev.Spec := { L := [1,2,5,10,11,12], ns := [([5000],[4]),([5001],[10])], L' := [1,2,5], nm' := [[5000],[5001]], G := fun N vals bs k => match vals, bs with
  | [.d (.map es), .ptr [5000] 0, .ref [5001], .d (.slice b 16 xs), .d (.lit (.int .i64 n)), .d (.lit (.int .i64 i))], [.cells 33 cs, .arr true false 3 1 [] []] => (IsE cs ∧ N = 52 ∧ IsKinds es ∧ rec = typeE ∧ i = 0 ∧ n = xs.length ∧ xs.length ≤ 100 ∧ ∀ y ∈ xs, (FitE y ∧ etot y ≤ 100 ∧ partsE y = 0) ∧ dsz y < κ) ∧ k (.exit 0) [.d (.map es), .ptr [5000] 0, .ref [5001]] [.cells 33 cs, .arr true false 3 1 (xs.map fun a => intD (rec a)) []]
  | _, _ => False }
theorem b40 (κ : Nat) (es : List (D × D)) (ts : List D) (y : D) (xs : List D) (i : Int) (n : Int) (b : Bool) (R : X → List V → List Box → Prop) : (roundT (Cn (U40 κ)) (U40 κ) noCS 0 noSp noHn l40 52 [1, 2, 5, 10, 11, 12] [[5000], [5001]] []
  [([5000], [5000]), ([5001], [23])] [1, 2, 5] [([5000], [5000]), ([5001], [5001])]
  [V.d (D.map es), V.ptr [5000] 0, V.ref [5001], V.d (D.slice b 16 xs), lint n, lint i]
  [eBox y, Box.arr true false 3 1 ts []] R) =
  (bif decide (i < n) then
   ((((0 : Int) ≤ i) ∧ (i.toNat < xs.length ∧ eV (xs.getD i.toNat D.any) = xs.getD i.toNat D.any)) ∧
   ((((FitE (eV (xs.getD i.toNat D.any)) ∧ (etot (eV (xs.getD i.toNat D.any)) ≤ 100 ∧ ((partsE (eV (xs.getD i.toNat D.any)) : Int) = 0))) ∧ IsKinds es) ∧ μ1 [eV (xs.getD i.toNat D.any), D.map es] < κ) ∧
   (bif ((ts.length + 1) * 8).ble 70368744177664 then
    (52 = 52 ∧
    R X.normal
  [V.d (D.map es), V.ptr [5000] 0, V.ref [5001], V.d (D.slice b 16 xs), V.d (D.lit (Value.int IntKind.i64 n)),
    V.d (D.lit (Value.int IntKind.i64 (IntKind.i64.wrap (i + 1))))]
  [Box.cells 33
      [V.d (D.lit (Value.int IntKind.i64 (intOf (cellOf y 0)))),
        V.d (D.lit (Value.int IntKind.i64 (intOf (cellOf y 1)))),
        V.d (D.slice (nilOf (cellOf y 2)) 3 (seqD (cellOf y 2))),
        V.d (D.lit (Value.int IntKind.i64 (intOf (cellOf y 3)))),
        V.d (D.lit (Value.int IntKind.i64 (intOf (cellOf y 4)))),
        V.d (D.lit (Value.int IntKind.i64 (intOf (cellOf y 5)))),
        V.d (D.lit (Value.int IntKind.i64 (intOf (cellOf y 6)))),
        V.d (D.slice (nilOf (cellOf y 7)) 1 (seqD (cellOf y 7))), V.d (D.lit (Value.bool (boolOf (cellOf y 8)))),
        V.d (D.lit (Value.int IntKind.i64 (intOf (cellOf y 9)))),
        V.d (D.slice (nilOf (cellOf y 10)) 4 (seqD (cellOf y 10))),
        V.d (D.lit (Value.int IntKind.i64 (intOf (cellOf y 11)))),
        V.d (D.slice (nilOf (cellOf y 12)) 4 (seqD (cellOf y 12))),
        V.d (D.slice (nilOf (cellOf y 13)) 3 (seqD (cellOf y 13))), V.d (D.lit (Value.string (strOf (cellOf y 14)))),
        V.d (D.slice (nilOf (cellOf y 15)) 16 (seqD (cellOf y 15)))],
    Box.arr true false 3 1 (ts ++ [D.lit (Value.int IntKind.i64 (typeE (eV (xs.getD i.toNat D.any))))]) []]) else
    False))) else
   (52 = 52 ∧
   R (X.exit 0) [V.d (D.map es), V.ptr [5000] 0, V.ref [5001]]
  [Box.cells 33
      [V.d (D.lit (Value.int IntKind.i64 (intOf (cellOf y 0)))),
        V.d (D.lit (Value.int IntKind.i64 (intOf (cellOf y 1)))),
        V.d (D.slice (nilOf (cellOf y 2)) 3 (seqD (cellOf y 2))),
        V.d (D.lit (Value.int IntKind.i64 (intOf (cellOf y 3)))),
        V.d (D.lit (Value.int IntKind.i64 (intOf (cellOf y 4)))),
        V.d (D.lit (Value.int IntKind.i64 (intOf (cellOf y 5)))),
        V.d (D.lit (Value.int IntKind.i64 (intOf (cellOf y 6)))),
        V.d (D.slice (nilOf (cellOf y 7)) 1 (seqD (cellOf y 7))), V.d (D.lit (Value.bool (boolOf (cellOf y 8)))),
        V.d (D.lit (Value.int IntKind.i64 (intOf (cellOf y 9)))),
        V.d (D.slice (nilOf (cellOf y 10)) 4 (seqD (cellOf y 10))),
        V.d (D.lit (Value.int IntKind.i64 (intOf (cellOf y 11)))),
        V.d (D.slice (nilOf (cellOf y 12)) 4 (seqD (cellOf y 12))),
        V.d (D.slice (nilOf (cellOf y 13)) 3 (seqD (cellOf y 13))), V.d (D.lit (Value.string (strOf (cellOf y 14)))),
        V.d (D.slice (nilOf (cellOf y 15)) 16 (seqD (cellOf y 15)))],
    Box.arr true false 3 1 ts []])) := by kernel_rfl
theorem w40 (rec : D → Int) (κ : Nat) (es : List (D × D)) (y : D) (p : V → Prop) : (evBodyT (Cn (U40 κ)) (U40 κ) noCS 0 (spL [(6, S40 rec κ)]) noHn 40 [V.d (eV y), V.d (D.map kindsEs)] Heap.empty
  fun v H => p (freezeR H v)) =
  ((IsE
  [V.d (D.lit (Value.int IntKind.i64 (intOf (cellOf y 0)))), V.d (D.lit (Value.int IntKind.i64 (intOf (cellOf y 1)))),
    V.d (D.slice (nilOf (cellOf y 2)) 3 (seqD (cellOf y 2))), V.d (D.lit (Value.int IntKind.i64 (intOf (cellOf y 3)))),
    V.d (D.lit (Value.int IntKind.i64 (intOf (cellOf y 4)))), V.d (D.lit (Value.int IntKind.i64 (intOf (cellOf y 5)))),
    V.d (D.lit (Value.int IntKind.i64 (intOf (cellOf y 6)))), V.d (D.slice (nilOf (cellOf y 7)) 1 (seqD (cellOf y 7))),
    V.d (D.lit (Value.bool (boolOf (cellOf y 8)))), V.d (D.lit (Value.int IntKind.i64 (intOf (cellOf y 9)))),
    V.d (D.slice (nilOf (cellOf y 10)) 4 (seqD (cellOf y 10))),
    V.d (D.lit (Value.int IntKind.i64 (intOf (cellOf y 11)))),
    V.d (D.slice (nilOf (cellOf y 12)) 4 (seqD (cellOf y 12))),
    V.d (D.slice (nilOf (cellOf y 13)) 3 (seqD (cellOf y 13))), V.d (D.lit (Value.string (strOf (cellOf y 14)))),
    V.d (D.slice (nilOf (cellOf y 15)) 16 (seqD (cellOf y 15)))] ∧ (52 = 52 ∧ (IsKinds kindsEs ∧ (rec = typeE ∧ (((0 : Int) = 0) ∧ ((((↑(seqD (cellOf y 15)).length : Int) : Int) = (↑(seqD (cellOf y 15)).length : Int)) ∧ ((seqD (cellOf y 15)).length ≤ 100 ∧ ∀ (y_1 : D), y_1 ∈ seqD (cellOf y 15) → (FitE y_1 ∧ etot y_1 ≤ 100 ∧ partsE y_1 = 0) ∧ dsz y_1 < κ))))))) ∧
  (bif intOf (cellOf y 0) == 6 then
   ((((0 : Int) ≤ 0) ∧ (0 < (List.map (fun a => intD (rec a)) (seqD (cellOf y 15))).length ∧ D.lit (Value.int IntKind.i64 (intOf ((List.map (fun a => intD (rec a)) (seqD (cellOf y 15))).getD 0 D.any))) =
  (List.map (fun a => intD (rec a)) (seqD (cellOf y 15))).getD 0 D.any)) ∧
   (bif intOf ((List.map (fun a => intD (rec a)) (seqD (cellOf y 15))).getD 0 D.any) != 2 then
    p (V.d (D.lit (Value.int IntKind.i64 0))) else
    (bif intOf (cellOf y 0) == 1 then
     p (V.d (D.lit (Value.int IntKind.i64 1))) else
     (bif intOf (cellOf y 0) == 2 then
      p (V.d (D.lit (Value.int IntKind.i64 2))) else
      (bif intOf (cellOf y 0) == 3 then
       p (V.d (D.lit (Value.int IntKind.i64 2))) else
       (bif intOf (cellOf y 0) == 4 then
        p (V.d (D.lit (Value.int IntKind.i64 2))) else
        (bif intOf (cellOf y 0) == 5 then
         p (V.d (D.lit (Value.int IntKind.i64 2))) else
         (bif intOf (cellOf y 0) == 6 then
          p (V.d (D.lit (Value.int IntKind.i64 2))) else
          (bif intOf (cellOf y 0) == 7 then
           p (V.d (D.lit (Value.int IntKind.i64 0))) else
           (bif intOf (cellOf y 0) == 8 then
            p (V.d (D.lit (Value.int IntKind.i64 3))) else
            (bif intOf (cellOf y 0) == 9 then
             p (V.d (D.lit (Value.int IntKind.i64 4))) else
             (bif intOf (cellOf y 0) == 10 then
              p (V.d (D.lit (Value.int IntKind.i64 5))) else
              (bif intOf (cellOf y 0) == 11 then
               p (V.d (D.lit (Value.int IntKind.i64 4))) else
               (bif intOf (cellOf y 0) == 12 then
                p (V.d (D.lit (Value.int IntKind.i64 3))) else
                (bif intOf (cellOf y 0) == 13 then
                 p (V.d (D.lit (Value.int IntKind.i64 0))) else
                 p (V.d (D.lit (Value.int IntKind.i64 0)))))))))))))))))) else
   (bif intOf (cellOf y 0) == 12 then
    ((((0 : Int) ≤ 0) ∧ (0 < (List.map (fun a => intD (rec a)) (seqD (cellOf y 15))).length ∧ D.lit (Value.int IntKind.i64 (intOf ((List.map (fun a => intD (rec a)) (seqD (cellOf y 15))).getD 0 D.any))) =
  (List.map (fun a => intD (rec a)) (seqD (cellOf y 15))).getD 0 D.any)) ∧
    (bif intOf ((List.map (fun a => intD (rec a)) (seqD (cellOf y 15))).getD 0 D.any) != 4 then
     p (V.d (D.lit (Value.int IntKind.i64 0))) else
     (bif intOf (cellOf y 0) == 1 then
      p (V.d (D.lit (Value.int IntKind.i64 1))) else
      (bif intOf (cellOf y 0) == 2 then
       p (V.d (D.lit (Value.int IntKind.i64 2))) else
       (bif intOf (cellOf y 0) == 3 then
        p (V.d (D.lit (Value.int IntKind.i64 2))) else
        (bif intOf (cellOf y 0) == 4 then
         p (V.d (D.lit (Value.int IntKind.i64 2))) else
         (bif intOf (cellOf y 0) == 5 then
          p (V.d (D.lit (Value.int IntKind.i64 2))) else
          (bif intOf (cellOf y 0) == 6 then
           p (V.d (D.lit (Value.int IntKind.i64 2))) else
           (bif intOf (cellOf y 0) == 7 then
            p (V.d (D.lit (Value.int IntKind.i64 0))) else
            (bif intOf (cellOf y 0) == 8 then
             p (V.d (D.lit (Value.int IntKind.i64 3))) else
             (bif intOf (cellOf y 0) == 9 then
              p (V.d (D.lit (Value.int IntKind.i64 4))) else
              (bif intOf (cellOf y 0) == 10 then
               p (V.d (D.lit (Value.int IntKind.i64 5))) else
               (bif intOf (cellOf y 0) == 11 then
                p (V.d (D.lit (Value.int IntKind.i64 4))) else
                (bif intOf (cellOf y 0) == 12 then
                 p (V.d (D.lit (Value.int IntKind.i64 3))) else
                 (bif intOf (cellOf y 0) == 13 then
                  p (V.d (D.lit (Value.int IntKind.i64 0))) else
                  p (V.d (D.lit (Value.int IntKind.i64 0)))))))))))))))))) else
    (bif intOf (cellOf y 0) == 7 then
     ((((0 : Int) ≤ 0) ∧ (0 < (List.map (fun a => intD (rec a)) (seqD (cellOf y 15))).length ∧ D.lit (Value.int IntKind.i64 (intOf ((List.map (fun a => intD (rec a)) (seqD (cellOf y 15))).getD 0 D.any))) =
  (List.map (fun a => intD (rec a)) (seqD (cellOf y 15))).getD 0 D.any)) ∧
     ((((0 : Int) ≤ 1) ∧ (1 < (List.map (fun a => intD (rec a)) (seqD (cellOf y 15))).length ∧ D.lit (Value.int IntKind.i64 (intOf ((List.map (fun a => intD (rec a)) (seqD (cellOf y 15))).getD 1 D.any))) =
  (List.map (fun a => intD (rec a)) (seqD (cellOf y 15))).getD 1 D.any)) ∧
     (FitE (eV y) ∧
     p
  (V.d
    (D.lit
      (Value.int IntKind.i64
        (binE (eV y) (intOf ((List.map (fun a => intD (rec a)) (seqD (cellOf y 15))).getD 0 D.any))
          (intOf ((List.map (fun a => intD (rec a)) (seqD (cellOf y 15))).getD 1 D.any))))))))) else
     (bif intOf (cellOf y 0) == 1 then
      p (V.d (D.lit (Value.int IntKind.i64 1))) else
      (bif intOf (cellOf y 0) == 2 then
       p (V.d (D.lit (Value.int IntKind.i64 2))) else
       (bif intOf (cellOf y 0) == 3 then
        p (V.d (D.lit (Value.int IntKind.i64 2))) else
        (bif intOf (cellOf y 0) == 4 then
         p (V.d (D.lit (Value.int IntKind.i64 2))) else
         (bif intOf (cellOf y 0) == 5 then
          p (V.d (D.lit (Value.int IntKind.i64 2))) else
          (bif intOf (cellOf y 0) == 6 then
           p (V.d (D.lit (Value.int IntKind.i64 2))) else
           (bif intOf (cellOf y 0) == 7 then
            p (V.d (D.lit (Value.int IntKind.i64 0))) else
            (bif intOf (cellOf y 0) == 8 then
             p (V.d (D.lit (Value.int IntKind.i64 3))) else
             (bif intOf (cellOf y 0) == 9 then
              p (V.d (D.lit (Value.int IntKind.i64 4))) else
              (bif intOf (cellOf y 0) == 10 then
               p (V.d (D.lit (Value.int IntKind.i64 5))) else
               (bif intOf (cellOf y 0) == 11 then
                p (V.d (D.lit (Value.int IntKind.i64 4))) else
                (bif intOf (cellOf y 0) == 12 then
                 p (V.d (D.lit (Value.int IntKind.i64 3))) else
                 (bif intOf (cellOf y 0) == 13 then
                  p (V.d (D.lit (Value.int IntKind.i64 0))) else
                  p (V.d (D.lit (Value.int IntKind.i64 0)))))))))))))))))))) := by kernel_rfl
theorem w15 (y : D) (p : V → Prop) : (evBodyT (Cn T40) T40 noCS 0 noSp noHn 15 [V.d (eV y)] Heap.empty fun v H => p (freezeR H v)) =
  (FitE (eV y) ∧
  (bif checkE (eV y) != 0 then
   p (V.d (D.tup [D.lit (Value.int IntKind.i64 0), D.lit (Value.int IntKind.i64 (checkE (eV y)))])) else
   (True ∧
   (((FitE (eV y) ∧ (etot (eV y) ≤ 100 ∧ ((partsE (eV y) : Int) = 0))) ∧ IsKinds kindsEs) ∧
   (bif typeE (eV y) == 0 then
    p (V.d (D.tup [D.lit (Value.int IntKind.i64 0), D.lit (Value.int IntKind.i64 15)])) else
    p (V.d (D.tup [D.lit (Value.int IntKind.i64 (typeE (eV y))), D.lit (Value.int IntKind.i64 0)]))))))) := by kernel_rfl
theorem arg3 {x y a b : D} (h : y = x) : [x, a, b].map V.d = [V.d y, V.d a, V.d b] := by rw [h]; rfl
theorem partsT_congr (r r' : D → Int) (y : D) (h : ∀ a ∈ subs y 15, r a = r' a) : partsT r y = partsT r' y := by
  unfold partsT
  rw [firstF_congr h]
theorem partsE_eq (y : D) : partsE y = partsT partsE y := fixD_step partsT_congr y
theorem ok44 {κ : Nat} (hk : TabOk B (U44 κ)) : OkS (Cn (U44 κ)) 0 (.loop l44) (S44 partsE κ) := by
  refine okS_loop fun N vals bs K h => ?_
  simp only [S44] at h
  split at h
  case h_2 => exact h.elim
  rename_i es b xs n i
  obtain ⟨⟨rfl, hes, _, rfl, rfl, h16, hall⟩, h⟩ := h
  refine search_loop (tab_fit base hk noCS_valid) tab_has noSp_ok (hn := noHn) (adsI := []) (nsI := []) (nsX := []) rfl rfl xs.length
    (fun i => [.d (.map es), .d (.slice b 16 xs), lint xs.length, lint i]) (fun _ => []) (firstF partsE xs) (fun e => (.ret, [lint e], [])) (by simp) (.exit 0) [.any] [] (by simp) ?_ ?_ h
  · intro i R hi hR
    refine keep (b44 κ es xs i xs.length b R) ?_
    have e1 : decide ((i : Int) < xs.length) = true := by simp; omega
    have e2 : IntKind.i64.wrap ((i : Int) + 1) = ((i + 1 : Nat) : Int) := by rw [Go.IntWalk.i64_in _ (by omega)]; omega
    obtain ⟨hv, hlt⟩ := hall _ (getD_mem hi)
    rw [e1]
    simp only [Int.toNat_natCast, e2, cond_true, hv.1.v]
    refine ⟨⟨by omega, hi, trivial⟩, ⟨⟨hv, hes⟩, hlt⟩, cond_split (fun h1 => ⟨trivial, ?_⟩) (fun h1 => ⟨trivial, ?_⟩)⟩ <;> (simp only [firstF, h1, cond_true, cond_false, optE] at hR; exact hR)
  · intro R hR
    refine keep (b44 κ es xs xs.length xs.length b R) ?_
    have e1 : decide ((xs.length : Int) < xs.length) = false := by simp
    rw [e1]
    exact ⟨rfl, hR⟩
theorem k44 : TabOk B T44 := by
  refine add_rec base k72 μ1 (fn := Tryz.f44) (cd := bodyOf Tryz.f44) (sp := fun n => spL [(10, S44 partsE n)]) (hn := noHn) Tryz.func44 (by kernel_rfl) (by kernel_rfl) (fun n hk => specT_cons (c := .loop l44) (by kernel_rfl) (ok44 hk) specT_nil) fun κ ds r hp hm hr => ?_
  unfold c44 at hp hr
  simp only [] at hr hp
  split at hr
  · rename_i x es
    cases hr
    obtain ⟨⟨hf, ht⟩, hes⟩ := hp
    rw [arg2 hf.v]
    refine keep (w44 partsE κ es x fun v => v = _) ?_
    rw [partsE_eq]
    unfold partsT
    rw [hf.v]
    have ha : ∀ y ∈ seqD (cellOf x 15), (FitE y ∧ etot y ≤ 100) ∧ dsz y < κ := fun y hy => ⟨⟨hf.a y hy, by
      have := etot_eq x
      have := le_sum (f := etot) (xs := subs x 15) hy
      omega⟩, hm ▸ subs_lt hy⟩
    have hl : (seqD (cellOf x 15)).length ≤ 100 := by
      have := etot_eq x
      have := len_etot (xs := subs x 15)
      unfold subs at *
      omega
    generalize search (firstF partsE (seqD (cellOf x 15))) (seqD (cellOf x 15)).length = o2
    cases o2 <;> (repeat' (first | with_reducible rfl | (refine cond_split (fun hcw => ?_) (fun hcw => ?_) <;> simp only [hcw, cond_true, cond_false]) | refine and_i ?_ ?_))
    all_goals first | trivial | assumption
  · cases hr
theorem k17 : TabOk B T17 := by
  refine add_body base k44 (fn := Tryz.f17) (cd := bodyOf Tryz.f17) (sp := noSp) (hn := noHn) Tryz.func17 (by kernel_rfl) (by kernel_rfl) noSp_ok fun ds r hp hr => ?_
  unfold c17 at hp hr
  simp only [] at hr hp
  split at hr
  · rename_i x
    cases hr
    rw [arg1 (FitE.v hp)]
    refine keep (w17 x fun v => v = _) ?_
    unfold checkE
    rw [FitE.v hp]
    (repeat' (first | with_reducible rfl | (refine cond_split (fun hcw => ?_) (fun hcw => ?_) <;> simp only [hcw, cond_true, cond_false]) | refine and_i ?_ ?_))
    all_goals first | exact hp | trivial | exact Eq.refl kindsEs | (simp [cap] at *; omega)
  · cases hr
theorem k70 : TabOk B T70 := by
  refine add_body base k17 (fn := Tryz.f70) (cd := bodyOf Tryz.f70) (sp := noSp) (hn := noHn) Tryz.func70 (by kernel_rfl) (by kernel_rfl) noSp_ok fun ds r hp hr => ?_
  unfold c70 at hp hr
  simp only [] at hr hp
  split at hr
  · rename_i x a b
    cases hr
    rw [arg3 (FitE.v hp)]
    refine keep (w70 x a b fun v => v = _) ?_
    unfold binE
    (repeat' (first | with_reducible rfl | (refine cond_split (fun hcw => ?_) (fun hcw => ?_) <;> simp only [hcw, cond_true, cond_false]) | refine and_i ?_ ?_))
  · cases hr
theorem cond_z {c : Bool} {k r : Int} (hk : k ≠ 0) (h : (bif c then k else r) = 0) : c = false ∧ r = 0 := by
  cases c with
  | true => exact absurd h hk
  | false => exact ⟨rfl, h⟩
theorem or_f {a b : Bool} (h : (bif a then true else b) = false) : a = false ∧ b = false := by
  cases a with
  | true => cases h
  | false => exact ⟨rfl, h⟩
def kArgs (k : Int) : Int := bif k == 6 then 1 else bif k == 7 then 2 else bif k == 12 then 1 else 0
theorem exprE_args {x : D} (h : exprE x = 0) : ((subs x 15).length : Int) = kArgs (intOf (cellOf x 0)) ∧ 1 ≤ intOf (cellOf x 0) ∧ intOf (cellOf x 0) ≤ 13 := by
  unfold exprE at h
  unfold subs
  generalize hk : intOf (cellOf x 0) = k at h ⊢
  by_cases hr : 1 ≤ k ∧ k ≤ 13
  · refine ⟨?_, hr⟩
    have : k = 1 ∨ k = 2 ∨ k = 3 ∨ k = 4 ∨ k = 5 ∨ k = 6 ∨ k = 7 ∨ k = 8 ∨ k = 9 ∨ k = 10 ∨ k = 11 ∨ k = 12 ∨ k = 13 := by omega
    rcases this with rfl | rfl | rfl | rfl | rfl | rfl | rfl | rfl | rfl | rfl | rfl | rfl | rfl
    all_goals
      simp only [Int.reduceBEq, cond_true, cond_false] at h
      first
      | (have h1 := (or_f (cond_z (by decide) h).1).2; simp at h1; simp [kArgs]; omega)
      | (have h1 := (or_f (cond_z (by decide) (cond_z (by decide) h).2).1).2; simp at h1; simp [kArgs]; omega)
  · exfalso
    have hn : ∀ j : Int, 1 ≤ j → j ≤ 13 → (k == j) = false := fun j h1 h2 => by
      have : k ≠ j := by rintro rfl; exact hr ⟨h1, h2⟩
      simpa using this
    simp only [hn 1 (by omega) (by omega), hn 2 (by omega) (by omega), hn 3 (by omega) (by omega), hn 4 (by omega) (by omega), hn 5 (by omega) (by omega), hn 6 (by omega) (by omega), hn 7 (by omega) (by omega), hn 8 (by omega) (by omega), hn 9 (by omega) (by omega), hn 10 (by omega) (by omega), hn 11 (by omega) (by omega), hn 12 (by omega) (by omega), hn 13 (by omega) (by omega), cond_false] at h
    exact absurd h (by decide)
theorem typeT_congr (r r' : D → Int) (y : D) (h : ∀ a ∈ subs y 15, r a = r' a) : typeT r y = typeT r' y := by
  unfold typeT
  have e : List.map (fun a => intD (r a)) (seqD (cellOf y 15)) = List.map (fun a => intD (r' a)) (seqD (cellOf y 15)) := List.map_congr_left fun a ha => by rw [h a ha]
  rw [e]
theorem typeE_eq (y : D) : typeE y = typeT typeE y := fixD_step typeT_congr y
theorem search_all {f : D → Int} {xs : List D} (h : search (firstF f xs) xs.length = none) : ∀ a ∈ xs, f a = 0 := by
  have key : ∀ n i, i + n = xs.length → rounds (fun i _ => ofOpt (firstF f xs i)) n i () = .inl () → ∀ j, i ≤ j → j < xs.length → f (xs.getD j .any) = 0 := by
    intro n
    induction n with
    | zero => intro i hi _ j h1 h2; omega
    | succ n ih =>
      intro i hi hr j h1 h2
      unfold rounds at hr
      cases hf : firstF f xs i with
      | some e => simp only [hf, ofOpt] at hr; cases hr
      | none =>
        simp only [hf, ofOpt] at hr
        by_cases hj : j = i
        · subst hj
          unfold firstF at hf
          cases hb : (f (xs.getD j .any) != 0) with
          | true => rw [hb] at hf; cases hf
          | false => simpa using hb
        · exact ih (i + 1) (by omega) hr j (by omega) h2
  intro a ha
  obtain ⟨j, hj, rfl⟩ := List.getElem_of_mem ha
  unfold search at h
  cases hr : rounds (fun i _ => ofOpt (firstF f xs i)) xs.length 0 () with
  | inr b => rw [hr] at h; cases h
  | inl u =>
    have := key _ 0 (by omega) hr j (by omega) hj
    rw [List.getD_eq_getElem?_getD, List.getElem?_eq_getElem hj] at this
    exact this
theorem firstF_ne {f : D → Int} {xs : List D} {e : Int} (h : search (firstF f xs) xs.length = some e) : e ≠ 0 := by
  have key : ∀ n i, rounds (fun i _ => ofOpt (firstF f xs i)) n i () = .inr e → e ≠ 0 := by
    intro n
    induction n with
    | zero => intro i h; cases h
    | succ n ih =>
      intro i hr
      unfold rounds at hr
      cases hf : firstF f xs i with
      | none => simp only [hf, ofOpt] at hr; exact ih _ hr
      | some x =>
        simp only [hf, ofOpt] at hr
        cases hr
        unfold firstF at hf
        cases hb : (f (xs.getD i .any) != 0) with
        | true => rw [hb] at hf; cases hf; simpa using hb
        | false => rw [hb] at hf; cases hf
  unfold search at h
  cases hr : rounds (fun i _ => ofOpt (firstF f xs i)) xs.length 0 () with
  | inl b => rw [hr] at h; cases h
  | inr b => rw [hr] at h; cases h; exact key _ _ hr
theorem partsE_ok {x : D} (hv : eV x = x) (h : partsE x = 0) : exprE x = 0 ∧ ∀ a ∈ subs x 15, partsE a = 0 := by
  rw [partsE_eq] at h
  unfold partsT at h
  rw [hv] at h
  cases he : (exprE x != 0) with
  | true => rw [he] at h; simp at he; exact absurd h he
  | false =>
    rw [he] at h
    simp only [cond_false] at h
    refine ⟨by simpa using he, ?_⟩
    cases hs : search (firstF partsE (seqD (cellOf x 15))) (seqD (cellOf x 15)).length with
    | none => exact search_all hs
    | some e => rw [hs] at h; exact absurd h (firstF_ne hs)
theorem k15w {y : D} (h : checkE y = 0) (hv : eV y = y) : etot y ≤ 100 ∧ edep y ≤ 12 ∧ partsE y = 0 := by
  unfold checkE at h
  rw [hv] at h
  obtain ⟨h1, h⟩ := cond_z (by decide) h
  obtain ⟨h2, h⟩ := cond_z (by decide) h
  simp [cap] at h1 h2
  exact ⟨by omega, by omega, h⟩
theorem ok40 {κ : Nat} (hk : TabOk B (U40 κ)) : OkS (Cn (U40 κ)) 0 (.loop l40) (S40 typeE κ) := by
  refine okS_loop fun N vals bs K h => ?_
  simp only [S40] at h
  split at h
  case h_2 => exact h.elim
  rename_i es b xs n i cs
  obtain ⟨⟨⟨y, rfl⟩, rfl, hes, _, rfl, rfl, h16, hall⟩, h⟩ := h
  have main : ∀ k i ts, i + k = xs.length → ts = (xs.take i).map (fun a => intD (typeE a)) → LoopT (Cn (U40 κ)) 0 l40 52 [1,2,5,10,11,12] [[5000],[5001]] [1,2,5] [[5000],[5001]] [.d (.map es), .ptr [5000] 0, .ref [5001], .d (.slice b 16 xs), lint xs.length, lint i] [eBox y, .arr true false 3 1 ts []] K := by
    intro k
    induction k with
    | zero =>
      intro i ts hi hts
      have : i = xs.length := by omega
      subst this
      rw [List.take_length] at hts
      subst hts
      refine loopT_step (tab_fit base hk noCS_valid) tab_has noSp_ok (hn := noHn) (adsI := []) (nsI := [([5000],[5000]),([5001],[23])]) (nsX := [([5000],[5000]),([5001],[5001])]) rfl rfl (keep (b40 κ es _ y xs xs.length xs.length b _) ?_)
      have e1 : decide ((xs.length : Int) < xs.length) = false := by simp
      rw [e1]
      exact ⟨rfl, h⟩
    | succ k ih =>
      intro i ts hi hts
      refine loopT_step (tab_fit base hk noCS_valid) tab_has noSp_ok (hn := noHn) (adsI := []) (nsI := [([5000],[5000]),([5001],[23])]) (nsX := [([5000],[5000]),([5001],[5001])]) rfl rfl (keep (b40 κ es ts y xs i xs.length b _) ?_)
      have e1 : decide ((i : Int) < xs.length) = true := by simp; omega
      have e2 : IntKind.i64.wrap ((i : Int) + 1) = ((i + 1 : Nat) : Int) := by rw [Go.IntWalk.i64_in _ (by omega)]; omega
      obtain ⟨hv, hlt⟩ := hall _ (getD_mem (xs := xs) (i := i) (by omega))
      have hl : ts.length = i := by rw [hts, List.length_map, List.length_take]; omega
      have e3 : ((ts.length + 1) * 8).ble 70368744177664 = true := by rw [hl, Nat.ble_eq]; omega
      rw [e1, e3]
      simp only [Int.toNat_natCast, e2, cond_true, hv.1.v]
      refine ⟨⟨by omega, by omega, trivial⟩, ⟨⟨hv, hes⟩, hlt⟩, trivial, ih (i + 1) _ (by omega) ?_⟩
      rw [hts, List.take_add_one, List.map_append, List.getElem?_eq_getElem (by omega : i < xs.length), List.getD_eq_getElem?_getD, List.getElem?_eq_getElem (by omega : i < xs.length)]
      rfl
  exact main xs.length 0 [] (by omega) (by simp)
theorem intD_at {f : D → Int} {xs : List D} {i : Nat} (h : i < xs.length) : D.lit (Value.int IntKind.i64 (intOf ((xs.map fun a => intD (f a)).getD i .any))) = (xs.map fun a => intD (f a)).getD i .any := by
  rw [List.getD_eq_getElem?_getD, List.getElem?_map, List.getElem?_eq_getElem h]; rfl
theorem k40 : TabOk B T40 := by
  refine add_rec base k70 μ1 (fn := Tryz.f40) (cd := bodyOf Tryz.f40) (sp := fun n => spL [(6, S40 typeE n)]) (hn := noHn) Tryz.func40 (by kernel_rfl) (by kernel_rfl) (fun n hk => specT_cons (c := .loop l40) (by kernel_rfl) (ok40 hk) specT_nil) fun κ ds r hp hm hr => ?_
  unfold c40 at hp hr
  simp only [] at hr hp
  split at hr
  · rename_i x es
    cases hr
    obtain ⟨⟨hf, ht, hpa⟩, hes⟩ := hp
    rw [show es = kindsEs from hes, arg2 hf.v]
    refine keep (w40 typeE κ es x fun v => v = _) ?_
    rw [typeE_eq]
    unfold typeT
    rw [hf.v]
    obtain ⟨hx, hap⟩ := partsE_ok hf.v hpa
    have hlen := (exprE_args hx).1
    have ha : ∀ y ∈ seqD (cellOf x 15), (FitE y ∧ etot y ≤ 100 ∧ partsE y = 0) ∧ dsz y < κ := fun y hy => ⟨⟨hf.a y hy, by
      have := etot_eq x
      have := le_sum (f := etot) (xs := subs x 15) hy
      omega, hap y hy⟩, hm ▸ subs_lt hy⟩
    have hl : (seqD (cellOf x 15)).length ≤ 100 := by
      have := etot_eq x
      have := len_etot (xs := subs x 15)
      unfold subs at *
      omega
    have h6 : (intOf (cellOf x 0) == 6) = true → (seqD (cellOf x 15)).length = 1 := fun h => by
      have h : intOf (cellOf x 0) = 6 := by simpa using h
      rw [h] at hlen; unfold subs at hlen; simp [kArgs] at hlen; omega
    have h12 : (intOf (cellOf x 0) == 12) = true → (seqD (cellOf x 15)).length = 1 := fun h => by
      have h : intOf (cellOf x 0) = 12 := by simpa using h
      rw [h] at hlen; unfold subs at hlen; simp [kArgs] at hlen; omega
    have h7 : (intOf (cellOf x 0) == 7) = true → (seqD (cellOf x 15)).length = 2 := fun h => by
      have h : intOf (cellOf x 0) = 7 := by simpa using h
      rw [h] at hlen; unfold subs at hlen; simp [kArgs] at hlen; omega
    have hE : IsE (eCells x) := ⟨x, rfl⟩
    have hK : IsKinds kindsEs := rfl
    (repeat' (first | with_reducible rfl | (refine cond_split (fun hcw => ?_) (fun hcw => ?_) <;> simp only [hcw, cond_true, cond_false]) | refine and_i ?_ ?_))
    all_goals first
      | trivial
      | assumption
      | exact hE
      | (rw [List.length_map, h6 (by assumption)]; decide)
      | (rw [List.length_map, h12 (by assumption)]; decide)
      | (rw [List.length_map, h7 (by assumption)]; decide)
      | exact intD_at (by rw [h6 (by assumption)]; decide)
      | exact intD_at (by rw [h12 (by assumption)]; decide)
      | exact intD_at (by rw [h7 (by assumption)]; decide)
  · cases hr
noncomputable def c15 : Ct := ⟨fun | [x] => FitE x | _ => False, fun | [x] => some (.tup [intD (bif checkE x != 0 then 0 else typeE x), intD (bif checkE x != 0 then checkE x else bif typeE x == 0 then 15 else 0)]) | _ => none⟩
noncomputable def T15 : Tab := T40.add 15 c15
theorem k15 : TabOk B T15 := by
  refine add_body base k40 (fn := Tryz.f15) (cd := bodyOf Tryz.f15) (sp := noSp) (hn := noHn) Tryz.func15 (by kernel_rfl) (by kernel_rfl) noSp_ok fun ds r hp hr => ?_
  unfold c15 at hp hr
  simp only [] at hr hp
  split at hr
  · rename_i x
    cases hr
    rw [arg1 (FitE.v hp)]
    refine keep (w15 x fun v => v = _) ?_
    rw [FitE.v hp]
    refine ⟨hp, cond_split (fun h => ?_) (fun h => ?_)⟩
    · simp only [h, cond_true]
    · simp only [h, cond_false]
      have h0 : checkE x = 0 := by simpa using h
      obtain ⟨a1, a2, a3⟩ := k15w h0 (FitE.v hp)
      refine ⟨trivial, ⟨⟨hp, a1, a3⟩, Eq.refl kindsEs⟩, cond_split (fun h => ?_) (fun h => ?_)⟩
      · have : typeE x = 0 := by simpa using h
        simp only [this]; rfl
      · simp only [h, cond_false]
  · cases hr
end Go.Ev.R2
end
section
namespace Go.Ev.R2
open Go Go.Ev Go.Proofs
set_option maxRecDepth 100000
set_option linter.unusedVariables false
set_option linter.unusedSimpArgs false
def cntL (rec : D → Int → Int) : List D → Int → Int
  | [], m => m
  | a :: r, m => bif decide (m ≤ 100) then cntL rec r (rec a m) else m
noncomputable def cnpT (rec : D → Int → Int) (y : D) (n : Int) : Int :=
  (cntL rec (seqD (cellOf y 2)) (IntKind.i64.wrap (n + 1)))
noncomputable def cnpE (y : D) : Int → Int := fixD (fun rec y => cnpT rec y) (fun n => n) (dsz y + 1) y
noncomputable def c49 : Ct := ⟨fun | [x, .lit (.int .i64 n)] => FitP x | _ => False, fun | [x, .lit (.int .i64 n)] => some (.lit (.int .i64 (cnpE x n))) | _ => none⟩
noncomputable def U49 (κ : Nat) : Tab := T15.add 49 (c49.below μ1 κ)
noncomputable def T49 : Tab := T15.add 49 c49
noncomputable def l49 : Code := roundOf (pieceAt (bodyOf Tryz.f49) 6)
noncomputable def S49 (rec : D → Int → Int) (κ : Nat) : Ev.Spec := { L := [1,2,5], ns := [([5000],[4])], L' := [1], nm' := [], G := fun N vals bs k => match vals, bs with
  | [.d (.lit (.int .i64 m)), .ptr [5000] 0, .d (.lit (.int .i64 i))], [.cells 30 [.d (.lit (.int .i64 q)), .d (.slice b1 4 cs), .d (.slice b2 3 xs)]] => (N = 27 ∧ rec = cnpE ∧ i = 0 ∧ Short xs ∧ ∀ y ∈ xs, FitP y ∧ dsz y < κ) ∧ k (.exit 0) [lint (cntL rec xs m)] []
  | _, _ => False }
theorem b49 (κ : Nat) (q : Int) (cs : List D) (xs : List D) (b1 : Bool) (b2 : Bool) (i : Int) (m : Int) (R : X → List V → List Box → Prop) : (roundT (Cn (U49 κ)) (U49 κ) noCS 0 noSp noHn l49 27 [1, 2, 5] [[5000]] [] [([5000], [5000])] [1] []
  [lint m, V.ptr [5000] 0, lint i] [pBox q b1 cs b2 xs] R) =
  (bif bif decide (i < (↑xs.length : Int)) then decide (m ≤ 100) else false then
   ((((0 : Int) ≤ i) ∧ (i.toNat < xs.length ∧ pV (xs.getD i.toNat D.any) = xs.getD i.toNat D.any)) ∧
   ((FitP (pV (xs.getD i.toNat D.any)) ∧ μ1 [pV (xs.getD i.toNat D.any), D.lit (Value.int IntKind.i64 m)] < κ) ∧
   (27 = 27 ∧
   R X.normal
  [V.d (D.lit (Value.int IntKind.i64 (cnpE (pV (xs.getD i.toNat D.any)) m))), V.ptr [5000] 0,
    V.d (D.lit (Value.int IntKind.i64 (IntKind.i64.wrap (i + 1))))]
  [Box.cells 30 [V.d (D.lit (Value.int IntKind.i64 q)), V.d (D.slice b1 4 cs), V.d (D.slice b2 3 xs)]]))) else
   (27 = 27 ∧
   R (X.exit 0) [V.d (D.lit (Value.int IntKind.i64 m))] [])) := by kernel_rfl
theorem w49 (rec : D → Int → Int) (κ : Nat) (y : D) (n : Int) (p : V → Prop) : (evBodyT (Cn (U49 κ)) (U49 κ) noCS 0 (spL [(6, S49 rec κ)]) noHn 49 [V.d (pV y), lint n] Heap.empty fun v H =>
  p (freezeR H v)) =
  ((27 = 27 ∧ (rec = cnpE ∧ (((0 : Int) = 0) ∧ (Short (seqD (cellOf y 2)) ∧ ∀ (y_1 : D), y_1 ∈ seqD (cellOf y 2) → FitP y_1 ∧ dsz y_1 < κ)))) ∧
  p (V.d (D.lit (Value.int IntKind.i64 (cntL rec (seqD (cellOf y 2)) (IntKind.i64.wrap (n + 1))))))) := by kernel_rfl
noncomputable def cntT (rec : D → Int → Int) (y : D) (n : Int) : Int :=
  (bif decide ((↑(seqD (cellOf y 10)).length : Int) > 100) then
 101 else
 (bif bif
    bif intOf (cellOf y 11) != 0 then true
    else
      decide (IntKind.i64.wrap ((↑(seqD (cellOf y 12)).length : Int) + (↑(seqD (cellOf y 13)).length : Int)) > 0) then
  decide (IntKind.i64.wrap (IntKind.i64.wrap (n + 1) + (↑(seqD (cellOf y 10)).length : Int)) ≤ 100)
else false then
 (cntL rec (seqD (cellOf y 15))
          (cnpE (paV y) (IntKind.i64.wrap (IntKind.i64.wrap (n + 1) + (↑(seqD (cellOf y 10)).length : Int))))) else
 (cntL rec (seqD (cellOf y 15))
          (IntKind.i64.wrap (IntKind.i64.wrap (n + 1) + (↑(seqD (cellOf y 10)).length : Int))))))
noncomputable def cntE (y : D) : Int → Int := fixD (fun rec y => cntT rec y) (fun n => n) (dsz y + 1) y
noncomputable def c48 : Ct := ⟨fun | [x, .lit (.int .i64 n)] => FitE x | _ => False, fun | [x, .lit (.int .i64 n)] => some (.lit (.int .i64 (cntE x n))) | _ => none⟩
noncomputable def U48 (κ : Nat) : Tab := T49.add 48 (c48.below μ1 κ)
noncomputable def T48 : Tab := T49.add 48 c48
noncomputable def l48 : Code := roundOf (pieceAt (bodyOf Tryz.f48) 16)
noncomputable def S48 (rec : D → Int → Int) (κ : Nat) : Ev.Spec := { L := [1,2,5], ns := [([5000],[4])], L' := [1], nm' := [], G := fun N vals bs k => match vals, bs with
  | [.d (.lit (.int .i64 m)), .ptr [5000] 0, .d (.lit (.int .i64 i))], [.cells 33 [a0, a1, a2, a3, a4, a5, a6, a7, a8, a9, a10, a11, a12, a13, a14, .d (.slice b 16 xs)]] => (IsE [a0, a1, a2, a3, a4, a5, a6, a7, a8, a9, a10, a11, a12, a13, a14, .d (.slice b 16 xs)] ∧ N = 60 ∧ rec = cntE ∧ i = 0 ∧ Short xs ∧ ∀ y ∈ xs, FitE y ∧ dsz y < κ) ∧ k (.exit 0) [lint (cntL rec xs m)] []
  | _, _ => False }
theorem b48 (κ : Nat) (y : D) (i : Int) (m : Int) (R : X → List V → List Box → Prop) : (roundT (Cn (U48 κ)) (U48 κ) noCS 0 noSp noHn l48 60 [1, 2, 5] [[5000]] [] [([5000], [5000])] [1] []
  [lint m, V.ptr [5000] 0, lint i] [eBox y] R) =
  (bif bif decide (i < (↑(seqD (cellOf y 15)).length : Int)) then decide (m ≤ 100) else false then
   ((((0 : Int) ≤ i) ∧ (i.toNat < (seqD (cellOf y 15)).length ∧ eV ((seqD (cellOf y 15)).getD i.toNat D.any) = (seqD (cellOf y 15)).getD i.toNat D.any)) ∧
   ((FitE (eV ((seqD (cellOf y 15)).getD i.toNat D.any)) ∧ μ1 [eV ((seqD (cellOf y 15)).getD i.toNat D.any), D.lit (Value.int IntKind.i64 m)] < κ) ∧
   (60 = 60 ∧
   R X.normal
  [V.d (D.lit (Value.int IntKind.i64 (cntE (eV ((seqD (cellOf y 15)).getD i.toNat D.any)) m))), V.ptr [5000] 0,
    V.d (D.lit (Value.int IntKind.i64 (IntKind.i64.wrap (i + 1))))]
  [Box.cells 33
      [V.d (D.lit (Value.int IntKind.i64 (intOf (cellOf y 0)))),
        V.d (D.lit (Value.int IntKind.i64 (intOf (cellOf y 1)))),
        V.d (D.slice (nilOf (cellOf y 2)) 3 (seqD (cellOf y 2))),
        V.d (D.lit (Value.int IntKind.i64 (intOf (cellOf y 3)))),
        V.d (D.lit (Value.int IntKind.i64 (intOf (cellOf y 4)))),
        V.d (D.lit (Value.int IntKind.i64 (intOf (cellOf y 5)))),
        V.d (D.lit (Value.int IntKind.i64 (intOf (cellOf y 6)))),
        V.d (D.slice (nilOf (cellOf y 7)) 1 (seqD (cellOf y 7))), V.d (D.lit (Value.bool (boolOf (cellOf y 8)))),
        V.d (D.lit (Value.int IntKind.i64 (intOf (cellOf y 9)))),
        V.d (D.slice (nilOf (cellOf y 10)) 4 (seqD (cellOf y 10))),
        V.d (D.lit (Value.int IntKind.i64 (intOf (cellOf y 11)))),
        V.d (D.slice (nilOf (cellOf y 12)) 4 (seqD (cellOf y 12))),
        V.d (D.slice (nilOf (cellOf y 13)) 3 (seqD (cellOf y 13))), V.d (D.lit (Value.string (strOf (cellOf y 14)))),
        V.d (D.slice (nilOf (cellOf y 15)) 16 (seqD (cellOf y 15)))]]))) else
   (60 = 60 ∧
   R (X.exit 0) [V.d (D.lit (Value.int IntKind.i64 m))] [])) := by kernel_rfl
theorem w48 (rec : D → Int → Int) (κ : Nat) (y : D) (n : Int) (p : V → Prop) : (evBodyT (Cn (U48 κ)) (U48 κ) noCS 0 (spL [(16, S48 rec κ)]) noHn 48 [V.d (eV y), lint n] Heap.empty fun v H =>
  p (freezeR H v)) =
  (bif decide ((↑(seqD (cellOf y 10)).length : Int) > 100) then
   p (V.d (D.lit (Value.int IntKind.i64 101))) else
   (bif bif
    bif intOf (cellOf y 11) != 0 then true
    else
      decide (IntKind.i64.wrap ((↑(seqD (cellOf y 12)).length : Int) + (↑(seqD (cellOf y 13)).length : Int)) > 0) then
  decide (IntKind.i64.wrap (IntKind.i64.wrap (n + 1) + (↑(seqD (cellOf y 10)).length : Int)) ≤ 100)
else false then
    (FitP (paV y) ∧
    ((IsE
  [V.d (D.lit (Value.int IntKind.i64 (intOf (cellOf y 0)))), V.d (D.lit (Value.int IntKind.i64 (intOf (cellOf y 1)))),
    V.d (D.slice (nilOf (cellOf y 2)) 3 (seqD (cellOf y 2))), V.d (D.lit (Value.int IntKind.i64 (intOf (cellOf y 3)))),
    V.d (D.lit (Value.int IntKind.i64 (intOf (cellOf y 4)))), V.d (D.lit (Value.int IntKind.i64 (intOf (cellOf y 5)))),
    V.d (D.lit (Value.int IntKind.i64 (intOf (cellOf y 6)))), V.d (D.slice (nilOf (cellOf y 7)) 1 (seqD (cellOf y 7))),
    V.d (D.lit (Value.bool (boolOf (cellOf y 8)))), V.d (D.lit (Value.int IntKind.i64 (intOf (cellOf y 9)))),
    V.d (D.slice (nilOf (cellOf y 10)) 4 (seqD (cellOf y 10))),
    V.d (D.lit (Value.int IntKind.i64 (intOf (cellOf y 11)))),
    V.d (D.slice (nilOf (cellOf y 12)) 4 (seqD (cellOf y 12))),
    V.d (D.slice (nilOf (cellOf y 13)) 3 (seqD (cellOf y 13))), V.d (D.lit (Value.string (strOf (cellOf y 14)))),
    V.d (D.slice (nilOf (cellOf y 15)) 16 (seqD (cellOf y 15)))] ∧ (60 = 60 ∧ (rec = cntE ∧ (((0 : Int) = 0) ∧ (Short (seqD (cellOf y 15)) ∧ ∀ (y_1 : D), y_1 ∈ seqD (cellOf y 15) → FitE y_1 ∧ dsz y_1 < κ))))) ∧
    p
  (V.d
    (D.lit
      (Value.int IntKind.i64
        (cntL rec (seqD (cellOf y 15))
          (cnpE (paV y) (IntKind.i64.wrap (IntKind.i64.wrap (n + 1) + (↑(seqD (cellOf y 10)).length : Int)))))))))) else
    ((IsE
  [V.d (D.lit (Value.int IntKind.i64 (intOf (cellOf y 0)))), V.d (D.lit (Value.int IntKind.i64 (intOf (cellOf y 1)))),
    V.d (D.slice (nilOf (cellOf y 2)) 3 (seqD (cellOf y 2))), V.d (D.lit (Value.int IntKind.i64 (intOf (cellOf y 3)))),
    V.d (D.lit (Value.int IntKind.i64 (intOf (cellOf y 4)))), V.d (D.lit (Value.int IntKind.i64 (intOf (cellOf y 5)))),
    V.d (D.lit (Value.int IntKind.i64 (intOf (cellOf y 6)))), V.d (D.slice (nilOf (cellOf y 7)) 1 (seqD (cellOf y 7))),
    V.d (D.lit (Value.bool (boolOf (cellOf y 8)))), V.d (D.lit (Value.int IntKind.i64 (intOf (cellOf y 9)))),
    V.d (D.slice (nilOf (cellOf y 10)) 4 (seqD (cellOf y 10))),
    V.d (D.lit (Value.int IntKind.i64 (intOf (cellOf y 11)))),
    V.d (D.slice (nilOf (cellOf y 12)) 4 (seqD (cellOf y 12))),
    V.d (D.slice (nilOf (cellOf y 13)) 3 (seqD (cellOf y 13))), V.d (D.lit (Value.string (strOf (cellOf y 14)))),
    V.d (D.slice (nilOf (cellOf y 15)) 16 (seqD (cellOf y 15)))] ∧ (60 = 60 ∧ (rec = cntE ∧ (((0 : Int) = 0) ∧ (Short (seqD (cellOf y 15)) ∧ ∀ (y_1 : D), y_1 ∈ seqD (cellOf y 15) → FitE y_1 ∧ dsz y_1 < κ))))) ∧
    p
  (V.d
    (D.lit
      (Value.int IntKind.i64
        (cntL rec (seqD (cellOf y 15))
          (IntKind.i64.wrap (IntKind.i64.wrap (n + 1) + (↑(seqD (cellOf y 10)).length : Int)))))))))) := by kernel_rfl
noncomputable def c20 : Ct := ⟨fun | [x] => FitE x | _ => False, fun | [x] => some (.lit (.int .i64 (bif false then if 101 > cntE x 0 then 101 else cntE x 0 else if 101 < cntE x 0 then 101 else cntE x 0))) | _ => none⟩
noncomputable def T20 : Tab := T48.add 20 c20
theorem w20 (y : D) (p : V → Prop) : (evBodyT (Cn T48) T48 noCS 0 noSp noHn 20 [V.d (eV y)] Heap.empty fun v H => p (freezeR H v)) =
  (FitE (eV y) ∧
  p
  (V.d
    (D.lit
      (Value.int IntKind.i64
        (bif false then if 101 > cntE (eV y) 0 then 101 else cntE (eV y) 0
        else if 101 < cntE (eV y) 0 then 101 else cntE (eV y) 0))))) := by kernel_rfl
theorem drop_at {xs : List D} {i : Nat} (h : i < xs.length) : xs.drop i = xs.getD i .any :: xs.drop (i + 1) := by
  rw [List.drop_eq_getElem_cons h, List.getD_eq_getElem?_getD, List.getElem?_eq_getElem h]; rfl
theorem cntL_congr {r r' : D → Int → Int} : ∀ {xs : List D} {m : Int}, (∀ a ∈ xs, r a = r' a) → cntL r xs m = cntL r' xs m
  | [], m, h => rfl
  | a :: l, m, h => by
    unfold cntL
    rw [h a (.head _), cntL_congr fun b hb => h b (.tail _ hb)]
theorem cnpT_congr (r r' : D → Int → Int) (y : D) (h : ∀ a ∈ subs y 2, r a = r' a) : cnpT r y = cnpT r' y := by
  funext n; unfold cnpT; exact cntL_congr h
theorem cnpE_eq (y : D) : cnpE y = cnpT cnpE y := fixD_step (F := fun rec y => cnpT rec y) cnpT_congr y
theorem cntT_congr (r r' : D → Int → Int) (y : D) (h : ∀ a ∈ subs y 15, r a = r' a) : cntT r y = cntT r' y := by
  have e : ∀ m, cntL r (seqD (cellOf y 15)) m = cntL r' (seqD (cellOf y 15)) m := fun m => cntL_congr h
  funext n; unfold cntT; simp only [e]
theorem cntE_eq (y : D) : cntE y = cntT cntE y := fixD_step (F := fun rec y => cntT rec y) cntT_congr y
theorem ok49 {κ : Nat} (hk : TabOk B (U49 κ)) : OkS (Cn (U49 κ)) 0 (.loop l49) (S49 cnpE κ) := by
  refine okS_loop fun N vals bs K h => ?_
  simp only [S49] at h
  split at h
  case h_2 => exact h.elim
  rename_i m i q b1 cs b2 xs
  obtain ⟨⟨rfl, _, rfl, hsh, hx⟩, h⟩ := h
  have main : ∀ k i (m : Int), i + k = xs.length → K (.exit 0) [lint (cntL cnpE (xs.drop i) m)] [] → LoopT (Cn (U49 κ)) 0 l49 27 [1,2,5] [[5000]] [1] [] [lint m, .ptr [5000] 0, lint i] [pBox q b1 cs b2 xs] K := by
    intro k
    induction k with
    | zero =>
      intro i m hi h
      have : i = xs.length := by omega
      subst this
      refine loopT_step (tab_fit base hk noCS_valid) tab_has noSp_ok (hn := noHn) (adsI := []) (nsI := [([5000],[5000])]) (nsX := []) rfl rfl (keep (b49 κ q cs xs b1 b2 xs.length m _) ?_)
      have e1 : decide ((xs.length : Int) < xs.length) = false := by simp
      rw [e1]
      rw [List.drop_length] at h
      exact ⟨rfl, h⟩
    | succ k ih =>
      intro i m hi h
      refine loopT_step (tab_fit base hk noCS_valid) tab_has noSp_ok (hn := noHn) (adsI := []) (nsI := [([5000],[5000])]) (nsX := []) rfl rfl (keep (b49 κ q cs xs b1 b2 i m _) ?_)
      have e1 : decide ((i : Int) < xs.length) = true := by simp; omega
      have hs : xs.length ≤ 1152921504606846976 := hsh
      have e2 : IntKind.i64.wrap ((i : Int) + 1) = ((i + 1 : Nat) : Int) := by rw [Go.IntWalk.i64_in _ (by omega)]; omega
      obtain ⟨hf, hlt⟩ := hx _ (getD_mem (xs := xs) (i := i) (by omega))
      have hv := hf.v
      rw [drop_at (by omega)] at h
      unfold cntL at h
      rw [e1]
      simp only [Int.toNat_natCast, e2, cond_true, hv]
      refine cond_split (fun hb => ?_) (fun hb => ?_)
      · rw [hb] at h
        exact ⟨⟨by omega, by omega, trivial⟩, ⟨hf, hlt⟩, trivial, ih (i + 1) _ (by omega) h⟩
      · rw [hb] at h
        exact ⟨trivial, h⟩
  exact main xs.length 0 m (by omega) (by rw [List.drop_zero]; exact h)
theorem k49 : TabOk B T49 := by
  refine add_rec base k15 μ1 (fn := Tryz.f49) (cd := bodyOf Tryz.f49) (sp := fun n => spL [(6, S49 cnpE n)]) (hn := noHn) Tryz.func49 (by kernel_rfl) (by kernel_rfl) (fun n hk => specT_cons (c := .loop l49) (by kernel_rfl) (ok49 hk) specT_nil) fun κ ds r hp hm hr => ?_
  unfold c49 at hp hr
  simp only [] at hr hp
  split at hr
  · rename_i x n
    cases hr
    rw [arg2 (FitP.v hp)]
    refine keep (w49 cnpE κ x n fun v => v = _) ?_
    rw [cnpE_eq]
    exact ⟨⟨rfl, rfl, rfl, (FitP.l hp).2, fun y hy => ⟨FitP.a hp y hy, hm ▸ subs_lt hy⟩⟩, rfl⟩
  · cases hr
theorem ok48 {κ : Nat} (hk : TabOk B (U48 κ)) : OkS (Cn (U48 κ)) 0 (.loop l48) (S48 cntE κ) := by
  refine okS_loop fun N vals bs K h => ?_
  simp only [S48] at h
  split at h
  case h_2 => exact h.elim
  rename_i m i a0 a1 a2 a3 a4 a5 a6 a7 a8 a9 a10 a11 a12 a13 a14 b xs
  obtain ⟨⟨⟨y, hy⟩, rfl, _, rfl, hsh, hx⟩, h⟩ := h
  have hxs : xs = seqD (cellOf y 15) := by
    have := congrArg (fun l : List V => l.getD 15 .any) hy
    simp at this
    exact this.2
  rw [hy]
  subst hxs
  have main : ∀ k i (m : Int), i + k = (seqD (cellOf y 15)).length → K (.exit 0) [lint (cntL cntE ((seqD (cellOf y 15)).drop i) m)] [] → LoopT (Cn (U48 κ)) 0 l48 60 [1,2,5] [[5000]] [1] [] [lint m, .ptr [5000] 0, lint i] [eBox y] K := by
    intro k
    induction k with
    | zero =>
      intro i m hi h
      have : i = (seqD (cellOf y 15)).length := by omega
      subst this
      refine loopT_step (tab_fit base hk noCS_valid) tab_has noSp_ok (hn := noHn) (adsI := []) (nsI := [([5000],[5000])]) (nsX := []) rfl rfl (keep (b48 κ y (seqD (cellOf y 15)).length m _) ?_)
      have e1 : decide (((seqD (cellOf y 15)).length : Int) < (seqD (cellOf y 15)).length) = false := by simp
      rw [e1]
      rw [List.drop_length] at h
      exact ⟨rfl, h⟩
    | succ k ih =>
      intro i m hi h
      refine loopT_step (tab_fit base hk noCS_valid) tab_has noSp_ok (hn := noHn) (adsI := []) (nsI := [([5000],[5000])]) (nsX := []) rfl rfl (keep (b48 κ y i m _) ?_)
      have e1 : decide ((i : Int) < (seqD (cellOf y 15)).length) = true := by simp; omega
      have hs : (seqD (cellOf y 15)).length ≤ 1152921504606846976 := hsh
      have e2 : IntKind.i64.wrap ((i : Int) + 1) = ((i + 1 : Nat) : Int) := by rw [Go.IntWalk.i64_in _ (by omega)]; omega
      obtain ⟨hf, hlt⟩ := hx _ (getD_mem (xs := seqD (cellOf y 15)) (i := i) (by omega))
      have hv := hf.v
      rw [drop_at (by omega)] at h
      unfold cntL at h
      rw [e1]
      simp only [Int.toNat_natCast, e2, cond_true, hv]
      refine cond_split (fun hb => ?_) (fun hb => ?_)
      · rw [hb] at h
        exact ⟨⟨by omega, by omega, trivial⟩, ⟨hf, hlt⟩, trivial, ih (i + 1) _ (by omega) h⟩
      · rw [hb] at h
        exact ⟨trivial, h⟩
  exact main (seqD (cellOf y 15)).length 0 m (by omega) (by rw [List.drop_zero]; exact h)
theorem k48 : TabOk B T48 := by
  refine add_rec base k49 μ1 (fn := Tryz.f48) (cd := bodyOf Tryz.f48) (sp := fun n => spL [(16, S48 cntE n)]) (hn := noHn) Tryz.func48 (by kernel_rfl) (by kernel_rfl) (fun n hk => specT_cons (c := .loop l48) (by kernel_rfl) (ok48 hk) specT_nil) fun κ ds r hp hm hr => ?_
  unfold c48 at hp hr
  simp only [] at hr hp
  split at hr
  · rename_i x n
    cases hr
    rw [arg2 (FitE.v hp)]
    refine keep (w48 cntE κ x n fun v => v = _) ?_
    rw [cntE_eq]
    unfold cntT
    have hE : IsE (eCells x) := ⟨x, rfl⟩
    have hs : Short (seqD (cellOf x 15)) := (FitE.l hp).2.2
    have ha : ∀ y ∈ seqD (cellOf x 15), FitE y ∧ dsz y < κ := fun y hy => ⟨FitE.a hp y hy, hm ▸ subs_lt hy⟩
    (repeat' (first | with_reducible rfl | (refine cond_split (fun hcw => ?_) (fun hcw => ?_) <;> simp only [hcw, cond_true, cond_false]) | refine and_i ?_ ?_))
    all_goals first | trivial | assumption | exact hE | exact FitE.p hp
  · cases hr
theorem k20 : TabOk B T20 := by
  refine add_body base k48 (fn := Tryz.f20) (cd := bodyOf Tryz.f20) (sp := noSp) (hn := noHn) Tryz.func20 (by kernel_rfl) (by kernel_rfl) noSp_ok fun ds r hp hr => ?_
  unfold c20 at hp hr
  simp only [] at hr hp
  split at hr
  · rename_i x
    cases hr
    rw [arg1 (FitE.v hp)]
    refine keep (w20 x fun v => v = _) ?_
    rw [FitE.v hp]
    exact ⟨hp, rfl⟩
  · cases hr
end Go.Ev.R2
end
section
namespace Go.Ev.R2
open Go Go.Ev Go.Proofs
set_option maxRecDepth 100000
set_option linter.unusedVariables false
set_option linter.unusedSimpArgs false
def anyF (f : D → Bool) (xs : List D) (i : Nat) : Option Bool := bif f (xs.getD i .any) then some true else none
def mBig (y : D) : Bool := bif (bif decide (((strOf (cellOf y 1)).size : Int) > 61) then true else (bif decide (((strOf (cellOf y 2)).size : Int) > 40) then decide (intOf (cellOf y 0) > 2) else false)) then true else decide (((strOf (cellOf y 2)).size : Int) > 201)
noncomputable def l51 : Code := roundOf (pieceAt (bodyOf Tryz.f51) 4)
noncomputable def S51 : Ev.Spec := { L := [0,3], ns := [], L' := [0,2], nm' := [], G := fun N vals bs k => match vals, bs with
  | [.d (.slice b 3 xs), .d (.lit (.int .i64 i))], [] => (N = 46 ∧ i = 0 ∧ Short xs ∧ ∀ y ∈ xs, FitM y) ∧ optE (search (anyF mBig xs) xs.length) (k (.exit 0) [.d (.slice b 3 xs), .any] []) (fun e => k .ret [.d (.slice b 3 xs), lbool e] [])
  | _, _ => False }
theorem b51 (xs : List D) (i : Int) (b : Bool) (R : X → List V → List Box → Prop) : (roundT (Cn T20) T20 noCS 0 noSp noHn l51 46 [0, 3] [] [] [] [0, 2] [] [V.d (D.slice b 3 xs), lint i] [] R) =
  (bif decide (i < (↑xs.length : Int)) then
   ((((0 : Int) ≤ i) ∧ (i.toNat < xs.length ∧ mV (xs.getD i.toNat D.any) = xs.getD i.toNat D.any)) ∧
   (((!decide ((↑(strOf (cellOf (xs.getD i.toNat D.any) 1)).size : Int) > 61) && true) = true → (((0 : Int) ≤ i) ∧ (i.toNat < xs.length ∧ mV (xs.getD i.toNat D.any) = xs.getD i.toNat D.any))) ∧
   (((decide ((↑(strOf (cellOf (xs.getD i.toNat D.any) 2)).size : Int) > 40) &&
    (!decide ((↑(strOf (cellOf (xs.getD i.toNat D.any) 1)).size : Int) > 61) && true)) =
  true → (((0 : Int) ≤ i) ∧ (i.toNat < xs.length ∧ mV (xs.getD i.toNat D.any) = xs.getD i.toNat D.any))) ∧
   ((((!bif decide ((↑(strOf (cellOf (xs.getD i.toNat D.any) 1)).size : Int) > 61) then true
      else
        bif decide ((↑(strOf (cellOf (xs.getD i.toNat D.any) 2)).size : Int) > 40) then
          decide (intOf (cellOf (xs.getD i.toNat D.any) 0) > 2)
        else false) &&
    true) =
  true → (((0 : Int) ≤ i) ∧ (i.toNat < xs.length ∧ mV (xs.getD i.toNat D.any) = xs.getD i.toNat D.any))) ∧
   (bif bif
    bif decide ((↑(strOf (cellOf (xs.getD i.toNat D.any) 1)).size : Int) > 61) then true
    else
      bif decide ((↑(strOf (cellOf (xs.getD i.toNat D.any) 2)).size : Int) > 40) then
        decide (intOf (cellOf (xs.getD i.toNat D.any) 0) > 2)
      else false then
  true
else decide ((↑(strOf (cellOf (xs.getD i.toNat D.any) 2)).size : Int) > 201) then
    (46 = 46 ∧
    R X.ret [V.d (D.slice b 3 xs), V.d (D.lit (Value.bool true))] []) else
    (46 = 46 ∧
    R X.normal [V.d (D.slice b 3 xs), V.d (D.lit (Value.int IntKind.i64 (IntKind.i64.wrap (i + 1))))] [])))))) else
   (46 = 46 ∧
   R (X.exit 0) [V.d (D.slice b 3 xs), V.any] [])) := by kernel_rfl
theorem w51 (xs : List D) (b : Bool) (p : V → Prop) : (evBodyT (Cn T20) T20 noCS 0 (spL [(4, S51)]) noHn 51 [V.d (D.slice b 3 xs)] Heap.empty fun v H => p (freezeR H v)) =
  ((46 = 46 ∧ (((0 : Int) = 0) ∧ (Short xs ∧ ∀ (y : D), y ∈ xs → FitM y))) ∧
  (match search (anyF mBig xs) xs.length with
  | some y0 =>
   p (V.d (D.lit (Value.bool y0)))
  | none => p (V.d (D.lit (Value.bool (decide ((↑xs.length : Int) > 17))))))) := by kernel_rfl
noncomputable def matchersB (xs : List D) : Bool :=
  (match search (anyF mBig xs) xs.length with
 | some y0 => y0
 | none => (decide ((↑xs.length : Int) > 17)))
noncomputable def c51 : Ct := ⟨fun | [.slice _ z xs] => z = 3 ∧ Short xs ∧ ∀ y ∈ xs, FitM y | _ => False, fun | [.slice _ _ xs] => some (.lit (.bool (matchersB xs))) | _ => none⟩
noncomputable def T51 : Tab := T20.add 51 c51
def nBig (y : D) : Bool := decide (((strOf y).size : Int) > 70)
noncomputable def l52 : Code := roundOf (pieceAt (bodyOf Tryz.f52) 4)
noncomputable def S52 : Ev.Spec := { L := [0,3], ns := [], L' := [0,2], nm' := [], G := fun N vals bs k => match vals, bs with
  | [.d (.slice b 1 xs), .d (.lit (.int .i64 i))], [] => (N = 19 ∧ i = 0 ∧ Short xs ∧ ∀ y ∈ xs, FitN y) ∧ optE (search (anyF nBig xs) xs.length) (k (.exit 0) [.d (.slice b 1 xs), .any] []) (fun e => k .ret [.d (.slice b 1 xs), lbool e] [])
  | _, _ => False }
theorem b52 (xs : List D) (i : Int) (b : Bool) (R : X → List V → List Box → Prop) : (roundT (Cn T51) T51 noCS 0 noSp noHn l52 19 [0, 3] [] [] [] [0, 2] [] [V.d (D.slice b 1 xs), lint i] [] R) =
  (bif decide (i < (↑xs.length : Int)) then
   ((((0 : Int) ≤ i) ∧ (i.toNat < xs.length ∧ D.lit (Value.string (strOf (xs.getD i.toNat D.any))) = xs.getD i.toNat D.any)) ∧
   (bif decide ((↑(strOf (xs.getD i.toNat D.any)).size : Int) > 70) then
    (19 = 19 ∧
    R X.ret [V.d (D.slice b 1 xs), V.d (D.lit (Value.bool true))] []) else
    (19 = 19 ∧
    R X.normal [V.d (D.slice b 1 xs), V.d (D.lit (Value.int IntKind.i64 (IntKind.i64.wrap (i + 1))))] []))) else
   (19 = 19 ∧
   R (X.exit 0) [V.d (D.slice b 1 xs), V.any] [])) := by kernel_rfl
theorem w52 (xs : List D) (b : Bool) (p : V → Prop) : (evBodyT (Cn T51) T51 noCS 0 (spL [(4, S52)]) noHn 52 [V.d (D.slice b 1 xs)] Heap.empty fun v H => p (freezeR H v)) =
  ((19 = 19 ∧ (((0 : Int) = 0) ∧ (Short xs ∧ ∀ (y : D), y ∈ xs → FitN y))) ∧
  (match search (anyF nBig xs) xs.length with
  | some y0 =>
   p (V.d (D.lit (Value.bool y0)))
  | none => p (V.d (D.lit (Value.bool (decide ((↑xs.length : Int) > 17))))))) := by kernel_rfl
noncomputable def namesB (xs : List D) : Bool :=
  (match search (anyF nBig xs) xs.length with
 | some y0 => y0
 | none => (decide ((↑xs.length : Int) > 17)))
noncomputable def c52 : Ct := ⟨fun | [.slice _ z xs] => z = 1 ∧ Short xs ∧ ∀ y ∈ xs, FitN y | _ => False, fun | [.slice _ _ xs] => some (.lit (.bool (namesB xs))) | _ => none⟩
noncomputable def T52 : Tab := T51.add 52 c52
noncomputable def l22 : Code := roundOf (pieceAt (bodyOf Tryz.f22) 8)
theorem b22 (xs : List D) (i : Int) (b : Bool) (R : X → List V → List Box → Prop) : (roundT (Cn T52) T52 noCS 0 noSp noHn l22 45 [0, 3] [] [] [] [2] [] [V.d (D.slice b 4 xs), lint i] [] R) =
  (bif bif decide (i < (↑xs.length : Int)) then decide (i < 12) else false then
   ((((0 : Int) ≤ i) ∧ (i.toNat < xs.length ∧ gV (xs.getD i.toNat D.any) = xs.getD i.toNat D.any)) ∧
   (((!decide ((↑(strOf (cellOf (xs.getD i.toNat D.any) 1)).size : Int) > 210) && true) = true → (((0 : Int) ≤ i) ∧ (i.toNat < xs.length ∧ gV (xs.getD i.toNat D.any) = xs.getD i.toNat D.any))) ∧
   (((!decide ((↑(strOf (cellOf (xs.getD i.toNat D.any) 1)).size : Int) > 210) && true) = true → (3 = 3 ∧ (Short (seqD (cellOf (xs.getD i.toNat D.any) 2)) ∧ ∀ (y : D), y ∈ seqD (cellOf (xs.getD i.toNat D.any) (0 + 1 + 1)) → FitM y))) ∧
   ((((!bif decide ((↑(strOf (cellOf (xs.getD i.toNat D.any) 1)).size : Int) > 210) then true
      else matchersB (seqD (cellOf (xs.getD i.toNat D.any) 2))) &&
    true) =
  true → (((0 : Int) ≤ i) ∧ (i.toNat < xs.length ∧ gV (xs.getD i.toNat D.any) = xs.getD i.toNat D.any))) ∧
   ((((!bif decide ((↑(strOf (cellOf (xs.getD i.toNat D.any) 1)).size : Int) > 210) then true
      else matchersB (seqD (cellOf (xs.getD i.toNat D.any) 2))) &&
    true) =
  true → (1 = 1 ∧ (Short (seqD (cellOf (xs.getD i.toNat D.any) 3)) ∧ ∀ (y : D), y ∈ seqD (cellOf (xs.getD i.toNat D.any) (0 + 1 + 1 + 1)) → FitN y))) ∧
   (bif bif
    bif decide ((↑(strOf (cellOf (xs.getD i.toNat D.any) 1)).size : Int) > 210) then true
    else matchersB (seqD (cellOf (xs.getD i.toNat D.any) 2)) then
  true
else namesB (seqD (cellOf (xs.getD i.toNat D.any) 3)) then
    (45 = 45 ∧
    R X.ret [V.d (D.lit (Value.bool true))] []) else
    (45 = 45 ∧
    R X.normal [V.d (D.slice b 4 xs), V.d (D.lit (Value.int IntKind.i64 (IntKind.i64.wrap (i + 1))))] []))))))) else
   (45 = 45 ∧
   R (X.exit 0) [V.any] [])) := by kernel_rfl
noncomputable def gBig (y : D) : Bool := bif (bif decide (((strOf (cellOf y 1)).size : Int) > 210) then true else matchersB (seqD (cellOf y 2))) then true else namesB (seqD (cellOf y 3))
noncomputable def S22 : Ev.Spec := { L := [0,3], ns := [], L' := [2], nm' := [], G := fun N vals bs k => match vals, bs with
  | [.d (.slice b 4 xs), .d (.lit (.int .i64 i))], [] => (N = 45 ∧ i = 0 ∧ Short xs ∧ ∀ y ∈ xs, FitG y) ∧ optE (search (anyF gBig xs) (min xs.length 12)) (k (.exit 0) [.any] []) (fun e => k .ret [lbool e] [])
  | _, _ => False }
theorem w22 (xs : List D) (b : Bool) (p : V → Prop) : (evBodyT (Cn T52) T52 noCS 0 (spL [(8, S22)]) noHn 22 [V.d (D.slice b 4 xs)] Heap.empty fun v H => p (freezeR H v)) =
  (bif bif decide ((↑xs.length : Int) > 12) then decide ((↑xs.length : Int) ≤ 100) else false then
   p (V.d (D.lit (Value.bool true))) else
   ((45 = 45 ∧ (((0 : Int) = 0) ∧ (Short xs ∧ ∀ (y : D), y ∈ xs → FitG y))) ∧
   (match search (anyF gBig xs) (min xs.length 12) with
   | some y0 =>
    p (V.d (D.lit (Value.bool y0)))
   | none => p (V.d (D.lit (Value.bool false)))))) := by kernel_rfl
noncomputable def stagesB (xs : List D) : Bool :=
  (bif bif decide ((↑xs.length : Int) > 12) then decide ((↑xs.length : Int) ≤ 100) else false then
 true else
 (match search (anyF gBig xs) (min xs.length 12) with
 | some y0 => y0
 | none => false))
noncomputable def c22 : Ct := ⟨fun | [.slice _ z xs] => z = 4 ∧ Short xs ∧ ∀ y ∈ xs, FitG y | _ => False, fun | [.slice _ _ xs] => some (.lit (.bool (stagesB xs))) | _ => none⟩
noncomputable def T22 : Tab := T52.add 22 c22
theorem ok51 : OkS (Cn T20) 0 (.loop l51) S51 := by
  refine okS_loop fun N vals bs K h => ?_
  simp only [S51] at h
  split at h
  case h_2 => exact h.elim
  rename_i b xs i
  obtain ⟨⟨rfl, rfl, hsh, hall⟩, h⟩ := h
  have hs : xs.length ≤ 1152921504606846976 := hsh
  refine search_loop (tab_fit base k20 noCS_valid) tab_has noSp_ok (hn := noHn) (adsI := []) (nsI := []) (nsX := []) rfl rfl xs.length
    (fun i => [.d (.slice b 3 xs), lint i]) (fun _ => []) (anyF mBig xs) (fun e => (.ret, [.d (.slice b 3 xs), lbool e], [])) (by simp) (.exit 0) [.d (.slice b 3 xs), .any] [] (by simp) ?_ ?_ h
  · intro i R hi hR
    refine keep (b51 xs i b R) ?_
    have e1 : decide ((i : Int) < xs.length) = true := by simp; omega
    have e2 : IntKind.i64.wrap ((i : Int) + 1) = ((i + 1 : Nat) : Int) := by rw [Go.IntWalk.i64_in _ (by omega)]; omega
    have hv := hall _ (getD_mem hi)
    have hg : (0 : Int) ≤ i ∧ i < xs.length ∧ mV (xs.getD i .any) = xs.getD i .any := ⟨by omega, hi, hv⟩
    rw [e1]
    simp only [Int.toNat_natCast, e2, cond_true]
    refine ⟨hg, fun _ => hg, fun _ => hg, fun _ => hg, cond_split (fun h1 => ⟨trivial, ?_⟩) (fun h1 => ⟨trivial, ?_⟩)⟩ <;> (simp only [anyF, mBig, h1, cond_true, cond_false, optE] at hR; exact hR)
  · intro R hR
    refine keep (b51 xs xs.length b R) ?_
    have e1 : decide ((xs.length : Int) < xs.length) = false := by simp
    rw [e1]
    exact ⟨rfl, hR⟩
theorem k51 : TabOk B T51 := by
  refine add_body base k20 (fn := Tryz.f51) (cd := bodyOf Tryz.f51) (sp := spL [(4, S51)]) (hn := noHn) Tryz.func51 (by kernel_rfl) (by kernel_rfl) (specT_cons (c := .loop l51) (by kernel_rfl) ok51 specT_nil) fun ds r hp hr => ?_
  unfold c51 at hp hr
  simp only [] at hr hp
  split at hr
  · rename_i b z xs
    cases hr
    obtain ⟨rfl, hs, hall⟩ := hp
    refine keep (w51 xs b fun v => v = _) ?_
    unfold matchersB
    refine ⟨⟨rfl, rfl, hs, hall⟩, ?_⟩
    cases search (anyF mBig xs) xs.length <;> rfl
  · cases hr
theorem ok52 : OkS (Cn T51) 0 (.loop l52) S52 := by
  refine okS_loop fun N vals bs K h => ?_
  simp only [S52] at h
  split at h
  case h_2 => exact h.elim
  rename_i b xs i
  obtain ⟨⟨rfl, rfl, hsh, hall⟩, h⟩ := h
  have hs : xs.length ≤ 1152921504606846976 := hsh
  refine search_loop (tab_fit base k51 noCS_valid) tab_has noSp_ok (hn := noHn) (adsI := []) (nsI := []) (nsX := []) rfl rfl xs.length
    (fun i => [.d (.slice b 1 xs), lint i]) (fun _ => []) (anyF nBig xs) (fun e => (.ret, [.d (.slice b 1 xs), lbool e], [])) (by simp) (.exit 0) [.d (.slice b 1 xs), .any] [] (by simp) ?_ ?_ h
  · intro i R hi hR
    refine keep (b52 xs i b R) ?_
    have e1 : decide ((i : Int) < xs.length) = true := by simp; omega
    have e2 : IntKind.i64.wrap ((i : Int) + 1) = ((i + 1 : Nat) : Int) := by rw [Go.IntWalk.i64_in _ (by omega)]; omega
    have hv := hall _ (getD_mem hi)
    have hg : (0 : Int) ≤ i ∧ i < xs.length ∧ D.lit (Value.string (strOf (xs.getD i .any))) = xs.getD i .any := ⟨by omega, hi, hv⟩
    rw [e1]
    simp only [Int.toNat_natCast, e2, cond_true]
    refine ⟨hg, cond_split (fun h1 => ⟨trivial, ?_⟩) (fun h1 => ⟨trivial, ?_⟩)⟩ <;> (simp only [anyF, nBig, h1, cond_true, cond_false, optE] at hR; exact hR)
  · intro R hR
    refine keep (b52 xs xs.length b R) ?_
    have e1 : decide ((xs.length : Int) < xs.length) = false := by simp
    rw [e1]
    exact ⟨rfl, hR⟩
theorem k52 : TabOk B T52 := by
  refine add_body base k51 (fn := Tryz.f52) (cd := bodyOf Tryz.f52) (sp := spL [(4, S52)]) (hn := noHn) Tryz.func52 (by kernel_rfl) (by kernel_rfl) (specT_cons (c := .loop l52) (by kernel_rfl) ok52 specT_nil) fun ds r hp hr => ?_
  unfold c52 at hp hr
  simp only [] at hr hp
  split at hr
  · rename_i b z xs
    cases hr
    obtain ⟨rfl, hs, hall⟩ := hp
    refine keep (w52 xs b fun v => v = _) ?_
    unfold namesB
    refine ⟨⟨rfl, rfl, hs, hall⟩, ?_⟩
    cases search (anyF nBig xs) xs.length <;> rfl
  · cases hr
theorem ok22 : OkS (Cn T52) 0 (.loop l22) S22 := by
  refine okS_loop fun N vals bs K h => ?_
  simp only [S22] at h
  split at h
  case h_2 => exact h.elim
  rename_i b xs i
  obtain ⟨⟨rfl, rfl, hsh, hall⟩, h⟩ := h
  have hs : xs.length ≤ 1152921504606846976 := hsh
  refine search_loop (tab_fit base k52 noCS_valid) tab_has noSp_ok (hn := noHn) (adsI := []) (nsI := []) (nsX := []) rfl rfl (min xs.length 12)
    (fun i => [.d (.slice b 4 xs), lint i]) (fun _ => []) (anyF gBig xs) (fun e => (.ret, [lbool e], [])) (by simp) (.exit 0) [.any] [] (by simp) ?_ ?_ h
  · intro i R hi hR
    have hi' : i < xs.length := by omega
    refine keep (b22 xs i b R) ?_
    have e1 : decide ((i : Int) < xs.length) = true := by simp; omega
    have e0 : decide ((i : Int) < 12) = true := by simp; omega
    have e2 : IntKind.i64.wrap ((i : Int) + 1) = ((i + 1 : Nat) : Int) := by rw [Go.IntWalk.i64_in _ (by omega)]; omega
    have hv := hall _ (getD_mem hi')
    have hg : (0 : Int) ≤ i ∧ i < xs.length ∧ gV (xs.getD i .any) = xs.getD i .any := ⟨by omega, hi', hv.v⟩
    rw [e1, e0]
    simp only [Int.toNat_natCast, e2, cond_true]
    refine ⟨hg, fun _ => hg, fun _ => ⟨trivial, hv.ml, hv.m⟩, fun _ => hg, fun _ => ⟨trivial, hv.nl, hv.n⟩, cond_split (fun h1 => ⟨trivial, ?_⟩) (fun h1 => ⟨trivial, ?_⟩)⟩ <;> (simp only [anyF, gBig, h1, cond_true, cond_false, optE] at hR; exact hR)
  · intro R hR
    refine keep (b22 xs (min xs.length 12 : Nat) b R) ?_
    have e1 : (bif decide (((min xs.length 12 : Nat) : Int) < xs.length) then decide (((min xs.length 12 : Nat) : Int) < 12) else false) = false := by
      by_cases h : xs.length ≤ 12
      · have : decide (((min xs.length 12 : Nat) : Int) < xs.length) = false := by simp; omega
        rw [this]; rfl
      · have : decide (((min xs.length 12 : Nat) : Int) < 12) = false := by simp; omega
        rw [this]; cases decide (((min xs.length 12 : Nat) : Int) < xs.length) <;> rfl
    rw [e1]
    exact ⟨rfl, hR⟩
theorem k22 : TabOk B T22 := by
  refine add_body base k52 (fn := Tryz.f22) (cd := bodyOf Tryz.f22) (sp := spL [(8, S22)]) (hn := noHn) Tryz.func22 (by kernel_rfl) (by kernel_rfl) (specT_cons (c := .loop l22) (by kernel_rfl) ok22 specT_nil) fun ds r hp hr => ?_
  unfold c22 at hp hr
  simp only [] at hr hp
  split at hr
  · rename_i b z xs
    cases hr
    obtain ⟨rfl, hs, hall⟩ := hp
    refine keep (w22 xs b fun v => v = _) ?_
    unfold stagesB
    generalize search (anyF gBig xs) (min xs.length 12) = o1
    cases o1 <;> (repeat' (first | with_reducible rfl | (refine cond_split (fun hcw => ?_) (fun hcw => ?_) <;> simp only [hcw, cond_true, cond_false]) | refine and_i ?_ ?_))
    all_goals first | trivial | assumption
  · cases hr
end Go.Ev.R2
end
section
namespace Go.Ev.R2
open Go Go.Ev Go.Proofs
set_option maxRecDepth 100000
set_option linter.unusedVariables false
set_option linter.unusedSimpArgs false
noncomputable def cBig (y : D) : Bool := bif decide (((strOf (cellOf y 2)).size : Int) > 210) then true else decide (((strOf (cellOf y 0)).size : Int) > 100)
noncomputable def gpT (rec : D → Bool) (y : D) : Bool :=
  (bif decide ((↑(seqD (cellOf y 1)).length : Int) > 17) then
 true else
 (match search (anyF cBig (seqD (cellOf y 1))) (seqD (cellOf y 1)).length with
 | some y1 => y1
 | none => (match search (anyF rec (seqD (cellOf y 2))) (seqD (cellOf y 2)).length with
 | some y0 => y0
 | none => false)))
noncomputable def gpE (y : D) : Bool := fixD gpT false (dsz y + 1) y
noncomputable def c50 : Ct := ⟨fun | [x] => FitP x | _ => False, fun | [x] => some (.lit (.bool (gpE x))) | _ => none⟩
noncomputable def U50 (κ : Nat) : Tab := T22.add 50 (c50.below μ1 κ)
noncomputable def T50 : Tab := T22.add 50 c50
noncomputable def l50a : Code := roundOf (pieceAt (bodyOf Tryz.f50) 8)
noncomputable def l50b : Code := roundOf (pieceAt (bodyOf Tryz.f50) 18)
noncomputable def S50a : Ev.Spec := { L := [1,3], ns := [([5000],[3])], L' := [1,2], nm' := [[5000]], G := fun N vals bs k => match vals, bs with
  | [.ptr [5000] 0, .d (.lit (.int .i64 i))], [.cells 30 [.d (.lit (.int .i64 q)), .d (.slice b1 4 cs), .d (.slice b2 3 xs)]] => (N = 47 ∧ i = 0 ∧ Short cs ∧ ∀ y ∈ cs, FitC y) ∧ optE (search (anyF cBig cs) cs.length) (k (.exit 0) [.ptr [5000] 0, .any] [pBox q b1 cs b2 xs]) (fun e => k .ret [.ptr [5000] 0, lbool e] [pBox q b1 cs b2 xs])
  | _, _ => False }
noncomputable def S50b (rec : D → Bool) (κ : Nat) : Ev.Spec := { L := [1,4], ns := [([5000],[5000])], L' := [2], nm' := [], G := fun N vals bs k => match vals, bs with
  | [.ptr [5000] 0, .d (.lit (.int .i64 i))], [.cells 30 [.d (.lit (.int .i64 q)), .d (.slice b1 4 cs), .d (.slice b2 3 xs)]] => (N = 47 ∧ rec = gpE ∧ i = 0 ∧ Short xs ∧ ∀ y ∈ xs, FitP y ∧ dsz y < κ) ∧ optE (search (anyF rec xs) xs.length) (k (.exit 2) [.any] []) (fun e => k .ret [lbool e] [])
  | _, _ => False }
theorem b50a (κ : Nat) (q : Int) (cs : List D) (xs : List D) (b1 : Bool) (b2 : Bool) (i : Int) (R : X → List V → List Box → Prop) : (roundT (Cn (U50 κ)) (U50 κ) noCS 0 noSp noHn l50a 47 [1, 3] [[5000]] [] [([5000], [5000])] [1, 2] [([5000], [5000])]
  [V.ptr [5000] 0, lint i] [pBox q b1 cs b2 xs] R) =
  (bif decide (i < (↑cs.length : Int)) then
   ((((0 : Int) ≤ i) ∧ (i.toNat < cs.length ∧ cV (cs.getD i.toNat D.any) = cs.getD i.toNat D.any)) ∧
   (((!decide ((↑(strOf (cellOf (cs.getD i.toNat D.any) 2)).size : Int) > 210) && true) = true → (((0 : Int) ≤ i) ∧ (i.toNat < cs.length ∧ cV (cs.getD i.toNat D.any) = cs.getD i.toNat D.any))) ∧
   (bif bif decide ((↑(strOf (cellOf (cs.getD i.toNat D.any) 2)).size : Int) > 210) then true
else decide ((↑(strOf (cellOf (cs.getD i.toNat D.any) 0)).size : Int) > 100) then
    (47 = 47 ∧
    R X.ret [V.ptr [5000] 0, V.d (D.lit (Value.bool true))]
  [Box.cells 30 [V.d (D.lit (Value.int IntKind.i64 q)), V.d (D.slice b1 4 cs), V.d (D.slice b2 3 xs)]]) else
    (47 = 47 ∧
    R X.normal [V.ptr [5000] 0, V.d (D.lit (Value.int IntKind.i64 (IntKind.i64.wrap (i + 1))))]
  [Box.cells 30 [V.d (D.lit (Value.int IntKind.i64 q)), V.d (D.slice b1 4 cs), V.d (D.slice b2 3 xs)]])))) else
   (47 = 47 ∧
   R (X.exit 0) [V.ptr [5000] 0, V.any]
  [Box.cells 30 [V.d (D.lit (Value.int IntKind.i64 q)), V.d (D.slice b1 4 cs), V.d (D.slice b2 3 xs)]])) := by kernel_rfl
theorem b50b (κ : Nat) (q : Int) (cs : List D) (xs : List D) (b1 : Bool) (b2 : Bool) (i : Int) (R : X → List V → List Box → Prop) : (roundT (Cn (U50 κ)) (U50 κ) noCS 0 noSp noHn l50b 47 [1, 4] [[5000]] [] [([5000], [5000])] [2] []
  [V.ptr [5000] 0, lint i] [pBox q b1 cs b2 xs] R) =
  (bif decide (i < (↑xs.length : Int)) then
   ((((0 : Int) ≤ i) ∧ (i.toNat < xs.length ∧ pV (xs.getD i.toNat D.any) = xs.getD i.toNat D.any)) ∧
   ((FitP (pV (xs.getD i.toNat D.any)) ∧ μ1 [pV (xs.getD i.toNat D.any)] < κ) ∧
   (bif gpE (pV (xs.getD i.toNat D.any)) then
    (47 = 47 ∧
    R X.ret [V.d (D.lit (Value.bool true))] []) else
    (47 = 47 ∧
    R X.normal [V.ptr [5000] 0, V.d (D.lit (Value.int IntKind.i64 (IntKind.i64.wrap (i + 1))))]
  [Box.cells 30 [V.d (D.lit (Value.int IntKind.i64 q)), V.d (D.slice b1 4 cs), V.d (D.slice b2 3 xs)]])))) else
   (47 = 47 ∧
   R (X.exit 2) [V.any] [])) := by kernel_rfl
theorem w50 (rec : D → Bool) (κ : Nat) (y : D) (p : V → Prop) : (evBodyT (Cn (U50 κ)) (U50 κ) noCS 0 (spL [(8, S50a), (18, S50b rec κ)]) noHn 50 [V.d (pV y)] Heap.empty fun v H =>
  p (freezeR H v)) =
  (bif decide ((↑(seqD (cellOf y 1)).length : Int) > 17) then
   p (V.d (D.lit (Value.bool true))) else
   ((47 = 47 ∧ (((0 : Int) = 0) ∧ (Short (seqD (cellOf y 1)) ∧ ∀ (y_1 : D), y_1 ∈ seqD (cellOf y 1) → FitC y_1))) ∧
   (match search (anyF cBig (seqD (cellOf y 1))) (seqD (cellOf y 1)).length with
   | some y1 =>
    p (V.d (D.lit (Value.bool y1)))
   | none => ((47 = 47 ∧ (rec = gpE ∧ (((0 : Int) = 0) ∧ (Short (seqD (cellOf y 2)) ∧ ∀ (y_1 : D), y_1 ∈ seqD (cellOf y 2) → FitP y_1 ∧ dsz y_1 < κ)))) ∧
    (match search (anyF rec (seqD (cellOf y 2))) (seqD (cellOf y 2)).length with
    | some y0 =>
     p (V.d (D.lit (Value.bool y0)))
    | none => p (V.d (D.lit (Value.bool false)))))))) := by kernel_rfl
noncomputable def goT (rec : D → Bool) (y : D) : Bool :=
  (bif bif
    bif
        bif bif decide ((↑(strOf (cellOf y 14)).size : Int) > 210) then true else matchersB (seqD (cellOf y 2)) then
          true
        else namesB (seqD (cellOf y 7)) then
      true
    else stagesB (seqD (cellOf y 10)) then
  true
else gpE (paV y) then
 true else
 (match search (anyF rec (seqD (cellOf y 15))) (seqD (cellOf y 15)).length with
 | some y0 => y0
 | none => false))
noncomputable def goE (y : D) : Bool := fixD goT false (dsz y + 1) y
noncomputable def c38 : Ct := ⟨fun | [x] => FitE x | _ => False, fun | [x] => some (.lit (.bool (goE x))) | _ => none⟩
noncomputable def U38 (κ : Nat) : Tab := T50.add 38 (c38.below μ1 κ)
noncomputable def T38 : Tab := T50.add 38 c38
noncomputable def l38 : Code := roundOf (pieceAt (bodyOf Tryz.f38) 8)
noncomputable def S38 (rec : D → Bool) (κ : Nat) : Ev.Spec := { L := [1,3], ns := [([5000],[3])], L' := [2], nm' := [], G := fun N vals bs k => match vals, bs with
  | [.ptr [5000] 0, .d (.lit (.int .i64 i))], [.cells 33 [a0, a1, a2, a3, a4, a5, a6, a7, a8, a9, a10, a11, a12, a13, a14, .d (.slice b 16 xs)]] => (IsE [a0, a1, a2, a3, a4, a5, a6, a7, a8, a9, a10, a11, a12, a13, a14, .d (.slice b 16 xs)] ∧ N = 41 ∧ rec = goE ∧ i = 0 ∧ Short xs ∧ ∀ y ∈ xs, FitE y ∧ dsz y < κ) ∧ optE (search (anyF rec xs) xs.length) (k (.exit 0) [.any] []) (fun e => k .ret [lbool e] [])
  | _, _ => False }
theorem b38 (κ : Nat) (y : D) (i : Int) (R : X → List V → List Box → Prop) : (roundT (Cn (U38 κ)) (U38 κ) noCS 0 noSp noHn l38 41 [1, 3] [[5000]] [] [([5000], [5000])] [2] []
  [V.ptr [5000] 0, lint i] [eBox y] R) =
  (bif decide (i < (↑(seqD (cellOf y 15)).length : Int)) then
   ((((0 : Int) ≤ i) ∧ (i.toNat < (seqD (cellOf y 15)).length ∧ eV ((seqD (cellOf y 15)).getD i.toNat D.any) = (seqD (cellOf y 15)).getD i.toNat D.any)) ∧
   ((FitE (eV ((seqD (cellOf y 15)).getD i.toNat D.any)) ∧ μ1 [eV ((seqD (cellOf y 15)).getD i.toNat D.any)] < κ) ∧
   (bif goE (eV ((seqD (cellOf y 15)).getD i.toNat D.any)) then
    (41 = 41 ∧
    R X.ret [V.d (D.lit (Value.bool true))] []) else
    (41 = 41 ∧
    R X.normal [V.ptr [5000] 0, V.d (D.lit (Value.int IntKind.i64 (IntKind.i64.wrap (i + 1))))]
  [Box.cells 33
      [V.d (D.lit (Value.int IntKind.i64 (intOf (cellOf y 0)))),
        V.d (D.lit (Value.int IntKind.i64 (intOf (cellOf y 1)))),
        V.d (D.slice (nilOf (cellOf y 2)) 3 (seqD (cellOf y 2))),
        V.d (D.lit (Value.int IntKind.i64 (intOf (cellOf y 3)))),
        V.d (D.lit (Value.int IntKind.i64 (intOf (cellOf y 4)))),
        V.d (D.lit (Value.int IntKind.i64 (intOf (cellOf y 5)))),
        V.d (D.lit (Value.int IntKind.i64 (intOf (cellOf y 6)))),
        V.d (D.slice (nilOf (cellOf y 7)) 1 (seqD (cellOf y 7))), V.d (D.lit (Value.bool (boolOf (cellOf y 8)))),
        V.d (D.lit (Value.int IntKind.i64 (intOf (cellOf y 9)))),
        V.d (D.slice (nilOf (cellOf y 10)) 4 (seqD (cellOf y 10))),
        V.d (D.lit (Value.int IntKind.i64 (intOf (cellOf y 11)))),
        V.d (D.slice (nilOf (cellOf y 12)) 4 (seqD (cellOf y 12))),
        V.d (D.slice (nilOf (cellOf y 13)) 3 (seqD (cellOf y 13))), V.d (D.lit (Value.string (strOf (cellOf y 14)))),
        V.d (D.slice (nilOf (cellOf y 15)) 16 (seqD (cellOf y 15)))]])))) else
   (41 = 41 ∧
   R (X.exit 0) [V.any] [])) := by kernel_rfl
theorem w38 (rec : D → Bool) (κ : Nat) (y : D) (p : V → Prop) : (evBodyT (Cn (U38 κ)) (U38 κ) noCS 0 (spL [(8, S38 rec κ)]) noHn 38 [V.d (eV y)] Heap.empty fun v H => p (freezeR H v)) =
  (((!decide ((↑(strOf (cellOf y 14)).size : Int) > 210) && true) = true → (3 = 3 ∧ (Short (seqD (cellOf y 2)) ∧ ∀ (y_1 : D), y_1 ∈ seqD (cellOf y 2) → FitM y_1))) ∧
  ((((!bif decide ((↑(strOf (cellOf y 14)).size : Int) > 210) then true else matchersB (seqD (cellOf y 2))) && true) = true → (1 = 1 ∧ (Short (seqD (cellOf y 7)) ∧ ∀ (y_1 : D), y_1 ∈ seqD (cellOf y 7) → FitN y_1))) ∧
  ((((!bif bif decide ((↑(strOf (cellOf y 14)).size : Int) > 210) then true else matchersB (seqD (cellOf y 2)) then true
      else namesB (seqD (cellOf y 7))) &&
    true) =
  true → (4 = 4 ∧ (Short (seqD (cellOf y 10)) ∧ ∀ (y_1 : D), y_1 ∈ seqD (cellOf y 10) → FitG y_1))) ∧
  ((((!bif
          bif bif decide ((↑(strOf (cellOf y 14)).size : Int) > 210) then true else matchersB (seqD (cellOf y 2)) then
            true
          else namesB (seqD (cellOf y 7)) then
        true
      else stagesB (seqD (cellOf y 10))) &&
    true) =
  true → FitP (paV y)) ∧
  (bif bif
    bif
        bif bif decide ((↑(strOf (cellOf y 14)).size : Int) > 210) then true else matchersB (seqD (cellOf y 2)) then
          true
        else namesB (seqD (cellOf y 7)) then
      true
    else stagesB (seqD (cellOf y 10)) then
  true
else gpE (paV y) then
   p (V.d (D.lit (Value.bool true))) else
   ((IsE
  [V.d (D.lit (Value.int IntKind.i64 (intOf (cellOf y 0)))), V.d (D.lit (Value.int IntKind.i64 (intOf (cellOf y 1)))),
    V.d (D.slice (nilOf (cellOf y 2)) 3 (seqD (cellOf y 2))), V.d (D.lit (Value.int IntKind.i64 (intOf (cellOf y 3)))),
    V.d (D.lit (Value.int IntKind.i64 (intOf (cellOf y 4)))), V.d (D.lit (Value.int IntKind.i64 (intOf (cellOf y 5)))),
    V.d (D.lit (Value.int IntKind.i64 (intOf (cellOf y 6)))), V.d (D.slice (nilOf (cellOf y 7)) 1 (seqD (cellOf y 7))),
    V.d (D.lit (Value.bool (boolOf (cellOf y 8)))), V.d (D.lit (Value.int IntKind.i64 (intOf (cellOf y 9)))),
    V.d (D.slice (nilOf (cellOf y 10)) 4 (seqD (cellOf y 10))),
    V.d (D.lit (Value.int IntKind.i64 (intOf (cellOf y 11)))),
    V.d (D.slice (nilOf (cellOf y 12)) 4 (seqD (cellOf y 12))),
    V.d (D.slice (nilOf (cellOf y 13)) 3 (seqD (cellOf y 13))), V.d (D.lit (Value.string (strOf (cellOf y 14)))),
    V.d (D.slice (nilOf (cellOf y 15)) 16 (seqD (cellOf y 15)))] ∧ (41 = 41 ∧ (rec = goE ∧ (((0 : Int) = 0) ∧ (Short (seqD (cellOf y 15)) ∧ ∀ (y_1 : D), y_1 ∈ seqD (cellOf y 15) → FitE y_1 ∧ dsz y_1 < κ))))) ∧
   (match search (anyF rec (seqD (cellOf y 15))) (seqD (cellOf y 15)).length with
   | some y0 =>
    p (V.d (D.lit (Value.bool y0)))
   | none => p (V.d (D.lit (Value.bool false)))))))))) := by kernel_rfl
theorem w13 (y : D) (p : V → Prop) : (evBodyT (Cn T38) T38 noCS 0 noSp noHn 13 [V.d (eV y)] Heap.empty fun v H => p (freezeR H v)) =
  (FitE (eV y) ∧
  (((!decide
        ((bif false then if 101 > cntE (eV y) 0 then 101 else cntE (eV y) 0
          else if 101 < cntE (eV y) 0 then 101 else cntE (eV y) 0) >
          20) &&
    (decide
        ((bif false then if 101 > cntE (eV y) 0 then 101 else cntE (eV y) 0
          else if 101 < cntE (eV y) 0 then 101 else cntE (eV y) 0) ≤
          100) &&
      true)) =
  true → FitE (eV y)) ∧
  p
  (V.d
    (D.lit
      (Value.bool
        (bif
            decide
              ((bif false then if 101 > cntE (eV y) 0 then 101 else cntE (eV y) 0
                else if 101 < cntE (eV y) 0 then 101 else cntE (eV y) 0) ≤
                100) then
          bif
              decide
                ((bif false then if 101 > cntE (eV y) 0 then 101 else cntE (eV y) 0
                  else if 101 < cntE (eV y) 0 then 101 else cntE (eV y) 0) >
                  20) then
            true
          else goE (eV y)
        else false)))))) := by kernel_rfl
noncomputable def greatB (y : D) : Bool :=
  (bif
            decide
              ((bif false then if 101 > cntE (eV y) 0 then 101 else cntE (eV y) 0
                else if 101 < cntE (eV y) 0 then 101 else cntE (eV y) 0) ≤
                100) then
          bif
              decide
                ((bif false then if 101 > cntE (eV y) 0 then 101 else cntE (eV y) 0
                  else if 101 < cntE (eV y) 0 then 101 else cntE (eV y) 0) >
                  20) then
            true
          else goE (eV y)
        else false)
noncomputable def c13 : Ct := ⟨fun | [x] => FitE x | _ => False, fun | [x] => some (.lit (.bool (greatB x))) | _ => none⟩
noncomputable def T13 : Tab := T38.add 13 c13
theorem anyF_congr {f g : D → Bool} {xs : List D} (h : ∀ a ∈ xs, f a = g a) : search (anyF f xs) xs.length = search (anyF g xs) xs.length := by
  have key : ∀ n i, i + n ≤ xs.length → rounds (fun i _ => ofOpt (anyF f xs i)) n i () = rounds (fun i _ => ofOpt (anyF g xs i)) n i () := by
    intro n
    induction n with
    | zero => intro i _; rfl
    | succ n ih =>
      intro i hi
      unfold rounds
      have e : anyF f xs i = anyF g xs i := by unfold anyF; rw [h _ (getD_mem (by omega))]
      simp only [e]
      cases ofOpt (anyF g xs i) with
      | inl _ => exact ih (i + 1) (by omega)
      | inr _ => rfl
  unfold search
  rw [key _ 0 (by omega)]
theorem gpT_congr (r r' : D → Bool) (y : D) (h : ∀ a ∈ subs y 2, r a = r' a) : gpT r y = gpT r' y := by
  unfold gpT
  rw [anyF_congr h]
theorem gpE_eq (y : D) : gpE y = gpT gpE y := fixD_step gpT_congr y
theorem goT_congr (r r' : D → Bool) (y : D) (h : ∀ a ∈ subs y 15, r a = r' a) : goT r y = goT r' y := by
  unfold goT
  rw [anyF_congr h]
theorem goE_eq (y : D) : goE y = goT goE y := fixD_step goT_congr y
theorem ok50a {κ : Nat} (hk : TabOk B (U50 κ)) : OkS (Cn (U50 κ)) 0 (.loop l50a) S50a := by
  refine okS_loop fun N vals bs K h => ?_
  simp only [S50a] at h
  split at h
  case h_2 => exact h.elim
  rename_i i q b1 cs b2 xs
  obtain ⟨⟨rfl, rfl, hsh, hall⟩, h⟩ := h
  have hs : cs.length ≤ 1152921504606846976 := hsh
  refine search_loop (tab_fit base hk noCS_valid) tab_has noSp_ok (hn := noHn) (adsI := []) (nsI := [([5000],[5000])]) (nsX := [([5000],[5000])]) rfl rfl cs.length
    (fun i => [.ptr [5000] 0, lint i]) (fun _ => [pBox q b1 cs b2 xs]) (anyF cBig cs) (fun e => (.ret, [.ptr [5000] 0, lbool e], [pBox q b1 cs b2 xs])) (by simp) (.exit 0) [.ptr [5000] 0, .any] [pBox q b1 cs b2 xs] (by simp) ?_ ?_ h
  · intro i R hi hR
    refine keep (b50a κ q cs xs b1 b2 i R) ?_
    have e1 : decide ((i : Int) < cs.length) = true := by simp; omega
    have e2 : IntKind.i64.wrap ((i : Int) + 1) = ((i + 1 : Nat) : Int) := by rw [Go.IntWalk.i64_in _ (by omega)]; omega
    have hg : (0 : Int) ≤ i ∧ i < cs.length ∧ cV (cs.getD i .any) = cs.getD i .any := ⟨by omega, hi, hall _ (getD_mem hi)⟩
    rw [e1]
    simp only [Int.toNat_natCast, e2, cond_true]
    refine ⟨hg, fun _ => hg, cond_split (fun h1 => ⟨trivial, ?_⟩) (fun h1 => ⟨trivial, ?_⟩)⟩ <;> (simp only [anyF, cBig, h1, cond_true, cond_false, optE] at hR; exact hR)
  · intro R hR
    refine keep (b50a κ q cs xs b1 b2 cs.length R) ?_
    have e1 : decide ((cs.length : Int) < cs.length) = false := by simp
    rw [e1]
    exact ⟨rfl, hR⟩
theorem ok50b {κ : Nat} (hk : TabOk B (U50 κ)) : OkS (Cn (U50 κ)) 0 (.loop l50b) (S50b gpE κ) := by
  refine okS_loop fun N vals bs K h => ?_
  simp only [S50b] at h
  split at h
  case h_2 => exact h.elim
  rename_i i q b1 cs b2 xs
  obtain ⟨⟨rfl, _, rfl, hsh, hall⟩, h⟩ := h
  have hs : xs.length ≤ 1152921504606846976 := hsh
  refine search_loop (tab_fit base hk noCS_valid) tab_has noSp_ok (hn := noHn) (adsI := []) (nsI := [([5000],[5000])]) (nsX := []) rfl rfl xs.length
    (fun i => [.ptr [5000] 0, lint i]) (fun _ => [pBox q b1 cs b2 xs]) (anyF gpE xs) (fun e => (.ret, [lbool e], [])) (by simp) (.exit 2) [.any] [] (by simp) ?_ ?_ h
  · intro i R hi hR
    refine keep (b50b κ q cs xs b1 b2 i R) ?_
    have e1 : decide ((i : Int) < xs.length) = true := by simp; omega
    have e2 : IntKind.i64.wrap ((i : Int) + 1) = ((i + 1 : Nat) : Int) := by rw [Go.IntWalk.i64_in _ (by omega)]; omega
    obtain ⟨hv, hlt⟩ := hall _ (getD_mem hi)
    rw [e1]
    simp only [Int.toNat_natCast, e2, cond_true, hv.v]
    refine ⟨⟨by omega, hi, trivial⟩, ⟨hv, hlt⟩, cond_split (fun h1 => ⟨trivial, ?_⟩) (fun h1 => ⟨trivial, ?_⟩)⟩ <;> (simp only [anyF, h1, cond_true, cond_false, optE] at hR; exact hR)
  · intro R hR
    refine keep (b50b κ q cs xs b1 b2 xs.length R) ?_
    have e1 : decide ((xs.length : Int) < xs.length) = false := by simp
    rw [e1]
    exact ⟨rfl, hR⟩
theorem k50 : TabOk B T50 := by
  refine add_rec base k22 μ1 (fn := Tryz.f50) (cd := bodyOf Tryz.f50) (sp := fun n => spL [(8, S50a), (18, S50b gpE n)]) (hn := noHn) Tryz.func50 (by kernel_rfl) (by kernel_rfl) (fun n hk => specT_cons (c := .loop l50a) (by kernel_rfl) (ok50a hk) (specT_cons (c := .loop l50b) (by kernel_rfl) (ok50b hk) specT_nil)) fun κ ds r hp hm hr => ?_
  unfold c50 at hp hr
  simp only [] at hr hp
  split at hr
  · rename_i x
    cases hr
    rw [arg1 (FitP.v hp)]
    refine keep (w50 gpE κ x fun v => v = _) ?_
    rw [gpE_eq]
    unfold gpT
    have hc : ∀ y ∈ seqD (cellOf x 1), FitC y := FitP.c hp
    have h1 : Short (seqD (cellOf x 1)) := (FitP.l hp).1
    have h2 : Short (seqD (cellOf x 2)) := (FitP.l hp).2
    have ha : ∀ y ∈ seqD (cellOf x 2), FitP y ∧ dsz y < κ := fun y hy => ⟨FitP.a hp y hy, hm ▸ subs_lt hy⟩
    generalize search (anyF cBig (seqD (cellOf x 1))) (seqD (cellOf x 1)).length = o1
    generalize search (anyF gpE (seqD (cellOf x 2))) (seqD (cellOf x 2)).length = o2
    cases o1 <;> cases o2 <;> (repeat' (first | with_reducible rfl | (refine cond_split (fun hcw => ?_) (fun hcw => ?_) <;> simp only [hcw, cond_true, cond_false]) | refine and_i ?_ ?_))
    all_goals first | trivial | assumption
  · cases hr
theorem ok38 {κ : Nat} (hk : TabOk B (U38 κ)) : OkS (Cn (U38 κ)) 0 (.loop l38) (S38 goE κ) := by
  refine okS_loop fun N vals bs K h => ?_
  simp only [S38] at h
  split at h
  case h_2 => exact h.elim
  rename_i i a0 a1 a2 a3 a4 a5 a6 a7 a8 a9 a10 a11 a12 a13 a14 b xs
  obtain ⟨⟨⟨y, hy⟩, rfl, _, rfl, hsh, hall⟩, h⟩ := h
  have hxs : xs = seqD (cellOf y 15) := by
    have := congrArg (fun l : List V => l.getD 15 .any) hy
    simp at this
    exact this.2
  rw [hy]
  subst hxs
  have hs : (seqD (cellOf y 15)).length ≤ 1152921504606846976 := hsh
  refine search_loop (tab_fit base hk noCS_valid) tab_has noSp_ok (hn := noHn) (adsI := []) (nsI := [([5000],[5000])]) (nsX := []) rfl rfl (seqD (cellOf y 15)).length
    (fun i => [.ptr [5000] 0, lint i]) (fun _ => [eBox y]) (anyF goE (seqD (cellOf y 15))) (fun e => (.ret, [lbool e], [])) (by simp) (.exit 0) [.any] [] (by simp) ?_ ?_ h
  · intro i R hi hR
    refine keep (b38 κ y i R) ?_
    have e1 : decide ((i : Int) < (seqD (cellOf y 15)).length) = true := by simp; omega
    have e2 : IntKind.i64.wrap ((i : Int) + 1) = ((i + 1 : Nat) : Int) := by rw [Go.IntWalk.i64_in _ (by omega)]; omega
    obtain ⟨hv, hlt⟩ := hall _ (getD_mem hi)
    rw [e1]
    simp only [Int.toNat_natCast, e2, cond_true, hv.v]
    refine ⟨⟨by omega, hi, trivial⟩, ⟨hv, hlt⟩, cond_split (fun h1 => ⟨trivial, ?_⟩) (fun h1 => ⟨trivial, ?_⟩)⟩ <;> (simp only [anyF, h1, cond_true, cond_false, optE] at hR; exact hR)
  · intro R hR
    refine keep (b38 κ y (seqD (cellOf y 15)).length R) ?_
    have e1 : decide (((seqD (cellOf y 15)).length : Int) < (seqD (cellOf y 15)).length) = false := by simp
    rw [e1]
    exact ⟨rfl, hR⟩
theorem k38 : TabOk B T38 := by
  refine add_rec base k50 μ1 (fn := Tryz.f38) (cd := bodyOf Tryz.f38) (sp := fun n => spL [(8, S38 goE n)]) (hn := noHn) Tryz.func38 (by kernel_rfl) (by kernel_rfl) (fun n hk => specT_cons (c := .loop l38) (by kernel_rfl) (ok38 hk) specT_nil) fun κ ds r hp hm hr => ?_
  unfold c38 at hp hr
  simp only [] at hr hp
  split at hr
  · rename_i x
    cases hr
    rw [arg1 (FitE.v hp)]
    refine keep (w38 goE κ x fun v => v = _) ?_
    rw [goE_eq]
    unfold goT
    have hE : IsE (eCells x) := ⟨x, rfl⟩
    obtain ⟨⟨s1, s2⟩, s3, s4⟩ := FitE.l hp
    have hm' : ∀ y ∈ seqD (cellOf x 2), FitM y := FitE.m hp
    have hn : ∀ y ∈ seqD (cellOf x 7), FitN y := FitE.n hp
    have hs : ∀ y ∈ seqD (cellOf x 10), FitG y := FitE.s hp
    have hpp := FitE.p hp
    have ha : ∀ y ∈ seqD (cellOf x 15), FitE y ∧ dsz y < κ := fun y hy => ⟨FitE.a hp y hy, hm ▸ subs_lt hy⟩
    generalize search (anyF goE (seqD (cellOf x 15))) (seqD (cellOf x 15)).length = o1
    cases o1 <;> (repeat' (first | with_reducible rfl | (refine cond_split (fun hcw => ?_) (fun hcw => ?_) <;> simp only [hcw, cond_true, cond_false]) | refine and_i ?_ ?_))
    all_goals first | trivial | assumption | exact hE | (intro _; first | assumption | exact ⟨rfl, by assumption, by assumption⟩)
  · cases hr
theorem k13 : TabOk B T13 := by
  refine add_body base k38 (fn := Tryz.f13) (cd := bodyOf Tryz.f13) (sp := noSp) (hn := noHn) Tryz.func13 (by kernel_rfl) (by kernel_rfl) noSp_ok fun ds r hp hr => ?_
  unfold c13 at hp hr
  simp only [] at hr hp
  split at hr
  · rename_i x
    cases hr
    rw [arg1 (FitE.v hp)]
    refine keep (w13 x fun v => v = _) ?_
    unfold greatB
    rw [FitE.v hp]
    exact ⟨hp, fun _ => hp, rfl⟩
  · cases hr
end Go.Ev.R2
end
section
namespace Go.Ev.R2
open Go Go.Ev Go.Proofs
set_option maxRecDepth 100000
set_option linter.unusedVariables false
set_option linter.unusedSimpArgs false
noncomputable def c14 : Ct := ⟨fun | [] => True | _ => False, fun | [] => some (.lit (.bool true)) | _ => none⟩
noncomputable def T14 : Tab := T13.add 14 c14
noncomputable def l9 : Code := roundOf (pieceAt (bodyOf Tryz.f9) 16)
theorem b9 (y : D) (e : Int) (s : Int) (xs : List D) (i : Int) (n : Int) (b : Bool) (R : X → List V → List Box → Prop) : (roundT (Cn T14) T14 noCS 0 noSp noHn l9 75 [1, 4, 5, 37, 38, 39] [[5000]] [] [([5000], [5000])] [1, 5, 2]
  [([5000], [5000])] [V.ptr [5000] 0, lint e, lint s, V.d (D.slice b 16 xs), lint n, lint i] [eBox y] R) =
  (bif decide (i < n) then
   ((((0 : Int) ≤ i) ∧ (i.toNat < xs.length ∧ eV (xs.getD i.toNat D.any) = xs.getD i.toNat D.any)) ∧
   (FitE (eV (xs.getD i.toNat D.any)) ∧
   (FitE (eV (xs.getD i.toNat D.any)) ∧
   (FitE (eV (xs.getD i.toNat D.any)) ∧
   (bif bif checkE (eV (xs.getD i.toNat D.any)) != 0 then true
else
  bif e == 0 then
    bif
        (bif checkE (eV (xs.getD i.toNat D.any)) != 0 then checkE (eV (xs.getD i.toNat D.any))
          else bif typeE (eV (xs.getD i.toNat D.any)) == 0 then 15 else 0) !=
          0 then
      true
    else (bif checkE (eV (xs.getD i.toNat D.any)) != 0 then 0 else typeE (eV (xs.getD i.toNat D.any))) == 0
  else false then
    (75 = 75 ∧
    R X.ret
  [V.ptr [5000] 0,
    V.d (D.lit (Value.int IntKind.i64 (IntKind.i64.wrap (s + (↑(cap (etot (eV (xs.getD i.toNat D.any)))) : Int))))),
    V.d (D.lit (Value.bool false))]
  [Box.cells 33
      [V.d (D.lit (Value.int IntKind.i64 (intOf (cellOf y 0)))),
        V.d (D.lit (Value.int IntKind.i64 (intOf (cellOf y 1)))),
        V.d (D.slice (nilOf (cellOf y 2)) 3 (seqD (cellOf y 2))),
        V.d (D.lit (Value.int IntKind.i64 (intOf (cellOf y 3)))),
        V.d (D.lit (Value.int IntKind.i64 (intOf (cellOf y 4)))),
        V.d (D.lit (Value.int IntKind.i64 (intOf (cellOf y 5)))),
        V.d (D.lit (Value.int IntKind.i64 (intOf (cellOf y 6)))),
        V.d (D.slice (nilOf (cellOf y 7)) 1 (seqD (cellOf y 7))), V.d (D.lit (Value.bool (boolOf (cellOf y 8)))),
        V.d (D.lit (Value.int IntKind.i64 (intOf (cellOf y 9)))),
        V.d (D.slice (nilOf (cellOf y 10)) 4 (seqD (cellOf y 10))),
        V.d (D.lit (Value.int IntKind.i64 (intOf (cellOf y 11)))),
        V.d (D.slice (nilOf (cellOf y 12)) 4 (seqD (cellOf y 12))),
        V.d (D.slice (nilOf (cellOf y 13)) 3 (seqD (cellOf y 13))), V.d (D.lit (Value.string (strOf (cellOf y 14)))),
        V.d (D.slice (nilOf (cellOf y 15)) 16 (seqD (cellOf y 15)))]]) else
    (75 = 75 ∧
    R X.normal
  [V.ptr [5000] 0, V.d (D.lit (Value.int IntKind.i64 e)),
    V.d (D.lit (Value.int IntKind.i64 (IntKind.i64.wrap (s + (↑(cap (etot (eV (xs.getD i.toNat D.any)))) : Int))))),
    V.d (D.slice b 16 xs), V.d (D.lit (Value.int IntKind.i64 n)),
    V.d (D.lit (Value.int IntKind.i64 (IntKind.i64.wrap (i + 1))))]
  [Box.cells 33
      [V.d (D.lit (Value.int IntKind.i64 (intOf (cellOf y 0)))),
        V.d (D.lit (Value.int IntKind.i64 (intOf (cellOf y 1)))),
        V.d (D.slice (nilOf (cellOf y 2)) 3 (seqD (cellOf y 2))),
        V.d (D.lit (Value.int IntKind.i64 (intOf (cellOf y 3)))),
        V.d (D.lit (Value.int IntKind.i64 (intOf (cellOf y 4)))),
        V.d (D.lit (Value.int IntKind.i64 (intOf (cellOf y 5)))),
        V.d (D.lit (Value.int IntKind.i64 (intOf (cellOf y 6)))),
        V.d (D.slice (nilOf (cellOf y 7)) 1 (seqD (cellOf y 7))), V.d (D.lit (Value.bool (boolOf (cellOf y 8)))),
        V.d (D.lit (Value.int IntKind.i64 (intOf (cellOf y 9)))),
        V.d (D.slice (nilOf (cellOf y 10)) 4 (seqD (cellOf y 10))),
        V.d (D.lit (Value.int IntKind.i64 (intOf (cellOf y 11)))),
        V.d (D.slice (nilOf (cellOf y 12)) 4 (seqD (cellOf y 12))),
        V.d (D.slice (nilOf (cellOf y 13)) 3 (seqD (cellOf y 13))), V.d (D.lit (Value.string (strOf (cellOf y 14)))),
        V.d (D.slice (nilOf (cellOf y 15)) 16 (seqD (cellOf y 15)))]])))))) else
   (75 = 75 ∧
   R (X.exit 0) [V.ptr [5000] 0, V.d (D.lit (Value.int IntKind.i64 s)), V.any]
  [Box.cells 33
      [V.d (D.lit (Value.int IntKind.i64 (intOf (cellOf y 0)))),
        V.d (D.lit (Value.int IntKind.i64 (intOf (cellOf y 1)))),
        V.d (D.slice (nilOf (cellOf y 2)) 3 (seqD (cellOf y 2))),
        V.d (D.lit (Value.int IntKind.i64 (intOf (cellOf y 3)))),
        V.d (D.lit (Value.int IntKind.i64 (intOf (cellOf y 4)))),
        V.d (D.lit (Value.int IntKind.i64 (intOf (cellOf y 5)))),
        V.d (D.lit (Value.int IntKind.i64 (intOf (cellOf y 6)))),
        V.d (D.slice (nilOf (cellOf y 7)) 1 (seqD (cellOf y 7))), V.d (D.lit (Value.bool (boolOf (cellOf y 8)))),
        V.d (D.lit (Value.int IntKind.i64 (intOf (cellOf y 9)))),
        V.d (D.slice (nilOf (cellOf y 10)) 4 (seqD (cellOf y 10))),
        V.d (D.lit (Value.int IntKind.i64 (intOf (cellOf y 11)))),
        V.d (D.slice (nilOf (cellOf y 12)) 4 (seqD (cellOf y 12))),
        V.d (D.slice (nilOf (cellOf y 13)) 3 (seqD (cellOf y 13))), V.d (D.lit (Value.string (strOf (cellOf y 14)))),
        V.d (D.slice (nilOf (cellOf y 15)) 16 (seqD (cellOf y 15)))]])) := by kernel_rfl
noncomputable def c9 : Ct := ⟨fun | [x] => FitE x | _ => False, fun | [x] => some (.lit (.bool true)) | _ => none⟩
end Go.Ev.R2
end
