/- What the proofs of the lexer's laws share, part 6 of 14. -/
import Derived.Test.YtnnhlphbfpnaaaaGreatDoorF5
import Derived.Test.YtnnhlphbfpnaaaaGreatDoorF1
import Derived.ChangeArms
import Derived.SizedLaws
import Derived.Test.YtnnhlphbfpnaaaaGreatDoorF4
set_option linter.unusedVariables false
set_option linter.unusedSimpArgs false
section
namespace Go.Ev.R2
open Go Go.Ev Go.Proofs
set_option maxRecDepth 100000
theorem w134 (y : D) (p : V → Prop) : (evBodyT (Cn T83) T83 noCS 0 noSp noHn 134 [V.d (eV y)] Heap.empty fun v H => p (freezeR H v)) =
 (FitE (eV y) ∧
 p
 (V.d
 (D.agg
 [D.lit (Value.bool (intOf (cellOf y 1) != 0)), D.lit (Value.bool (intOf (cellOf y 9) != 0)),
 D.lit (Value.bool !(intOf (cellOf y 5) == 0 && (intOf (cellOf y 6) == 0 && true))),
 D.lit (Value.bool !(strOf (cellOf y 14)).toList == (ByteArray.mk #[]).toList),
 D.lit (Value.bool (decide ((↑(seqD (cellOf y 2)).length : Int) > 0))), D.lit (Value.bool (hasPat (eV y))),
 D.lit (Value.bool (decide ((↑(seqD (cellOf y 10)).length : Int) > 0))),
 D.lit (Value.bool (bif intOf (cellOf y 3) != 0 then true else intOf (cellOf y 4) != 0)),
 D.lit (Value.bool (decide ((↑(seqD (cellOf y 7)).length : Int) > 0))),
 D.lit (Value.bool (boolOf (cellOf y 8)))]))) := by kernel_rfl
def presB (y : D) (i : Nat) : Bool := match i with
 | 0 => intOf (cellOf y 1) != 0 | 1 => intOf (cellOf y 9) != 0
 | 2 => !(intOf (cellOf y 5) == 0 && (intOf (cellOf y 6) == 0 && true))
 | 3 => !(strOf (cellOf y 14)).toList == (ByteArray.mk #[]).toList
 | 4 => decide ((↑(seqD (cellOf y 2)).length : Int) > 0) | 5 => hasPat y
 | 6 => decide ((↑(seqD (cellOf y 10)).length : Int) > 0)
 | 7 => bif intOf (cellOf y 3) != 0 then true else intOf (cellOf y 4) != 0
 | 8 => decide ((↑(seqD (cellOf y 7)).length : Int) > 0)
 | _ => boolOf (cellOf y 8)
noncomputable def c134 : Ct := ⟨fun | [x] => FitE x | _ => False, fun | [x] => some (.agg [bD (presB x 0), bD (presB x 1), bD (presB x 2), bD (presB x 3), bD (presB x 4), bD (presB x 5), bD (presB x 6), bD (presB x 7), bD (presB x 8), bD (presB x 9)]) | _ => none⟩
noncomputable def T134 : Tab := T83.add 134 c134
def butB (a b : Bool) : Bool := bif a then !b else false
noncomputable def c135 : Ct := ⟨fun _ => True, fun | [.agg [.lit (.bool a0), .lit (.bool a1), .lit (.bool a2), .lit (.bool a3), .lit (.bool a4), .lit (.bool a5), .lit (.bool a6), .lit (.bool a7), .lit (.bool a8), .lit (.bool a9)], .agg [.lit (.bool b0), .lit (.bool b1), .lit (.bool b2), .lit (.bool b3), .lit (.bool b4), .lit (.bool b5), .lit (.bool b6), .lit (.bool b7), .lit (.bool b8), .lit (.bool b9)]] => some (.agg [bD (butB a0 b0), bD (butB a1 b1), bD (butB a2 b2), bD (butB a3 b3), bD (butB a4 b4), bD (butB a5 b5), bD (butB a6 b6), bD (butB a7 b7), bD (butB a8 b8), bD (butB a9 b9)]) | _ => none⟩
noncomputable def T135 : Tab := T134.add 135 c135
theorem w135 (a0 : Bool) (a1 : Bool) (a2 : Bool) (a3 : Bool) (a4 : Bool) (a5 : Bool) (a6 : Bool) (a7 : Bool) (a8 : Bool) (a9 : Bool) (b0 : Bool) (b1 : Bool) (b2 : Bool) (b3 : Bool) (b4 : Bool) (b5 : Bool) (b6 : Bool) (b7 : Bool) (b8 : Bool) (b9 : Bool) (p : V → Prop) : (evBodyT (Cn T134) T134 noCS 0 noSp noHn 135
 [V.d (D.agg [bD a0, bD a1, bD a2, bD a3, bD a4, bD a5, bD a6, bD a7, bD a8, bD a9]),
 V.d (D.agg [bD b0, bD b1, bD b2, bD b3, bD b4, bD b5, bD b6, bD b7, bD b8, bD b9])]
 Heap.empty fun v H => p (freezeR H v)) =
 p
 (V.d
 (D.agg
 [D.lit (Value.bool (bif a0 then !b0 else false)), D.lit (Value.bool (bif a1 then !b1 else false)),
 D.lit (Value.bool (bif a2 then !b2 else false)), D.lit (Value.bool (bif a3 then !b3 else false)),
 D.lit (Value.bool (bif a4 then !b4 else false)), D.lit (Value.bool (bif a5 then !b5 else false)),
 D.lit (Value.bool (bif a6 then !b6 else false)), D.lit (Value.bool (bif a7 then !b7 else false)),
 D.lit (Value.bool (bif a8 then !b8 else false)), D.lit (Value.bool (bif a9 then !b9 else false))])) := by kernel_rfl
def IsKinds (es : List (D × D)) : Prop := es = kindsEs
theorem w72 (y : D) (p : V → Prop) : (evBodyT (Cn T135) T135 noCS 0 noSp noHn 72 [V.d (eV y), V.d (D.map kindsEs)] Heap.empty fun v H => p (freezeR H v)) =
 (bif intOf (cellOf y 0) == 1 then
 (FitE (eV y) ∧
 (FitE (eV y) ∧
 (True ∧
 (bif bif
 !(butB (presB (eV y) 0) false == false &&
 (butB (presB (eV y) 1) false == false &&
 (butB (presB (eV y) 2)
 (numB true (intOf (D.lit (Value.int IntKind.i64 (intOf (cellOf y 0)))))
 (intOf (D.lit (Value.int IntKind.i64 (intOf (cellOf y 1)))))) ==
 false &&
 (butB (presB (eV y) 3)
 (textB false (intOf (D.lit (Value.int IntKind.i64 (intOf (cellOf y 0)))))
 (intOf (D.lit (Value.int IntKind.i64 (intOf (cellOf y 1)))))) ==
 false &&
 (butB (presB (eV y) 4) false == false &&
 (butB (presB (eV y) 5) false == false &&
 (butB (presB (eV y) 6) false == false &&
 (butB (presB (eV y) 7) false == false &&
 (butB (presB (eV y) 8) false == false &&
 (butB (presB (eV y) 9) false == false && true)))))))))) then
 true
 else (↑(seqD (cellOf y 15)).length : Int) != 0 then
 p (V.d (D.lit (Value.int IntKind.i64 1))) else
 (bif numB true (intOf (D.lit (Value.int IntKind.i64 (intOf (cellOf y 0)))))
 (intOf (D.lit (Value.int IntKind.i64 (intOf (cellOf y 1))))) then
 (FitE (eV y) ∧
 (bif numberE (eV y) != 0 then
 p (V.d (D.lit (Value.int IntKind.i64 (numberE (eV y))))) else
 ((1 = 1 ∧ ∀ (y_1 : D), y_1 ∈ seqD (cellOf y 7) → FitN y_1) ∧
 (bif namesE (seqD (cellOf y 7)) (intOf (cellOf y 0) == 4) != 0 then
 p (V.d (D.lit (Value.int IntKind.i64 (namesE (seqD (cellOf y 7)) (intOf (cellOf y 0) == 4))))) else
 (bif bif decide (intOf (cellOf y 9) < 0) then true else decide (intOf (cellOf y 9) > 2) then
 p (V.d (D.lit (Value.int IntKind.i64 8))) else
 ((4 = 4 ∧ ∀ (y_1 : D), y_1 ∈ seqD (cellOf y 10) → FitG y_1) ∧
 (bif stagesE (seqD (cellOf y 10)) != 0 then
 p (V.d (D.lit (Value.int IntKind.i64 (stagesE (seqD (cellOf y 10)))))) else
 (bif textB false (intOf (D.lit (Value.int IntKind.i64 (intOf (cellOf y 0)))))
 (intOf (D.lit (Value.int IntKind.i64 (intOf (cellOf y 1))))) then
 (FitE (eV y) ∧
 p (V.d (D.lit (Value.int IntKind.i64 (textE (eV y)))))) else
 p (V.d (D.lit (Value.int IntKind.i64 0))))))))))) else
 ((1 = 1 ∧ ∀ (y_1 : D), y_1 ∈ seqD (cellOf y 7) → FitN y_1) ∧
 (bif namesE (seqD (cellOf y 7)) (intOf (cellOf y 0) == 4) != 0 then
 p (V.d (D.lit (Value.int IntKind.i64 (namesE (seqD (cellOf y 7)) (intOf (cellOf y 0) == 4))))) else
 (bif bif decide (intOf (cellOf y 9) < 0) then true else decide (intOf (cellOf y 9) > 2) then
 p (V.d (D.lit (Value.int IntKind.i64 8))) else
 ((4 = 4 ∧ ∀ (y_1 : D), y_1 ∈ seqD (cellOf y 10) → FitG y_1) ∧
 (bif stagesE (seqD (cellOf y 10)) != 0 then
 p (V.d (D.lit (Value.int IntKind.i64 (stagesE (seqD (cellOf y 10)))))) else
 (bif textB false (intOf (D.lit (Value.int IntKind.i64 (intOf (cellOf y 0)))))
 (intOf (D.lit (Value.int IntKind.i64 (intOf (cellOf y 1))))) then
 (FitE (eV y) ∧
 p (V.d (D.lit (Value.int IntKind.i64 (textE (eV y)))))) else
 p (V.d (D.lit (Value.int IntKind.i64 0)))))))))))))) else
 (bif intOf (cellOf y 0) == 2 then
 (bif bif true then bif decide (intOf (cellOf y 1) < 1) then true else decide (intOf (cellOf y 1) > (↑11 : Int)) else false then
 p (V.d (D.lit (Value.int IntKind.i64 8))) else
 (FitE (eV y) ∧
 (FitE (eV y) ∧
 (True ∧
 (bif bif
 !(butB (presB (eV y) 0) true == false &&
 (butB (presB (eV y) 1) false == false &&
 (butB (presB (eV y) 2)
 (numB false (intOf (D.lit (Value.int IntKind.i64 (intOf (cellOf y 0)))))
 (intOf (D.lit (Value.int IntKind.i64 (intOf (cellOf y 1)))))) ==
 false &&
 (butB (presB (eV y) 3)
 (textB false (intOf (D.lit (Value.int IntKind.i64 (intOf (cellOf y 0)))))
 (intOf (D.lit (Value.int IntKind.i64 (intOf (cellOf y 1)))))) ==
 false &&
 (butB (presB (eV y) 4) true == false &&
 (butB (presB (eV y) 5) false == false &&
 (butB (presB (eV y) 6) false == false &&
 (butB (presB (eV y) 7) true == false &&
 (butB (presB (eV y) 8) false == false &&
 (butB (presB (eV y) 9) false == false && true)))))))))) then
 true
 else (↑(seqD (cellOf y 15)).length : Int) != 0 then
 p (V.d (D.lit (Value.int IntKind.i64 1))) else
 ((3 = 3 ∧ ∀ (y_1 : D), y_1 ∈ seqD (cellOf y 2) → FitM y_1) ∧
 (bif matchersE (seqD (cellOf y 2)) != 0 then
 p (V.d (D.lit (Value.int IntKind.i64 (matchersE (seqD (cellOf y 2)))))) else
 (bif bif true then
 bif
 bif bif decide (intOf (cellOf y 3) < 1) then true else decide (intOf (cellOf y 3) > 1099511627776) then true
 else decide (intOf (cellOf y 4) < 0) then
 true
 else decide (intOf (cellOf y 4) > 1099511627776)
 else false then
 p (V.d (D.lit (Value.int IntKind.i64 2))) else
 (bif numB false (intOf (D.lit (Value.int IntKind.i64 (intOf (cellOf y 0)))))
 (intOf (D.lit (Value.int IntKind.i64 (intOf (cellOf y 1))))) then
 (FitE (eV y) ∧
 (bif numberE (eV y) != 0 then
 p (V.d (D.lit (Value.int IntKind.i64 (numberE (eV y))))) else
 ((1 = 1 ∧ ∀ (y_1 : D), y_1 ∈ seqD (cellOf y 7) → FitN y_1) ∧
 (bif namesE (seqD (cellOf y 7)) (intOf (cellOf y 0) == 4) != 0 then
 p (V.d (D.lit (Value.int IntKind.i64 (namesE (seqD (cellOf y 7)) (intOf (cellOf y 0) == 4))))) else
 (bif bif decide (intOf (cellOf y 9) < 0) then true else decide (intOf (cellOf y 9) > 2) then
 p (V.d (D.lit (Value.int IntKind.i64 8))) else
 ((4 = 4 ∧ ∀ (y_1 : D), y_1 ∈ seqD (cellOf y 10) → FitG y_1) ∧
 (bif stagesE (seqD (cellOf y 10)) != 0 then
 p (V.d (D.lit (Value.int IntKind.i64 (stagesE (seqD (cellOf y 10)))))) else
 (bif textB false (intOf (D.lit (Value.int IntKind.i64 (intOf (cellOf y 0)))))
 (intOf (D.lit (Value.int IntKind.i64 (intOf (cellOf y 1))))) then
 (FitE (eV y) ∧
 p (V.d (D.lit (Value.int IntKind.i64 (textE (eV y)))))) else
 p (V.d (D.lit (Value.int IntKind.i64 0))))))))))) else
 ((1 = 1 ∧ ∀ (y_1 : D), y_1 ∈ seqD (cellOf y 7) → FitN y_1) ∧
 (bif namesE (seqD (cellOf y 7)) (intOf (cellOf y 0) == 4) != 0 then
 p (V.d (D.lit (Value.int IntKind.i64 (namesE (seqD (cellOf y 7)) (intOf (cellOf y 0) == 4))))) else
 (bif bif decide (intOf (cellOf y 9) < 0) then true else decide (intOf (cellOf y 9) > 2) then
 p (V.d (D.lit (Value.int IntKind.i64 8))) else
 ((4 = 4 ∧ ∀ (y_1 : D), y_1 ∈ seqD (cellOf y 10) → FitG y_1) ∧
 (bif stagesE (seqD (cellOf y 10)) != 0 then
 p (V.d (D.lit (Value.int IntKind.i64 (stagesE (seqD (cellOf y 10)))))) else
 (bif textB false (intOf (D.lit (Value.int IntKind.i64 (intOf (cellOf y 0)))))
 (intOf (D.lit (Value.int IntKind.i64 (intOf (cellOf y 1))))) then
 (FitE (eV y) ∧
 p (V.d (D.lit (Value.int IntKind.i64 (textE (eV y)))))) else
 p (V.d (D.lit (Value.int IntKind.i64 0)))))))))))))))))) else
 (bif intOf (cellOf y 0) == 3 then
 (bif bif true then bif decide (intOf (cellOf y 1) < 1) then true else decide (intOf (cellOf y 1) > (↑3 : Int)) else false then
 p (V.d (D.lit (Value.int IntKind.i64 8))) else
 (FitE (eV y) ∧
 (FitE (eV y) ∧
 (True ∧
 (bif bif
 !(butB (presB (eV y) 0) true == false &&
 (butB (presB (eV y) 1) false == false &&
 (butB (presB (eV y) 2)
 (numB false (intOf (D.lit (Value.int IntKind.i64 (intOf (cellOf y 0)))))
 (intOf (D.lit (Value.int IntKind.i64 (intOf (cellOf y 1)))))) ==
 false &&
 (butB (presB (eV y) 3)
 (textB false (intOf (D.lit (Value.int IntKind.i64 (intOf (cellOf y 0)))))
 (intOf (D.lit (Value.int IntKind.i64 (intOf (cellOf y 1)))))) ==
 false &&
 (butB (presB (eV y) 4) true == false &&
 (butB (presB (eV y) 5) false == false &&
 (butB (presB (eV y) 6) true == false &&
 (butB (presB (eV y) 7) true == false &&
 (butB (presB (eV y) 8) true == false &&
 (butB (presB (eV y) 9) true == false && true)))))))))) then
 true
 else (↑(seqD (cellOf y 15)).length : Int) != 0 then
 p (V.d (D.lit (Value.int IntKind.i64 1))) else
 ((3 = 3 ∧ ∀ (y_1 : D), y_1 ∈ seqD (cellOf y 2) → FitM y_1) ∧
 (bif matchersE (seqD (cellOf y 2)) != 0 then
 p (V.d (D.lit (Value.int IntKind.i64 (matchersE (seqD (cellOf y 2)))))) else
 (bif bif true then
 bif
 bif bif decide (intOf (cellOf y 3) < 1) then true else decide (intOf (cellOf y 3) > 1099511627776) then true
 else decide (intOf (cellOf y 4) < 0) then
 true
 else decide (intOf (cellOf y 4) > 1099511627776)
 else false then
 p (V.d (D.lit (Value.int IntKind.i64 2))) else
 (bif numB false (intOf (D.lit (Value.int IntKind.i64 (intOf (cellOf y 0)))))
 (intOf (D.lit (Value.int IntKind.i64 (intOf (cellOf y 1))))) then
 (FitE (eV y) ∧
 (bif numberE (eV y) != 0 then
 p (V.d (D.lit (Value.int IntKind.i64 (numberE (eV y))))) else
 ((1 = 1 ∧ ∀ (y_1 : D), y_1 ∈ seqD (cellOf y 7) → FitN y_1) ∧
 (bif namesE (seqD (cellOf y 7)) (intOf (cellOf y 0) == 4) != 0 then
 p (V.d (D.lit (Value.int IntKind.i64 (namesE (seqD (cellOf y 7)) (intOf (cellOf y 0) == 4))))) else
 (bif bif decide (intOf (cellOf y 9) < 0) then true else decide (intOf (cellOf y 9) > 2) then
 p (V.d (D.lit (Value.int IntKind.i64 8))) else
 ((4 = 4 ∧ ∀ (y_1 : D), y_1 ∈ seqD (cellOf y 10) → FitG y_1) ∧
 (bif stagesE (seqD (cellOf y 10)) != 0 then
 p (V.d (D.lit (Value.int IntKind.i64 (stagesE (seqD (cellOf y 10)))))) else
 (bif textB false (intOf (D.lit (Value.int IntKind.i64 (intOf (cellOf y 0)))))
 (intOf (D.lit (Value.int IntKind.i64 (intOf (cellOf y 1))))) then
 (FitE (eV y) ∧
 p (V.d (D.lit (Value.int IntKind.i64 (textE (eV y)))))) else
 p (V.d (D.lit (Value.int IntKind.i64 0))))))))))) else
 ((1 = 1 ∧ ∀ (y_1 : D), y_1 ∈ seqD (cellOf y 7) → FitN y_1) ∧
 (bif namesE (seqD (cellOf y 7)) (intOf (cellOf y 0) == 4) != 0 then
 p (V.d (D.lit (Value.int IntKind.i64 (namesE (seqD (cellOf y 7)) (intOf (cellOf y 0) == 4))))) else
 (bif bif decide (intOf (cellOf y 9) < 0) then true else decide (intOf (cellOf y 9) > 2) then
 p (V.d (D.lit (Value.int IntKind.i64 8))) else
 ((4 = 4 ∧ ∀ (y_1 : D), y_1 ∈ seqD (cellOf y 10) → FitG y_1) ∧
 (bif stagesE (seqD (cellOf y 10)) != 0 then
 p (V.d (D.lit (Value.int IntKind.i64 (stagesE (seqD (cellOf y 10)))))) else
 (bif textB false (intOf (D.lit (Value.int IntKind.i64 (intOf (cellOf y 0)))))
 (intOf (D.lit (Value.int IntKind.i64 (intOf (cellOf y 1))))) then
 (FitE (eV y) ∧
 p (V.d (D.lit (Value.int IntKind.i64 (textE (eV y)))))) else
 p (V.d (D.lit (Value.int IntKind.i64 0)))))))))))))))))) else
 (bif intOf (cellOf y 0) == 4 then
 (FitE (eV y) ∧
 (FitE (eV y) ∧
 (True ∧
 (bif bif
 !(butB (presB (eV y) 0) false == false &&
 (butB (presB (eV y) 1) false == false &&
 (butB (presB (eV y) 2)
 (numB false (intOf (D.lit (Value.int IntKind.i64 (intOf (cellOf y 0)))))
 (intOf (D.lit (Value.int IntKind.i64 (intOf (cellOf y 1)))))) ==
 false &&
 (butB (presB (eV y) 3)
 (textB false (intOf (D.lit (Value.int IntKind.i64 (intOf (cellOf y 0)))))
 (intOf (D.lit (Value.int IntKind.i64 (intOf (cellOf y 1)))))) ==
 false &&
 (butB (presB (eV y) 4) false == false &&
 (butB (presB (eV y) 5) true == false &&
 (butB (presB (eV y) 6) false == false &&
 (butB (presB (eV y) 7) true == false &&
 (butB (presB (eV y) 8) true == false &&
 (butB (presB (eV y) 9) false == false && true)))))))))) then
 true
 else (↑(seqD (cellOf y 15)).length : Int) != 0 then
 p (V.d (D.lit (Value.int IntKind.i64 1))) else
 (bif bif true then
 bif
 bif bif decide (intOf (cellOf y 3) < 1) then true else decide (intOf (cellOf y 3) > 1099511627776) then true
 else decide (intOf (cellOf y 4) < 0) then
 true
 else decide (intOf (cellOf y 4) > 1099511627776)
 else false then
 p (V.d (D.lit (Value.int IntKind.i64 2))) else
 (bif numB false (intOf (D.lit (Value.int IntKind.i64 (intOf (cellOf y 0)))))
 (intOf (D.lit (Value.int IntKind.i64 (intOf (cellOf y 1))))) then
 (FitE (eV y) ∧
 (bif numberE (eV y) != 0 then
 p (V.d (D.lit (Value.int IntKind.i64 (numberE (eV y))))) else
 ((1 = 1 ∧ ∀ (y_1 : D), y_1 ∈ seqD (cellOf y 7) → FitN y_1) ∧
 (bif namesE (seqD (cellOf y 7)) (intOf (cellOf y 0) == 4) != 0 then
 p (V.d (D.lit (Value.int IntKind.i64 (namesE (seqD (cellOf y 7)) (intOf (cellOf y 0) == 4))))) else
 (bif bif decide (intOf (cellOf y 9) < 0) then true else decide (intOf (cellOf y 9) > 2) then
 p (V.d (D.lit (Value.int IntKind.i64 8))) else
 ((4 = 4 ∧ ∀ (y_1 : D), y_1 ∈ seqD (cellOf y 10) → FitG y_1) ∧
 (bif stagesE (seqD (cellOf y 10)) != 0 then
 p (V.d (D.lit (Value.int IntKind.i64 (stagesE (seqD (cellOf y 10)))))) else
 (FitP (paV y) ∧
 (bif patCheckE (paV y) != 0 then
 p (V.d (D.lit (Value.int IntKind.i64 (patCheckE (paV y))))) else
 (bif textB false (intOf (D.lit (Value.int IntKind.i64 (intOf (cellOf y 0)))))
 (intOf (D.lit (Value.int IntKind.i64 (intOf (cellOf y 1))))) then
 (FitE (eV y) ∧
 p (V.d (D.lit (Value.int IntKind.i64 (textE (eV y)))))) else
 p (V.d (D.lit (Value.int IntKind.i64 0))))))))))))) else
 ((1 = 1 ∧ ∀ (y_1 : D), y_1 ∈ seqD (cellOf y 7) → FitN y_1) ∧
 (bif namesE (seqD (cellOf y 7)) (intOf (cellOf y 0) == 4) != 0 then
 p (V.d (D.lit (Value.int IntKind.i64 (namesE (seqD (cellOf y 7)) (intOf (cellOf y 0) == 4))))) else
 (bif bif decide (intOf (cellOf y 9) < 0) then true else decide (intOf (cellOf y 9) > 2) then
 p (V.d (D.lit (Value.int IntKind.i64 8))) else
 ((4 = 4 ∧ ∀ (y_1 : D), y_1 ∈ seqD (cellOf y 10) → FitG y_1) ∧
 (bif stagesE (seqD (cellOf y 10)) != 0 then
 p (V.d (D.lit (Value.int IntKind.i64 (stagesE (seqD (cellOf y 10)))))) else
 (FitP (paV y) ∧
 (bif patCheckE (paV y) != 0 then
 p (V.d (D.lit (Value.int IntKind.i64 (patCheckE (paV y))))) else
 (bif textB false (intOf (D.lit (Value.int IntKind.i64 (intOf (cellOf y 0)))))
 (intOf (D.lit (Value.int IntKind.i64 (intOf (cellOf y 1))))) then
 (FitE (eV y) ∧
 p (V.d (D.lit (Value.int IntKind.i64 (textE (eV y)))))) else
 p (V.d (D.lit (Value.int IntKind.i64 0))))))))))))))))) else
 (bif intOf (cellOf y 0) == 5 then
 (FitE (eV y) ∧
 (FitE (eV y) ∧
 (True ∧
 (bif bif
 !(butB (presB (eV y) 0) false == false &&
 (butB (presB (eV y) 1) false == false &&
 (butB (presB (eV y) 2)
 (numB false (intOf (D.lit (Value.int IntKind.i64 (intOf (cellOf y 0)))))
 (intOf (D.lit (Value.int IntKind.i64 (intOf (cellOf y 1)))))) ==
 false &&
 (butB (presB (eV y) 3)
 (textB true (intOf (D.lit (Value.int IntKind.i64 (intOf (cellOf y 0)))))
 (intOf (D.lit (Value.int IntKind.i64 (intOf (cellOf y 1)))))) ==
 false &&
 (butB (presB (eV y) 4) true == false &&
 (butB (presB (eV y) 5) false == false &&
 (butB (presB (eV y) 6) false == false &&
 (butB (presB (eV y) 7) true == false &&
 (butB (presB (eV y) 8) true == false &&
 (butB (presB (eV y) 9) true == false && true)))))))))) then
 true
 else (↑(seqD (cellOf y 15)).length : Int) != 0 then
 p (V.d (D.lit (Value.int IntKind.i64 1))) else
 ((3 = 3 ∧ ∀ (y_1 : D), y_1 ∈ seqD (cellOf y 2) → FitM y_1) ∧
 (bif matchersE (seqD (cellOf y 2)) != 0 then
 p (V.d (D.lit (Value.int IntKind.i64 (matchersE (seqD (cellOf y 2)))))) else
 (bif bif true then
 bif
 bif bif decide (intOf (cellOf y 3) < 1) then true else decide (intOf (cellOf y 3) > 1099511627776) then true
 else decide (intOf (cellOf y 4) < 0) then
 true
 else decide (intOf (cellOf y 4) > 1099511627776)
 else false then
 p (V.d (D.lit (Value.int IntKind.i64 2))) else
 (bif numB false (intOf (D.lit (Value.int IntKind.i64 (intOf (cellOf y 0)))))
 (intOf (D.lit (Value.int IntKind.i64 (intOf (cellOf y 1))))) then
 (FitE (eV y) ∧
 (bif numberE (eV y) != 0 then
 p (V.d (D.lit (Value.int IntKind.i64 (numberE (eV y))))) else
 ((1 = 1 ∧ ∀ (y_1 : D), y_1 ∈ seqD (cellOf y 7) → FitN y_1) ∧
 (bif namesE (seqD (cellOf y 7)) (intOf (cellOf y 0) == 4) != 0 then
 p (V.d (D.lit (Value.int IntKind.i64 (namesE (seqD (cellOf y 7)) (intOf (cellOf y 0) == 4))))) else
 (bif bif decide (intOf (cellOf y 9) < 0) then true else decide (intOf (cellOf y 9) > 2) then
 p (V.d (D.lit (Value.int IntKind.i64 8))) else
 ((4 = 4 ∧ ∀ (y_1 : D), y_1 ∈ seqD (cellOf y 10) → FitG y_1) ∧
 (bif stagesE (seqD (cellOf y 10)) != 0 then
 p (V.d (D.lit (Value.int IntKind.i64 (stagesE (seqD (cellOf y 10)))))) else
 (bif textB true (intOf (D.lit (Value.int IntKind.i64 (intOf (cellOf y 0)))))
 (intOf (D.lit (Value.int IntKind.i64 (intOf (cellOf y 1))))) then
 (FitE (eV y) ∧
 p (V.d (D.lit (Value.int IntKind.i64 (textE (eV y)))))) else
 p (V.d (D.lit (Value.int IntKind.i64 0))))))))))) else
 ((1 = 1 ∧ ∀ (y_1 : D), y_1 ∈ seqD (cellOf y 7) → FitN y_1) ∧
 (bif namesE (seqD (cellOf y 7)) (intOf (cellOf y 0) == 4) != 0 then
 p (V.d (D.lit (Value.int IntKind.i64 (namesE (seqD (cellOf y 7)) (intOf (cellOf y 0) == 4))))) else
 (bif bif decide (intOf (cellOf y 9) < 0) then true else decide (intOf (cellOf y 9) > 2) then
 p (V.d (D.lit (Value.int IntKind.i64 8))) else
 ((4 = 4 ∧ ∀ (y_1 : D), y_1 ∈ seqD (cellOf y 10) → FitG y_1) ∧
 (bif stagesE (seqD (cellOf y 10)) != 0 then
 p (V.d (D.lit (Value.int IntKind.i64 (stagesE (seqD (cellOf y 10)))))) else
 (bif textB true (intOf (D.lit (Value.int IntKind.i64 (intOf (cellOf y 0)))))
 (intOf (D.lit (Value.int IntKind.i64 (intOf (cellOf y 1))))) then
 (FitE (eV y) ∧
 p (V.d (D.lit (Value.int IntKind.i64 (textE (eV y)))))) else
 p (V.d (D.lit (Value.int IntKind.i64 0))))))))))))))))) else
 (bif intOf (cellOf y 0) == 6 then
 (bif bif true then bif decide (intOf (cellOf y 1) < 1) then true else decide (intOf (cellOf y 1) > (↑9 : Int)) else false then
 p (V.d (D.lit (Value.int IntKind.i64 8))) else
 (FitE (eV y) ∧
 (FitE (eV y) ∧
 (True ∧
 (bif bif
 !(butB (presB (eV y) 0) true == false &&
 (butB (presB (eV y) 1) false == false &&
 (butB (presB (eV y) 2)
 (numB false (intOf (D.lit (Value.int IntKind.i64 (intOf (cellOf y 0)))))
 (intOf (D.lit (Value.int IntKind.i64 (intOf (cellOf y 1)))))) ==
 false &&
 (butB (presB (eV y) 3)
 (textB false (intOf (D.lit (Value.int IntKind.i64 (intOf (cellOf y 0)))))
 (intOf (D.lit (Value.int IntKind.i64 (intOf (cellOf y 1)))))) ==
 false &&
 (butB (presB (eV y) 4) false == false &&
 (butB (presB (eV y) 5) false == false &&
 (butB (presB (eV y) 6) false == false &&
 (butB (presB (eV y) 7) false == false &&
 (butB (presB (eV y) 8) true == false &&
 (butB (presB (eV y) 9) true == false && true)))))))))) then
 true
 else (↑(seqD (cellOf y 15)).length : Int) != 1 then
 p (V.d (D.lit (Value.int IntKind.i64 1))) else
 (bif numB false (intOf (D.lit (Value.int IntKind.i64 (intOf (cellOf y 0)))))
 (intOf (D.lit (Value.int IntKind.i64 (intOf (cellOf y 1))))) then
 (FitE (eV y) ∧
 (bif numberE (eV y) != 0 then
 p (V.d (D.lit (Value.int IntKind.i64 (numberE (eV y))))) else
 ((1 = 1 ∧ ∀ (y_1 : D), y_1 ∈ seqD (cellOf y 7) → FitN y_1) ∧
 (bif namesE (seqD (cellOf y 7)) (intOf (cellOf y 0) == 4) != 0 then
 p (V.d (D.lit (Value.int IntKind.i64 (namesE (seqD (cellOf y 7)) (intOf (cellOf y 0) == 4))))) else
 (bif bif decide (intOf (cellOf y 9) < 0) then true else decide (intOf (cellOf y 9) > 2) then
 p (V.d (D.lit (Value.int IntKind.i64 8))) else
 ((4 = 4 ∧ ∀ (y_1 : D), y_1 ∈ seqD (cellOf y 10) → FitG y_1) ∧
 (bif stagesE (seqD (cellOf y 10)) != 0 then
 p (V.d (D.lit (Value.int IntKind.i64 (stagesE (seqD (cellOf y 10)))))) else
 (bif textB false (intOf (D.lit (Value.int IntKind.i64 (intOf (cellOf y 0)))))
 (intOf (D.lit (Value.int IntKind.i64 (intOf (cellOf y 1))))) then
 (FitE (eV y) ∧
 p (V.d (D.lit (Value.int IntKind.i64 (textE (eV y)))))) else
 p (V.d (D.lit (Value.int IntKind.i64 0))))))))))) else
 ((1 = 1 ∧ ∀ (y_1 : D), y_1 ∈ seqD (cellOf y 7) → FitN y_1) ∧
 (bif namesE (seqD (cellOf y 7)) (intOf (cellOf y 0) == 4) != 0 then
 p (V.d (D.lit (Value.int IntKind.i64 (namesE (seqD (cellOf y 7)) (intOf (cellOf y 0) == 4))))) else
 (bif bif decide (intOf (cellOf y 9) < 0) then true else decide (intOf (cellOf y 9) > 2) then
 p (V.d (D.lit (Value.int IntKind.i64 8))) else
 ((4 = 4 ∧ ∀ (y_1 : D), y_1 ∈ seqD (cellOf y 10) → FitG y_1) ∧
 (bif stagesE (seqD (cellOf y 10)) != 0 then
 p (V.d (D.lit (Value.int IntKind.i64 (stagesE (seqD (cellOf y 10)))))) else
 (bif textB false (intOf (D.lit (Value.int IntKind.i64 (intOf (cellOf y 0)))))
 (intOf (D.lit (Value.int IntKind.i64 (intOf (cellOf y 1))))) then
 (FitE (eV y) ∧
 p (V.d (D.lit (Value.int IntKind.i64 (textE (eV y)))))) else
 p (V.d (D.lit (Value.int IntKind.i64 0))))))))))))))) else
 (bif intOf (cellOf y 0) == 7 then
 (bif bif true then bif decide (intOf (cellOf y 1) < 1) then true else decide (intOf (cellOf y 1) > (↑10 : Int)) else false then
 p (V.d (D.lit (Value.int IntKind.i64 8))) else
 (FitE (eV y) ∧
 (FitE (eV y) ∧
 (True ∧
 (bif bif
 !(butB (presB (eV y) 0) true == false &&
 (butB (presB (eV y) 1) true == false &&
 (butB (presB (eV y) 2)
 (numB false (intOf (D.lit (Value.int IntKind.i64 (intOf (cellOf y 0)))))
 (intOf (D.lit (Value.int IntKind.i64 (intOf (cellOf y 1)))))) ==
 false &&
 (butB (presB (eV y) 3)
 (textB false (intOf (D.lit (Value.int IntKind.i64 (intOf (cellOf y 0)))))
 (intOf (D.lit (Value.int IntKind.i64 (intOf (cellOf y 1)))))) ==
 false &&
 (butB (presB (eV y) 4) false == false &&
 (butB (presB (eV y) 5) false == false &&
 (butB (presB (eV y) 6) false == false &&
 (butB (presB (eV y) 7) false == false &&
 (butB (presB (eV y) 8) true == false &&
 (butB (presB (eV y) 9) true == false && true)))))))))) then
 true
 else (↑(seqD (cellOf y 15)).length : Int) != 2 then
 p (V.d (D.lit (Value.int IntKind.i64 1))) else
 (bif numB false (intOf (D.lit (Value.int IntKind.i64 (intOf (cellOf y 0)))))
 (intOf (D.lit (Value.int IntKind.i64 (intOf (cellOf y 1))))) then
 (FitE (eV y) ∧
 (bif numberE (eV y) != 0 then
 p (V.d (D.lit (Value.int IntKind.i64 (numberE (eV y))))) else
 ((1 = 1 ∧ ∀ (y_1 : D), y_1 ∈ seqD (cellOf y 7) → FitN y_1) ∧
 (bif namesE (seqD (cellOf y 7)) (intOf (cellOf y 0) == 4) != 0 then
 p (V.d (D.lit (Value.int IntKind.i64 (namesE (seqD (cellOf y 7)) (intOf (cellOf y 0) == 4))))) else
 (bif bif decide (intOf (cellOf y 9) < 0) then true else decide (intOf (cellOf y 9) > 2) then
 p (V.d (D.lit (Value.int IntKind.i64 8))) else
 ((4 = 4 ∧ ∀ (y_1 : D), y_1 ∈ seqD (cellOf y 10) → FitG y_1) ∧
 (bif stagesE (seqD (cellOf y 10)) != 0 then
 p (V.d (D.lit (Value.int IntKind.i64 (stagesE (seqD (cellOf y 10)))))) else
 (bif textB false (intOf (D.lit (Value.int IntKind.i64 (intOf (cellOf y 0)))))
 (intOf (D.lit (Value.int IntKind.i64 (intOf (cellOf y 1))))) then
 (FitE (eV y) ∧
 p (V.d (D.lit (Value.int IntKind.i64 (textE (eV y)))))) else
 p (V.d (D.lit (Value.int IntKind.i64 0))))))))))) else
 ((1 = 1 ∧ ∀ (y_1 : D), y_1 ∈ seqD (cellOf y 7) → FitN y_1) ∧
 (bif namesE (seqD (cellOf y 7)) (intOf (cellOf y 0) == 4) != 0 then
 p (V.d (D.lit (Value.int IntKind.i64 (namesE (seqD (cellOf y 7)) (intOf (cellOf y 0) == 4))))) else
 (bif bif decide (intOf (cellOf y 9) < 0) then true else decide (intOf (cellOf y 9) > 2) then
 p (V.d (D.lit (Value.int IntKind.i64 8))) else
 ((4 = 4 ∧ ∀ (y_1 : D), y_1 ∈ seqD (cellOf y 10) → FitG y_1) ∧
 (bif stagesE (seqD (cellOf y 10)) != 0 then
 p (V.d (D.lit (Value.int IntKind.i64 (stagesE (seqD (cellOf y 10)))))) else
 (bif textB false (intOf (D.lit (Value.int IntKind.i64 (intOf (cellOf y 0)))))
 (intOf (D.lit (Value.int IntKind.i64 (intOf (cellOf y 1))))) then
 (FitE (eV y) ∧
 p (V.d (D.lit (Value.int IntKind.i64 (textE (eV y)))))) else
 p (V.d (D.lit (Value.int IntKind.i64 0))))))))))))))) else
 (bif intOf (cellOf y 0) == 8 then
 (FitE (eV y) ∧
 (FitE (eV y) ∧
 (True ∧
 (bif bif
 !(butB (presB (eV y) 0) false == false &&
 (butB (presB (eV y) 1) false == false &&
 (butB (presB (eV y) 2)
 (numB false (intOf (D.lit (Value.int IntKind.i64 (intOf (cellOf y 0)))))
 (intOf (D.lit (Value.int IntKind.i64 (intOf (cellOf y 1)))))) ==
 false &&
 (butB (presB (eV y) 3)
 (textB false (intOf (D.lit (Value.int IntKind.i64 (intOf (cellOf y 0)))))
 (intOf (D.lit (Value.int IntKind.i64 (intOf (cellOf y 1)))))) ==
 false &&
 (butB (presB (eV y) 4) true == false &&
 (butB (presB (eV y) 5) false == false &&
 (butB (presB (eV y) 6) true == false &&
 (butB (presB (eV y) 7) true == false &&
 (butB (presB (eV y) 8) false == false &&
 (butB (presB (eV y) 9) false == false && true)))))))))) then
 true
 else (↑(seqD (cellOf y 15)).length : Int) != 0 then
 p (V.d (D.lit (Value.int IntKind.i64 1))) else
 ((3 = 3 ∧ ∀ (y_1 : D), y_1 ∈ seqD (cellOf y 2) → FitM y_1) ∧
 (bif matchersE (seqD (cellOf y 2)) != 0 then
 p (V.d (D.lit (Value.int IntKind.i64 (matchersE (seqD (cellOf y 2)))))) else
 (bif bif true then
 bif
 bif bif decide (intOf (cellOf y 3) < 1) then true else decide (intOf (cellOf y 3) > 1099511627776) then true
 else decide (intOf (cellOf y 4) < 0) then
 true
 else decide (intOf (cellOf y 4) > 1099511627776)
 else false then
 p (V.d (D.lit (Value.int IntKind.i64 2))) else
 (bif numB false (intOf (D.lit (Value.int IntKind.i64 (intOf (cellOf y 0)))))
 (intOf (D.lit (Value.int IntKind.i64 (intOf (cellOf y 1))))) then
 (FitE (eV y) ∧
 (bif numberE (eV y) != 0 then
 p (V.d (D.lit (Value.int IntKind.i64 (numberE (eV y))))) else
 ((1 = 1 ∧ ∀ (y_1 : D), y_1 ∈ seqD (cellOf y 7) → FitN y_1) ∧
 (bif namesE (seqD (cellOf y 7)) (intOf (cellOf y 0) == 4) != 0 then
 p (V.d (D.lit (Value.int IntKind.i64 (namesE (seqD (cellOf y 7)) (intOf (cellOf y 0) == 4))))) else
 (bif bif decide (intOf (cellOf y 9) < 0) then true else decide (intOf (cellOf y 9) > 2) then
 p (V.d (D.lit (Value.int IntKind.i64 8))) else
 ((4 = 4 ∧ ∀ (y_1 : D), y_1 ∈ seqD (cellOf y 10) → FitG y_1) ∧
 (bif stagesE (seqD (cellOf y 10)) != 0 then
 p (V.d (D.lit (Value.int IntKind.i64 (stagesE (seqD (cellOf y 10)))))) else
 (bif textB false (intOf (D.lit (Value.int IntKind.i64 (intOf (cellOf y 0)))))
 (intOf (D.lit (Value.int IntKind.i64 (intOf (cellOf y 1))))) then
 (FitE (eV y) ∧
 p (V.d (D.lit (Value.int IntKind.i64 (textE (eV y)))))) else
 p (V.d (D.lit (Value.int IntKind.i64 0))))))))))) else
 ((1 = 1 ∧ ∀ (y_1 : D), y_1 ∈ seqD (cellOf y 7) → FitN y_1) ∧
 (bif namesE (seqD (cellOf y 7)) (intOf (cellOf y 0) == 4) != 0 then
 p (V.d (D.lit (Value.int IntKind.i64 (namesE (seqD (cellOf y 7)) (intOf (cellOf y 0) == 4))))) else
 (bif bif decide (intOf (cellOf y 9) < 0) then true else decide (intOf (cellOf y 9) > 2) then
 p (V.d (D.lit (Value.int IntKind.i64 8))) else
 ((4 = 4 ∧ ∀ (y_1 : D), y_1 ∈ seqD (cellOf y 10) → FitG y_1) ∧
 (bif stagesE (seqD (cellOf y 10)) != 0 then
 p (V.d (D.lit (Value.int IntKind.i64 (stagesE (seqD (cellOf y 10)))))) else
 (bif textB false (intOf (D.lit (Value.int IntKind.i64 (intOf (cellOf y 0)))))
 (intOf (D.lit (Value.int IntKind.i64 (intOf (cellOf y 1))))) then
 (FitE (eV y) ∧
 p (V.d (D.lit (Value.int IntKind.i64 (textE (eV y)))))) else
 p (V.d (D.lit (Value.int IntKind.i64 0))))))))))))))))) else
 (bif intOf (cellOf y 0) == 9 then
 (FitE (eV y) ∧
 (FitE (eV y) ∧
 (True ∧
 (bif bif
 !(butB (presB (eV y) 0) false == false &&
 (butB (presB (eV y) 1) false == false &&
 (butB (presB (eV y) 2)
 (numB false (intOf (D.lit (Value.int IntKind.i64 (intOf (cellOf y 0)))))
 (intOf (D.lit (Value.int IntKind.i64 (intOf (cellOf y 1)))))) ==
 false &&
 (butB (presB (eV y) 3)
 (textB false (intOf (D.lit (Value.int IntKind.i64 (intOf (cellOf y 0)))))
 (intOf (D.lit (Value.int IntKind.i64 (intOf (cellOf y 1)))))) ==
 false &&
 (butB (presB (eV y) 4) false == false &&
 (butB (presB (eV y) 5) true == false &&
 (butB (presB (eV y) 6) false == false &&
 (butB (presB (eV y) 7) true == false &&
 (butB (presB (eV y) 8) false == false &&
 (butB (presB (eV y) 9) false == false && true)))))))))) then
 true
 else (↑(seqD (cellOf y 15)).length : Int) != 0 then
 p (V.d (D.lit (Value.int IntKind.i64 1))) else
 (bif bif true then
 bif
 bif bif decide (intOf (cellOf y 3) < 1) then true else decide (intOf (cellOf y 3) > 1099511627776) then true
 else decide (intOf (cellOf y 4) < 0) then
 true
 else decide (intOf (cellOf y 4) > 1099511627776)
 else false then
 p (V.d (D.lit (Value.int IntKind.i64 2))) else
 (bif numB false (intOf (D.lit (Value.int IntKind.i64 (intOf (cellOf y 0)))))
 (intOf (D.lit (Value.int IntKind.i64 (intOf (cellOf y 1))))) then
 (FitE (eV y) ∧
 (bif numberE (eV y) != 0 then
 p (V.d (D.lit (Value.int IntKind.i64 (numberE (eV y))))) else
 ((1 = 1 ∧ ∀ (y_1 : D), y_1 ∈ seqD (cellOf y 7) → FitN y_1) ∧
 (bif namesE (seqD (cellOf y 7)) (intOf (cellOf y 0) == 4) != 0 then
 p (V.d (D.lit (Value.int IntKind.i64 (namesE (seqD (cellOf y 7)) (intOf (cellOf y 0) == 4))))) else
 (bif bif decide (intOf (cellOf y 9) < 0) then true else decide (intOf (cellOf y 9) > 2) then
 p (V.d (D.lit (Value.int IntKind.i64 8))) else
 ((4 = 4 ∧ ∀ (y_1 : D), y_1 ∈ seqD (cellOf y 10) → FitG y_1) ∧
 (bif stagesE (seqD (cellOf y 10)) != 0 then
 p (V.d (D.lit (Value.int IntKind.i64 (stagesE (seqD (cellOf y 10)))))) else
 (FitP (paV y) ∧
 (bif patCheckE (paV y) != 0 then
 p (V.d (D.lit (Value.int IntKind.i64 (patCheckE (paV y))))) else
 (bif textB false (intOf (D.lit (Value.int IntKind.i64 (intOf (cellOf y 0)))))
 (intOf (D.lit (Value.int IntKind.i64 (intOf (cellOf y 1))))) then
 (FitE (eV y) ∧
 p (V.d (D.lit (Value.int IntKind.i64 (textE (eV y)))))) else
 p (V.d (D.lit (Value.int IntKind.i64 0))))))))))))) else
 ((1 = 1 ∧ ∀ (y_1 : D), y_1 ∈ seqD (cellOf y 7) → FitN y_1) ∧
 (bif namesE (seqD (cellOf y 7)) (intOf (cellOf y 0) == 4) != 0 then
 p (V.d (D.lit (Value.int IntKind.i64 (namesE (seqD (cellOf y 7)) (intOf (cellOf y 0) == 4))))) else
 (bif bif decide (intOf (cellOf y 9) < 0) then true else decide (intOf (cellOf y 9) > 2) then
 p (V.d (D.lit (Value.int IntKind.i64 8))) else
 ((4 = 4 ∧ ∀ (y_1 : D), y_1 ∈ seqD (cellOf y 10) → FitG y_1) ∧
 (bif stagesE (seqD (cellOf y 10)) != 0 then
 p (V.d (D.lit (Value.int IntKind.i64 (stagesE (seqD (cellOf y 10)))))) else
 (FitP (paV y) ∧
 (bif patCheckE (paV y) != 0 then
 p (V.d (D.lit (Value.int IntKind.i64 (patCheckE (paV y))))) else
 (bif textB false (intOf (D.lit (Value.int IntKind.i64 (intOf (cellOf y 0)))))
 (intOf (D.lit (Value.int IntKind.i64 (intOf (cellOf y 1))))) then
 (FitE (eV y) ∧
 p (V.d (D.lit (Value.int IntKind.i64 (textE (eV y)))))) else
 p (V.d (D.lit (Value.int IntKind.i64 0))))))))))))))))) else
 (bif intOf (cellOf y 0) == 10 then
 (FitE (eV y) ∧
 (FitE (eV y) ∧
 (True ∧
 (bif bif
 !(butB (presB (eV y) 0) false == false &&
 (butB (presB (eV y) 1) false == false &&
 (butB (presB (eV y) 2)
 (numB false (intOf (D.lit (Value.int IntKind.i64 (intOf (cellOf y 0)))))
 (intOf (D.lit (Value.int IntKind.i64 (intOf (cellOf y 1)))))) ==
 false &&
 (butB (presB (eV y) 3)
 (textB false (intOf (D.lit (Value.int IntKind.i64 (intOf (cellOf y 0)))))
 (intOf (D.lit (Value.int IntKind.i64 (intOf (cellOf y 1)))))) ==
 false &&
 (butB (presB (eV y) 4) true == false &&
 (butB (presB (eV y) 5) false == false &&
 (butB (presB (eV y) 6) false == false &&
 (butB (presB (eV y) 7) true == false &&
 (butB (presB (eV y) 8) false == false &&
 (butB (presB (eV y) 9) false == false && true)))))))))) then
 true
 else (↑(seqD (cellOf y 15)).length : Int) != 0 then
 p (V.d (D.lit (Value.int IntKind.i64 1))) else
 ((3 = 3 ∧ ∀ (y_1 : D), y_1 ∈ seqD (cellOf y 2) → FitM y_1) ∧
 (bif matchersE (seqD (cellOf y 2)) != 0 then
 p (V.d (D.lit (Value.int IntKind.i64 (matchersE (seqD (cellOf y 2)))))) else
 (bif bif true then
 bif
 bif bif decide (intOf (cellOf y 3) < 1) then true else decide (intOf (cellOf y 3) > 1099511627776) then true
 else decide (intOf (cellOf y 4) < 0) then
 true
 else decide (intOf (cellOf y 4) > 1099511627776)
 else false then
 p (V.d (D.lit (Value.int IntKind.i64 2))) else
 (bif numB false (intOf (D.lit (Value.int IntKind.i64 (intOf (cellOf y 0)))))
 (intOf (D.lit (Value.int IntKind.i64 (intOf (cellOf y 1))))) then
 (FitE (eV y) ∧
 (bif numberE (eV y) != 0 then
 p (V.d (D.lit (Value.int IntKind.i64 (numberE (eV y))))) else
 ((1 = 1 ∧ ∀ (y_1 : D), y_1 ∈ seqD (cellOf y 7) → FitN y_1) ∧
 (bif namesE (seqD (cellOf y 7)) (intOf (cellOf y 0) == 4) != 0 then
 p (V.d (D.lit (Value.int IntKind.i64 (namesE (seqD (cellOf y 7)) (intOf (cellOf y 0) == 4))))) else
 (bif bif decide (intOf (cellOf y 9) < 0) then true else decide (intOf (cellOf y 9) > 2) then
 p (V.d (D.lit (Value.int IntKind.i64 8))) else
 ((4 = 4 ∧ ∀ (y_1 : D), y_1 ∈ seqD (cellOf y 10) → FitG y_1) ∧
 (bif stagesE (seqD (cellOf y 10)) != 0 then
 p (V.d (D.lit (Value.int IntKind.i64 (stagesE (seqD (cellOf y 10)))))) else
 (bif textB false (intOf (D.lit (Value.int IntKind.i64 (intOf (cellOf y 0)))))
 (intOf (D.lit (Value.int IntKind.i64 (intOf (cellOf y 1))))) then
 (FitE (eV y) ∧
 p (V.d (D.lit (Value.int IntKind.i64 (textE (eV y)))))) else
 p (V.d (D.lit (Value.int IntKind.i64 0))))))))))) else
 ((1 = 1 ∧ ∀ (y_1 : D), y_1 ∈ seqD (cellOf y 7) → FitN y_1) ∧
 (bif namesE (seqD (cellOf y 7)) (intOf (cellOf y 0) == 4) != 0 then
 p (V.d (D.lit (Value.int IntKind.i64 (namesE (seqD (cellOf y 7)) (intOf (cellOf y 0) == 4))))) else
 (bif bif decide (intOf (cellOf y 9) < 0) then true else decide (intOf (cellOf y 9) > 2) then
 p (V.d (D.lit (Value.int IntKind.i64 8))) else
 ((4 = 4 ∧ ∀ (y_1 : D), y_1 ∈ seqD (cellOf y 10) → FitG y_1) ∧
 (bif stagesE (seqD (cellOf y 10)) != 0 then
 p (V.d (D.lit (Value.int IntKind.i64 (stagesE (seqD (cellOf y 10)))))) else
 (bif textB false (intOf (D.lit (Value.int IntKind.i64 (intOf (cellOf y 0)))))
 (intOf (D.lit (Value.int IntKind.i64 (intOf (cellOf y 1))))) then
 (FitE (eV y) ∧
 p (V.d (D.lit (Value.int IntKind.i64 (textE (eV y)))))) else
 p (V.d (D.lit (Value.int IntKind.i64 0))))))))))))))))) else
 (bif intOf (cellOf y 0) == 11 then
 (FitE (eV y) ∧
 (FitE (eV y) ∧
 (True ∧
 (bif bif
 !(butB (presB (eV y) 0) false == false &&
 (butB (presB (eV y) 1) false == false &&
 (butB (presB (eV y) 2)
 (numB false (intOf (D.lit (Value.int IntKind.i64 (intOf (cellOf y 0)))))
 (intOf (D.lit (Value.int IntKind.i64 (intOf (cellOf y 1)))))) ==
 false &&
 (butB (presB (eV y) 3)
 (textB false (intOf (D.lit (Value.int IntKind.i64 (intOf (cellOf y 0)))))
 (intOf (D.lit (Value.int IntKind.i64 (intOf (cellOf y 1)))))) ==
 false &&
 (butB (presB (eV y) 4) true == false &&
 (butB (presB (eV y) 5) false == false &&
 (butB (presB (eV y) 6) false == false &&
 (butB (presB (eV y) 7) true == false &&
 (butB (presB (eV y) 8) false == false &&
 (butB (presB (eV y) 9) false == false && true)))))))))) then
 true
 else (↑(seqD (cellOf y 15)).length : Int) != 0 then
 p (V.d (D.lit (Value.int IntKind.i64 1))) else
 ((3 = 3 ∧ ∀ (y_1 : D), y_1 ∈ seqD (cellOf y 2) → FitM y_1) ∧
 (bif matchersE (seqD (cellOf y 2)) != 0 then
 p (V.d (D.lit (Value.int IntKind.i64 (matchersE (seqD (cellOf y 2)))))) else
 (bif bif true then
 bif
 bif bif decide (intOf (cellOf y 3) < 1) then true else decide (intOf (cellOf y 3) > 1099511627776) then true
 else decide (intOf (cellOf y 4) < 0) then
 true
 else decide (intOf (cellOf y 4) > 1099511627776)
 else false then
 p (V.d (D.lit (Value.int IntKind.i64 2))) else
 (bif numB false (intOf (D.lit (Value.int IntKind.i64 (intOf (cellOf y 0)))))
 (intOf (D.lit (Value.int IntKind.i64 (intOf (cellOf y 1))))) then
 (FitE (eV y) ∧
 (bif numberE (eV y) != 0 then
 p (V.d (D.lit (Value.int IntKind.i64 (numberE (eV y))))) else
 ((1 = 1 ∧ ∀ (y_1 : D), y_1 ∈ seqD (cellOf y 7) → FitN y_1) ∧
 (bif namesE (seqD (cellOf y 7)) (intOf (cellOf y 0) == 4) != 0 then
 p (V.d (D.lit (Value.int IntKind.i64 (namesE (seqD (cellOf y 7)) (intOf (cellOf y 0) == 4))))) else
 (bif bif decide (intOf (cellOf y 9) < 0) then true else decide (intOf (cellOf y 9) > 2) then
 p (V.d (D.lit (Value.int IntKind.i64 8))) else
 ((4 = 4 ∧ ∀ (y_1 : D), y_1 ∈ seqD (cellOf y 10) → FitG y_1) ∧
 (bif stagesE (seqD (cellOf y 10)) != 0 then
 p (V.d (D.lit (Value.int IntKind.i64 (stagesE (seqD (cellOf y 10)))))) else
 (bif textB false (intOf (D.lit (Value.int IntKind.i64 (intOf (cellOf y 0)))))
 (intOf (D.lit (Value.int IntKind.i64 (intOf (cellOf y 1))))) then
 (FitE (eV y) ∧
 p (V.d (D.lit (Value.int IntKind.i64 (textE (eV y)))))) else
 p (V.d (D.lit (Value.int IntKind.i64 0))))))))))) else
 ((1 = 1 ∧ ∀ (y_1 : D), y_1 ∈ seqD (cellOf y 7) → FitN y_1) ∧
 (bif namesE (seqD (cellOf y 7)) (intOf (cellOf y 0) == 4) != 0 then
 p (V.d (D.lit (Value.int IntKind.i64 (namesE (seqD (cellOf y 7)) (intOf (cellOf y 0) == 4))))) else
 (bif bif decide (intOf (cellOf y 9) < 0) then true else decide (intOf (cellOf y 9) > 2) then
 p (V.d (D.lit (Value.int IntKind.i64 8))) else
 ((4 = 4 ∧ ∀ (y_1 : D), y_1 ∈ seqD (cellOf y 10) → FitG y_1) ∧
 (bif stagesE (seqD (cellOf y 10)) != 0 then
 p (V.d (D.lit (Value.int IntKind.i64 (stagesE (seqD (cellOf y 10)))))) else
 (bif textB false (intOf (D.lit (Value.int IntKind.i64 (intOf (cellOf y 0)))))
 (intOf (D.lit (Value.int IntKind.i64 (intOf (cellOf y 1))))) then
 (FitE (eV y) ∧
 p (V.d (D.lit (Value.int IntKind.i64 (textE (eV y)))))) else
 p (V.d (D.lit (Value.int IntKind.i64 0))))))))))))))))) else
 (bif intOf (cellOf y 0) == 12 then
 (FitE (eV y) ∧
 (FitE (eV y) ∧
 (True ∧
 (bif bif
 !(butB (presB (eV y) 0) false == false &&
 (butB (presB (eV y) 1) false == false &&
 (butB (presB (eV y) 2)
 (numB false (intOf (D.lit (Value.int IntKind.i64 (intOf (cellOf y 0)))))
 (intOf (D.lit (Value.int IntKind.i64 (intOf (cellOf y 1)))))) ==
 false &&
 (butB (presB (eV y) 3)
 (textB false (intOf (D.lit (Value.int IntKind.i64 (intOf (cellOf y 0)))))
 (intOf (D.lit (Value.int IntKind.i64 (intOf (cellOf y 1)))))) ==
 false &&
 (butB (presB (eV y) 4) true == false &&
 (butB (presB (eV y) 5) false == false &&
 (butB (presB (eV y) 6) true == false &&
 (butB (presB (eV y) 7) true == false &&
 (butB (presB (eV y) 8) false == false &&
 (butB (presB (eV y) 9) false == false && true)))))))))) then
 true
 else (↑(seqD (cellOf y 15)).length : Int) != 1 then
 p (V.d (D.lit (Value.int IntKind.i64 1))) else
 ((3 = 3 ∧ ∀ (y_1 : D), y_1 ∈ seqD (cellOf y 2) → FitM y_1) ∧
 (bif matchersE (seqD (cellOf y 2)) != 0 then
 p (V.d (D.lit (Value.int IntKind.i64 (matchersE (seqD (cellOf y 2)))))) else
 (bif bif true then
 bif
 bif bif decide (intOf (cellOf y 3) < 1) then true else decide (intOf (cellOf y 3) > 1099511627776) then true
 else decide (intOf (cellOf y 4) < 0) then
 true
 else decide (intOf (cellOf y 4) > 1099511627776)
 else false then
 p (V.d (D.lit (Value.int IntKind.i64 2))) else
 (bif numB false (intOf (D.lit (Value.int IntKind.i64 (intOf (cellOf y 0)))))
 (intOf (D.lit (Value.int IntKind.i64 (intOf (cellOf y 1))))) then
 (FitE (eV y) ∧
 (bif numberE (eV y) != 0 then
 p (V.d (D.lit (Value.int IntKind.i64 (numberE (eV y))))) else
 ((1 = 1 ∧ ∀ (y_1 : D), y_1 ∈ seqD (cellOf y 7) → FitN y_1) ∧
 (bif namesE (seqD (cellOf y 7)) (intOf (cellOf y 0) == 4) != 0 then
 p (V.d (D.lit (Value.int IntKind.i64 (namesE (seqD (cellOf y 7)) (intOf (cellOf y 0) == 4))))) else
 (bif bif decide (intOf (cellOf y 9) < 0) then true else decide (intOf (cellOf y 9) > 2) then
 p (V.d (D.lit (Value.int IntKind.i64 8))) else
 ((4 = 4 ∧ ∀ (y_1 : D), y_1 ∈ seqD (cellOf y 10) → FitG y_1) ∧
 (bif stagesE (seqD (cellOf y 10)) != 0 then
 p (V.d (D.lit (Value.int IntKind.i64 (stagesE (seqD (cellOf y 10)))))) else
 (bif textB false (intOf (D.lit (Value.int IntKind.i64 (intOf (cellOf y 0)))))
 (intOf (D.lit (Value.int IntKind.i64 (intOf (cellOf y 1))))) then
 (FitE (eV y) ∧
 p (V.d (D.lit (Value.int IntKind.i64 (textE (eV y)))))) else
 p (V.d (D.lit (Value.int IntKind.i64 0))))))))))) else
 ((1 = 1 ∧ ∀ (y_1 : D), y_1 ∈ seqD (cellOf y 7) → FitN y_1) ∧
 (bif namesE (seqD (cellOf y 7)) (intOf (cellOf y 0) == 4) != 0 then
 p (V.d (D.lit (Value.int IntKind.i64 (namesE (seqD (cellOf y 7)) (intOf (cellOf y 0) == 4))))) else
 (bif bif decide (intOf (cellOf y 9) < 0) then true else decide (intOf (cellOf y 9) > 2) then
 p (V.d (D.lit (Value.int IntKind.i64 8))) else
 ((4 = 4 ∧ ∀ (y_1 : D), y_1 ∈ seqD (cellOf y 10) → FitG y_1) ∧
 (bif stagesE (seqD (cellOf y 10)) != 0 then
 p (V.d (D.lit (Value.int IntKind.i64 (stagesE (seqD (cellOf y 10)))))) else
 (bif textB false (intOf (D.lit (Value.int IntKind.i64 (intOf (cellOf y 0)))))
 (intOf (D.lit (Value.int IntKind.i64 (intOf (cellOf y 1))))) then
 (FitE (eV y) ∧
 p (V.d (D.lit (Value.int IntKind.i64 (textE (eV y)))))) else
 p (V.d (D.lit (Value.int IntKind.i64 0))))))))))))))))) else
 (bif intOf (cellOf y 0) == 13 then
 (FitE (eV y) ∧
 (FitE (eV y) ∧
 (True ∧
 (bif bif
 !(butB (presB (eV y) 0) false == false &&
 (butB (presB (eV y) 1) false == false &&
 (butB (presB (eV y) 2)
 (numB false (intOf (D.lit (Value.int IntKind.i64 (intOf (cellOf y 0)))))
 (intOf (D.lit (Value.int IntKind.i64 (intOf (cellOf y 1)))))) ==
 false &&
 (butB (presB (eV y) 3)
 (textB true (intOf (D.lit (Value.int IntKind.i64 (intOf (cellOf y 0)))))
 (intOf (D.lit (Value.int IntKind.i64 (intOf (cellOf y 1)))))) ==
 false &&
 (butB (presB (eV y) 4) false == false &&
 (butB (presB (eV y) 5) false == false &&
 (butB (presB (eV y) 6) false == false &&
 (butB (presB (eV y) 7) false == false &&
 (butB (presB (eV y) 8) false == false &&
 (butB (presB (eV y) 9) false == false && true)))))))))) then
 true
 else (↑(seqD (cellOf y 15)).length : Int) != 0 then
 p (V.d (D.lit (Value.int IntKind.i64 1))) else
 (bif numB false (intOf (D.lit (Value.int IntKind.i64 (intOf (cellOf y 0)))))
 (intOf (D.lit (Value.int IntKind.i64 (intOf (cellOf y 1))))) then
 (FitE (eV y) ∧
 (bif numberE (eV y) != 0 then
 p (V.d (D.lit (Value.int IntKind.i64 (numberE (eV y))))) else
 ((1 = 1 ∧ ∀ (y_1 : D), y_1 ∈ seqD (cellOf y 7) → FitN y_1) ∧
 (bif namesE (seqD (cellOf y 7)) (intOf (cellOf y 0) == 4) != 0 then
 p (V.d (D.lit (Value.int IntKind.i64 (namesE (seqD (cellOf y 7)) (intOf (cellOf y 0) == 4))))) else
 (bif bif decide (intOf (cellOf y 9) < 0) then true else decide (intOf (cellOf y 9) > 2) then
 p (V.d (D.lit (Value.int IntKind.i64 8))) else
 ((4 = 4 ∧ ∀ (y_1 : D), y_1 ∈ seqD (cellOf y 10) → FitG y_1) ∧
 (bif stagesE (seqD (cellOf y 10)) != 0 then
 p (V.d (D.lit (Value.int IntKind.i64 (stagesE (seqD (cellOf y 10)))))) else
 (bif textB true (intOf (D.lit (Value.int IntKind.i64 (intOf (cellOf y 0)))))
 (intOf (D.lit (Value.int IntKind.i64 (intOf (cellOf y 1))))) then
 (FitE (eV y) ∧
 p (V.d (D.lit (Value.int IntKind.i64 (textE (eV y)))))) else
 p (V.d (D.lit (Value.int IntKind.i64 0))))))))))) else
 ((1 = 1 ∧ ∀ (y_1 : D), y_1 ∈ seqD (cellOf y 7) → FitN y_1) ∧
 (bif namesE (seqD (cellOf y 7)) (intOf (cellOf y 0) == 4) != 0 then
 p (V.d (D.lit (Value.int IntKind.i64 (namesE (seqD (cellOf y 7)) (intOf (cellOf y 0) == 4))))) else
 (bif bif decide (intOf (cellOf y 9) < 0) then true else decide (intOf (cellOf y 9) > 2) then
 p (V.d (D.lit (Value.int IntKind.i64 8))) else
 ((4 = 4 ∧ ∀ (y_1 : D), y_1 ∈ seqD (cellOf y 10) → FitG y_1) ∧
 (bif stagesE (seqD (cellOf y 10)) != 0 then
 p (V.d (D.lit (Value.int IntKind.i64 (stagesE (seqD (cellOf y 10)))))) else
 (bif textB true (intOf (D.lit (Value.int IntKind.i64 (intOf (cellOf y 0)))))
 (intOf (D.lit (Value.int IntKind.i64 (intOf (cellOf y 1))))) then
 (FitE (eV y) ∧
 p (V.d (D.lit (Value.int IntKind.i64 (textE (eV y)))))) else
 p (V.d (D.lit (Value.int IntKind.i64 0)))))))))))))) else
 p (V.d (D.lit (Value.int IntKind.i64 8)))))))))))))))) := by kernel_rfl
noncomputable def exprE (y : D) : Int :=
 (bif intOf (cellOf y 0) == 1 then
 (bif bif
 !(butB (presB (eV y) 0) false == false &&
 (butB (presB (eV y) 1) false == false &&
 (butB (presB (eV y) 2)
 (numB true (intOf (D.lit (Value.int IntKind.i64 (intOf (cellOf y 0)))))
 (intOf (D.lit (Value.int IntKind.i64 (intOf (cellOf y 1)))))) ==
 false &&
 (butB (presB (eV y) 3)
 (textB false (intOf (D.lit (Value.int IntKind.i64 (intOf (cellOf y 0)))))
 (intOf (D.lit (Value.int IntKind.i64 (intOf (cellOf y 1)))))) ==
 false &&
 (butB (presB (eV y) 4) false == false &&
 (butB (presB (eV y) 5) false == false &&
 (butB (presB (eV y) 6) false == false &&
 (butB (presB (eV y) 7) false == false &&
 (butB (presB (eV y) 8) false == false &&
 (butB (presB (eV y) 9) false == false && true)))))))))) then
 true
 else (↑(seqD (cellOf y 15)).length : Int) != 0 then
 1 else
 (bif numB true (intOf (D.lit (Value.int IntKind.i64 (intOf (cellOf y 0)))))
 (intOf (D.lit (Value.int IntKind.i64 (intOf (cellOf y 1))))) then
 (bif numberE (eV y) != 0 then
 (numberE (eV y)) else
 (bif namesE (seqD (cellOf y 7)) (intOf (cellOf y 0) == 4) != 0 then
 (namesE (seqD (cellOf y 7)) (intOf (cellOf y 0) == 4)) else
 (bif bif decide (intOf (cellOf y 9) < 0) then true else decide (intOf (cellOf y 9) > 2) then
 8 else
 (bif stagesE (seqD (cellOf y 10)) != 0 then
 (stagesE (seqD (cellOf y 10))) else
 (bif textB false (intOf (D.lit (Value.int IntKind.i64 (intOf (cellOf y 0)))))
 (intOf (D.lit (Value.int IntKind.i64 (intOf (cellOf y 1))))) then
 (textE (eV y)) else
 0))))) else
 (bif namesE (seqD (cellOf y 7)) (intOf (cellOf y 0) == 4) != 0 then
 (namesE (seqD (cellOf y 7)) (intOf (cellOf y 0) == 4)) else
 (bif bif decide (intOf (cellOf y 9) < 0) then true else decide (intOf (cellOf y 9) > 2) then
 8 else
 (bif stagesE (seqD (cellOf y 10)) != 0 then
 (stagesE (seqD (cellOf y 10))) else
 (bif textB false (intOf (D.lit (Value.int IntKind.i64 (intOf (cellOf y 0)))))
 (intOf (D.lit (Value.int IntKind.i64 (intOf (cellOf y 1))))) then
 (textE (eV y)) else
 0)))))) else
 (bif intOf (cellOf y 0) == 2 then
 (bif bif true then bif decide (intOf (cellOf y 1) < 1) then true else decide (intOf (cellOf y 1) > (↑11 : Int)) else false then
 8 else
 (bif bif
 !(butB (presB (eV y) 0) true == false &&
 (butB (presB (eV y) 1) false == false &&
 (butB (presB (eV y) 2)
 (numB false (intOf (D.lit (Value.int IntKind.i64 (intOf (cellOf y 0)))))
 (intOf (D.lit (Value.int IntKind.i64 (intOf (cellOf y 1)))))) ==
 false &&
 (butB (presB (eV y) 3)
 (textB false (intOf (D.lit (Value.int IntKind.i64 (intOf (cellOf y 0)))))
 (intOf (D.lit (Value.int IntKind.i64 (intOf (cellOf y 1)))))) ==
 false &&
 (butB (presB (eV y) 4) true == false &&
 (butB (presB (eV y) 5) false == false &&
 (butB (presB (eV y) 6) false == false &&
 (butB (presB (eV y) 7) true == false &&
 (butB (presB (eV y) 8) false == false &&
 (butB (presB (eV y) 9) false == false && true)))))))))) then
 true
 else (↑(seqD (cellOf y 15)).length : Int) != 0 then
 1 else
 (bif matchersE (seqD (cellOf y 2)) != 0 then
 (matchersE (seqD (cellOf y 2))) else
 (bif bif true then
 bif
 bif bif decide (intOf (cellOf y 3) < 1) then true else decide (intOf (cellOf y 3) > 1099511627776) then true
 else decide (intOf (cellOf y 4) < 0) then
 true
 else decide (intOf (cellOf y 4) > 1099511627776)
 else false then
 2 else
 (bif numB false (intOf (D.lit (Value.int IntKind.i64 (intOf (cellOf y 0)))))
 (intOf (D.lit (Value.int IntKind.i64 (intOf (cellOf y 1))))) then
 (bif numberE (eV y) != 0 then
 (numberE (eV y)) else
 (bif namesE (seqD (cellOf y 7)) (intOf (cellOf y 0) == 4) != 0 then
 (namesE (seqD (cellOf y 7)) (intOf (cellOf y 0) == 4)) else
 (bif bif decide (intOf (cellOf y 9) < 0) then true else decide (intOf (cellOf y 9) > 2) then
 8 else
 (bif stagesE (seqD (cellOf y 10)) != 0 then
 (stagesE (seqD (cellOf y 10))) else
 (bif textB false (intOf (D.lit (Value.int IntKind.i64 (intOf (cellOf y 0)))))
 (intOf (D.lit (Value.int IntKind.i64 (intOf (cellOf y 1))))) then
 (textE (eV y)) else
 0))))) else
 (bif namesE (seqD (cellOf y 7)) (intOf (cellOf y 0) == 4) != 0 then
 (namesE (seqD (cellOf y 7)) (intOf (cellOf y 0) == 4)) else
 (bif bif decide (intOf (cellOf y 9) < 0) then true else decide (intOf (cellOf y 9) > 2) then
 8 else
 (bif stagesE (seqD (cellOf y 10)) != 0 then
 (stagesE (seqD (cellOf y 10))) else
 (bif textB false (intOf (D.lit (Value.int IntKind.i64 (intOf (cellOf y 0)))))
 (intOf (D.lit (Value.int IntKind.i64 (intOf (cellOf y 1))))) then
 (textE (eV y)) else
 0))))))))) else
 (bif intOf (cellOf y 0) == 3 then
 (bif bif true then bif decide (intOf (cellOf y 1) < 1) then true else decide (intOf (cellOf y 1) > (↑3 : Int)) else false then
 8 else
 (bif bif
 !(butB (presB (eV y) 0) true == false &&
 (butB (presB (eV y) 1) false == false &&
 (butB (presB (eV y) 2)
 (numB false (intOf (D.lit (Value.int IntKind.i64 (intOf (cellOf y 0)))))
 (intOf (D.lit (Value.int IntKind.i64 (intOf (cellOf y 1)))))) ==
 false &&
 (butB (presB (eV y) 3)
 (textB false (intOf (D.lit (Value.int IntKind.i64 (intOf (cellOf y 0)))))
 (intOf (D.lit (Value.int IntKind.i64 (intOf (cellOf y 1)))))) ==
 false &&
 (butB (presB (eV y) 4) true == false &&
 (butB (presB (eV y) 5) false == false &&
 (butB (presB (eV y) 6) true == false &&
 (butB (presB (eV y) 7) true == false &&
 (butB (presB (eV y) 8) true == false &&
 (butB (presB (eV y) 9) true == false && true)))))))))) then
 true
 else (↑(seqD (cellOf y 15)).length : Int) != 0 then
 1 else
 (bif matchersE (seqD (cellOf y 2)) != 0 then
 (matchersE (seqD (cellOf y 2))) else
 (bif bif true then
 bif
 bif bif decide (intOf (cellOf y 3) < 1) then true else decide (intOf (cellOf y 3) > 1099511627776) then true
 else decide (intOf (cellOf y 4) < 0) then
 true
 else decide (intOf (cellOf y 4) > 1099511627776)
 else false then
 2 else
 (bif numB false (intOf (D.lit (Value.int IntKind.i64 (intOf (cellOf y 0)))))
 (intOf (D.lit (Value.int IntKind.i64 (intOf (cellOf y 1))))) then
 (bif numberE (eV y) != 0 then
 (numberE (eV y)) else
 (bif namesE (seqD (cellOf y 7)) (intOf (cellOf y 0) == 4) != 0 then
 (namesE (seqD (cellOf y 7)) (intOf (cellOf y 0) == 4)) else
 (bif bif decide (intOf (cellOf y 9) < 0) then true else decide (intOf (cellOf y 9) > 2) then
 8 else
 (bif stagesE (seqD (cellOf y 10)) != 0 then
 (stagesE (seqD (cellOf y 10))) else
 (bif textB false (intOf (D.lit (Value.int IntKind.i64 (intOf (cellOf y 0)))))
 (intOf (D.lit (Value.int IntKind.i64 (intOf (cellOf y 1))))) then
 (textE (eV y)) else
 0))))) else
 (bif namesE (seqD (cellOf y 7)) (intOf (cellOf y 0) == 4) != 0 then
 (namesE (seqD (cellOf y 7)) (intOf (cellOf y 0) == 4)) else
 (bif bif decide (intOf (cellOf y 9) < 0) then true else decide (intOf (cellOf y 9) > 2) then
 8 else
 (bif stagesE (seqD (cellOf y 10)) != 0 then
 (stagesE (seqD (cellOf y 10))) else
 (bif textB false (intOf (D.lit (Value.int IntKind.i64 (intOf (cellOf y 0)))))
 (intOf (D.lit (Value.int IntKind.i64 (intOf (cellOf y 1))))) then
 (textE (eV y)) else
 0))))))))) else
 (bif intOf (cellOf y 0) == 4 then
 (bif bif
 !(butB (presB (eV y) 0) false == false &&
 (butB (presB (eV y) 1) false == false &&
 (butB (presB (eV y) 2)
 (numB false (intOf (D.lit (Value.int IntKind.i64 (intOf (cellOf y 0)))))
 (intOf (D.lit (Value.int IntKind.i64 (intOf (cellOf y 1)))))) ==
 false &&
 (butB (presB (eV y) 3)
 (textB false (intOf (D.lit (Value.int IntKind.i64 (intOf (cellOf y 0)))))
 (intOf (D.lit (Value.int IntKind.i64 (intOf (cellOf y 1)))))) ==
 false &&
 (butB (presB (eV y) 4) false == false &&
 (butB (presB (eV y) 5) true == false &&
 (butB (presB (eV y) 6) false == false &&
 (butB (presB (eV y) 7) true == false &&
 (butB (presB (eV y) 8) true == false &&
 (butB (presB (eV y) 9) false == false && true)))))))))) then
 true
 else (↑(seqD (cellOf y 15)).length : Int) != 0 then
 1 else
 (bif bif true then
 bif
 bif bif decide (intOf (cellOf y 3) < 1) then true else decide (intOf (cellOf y 3) > 1099511627776) then true
 else decide (intOf (cellOf y 4) < 0) then
 true
 else decide (intOf (cellOf y 4) > 1099511627776)
 else false then
 2 else
 (bif numB false (intOf (D.lit (Value.int IntKind.i64 (intOf (cellOf y 0)))))
 (intOf (D.lit (Value.int IntKind.i64 (intOf (cellOf y 1))))) then
 (bif numberE (eV y) != 0 then
 (numberE (eV y)) else
 (bif namesE (seqD (cellOf y 7)) (intOf (cellOf y 0) == 4) != 0 then
 (namesE (seqD (cellOf y 7)) (intOf (cellOf y 0) == 4)) else
 (bif bif decide (intOf (cellOf y 9) < 0) then true else decide (intOf (cellOf y 9) > 2) then
 8 else
 (bif stagesE (seqD (cellOf y 10)) != 0 then
 (stagesE (seqD (cellOf y 10))) else
 (bif patCheckE (paV y) != 0 then
 (patCheckE (paV y)) else
 (bif textB false (intOf (D.lit (Value.int IntKind.i64 (intOf (cellOf y 0)))))
 (intOf (D.lit (Value.int IntKind.i64 (intOf (cellOf y 1))))) then
 (textE (eV y)) else
 0)))))) else
 (bif namesE (seqD (cellOf y 7)) (intOf (cellOf y 0) == 4) != 0 then
 (namesE (seqD (cellOf y 7)) (intOf (cellOf y 0) == 4)) else
 (bif bif decide (intOf (cellOf y 9) < 0) then true else decide (intOf (cellOf y 9) > 2) then
 8 else
 (bif stagesE (seqD (cellOf y 10)) != 0 then
 (stagesE (seqD (cellOf y 10))) else
 (bif patCheckE (paV y) != 0 then
 (patCheckE (paV y)) else
 (bif textB false (intOf (D.lit (Value.int IntKind.i64 (intOf (cellOf y 0)))))
 (intOf (D.lit (Value.int IntKind.i64 (intOf (cellOf y 1))))) then
 (textE (eV y)) else
 0)))))))) else
 (bif intOf (cellOf y 0) == 5 then
 (bif bif
 !(butB (presB (eV y) 0) false == false &&
 (butB (presB (eV y) 1) false == false &&
 (butB (presB (eV y) 2)
 (numB false (intOf (D.lit (Value.int IntKind.i64 (intOf (cellOf y 0)))))
 (intOf (D.lit (Value.int IntKind.i64 (intOf (cellOf y 1)))))) ==
 false &&
 (butB (presB (eV y) 3)
 (textB true (intOf (D.lit (Value.int IntKind.i64 (intOf (cellOf y 0)))))
 (intOf (D.lit (Value.int IntKind.i64 (intOf (cellOf y 1)))))) ==
 false &&
 (butB (presB (eV y) 4) true == false &&
 (butB (presB (eV y) 5) false == false &&
 (butB (presB (eV y) 6) false == false &&
 (butB (presB (eV y) 7) true == false &&
 (butB (presB (eV y) 8) true == false &&
 (butB (presB (eV y) 9) true == false && true)))))))))) then
 true
 else (↑(seqD (cellOf y 15)).length : Int) != 0 then
 1 else
 (bif matchersE (seqD (cellOf y 2)) != 0 then
 (matchersE (seqD (cellOf y 2))) else
 (bif bif true then
 bif
 bif bif decide (intOf (cellOf y 3) < 1) then true else decide (intOf (cellOf y 3) > 1099511627776) then true
 else decide (intOf (cellOf y 4) < 0) then
 true
 else decide (intOf (cellOf y 4) > 1099511627776)
 else false then
 2 else
 (bif numB false (intOf (D.lit (Value.int IntKind.i64 (intOf (cellOf y 0)))))
 (intOf (D.lit (Value.int IntKind.i64 (intOf (cellOf y 1))))) then
 (bif numberE (eV y) != 0 then
 (numberE (eV y)) else
 (bif namesE (seqD (cellOf y 7)) (intOf (cellOf y 0) == 4) != 0 then
 (namesE (seqD (cellOf y 7)) (intOf (cellOf y 0) == 4)) else
 (bif bif decide (intOf (cellOf y 9) < 0) then true else decide (intOf (cellOf y 9) > 2) then
 8 else
 (bif stagesE (seqD (cellOf y 10)) != 0 then
 (stagesE (seqD (cellOf y 10))) else
 (bif textB true (intOf (D.lit (Value.int IntKind.i64 (intOf (cellOf y 0)))))
 (intOf (D.lit (Value.int IntKind.i64 (intOf (cellOf y 1))))) then
 (textE (eV y)) else
 0))))) else
 (bif namesE (seqD (cellOf y 7)) (intOf (cellOf y 0) == 4) != 0 then
 (namesE (seqD (cellOf y 7)) (intOf (cellOf y 0) == 4)) else
 (bif bif decide (intOf (cellOf y 9) < 0) then true else decide (intOf (cellOf y 9) > 2) then
 8 else
 (bif stagesE (seqD (cellOf y 10)) != 0 then
 (stagesE (seqD (cellOf y 10))) else
 (bif textB true (intOf (D.lit (Value.int IntKind.i64 (intOf (cellOf y 0)))))
 (intOf (D.lit (Value.int IntKind.i64 (intOf (cellOf y 1))))) then
 (textE (eV y)) else
 0)))))))) else
 (bif intOf (cellOf y 0) == 6 then
 (bif bif true then bif decide (intOf (cellOf y 1) < 1) then true else decide (intOf (cellOf y 1) > (↑9 : Int)) else false then
 8 else
 (bif bif
 !(butB (presB (eV y) 0) true == false &&
 (butB (presB (eV y) 1) false == false &&
 (butB (presB (eV y) 2)
 (numB false (intOf (D.lit (Value.int IntKind.i64 (intOf (cellOf y 0)))))
 (intOf (D.lit (Value.int IntKind.i64 (intOf (cellOf y 1)))))) ==
 false &&
 (butB (presB (eV y) 3)
 (textB false (intOf (D.lit (Value.int IntKind.i64 (intOf (cellOf y 0)))))
 (intOf (D.lit (Value.int IntKind.i64 (intOf (cellOf y 1)))))) ==
 false &&
 (butB (presB (eV y) 4) false == false &&
 (butB (presB (eV y) 5) false == false &&
 (butB (presB (eV y) 6) false == false &&
 (butB (presB (eV y) 7) false == false &&
 (butB (presB (eV y) 8) true == false &&
 (butB (presB (eV y) 9) true == false && true)))))))))) then
 true
 else (↑(seqD (cellOf y 15)).length : Int) != 1 then
 1 else
 (bif numB false (intOf (D.lit (Value.int IntKind.i64 (intOf (cellOf y 0)))))
 (intOf (D.lit (Value.int IntKind.i64 (intOf (cellOf y 1))))) then
 (bif numberE (eV y) != 0 then
 (numberE (eV y)) else
 (bif namesE (seqD (cellOf y 7)) (intOf (cellOf y 0) == 4) != 0 then
 (namesE (seqD (cellOf y 7)) (intOf (cellOf y 0) == 4)) else
 (bif bif decide (intOf (cellOf y 9) < 0) then true else decide (intOf (cellOf y 9) > 2) then
 8 else
 (bif stagesE (seqD (cellOf y 10)) != 0 then
 (stagesE (seqD (cellOf y 10))) else
 (bif textB false (intOf (D.lit (Value.int IntKind.i64 (intOf (cellOf y 0)))))
 (intOf (D.lit (Value.int IntKind.i64 (intOf (cellOf y 1))))) then
 (textE (eV y)) else
 0))))) else
 (bif namesE (seqD (cellOf y 7)) (intOf (cellOf y 0) == 4) != 0 then
 (namesE (seqD (cellOf y 7)) (intOf (cellOf y 0) == 4)) else
 (bif bif decide (intOf (cellOf y 9) < 0) then true else decide (intOf (cellOf y 9) > 2) then
 8 else
 (bif stagesE (seqD (cellOf y 10)) != 0 then
 (stagesE (seqD (cellOf y 10))) else
 (bif textB false (intOf (D.lit (Value.int IntKind.i64 (intOf (cellOf y 0)))))
 (intOf (D.lit (Value.int IntKind.i64 (intOf (cellOf y 1))))) then
 (textE (eV y)) else
 0))))))) else
 (bif intOf (cellOf y 0) == 7 then
 (bif bif true then bif decide (intOf (cellOf y 1) < 1) then true else decide (intOf (cellOf y 1) > (↑10 : Int)) else false then
 8 else
 (bif bif
 !(butB (presB (eV y) 0) true == false &&
 (butB (presB (eV y) 1) true == false &&
 (butB (presB (eV y) 2)
 (numB false (intOf (D.lit (Value.int IntKind.i64 (intOf (cellOf y 0)))))
 (intOf (D.lit (Value.int IntKind.i64 (intOf (cellOf y 1)))))) ==
 false &&
 (butB (presB (eV y) 3)
 (textB false (intOf (D.lit (Value.int IntKind.i64 (intOf (cellOf y 0)))))
 (intOf (D.lit (Value.int IntKind.i64 (intOf (cellOf y 1)))))) ==
 false &&
 (butB (presB (eV y) 4) false == false &&
 (butB (presB (eV y) 5) false == false &&
 (butB (presB (eV y) 6) false == false &&
 (butB (presB (eV y) 7) false == false &&
 (butB (presB (eV y) 8) true == false &&
 (butB (presB (eV y) 9) true == false && true)))))))))) then
 true
 else (↑(seqD (cellOf y 15)).length : Int) != 2 then
 1 else
 (bif numB false (intOf (D.lit (Value.int IntKind.i64 (intOf (cellOf y 0)))))
 (intOf (D.lit (Value.int IntKind.i64 (intOf (cellOf y 1))))) then
 (bif numberE (eV y) != 0 then
 (numberE (eV y)) else
 (bif namesE (seqD (cellOf y 7)) (intOf (cellOf y 0) == 4) != 0 then
 (namesE (seqD (cellOf y 7)) (intOf (cellOf y 0) == 4)) else
 (bif bif decide (intOf (cellOf y 9) < 0) then true else decide (intOf (cellOf y 9) > 2) then
 8 else
 (bif stagesE (seqD (cellOf y 10)) != 0 then
 (stagesE (seqD (cellOf y 10))) else
 (bif textB false (intOf (D.lit (Value.int IntKind.i64 (intOf (cellOf y 0)))))
 (intOf (D.lit (Value.int IntKind.i64 (intOf (cellOf y 1))))) then
 (textE (eV y)) else
 0))))) else
 (bif namesE (seqD (cellOf y 7)) (intOf (cellOf y 0) == 4) != 0 then
 (namesE (seqD (cellOf y 7)) (intOf (cellOf y 0) == 4)) else
 (bif bif decide (intOf (cellOf y 9) < 0) then true else decide (intOf (cellOf y 9) > 2) then
 8 else
 (bif stagesE (seqD (cellOf y 10)) != 0 then
 (stagesE (seqD (cellOf y 10))) else
 (bif textB false (intOf (D.lit (Value.int IntKind.i64 (intOf (cellOf y 0)))))
 (intOf (D.lit (Value.int IntKind.i64 (intOf (cellOf y 1))))) then
 (textE (eV y)) else
 0))))))) else
 (bif intOf (cellOf y 0) == 8 then
 (bif bif
 !(butB (presB (eV y) 0) false == false &&
 (butB (presB (eV y) 1) false == false &&
 (butB (presB (eV y) 2)
 (numB false (intOf (D.lit (Value.int IntKind.i64 (intOf (cellOf y 0)))))
 (intOf (D.lit (Value.int IntKind.i64 (intOf (cellOf y 1)))))) ==
 false &&
 (butB (presB (eV y) 3)
 (textB false (intOf (D.lit (Value.int IntKind.i64 (intOf (cellOf y 0)))))
 (intOf (D.lit (Value.int IntKind.i64 (intOf (cellOf y 1)))))) ==
 false &&
 (butB (presB (eV y) 4) true == false &&
 (butB (presB (eV y) 5) false == false &&
 (butB (presB (eV y) 6) true == false &&
 (butB (presB (eV y) 7) true == false &&
 (butB (presB (eV y) 8) false == false &&
 (butB (presB (eV y) 9) false == false && true)))))))))) then
 true
 else (↑(seqD (cellOf y 15)).length : Int) != 0 then
 1 else
 (bif matchersE (seqD (cellOf y 2)) != 0 then
 (matchersE (seqD (cellOf y 2))) else
 (bif bif true then
 bif
 bif bif decide (intOf (cellOf y 3) < 1) then true else decide (intOf (cellOf y 3) > 1099511627776) then true
 else decide (intOf (cellOf y 4) < 0) then
 true
 else decide (intOf (cellOf y 4) > 1099511627776)
 else false then
 2 else
 (bif numB false (intOf (D.lit (Value.int IntKind.i64 (intOf (cellOf y 0)))))
 (intOf (D.lit (Value.int IntKind.i64 (intOf (cellOf y 1))))) then
 (bif numberE (eV y) != 0 then
 (numberE (eV y)) else
 (bif namesE (seqD (cellOf y 7)) (intOf (cellOf y 0) == 4) != 0 then
 (namesE (seqD (cellOf y 7)) (intOf (cellOf y 0) == 4)) else
 (bif bif decide (intOf (cellOf y 9) < 0) then true else decide (intOf (cellOf y 9) > 2) then
 8 else
 (bif stagesE (seqD (cellOf y 10)) != 0 then
 (stagesE (seqD (cellOf y 10))) else
 (bif textB false (intOf (D.lit (Value.int IntKind.i64 (intOf (cellOf y 0)))))
 (intOf (D.lit (Value.int IntKind.i64 (intOf (cellOf y 1))))) then
 (textE (eV y)) else
 0))))) else
 (bif namesE (seqD (cellOf y 7)) (intOf (cellOf y 0) == 4) != 0 then
 (namesE (seqD (cellOf y 7)) (intOf (cellOf y 0) == 4)) else
 (bif bif decide (intOf (cellOf y 9) < 0) then true else decide (intOf (cellOf y 9) > 2) then
 8 else
 (bif stagesE (seqD (cellOf y 10)) != 0 then
 (stagesE (seqD (cellOf y 10))) else
 (bif textB false (intOf (D.lit (Value.int IntKind.i64 (intOf (cellOf y 0)))))
 (intOf (D.lit (Value.int IntKind.i64 (intOf (cellOf y 1))))) then
 (textE (eV y)) else
 0)))))))) else
 (bif intOf (cellOf y 0) == 9 then
 (bif bif
 !(butB (presB (eV y) 0) false == false &&
 (butB (presB (eV y) 1) false == false &&
 (butB (presB (eV y) 2)
 (numB false (intOf (D.lit (Value.int IntKind.i64 (intOf (cellOf y 0)))))
 (intOf (D.lit (Value.int IntKind.i64 (intOf (cellOf y 1)))))) ==
 false &&
 (butB (presB (eV y) 3)
 (textB false (intOf (D.lit (Value.int IntKind.i64 (intOf (cellOf y 0)))))
 (intOf (D.lit (Value.int IntKind.i64 (intOf (cellOf y 1)))))) ==
 false &&
 (butB (presB (eV y) 4) false == false &&
 (butB (presB (eV y) 5) true == false &&
 (butB (presB (eV y) 6) false == false &&
 (butB (presB (eV y) 7) true == false &&
 (butB (presB (eV y) 8) false == false &&
 (butB (presB (eV y) 9) false == false && true)))))))))) then
 true
 else (↑(seqD (cellOf y 15)).length : Int) != 0 then
 1 else
 (bif bif true then
 bif
 bif bif decide (intOf (cellOf y 3) < 1) then true else decide (intOf (cellOf y 3) > 1099511627776) then true
 else decide (intOf (cellOf y 4) < 0) then
 true
 else decide (intOf (cellOf y 4) > 1099511627776)
 else false then
 2 else
 (bif numB false (intOf (D.lit (Value.int IntKind.i64 (intOf (cellOf y 0)))))
 (intOf (D.lit (Value.int IntKind.i64 (intOf (cellOf y 1))))) then
 (bif numberE (eV y) != 0 then
 (numberE (eV y)) else
 (bif namesE (seqD (cellOf y 7)) (intOf (cellOf y 0) == 4) != 0 then
 (namesE (seqD (cellOf y 7)) (intOf (cellOf y 0) == 4)) else
 (bif bif decide (intOf (cellOf y 9) < 0) then true else decide (intOf (cellOf y 9) > 2) then
 8 else
 (bif stagesE (seqD (cellOf y 10)) != 0 then
 (stagesE (seqD (cellOf y 10))) else
 (bif patCheckE (paV y) != 0 then
 (patCheckE (paV y)) else
 (bif textB false (intOf (D.lit (Value.int IntKind.i64 (intOf (cellOf y 0)))))
 (intOf (D.lit (Value.int IntKind.i64 (intOf (cellOf y 1))))) then
 (textE (eV y)) else
 0)))))) else
 (bif namesE (seqD (cellOf y 7)) (intOf (cellOf y 0) == 4) != 0 then
 (namesE (seqD (cellOf y 7)) (intOf (cellOf y 0) == 4)) else
 (bif bif decide (intOf (cellOf y 9) < 0) then true else decide (intOf (cellOf y 9) > 2) then
 8 else
 (bif stagesE (seqD (cellOf y 10)) != 0 then
 (stagesE (seqD (cellOf y 10))) else
 (bif patCheckE (paV y) != 0 then
 (patCheckE (paV y)) else
 (bif textB false (intOf (D.lit (Value.int IntKind.i64 (intOf (cellOf y 0)))))
 (intOf (D.lit (Value.int IntKind.i64 (intOf (cellOf y 1))))) then
 (textE (eV y)) else
 0)))))))) else
 (bif intOf (cellOf y 0) == 10 then
 (bif bif
 !(butB (presB (eV y) 0) false == false &&
 (butB (presB (eV y) 1) false == false &&
 (butB (presB (eV y) 2)
 (numB false (intOf (D.lit (Value.int IntKind.i64 (intOf (cellOf y 0)))))
 (intOf (D.lit (Value.int IntKind.i64 (intOf (cellOf y 1)))))) ==
 false &&
 (butB (presB (eV y) 3)
 (textB false (intOf (D.lit (Value.int IntKind.i64 (intOf (cellOf y 0)))))
 (intOf (D.lit (Value.int IntKind.i64 (intOf (cellOf y 1)))))) ==
 false &&
 (butB (presB (eV y) 4) true == false &&
 (butB (presB (eV y) 5) false == false &&
 (butB (presB (eV y) 6) false == false &&
 (butB (presB (eV y) 7) true == false &&
 (butB (presB (eV y) 8) false == false &&
 (butB (presB (eV y) 9) false == false && true)))))))))) then
 true
 else (↑(seqD (cellOf y 15)).length : Int) != 0 then
 1 else
 (bif matchersE (seqD (cellOf y 2)) != 0 then
 (matchersE (seqD (cellOf y 2))) else
 (bif bif true then
 bif
 bif bif decide (intOf (cellOf y 3) < 1) then true else decide (intOf (cellOf y 3) > 1099511627776) then true
 else decide (intOf (cellOf y 4) < 0) then
 true
 else decide (intOf (cellOf y 4) > 1099511627776)
 else false then
 2 else
 (bif numB false (intOf (D.lit (Value.int IntKind.i64 (intOf (cellOf y 0)))))
 (intOf (D.lit (Value.int IntKind.i64 (intOf (cellOf y 1))))) then
 (bif numberE (eV y) != 0 then
 (numberE (eV y)) else
 (bif namesE (seqD (cellOf y 7)) (intOf (cellOf y 0) == 4) != 0 then
 (namesE (seqD (cellOf y 7)) (intOf (cellOf y 0) == 4)) else
 (bif bif decide (intOf (cellOf y 9) < 0) then true else decide (intOf (cellOf y 9) > 2) then
 8 else
 (bif stagesE (seqD (cellOf y 10)) != 0 then
 (stagesE (seqD (cellOf y 10))) else
 (bif textB false (intOf (D.lit (Value.int IntKind.i64 (intOf (cellOf y 0)))))
 (intOf (D.lit (Value.int IntKind.i64 (intOf (cellOf y 1))))) then
 (textE (eV y)) else
 0))))) else
 (bif namesE (seqD (cellOf y 7)) (intOf (cellOf y 0) == 4) != 0 then
 (namesE (seqD (cellOf y 7)) (intOf (cellOf y 0) == 4)) else
 (bif bif decide (intOf (cellOf y 9) < 0) then true else decide (intOf (cellOf y 9) > 2) then
 8 else
 (bif stagesE (seqD (cellOf y 10)) != 0 then
 (stagesE (seqD (cellOf y 10))) else
 (bif textB false (intOf (D.lit (Value.int IntKind.i64 (intOf (cellOf y 0)))))
 (intOf (D.lit (Value.int IntKind.i64 (intOf (cellOf y 1))))) then
 (textE (eV y)) else
 0)))))))) else
 (bif intOf (cellOf y 0) == 11 then
 (bif bif
 !(butB (presB (eV y) 0) false == false &&
 (butB (presB (eV y) 1) false == false &&
 (butB (presB (eV y) 2)
 (numB false (intOf (D.lit (Value.int IntKind.i64 (intOf (cellOf y 0)))))
 (intOf (D.lit (Value.int IntKind.i64 (intOf (cellOf y 1)))))) ==
 false &&
 (butB (presB (eV y) 3)
 (textB false (intOf (D.lit (Value.int IntKind.i64 (intOf (cellOf y 0)))))
 (intOf (D.lit (Value.int IntKind.i64 (intOf (cellOf y 1)))))) ==
 false &&
 (butB (presB (eV y) 4) true == false &&
 (butB (presB (eV y) 5) false == false &&
 (butB (presB (eV y) 6) false == false &&
 (butB (presB (eV y) 7) true == false &&
 (butB (presB (eV y) 8) false == false &&
 (butB (presB (eV y) 9) false == false && true)))))))))) then
 true
 else (↑(seqD (cellOf y 15)).length : Int) != 0 then
 1 else
 (bif matchersE (seqD (cellOf y 2)) != 0 then
 (matchersE (seqD (cellOf y 2))) else
 (bif bif true then
 bif
 bif bif decide (intOf (cellOf y 3) < 1) then true else decide (intOf (cellOf y 3) > 1099511627776) then true
 else decide (intOf (cellOf y 4) < 0) then
 true
 else decide (intOf (cellOf y 4) > 1099511627776)
 else false then
 2 else
 (bif numB false (intOf (D.lit (Value.int IntKind.i64 (intOf (cellOf y 0)))))
 (intOf (D.lit (Value.int IntKind.i64 (intOf (cellOf y 1))))) then
 (bif numberE (eV y) != 0 then
 (numberE (eV y)) else
 (bif namesE (seqD (cellOf y 7)) (intOf (cellOf y 0) == 4) != 0 then
 (namesE (seqD (cellOf y 7)) (intOf (cellOf y 0) == 4)) else
 (bif bif decide (intOf (cellOf y 9) < 0) then true else decide (intOf (cellOf y 9) > 2) then
 8 else
 (bif stagesE (seqD (cellOf y 10)) != 0 then
 (stagesE (seqD (cellOf y 10))) else
 (bif textB false (intOf (D.lit (Value.int IntKind.i64 (intOf (cellOf y 0)))))
 (intOf (D.lit (Value.int IntKind.i64 (intOf (cellOf y 1))))) then
 (textE (eV y)) else
 0))))) else
 (bif namesE (seqD (cellOf y 7)) (intOf (cellOf y 0) == 4) != 0 then
 (namesE (seqD (cellOf y 7)) (intOf (cellOf y 0) == 4)) else
 (bif bif decide (intOf (cellOf y 9) < 0) then true else decide (intOf (cellOf y 9) > 2) then
 8 else
 (bif stagesE (seqD (cellOf y 10)) != 0 then
 (stagesE (seqD (cellOf y 10))) else
 (bif textB false (intOf (D.lit (Value.int IntKind.i64 (intOf (cellOf y 0)))))
 (intOf (D.lit (Value.int IntKind.i64 (intOf (cellOf y 1))))) then
 (textE (eV y)) else
 0)))))))) else
 (bif intOf (cellOf y 0) == 12 then
 (bif bif
 !(butB (presB (eV y) 0) false == false &&
 (butB (presB (eV y) 1) false == false &&
 (butB (presB (eV y) 2)
 (numB false (intOf (D.lit (Value.int IntKind.i64 (intOf (cellOf y 0)))))
 (intOf (D.lit (Value.int IntKind.i64 (intOf (cellOf y 1)))))) ==
 false &&
 (butB (presB (eV y) 3)
 (textB false (intOf (D.lit (Value.int IntKind.i64 (intOf (cellOf y 0)))))
 (intOf (D.lit (Value.int IntKind.i64 (intOf (cellOf y 1)))))) ==
 false &&
 (butB (presB (eV y) 4) true == false &&
 (butB (presB (eV y) 5) false == false &&
 (butB (presB (eV y) 6) true == false &&
 (butB (presB (eV y) 7) true == false &&
 (butB (presB (eV y) 8) false == false &&
 (butB (presB (eV y) 9) false == false && true)))))))))) then
 true
 else (↑(seqD (cellOf y 15)).length : Int) != 1 then
 1 else
 (bif matchersE (seqD (cellOf y 2)) != 0 then
 (matchersE (seqD (cellOf y 2))) else
 (bif bif true then
 bif
 bif bif decide (intOf (cellOf y 3) < 1) then true else decide (intOf (cellOf y 3) > 1099511627776) then true
 else decide (intOf (cellOf y 4) < 0) then
 true
 else decide (intOf (cellOf y 4) > 1099511627776)
 else false then
 2 else
 (bif numB false (intOf (D.lit (Value.int IntKind.i64 (intOf (cellOf y 0)))))
 (intOf (D.lit (Value.int IntKind.i64 (intOf (cellOf y 1))))) then
 (bif numberE (eV y) != 0 then
 (numberE (eV y)) else
 (bif namesE (seqD (cellOf y 7)) (intOf (cellOf y 0) == 4) != 0 then
 (namesE (seqD (cellOf y 7)) (intOf (cellOf y 0) == 4)) else
 (bif bif decide (intOf (cellOf y 9) < 0) then true else decide (intOf (cellOf y 9) > 2) then
 8 else
 (bif stagesE (seqD (cellOf y 10)) != 0 then
 (stagesE (seqD (cellOf y 10))) else
 (bif textB false (intOf (D.lit (Value.int IntKind.i64 (intOf (cellOf y 0)))))
 (intOf (D.lit (Value.int IntKind.i64 (intOf (cellOf y 1))))) then
 (textE (eV y)) else
 0))))) else
 (bif namesE (seqD (cellOf y 7)) (intOf (cellOf y 0) == 4) != 0 then
 (namesE (seqD (cellOf y 7)) (intOf (cellOf y 0) == 4)) else
 (bif bif decide (intOf (cellOf y 9) < 0) then true else decide (intOf (cellOf y 9) > 2) then
 8 else
 (bif stagesE (seqD (cellOf y 10)) != 0 then
 (stagesE (seqD (cellOf y 10))) else
 (bif textB false (intOf (D.lit (Value.int IntKind.i64 (intOf (cellOf y 0)))))
 (intOf (D.lit (Value.int IntKind.i64 (intOf (cellOf y 1))))) then
 (textE (eV y)) else
 0)))))))) else
 (bif intOf (cellOf y 0) == 13 then
 (bif bif
 !(butB (presB (eV y) 0) false == false &&
 (butB (presB (eV y) 1) false == false &&
 (butB (presB (eV y) 2)
 (numB false (intOf (D.lit (Value.int IntKind.i64 (intOf (cellOf y 0)))))
 (intOf (D.lit (Value.int IntKind.i64 (intOf (cellOf y 1)))))) ==
 false &&
 (butB (presB (eV y) 3)
 (textB true (intOf (D.lit (Value.int IntKind.i64 (intOf (cellOf y 0)))))
 (intOf (D.lit (Value.int IntKind.i64 (intOf (cellOf y 1)))))) ==
 false &&
 (butB (presB (eV y) 4) false == false &&
 (butB (presB (eV y) 5) false == false &&
 (butB (presB (eV y) 6) false == false &&
 (butB (presB (eV y) 7) false == false &&
 (butB (presB (eV y) 8) false == false &&
 (butB (presB (eV y) 9) false == false && true)))))))))) then
 true
 else (↑(seqD (cellOf y 15)).length : Int) != 0 then
 1 else
 (bif numB false (intOf (D.lit (Value.int IntKind.i64 (intOf (cellOf y 0)))))
 (intOf (D.lit (Value.int IntKind.i64 (intOf (cellOf y 1))))) then
 (bif numberE (eV y) != 0 then
 (numberE (eV y)) else
 (bif namesE (seqD (cellOf y 7)) (intOf (cellOf y 0) == 4) != 0 then
 (namesE (seqD (cellOf y 7)) (intOf (cellOf y 0) == 4)) else
 (bif bif decide (intOf (cellOf y 9) < 0) then true else decide (intOf (cellOf y 9) > 2) then
 8 else
 (bif stagesE (seqD (cellOf y 10)) != 0 then
 (stagesE (seqD (cellOf y 10))) else
 (bif textB true (intOf (D.lit (Value.int IntKind.i64 (intOf (cellOf y 0)))))
 (intOf (D.lit (Value.int IntKind.i64 (intOf (cellOf y 1))))) then
 (textE (eV y)) else
 0))))) else
 (bif namesE (seqD (cellOf y 7)) (intOf (cellOf y 0) == 4) != 0 then
 (namesE (seqD (cellOf y 7)) (intOf (cellOf y 0) == 4)) else
 (bif bif decide (intOf (cellOf y 9) < 0) then true else decide (intOf (cellOf y 9) > 2) then
 8 else
 (bif stagesE (seqD (cellOf y 10)) != 0 then
 (stagesE (seqD (cellOf y 10))) else
 (bif textB true (intOf (D.lit (Value.int IntKind.i64 (intOf (cellOf y 0)))))
 (intOf (D.lit (Value.int IntKind.i64 (intOf (cellOf y 1))))) then
 (textE (eV y)) else
 0)))))) else
 8)))))))))))))
noncomputable def c72 : Ct := ⟨fun | [x, .map es] => FitE x ∧ IsKinds es | _ => False, fun | [x, .map es] => some (.lit (.int .i64 (exprE x))) | _ => none⟩
noncomputable def T72 : Tab := T135.add 72 c72
theorem k134 : TabOk B T134 := by
 refine add_body base k83 (fn := Tryz.f134) (cd := bodyOf Tryz.f134) (sp := noSp) (hn := noHn) Tryz.func134 (by kernel_rfl) (by kernel_rfl) noSp_ok fun ds r hp hr => ?_
 unfold c134 at hp hr
 simp only [] at hr hp
 split at hr
 ·
  rename_i x
  cases hr
  rw [arg1 (FitE.v hp)]
  refine keep (w134 x fun v => v = _) ?_
  rw [FitE.v hp]
  exact ⟨hp, rfl⟩
 ·
  cases hr
theorem k135 : TabOk B T135 := by
 refine add_body base k134 (fn := Tryz.f135) (cd := bodyOf Tryz.f135) (sp := noSp) (hn := noHn) Tryz.func135 (by kernel_rfl) (by kernel_rfl) noSp_ok fun ds r hp hr => ?_
 unfold c135 at hp hr
 simp only [] at hr hp
 split at hr
 ·
  cases hr
  refine keep (w135 _ _ _ _ _ _ _ _ _ _ _ _ _ _ _ _ _ _ _ _ fun v => v = _) ?_
  rfl
 ·
  cases hr
theorem k72 : TabOk B T72 := by
 refine add_body base k135 (fn := Tryz.f72) (cd := bodyOf Tryz.f72) (sp := noSp) (hn := noHn) Tryz.func72 (by kernel_rfl) (by kernel_rfl) noSp_ok fun ds r hp hr => ?_
 unfold c72 at hp hr
 simp only [] at hr hp
 split at hr
 ·
  rename_i x es
  cases hr
  obtain ⟨hf, he⟩ := hp
  rw [show es = kindsEs from he, arg2 hf.v]
  refine keep (w72 x fun v => v = _) ?_
  unfold exprE
  rw [hf.v]
  have hm : ∀ y ∈ seqD (cellOf x 2), FitM y := hf.m
  have hn : ∀ y ∈ seqD (cellOf x 7), FitN y := hf.n
  have hs : ∀ y ∈ seqD (cellOf x 10), FitG y := hf.s
  (repeat' (first | with_reducible rfl | (refine cond_split (fun hcw => ?_) (fun hcw => ?_) <;> simp only [hcw, cond_true, cond_false]) | refine and_i ?_ ?_))
  all_goals first | trivial | assumption | exact hf.p
 ·
  cases hr
noncomputable def partsT (rec : D → Int) (y : D) : Int :=
 (bif exprE (eV y) != 0 then
 (exprE (eV y)) else
 (match search (firstF rec (seqD (cellOf y 15))) (seqD (cellOf y 15)).length with
 | some y0 => y0
 | none => 0))
noncomputable def partsE (y : D) : Int := fixD partsT 0 (dsz y + 1) y
noncomputable def c44 : Ct := ⟨fun | [x, .map es] => (FitE x ∧ etot x ≤ 100) ∧ IsKinds es | _ => False, fun | [x, .map es] => some (.lit (.int .i64 (partsE x))) | _ => none⟩
noncomputable def U44 (κ : Nat) : Tab := T72.add 44 (c44.below μ1 κ)
noncomputable def T44 : Tab := T72.add 44 c44
noncomputable def l44 : Code := roundOf (pieceAt (bodyOf Tryz.f44) 10)
noncomputable def S44 (rec : D → Int) (κ : Nat) : Ev.Spec := { L := [1,16,17,18], ns := [], L' := [4], nm' := [], G := fun N vals bs k => match vals, bs with
 | [.d (.map es), .d (.slice b 16 xs), .d (.lit (.int .i64 n)), .d (.lit (.int .i64 i))], [] => (N = 29 ∧ IsKinds es ∧ rec = partsE ∧ i = 0 ∧ n = xs.length ∧ xs.length ≤ 100 ∧ ∀ y ∈ xs, (FitE y ∧ etot y ≤ 100) ∧ dsz y < κ) ∧ optE (search (firstF rec xs) xs.length) (k (.exit 0) [.any] []) (fun e => k .ret [lint e] [])
 | _, _ => False }
theorem b44 (κ : Nat) (es : List (D × D)) (xs : List D) (i : Int) (n : Int) (b : Bool) (R : X → List V → List Box → Prop) : (roundT (Cn (U44 κ)) (U44 κ) noCS 0 noSp noHn l44 29 [1, 16, 17, 18] [] [] [] [4] []
 [V.d (D.map es), V.d (D.slice b 16 xs), lint n, lint i] [] R) =
 (bif decide (i < n) then
 ((((0 : Int) ≤ i) ∧ (i.toNat < xs.length ∧ eV (xs.getD i.toNat D.any) = xs.getD i.toNat D.any)) ∧
 ((((FitE (eV (xs.getD i.toNat D.any)) ∧ etot (eV (xs.getD i.toNat D.any)) ≤ 100) ∧ IsKinds es) ∧ μ1 [eV (xs.getD i.toNat D.any), D.map es] < κ) ∧
 (bif partsE (eV (xs.getD i.toNat D.any)) != 0 then
 (29 = 29 ∧
 R X.ret [V.d (D.lit (Value.int IntKind.i64 (partsE (eV (xs.getD i.toNat D.any)))))] []) else
 (29 = 29 ∧
 R X.normal
 [V.d (D.map es), V.d (D.slice b 16 xs), V.d (D.lit (Value.int IntKind.i64 n)),
 V.d (D.lit (Value.int IntKind.i64 (IntKind.i64.wrap (i + 1))))]
 [])))) else
 (29 = 29 ∧
 R (X.exit 0) [V.any] [])) := by kernel_rfl
theorem w44 (rec : D → Int) (κ : Nat) (es : List (D × D)) (y : D) (p : V → Prop) : (evBodyT (Cn (U44 κ)) (U44 κ) noCS 0 (spL [(10, S44 rec κ)]) noHn 44 [V.d (eV y), V.d (D.map es)] Heap.empty fun v H =>
 p (freezeR H v)) =
 ((FitE (eV y) ∧ IsKinds es) ∧
 (bif exprE (eV y) != 0 then
 p (V.d (D.lit (Value.int IntKind.i64 (exprE (eV y))))) else
 ((29 = 29 ∧ (IsKinds es ∧ (rec = partsE ∧ (((0 : Int) = 0) ∧ ((((↑(seqD (cellOf y 15)).length : Int) : Int) = (↑(seqD (cellOf y 15)).length : Int)) ∧ ((seqD (cellOf y 15)).length ≤ 100 ∧ ∀ (y_1 : D), y_1 ∈ seqD (cellOf y 15) → (FitE y_1 ∧ etot y_1 ≤ 100) ∧ dsz y_1 < κ)))))) ∧
 (match search (firstF rec (seqD (cellOf y 15))) (seqD (cellOf y 15)).length with
 | some y0 =>
 p (V.d (D.lit (Value.int IntKind.i64 y0)))
 | none => p (V.d (D.lit (Value.int IntKind.i64 0))))))) := by kernel_rfl
theorem w17 (y : D) (p : V → Prop) : (evBodyT (Cn T44) T44 noCS 0 noSp noHn 17 [V.d (eV y)] Heap.empty fun v H => p (freezeR H v)) =
 (FitE (eV y) ∧
 (bif decide ((↑(cap (etot (eV y))) : Int) > 100) then
 p (V.d (D.lit (Value.int IntKind.i64 4))) else
 ((FitE (eV y) ∧ etot (eV y) ≤ 100) ∧
 (bif decide ((↑(edep (eV y)) : Int) > 12) then
 p (V.d (D.lit (Value.int IntKind.i64 30))) else
 (True ∧
 (((FitE (eV y) ∧ etot (eV y) ≤ 100) ∧ IsKinds kindsEs) ∧
 p (V.d (D.lit (Value.int IntKind.i64 (partsE (eV y))))))))))) := by kernel_rfl
noncomputable def checkE (y : D) : Int :=
 (bif decide ((↑(cap (etot (eV y))) : Int) > 100) then
 4 else
 (bif decide ((↑(edep (eV y)) : Int) > 12) then
 30 else
 (partsE (eV y))))
noncomputable def c17 : Ct := ⟨fun | [x] => FitE x | _ => False, fun | [x] => some (.lit (.int .i64 (checkE x))) | _ => none⟩
noncomputable def T17 : Tab := T44.add 17 c17
theorem w70 (y : D) (a : Int) (b : Int) (p : V → Prop) : (evBodyT (Cn T17) T17 noCS 0 noSp noHn 70 [V.d (eV y), lint a, lint b] Heap.empty fun v H => p (freezeR H v)) =
 (bif bif bif a != 1 then a != 2 else false then true else bif b != 1 then b != 2 else false then
 p (V.d (D.lit (Value.int IntKind.i64 0))) else
 (bif bif a == 2 then b == 2 else false then
 p (V.d (D.lit (Value.int IntKind.i64 2))) else
 (bif bif bif decide ((↑(seqD (cellOf y 7)).length : Int) > 0) then true else boolOf (cellOf y 8) then true
 else intOf (cellOf y 9) != 0 then
 p (V.d (D.lit (Value.int IntKind.i64 0))) else
 (bif bif a == 2 then true else b == 2 then
 p (V.d (D.lit (Value.int IntKind.i64 2))) else
 (bif decide (intOf (cellOf y 1) ≥ 5) then
 p (V.d (D.lit (Value.int IntKind.i64 0))) else
 p (V.d (D.lit (Value.int IntKind.i64 1)))))))) := by kernel_rfl
noncomputable def binE (y : D) (a b : Int) : Int :=
 (bif bif bif a != 1 then a != 2 else false then true else bif b != 1 then b != 2 else false then
 0 else
 (bif bif a == 2 then b == 2 else false then
 2 else
 (bif bif bif decide ((↑(seqD (cellOf y 7)).length : Int) > 0) then true else boolOf (cellOf y 8) then true
 else intOf (cellOf y 9) != 0 then
 0 else
 (bif bif a == 2 then true else b == 2 then
 2 else
 (bif decide (intOf (cellOf y 1) ≥ 5) then
 0 else
 1)))))
noncomputable def c70 : Ct := ⟨fun | [x, .lit (.int .i64 a), .lit (.int .i64 b)] => FitE x | _ => False, fun | [x, .lit (.int .i64 a), .lit (.int .i64 b)] => some (.lit (.int .i64 (binE x a b))) | _ => none⟩
noncomputable def T70 : Tab := T17.add 70 c70
abbrev intD (n : Int) : D := .lit (.int .i64 n)
abbrev eCells (y : D) : List V := [.d (iC y 0), .d (iC y 1), .d (lC y 2 3), .d (iC y 3), .d (iC y 4), .d (iC y 5), .d (iC y 6), .d (lC y 7 1), .d (bC y 8), .d (iC y 9), .d (lC y 10 4), .d (iC y 11), .d (lC y 12 4), .d (lC y 13 3), .d (sC y 14), .d (lC y 15 16)]
abbrev eBox (y : D) : Box := .cells 33 (eCells y)
def IsE (cs : List V) : Prop := ∃ y, cs = eCells y
noncomputable def typeT (rec : D → Int) (y : D) : Int :=
 (bif intOf (cellOf y 0) == 6 then
 (bif intOf ((List.map (fun a => intD (rec a)) (seqD (cellOf y 15))).getD 0 D.any) != 2 then
 0 else
 (bif intOf (cellOf y 0) == 1 then
 1 else
 (bif intOf (cellOf y 0) == 2 then
 2 else
 (bif intOf (cellOf y 0) == 3 then
 2 else
 (bif intOf (cellOf y 0) == 4 then
 2 else
 (bif intOf (cellOf y 0) == 5 then
 2 else
 (bif intOf (cellOf y 0) == 6 then
 2 else
 (bif intOf (cellOf y 0) == 7 then
 0 else
 (bif intOf (cellOf y 0) == 8 then
 3 else
 (bif intOf (cellOf y 0) == 9 then
 4 else
 (bif intOf (cellOf y 0) == 10 then
 5 else
 (bif intOf (cellOf y 0) == 11 then
 4 else
 (bif intOf (cellOf y 0) == 12 then
 3 else
 (bif intOf (cellOf y 0) == 13 then
 0 else
 0)))))))))))))) else
 (bif intOf (cellOf y 0) == 12 then
 (bif intOf ((List.map (fun a => intD (rec a)) (seqD (cellOf y 15))).getD 0 D.any) != 4 then
 0 else
 (bif intOf (cellOf y 0) == 1 then
 1 else
 (bif intOf (cellOf y 0) == 2 then
 2 else
 (bif intOf (cellOf y 0) == 3 then
 2 else
 (bif intOf (cellOf y 0) == 4 then
 2 else
 (bif intOf (cellOf y 0) == 5 then
 2 else
 (bif intOf (cellOf y 0) == 6 then
 2 else
 (bif intOf (cellOf y 0) == 7 then
 0 else
 (bif intOf (cellOf y 0) == 8 then
 3 else
 (bif intOf (cellOf y 0) == 9 then
 4 else
 (bif intOf (cellOf y 0) == 10 then
 5 else
 (bif intOf (cellOf y 0) == 11 then
 4 else
 (bif intOf (cellOf y 0) == 12 then
 3 else
 (bif intOf (cellOf y 0) == 13 then
 0 else
 0)))))))))))))) else
 (bif intOf (cellOf y 0) == 7 then
 (binE (eV y) (intOf ((List.map (fun a => intD (rec a)) (seqD (cellOf y 15))).getD 0 D.any))
 (intOf ((List.map (fun a => intD (rec a)) (seqD (cellOf y 15))).getD 1 D.any))) else
 (bif intOf (cellOf y 0) == 1 then
 1 else
 (bif intOf (cellOf y 0) == 2 then
 2 else
 (bif intOf (cellOf y 0) == 3 then
 2 else
 (bif intOf (cellOf y 0) == 4 then
 2 else
 (bif intOf (cellOf y 0) == 5 then
 2 else
 (bif intOf (cellOf y 0) == 6 then
 2 else
 (bif intOf (cellOf y 0) == 7 then
 0 else
 (bif intOf (cellOf y 0) == 8 then
 3 else
 (bif intOf (cellOf y 0) == 9 then
 4 else
 (bif intOf (cellOf y 0) == 10 then
 5 else
 (bif intOf (cellOf y 0) == 11 then
 4 else
 (bif intOf (cellOf y 0) == 12 then
 3 else
 (bif intOf (cellOf y 0) == 13 then
 0 else
 0))))))))))))))))
noncomputable def typeE (y : D) : Int := fixD typeT 0 (dsz y + 1) y
noncomputable def c40 : Ct := ⟨fun | [x, .map es] => (FitE x ∧ etot x ≤ 100 ∧ partsE x = 0) ∧ IsKinds es | _ => False, fun | [x, .map es] => some (.lit (.int .i64 (typeE x))) | _ => none⟩
noncomputable def U40 (κ : Nat) : Tab := T70.add 40 (c40.below μ1 κ)
noncomputable def T40 : Tab := T70.add 40 c40
noncomputable def l40 : Code := roundOf (pieceAt (bodyOf Tryz.f40) 6)
noncomputable def S40 (rec : D → Int) (κ : Nat) : Ev.Spec := { L := [1,2,5,10,11,12], ns := [([5000],[4]),([5001],[10])], L' := [1,2,5], nm' := [[5000],[5001]], G := fun N vals bs k => match vals, bs with
 | [.d (.map es), .ptr [5000] 0, .ref [5001], .d (.slice b 16 xs), .d (.lit (.int .i64 n)), .d (.lit (.int .i64 i))], [.cells 33 cs, .arr true false 3 1 [] []] => (IsE cs ∧ N = 52 ∧ IsKinds es ∧ rec = typeE ∧ i = 0 ∧ n = xs.length ∧ xs.length ≤ 100 ∧ ∀ y ∈ xs, (FitE y ∧ etot y ≤ 100 ∧ partsE y = 0) ∧ dsz y < κ) ∧ k (.exit 0) [.d (.map es), .ptr [5000] 0, .ref [5001]] [.cells 33 cs, .arr true false 3 1 (xs.map fun a => intD (rec a)) []]
 | _, _ => False }
theorem b40 (κ : Nat) (es : List (D × D)) (ts : List D) (y : D) (xs : List D) (i : Int) (n : Int) (b : Bool) (R : X → List V → List Box → Prop) : (roundT (Cn (U40 κ)) (U40 κ) noCS 0 noSp noHn l40 52 [1, 2, 5, 10, 11, 12] [[5000], [5001]] []
 [([5000], [5000]), ([5001], [23])] [1, 2, 5] [([5000], [5000]), ([5001], [5001])]
 [V.d (D.map es), V.ptr [5000] 0, V.ref [5001], V.d (D.slice b 16 xs), lint n, lint i]
 [eBox y, Box.arr true false 3 1 ts []] R) =
 (bif decide (i < n) then
 ((((0 : Int) ≤ i) ∧ (i.toNat < xs.length ∧ eV (xs.getD i.toNat D.any) = xs.getD i.toNat D.any)) ∧
 ((((FitE (eV (xs.getD i.toNat D.any)) ∧ (etot (eV (xs.getD i.toNat D.any)) ≤ 100 ∧ ((partsE (eV (xs.getD i.toNat D.any)) : Int) = 0))) ∧ IsKinds es) ∧ μ1 [eV (xs.getD i.toNat D.any), D.map es] < κ) ∧
 (bif ((ts.length + 1) * 8).ble 70368744177664 then
 (52 = 52 ∧
 R X.normal
 [V.d (D.map es), V.ptr [5000] 0, V.ref [5001], V.d (D.slice b 16 xs), V.d (D.lit (Value.int IntKind.i64 n)),
 V.d (D.lit (Value.int IntKind.i64 (IntKind.i64.wrap (i + 1))))]
 [eBox y,
 Box.arr true false 3 1 (ts ++ [D.lit (Value.int IntKind.i64 (typeE (eV (xs.getD i.toNat D.any))))]) []]) else
 False))) else
 (52 = 52 ∧
 R (X.exit 0) [V.d (D.map es), V.ptr [5000] 0, V.ref [5001]]
 [eBox y,
 Box.arr true false 3 1 ts []])) := by kernel_rfl
theorem w40 (rec : D → Int) (κ : Nat) (es : List (D × D)) (y : D) (p : V → Prop) : (evBodyT (Cn (U40 κ)) (U40 κ) noCS 0 (spL [(6, S40 rec κ)]) noHn 40 [V.d (eV y), V.d (D.map kindsEs)] Heap.empty
 fun v H => p (freezeR H v)) =
 ((IsE (eCells y) ∧ (52 = 52 ∧ (IsKinds kindsEs ∧ (rec = typeE ∧ (((0 : Int) = 0) ∧ ((((↑(seqD (cellOf y 15)).length : Int) : Int) = (↑(seqD (cellOf y 15)).length : Int)) ∧ ((seqD (cellOf y 15)).length ≤ 100 ∧ ∀ (y_1 : D), y_1 ∈ seqD (cellOf y 15) → (FitE y_1 ∧ etot y_1 ≤ 100 ∧ partsE y_1 = 0) ∧ dsz y_1 < κ))))))) ∧
 (bif intOf (cellOf y 0) == 6 then
 ((((0 : Int) ≤ 0) ∧ (0 < (List.map (fun a => intD (rec a)) (seqD (cellOf y 15))).length ∧ D.lit (Value.int IntKind.i64 (intOf ((List.map (fun a => intD (rec a)) (seqD (cellOf y 15))).getD 0 D.any))) =
 (List.map (fun a => intD (rec a)) (seqD (cellOf y 15))).getD 0 D.any)) ∧
 (bif intOf ((List.map (fun a => intD (rec a)) (seqD (cellOf y 15))).getD 0 D.any) != 2 then
 p (V.d (D.lit (Value.int IntKind.i64 0))) else
 (bif intOf (cellOf y 0) == 1 then
 p (V.d (D.lit (Value.int IntKind.i64 1))) else
 (bif intOf (cellOf y 0) == 2 then
 p (V.d (D.lit (Value.int IntKind.i64 2))) else
 (bif intOf (cellOf y 0) == 3 then
 p (V.d (D.lit (Value.int IntKind.i64 2))) else
 (bif intOf (cellOf y 0) == 4 then
 p (V.d (D.lit (Value.int IntKind.i64 2))) else
 (bif intOf (cellOf y 0) == 5 then
 p (V.d (D.lit (Value.int IntKind.i64 2))) else
 (bif intOf (cellOf y 0) == 6 then
 p (V.d (D.lit (Value.int IntKind.i64 2))) else
 (bif intOf (cellOf y 0) == 7 then
 p (V.d (D.lit (Value.int IntKind.i64 0))) else
 (bif intOf (cellOf y 0) == 8 then
 p (V.d (D.lit (Value.int IntKind.i64 3))) else
 (bif intOf (cellOf y 0) == 9 then
 p (V.d (D.lit (Value.int IntKind.i64 4))) else
 (bif intOf (cellOf y 0) == 10 then
 p (V.d (D.lit (Value.int IntKind.i64 5))) else
 (bif intOf (cellOf y 0) == 11 then
 p (V.d (D.lit (Value.int IntKind.i64 4))) else
 (bif intOf (cellOf y 0) == 12 then
 p (V.d (D.lit (Value.int IntKind.i64 3))) else
 (bif intOf (cellOf y 0) == 13 then
 p (V.d (D.lit (Value.int IntKind.i64 0))) else
 p (V.d (D.lit (Value.int IntKind.i64 0)))))))))))))))))) else
 (bif intOf (cellOf y 0) == 12 then
 ((((0 : Int) ≤ 0) ∧ (0 < (List.map (fun a => intD (rec a)) (seqD (cellOf y 15))).length ∧ D.lit (Value.int IntKind.i64 (intOf ((List.map (fun a => intD (rec a)) (seqD (cellOf y 15))).getD 0 D.any))) =
 (List.map (fun a => intD (rec a)) (seqD (cellOf y 15))).getD 0 D.any)) ∧
 (bif intOf ((List.map (fun a => intD (rec a)) (seqD (cellOf y 15))).getD 0 D.any) != 4 then
 p (V.d (D.lit (Value.int IntKind.i64 0))) else
 (bif intOf (cellOf y 0) == 1 then
 p (V.d (D.lit (Value.int IntKind.i64 1))) else
 (bif intOf (cellOf y 0) == 2 then
 p (V.d (D.lit (Value.int IntKind.i64 2))) else
 (bif intOf (cellOf y 0) == 3 then
 p (V.d (D.lit (Value.int IntKind.i64 2))) else
 (bif intOf (cellOf y 0) == 4 then
 p (V.d (D.lit (Value.int IntKind.i64 2))) else
 (bif intOf (cellOf y 0) == 5 then
 p (V.d (D.lit (Value.int IntKind.i64 2))) else
 (bif intOf (cellOf y 0) == 6 then
 p (V.d (D.lit (Value.int IntKind.i64 2))) else
 (bif intOf (cellOf y 0) == 7 then
 p (V.d (D.lit (Value.int IntKind.i64 0))) else
 (bif intOf (cellOf y 0) == 8 then
 p (V.d (D.lit (Value.int IntKind.i64 3))) else
 (bif intOf (cellOf y 0) == 9 then
 p (V.d (D.lit (Value.int IntKind.i64 4))) else
 (bif intOf (cellOf y 0) == 10 then
 p (V.d (D.lit (Value.int IntKind.i64 5))) else
 (bif intOf (cellOf y 0) == 11 then
 p (V.d (D.lit (Value.int IntKind.i64 4))) else
 (bif intOf (cellOf y 0) == 12 then
 p (V.d (D.lit (Value.int IntKind.i64 3))) else
 (bif intOf (cellOf y 0) == 13 then
 p (V.d (D.lit (Value.int IntKind.i64 0))) else
 p (V.d (D.lit (Value.int IntKind.i64 0)))))))))))))))))) else
 (bif intOf (cellOf y 0) == 7 then
 ((((0 : Int) ≤ 0) ∧ (0 < (List.map (fun a => intD (rec a)) (seqD (cellOf y 15))).length ∧ D.lit (Value.int IntKind.i64 (intOf ((List.map (fun a => intD (rec a)) (seqD (cellOf y 15))).getD 0 D.any))) =
 (List.map (fun a => intD (rec a)) (seqD (cellOf y 15))).getD 0 D.any)) ∧
 ((((0 : Int) ≤ 1) ∧ (1 < (List.map (fun a => intD (rec a)) (seqD (cellOf y 15))).length ∧ D.lit (Value.int IntKind.i64 (intOf ((List.map (fun a => intD (rec a)) (seqD (cellOf y 15))).getD 1 D.any))) =
 (List.map (fun a => intD (rec a)) (seqD (cellOf y 15))).getD 1 D.any)) ∧
 (FitE (eV y) ∧
 p
 (V.d
 (D.lit
 (Value.int IntKind.i64
 (binE (eV y) (intOf ((List.map (fun a => intD (rec a)) (seqD (cellOf y 15))).getD 0 D.any))
 (intOf ((List.map (fun a => intD (rec a)) (seqD (cellOf y 15))).getD 1 D.any))))))))) else
 (bif intOf (cellOf y 0) == 1 then
 p (V.d (D.lit (Value.int IntKind.i64 1))) else
 (bif intOf (cellOf y 0) == 2 then
 p (V.d (D.lit (Value.int IntKind.i64 2))) else
 (bif intOf (cellOf y 0) == 3 then
 p (V.d (D.lit (Value.int IntKind.i64 2))) else
 (bif intOf (cellOf y 0) == 4 then
 p (V.d (D.lit (Value.int IntKind.i64 2))) else
 (bif intOf (cellOf y 0) == 5 then
 p (V.d (D.lit (Value.int IntKind.i64 2))) else
 (bif intOf (cellOf y 0) == 6 then
 p (V.d (D.lit (Value.int IntKind.i64 2))) else
 (bif intOf (cellOf y 0) == 7 then
 p (V.d (D.lit (Value.int IntKind.i64 0))) else
 (bif intOf (cellOf y 0) == 8 then
 p (V.d (D.lit (Value.int IntKind.i64 3))) else
 (bif intOf (cellOf y 0) == 9 then
 p (V.d (D.lit (Value.int IntKind.i64 4))) else
 (bif intOf (cellOf y 0) == 10 then
 p (V.d (D.lit (Value.int IntKind.i64 5))) else
 (bif intOf (cellOf y 0) == 11 then
 p (V.d (D.lit (Value.int IntKind.i64 4))) else
 (bif intOf (cellOf y 0) == 12 then
 p (V.d (D.lit (Value.int IntKind.i64 3))) else
 (bif intOf (cellOf y 0) == 13 then
 p (V.d (D.lit (Value.int IntKind.i64 0))) else
 p (V.d (D.lit (Value.int IntKind.i64 0)))))))))))))))))))) := by kernel_rfl
theorem w15 (y : D) (p : V → Prop) : (evBodyT (Cn T40) T40 noCS 0 noSp noHn 15 [V.d (eV y)] Heap.empty fun v H => p (freezeR H v)) =
 (FitE (eV y) ∧
 (bif checkE (eV y) != 0 then
 p (V.d (D.tup [D.lit (Value.int IntKind.i64 0), D.lit (Value.int IntKind.i64 (checkE (eV y)))])) else
 (True ∧
 (((FitE (eV y) ∧ (etot (eV y) ≤ 100 ∧ ((partsE (eV y) : Int) = 0))) ∧ IsKinds kindsEs) ∧
 (bif typeE (eV y) == 0 then
 p (V.d (D.tup [D.lit (Value.int IntKind.i64 0), D.lit (Value.int IntKind.i64 15)])) else
 p (V.d (D.tup [D.lit (Value.int IntKind.i64 (typeE (eV y))), D.lit (Value.int IntKind.i64 0)]))))))) := by kernel_rfl
theorem arg3 {x y a b : D} (h : y = x) : [x, a, b].map V.d = [V.d y, V.d a, V.d b] := by rw [h]; rfl
theorem partsT_congr (r r' : D → Int) (y : D) (h : ∀ a ∈ subs y 15, r a = r' a) : partsT r y = partsT r' y := by
 unfold partsT
 rw [firstF_congr h]
theorem partsE_eq (y : D) : partsE y = partsT partsE y := fixD_step partsT_congr y
theorem ok44 {κ : Nat} (hk : TabOk B (U44 κ)) : OkS (Cn (U44 κ)) 0 (.loop l44) (S44 partsE κ) := by
 refine okS_loop fun N vals bs K h => ?_
 simp only [S44] at h
 split at h
 case h_2 => exact h.elim
 rename_i es b xs n i
 obtain ⟨⟨rfl, hes, _, rfl, rfl, h16, hall⟩, h⟩ := h
 refine search_loop (tab_fit base hk noCS_valid) tab_has noSp_ok (hn := noHn) (adsI := []) (nsI := []) (nsX := []) rfl rfl xs.length
  (fun i => [.d (.map es), .d (.slice b 16 xs), lint xs.length, lint i]) (fun _ => []) (firstF partsE xs) (fun e => (.ret, [lint e], [])) (by simp) (.exit 0) [.any] [] (by simp) ?_ ?_ h
 ·
  intro i R hi hR
  refine keep (b44 κ es xs i xs.length b R) ?_
  have e1 : decide ((i : Int) < xs.length) = true := by simp; omega
  have e2 : IntKind.i64.wrap ((i : Int) + 1) = ((i + 1 : Nat) : Int) := by rw [Go.IntWalk.i64_in _ (by omega)]; omega
  obtain ⟨hv, hlt⟩ := hall _ (getD_mem hi)
  rw [e1]
  simp only [Int.toNat_natCast, e2, cond_true, hv.1.v]
  refine ⟨⟨by omega, hi, trivial⟩, ⟨⟨hv, hes⟩, hlt⟩, cond_split (fun h1 => ⟨trivial, ?_⟩) (fun h1 => ⟨trivial, ?_⟩)⟩ <;> (simp only [firstF, h1, cond_true, cond_false, optE] at hR; exact hR)
 ·
  intro R hR
  refine keep (b44 κ es xs xs.length xs.length b R) ?_
  have e1 : decide ((xs.length : Int) < xs.length) = false := by simp
  rw [e1]
  exact ⟨rfl, hR⟩
theorem k44 : TabOk B T44 := by
 refine add_rec base k72 μ1 (fn := Tryz.f44) (cd := bodyOf Tryz.f44) (sp := fun n => spL [(10, S44 partsE n)]) (hn := noHn) Tryz.func44 (by kernel_rfl) (by kernel_rfl) (fun n hk => specT_cons (c := .loop l44) (by kernel_rfl) (ok44 hk) specT_nil) fun κ ds r hp hm hr => ?_
 unfold c44 at hp hr
 simp only [] at hr hp
 split at hr
 ·
  rename_i x es
  cases hr
  obtain ⟨⟨hf, ht⟩, hes⟩ := hp
  rw [arg2 hf.v]
  refine keep (w44 partsE κ es x fun v => v = _) ?_
  rw [partsE_eq]
  unfold partsT
  rw [hf.v]
  have ha : ∀ y ∈ seqD (cellOf x 15), (FitE y ∧ etot y ≤ 100) ∧ dsz y < κ := fun y hy => ⟨⟨hf.a y hy, by
   have := etot_eq x
   have := le_sum (f := etot) (xs := subs x 15) hy
   omega⟩, hm ▸ subs_lt hy⟩
  have hl : (seqD (cellOf x 15)).length ≤ 100 := by
   have := etot_eq x
   have := len_etot (xs := subs x 15)
   unfold subs at *
   omega
  generalize search (firstF partsE (seqD (cellOf x 15))) (seqD (cellOf x 15)).length = o2
  cases o2 <;> (repeat' (first | with_reducible rfl | (refine cond_split (fun hcw => ?_) (fun hcw => ?_) <;> simp only [hcw, cond_true, cond_false]) | refine and_i ?_ ?_))
  all_goals first | trivial | assumption
 ·
  cases hr
theorem k17 : TabOk B T17 := by
 refine add_body base k44 (fn := Tryz.f17) (cd := bodyOf Tryz.f17) (sp := noSp) (hn := noHn) Tryz.func17 (by kernel_rfl) (by kernel_rfl) noSp_ok fun ds r hp hr => ?_
 unfold c17 at hp hr
 simp only [] at hr hp
 split at hr
 ·
  rename_i x
  cases hr
  rw [arg1 (FitE.v hp)]
  refine keep (w17 x fun v => v = _) ?_
  unfold checkE
  rw [FitE.v hp]
  (repeat' (first | with_reducible rfl | (refine cond_split (fun hcw => ?_) (fun hcw => ?_) <;> simp only [hcw, cond_true, cond_false]) | refine and_i ?_ ?_))
  all_goals first | exact hp | trivial | exact Eq.refl kindsEs | (simp [cap] at *; omega)
 ·
  cases hr
theorem k70 : TabOk B T70 := by
 refine add_body base k17 (fn := Tryz.f70) (cd := bodyOf Tryz.f70) (sp := noSp) (hn := noHn) Tryz.func70 (by kernel_rfl) (by kernel_rfl) noSp_ok fun ds r hp hr => ?_
 unfold c70 at hp hr
 simp only [] at hr hp
 split at hr
 ·
  rename_i x a b
  cases hr
  rw [arg3 (FitE.v hp)]
  refine keep (w70 x a b fun v => v = _) ?_
  unfold binE
  (repeat' (first | with_reducible rfl | (refine cond_split (fun hcw => ?_) (fun hcw => ?_) <;> simp only [hcw, cond_true, cond_false]) | refine and_i ?_ ?_))
 ·
  cases hr
theorem cond_z {c : Bool} {k r : Int} (hk : k ≠ 0) (h : (bif c then k else r) = 0) : c = false ∧ r = 0 := by
 cases c with
 | true => exact absurd h hk
 | false => exact ⟨rfl, h⟩
theorem or_f {a b : Bool} (h : (bif a then true else b) = false) : a = false ∧ b = false := by
 cases a with
 | true => cases h
 | false => exact ⟨rfl, h⟩
def kArgs (k : Int) : Int := bif k == 6 then 1 else bif k == 7 then 2 else bif k == 12 then 1 else 0
theorem exprE_args {x : D} (h : exprE x = 0) : ((subs x 15).length : Int) = kArgs (intOf (cellOf x 0)) ∧ 1 ≤ intOf (cellOf x 0) ∧ intOf (cellOf x 0) ≤ 13 := by
 unfold exprE at h
 unfold subs
 generalize hk : intOf (cellOf x 0) = k at h ⊢
 by_cases hr : 1 ≤ k ∧ k ≤ 13
 ·
  refine ⟨?_, hr⟩
  have : k = 1 ∨ k = 2 ∨ k = 3 ∨ k = 4 ∨ k = 5 ∨ k = 6 ∨ k = 7 ∨ k = 8 ∨ k = 9 ∨ k = 10 ∨ k = 11 ∨ k = 12 ∨ k = 13 := by omega
  rcases this with rfl | rfl | rfl | rfl | rfl | rfl | rfl | rfl | rfl | rfl | rfl | rfl | rfl
  all_goals
   simp only [Int.reduceBEq, cond_true, cond_false] at h
   first
   | (have h1 := (or_f (cond_z (by decide) h).1).2; simp at h1; simp [kArgs]; omega)
   | (have h1 := (or_f (cond_z (by decide) (cond_z (by decide) h).2).1).2; simp at h1; simp [kArgs]; omega)
 ·
  exfalso
  have hn : ∀ j : Int, 1 ≤ j → j ≤ 13 → (k == j) = false := fun j h1 h2 => by
   have : k ≠ j := by rintro rfl; exact hr ⟨h1, h2⟩
   simpa using this
  simp only [hn 1 (by omega) (by omega), hn 2 (by omega) (by omega), hn 3 (by omega) (by omega), hn 4 (by omega) (by omega), hn 5 (by omega) (by omega), hn 6 (by omega) (by omega), hn 7 (by omega) (by omega), hn 8 (by omega) (by omega), hn 9 (by omega) (by omega), hn 10 (by omega) (by omega), hn 11 (by omega) (by omega), hn 12 (by omega) (by omega), hn 13 (by omega) (by omega), cond_false] at h
  exact absurd h (by decide)
theorem typeT_congr (r r' : D → Int) (y : D) (h : ∀ a ∈ subs y 15, r a = r' a) : typeT r y = typeT r' y := by
 unfold typeT
 have e : List.map (fun a => intD (r a)) (seqD (cellOf y 15)) = List.map (fun a => intD (r' a)) (seqD (cellOf y 15)) := List.map_congr_left fun a ha => by rw [h a ha]
 rw [e]
theorem typeE_eq (y : D) : typeE y = typeT typeE y := fixD_step typeT_congr y
theorem search_all {f : D → Int} {xs : List D} (h : search (firstF f xs) xs.length = none) : ∀ a ∈ xs, f a = 0 := by
 have key : ∀ n i, i + n = xs.length → rounds (fun i _ => ofOpt (firstF f xs i)) n i () = .inl () → ∀ j, i ≤ j → j < xs.length → f (xs.getD j .any) = 0 := by
  intro n
  induction n with
  | zero => intro i hi _ j h1 h2; omega
  | succ n ih =>
   intro i hi hr j h1 h2
   unfold rounds at hr
   cases hf : firstF f xs i with
   | some e => simp only [hf, ofOpt] at hr; cases hr
   | none =>
    simp only [hf, ofOpt] at hr
    by_cases hj : j = i
    ·
     subst hj
     unfold firstF at hf
     cases hb : (f (xs.getD j .any) != 0) with
     | true => rw [hb] at hf; cases hf
     | false => simpa using hb
    ·
     exact ih (i + 1) (by omega) hr j (by omega) h2
 intro a ha
 obtain ⟨j, hj, rfl⟩ := List.getElem_of_mem ha
 unfold search at h
 cases hr : rounds (fun i _ => ofOpt (firstF f xs i)) xs.length 0 () with
 | inr b => rw [hr] at h; cases h
 | inl u =>
  have := key _ 0 (by omega) hr j (by omega) hj
  rw [List.getD_eq_getElem?_getD, List.getElem?_eq_getElem hj] at this
  exact this
theorem firstF_ne {f : D → Int} {xs : List D} {e : Int} (h : search (firstF f xs) xs.length = some e) : e ≠ 0 := by
 have key : ∀ n i, rounds (fun i _ => ofOpt (firstF f xs i)) n i () = .inr e → e ≠ 0 := by
  intro n
  induction n with
  | zero => intro i h; cases h
  | succ n ih =>
   intro i hr
   unfold rounds at hr
   cases hf : firstF f xs i with
   | none => simp only [hf, ofOpt] at hr; exact ih _ hr
   | some x =>
    simp only [hf, ofOpt] at hr
    cases hr
    unfold firstF at hf
    cases hb : (f (xs.getD i .any) != 0) with
    | true => rw [hb] at hf; cases hf; simpa using hb
    | false => rw [hb] at hf; cases hf
 unfold search at h
 cases hr : rounds (fun i _ => ofOpt (firstF f xs i)) xs.length 0 () with
 | inl b => rw [hr] at h; cases h
 | inr b => rw [hr] at h; cases h; exact key _ _ hr
theorem partsE_ok {x : D} (hv : eV x = x) (h : partsE x = 0) : exprE x = 0 ∧ ∀ a ∈ subs x 15, partsE a = 0 := by
 rw [partsE_eq] at h
 unfold partsT at h
 rw [hv] at h
 cases he : (exprE x != 0) with
 | true => rw [he] at h; simp at he; exact absurd h he
 | false =>
  rw [he] at h
  simp only [cond_false] at h
  refine ⟨by simpa using he, ?_⟩
  cases hs : search (firstF partsE (seqD (cellOf x 15))) (seqD (cellOf x 15)).length with
  | none => exact search_all hs
  | some e => rw [hs] at h; exact absurd h (firstF_ne hs)
theorem k15w {y : D} (h : checkE y = 0) (hv : eV y = y) : etot y ≤ 100 ∧ edep y ≤ 12 ∧ partsE y = 0 := by
 unfold checkE at h
 rw [hv] at h
 obtain ⟨h1, h⟩ := cond_z (by decide) h
 obtain ⟨h2, h⟩ := cond_z (by decide) h
 simp [cap] at h1 h2
 exact ⟨by omega, by omega, h⟩
theorem ok40 {κ : Nat} (hk : TabOk B (U40 κ)) : OkS (Cn (U40 κ)) 0 (.loop l40) (S40 typeE κ) := by
 refine okS_loop fun N vals bs K h => ?_
 simp only [S40] at h
 split at h
 case h_2 => exact h.elim
 rename_i es b xs n i cs
 obtain ⟨⟨⟨y, rfl⟩, rfl, hes, _, rfl, rfl, h16, hall⟩, h⟩ := h
 have main : ∀ k i ts, i + k = xs.length → ts = (xs.take i).map (fun a => intD (typeE a)) → LoopT (Cn (U40 κ)) 0 l40 52 [1,2,5,10,11,12] [[5000],[5001]] [1,2,5] [[5000],[5001]] [.d (.map es), .ptr [5000] 0, .ref [5001], .d (.slice b 16 xs), lint xs.length, lint i] [eBox y, .arr true false 3 1 ts []] K := by
  intro k
  induction k with
  | zero =>
   intro i ts hi hts
   have : i = xs.length := by omega
   subst this
   rw [List.take_length] at hts
   subst hts
   refine loopT_step (tab_fit base hk noCS_valid) tab_has noSp_ok (hn := noHn) (adsI := []) (nsI := [([5000],[5000]),([5001],[23])]) (nsX := [([5000],[5000]),([5001],[5001])]) rfl rfl (keep (b40 κ es _ y xs xs.length xs.length b _) ?_)
   have e1 : decide ((xs.length : Int) < xs.length) = false := by simp
   rw [e1]
   exact ⟨rfl, h⟩
  | succ k ih =>
   intro i ts hi hts
   refine loopT_step (tab_fit base hk noCS_valid) tab_has noSp_ok (hn := noHn) (adsI := []) (nsI := [([5000],[5000]),([5001],[23])]) (nsX := [([5000],[5000]),([5001],[5001])]) rfl rfl (keep (b40 κ es ts y xs i xs.length b _) ?_)
   have e1 : decide ((i : Int) < xs.length) = true := by simp; omega
   have e2 : IntKind.i64.wrap ((i : Int) + 1) = ((i + 1 : Nat) : Int) := by rw [Go.IntWalk.i64_in _ (by omega)]; omega
   obtain ⟨hv, hlt⟩ := hall _ (getD_mem (xs := xs) (i := i) (by omega))
   have hl : ts.length = i := by rw [hts, List.length_map, List.length_take]; omega
   have e3 : ((ts.length + 1) * 8).ble 70368744177664 = true := by rw [hl, Nat.ble_eq]; omega
   rw [e1, e3]
   simp only [Int.toNat_natCast, e2, cond_true, hv.1.v]
   refine ⟨⟨by omega, by omega, trivial⟩, ⟨⟨hv, hes⟩, hlt⟩, trivial, ih (i + 1) _ (by omega) ?_⟩
   rw [hts, List.take_add_one, List.map_append, List.getElem?_eq_getElem (by omega : i < xs.length), List.getD_eq_getElem?_getD, List.getElem?_eq_getElem (by omega : i < xs.length)]
   rfl
 exact main xs.length 0 [] (by omega) (by simp)
theorem intD_at {f : D → Int} {xs : List D} {i : Nat} (h : i < xs.length) : D.lit (Value.int IntKind.i64 (intOf ((xs.map fun a => intD (f a)).getD i .any))) = (xs.map fun a => intD (f a)).getD i .any := by
 rw [List.getD_eq_getElem?_getD, List.getElem?_map, List.getElem?_eq_getElem h]; rfl
theorem k40 : TabOk B T40 := by
 refine add_rec base k70 μ1 (fn := Tryz.f40) (cd := bodyOf Tryz.f40) (sp := fun n => spL [(6, S40 typeE n)]) (hn := noHn) Tryz.func40 (by kernel_rfl) (by kernel_rfl) (fun n hk => specT_cons (c := .loop l40) (by kernel_rfl) (ok40 hk) specT_nil) fun κ ds r hp hm hr => ?_
 unfold c40 at hp hr
 simp only [] at hr hp
 split at hr
 ·
  rename_i x es
  cases hr
  obtain ⟨⟨hf, ht, hpa⟩, hes⟩ := hp
  rw [show es = kindsEs from hes, arg2 hf.v]
  refine keep (w40 typeE κ es x fun v => v = _) ?_
  rw [typeE_eq]
  unfold typeT
  rw [hf.v]
  obtain ⟨hx, hap⟩ := partsE_ok hf.v hpa
  have hlen := (exprE_args hx).1
  have ha : ∀ y ∈ seqD (cellOf x 15), (FitE y ∧ etot y ≤ 100 ∧ partsE y = 0) ∧ dsz y < κ := fun y hy => ⟨⟨hf.a y hy, by
   have := etot_eq x
   have := le_sum (f := etot) (xs := subs x 15) hy
   omega, hap y hy⟩, hm ▸ subs_lt hy⟩
  have hl : (seqD (cellOf x 15)).length ≤ 100 := by
   have := etot_eq x
   have := len_etot (xs := subs x 15)
   unfold subs at *
   omega
  have h6 : (intOf (cellOf x 0) == 6) = true → (seqD (cellOf x 15)).length = 1 := fun h => by
   have h : intOf (cellOf x 0) = 6 := by simpa using h
   rw [h] at hlen; unfold subs at hlen; simp [kArgs] at hlen; omega
  have h12 : (intOf (cellOf x 0) == 12) = true → (seqD (cellOf x 15)).length = 1 := fun h => by
   have h : intOf (cellOf x 0) = 12 := by simpa using h
   rw [h] at hlen; unfold subs at hlen; simp [kArgs] at hlen; omega
  have h7 : (intOf (cellOf x 0) == 7) = true → (seqD (cellOf x 15)).length = 2 := fun h => by
   have h : intOf (cellOf x 0) = 7 := by simpa using h
   rw [h] at hlen; unfold subs at hlen; simp [kArgs] at hlen; omega
  have hE : IsE (eCells x) := ⟨x, rfl⟩
  have hK : IsKinds kindsEs := rfl
  (repeat' (first | with_reducible rfl | (refine cond_split (fun hcw => ?_) (fun hcw => ?_) <;> simp only [hcw, cond_true, cond_false]) | refine and_i ?_ ?_))
  all_goals first
   | trivial
   | assumption
   | exact hE
   | (rw [List.length_map, h6 (by assumption)]; decide)
   | (rw [List.length_map, h12 (by assumption)]; decide)
   | (rw [List.length_map, h7 (by assumption)]; decide)
   | exact intD_at (by rw [h6 (by assumption)]; decide)
   | exact intD_at (by rw [h12 (by assumption)]; decide)
   | exact intD_at (by rw [h7 (by assumption)]; decide)
 ·
  cases hr
noncomputable def c15 : Ct := ⟨fun | [x] => FitE x | _ => False, fun | [x] => some (.tup [intD (bif checkE x != 0 then 0 else typeE x), intD (bif checkE x != 0 then checkE x else bif typeE x == 0 then 15 else 0)]) | _ => none⟩
noncomputable def T15 : Tab := T40.add 15 c15
theorem k15 : TabOk B T15 := by
 refine add_body base k40 (fn := Tryz.f15) (cd := bodyOf Tryz.f15) (sp := noSp) (hn := noHn) Tryz.func15 (by kernel_rfl) (by kernel_rfl) noSp_ok fun ds r hp hr => ?_
 unfold c15 at hp hr
 simp only [] at hr hp
 split at hr
 ·
  rename_i x
  cases hr
  rw [arg1 (FitE.v hp)]
  refine keep (w15 x fun v => v = _) ?_
  rw [FitE.v hp]
  refine ⟨hp, cond_split (fun h => ?_) (fun h => ?_)⟩
  ·
   simp only [h, cond_true]
  ·
   simp only [h, cond_false]
   have h0 : checkE x = 0 := by simpa using h
   obtain ⟨a1, a2, a3⟩ := k15w h0 (FitE.v hp)
   refine ⟨trivial, ⟨⟨hp, a1, a3⟩, Eq.refl kindsEs⟩, cond_split (fun h => ?_) (fun h => ?_)⟩
   ·
    have : typeE x = 0 := by simpa using h
    simp only [this]; rfl
   ·
    simp only [h, cond_false]
 ·
  cases hr
def cntL (rec : D → Int → Int) : List D → Int → Int
 | [], m => m
 | a :: r, m => bif decide (m ≤ 100) then cntL rec r (rec a m) else m
noncomputable def cnpT (rec : D → Int → Int) (y : D) (n : Int) : Int :=
 (cntL rec (seqD (cellOf y 2)) (IntKind.i64.wrap (n + 1)))
noncomputable def cnpE (y : D) : Int → Int := fixD (fun rec y => cnpT rec y) (fun n => n) (dsz y + 1) y
noncomputable def c49 : Ct := ⟨fun | [x, .lit (.int .i64 n)] => FitP x | _ => False, fun | [x, .lit (.int .i64 n)] => some (.lit (.int .i64 (cnpE x n))) | _ => none⟩
noncomputable def U49 (κ : Nat) : Tab := T15.add 49 (c49.below μ1 κ)
noncomputable def T49 : Tab := T15.add 49 c49
noncomputable def l49 : Code := roundOf (pieceAt (bodyOf Tryz.f49) 6)
noncomputable def S49 (rec : D → Int → Int) (κ : Nat) : Ev.Spec := { L := [1,2,5], ns := [([5000],[4])], L' := [1], nm' := [], G := fun N vals bs k => match vals, bs with
 | [.d (.lit (.int .i64 m)), .ptr [5000] 0, .d (.lit (.int .i64 i))], [.cells 30 [.d (.lit (.int .i64 q)), .d (.slice b1 4 cs), .d (.slice b2 3 xs)]] => (N = 27 ∧ rec = cnpE ∧ i = 0 ∧ Short xs ∧ ∀ y ∈ xs, FitP y ∧ dsz y < κ) ∧ k (.exit 0) [lint (cntL rec xs m)] []
 | _, _ => False }
theorem b49 (κ : Nat) (q : Int) (cs : List D) (xs : List D) (b1 : Bool) (b2 : Bool) (i : Int) (m : Int) (R : X → List V → List Box → Prop) : (roundT (Cn (U49 κ)) (U49 κ) noCS 0 noSp noHn l49 27 [1, 2, 5] [[5000]] [] [([5000], [5000])] [1] []
 [lint m, V.ptr [5000] 0, lint i] [pBox q b1 cs b2 xs] R) =
 (bif bif decide (i < (↑xs.length : Int)) then decide (m ≤ 100) else false then
 ((((0 : Int) ≤ i) ∧ (i.toNat < xs.length ∧ pV (xs.getD i.toNat D.any) = xs.getD i.toNat D.any)) ∧
 ((FitP (pV (xs.getD i.toNat D.any)) ∧ μ1 [pV (xs.getD i.toNat D.any), D.lit (Value.int IntKind.i64 m)] < κ) ∧
 (27 = 27 ∧
 R X.normal
 [V.d (D.lit (Value.int IntKind.i64 (cnpE (pV (xs.getD i.toNat D.any)) m))), V.ptr [5000] 0,
 V.d (D.lit (Value.int IntKind.i64 (IntKind.i64.wrap (i + 1))))]
 [Box.cells 30 [V.d (D.lit (Value.int IntKind.i64 q)), V.d (D.slice b1 4 cs), V.d (D.slice b2 3 xs)]]))) else
 (27 = 27 ∧
 R (X.exit 0) [V.d (D.lit (Value.int IntKind.i64 m))] [])) := by kernel_rfl
theorem w49 (rec : D → Int → Int) (κ : Nat) (y : D) (n : Int) (p : V → Prop) : (evBodyT (Cn (U49 κ)) (U49 κ) noCS 0 (spL [(6, S49 rec κ)]) noHn 49 [V.d (pV y), lint n] Heap.empty fun v H =>
 p (freezeR H v)) =
 ((27 = 27 ∧ (rec = cnpE ∧ (((0 : Int) = 0) ∧ (Short (seqD (cellOf y 2)) ∧ ∀ (y_1 : D), y_1 ∈ seqD (cellOf y 2) → FitP y_1 ∧ dsz y_1 < κ)))) ∧
 p (V.d (D.lit (Value.int IntKind.i64 (cntL rec (seqD (cellOf y 2)) (IntKind.i64.wrap (n + 1))))))) := by kernel_rfl
noncomputable def cntT (rec : D → Int → Int) (y : D) (n : Int) : Int :=
 (bif decide ((↑(seqD (cellOf y 10)).length : Int) > 100) then
 101 else
 (bif bif
 bif intOf (cellOf y 11) != 0 then true
 else
 decide (IntKind.i64.wrap ((↑(seqD (cellOf y 12)).length : Int) + (↑(seqD (cellOf y 13)).length : Int)) > 0) then
 decide (IntKind.i64.wrap (IntKind.i64.wrap (n + 1) + (↑(seqD (cellOf y 10)).length : Int)) ≤ 100)
 else false then
 (cntL rec (seqD (cellOf y 15))
 (cnpE (paV y) (IntKind.i64.wrap (IntKind.i64.wrap (n + 1) + (↑(seqD (cellOf y 10)).length : Int))))) else
 (cntL rec (seqD (cellOf y 15))
 (IntKind.i64.wrap (IntKind.i64.wrap (n + 1) + (↑(seqD (cellOf y 10)).length : Int))))))
noncomputable def cntE (y : D) : Int → Int := fixD (fun rec y => cntT rec y) (fun n => n) (dsz y + 1) y
noncomputable def c48 : Ct := ⟨fun | [x, .lit (.int .i64 n)] => FitE x | _ => False, fun | [x, .lit (.int .i64 n)] => some (.lit (.int .i64 (cntE x n))) | _ => none⟩
noncomputable def U48 (κ : Nat) : Tab := T49.add 48 (c48.below μ1 κ)
noncomputable def T48 : Tab := T49.add 48 c48
noncomputable def l48 : Code := roundOf (pieceAt (bodyOf Tryz.f48) 16)
noncomputable def S48 (rec : D → Int → Int) (κ : Nat) : Ev.Spec := { L := [1,2,5], ns := [([5000],[4])], L' := [1], nm' := [], G := fun N vals bs k => match vals, bs with
 | [.d (.lit (.int .i64 m)), .ptr [5000] 0, .d (.lit (.int .i64 i))], [.cells 33 [a0, a1, a2, a3, a4, a5, a6, a7, a8, a9, a10, a11, a12, a13, a14, .d (.slice b 16 xs)]] => (IsE [a0, a1, a2, a3, a4, a5, a6, a7, a8, a9, a10, a11, a12, a13, a14, .d (.slice b 16 xs)] ∧ N = 60 ∧ rec = cntE ∧ i = 0 ∧ Short xs ∧ ∀ y ∈ xs, FitE y ∧ dsz y < κ) ∧ k (.exit 0) [lint (cntL rec xs m)] []
 | _, _ => False }
theorem b48 (κ : Nat) (y : D) (i : Int) (m : Int) (R : X → List V → List Box → Prop) : (roundT (Cn (U48 κ)) (U48 κ) noCS 0 noSp noHn l48 60 [1, 2, 5] [[5000]] [] [([5000], [5000])] [1] []
 [lint m, V.ptr [5000] 0, lint i] [eBox y] R) =
 (bif bif decide (i < (↑(seqD (cellOf y 15)).length : Int)) then decide (m ≤ 100) else false then
 ((((0 : Int) ≤ i) ∧ (i.toNat < (seqD (cellOf y 15)).length ∧ eV ((seqD (cellOf y 15)).getD i.toNat D.any) = (seqD (cellOf y 15)).getD i.toNat D.any)) ∧
 ((FitE (eV ((seqD (cellOf y 15)).getD i.toNat D.any)) ∧ μ1 [eV ((seqD (cellOf y 15)).getD i.toNat D.any), D.lit (Value.int IntKind.i64 m)] < κ) ∧
 (60 = 60 ∧
 R X.normal
 [V.d (D.lit (Value.int IntKind.i64 (cntE (eV ((seqD (cellOf y 15)).getD i.toNat D.any)) m))), V.ptr [5000] 0,
 V.d (D.lit (Value.int IntKind.i64 (IntKind.i64.wrap (i + 1))))]
 [eBox y]))) else
 (60 = 60 ∧
 R (X.exit 0) [V.d (D.lit (Value.int IntKind.i64 m))] [])) := by kernel_rfl
theorem w48 (rec : D → Int → Int) (κ : Nat) (y : D) (n : Int) (p : V → Prop) : (evBodyT (Cn (U48 κ)) (U48 κ) noCS 0 (spL [(16, S48 rec κ)]) noHn 48 [V.d (eV y), lint n] Heap.empty fun v H =>
 p (freezeR H v)) =
 (bif decide ((↑(seqD (cellOf y 10)).length : Int) > 100) then
 p (V.d (D.lit (Value.int IntKind.i64 101))) else
 (bif bif
 bif intOf (cellOf y 11) != 0 then true
 else
 decide (IntKind.i64.wrap ((↑(seqD (cellOf y 12)).length : Int) + (↑(seqD (cellOf y 13)).length : Int)) > 0) then
 decide (IntKind.i64.wrap (IntKind.i64.wrap (n + 1) + (↑(seqD (cellOf y 10)).length : Int)) ≤ 100)
 else false then
 (FitP (paV y) ∧
 ((IsE (eCells y) ∧ (60 = 60 ∧ (rec = cntE ∧ (((0 : Int) = 0) ∧ (Short (seqD (cellOf y 15)) ∧ ∀ (y_1 : D), y_1 ∈ seqD (cellOf y 15) → FitE y_1 ∧ dsz y_1 < κ))))) ∧
 p
 (V.d
 (D.lit
 (Value.int IntKind.i64
 (cntL rec (seqD (cellOf y 15))
 (cnpE (paV y) (IntKind.i64.wrap (IntKind.i64.wrap (n + 1) + (↑(seqD (cellOf y 10)).length : Int)))))))))) else
 ((IsE (eCells y) ∧ (60 = 60 ∧ (rec = cntE ∧ (((0 : Int) = 0) ∧ (Short (seqD (cellOf y 15)) ∧ ∀ (y_1 : D), y_1 ∈ seqD (cellOf y 15) → FitE y_1 ∧ dsz y_1 < κ))))) ∧
 p
 (V.d
 (D.lit
 (Value.int IntKind.i64
 (cntL rec (seqD (cellOf y 15))
 (IntKind.i64.wrap (IntKind.i64.wrap (n + 1) + (↑(seqD (cellOf y 10)).length : Int)))))))))) := by kernel_rfl
noncomputable def c20 : Ct := ⟨fun | [x] => FitE x | _ => False, fun | [x] => some (.lit (.int .i64 (bif false then if 101 > cntE x 0 then 101 else cntE x 0 else if 101 < cntE x 0 then 101 else cntE x 0))) | _ => none⟩
noncomputable def T20 : Tab := T48.add 20 c20
theorem w20 (y : D) (p : V → Prop) : (evBodyT (Cn T48) T48 noCS 0 noSp noHn 20 [V.d (eV y)] Heap.empty fun v H => p (freezeR H v)) =
 (FitE (eV y) ∧
 p
 (V.d
 (D.lit
 (Value.int IntKind.i64
 (bif false then if 101 > cntE (eV y) 0 then 101 else cntE (eV y) 0
 else if 101 < cntE (eV y) 0 then 101 else cntE (eV y) 0))))) := by kernel_rfl
theorem drop_at {xs : List D} {i : Nat} (h : i < xs.length) : xs.drop i = xs.getD i .any :: xs.drop (i + 1) := by
 rw [List.drop_eq_getElem_cons h, List.getD_eq_getElem?_getD, List.getElem?_eq_getElem h]; rfl
theorem cntL_congr {r r' : D → Int → Int} : ∀ {xs : List D} {m : Int}, (∀ a ∈ xs, r a = r' a) → cntL r xs m = cntL r' xs m
 | [], m, h => rfl
 | a :: l, m, h => by
  unfold cntL
  rw [h a (.head _), cntL_congr fun b hb => h b (.tail _ hb)]
theorem cnpT_congr (r r' : D → Int → Int) (y : D) (h : ∀ a ∈ subs y 2, r a = r' a) : cnpT r y = cnpT r' y := by
 funext n; unfold cnpT; exact cntL_congr h
theorem cnpE_eq (y : D) : cnpE y = cnpT cnpE y := fixD_step (F := fun rec y => cnpT rec y) cnpT_congr y
theorem cntT_congr (r r' : D → Int → Int) (y : D) (h : ∀ a ∈ subs y 15, r a = r' a) : cntT r y = cntT r' y := by
 have e : ∀ m, cntL r (seqD (cellOf y 15)) m = cntL r' (seqD (cellOf y 15)) m := fun m => cntL_congr h
 funext n; unfold cntT; simp only [e]
theorem cntE_eq (y : D) : cntE y = cntT cntE y := fixD_step (F := fun rec y => cntT rec y) cntT_congr y
theorem ok49 {κ : Nat} (hk : TabOk B (U49 κ)) : OkS (Cn (U49 κ)) 0 (.loop l49) (S49 cnpE κ) := by
 refine okS_loop fun N vals bs K h => ?_
 simp only [S49] at h
 split at h
 case h_2 => exact h.elim
 rename_i m i q b1 cs b2 xs
 obtain ⟨⟨rfl, _, rfl, hsh, hx⟩, h⟩ := h
 have main : ∀ k i (m : Int), i + k = xs.length → K (.exit 0) [lint (cntL cnpE (xs.drop i) m)] [] → LoopT (Cn (U49 κ)) 0 l49 27 [1,2,5] [[5000]] [1] [] [lint m, .ptr [5000] 0, lint i] [pBox q b1 cs b2 xs] K := by
  intro k
  induction k with
  | zero =>
   intro i m hi h
   have : i = xs.length := by omega
   subst this
   refine loopT_step (tab_fit base hk noCS_valid) tab_has noSp_ok (hn := noHn) (adsI := []) (nsI := [([5000],[5000])]) (nsX := []) rfl rfl (keep (b49 κ q cs xs b1 b2 xs.length m _) ?_)
   have e1 : decide ((xs.length : Int) < xs.length) = false := by simp
   rw [e1]
   rw [List.drop_length] at h
   exact ⟨rfl, h⟩
  | succ k ih =>
   intro i m hi h
   refine loopT_step (tab_fit base hk noCS_valid) tab_has noSp_ok (hn := noHn) (adsI := []) (nsI := [([5000],[5000])]) (nsX := []) rfl rfl (keep (b49 κ q cs xs b1 b2 i m _) ?_)
   have e1 : decide ((i : Int) < xs.length) = true := by simp; omega
   have hs : xs.length ≤ 1152921504606846976 := hsh
   have e2 : IntKind.i64.wrap ((i : Int) + 1) = ((i + 1 : Nat) : Int) := by rw [Go.IntWalk.i64_in _ (by omega)]; omega
   obtain ⟨hf, hlt⟩ := hx _ (getD_mem (xs := xs) (i := i) (by omega))
   have hv := hf.v
   rw [drop_at (by omega)] at h
   unfold cntL at h
   rw [e1]
   simp only [Int.toNat_natCast, e2, cond_true, hv]
   refine cond_split (fun hb => ?_) (fun hb => ?_)
   ·
    rw [hb] at h
    exact ⟨⟨by omega, by omega, trivial⟩, ⟨hf, hlt⟩, trivial, ih (i + 1) _ (by omega) h⟩
   ·
    rw [hb] at h
    exact ⟨trivial, h⟩
 exact main xs.length 0 m (by omega) (by rw [List.drop_zero]; exact h)
theorem k49 : TabOk B T49 := by
 refine add_rec base k15 μ1 (fn := Tryz.f49) (cd := bodyOf Tryz.f49) (sp := fun n => spL [(6, S49 cnpE n)]) (hn := noHn) Tryz.func49 (by kernel_rfl) (by kernel_rfl) (fun n hk => specT_cons (c := .loop l49) (by kernel_rfl) (ok49 hk) specT_nil) fun κ ds r hp hm hr => ?_
 unfold c49 at hp hr
 simp only [] at hr hp
 split at hr
 ·
  rename_i x n
  cases hr
  rw [arg2 (FitP.v hp)]
  refine keep (w49 cnpE κ x n fun v => v = _) ?_
  rw [cnpE_eq]
  exact ⟨⟨rfl, rfl, rfl, (FitP.l hp).2, fun y hy => ⟨FitP.a hp y hy, hm ▸ subs_lt hy⟩⟩, rfl⟩
 ·
  cases hr
theorem ok48 {κ : Nat} (hk : TabOk B (U48 κ)) : OkS (Cn (U48 κ)) 0 (.loop l48) (S48 cntE κ) := by
 refine okS_loop fun N vals bs K h => ?_
 simp only [S48] at h
 split at h
 case h_2 => exact h.elim
 rename_i m i a0 a1 a2 a3 a4 a5 a6 a7 a8 a9 a10 a11 a12 a13 a14 b xs
 obtain ⟨⟨⟨y, hy⟩, rfl, _, rfl, hsh, hx⟩, h⟩ := h
 have hxs : xs = seqD (cellOf y 15) := by
  have := congrArg (fun l : List V => l.getD 15 .any) hy
  simp at this
  exact this.2
 rw [hy]
 subst hxs
 have main : ∀ k i (m : Int), i + k = (seqD (cellOf y 15)).length → K (.exit 0) [lint (cntL cntE ((seqD (cellOf y 15)).drop i) m)] [] → LoopT (Cn (U48 κ)) 0 l48 60 [1,2,5] [[5000]] [1] [] [lint m, .ptr [5000] 0, lint i] [eBox y] K := by
  intro k
  induction k with
  | zero =>
   intro i m hi h
   have : i = (seqD (cellOf y 15)).length := by omega
   subst this
   refine loopT_step (tab_fit base hk noCS_valid) tab_has noSp_ok (hn := noHn) (adsI := []) (nsI := [([5000],[5000])]) (nsX := []) rfl rfl (keep (b48 κ y (seqD (cellOf y 15)).length m _) ?_)
   have e1 : decide (((seqD (cellOf y 15)).length : Int) < (seqD (cellOf y 15)).length) = false := by simp
   rw [e1]
   rw [List.drop_length] at h
   exact ⟨rfl, h⟩
  | succ k ih =>
   intro i m hi h
   refine loopT_step (tab_fit base hk noCS_valid) tab_has noSp_ok (hn := noHn) (adsI := []) (nsI := [([5000],[5000])]) (nsX := []) rfl rfl (keep (b48 κ y i m _) ?_)
   have e1 : decide ((i : Int) < (seqD (cellOf y 15)).length) = true := by simp; omega
   have hs : (seqD (cellOf y 15)).length ≤ 1152921504606846976 := hsh
   have e2 : IntKind.i64.wrap ((i : Int) + 1) = ((i + 1 : Nat) : Int) := by rw [Go.IntWalk.i64_in _ (by omega)]; omega
   obtain ⟨hf, hlt⟩ := hx _ (getD_mem (xs := seqD (cellOf y 15)) (i := i) (by omega))
   have hv := hf.v
   rw [drop_at (by omega)] at h
   unfold cntL at h
   rw [e1]
   simp only [Int.toNat_natCast, e2, cond_true, hv]
   refine cond_split (fun hb => ?_) (fun hb => ?_)
   ·
    rw [hb] at h
    exact ⟨⟨by omega, by omega, trivial⟩, ⟨hf, hlt⟩, trivial, ih (i + 1) _ (by omega) h⟩
   ·
    rw [hb] at h
    exact ⟨trivial, h⟩
 exact main (seqD (cellOf y 15)).length 0 m (by omega) (by rw [List.drop_zero]; exact h)
theorem k48 : TabOk B T48 := by
 refine add_rec base k49 μ1 (fn := Tryz.f48) (cd := bodyOf Tryz.f48) (sp := fun n => spL [(16, S48 cntE n)]) (hn := noHn) Tryz.func48 (by kernel_rfl) (by kernel_rfl) (fun n hk => specT_cons (c := .loop l48) (by kernel_rfl) (ok48 hk) specT_nil) fun κ ds r hp hm hr => ?_
 unfold c48 at hp hr
 simp only [] at hr hp
 split at hr
 ·
  rename_i x n
  cases hr
  rw [arg2 (FitE.v hp)]
  refine keep (w48 cntE κ x n fun v => v = _) ?_
  rw [cntE_eq]
  unfold cntT
  have hE : IsE (eCells x) := ⟨x, rfl⟩
  have hs : Short (seqD (cellOf x 15)) := (FitE.l hp).2.2
  have ha : ∀ y ∈ seqD (cellOf x 15), FitE y ∧ dsz y < κ := fun y hy => ⟨FitE.a hp y hy, hm ▸ subs_lt hy⟩
  (repeat' (first | with_reducible rfl | (refine cond_split (fun hcw => ?_) (fun hcw => ?_) <;> simp only [hcw, cond_true, cond_false]) | refine and_i ?_ ?_))
  all_goals first | trivial | assumption | exact hE | exact FitE.p hp
 ·
  cases hr
theorem k20 : TabOk B T20 := by
 refine add_body base k48 (fn := Tryz.f20) (cd := bodyOf Tryz.f20) (sp := noSp) (hn := noHn) Tryz.func20 (by kernel_rfl) (by kernel_rfl) noSp_ok fun ds r hp hr => ?_
 unfold c20 at hp hr
 simp only [] at hr hp
 split at hr
 ·
  rename_i x
  cases hr
  rw [arg1 (FitE.v hp)]
  refine keep (w20 x fun v => v = _) ?_
  rw [FitE.v hp]
  exact ⟨hp, rfl⟩
 ·
  cases hr
def anyF (f : D → Bool) (xs : List D) (i : Nat) : Option Bool := bif f (xs.getD i .any) then some true else none
def mBig (y : D) : Bool := bif (bif decide (((strOf (cellOf y 1)).size : Int) > 61) then true else (bif decide (((strOf (cellOf y 2)).size : Int) > 40) then decide (intOf (cellOf y 0) > 2) else false)) then true else decide (((strOf (cellOf y 2)).size : Int) > 201)
noncomputable def l51 : Code := roundOf (pieceAt (bodyOf Tryz.f51) 4)
noncomputable def S51 : Ev.Spec := { L := [0,3], ns := [], L' := [0,2], nm' := [], G := fun N vals bs k => match vals, bs with
 | [.d (.slice b 3 xs), .d (.lit (.int .i64 i))], [] => (N = 46 ∧ i = 0 ∧ Short xs ∧ ∀ y ∈ xs, FitM y) ∧ optE (search (anyF mBig xs) xs.length) (k (.exit 0) [.d (.slice b 3 xs), .any] []) (fun e => k .ret [.d (.slice b 3 xs), lbool e] [])
 | _, _ => False }
theorem b51 (xs : List D) (i : Int) (b : Bool) (R : X → List V → List Box → Prop) : (roundT (Cn T20) T20 noCS 0 noSp noHn l51 46 [0, 3] [] [] [] [0, 2] [] [V.d (D.slice b 3 xs), lint i] [] R) =
 (bif decide (i < (↑xs.length : Int)) then
 ((((0 : Int) ≤ i) ∧ (i.toNat < xs.length ∧ mV (xs.getD i.toNat D.any) = xs.getD i.toNat D.any)) ∧
 (((!decide ((↑(strOf (cellOf (xs.getD i.toNat D.any) 1)).size : Int) > 61) && true) = true → (((0 : Int) ≤ i) ∧ (i.toNat < xs.length ∧ mV (xs.getD i.toNat D.any) = xs.getD i.toNat D.any))) ∧
 (((decide ((↑(strOf (cellOf (xs.getD i.toNat D.any) 2)).size : Int) > 40) &&
 (!decide ((↑(strOf (cellOf (xs.getD i.toNat D.any) 1)).size : Int) > 61) && true)) =
 true → (((0 : Int) ≤ i) ∧ (i.toNat < xs.length ∧ mV (xs.getD i.toNat D.any) = xs.getD i.toNat D.any))) ∧
 ((((!bif decide ((↑(strOf (cellOf (xs.getD i.toNat D.any) 1)).size : Int) > 61) then true
 else
 bif decide ((↑(strOf (cellOf (xs.getD i.toNat D.any) 2)).size : Int) > 40) then
 decide (intOf (cellOf (xs.getD i.toNat D.any) 0) > 2)
 else false) &&
 true) =
 true → (((0 : Int) ≤ i) ∧ (i.toNat < xs.length ∧ mV (xs.getD i.toNat D.any) = xs.getD i.toNat D.any))) ∧
 (bif bif
 bif decide ((↑(strOf (cellOf (xs.getD i.toNat D.any) 1)).size : Int) > 61) then true
 else
 bif decide ((↑(strOf (cellOf (xs.getD i.toNat D.any) 2)).size : Int) > 40) then
 decide (intOf (cellOf (xs.getD i.toNat D.any) 0) > 2)
 else false then
 true
 else decide ((↑(strOf (cellOf (xs.getD i.toNat D.any) 2)).size : Int) > 201) then
 (46 = 46 ∧
 R X.ret [V.d (D.slice b 3 xs), V.d (D.lit (Value.bool true))] []) else
 (46 = 46 ∧
 R X.normal [V.d (D.slice b 3 xs), V.d (D.lit (Value.int IntKind.i64 (IntKind.i64.wrap (i + 1))))] [])))))) else
 (46 = 46 ∧
 R (X.exit 0) [V.d (D.slice b 3 xs), V.any] [])) := by kernel_rfl
theorem w51 (xs : List D) (b : Bool) (p : V → Prop) : (evBodyT (Cn T20) T20 noCS 0 (spL [(4, S51)]) noHn 51 [V.d (D.slice b 3 xs)] Heap.empty fun v H => p (freezeR H v)) =
 ((46 = 46 ∧ (((0 : Int) = 0) ∧ (Short xs ∧ ∀ (y : D), y ∈ xs → FitM y))) ∧
 (match search (anyF mBig xs) xs.length with
 | some y0 =>
 p (V.d (D.lit (Value.bool y0)))
 | none => p (V.d (D.lit (Value.bool (decide ((↑xs.length : Int) > 17))))))) := by kernel_rfl
noncomputable def matchersB (xs : List D) : Bool :=
 (match search (anyF mBig xs) xs.length with
 | some y0 => y0
 | none => (decide ((↑xs.length : Int) > 17)))
noncomputable def c51 : Ct := ⟨fun | [.slice _ z xs] => z = 3 ∧ Short xs ∧ ∀ y ∈ xs, FitM y | _ => False, fun | [.slice _ _ xs] => some (.lit (.bool (matchersB xs))) | _ => none⟩
noncomputable def T51 : Tab := T20.add 51 c51
def nBig (y : D) : Bool := decide (((strOf y).size : Int) > 70)
noncomputable def l52 : Code := roundOf (pieceAt (bodyOf Tryz.f52) 4)
noncomputable def S52 : Ev.Spec := { L := [0,3], ns := [], L' := [0,2], nm' := [], G := fun N vals bs k => match vals, bs with
 | [.d (.slice b 1 xs), .d (.lit (.int .i64 i))], [] => (N = 19 ∧ i = 0 ∧ Short xs ∧ ∀ y ∈ xs, FitN y) ∧ optE (search (anyF nBig xs) xs.length) (k (.exit 0) [.d (.slice b 1 xs), .any] []) (fun e => k .ret [.d (.slice b 1 xs), lbool e] [])
 | _, _ => False }
theorem b52 (xs : List D) (i : Int) (b : Bool) (R : X → List V → List Box → Prop) : (roundT (Cn T51) T51 noCS 0 noSp noHn l52 19 [0, 3] [] [] [] [0, 2] [] [V.d (D.slice b 1 xs), lint i] [] R) =
 (bif decide (i < (↑xs.length : Int)) then
 ((((0 : Int) ≤ i) ∧ (i.toNat < xs.length ∧ D.lit (Value.string (strOf (xs.getD i.toNat D.any))) = xs.getD i.toNat D.any)) ∧
 (bif decide ((↑(strOf (xs.getD i.toNat D.any)).size : Int) > 70) then
 (19 = 19 ∧
 R X.ret [V.d (D.slice b 1 xs), V.d (D.lit (Value.bool true))] []) else
 (19 = 19 ∧
 R X.normal [V.d (D.slice b 1 xs), V.d (D.lit (Value.int IntKind.i64 (IntKind.i64.wrap (i + 1))))] []))) else
 (19 = 19 ∧
 R (X.exit 0) [V.d (D.slice b 1 xs), V.any] [])) := by kernel_rfl
theorem w52 (xs : List D) (b : Bool) (p : V → Prop) : (evBodyT (Cn T51) T51 noCS 0 (spL [(4, S52)]) noHn 52 [V.d (D.slice b 1 xs)] Heap.empty fun v H => p (freezeR H v)) =
 ((19 = 19 ∧ (((0 : Int) = 0) ∧ (Short xs ∧ ∀ (y : D), y ∈ xs → FitN y))) ∧
 (match search (anyF nBig xs) xs.length with
 | some y0 =>
 p (V.d (D.lit (Value.bool y0)))
 | none => p (V.d (D.lit (Value.bool (decide ((↑xs.length : Int) > 17))))))) := by kernel_rfl
noncomputable def namesB (xs : List D) : Bool :=
 (match search (anyF nBig xs) xs.length with
 | some y0 => y0
 | none => (decide ((↑xs.length : Int) > 17)))
noncomputable def c52 : Ct := ⟨fun | [.slice _ z xs] => z = 1 ∧ Short xs ∧ ∀ y ∈ xs, FitN y | _ => False, fun | [.slice _ _ xs] => some (.lit (.bool (namesB xs))) | _ => none⟩
noncomputable def T52 : Tab := T51.add 52 c52
noncomputable def l22 : Code := roundOf (pieceAt (bodyOf Tryz.f22) 8)
theorem b22 (xs : List D) (i : Int) (b : Bool) (R : X → List V → List Box → Prop) : (roundT (Cn T52) T52 noCS 0 noSp noHn l22 45 [0, 3] [] [] [] [2] [] [V.d (D.slice b 4 xs), lint i] [] R) =
 (bif bif decide (i < (↑xs.length : Int)) then decide (i < 12) else false then
 ((((0 : Int) ≤ i) ∧ (i.toNat < xs.length ∧ gV (xs.getD i.toNat D.any) = xs.getD i.toNat D.any)) ∧
 (((!decide ((↑(strOf (cellOf (xs.getD i.toNat D.any) 1)).size : Int) > 210) && true) = true → (((0 : Int) ≤ i) ∧ (i.toNat < xs.length ∧ gV (xs.getD i.toNat D.any) = xs.getD i.toNat D.any))) ∧
 (((!decide ((↑(strOf (cellOf (xs.getD i.toNat D.any) 1)).size : Int) > 210) && true) = true → (3 = 3 ∧ (Short (seqD (cellOf (xs.getD i.toNat D.any) 2)) ∧ ∀ (y : D), y ∈ seqD (cellOf (xs.getD i.toNat D.any) (0 + 1 + 1)) → FitM y))) ∧
 ((((!bif decide ((↑(strOf (cellOf (xs.getD i.toNat D.any) 1)).size : Int) > 210) then true
 else matchersB (seqD (cellOf (xs.getD i.toNat D.any) 2))) &&
 true) =
 true → (((0 : Int) ≤ i) ∧ (i.toNat < xs.length ∧ gV (xs.getD i.toNat D.any) = xs.getD i.toNat D.any))) ∧
 ((((!bif decide ((↑(strOf (cellOf (xs.getD i.toNat D.any) 1)).size : Int) > 210) then true
 else matchersB (seqD (cellOf (xs.getD i.toNat D.any) 2))) &&
 true) =
 true → (1 = 1 ∧ (Short (seqD (cellOf (xs.getD i.toNat D.any) 3)) ∧ ∀ (y : D), y ∈ seqD (cellOf (xs.getD i.toNat D.any) (0 + 1 + 1 + 1)) → FitN y))) ∧
 (bif bif
 bif decide ((↑(strOf (cellOf (xs.getD i.toNat D.any) 1)).size : Int) > 210) then true
 else matchersB (seqD (cellOf (xs.getD i.toNat D.any) 2)) then
 true
 else namesB (seqD (cellOf (xs.getD i.toNat D.any) 3)) then
 (45 = 45 ∧
 R X.ret [V.d (D.lit (Value.bool true))] []) else
 (45 = 45 ∧
 R X.normal [V.d (D.slice b 4 xs), V.d (D.lit (Value.int IntKind.i64 (IntKind.i64.wrap (i + 1))))] []))))))) else
 (45 = 45 ∧
 R (X.exit 0) [V.any] [])) := by kernel_rfl
noncomputable def gBig (y : D) : Bool := bif (bif decide (((strOf (cellOf y 1)).size : Int) > 210) then true else matchersB (seqD (cellOf y 2))) then true else namesB (seqD (cellOf y 3))
noncomputable def S22 : Ev.Spec := { L := [0,3], ns := [], L' := [2], nm' := [], G := fun N vals bs k => match vals, bs with
 | [.d (.slice b 4 xs), .d (.lit (.int .i64 i))], [] => (N = 45 ∧ i = 0 ∧ Short xs ∧ ∀ y ∈ xs, FitG y) ∧ optE (search (anyF gBig xs) (min xs.length 12)) (k (.exit 0) [.any] []) (fun e => k .ret [lbool e] [])
 | _, _ => False }
theorem w22 (xs : List D) (b : Bool) (p : V → Prop) : (evBodyT (Cn T52) T52 noCS 0 (spL [(8, S22)]) noHn 22 [V.d (D.slice b 4 xs)] Heap.empty fun v H => p (freezeR H v)) =
 (bif bif decide ((↑xs.length : Int) > 12) then decide ((↑xs.length : Int) ≤ 100) else false then
 p (V.d (D.lit (Value.bool true))) else
 ((45 = 45 ∧ (((0 : Int) = 0) ∧ (Short xs ∧ ∀ (y : D), y ∈ xs → FitG y))) ∧
 (match search (anyF gBig xs) (min xs.length 12) with
 | some y0 =>
 p (V.d (D.lit (Value.bool y0)))
 | none => p (V.d (D.lit (Value.bool false)))))) := by kernel_rfl
noncomputable def stagesB (xs : List D) : Bool :=
 (bif bif decide ((↑xs.length : Int) > 12) then decide ((↑xs.length : Int) ≤ 100) else false then
 true else
 (match search (anyF gBig xs) (min xs.length 12) with
 | some y0 => y0
 | none => false))
noncomputable def c22 : Ct := ⟨fun | [.slice _ z xs] => z = 4 ∧ Short xs ∧ ∀ y ∈ xs, FitG y | _ => False, fun | [.slice _ _ xs] => some (.lit (.bool (stagesB xs))) | _ => none⟩
noncomputable def T22 : Tab := T52.add 22 c22
theorem ok51 : OkS (Cn T20) 0 (.loop l51) S51 := by
 refine okS_loop fun N vals bs K h => ?_
 simp only [S51] at h
 split at h
 case h_2 => exact h.elim
 rename_i b xs i
 obtain ⟨⟨rfl, rfl, hsh, hall⟩, h⟩ := h
 have hs : xs.length ≤ 1152921504606846976 := hsh
 refine search_loop (tab_fit base k20 noCS_valid) tab_has noSp_ok (hn := noHn) (adsI := []) (nsI := []) (nsX := []) rfl rfl xs.length
  (fun i => [.d (.slice b 3 xs), lint i]) (fun _ => []) (anyF mBig xs) (fun e => (.ret, [.d (.slice b 3 xs), lbool e], [])) (by simp) (.exit 0) [.d (.slice b 3 xs), .any] [] (by simp) ?_ ?_ h
 ·
  intro i R hi hR
  refine keep (b51 xs i b R) ?_
  have e1 : decide ((i : Int) < xs.length) = true := by simp; omega
  have e2 : IntKind.i64.wrap ((i : Int) + 1) = ((i + 1 : Nat) : Int) := by rw [Go.IntWalk.i64_in _ (by omega)]; omega
  have hv := hall _ (getD_mem hi)
  have hg : (0 : Int) ≤ i ∧ i < xs.length ∧ mV (xs.getD i .any) = xs.getD i .any := ⟨by omega, hi, hv⟩
  rw [e1]
  simp only [Int.toNat_natCast, e2, cond_true]
  refine ⟨hg, fun _ => hg, fun _ => hg, fun _ => hg, cond_split (fun h1 => ⟨trivial, ?_⟩) (fun h1 => ⟨trivial, ?_⟩)⟩ <;> (simp only [anyF, mBig, h1, cond_true, cond_false, optE] at hR; exact hR)
 ·
  intro R hR
  refine keep (b51 xs xs.length b R) ?_
  have e1 : decide ((xs.length : Int) < xs.length) = false := by simp
  rw [e1]
  exact ⟨rfl, hR⟩
theorem k51 : TabOk B T51 := by
 refine add_body base k20 (fn := Tryz.f51) (cd := bodyOf Tryz.f51) (sp := spL [(4, S51)]) (hn := noHn) Tryz.func51 (by kernel_rfl) (by kernel_rfl) (specT_cons (c := .loop l51) (by kernel_rfl) ok51 specT_nil) fun ds r hp hr => ?_
 unfold c51 at hp hr
 simp only [] at hr hp
 split at hr
 ·
  rename_i b z xs
  cases hr
  obtain ⟨rfl, hs, hall⟩ := hp
  refine keep (w51 xs b fun v => v = _) ?_
  unfold matchersB
  refine ⟨⟨rfl, rfl, hs, hall⟩, ?_⟩
  cases search (anyF mBig xs) xs.length <;> rfl
 ·
  cases hr
theorem ok52 : OkS (Cn T51) 0 (.loop l52) S52 := by
 refine okS_loop fun N vals bs K h => ?_
 simp only [S52] at h
 split at h
 case h_2 => exact h.elim
 rename_i b xs i
 obtain ⟨⟨rfl, rfl, hsh, hall⟩, h⟩ := h
 have hs : xs.length ≤ 1152921504606846976 := hsh
 refine search_loop (tab_fit base k51 noCS_valid) tab_has noSp_ok (hn := noHn) (adsI := []) (nsI := []) (nsX := []) rfl rfl xs.length
  (fun i => [.d (.slice b 1 xs), lint i]) (fun _ => []) (anyF nBig xs) (fun e => (.ret, [.d (.slice b 1 xs), lbool e], [])) (by simp) (.exit 0) [.d (.slice b 1 xs), .any] [] (by simp) ?_ ?_ h
 ·
  intro i R hi hR
  refine keep (b52 xs i b R) ?_
  have e1 : decide ((i : Int) < xs.length) = true := by simp; omega
  have e2 : IntKind.i64.wrap ((i : Int) + 1) = ((i + 1 : Nat) : Int) := by rw [Go.IntWalk.i64_in _ (by omega)]; omega
  have hv := hall _ (getD_mem hi)
  have hg : (0 : Int) ≤ i ∧ i < xs.length ∧ D.lit (Value.string (strOf (xs.getD i .any))) = xs.getD i .any := ⟨by omega, hi, hv⟩
  rw [e1]
  simp only [Int.toNat_natCast, e2, cond_true]
  refine ⟨hg, cond_split (fun h1 => ⟨trivial, ?_⟩) (fun h1 => ⟨trivial, ?_⟩)⟩ <;> (simp only [anyF, nBig, h1, cond_true, cond_false, optE] at hR; exact hR)
 ·
  intro R hR
  refine keep (b52 xs xs.length b R) ?_
  have e1 : decide ((xs.length : Int) < xs.length) = false := by simp
  rw [e1]
  exact ⟨rfl, hR⟩
theorem k52 : TabOk B T52 := by
 refine add_body base k51 (fn := Tryz.f52) (cd := bodyOf Tryz.f52) (sp := spL [(4, S52)]) (hn := noHn) Tryz.func52 (by kernel_rfl) (by kernel_rfl) (specT_cons (c := .loop l52) (by kernel_rfl) ok52 specT_nil) fun ds r hp hr => ?_
 unfold c52 at hp hr
 simp only [] at hr hp
 split at hr
 ·
  rename_i b z xs
  cases hr
  obtain ⟨rfl, hs, hall⟩ := hp
  refine keep (w52 xs b fun v => v = _) ?_
  unfold namesB
  refine ⟨⟨rfl, rfl, hs, hall⟩, ?_⟩
  cases search (anyF nBig xs) xs.length <;> rfl
 ·
  cases hr
theorem ok22 : OkS (Cn T52) 0 (.loop l22) S22 := by
 refine okS_loop fun N vals bs K h => ?_
 simp only [S22] at h
 split at h
 case h_2 => exact h.elim
 rename_i b xs i
 obtain ⟨⟨rfl, rfl, hsh, hall⟩, h⟩ := h
 have hs : xs.length ≤ 1152921504606846976 := hsh
 refine search_loop (tab_fit base k52 noCS_valid) tab_has noSp_ok (hn := noHn) (adsI := []) (nsI := []) (nsX := []) rfl rfl (min xs.length 12)
  (fun i => [.d (.slice b 4 xs), lint i]) (fun _ => []) (anyF gBig xs) (fun e => (.ret, [lbool e], [])) (by simp) (.exit 0) [.any] [] (by simp) ?_ ?_ h
 ·
  intro i R hi hR
  have hi' : i < xs.length := by omega
  refine keep (b22 xs i b R) ?_
  have e1 : decide ((i : Int) < xs.length) = true := by simp; omega
  have e0 : decide ((i : Int) < 12) = true := by simp; omega
  have e2 : IntKind.i64.wrap ((i : Int) + 1) = ((i + 1 : Nat) : Int) := by rw [Go.IntWalk.i64_in _ (by omega)]; omega
  have hv := hall _ (getD_mem hi')
  have hg : (0 : Int) ≤ i ∧ i < xs.length ∧ gV (xs.getD i .any) = xs.getD i .any := ⟨by omega, hi', hv.v⟩
  rw [e1, e0]
  simp only [Int.toNat_natCast, e2, cond_true]
  refine ⟨hg, fun _ => hg, fun _ => ⟨trivial, hv.ml, hv.m⟩, fun _ => hg, fun _ => ⟨trivial, hv.nl, hv.n⟩, cond_split (fun h1 => ⟨trivial, ?_⟩) (fun h1 => ⟨trivial, ?_⟩)⟩ <;> (simp only [anyF, gBig, h1, cond_true, cond_false, optE] at hR; exact hR)
 ·
  intro R hR
  refine keep (b22 xs (min xs.length 12 : Nat) b R) ?_
  have e1 : (bif decide (((min xs.length 12 : Nat) : Int) < xs.length) then decide (((min xs.length 12 : Nat) : Int) < 12) else false) = false := by
   by_cases h : xs.length ≤ 12
   ·
    have : decide (((min xs.length 12 : Nat) : Int) < xs.length) = false := by simp; omega
    rw [this]; rfl
   ·
    have : decide (((min xs.length 12 : Nat) : Int) < 12) = false := by simp; omega
    rw [this]; cases decide (((min xs.length 12 : Nat) : Int) < xs.length) <;> rfl
  rw [e1]
  exact ⟨rfl, hR⟩
theorem k22 : TabOk B T22 := by
 refine add_body base k52 (fn := Tryz.f22) (cd := bodyOf Tryz.f22) (sp := spL [(8, S22)]) (hn := noHn) Tryz.func22 (by kernel_rfl) (by kernel_rfl) (specT_cons (c := .loop l22) (by kernel_rfl) ok22 specT_nil) fun ds r hp hr => ?_
 unfold c22 at hp hr
 simp only [] at hr hp
 split at hr
 ·
  rename_i b z xs
  cases hr
  obtain ⟨rfl, hs, hall⟩ := hp
  refine keep (w22 xs b fun v => v = _) ?_
  unfold stagesB
  generalize search (anyF gBig xs) (min xs.length 12) = o1
  cases o1 <;> (repeat' (first | with_reducible rfl | (refine cond_split (fun hcw => ?_) (fun hcw => ?_) <;> simp only [hcw, cond_true, cond_false]) | refine and_i ?_ ?_))
  all_goals first | trivial | assumption
 ·
  cases hr
noncomputable def cBig (y : D) : Bool := bif decide (((strOf (cellOf y 2)).size : Int) > 210) then true else decide (((strOf (cellOf y 0)).size : Int) > 100)
noncomputable def gpT (rec : D → Bool) (y : D) : Bool :=
 (bif decide ((↑(seqD (cellOf y 1)).length : Int) > 17) then
 true else
 (match search (anyF cBig (seqD (cellOf y 1))) (seqD (cellOf y 1)).length with
 | some y1 => y1
 | none => (match search (anyF rec (seqD (cellOf y 2))) (seqD (cellOf y 2)).length with
 | some y0 => y0
 | none => false)))
noncomputable def gpE (y : D) : Bool := fixD gpT false (dsz y + 1) y
noncomputable def c50 : Ct := ⟨fun | [x] => FitP x | _ => False, fun | [x] => some (.lit (.bool (gpE x))) | _ => none⟩
noncomputable def U50 (κ : Nat) : Tab := T22.add 50 (c50.below μ1 κ)
noncomputable def T50 : Tab := T22.add 50 c50
noncomputable def l50a : Code := roundOf (pieceAt (bodyOf Tryz.f50) 8)
noncomputable def l50b : Code := roundOf (pieceAt (bodyOf Tryz.f50) 18)
noncomputable def S50a : Ev.Spec := { L := [1,3], ns := [([5000],[3])], L' := [1,2], nm' := [[5000]], G := fun N vals bs k => match vals, bs with
 | [.ptr [5000] 0, .d (.lit (.int .i64 i))], [.cells 30 [.d (.lit (.int .i64 q)), .d (.slice b1 4 cs), .d (.slice b2 3 xs)]] => (N = 47 ∧ i = 0 ∧ Short cs ∧ ∀ y ∈ cs, FitC y) ∧ optE (search (anyF cBig cs) cs.length) (k (.exit 0) [.ptr [5000] 0, .any] [pBox q b1 cs b2 xs]) (fun e => k .ret [.ptr [5000] 0, lbool e] [pBox q b1 cs b2 xs])
 | _, _ => False }
noncomputable def S50b (rec : D → Bool) (κ : Nat) : Ev.Spec := { L := [1,4], ns := [([5000],[5000])], L' := [2], nm' := [], G := fun N vals bs k => match vals, bs with
 | [.ptr [5000] 0, .d (.lit (.int .i64 i))], [.cells 30 [.d (.lit (.int .i64 q)), .d (.slice b1 4 cs), .d (.slice b2 3 xs)]] => (N = 47 ∧ rec = gpE ∧ i = 0 ∧ Short xs ∧ ∀ y ∈ xs, FitP y ∧ dsz y < κ) ∧ optE (search (anyF rec xs) xs.length) (k (.exit 2) [.any] []) (fun e => k .ret [lbool e] [])
 | _, _ => False }
theorem b50a (κ : Nat) (q : Int) (cs : List D) (xs : List D) (b1 : Bool) (b2 : Bool) (i : Int) (R : X → List V → List Box → Prop) : (roundT (Cn (U50 κ)) (U50 κ) noCS 0 noSp noHn l50a 47 [1, 3] [[5000]] [] [([5000], [5000])] [1, 2] [([5000], [5000])]
 [V.ptr [5000] 0, lint i] [pBox q b1 cs b2 xs] R) =
 (bif decide (i < (↑cs.length : Int)) then
 ((((0 : Int) ≤ i) ∧ (i.toNat < cs.length ∧ cV (cs.getD i.toNat D.any) = cs.getD i.toNat D.any)) ∧
 (((!decide ((↑(strOf (cellOf (cs.getD i.toNat D.any) 2)).size : Int) > 210) && true) = true → (((0 : Int) ≤ i) ∧ (i.toNat < cs.length ∧ cV (cs.getD i.toNat D.any) = cs.getD i.toNat D.any))) ∧
 (bif bif decide ((↑(strOf (cellOf (cs.getD i.toNat D.any) 2)).size : Int) > 210) then true
 else decide ((↑(strOf (cellOf (cs.getD i.toNat D.any) 0)).size : Int) > 100) then
 (47 = 47 ∧
 R X.ret [V.ptr [5000] 0, V.d (D.lit (Value.bool true))]
 [Box.cells 30 [V.d (D.lit (Value.int IntKind.i64 q)), V.d (D.slice b1 4 cs), V.d (D.slice b2 3 xs)]]) else
 (47 = 47 ∧
 R X.normal [V.ptr [5000] 0, V.d (D.lit (Value.int IntKind.i64 (IntKind.i64.wrap (i + 1))))]
 [Box.cells 30 [V.d (D.lit (Value.int IntKind.i64 q)), V.d (D.slice b1 4 cs), V.d (D.slice b2 3 xs)]])))) else
 (47 = 47 ∧
 R (X.exit 0) [V.ptr [5000] 0, V.any]
 [Box.cells 30 [V.d (D.lit (Value.int IntKind.i64 q)), V.d (D.slice b1 4 cs), V.d (D.slice b2 3 xs)]])) := by kernel_rfl
theorem b50b (κ : Nat) (q : Int) (cs : List D) (xs : List D) (b1 : Bool) (b2 : Bool) (i : Int) (R : X → List V → List Box → Prop) : (roundT (Cn (U50 κ)) (U50 κ) noCS 0 noSp noHn l50b 47 [1, 4] [[5000]] [] [([5000], [5000])] [2] []
 [V.ptr [5000] 0, lint i] [pBox q b1 cs b2 xs] R) =
 (bif decide (i < (↑xs.length : Int)) then
 ((((0 : Int) ≤ i) ∧ (i.toNat < xs.length ∧ pV (xs.getD i.toNat D.any) = xs.getD i.toNat D.any)) ∧
 ((FitP (pV (xs.getD i.toNat D.any)) ∧ μ1 [pV (xs.getD i.toNat D.any)] < κ) ∧
 (bif gpE (pV (xs.getD i.toNat D.any)) then
 (47 = 47 ∧
 R X.ret [V.d (D.lit (Value.bool true))] []) else
 (47 = 47 ∧
 R X.normal [V.ptr [5000] 0, V.d (D.lit (Value.int IntKind.i64 (IntKind.i64.wrap (i + 1))))]
 [Box.cells 30 [V.d (D.lit (Value.int IntKind.i64 q)), V.d (D.slice b1 4 cs), V.d (D.slice b2 3 xs)]])))) else
 (47 = 47 ∧
 R (X.exit 2) [V.any] [])) := by kernel_rfl
theorem w50 (rec : D → Bool) (κ : Nat) (y : D) (p : V → Prop) : (evBodyT (Cn (U50 κ)) (U50 κ) noCS 0 (spL [(8, S50a), (18, S50b rec κ)]) noHn 50 [V.d (pV y)] Heap.empty fun v H =>
 p (freezeR H v)) =
 (bif decide ((↑(seqD (cellOf y 1)).length : Int) > 17) then
 p (V.d (D.lit (Value.bool true))) else
 ((47 = 47 ∧ (((0 : Int) = 0) ∧ (Short (seqD (cellOf y 1)) ∧ ∀ (y_1 : D), y_1 ∈ seqD (cellOf y 1) → FitC y_1))) ∧
 (match search (anyF cBig (seqD (cellOf y 1))) (seqD (cellOf y 1)).length with
 | some y1 =>
 p (V.d (D.lit (Value.bool y1)))
 | none => ((47 = 47 ∧ (rec = gpE ∧ (((0 : Int) = 0) ∧ (Short (seqD (cellOf y 2)) ∧ ∀ (y_1 : D), y_1 ∈ seqD (cellOf y 2) → FitP y_1 ∧ dsz y_1 < κ)))) ∧
 (match search (anyF rec (seqD (cellOf y 2))) (seqD (cellOf y 2)).length with
 | some y0 =>
 p (V.d (D.lit (Value.bool y0)))
 | none => p (V.d (D.lit (Value.bool false)))))))) := by kernel_rfl
noncomputable def goT (rec : D → Bool) (y : D) : Bool :=
 (bif bif
 bif
 bif bif decide ((↑(strOf (cellOf y 14)).size : Int) > 210) then true else matchersB (seqD (cellOf y 2)) then
 true
 else namesB (seqD (cellOf y 7)) then
 true
 else stagesB (seqD (cellOf y 10)) then
 true
 else gpE (paV y) then
 true else
 (match search (anyF rec (seqD (cellOf y 15))) (seqD (cellOf y 15)).length with
 | some y0 => y0
 | none => false))
noncomputable def goE (y : D) : Bool := fixD goT false (dsz y + 1) y
noncomputable def c38 : Ct := ⟨fun | [x] => FitE x | _ => False, fun | [x] => some (.lit (.bool (goE x))) | _ => none⟩
noncomputable def U38 (κ : Nat) : Tab := T50.add 38 (c38.below μ1 κ)
noncomputable def T38 : Tab := T50.add 38 c38
noncomputable def l38 : Code := roundOf (pieceAt (bodyOf Tryz.f38) 8)
noncomputable def S38 (rec : D → Bool) (κ : Nat) : Ev.Spec := { L := [1,3], ns := [([5000],[3])], L' := [2], nm' := [], G := fun N vals bs k => match vals, bs with
 | [.ptr [5000] 0, .d (.lit (.int .i64 i))], [.cells 33 [a0, a1, a2, a3, a4, a5, a6, a7, a8, a9, a10, a11, a12, a13, a14, .d (.slice b 16 xs)]] => (IsE [a0, a1, a2, a3, a4, a5, a6, a7, a8, a9, a10, a11, a12, a13, a14, .d (.slice b 16 xs)] ∧ N = 41 ∧ rec = goE ∧ i = 0 ∧ Short xs ∧ ∀ y ∈ xs, FitE y ∧ dsz y < κ) ∧ optE (search (anyF rec xs) xs.length) (k (.exit 0) [.any] []) (fun e => k .ret [lbool e] [])
 | _, _ => False }
theorem b38 (κ : Nat) (y : D) (i : Int) (R : X → List V → List Box → Prop) : (roundT (Cn (U38 κ)) (U38 κ) noCS 0 noSp noHn l38 41 [1, 3] [[5000]] [] [([5000], [5000])] [2] []
 [V.ptr [5000] 0, lint i] [eBox y] R) =
 (bif decide (i < (↑(seqD (cellOf y 15)).length : Int)) then
 ((((0 : Int) ≤ i) ∧ (i.toNat < (seqD (cellOf y 15)).length ∧ eV ((seqD (cellOf y 15)).getD i.toNat D.any) = (seqD (cellOf y 15)).getD i.toNat D.any)) ∧
 ((FitE (eV ((seqD (cellOf y 15)).getD i.toNat D.any)) ∧ μ1 [eV ((seqD (cellOf y 15)).getD i.toNat D.any)] < κ) ∧
 (bif goE (eV ((seqD (cellOf y 15)).getD i.toNat D.any)) then
 (41 = 41 ∧
 R X.ret [V.d (D.lit (Value.bool true))] []) else
 (41 = 41 ∧
 R X.normal [V.ptr [5000] 0, V.d (D.lit (Value.int IntKind.i64 (IntKind.i64.wrap (i + 1))))]
 [eBox y])))) else
 (41 = 41 ∧
 R (X.exit 0) [V.any] [])) := by kernel_rfl
theorem w38 (rec : D → Bool) (κ : Nat) (y : D) (p : V → Prop) : (evBodyT (Cn (U38 κ)) (U38 κ) noCS 0 (spL [(8, S38 rec κ)]) noHn 38 [V.d (eV y)] Heap.empty fun v H => p (freezeR H v)) =
 (((!decide ((↑(strOf (cellOf y 14)).size : Int) > 210) && true) = true → (3 = 3 ∧ (Short (seqD (cellOf y 2)) ∧ ∀ (y_1 : D), y_1 ∈ seqD (cellOf y 2) → FitM y_1))) ∧
 ((((!bif decide ((↑(strOf (cellOf y 14)).size : Int) > 210) then true else matchersB (seqD (cellOf y 2))) && true) = true → (1 = 1 ∧ (Short (seqD (cellOf y 7)) ∧ ∀ (y_1 : D), y_1 ∈ seqD (cellOf y 7) → FitN y_1))) ∧
 ((((!bif bif decide ((↑(strOf (cellOf y 14)).size : Int) > 210) then true else matchersB (seqD (cellOf y 2)) then true
 else namesB (seqD (cellOf y 7))) &&
 true) =
 true → (4 = 4 ∧ (Short (seqD (cellOf y 10)) ∧ ∀ (y_1 : D), y_1 ∈ seqD (cellOf y 10) → FitG y_1))) ∧
 ((((!bif
 bif bif decide ((↑(strOf (cellOf y 14)).size : Int) > 210) then true else matchersB (seqD (cellOf y 2)) then
 true
 else namesB (seqD (cellOf y 7)) then
 true
 else stagesB (seqD (cellOf y 10))) &&
 true) =
 true → FitP (paV y)) ∧
 (bif bif
 bif
 bif bif decide ((↑(strOf (cellOf y 14)).size : Int) > 210) then true else matchersB (seqD (cellOf y 2)) then
 true
 else namesB (seqD (cellOf y 7)) then
 true
 else stagesB (seqD (cellOf y 10)) then
 true
 else gpE (paV y) then
 p (V.d (D.lit (Value.bool true))) else
 ((IsE (eCells y) ∧ (41 = 41 ∧ (rec = goE ∧ (((0 : Int) = 0) ∧ (Short (seqD (cellOf y 15)) ∧ ∀ (y_1 : D), y_1 ∈ seqD (cellOf y 15) → FitE y_1 ∧ dsz y_1 < κ))))) ∧
 (match search (anyF rec (seqD (cellOf y 15))) (seqD (cellOf y 15)).length with
 | some y0 =>
 p (V.d (D.lit (Value.bool y0)))
 | none => p (V.d (D.lit (Value.bool false)))))))))) := by kernel_rfl
theorem w13 (y : D) (p : V → Prop) : (evBodyT (Cn T38) T38 noCS 0 noSp noHn 13 [V.d (eV y)] Heap.empty fun v H => p (freezeR H v)) =
 (FitE (eV y) ∧
 (((!decide
 ((bif false then if 101 > cntE (eV y) 0 then 101 else cntE (eV y) 0
 else if 101 < cntE (eV y) 0 then 101 else cntE (eV y) 0) >
 20) &&
 (decide
 ((bif false then if 101 > cntE (eV y) 0 then 101 else cntE (eV y) 0
 else if 101 < cntE (eV y) 0 then 101 else cntE (eV y) 0) ≤
 100) &&
 true)) =
 true → FitE (eV y)) ∧
 p
 (V.d
 (D.lit
 (Value.bool
 (bif
 decide
 ((bif false then if 101 > cntE (eV y) 0 then 101 else cntE (eV y) 0
 else if 101 < cntE (eV y) 0 then 101 else cntE (eV y) 0) ≤
 100) then
 bif
 decide
 ((bif false then if 101 > cntE (eV y) 0 then 101 else cntE (eV y) 0
 else if 101 < cntE (eV y) 0 then 101 else cntE (eV y) 0) >
 20) then
 true
 else goE (eV y)
 else false)))))) := by kernel_rfl
noncomputable def greatB (y : D) : Bool :=
 (bif
 decide
 ((bif false then if 101 > cntE (eV y) 0 then 101 else cntE (eV y) 0
 else if 101 < cntE (eV y) 0 then 101 else cntE (eV y) 0) ≤
 100) then
 bif
 decide
 ((bif false then if 101 > cntE (eV y) 0 then 101 else cntE (eV y) 0
 else if 101 < cntE (eV y) 0 then 101 else cntE (eV y) 0) >
 20) then
 true
 else goE (eV y)
 else false)
noncomputable def c13 : Ct := ⟨fun | [x] => FitE x | _ => False, fun | [x] => some (.lit (.bool (greatB x))) | _ => none⟩
noncomputable def T13 : Tab := T38.add 13 c13
theorem anyF_congr {f g : D → Bool} {xs : List D} (h : ∀ a ∈ xs, f a = g a) : search (anyF f xs) xs.length = search (anyF g xs) xs.length := by
 have key : ∀ n i, i + n ≤ xs.length → rounds (fun i _ => ofOpt (anyF f xs i)) n i () = rounds (fun i _ => ofOpt (anyF g xs i)) n i () := by
  intro n
  induction n with
  | zero => intro i _; rfl
  | succ n ih =>
   intro i hi
   unfold rounds
   have e : anyF f xs i = anyF g xs i := by unfold anyF; rw [h _ (getD_mem (by omega))]
   simp only [e]
   cases ofOpt (anyF g xs i) with
   | inl _ => exact ih (i + 1) (by omega)
   | inr _ => rfl
 unfold search
 rw [key _ 0 (by omega)]
theorem gpT_congr (r r' : D → Bool) (y : D) (h : ∀ a ∈ subs y 2, r a = r' a) : gpT r y = gpT r' y := by
 unfold gpT
 rw [anyF_congr h]
theorem gpE_eq (y : D) : gpE y = gpT gpE y := fixD_step gpT_congr y
theorem goT_congr (r r' : D → Bool) (y : D) (h : ∀ a ∈ subs y 15, r a = r' a) : goT r y = goT r' y := by
 unfold goT
 rw [anyF_congr h]
theorem goE_eq (y : D) : goE y = goT goE y := fixD_step goT_congr y
theorem ok50a {κ : Nat} (hk : TabOk B (U50 κ)) : OkS (Cn (U50 κ)) 0 (.loop l50a) S50a := by
 refine okS_loop fun N vals bs K h => ?_
 simp only [S50a] at h
 split at h
 case h_2 => exact h.elim
 rename_i i q b1 cs b2 xs
 obtain ⟨⟨rfl, rfl, hsh, hall⟩, h⟩ := h
 have hs : cs.length ≤ 1152921504606846976 := hsh
 refine search_loop (tab_fit base hk noCS_valid) tab_has noSp_ok (hn := noHn) (adsI := []) (nsI := [([5000],[5000])]) (nsX := [([5000],[5000])]) rfl rfl cs.length
  (fun i => [.ptr [5000] 0, lint i]) (fun _ => [pBox q b1 cs b2 xs]) (anyF cBig cs) (fun e => (.ret, [.ptr [5000] 0, lbool e], [pBox q b1 cs b2 xs])) (by simp) (.exit 0) [.ptr [5000] 0, .any] [pBox q b1 cs b2 xs] (by simp) ?_ ?_ h
 ·
  intro i R hi hR
  refine keep (b50a κ q cs xs b1 b2 i R) ?_
  have e1 : decide ((i : Int) < cs.length) = true := by simp; omega
  have e2 : IntKind.i64.wrap ((i : Int) + 1) = ((i + 1 : Nat) : Int) := by rw [Go.IntWalk.i64_in _ (by omega)]; omega
  have hg : (0 : Int) ≤ i ∧ i < cs.length ∧ cV (cs.getD i .any) = cs.getD i .any := ⟨by omega, hi, hall _ (getD_mem hi)⟩
  rw [e1]
  simp only [Int.toNat_natCast, e2, cond_true]
  refine ⟨hg, fun _ => hg, cond_split (fun h1 => ⟨trivial, ?_⟩) (fun h1 => ⟨trivial, ?_⟩)⟩ <;> (simp only [anyF, cBig, h1, cond_true, cond_false, optE] at hR; exact hR)
 ·
  intro R hR
  refine keep (b50a κ q cs xs b1 b2 cs.length R) ?_
  have e1 : decide ((cs.length : Int) < cs.length) = false := by simp
  rw [e1]
  exact ⟨rfl, hR⟩
theorem ok50b {κ : Nat} (hk : TabOk B (U50 κ)) : OkS (Cn (U50 κ)) 0 (.loop l50b) (S50b gpE κ) := by
 refine okS_loop fun N vals bs K h => ?_
 simp only [S50b] at h
 split at h
 case h_2 => exact h.elim
 rename_i i q b1 cs b2 xs
 obtain ⟨⟨rfl, _, rfl, hsh, hall⟩, h⟩ := h
 have hs : xs.length ≤ 1152921504606846976 := hsh
 refine search_loop (tab_fit base hk noCS_valid) tab_has noSp_ok (hn := noHn) (adsI := []) (nsI := [([5000],[5000])]) (nsX := []) rfl rfl xs.length
  (fun i => [.ptr [5000] 0, lint i]) (fun _ => [pBox q b1 cs b2 xs]) (anyF gpE xs) (fun e => (.ret, [lbool e], [])) (by simp) (.exit 2) [.any] [] (by simp) ?_ ?_ h
 ·
  intro i R hi hR
  refine keep (b50b κ q cs xs b1 b2 i R) ?_
  have e1 : decide ((i : Int) < xs.length) = true := by simp; omega
  have e2 : IntKind.i64.wrap ((i : Int) + 1) = ((i + 1 : Nat) : Int) := by rw [Go.IntWalk.i64_in _ (by omega)]; omega
  obtain ⟨hv, hlt⟩ := hall _ (getD_mem hi)
  rw [e1]
  simp only [Int.toNat_natCast, e2, cond_true, hv.v]
  refine ⟨⟨by omega, hi, trivial⟩, ⟨hv, hlt⟩, cond_split (fun h1 => ⟨trivial, ?_⟩) (fun h1 => ⟨trivial, ?_⟩)⟩ <;> (simp only [anyF, h1, cond_true, cond_false, optE] at hR; exact hR)
 ·
  intro R hR
  refine keep (b50b κ q cs xs b1 b2 xs.length R) ?_
  have e1 : decide ((xs.length : Int) < xs.length) = false := by simp
  rw [e1]
  exact ⟨rfl, hR⟩
theorem k50 : TabOk B T50 := by
 refine add_rec base k22 μ1 (fn := Tryz.f50) (cd := bodyOf Tryz.f50) (sp := fun n => spL [(8, S50a), (18, S50b gpE n)]) (hn := noHn) Tryz.func50 (by kernel_rfl) (by kernel_rfl) (fun n hk => specT_cons (c := .loop l50a) (by kernel_rfl) (ok50a hk) (specT_cons (c := .loop l50b) (by kernel_rfl) (ok50b hk) specT_nil)) fun κ ds r hp hm hr => ?_
 unfold c50 at hp hr
 simp only [] at hr hp
 split at hr
 ·
  rename_i x
  cases hr
  rw [arg1 (FitP.v hp)]
  refine keep (w50 gpE κ x fun v => v = _) ?_
  rw [gpE_eq]
  unfold gpT
  have hc : ∀ y ∈ seqD (cellOf x 1), FitC y := FitP.c hp
  have h1 : Short (seqD (cellOf x 1)) := (FitP.l hp).1
  have h2 : Short (seqD (cellOf x 2)) := (FitP.l hp).2
  have ha : ∀ y ∈ seqD (cellOf x 2), FitP y ∧ dsz y < κ := fun y hy => ⟨FitP.a hp y hy, hm ▸ subs_lt hy⟩
  generalize search (anyF cBig (seqD (cellOf x 1))) (seqD (cellOf x 1)).length = o1
  generalize search (anyF gpE (seqD (cellOf x 2))) (seqD (cellOf x 2)).length = o2
  cases o1 <;> cases o2 <;> (repeat' (first | with_reducible rfl | (refine cond_split (fun hcw => ?_) (fun hcw => ?_) <;> simp only [hcw, cond_true, cond_false]) | refine and_i ?_ ?_))
  all_goals first | trivial | assumption
 ·
  cases hr
theorem ok38 {κ : Nat} (hk : TabOk B (U38 κ)) : OkS (Cn (U38 κ)) 0 (.loop l38) (S38 goE κ) := by
 refine okS_loop fun N vals bs K h => ?_
 simp only [S38] at h
 split at h
 case h_2 => exact h.elim
 rename_i i a0 a1 a2 a3 a4 a5 a6 a7 a8 a9 a10 a11 a12 a13 a14 b xs
 obtain ⟨⟨⟨y, hy⟩, rfl, _, rfl, hsh, hall⟩, h⟩ := h
 have hxs : xs = seqD (cellOf y 15) := by
  have := congrArg (fun l : List V => l.getD 15 .any) hy
  simp at this
  exact this.2
 rw [hy]
 subst hxs
 have hs : (seqD (cellOf y 15)).length ≤ 1152921504606846976 := hsh
 refine search_loop (tab_fit base hk noCS_valid) tab_has noSp_ok (hn := noHn) (adsI := []) (nsI := [([5000],[5000])]) (nsX := []) rfl rfl (seqD (cellOf y 15)).length
  (fun i => [.ptr [5000] 0, lint i]) (fun _ => [eBox y]) (anyF goE (seqD (cellOf y 15))) (fun e => (.ret, [lbool e], [])) (by simp) (.exit 0) [.any] [] (by simp) ?_ ?_ h
 ·
  intro i R hi hR
  refine keep (b38 κ y i R) ?_
  have e1 : decide ((i : Int) < (seqD (cellOf y 15)).length) = true := by simp; omega
  have e2 : IntKind.i64.wrap ((i : Int) + 1) = ((i + 1 : Nat) : Int) := by rw [Go.IntWalk.i64_in _ (by omega)]; omega
  obtain ⟨hv, hlt⟩ := hall _ (getD_mem hi)
  rw [e1]
  simp only [Int.toNat_natCast, e2, cond_true, hv.v]
  refine ⟨⟨by omega, hi, trivial⟩, ⟨hv, hlt⟩, cond_split (fun h1 => ⟨trivial, ?_⟩) (fun h1 => ⟨trivial, ?_⟩)⟩ <;> (simp only [anyF, h1, cond_true, cond_false, optE] at hR; exact hR)
 ·
  intro R hR
  refine keep (b38 κ y (seqD (cellOf y 15)).length R) ?_
  have e1 : decide (((seqD (cellOf y 15)).length : Int) < (seqD (cellOf y 15)).length) = false := by simp
  rw [e1]
  exact ⟨rfl, hR⟩
theorem k38 : TabOk B T38 := by
 refine add_rec base k50 μ1 (fn := Tryz.f38) (cd := bodyOf Tryz.f38) (sp := fun n => spL [(8, S38 goE n)]) (hn := noHn) Tryz.func38 (by kernel_rfl) (by kernel_rfl) (fun n hk => specT_cons (c := .loop l38) (by kernel_rfl) (ok38 hk) specT_nil) fun κ ds r hp hm hr => ?_
 unfold c38 at hp hr
 simp only [] at hr hp
 split at hr
 ·
  rename_i x
  cases hr
  rw [arg1 (FitE.v hp)]
  refine keep (w38 goE κ x fun v => v = _) ?_
  rw [goE_eq]
  unfold goT
  have hE : IsE (eCells x) := ⟨x, rfl⟩
  obtain ⟨⟨s1, s2⟩, s3, s4⟩ := FitE.l hp
  have hm' : ∀ y ∈ seqD (cellOf x 2), FitM y := FitE.m hp
  have hn : ∀ y ∈ seqD (cellOf x 7), FitN y := FitE.n hp
  have hs : ∀ y ∈ seqD (cellOf x 10), FitG y := FitE.s hp
  have hpp := FitE.p hp
  have ha : ∀ y ∈ seqD (cellOf x 15), FitE y ∧ dsz y < κ := fun y hy => ⟨FitE.a hp y hy, hm ▸ subs_lt hy⟩
  generalize search (anyF goE (seqD (cellOf x 15))) (seqD (cellOf x 15)).length = o1
  cases o1 <;> (repeat' (first | with_reducible rfl | (refine cond_split (fun hcw => ?_) (fun hcw => ?_) <;> simp only [hcw, cond_true, cond_false]) | refine and_i ?_ ?_))
  all_goals first | trivial | assumption | exact hE | (intro _; first | assumption | exact ⟨rfl, by assumption, by assumption⟩)
 ·
  cases hr
theorem k13 : TabOk B T13 := by
 refine add_body base k38 (fn := Tryz.f13) (cd := bodyOf Tryz.f13) (sp := noSp) (hn := noHn) Tryz.func13 (by kernel_rfl) (by kernel_rfl) noSp_ok fun ds r hp hr => ?_
 unfold c13 at hp hr
 simp only [] at hr hp
 split at hr
 ·
  rename_i x
  cases hr
  rw [arg1 (FitE.v hp)]
  refine keep (w13 x fun v => v = _) ?_
  unfold greatB
  rw [FitE.v hp]
  exact ⟨hp, fun _ => hp, rfl⟩
 ·
  cases hr
noncomputable def c14 : Ct := ⟨fun | [] => True | _ => False, fun | [] => some (.lit (.bool true)) | _ => none⟩
noncomputable def T14 : Tab := T13.add 14 c14
noncomputable def l9 : Code := roundOf (pieceAt (bodyOf Tryz.f9) 16)
theorem b9 (y : D) (e : Int) (s : Int) (xs : List D) (i : Int) (n : Int) (b : Bool) (R : X → List V → List Box → Prop) : (roundT (Cn T14) T14 noCS 0 noSp noHn l9 75 [1, 4, 5, 37, 38, 39] [[5000]] [] [([5000], [5000])] [1, 5, 2]
 [([5000], [5000])] [V.ptr [5000] 0, lint e, lint s, V.d (D.slice b 16 xs), lint n, lint i] [eBox y] R) =
 (bif decide (i < n) then
 ((((0 : Int) ≤ i) ∧ (i.toNat < xs.length ∧ eV (xs.getD i.toNat D.any) = xs.getD i.toNat D.any)) ∧
 (FitE (eV (xs.getD i.toNat D.any)) ∧
 (FitE (eV (xs.getD i.toNat D.any)) ∧
 (FitE (eV (xs.getD i.toNat D.any)) ∧
 (bif bif checkE (eV (xs.getD i.toNat D.any)) != 0 then true
 else
 bif e == 0 then
 bif
 (bif checkE (eV (xs.getD i.toNat D.any)) != 0 then checkE (eV (xs.getD i.toNat D.any))
 else bif typeE (eV (xs.getD i.toNat D.any)) == 0 then 15 else 0) !=
 0 then
 true
 else (bif checkE (eV (xs.getD i.toNat D.any)) != 0 then 0 else typeE (eV (xs.getD i.toNat D.any))) == 0
 else false then
 (75 = 75 ∧
 R X.ret
 [V.ptr [5000] 0,
 V.d (D.lit (Value.int IntKind.i64 (IntKind.i64.wrap (s + (↑(cap (etot (eV (xs.getD i.toNat D.any)))) : Int))))),
 V.d (D.lit (Value.bool false))]
 [eBox y]) else
 (75 = 75 ∧
 R X.normal
 [V.ptr [5000] 0, V.d (D.lit (Value.int IntKind.i64 e)),
 V.d (D.lit (Value.int IntKind.i64 (IntKind.i64.wrap (s + (↑(cap (etot (eV (xs.getD i.toNat D.any)))) : Int))))),
 V.d (D.slice b 16 xs), V.d (D.lit (Value.int IntKind.i64 n)),
 V.d (D.lit (Value.int IntKind.i64 (IntKind.i64.wrap (i + 1))))]
 [eBox y])))))) else
 (75 = 75 ∧
 R (X.exit 0) [V.ptr [5000] 0, V.d (D.lit (Value.int IntKind.i64 s)), V.any]
 [eBox y])) := by kernel_rfl
noncomputable def c9 : Ct := ⟨fun | [x] => FitE x | _ => False, fun | [x] => some (.lit (.bool true)) | _ => none⟩
end Go.Ev.R2
end
section
namespace Go.Ev
set_option linter.unusedSimpArgs false
set_option linter.unusedVariables false
def lim0 (w : World) (b : Nat) : Nat := match w.heap[b]? with
 | some (.cells c _ _) => c.size
 | some (.map _ _) => 1
 | _ => 0
theorem lim0_fresh {w : World} {b : Nat} (h : w.heap.size ≤ b) : lim0 w b = 0 := by simp [lim0, Array.getElem?_eq_none h]
theorem lim0_cell {w : World} {b o : Nat} {v : Value} (h : w.cell? ⟨b, o, none⟩ = some v) : o < lim0 w b := by
 unfold World.cell? at h
 unfold lim0
 split at h
 ·
  rename_i c t fr hb
  rw [hb]
  simp at h
  exact (Array.getElem?_eq_some_iff.1 h).1
 ·
  cases h
def elemD (P : Program) (e : TypeId) (cs : List D) : D := match P.underlying e with
 | some (.struct _) => .agg cs
 | _ => cs.headD .any
def fitC (P : Program) : Nat → TypeId → List D → Prop
 | 0, _, _ => False
 | n + 1, t, ds => match P.underlying t with
  | some .bool => ∃ b, ds = [.lit (.bool b)]
  | some (.int k) => ∃ i, ds = [.lit (.int k i)] ∧ (Lit.int k i).wf = true
  | some .string => ∃ s : ByteArray, ds = [.lit (.string s)] ∧ s.size ≤ reachBytes
  | some (.slice e) => ∃ nil xs, ds = [.slice nil (P.cellsOf e) xs] ∧ xs.length ≤ reachBytes ∧ ∀ x ∈ xs, ∃ cs, x = elemD P e cs ∧ fitC P n e cs
  | some (.struct fs) => ds.length = P.cellsOf t ∧ ∀ (i : Nat) (f : Field), fs[i]? = some f → fitC P n f.type ((ds.drop f.offset).take (P.cellsOf f.type))
  | _ => False
structure Plainly (P : Program) (T : TypeId → Prop) : Prop where
 slice : ∀ t e, T t → P.underlying t = some (.slice e) → T e ∧ (0 < P.cellsOf e ∧ 0 < P.bytesOf e)
 struct : ∀ t fs, T t → P.underlying t = some (.struct fs) → (∀ f ∈ fs.toList, T f.type) ∧ P.cellsOf t = (fs.toList.map fun f => P.cellsOf f.type).sum ∧
  ∀ (j : Nat) f, fs.toList[j]? = some f → f.offset = ((fs.toList.take j).map fun f => P.cellsOf f.type).sum
 kinds : ∀ t, T t → (∃ fs, P.underlying t = some (.struct fs)) ∨ (P.cellsOf t = 1 ∧ (P.underlying t = some .bool ∨ (∃ k, P.underlying t = some (.int k)) ∨ P.underlying t = some .string ∨ ∃ e, P.underlying t = some (.slice e)))
theorem elemD_cells {P : Program} {e : TypeId} {cs : List D} (h : (∃ fs, P.underlying e = some (.struct fs)) ∨ (cs.length = 1 ∧ (∀ x ∈ cs, x.cells = [x]) ∧ ∀ fs, P.underlying e ≠ some (.struct fs))) : (elemD P e cs).cells = cs := by
 unfold elemD
 rcases h with ⟨fs, h⟩ | ⟨hl, hx, hn⟩
 ·
  rw [h]; rfl
 ·
  split
  ·
   rename_i fs h; exact absurd h (hn fs)
  ·
   obtain ⟨x, rfl⟩ := List.length_eq_one_iff.1 hl
   exact hx x (by simp)
section
variable {H : Type} {enc : TypeId × Value → H} {P : Program} {w : World} {held : Bool} {T : TypeId → Prop}
def Good1 (P : Program) (w : World) (n : Nat) (t : TypeId) (cs : List Value) : Prop :=
 cs.length = P.cellsOf t ∧ (∀ v ∈ cs, Flat v) ∧ ∃ ds, RepDs w (lim0 w) ds cs ∧ fitC P n t ds ∧ ∀ x ∈ ds, x.cells = [x]
theorem rows_rep {n : Nat} {e : TypeId} {b off sz : Nat} : ∀ (k : Nat) (f : Nat → List Value),
  (∀ i, i < k → (f i).length = sz ∧ (∀ v ∈ f i, Flat v) ∧ (∀ j v, (f i)[j]? = some v → w.cell? ⟨b, off + i * sz + j, none⟩ = some v) ∧ ∃ ds, RepDs w (lim0 w) ds (f i) ∧ fitC P n e ds ∧ (elemD P e ds).cells = ds) →
  ∃ xs vs, xs.length = k ∧ RepDs w (lim0 w) (flats xs) vs ∧ (∀ v ∈ vs, Flat v) ∧ vs.length = k * sz ∧ (∀ j v, vs[j]? = some v → w.cell? ⟨b, off + j, none⟩ = some v) ∧ (∀ x ∈ xs, x.cells.length = sz) ∧ ∀ x ∈ xs, ∃ cs, x = elemD P e cs ∧ fitC P n e cs
 | 0, f, h => ⟨[], [], rfl, .nil, by simp, by simp, by simp, by simp, by simp⟩
 | k + 1, f, h => by
  obtain ⟨xs, vs, h1, h2, h3, h4, h5, h6, h7⟩ := rows_rep k f fun i hi => h i (by omega)
  obtain ⟨g1, g2, g3, ds, g4, g5, g6⟩ := h k (by omega)
  refine ⟨xs ++ [elemD P e ds], vs ++ f k, by simp [h1], ?_, ?_, ?_, ?_, ?_, ?_⟩
  ·
   have : flats (xs ++ [elemD P e ds]) = flats xs ++ ds := by simp [flats, g6]
   rw [this]; exact h2.append g4
  ·
   intro v hv
   rcases List.mem_append.1 hv with hv | hv
   ·
    exact h3 v hv
   ·
    exact g2 v hv
  ·
   rw [List.length_append, h4, g1, Nat.add_mul]; omega
  ·
   intro j v hj
   by_cases hlt : j < vs.length
   ·
    rw [List.getElem?_append_left hlt] at hj; exact h5 j v hj
   ·
    rw [List.getElem?_append_right (by omega)] at hj
    have := g3 _ _ hj
    rw [h4] at this hlt
    rw [show off + k * sz + (j - k * sz) = off + j by omega] at this
    exact this
  ·
   intro x hx
   rcases List.mem_append.1 hx with hx | hx
   ·
    exact h6 x hx
   ·
    simp only [List.mem_singleton] at hx; subst hx; rw [g6, g4.length, g1]
  ·
   intro x hx
   rcases List.mem_append.1 hx with hx | hx
   ·
    exact h7 x hx
   ·
    simp only [List.mem_singleton] at hx; subst hx; exact ⟨ds, rfl, g5⟩
theorem struct_rep {n : Nat} : ∀ (l : List Field) (cs : List Value), cs.length = (l.map fun f => P.cellsOf f.type).sum →
  (∀ (j : Nat) (f : Field), l[j]? = some f → Good1 P w n f.type ((cs.drop ((l.take j).map fun f => P.cellsOf f.type).sum).take (P.cellsOf f.type))) →
  ∃ ds, RepDs w (lim0 w) ds cs ∧ (∀ v ∈ cs, Flat v) ∧ (∀ x ∈ ds, x.cells = [x]) ∧
   ∀ (j : Nat) (f : Field), l[j]? = some f → fitC P n f.type ((ds.drop ((l.take j).map fun f => P.cellsOf f.type).sum).take (P.cellsOf f.type))
 | [], cs, hl, _ => by
  have : cs = [] := List.length_eq_zero_iff.1 (by simpa using hl)
  subst this
  exact ⟨[], .nil, by simp, by simp, fun j f h => by simp at h⟩
 | f :: l, cs, hl, h => by
  have h0 := h 0 f rfl
  simp only [List.take_zero, List.map_nil, List.sum_nil, List.drop_zero] at h0
  obtain ⟨g1, g2, ds1, g3, g4, g5⟩ := h0
  simp only [List.map_cons, List.sum_cons] at hl
  obtain ⟨ds2, k1, k2, k3, k4⟩ := struct_rep l (cs.drop (P.cellsOf f.type)) (by rw [List.length_drop]; omega) fun j f' hf' => by
   have := h (j + 1) f' (by simpa using hf')
   simp only [List.take_succ_cons, List.map_cons, List.sum_cons] at this
   rw [List.drop_drop]
   exact this
  have e1 : ds1.length = P.cellsOf f.type := by rw [g3.length, g1]
  refine ⟨ds1 ++ ds2, by have := g3.append k1; rwa [List.take_append_drop] at this, fun v hv => ?_, fun x hx => ?_, fun j f' hf' => ?_⟩
  ·
   rw [← List.take_append_drop (P.cellsOf f.type) cs] at hv
   rcases List.mem_append.1 hv with hv | hv
   ·
    exact g2 v hv
   ·
    exact k2 v hv
  ·
   rcases List.mem_append.1 hx with hx | hx
   ·
    exact g5 x hx
   ·
    exact k3 x hx
  ·
   cases j with
   | zero =>
    simp only [List.getElem?_cons_zero, Option.some.injEq] at hf'
    subst hf'
    simp only [List.take_zero, List.map_nil, List.sum_nil, List.drop_zero]
    rw [← e1, List.take_left]
    exact g4
   | succ j =>
    have := k4 j f' (by simpa using hf')
    simp only [List.take_succ_cons, List.map_cons, List.sum_cons]
    rw [← e1, ← List.drop_drop, List.drop_left]
    exact this
theorem weightsAll_mem {e : TypeId} : ∀ {l : List (DataW H)} {d : DataW H}, d ∈ l → ∀ n ∈ d.weights P e, n ∈ DataW.weightsAll P e l
 | x :: l, d, h, n, hn => by
  simp only [DataW.weightsAll, List.mem_append]
  rcases List.mem_cons.1 h with rfl | h
  ·
   exact .inl hn
  ·
   exact .inr (weightsAll_mem h n hn)
theorem trod_rep (hT : Plainly P T) : ∀ (n : Nat) (t : TypeId) (cs : List Value) (x : DataW H × List MemPlace), T t → DataW.trod enc P w 0 (fun _ => true) held n t cs = some x → (∀ m ∈ x.1.weights P t, m ≤ reachBytes) → Good1 P w n t cs := by
 intro n
 induction n with
 | zero => intro t cs x _ h; simp [DataW.trod] at h
 | succ n ih =>
  intro t cs x ht h hwt
  rcases hT.kinds t ht with ⟨fs, hu⟩ | ⟨hc1, hu | ⟨k, hu⟩ | hu | ⟨e, hu⟩⟩
  ·
   -- a struct
   obtain ⟨xs, m, hm, hx, hl, hxl, hfs⟩ := DataW.trod_struct hu h
   obtain rfl : n = m := by omega
   obtain ⟨hft, hsum, hoff⟩ := hT.struct t fs ht hu
   have each : ∀ (j : Nat) (f : Field), fs.toList[j]? = some f → Good1 P w n f.type ((cs.drop ((fs.toList.take j).map fun f => P.cellsOf f.type).sum).take (P.cellsOf f.type)) := fun i f hf => by
    have hf' : fs[i]? = some f := by simpa using hf
    have h1 := hfs i f hf'
    have hi : i < xs.length := by rw [hxl]; exact (Array.getElem?_eq_some_iff.1 hf').1
    rw [List.getElem?_eq_getElem hi] at h1
    rw [← hoff i f hf]
    refine ih _ _ _ (hft f (List.mem_of_getElem? hf)) h1 fun m hm => hwt m ?_
    rw [hx]
    simp only [DataW.weights, hu]
    exact DataW.weights_mem_each (j := i) (t := f.type) (d := xs[i].1) (by simp [hf]) (by simp [hi]) m hm
   obtain ⟨ds, d1, d2, d3, d4⟩ := struct_rep fs.toList cs (by rw [hl, hsum]) each
   refine ⟨hl, d2, ds, d1, ?_, d3⟩
   unfold fitC
   rw [hu]
   refine ⟨by rw [d1.length, hl], fun i f hf => ?_⟩
   have hf' : fs.toList[i]? = some f := by simpa using hf
   rw [hoff i f hf']
   exact d4 i f hf'
  ·
   obtain ⟨b, rfl, _⟩ := DataW.trod_bool hu h
   exact ⟨hc1.symm, by simp [Flat], [.lit (.bool b)], .cons (.lit (by simp)) .nil, by unfold fitC; rw [hu]; exact ⟨b, rfl⟩, by simp [D.cells]⟩
  ·
   obtain ⟨i, rfl, _, hw⟩ := DataW.trod_int hu h
   exact ⟨hc1.symm, by simp [Flat], [.lit (.int k i)], .cons (.lit (by simp)) .nil, by unfold fitC; rw [hu]; exact ⟨i, rfl, hw⟩, by simp [D.cells]⟩
  ·
   obtain ⟨s, rfl, rfl, _⟩ := DataW.trod_string hu h
   have hs : s.size ≤ reachBytes := hwt s.size (by simp [DataW.weights])
   exact ⟨hc1.symm, by simp [Flat], [.lit (.string s)], .cons (.lit (by simp)) .nil, by unfold fitC; rw [hu]; exact ⟨s, rfl, hs⟩, by simp [D.cells]⟩
  ·
   obtain ⟨hte, hpos, hby⟩ := hT.slice t e ht hu
   rcases DataW.trod_slice hu h with ⟨rfl, _⟩ | ⟨a, len, cap, elems, rest, m, hm, rfl, hx, _, hlc, hcm, hel, hi, _⟩
   ·
    exact ⟨hc1.symm, by simp [Flat], [.slice true (P.cellsOf e) []], .cons .nils .nil, by unfold fitC; rw [hu]; exact ⟨true, [], rfl, Nat.zero_le _, by simp⟩, by simp [D.cells]⟩
   ·
    obtain rfl : n = m := by omega
    refine ⟨hc1.symm, by simp [Flat], ?_⟩
    by_cases h0 : len = 0
    ·
     subst h0
     exact ⟨[.slice false (P.cellsOf e) []], .cons (.slice (vs := []) .nil (by simp) (fun h => absurd rfl h) (by simp) rfl hlc) .nil, by unfold fitC; rw [hu]; exact ⟨false, [], rfl, Nat.zero_le _, by simp⟩, by simp [D.cells]⟩
    have hlen : len ≤ reachBytes := by
     have h1 := hwt ((elems.length + rest.length) * P.bytesOf e) (by rw [hx]; simp [DataW.weights, hu])
     have h2 : elems.length + rest.length ≤ (elems.length + rest.length) * P.bytesOf e := Nat.le_mul_of_pos_right _ hby
     omega
    have elem : ∀ i, i < len → ∃ cs y, w.cells? 0 (a.add (i * P.cellsOf e)) (P.cellsOf e) = some cs ∧ DataW.trod enc P w 0 (fun _ => true) held n e cs = some y ∧ y ∈ elems := fun i hlt => by
     have h1 := hi i hlt
     rw [List.getElem?_eq_getElem (by omega)] at h1
     cases hc : w.cells? 0 (a.add (i * P.cellsOf e)) (P.cellsOf e) with
     | none => rw [hc] at h1; cases h1
     | some cs => rw [hc] at h1; exact ⟨cs, _, rfl, h1, List.getElem_mem _⟩
    have hsp : a.spot = none := by
     obtain ⟨cs, y, hc, _⟩ := elem 0 (by omega)
     obtain ⟨_, hl, hcell⟩ := World.cells?_some hc
     have h1 := hcell 0 hpos
     have : 0 < cs.length := by omega
     rw [List.getElem?_eq_getElem this] at h1
     simpa [Addr.add] using World.cell?_spot h1
    obtain ⟨b, off, sp⟩ := a
    obtain rfl : sp = none := hsp
    have hadd : ∀ k : Nat, (⟨b, off, none⟩ : Addr).add k = ⟨b, off + k, none⟩ := fun k => by unfold Addr.add; split <;> simp_all
    have hadd2 : ∀ i j : Nat, ((⟨b, off, none⟩ : Addr).add i).add j = ⟨b, off + i + j, none⟩ := fun i j => by rw [hadd]; unfold Addr.add; split <;> simp_all
    let f : Nat → List Value := fun i => (w.cells? 0 ((⟨b, off, none⟩ : Addr).add (i * P.cellsOf e)) (P.cellsOf e)).getD []
    obtain ⟨xs, vs, h1, h2, h3, h4, h5, h6, h7⟩ := rows_rep (P := P) (w := w) (n := n) (e := e) (b := b) (off := off) (sz := P.cellsOf e) len f (fun i hlt => by
     obtain ⟨cs, y, hc, hy, hym⟩ := elem i hlt
     have hfi : f i = cs := by simp only [f, hc, Option.getD_some]
     rw [hfi]
     obtain ⟨_, hl, hcell⟩ := World.cells?_some hc
     obtain ⟨_, g1, ds, g2, g3, g4⟩ := ih e cs y hte hy fun m hm => hwt m (by
      rw [hx]
      simp only [DataW.weights, hu, List.mem_cons, List.mem_append]
      exact .inr (.inl (weightsAll_mem (List.mem_map.2 ⟨y, hym, rfl⟩) m hm)))
     refine ⟨hl, g1, fun j v hj => ?_, ds, g2, g3, ?_⟩
     ·
      have hlt : j < P.cellsOf e := by rw [← hl]; exact (List.getElem?_eq_some_iff.1 hj).1
      have := hcell j hlt
      rw [hadd2] at this
      rw [this, hj]
     ·
      apply elemD_cells
      rcases hT.kinds e hte with hs | ⟨hc1, hk⟩
      ·
       exact .inl hs
      ·
       refine .inr ⟨by rw [g2.length, hl, hc1], g4, fun fs hfs => ?_⟩
       rcases hk with hk | ⟨_, hk⟩ | hk | ⟨_, hk⟩ <;> rw [hk] at hfs <;> cases hfs)
    refine ⟨[.slice false (P.cellsOf e) xs], .cons (.slice h2 h3 (fun _ => ⟨rfl, fun i v hv => ⟨lim0_cell (h5 i v hv), h5 i v hv⟩⟩) h6 h1.symm hlc) .nil, ?_, by simp [D.cells]⟩
    unfold fitC
    rw [hu]
    exact ⟨false, xs, rfl, by rw [h1]; exact hlen, h7⟩
end
def plainB (P : Program) (l : List TypeId) : Bool := l.all fun t => match P.underlying t with
 | some (.slice e) => l.contains e && (decide (0 < P.cellsOf e) && (decide (0 < P.bytesOf e) && P.cellsOf t == 1))
 | some (.struct fs) => fs.toList.all (fun f => l.contains f.type) && (P.cellsOf t == (fs.toList.map fun f => P.cellsOf f.type).sum &&
   (List.range fs.toList.length).all fun j => (fs.toList[j]?.map (·.offset)) == some ((fs.toList.take j).map fun f => P.cellsOf f.type).sum)
 | some .bool | some (.int _) | some .string => P.cellsOf t == 1
 | _ => false
theorem plain_of {P : Program} {l : List TypeId} (h : plainB P l = true) : Plainly P (· ∈ l) := by
 have at_ : ∀ t ∈ l, _ := fun t ht => List.all_eq_true.1 h t ht
 refine ⟨fun t e ht hu => ?_, fun t fs ht hu => ?_, fun t ht => ?_⟩
 ·
  have := at_ t ht
  simp only [hu, Bool.and_eq_true, decide_eq_true_eq] at this
  exact ⟨List.elem_iff.1 this.1, this.2.1, this.2.2.1⟩
 ·
  have := at_ t ht
  simp only [hu, Bool.and_eq_true, beq_iff_eq, List.all_eq_true] at this
  refine ⟨fun f hf => List.elem_iff.1 (this.1 f hf), this.2.1, fun j f hf => ?_⟩
  have h2 := this.2.2 j (List.mem_range.2 (List.getElem?_eq_some_iff.1 hf).1)
  rw [hf] at h2
  simpa using h2
 ·
  have := at_ t ht
  cases hu : P.underlying t with
  | none => rw [hu] at this; cases this
  | some u =>
   rw [hu] at this
   cases u <;> simp at this
   case bool => exact .inr ⟨this, .inl rfl⟩
   case int k => exact .inr ⟨this, .inr (.inl ⟨k, rfl⟩)⟩
   case string => exact .inr ⟨this, .inr (.inr (.inl rfl))⟩
   case slice e => exact .inr ⟨this.2.2.2, .inr (.inr (.inr ⟨e, rfl⟩))⟩
   case struct fs => exact .inl ⟨fs, rfl⟩
section
variable {P : Program} {n : Nat} {t : TypeId} {x : D}
theorem fit_bool (hu : P.underlying t = some .bool) (h : fitC P n t [x]) : ∃ b, x = .lit (.bool b) := by
 cases n with
 | zero => exact h.elim
 | succ n => unfold fitC at h; rw [hu] at h; obtain ⟨b, hb⟩ := h; exact ⟨b, by simpa using hb⟩
theorem fit_int {k : IntKind} (hu : P.underlying t = some (.int k)) (h : fitC P n t [x]) : ∃ i, x = .lit (.int k i) ∧ (Lit.int k i).wf = true := by
 cases n with
 | zero => exact h.elim
 | succ n => unfold fitC at h; rw [hu] at h; obtain ⟨b, hb, hw⟩ := h; exact ⟨b, by simpa using hb, hw⟩
theorem fit_str (hu : P.underlying t = some .string) (h : fitC P n t [x]) : ∃ s : ByteArray, x = .lit (.string s) ∧ s.size ≤ reachBytes := by
 cases n with
 | zero => exact h.elim
 | succ n => unfold fitC at h; rw [hu] at h; obtain ⟨b, hb, hw⟩ := h; exact ⟨b, by simpa using hb, hw⟩
theorem fit_slice {e : TypeId} (hu : P.underlying t = some (.slice e)) (h : fitC P n t [x]) : ∃ m nil xs, n = m + 1 ∧ x = .slice nil (P.cellsOf e) xs ∧ xs.length ≤ reachBytes ∧ ∀ y ∈ xs, ∃ cs, y = elemD P e cs ∧ fitC P m e cs := by
 cases n with
 | zero => exact h.elim
 | succ n => unfold fitC at h; rw [hu] at h; obtain ⟨nil, xs, hb, hw⟩ := h; exact ⟨n, nil, xs, rfl, by simpa using hb, hw⟩
theorem fit_struct {fs : Array Field} {ds : List D} (hu : P.underlying t = some (.struct fs)) (h : fitC P n t ds) : ∃ m, n = m + 1 ∧ ds.length = P.cellsOf t ∧ ∀ (i : Nat) (f : Field), fs[i]? = some f → fitC P m f.type ((ds.drop f.offset).take (P.cellsOf f.type)) := by
 cases n with
 | zero => exact h.elim
 | succ n => unfold fitC at h; rw [hu] at h; exact ⟨n, rfl, h⟩
end
end Go.Ev
end
section
namespace Go.Ev.R2
open Go Go.Ev Go.Proofs
set_option maxRecDepth 100000
def tyL : List TypeId := [33, 3, 22, 24, 25, 4, 26, 30, 9, 31, 98, 65, 27, 28, 107]
theorem plainT : Plainly Tryz.prog (· ∈ tyL) := plain_of (by kernel_rfl)
theorem short_of {xs : List D} (h : xs.length ≤ reachBytes) : Short xs := by unfold Short; unfold reachBytes at h; omega
theorem co33 : Tryz.prog.cellsOf 33 = 16 := by kernel_rfl
theorem co30 : Tryz.prog.cellsOf 30 = 3 := by kernel_rfl
theorem co107 : Tryz.prog.cellsOf 107 = 4 := by kernel_rfl
theorem co98 : Tryz.prog.cellsOf 98 = 3 := by kernel_rfl
theorem co65 : Tryz.prog.cellsOf 65 = 4 := by kernel_rfl
theorem co9 : Tryz.prog.cellsOf 9 = 1 := by kernel_rfl
theorem fit98 {n : Nat} {ds : List D} (h : fitC Tryz.prog n 98 ds) : FitM (.agg ds) := by
 obtain ⟨m, rfl, hl, hf⟩ := fit_struct Tryz.underlying98 h
 rw [co98] at hl
 match ds, hl with
 | [x0, x1, x2], _ =>
  obtain ⟨i, rfl, _⟩ := fit_int Tryz.underlying3 (hf 0 _ rfl)
  obtain ⟨s1, rfl, _⟩ := fit_str Tryz.underlying9 (hf 1 _ rfl)
  obtain ⟨s2, rfl, _⟩ := fit_str Tryz.underlying9 (hf 2 _ rfl)
  rfl
theorem fit107 {n : Nat} {ds : List D} (h : fitC Tryz.prog n 107 ds) : FitC (.agg ds) := by
 obtain ⟨m, rfl, hl, hf⟩ := fit_struct Tryz.underlying107 h
 rw [co107] at hl
 match ds, hl with
 | [x0, x1, x2, x3], _ =>
  obtain ⟨s0, rfl, _⟩ := fit_str Tryz.underlying9 (hf 0 _ rfl)
  obtain ⟨i, rfl, _⟩ := fit_int Tryz.underlying3 (hf 1 _ rfl)
  obtain ⟨s2, rfl, _⟩ := fit_str Tryz.underlying9 (hf 2 _ rfl)
  obtain ⟨j, rfl, _⟩ := fit_int Tryz.underlying3 (hf 3 _ rfl)
  rfl
theorem elem98 (cs : List D) : elemD Tryz.prog 98 cs = .agg cs := by unfold elemD; rw [Tryz.underlying98]
theorem elem107 (cs : List D) : elemD Tryz.prog 107 cs = .agg cs := by unfold elemD; rw [Tryz.underlying107]
theorem elem65 (cs : List D) : elemD Tryz.prog 65 cs = .agg cs := by unfold elemD; rw [Tryz.underlying65]
theorem elem30 (cs : List D) : elemD Tryz.prog 30 cs = .agg cs := by unfold elemD; rw [Tryz.underlying30]
theorem elem33 (cs : List D) : elemD Tryz.prog 33 cs = .agg cs := by unfold elemD; rw [Tryz.underlying33]
theorem fit22 {n : Nat} {x : D} (h : fitC Tryz.prog n 22 [x]) : ∃ nil xs, x = .slice nil 3 xs ∧ Short xs ∧ ∀ m ∈ xs, FitM m := by
 obtain ⟨m, nil, xs, rfl, rfl, hs, hx⟩ := fit_slice Tryz.underlying22 h
 refine ⟨nil, xs, by rw [co98], short_of hs, fun y hy => ?_⟩
 obtain ⟨cs, rfl, hc⟩ := hx y hy
 rw [elem98]; exact fit98 hc
theorem fit25 {n : Nat} {x : D} (h : fitC Tryz.prog n 25 [x]) : ∃ nil xs, x = .slice nil 1 xs ∧ Short xs ∧ ∀ m ∈ xs, FitN m := by
 obtain ⟨m, nil, xs, rfl, rfl, hs, hx⟩ := fit_slice Tryz.underlying25 h
 refine ⟨nil, xs, by rw [co9], short_of hs, fun y hy => ?_⟩
 obtain ⟨cs, rfl, hc⟩ := hx y hy
 have hcs : ∃ s : ByteArray, cs = [.lit (.string s)] := by
  cases m with
  | zero => exact hc.elim
  | succ m =>
   unfold fitC at hc
   rw [Tryz.underlying9] at hc
   obtain ⟨s, h1, _⟩ := hc
   exact ⟨s, h1⟩
 obtain ⟨s, rfl⟩ := hcs
 unfold elemD
 rw [Tryz.underlying9]
 rfl
theorem fit65 {n : Nat} {ds : List D} (h : fitC Tryz.prog n 65 ds) : FitG (.agg ds) := by
 obtain ⟨m, rfl, hl, hf⟩ := fit_struct Tryz.underlying65 h
 rw [co65] at hl
 match ds, hl with
 | [x0, x1, x2, x3], _ =>
  obtain ⟨i, rfl, _⟩ := fit_int Tryz.underlying3 (hf 0 _ rfl)
  obtain ⟨s1, rfl, _⟩ := fit_str Tryz.underlying9 (hf 1 _ rfl)
  obtain ⟨b2, l2, rfl, hs2, h2⟩ := fit22 (hf 2 _ rfl)
  obtain ⟨b3, l3, rfl, hs3, h3⟩ := fit25 (hf 3 _ rfl)
  exact ⟨rfl, hs2, hs3, h2, h3⟩
theorem fit26 {n : Nat} {x : D} (h : fitC Tryz.prog n 26 [x]) : ∃ nil xs, x = .slice nil 4 xs ∧ Short xs ∧ ∀ m ∈ xs, FitG m := by
 obtain ⟨m, nil, xs, rfl, rfl, hs, hx⟩ := fit_slice Tryz.underlying26 h
 refine ⟨nil, xs, by rw [co65], short_of hs, fun y hy => ?_⟩
 obtain ⟨cs, rfl, hc⟩ := hx y hy
 rw [elem65]; exact fit65 hc
theorem fit27 {n : Nat} {x : D} (h : fitC Tryz.prog n 27 [x]) : ∃ nil xs, x = .slice nil 4 xs ∧ Short xs ∧ ∀ m ∈ xs, FitC m := by
 obtain ⟨m, nil, xs, rfl, rfl, hs, hx⟩ := fit_slice Tryz.underlying27 h
 refine ⟨nil, xs, by rw [co107], short_of hs, fun y hy => ?_⟩
 obtain ⟨cs, rfl, hc⟩ := hx y hy
 rw [elem107]; exact fit107 hc
theorem fit30 : ∀ (N n : Nat) {ds : List D}, n ≤ N → fitC Tryz.prog n 30 ds → FitP (.agg ds)
 | 0, n, ds, hn, h => by
  obtain ⟨m, rfl, _⟩ := fit_struct Tryz.underlying30 h
  omega
 | N + 1, n, ds, hn, h => by
  obtain ⟨m, rfl, hl, hf⟩ := fit_struct Tryz.underlying30 h
  rw [co30] at hl
  match ds, hl with
  | [x0, x1, x2], _ =>
   obtain ⟨i, rfl, _⟩ := fit_int Tryz.underlying3 (hf 0 _ rfl)
   obtain ⟨b1, l1, rfl, hs1, h1⟩ := fit27 (hf 1 _ rfl)
   obtain ⟨q, b2, l2, hq, rfl, hs2, h2⟩ := fit_slice Tryz.underlying28 (hf 2 _ rfl)
   refine FitP.mk (y := .agg [.lit (.int .i64 i), .slice b1 4 l1, .slice b2 (Tryz.prog.cellsOf 30) l2]) ?_ ⟨hs1, short_of hs2⟩ h1 ?_
   ·
    rw [co30]; rfl
   ·
    intro a ha
    obtain ⟨cs, rfl, hc⟩ := h2 a ha
    rw [elem30]
    exact fit30 N q (by omega) hc
theorem fit33 : ∀ (N n : Nat) {ds : List D}, n ≤ N → fitC Tryz.prog n 33 ds → FitE (.agg ds)
 | 0, n, ds, hn, h => by
  obtain ⟨m, rfl, _⟩ := fit_struct Tryz.underlying33 h
  omega
 | N + 1, n, ds, hn, h => by
  obtain ⟨m, rfl, hl, hf⟩ := fit_struct Tryz.underlying33 h
  rw [co33] at hl
  match ds, hl with
  | [x0, x1, x2, x3, x4, x5, x6, x7, x8, x9, x10, x11, x12, x13, x14, x15], _ =>
   obtain ⟨i0, rfl, _⟩ := fit_int Tryz.underlying3 (hf 0 _ rfl)
   obtain ⟨i1, rfl, _⟩ := fit_int Tryz.underlying3 (hf 1 _ rfl)
   obtain ⟨b2, l2, rfl, hs2, h2⟩ := fit22 (hf 2 _ rfl)
   obtain ⟨i3, rfl, _⟩ := fit_int Tryz.underlying3 (hf 3 _ rfl)
   obtain ⟨i4, rfl, _⟩ := fit_int Tryz.underlying3 (hf 4 _ rfl)
   obtain ⟨m5, hm5, _, hf5⟩ := fit_struct Tryz.underlying24 (hf 5 _ rfl)
   have g5 := hf5 0 _ rfl
   have g6 := hf5 1 _ rfl
   obtain ⟨i5, rfl, _⟩ := fit_int Tryz.underlying3 g5
   obtain ⟨i6, rfl, _⟩ := fit_int Tryz.underlying3 g6
   obtain ⟨b7, l7, rfl, hs7, h7⟩ := fit25 (hf 6 _ rfl)
   obtain ⟨i8, rfl⟩ := fit_bool Tryz.underlying4 (hf 7 _ rfl)
   obtain ⟨i9, rfl, _⟩ := fit_int Tryz.underlying3 (hf 8 _ rfl)
   obtain ⟨b10, l10, rfl, hs10, h10⟩ := fit26 (hf 9 _ rfl)
   obtain ⟨s14, rfl, _⟩ := fit_str Tryz.underlying9 (hf 11 _ rfl)
   obtain ⟨q, b15, l15, hq, rfl, hs15, h15⟩ := fit_slice Tryz.underlying31 (hf 12 _ rfl)
   have hpc : fitC Tryz.prog m 30 [x11, x12, x13] := by
    have this : fitC Tryz.prog m 30 (List.take (Tryz.prog.cellsOf 30) [x11, x12, x13, .lit (.string s14), .slice b15 (Tryz.prog.cellsOf 33) l15]) := hf 10 _ rfl
    rw [co30] at this
    exact this
   have hp' : FitP (.agg [x11, x12, x13]) := fit30 m m (Nat.le_refl _) hpc
   rw [co33]
   have hpv : pV (.agg [x11, x12, x13]) = .agg [x11, x12, x13] := hp'.v
   simp only [D.agg.injEq, List.cons.injEq, and_true] at hpv
   obtain ⟨e1, e2, e3⟩ := hpv
   refine FitE.mk ?_ ⟨⟨hs2, hs7⟩, hs10, short_of hs15⟩ h2 h7 h10 ?_ ?_
   ·
    simp only [D.agg.injEq, List.cons.injEq, and_true]
    exact ⟨rfl, rfl, rfl, rfl, rfl, rfl, rfl, rfl, rfl, rfl, rfl, e1, e2, e3, rfl, rfl⟩
   ·
    have : paV (.agg [.lit (.int .i64 i0), .lit (.int .i64 i1), .slice b2 3 l2, .lit (.int .i64 i3), .lit (.int .i64 i4), .lit (.int .i64 i5), .lit (.int .i64 i6), .slice b7 1 l7, .lit (.bool i8), .lit (.int .i64 i9), .slice b10 4 l10, x11, x12, x13, .lit (.string s14), .slice b15 16 l15]) = pV (.agg [x11, x12, x13]) := rfl
    rw [this, hp'.v]; exact hp'
   ·
    intro a ha
    obtain ⟨cs, rfl, hc⟩ := h15 a ha
    rw [elem33]
    exact fit33 N q (by omega) hc
end Go.Ev.R2
end
section
namespace Go.Ev
structure SmB where
 pre : List V → List Box → Bool
 f : List V → List Box → Option (V × List Box × List Box)
def SmB.sm (S : SmB) : Sm := ⟨fun v b => S.pre v b = true, fun v b => match S.f v b with | some (r, bs, news) => one r bs news | none => none⟩
abbrev STabB := List (FuncId × SmB)
def lookB : STabB → FuncId → Option SmB
 | [], _ => none
 | (a, S) :: r, n => bif n == a then some S else lookB r n
def STabB.st (tb : STabB) : STab := fun K => match lookB tb K with | some S => some S.sm | none => none
def smCallB (tb : STabB) : CallF := fun K args H => match lookB tb K with
 | none => none
 | some S => match reach H 200 [] (namess args) with
  | none => none
  | some l => match boxesOf H (canon 0 l) with
   | none => none
   | some bs => bif nodupB l && (l.all zeroB && (inAll l (namess args) && bs.all (fun b => inAll l (boxNames b)))) then
     (match S.f (rens (rhoL (canon 0 l)) args) (bs.map (·.ren (rhoL (canon 0 l)))) with
     | some x => bif S.pre (rens (rhoL (canon 0 l)) args) (bs.map (·.ren (rhoL (canon 0 l)))) && x.2.1.length == bs.length then some (smPut H l x) else none
     | none => none)
    else none
theorem smCallB_le (tb : STabB) : CallLe (smCallB tb) (smCall tb.st) := by
 intro K args H r h
 unfold smCallB at h
 unfold smCall smRun STabB.st
 cases hl : lookB tb K with
 | none => rw [hl] at h; cases h
 | some S =>
  rw [hl] at h
  simp only [] at h ⊢
  cases hr : reach H 200 [] (namess args) with
  | none => rw [hr] at h; cases h
  | some l =>
   rw [hr] at h
   simp only [] at h ⊢
   cases hb : boxesOf H (canon 0 l) with
   | none => rw [hb] at h; cases h
   | some bs =>
    rw [hb] at h
    simp only [] at h ⊢
    cases hc : (nodupB l && (l.all zeroB && (inAll l (namess args) && bs.all (fun b => inAll l (boxNames b))))) with
    | false => rw [hc] at h; cases h
    | true =>
     rw [hc] at h
     simp only [cond_true] at h ⊢
     simp only [SmB.sm]
     cases hf : S.f (rens (rhoL (canon 0 l)) args) (bs.map (·.ren (rhoL (canon 0 l)))) with
     | none => rw [hf] at h; cases h
     | some x =>
      obtain ⟨x1, x2, x3⟩ := x
      rw [hf] at h
      simp only [] at h ⊢
      cases hp : S.pre (rens (rhoL (canon 0 l)) args) (bs.map (·.ren (rhoL (canon 0 l)))) with
      | false => rw [hp] at h; cases h
      | true =>
       rw [hp] at h
       simp only [Bool.true_and] at h
       cases he : (x2.length == bs.length) with
       | false => rw [he] at h; cases h
       | true =>
        rw [he] at h
        simp only [cond_true, Option.some.injEq] at h
        subst h
        simp [one, he]
theorem Valid.le {C : Cx} {c c' : CallF} (h : CallLe c c') (hv : Valid C c') : Valid C c := fun K args H r H' hr => hv K args H r H' (h K args H _ hr)
def evB (C : Cx) (base : CallF) : Nat → CallF
 | 0 => base
 | n + 1 => fun K args H => match base K args H with
  | some r => some r
  | none => evBody C (evLoopN 100000) (evB C base n) K args H
theorem evB_valid {C : Cx} {base : CallF} (ok : CxOk C) (okc : CallsOk C) (hn : NamesOk C) (hb : Valid C base) : ∀ n, Valid C (evB C base n)
 | 0 => hb
 | n + 1 => fun K args H r H' h => by
  simp only [evB] at h
  split at h
  ·
   rename_i r' hr
   simp only [Option.some.injEq] at h
   subst h
   exact hb K args H _ _ hr
  ·
   exact body_valid ok okc hn (loopN_ok _) (evB_valid ok okc hn hb n) K args H r H' h
theorem sm_nil {C : Cx} : SmOk C (STabB.st []) := fun K f vals bs c x y h => by cases h
theorem sm_consB {C : Cx} {K : FuncId} {S : SmB} {tb : STabB} (h : SmOk C tb.st)
  (hS : ∀ vals bs r bs' news, S.pre vals bs = true → S.f vals bs = some (r, bs', news) → Enters C.P K ∧ SoundQ C K vals (smIn bs) fun r' H' => r' = r ∧ H' = smOut bs' news) : SmOk C (STabB.st ((K, S) :: tb)) := fun K' f vals bs c x y ht hp hf => by
 unfold STabB.st lookB at ht
 by_cases e : K' = K
 ·
  subst e
  simp only [beq_self_eq_true, cond_true, Option.some.injEq] at ht
  subst ht
  simp only [SmB.sm] at hp hf
  cases hx : S.f vals bs with
  | none => rw [hx] at hf; cases hf
  | some q =>
   obtain ⟨r, bs', news⟩ := q
   rw [hx] at hf
   simp only [one, Option.some.injEq, Prod.mk.injEq] at hf
   obtain ⟨rfl, rfl, rfl⟩ := hf
   exact hS vals bs r bs' news hp hx
 ·
  have : (K' == K) = false := by simpa using e
  rw [this] at ht
  exact h K' f vals bs c x y ht hp hf
end Go.Ev
end
