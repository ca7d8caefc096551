/- What the proofs of the lexer's laws share, part 11 of 14. -/
import Derived.Test.YtnnhlphbfpnaaaaGreatDoorF10
set_option linter.unusedVariables false
set_option linter.unusedSimpArgs false
section
namespace Go.Ev.R2
open Go Go.Ev Go.Proofs
set_option maxRecDepth 100000
theorem w98 (y : D) (p : V → Prop) : (evBodyT (Cn T141) T141 noCS 0 noSp noHn 98 [V.d (eV y)] Heap.empty fun v H => p (freezeR H v)) =
 (bif bif intOf (cellOf y 0) == 6 then true else intOf (cellOf y 0) == 12 then
 (bif intOf (cellOf y 0) == 7 then
 p
 (V.d
 (D.agg
 [D.lit
 (Value.bool
 (bif
 bif
 bif
 bif
 bif bif intOf (cellOf y 0) == 2 then true else intOf (cellOf y 0) == 3 then true
 else intOf (cellOf y 0) == 5 then
 true
 else intOf (cellOf y 0) == 8 then
 true
 else intOf (cellOf y 0) == 10 then
 true
 else intOf (cellOf y 0) == 11 then
 true
 else intOf (cellOf y 0) == 12)),
 D.lit
 (Value.bool
 (bif bif intOf (cellOf y 0) == 3 then true else intOf (cellOf y 0) == 8 then true
 else intOf (cellOf y 0) == 12)),
 D.lit (Value.bool (bif intOf (cellOf y 0) == 4 then true else intOf (cellOf y 0) == 9)),
 D.lit
 (Value.bool
 (bif
 bif
 bif
 bif
 bif
 bif bif intOf (cellOf y 0) == 2 then true else intOf (cellOf y 0) == 3 then true
 else intOf (cellOf y 0) == 5 then
 true
 else intOf (cellOf y 0) == 8 then
 true
 else intOf (cellOf y 0) == 10 then
 true
 else intOf (cellOf y 0) == 11 then
 true
 else intOf (cellOf y 0) == 12 then
 true
 else bif intOf (cellOf y 0) == 4 then true else intOf (cellOf y 0) == 9)),
 D.lit
 (Value.bool
 (bif
 bif intOf (cellOf y 0) == 1 then true
 else bif intOf (cellOf y 0) == 2 then decide (intOf (cellOf y 1) ≥ 10) else false then
 true
 else
 bif intOf (cellOf y 0) == 6 then
 bif bif intOf (cellOf y 1) == 6 then true else intOf (cellOf y 1) == 7 then true
 else intOf (cellOf y 1) == 9
 else false)),
 D.lit
 (Value.bool
 (bif
 bif
 bif bif intOf (cellOf y 0) == 3 then true else intOf (cellOf y 0) == 5 then true
 else intOf (cellOf y 0) == 6 then
 true
 else intOf (cellOf y 0) == 7 then
 true
 else intOf (cellOf y 0) == 4)),
 D.lit
 (Value.bool
 (bif
 bif bif intOf (cellOf y 0) == 3 then true else intOf (cellOf y 0) == 5 then true
 else intOf (cellOf y 0) == 6 then
 true
 else intOf (cellOf y 0) == 7)),
 D.lit (Value.bool (intOf (cellOf y 0) == 7)),
 D.lit
 (Value.bool
 (bif
 bif
 bif bif intOf (cellOf y 0) == 3 then intOf (cellOf y 1) == 3 else false then true
 else intOf (cellOf y 0) == 5 then
 true
 else bif intOf (cellOf y 0) == 6 then intOf (cellOf y 1) == 8 else false then
 true
 else intOf (cellOf y 0) == 13)),
 D.lit (Value.int IntKind.i64 2)])) else
 p
 (V.d
 (D.agg
 [D.lit
 (Value.bool
 (bif
 bif
 bif
 bif
 bif bif intOf (cellOf y 0) == 2 then true else intOf (cellOf y 0) == 3 then true
 else intOf (cellOf y 0) == 5 then
 true
 else intOf (cellOf y 0) == 8 then
 true
 else intOf (cellOf y 0) == 10 then
 true
 else intOf (cellOf y 0) == 11 then
 true
 else intOf (cellOf y 0) == 12)),
 D.lit
 (Value.bool
 (bif bif intOf (cellOf y 0) == 3 then true else intOf (cellOf y 0) == 8 then true
 else intOf (cellOf y 0) == 12)),
 D.lit (Value.bool (bif intOf (cellOf y 0) == 4 then true else intOf (cellOf y 0) == 9)),
 D.lit
 (Value.bool
 (bif
 bif
 bif
 bif
 bif
 bif bif intOf (cellOf y 0) == 2 then true else intOf (cellOf y 0) == 3 then true
 else intOf (cellOf y 0) == 5 then
 true
 else intOf (cellOf y 0) == 8 then
 true
 else intOf (cellOf y 0) == 10 then
 true
 else intOf (cellOf y 0) == 11 then
 true
 else intOf (cellOf y 0) == 12 then
 true
 else bif intOf (cellOf y 0) == 4 then true else intOf (cellOf y 0) == 9)),
 D.lit
 (Value.bool
 (bif
 bif intOf (cellOf y 0) == 1 then true
 else bif intOf (cellOf y 0) == 2 then decide (intOf (cellOf y 1) ≥ 10) else false then
 true
 else
 bif intOf (cellOf y 0) == 6 then
 bif bif intOf (cellOf y 1) == 6 then true else intOf (cellOf y 1) == 7 then true
 else intOf (cellOf y 1) == 9
 else false)),
 D.lit
 (Value.bool
 (bif
 bif
 bif bif intOf (cellOf y 0) == 3 then true else intOf (cellOf y 0) == 5 then true
 else intOf (cellOf y 0) == 6 then
 true
 else intOf (cellOf y 0) == 7 then
 true
 else intOf (cellOf y 0) == 4)),
 D.lit
 (Value.bool
 (bif
 bif bif intOf (cellOf y 0) == 3 then true else intOf (cellOf y 0) == 5 then true
 else intOf (cellOf y 0) == 6 then
 true
 else intOf (cellOf y 0) == 7)),
 D.lit (Value.bool (intOf (cellOf y 0) == 7)),
 D.lit
 (Value.bool
 (bif
 bif
 bif bif intOf (cellOf y 0) == 3 then intOf (cellOf y 1) == 3 else false then true
 else intOf (cellOf y 0) == 5 then
 true
 else bif intOf (cellOf y 0) == 6 then intOf (cellOf y 1) == 8 else false then
 true
 else intOf (cellOf y 0) == 13)),
 D.lit (Value.int IntKind.i64 1)]))) else
 (bif intOf (cellOf y 0) == 7 then
 p
 (V.d
 (D.agg
 [D.lit
 (Value.bool
 (bif
 bif
 bif
 bif
 bif bif intOf (cellOf y 0) == 2 then true else intOf (cellOf y 0) == 3 then true
 else intOf (cellOf y 0) == 5 then
 true
 else intOf (cellOf y 0) == 8 then
 true
 else intOf (cellOf y 0) == 10 then
 true
 else intOf (cellOf y 0) == 11 then
 true
 else intOf (cellOf y 0) == 12)),
 D.lit
 (Value.bool
 (bif bif intOf (cellOf y 0) == 3 then true else intOf (cellOf y 0) == 8 then true
 else intOf (cellOf y 0) == 12)),
 D.lit (Value.bool (bif intOf (cellOf y 0) == 4 then true else intOf (cellOf y 0) == 9)),
 D.lit
 (Value.bool
 (bif
 bif
 bif
 bif
 bif
 bif bif intOf (cellOf y 0) == 2 then true else intOf (cellOf y 0) == 3 then true
 else intOf (cellOf y 0) == 5 then
 true
 else intOf (cellOf y 0) == 8 then
 true
 else intOf (cellOf y 0) == 10 then
 true
 else intOf (cellOf y 0) == 11 then
 true
 else intOf (cellOf y 0) == 12 then
 true
 else bif intOf (cellOf y 0) == 4 then true else intOf (cellOf y 0) == 9)),
 D.lit
 (Value.bool
 (bif
 bif intOf (cellOf y 0) == 1 then true
 else bif intOf (cellOf y 0) == 2 then decide (intOf (cellOf y 1) ≥ 10) else false then
 true
 else
 bif intOf (cellOf y 0) == 6 then
 bif bif intOf (cellOf y 1) == 6 then true else intOf (cellOf y 1) == 7 then true
 else intOf (cellOf y 1) == 9
 else false)),
 D.lit
 (Value.bool
 (bif
 bif
 bif bif intOf (cellOf y 0) == 3 then true else intOf (cellOf y 0) == 5 then true
 else intOf (cellOf y 0) == 6 then
 true
 else intOf (cellOf y 0) == 7 then
 true
 else intOf (cellOf y 0) == 4)),
 D.lit
 (Value.bool
 (bif
 bif bif intOf (cellOf y 0) == 3 then true else intOf (cellOf y 0) == 5 then true
 else intOf (cellOf y 0) == 6 then
 true
 else intOf (cellOf y 0) == 7)),
 D.lit (Value.bool (intOf (cellOf y 0) == 7)),
 D.lit
 (Value.bool
 (bif
 bif
 bif bif intOf (cellOf y 0) == 3 then intOf (cellOf y 1) == 3 else false then true
 else intOf (cellOf y 0) == 5 then
 true
 else bif intOf (cellOf y 0) == 6 then intOf (cellOf y 1) == 8 else false then
 true
 else intOf (cellOf y 0) == 13)),
 D.lit (Value.int IntKind.i64 2)])) else
 p
 (V.d
 (D.agg
 [D.lit
 (Value.bool
 (bif
 bif
 bif
 bif
 bif bif intOf (cellOf y 0) == 2 then true else intOf (cellOf y 0) == 3 then true
 else intOf (cellOf y 0) == 5 then
 true
 else intOf (cellOf y 0) == 8 then
 true
 else intOf (cellOf y 0) == 10 then
 true
 else intOf (cellOf y 0) == 11 then
 true
 else intOf (cellOf y 0) == 12)),
 D.lit
 (Value.bool
 (bif bif intOf (cellOf y 0) == 3 then true else intOf (cellOf y 0) == 8 then true
 else intOf (cellOf y 0) == 12)),
 D.lit (Value.bool (bif intOf (cellOf y 0) == 4 then true else intOf (cellOf y 0) == 9)),
 D.lit
 (Value.bool
 (bif
 bif
 bif
 bif
 bif
 bif bif intOf (cellOf y 0) == 2 then true else intOf (cellOf y 0) == 3 then true
 else intOf (cellOf y 0) == 5 then
 true
 else intOf (cellOf y 0) == 8 then
 true
 else intOf (cellOf y 0) == 10 then
 true
 else intOf (cellOf y 0) == 11 then
 true
 else intOf (cellOf y 0) == 12 then
 true
 else bif intOf (cellOf y 0) == 4 then true else intOf (cellOf y 0) == 9)),
 D.lit
 (Value.bool
 (bif
 bif intOf (cellOf y 0) == 1 then true
 else bif intOf (cellOf y 0) == 2 then decide (intOf (cellOf y 1) ≥ 10) else false then
 true
 else
 bif intOf (cellOf y 0) == 6 then
 bif bif intOf (cellOf y 1) == 6 then true else intOf (cellOf y 1) == 7 then true
 else intOf (cellOf y 1) == 9
 else false)),
 D.lit
 (Value.bool
 (bif
 bif
 bif bif intOf (cellOf y 0) == 3 then true else intOf (cellOf y 0) == 5 then true
 else intOf (cellOf y 0) == 6 then
 true
 else intOf (cellOf y 0) == 7 then
 true
 else intOf (cellOf y 0) == 4)),
 D.lit
 (Value.bool
 (bif
 bif bif intOf (cellOf y 0) == 3 then true else intOf (cellOf y 0) == 5 then true
 else intOf (cellOf y 0) == 6 then
 true
 else intOf (cellOf y 0) == 7)),
 D.lit (Value.bool (intOf (cellOf y 0) == 7)),
 D.lit
 (Value.bool
 (bif
 bif
 bif bif intOf (cellOf y 0) == 3 then intOf (cellOf y 1) == 3 else false then true
 else intOf (cellOf y 0) == 5 then
 true
 else bif intOf (cellOf y 0) == 6 then intOf (cellOf y 1) == 8 else false then
 true
 else intOf (cellOf y 0) == 13)),
 D.lit (Value.int IntKind.i64 0)])))) := by kernel_rfl
abbrev ob (a b : Bool) : Bool := bif a then true else b
abbrev ab (a b : Bool) : Bool := bif a then b else false
def hM (k : Int) : Bool := ob (ob (ob (ob (ob (ob (k == 2) (k == 3)) (k == 5)) (k == 8)) (k == 10)) (k == 11)) (k == 12)
def hS (k : Int) : Bool := ob (ob (k == 3) (k == 8)) (k == 12)
def hP (k : Int) : Bool := ob (k == 4) (k == 9)
def hW (k : Int) : Bool := ob (hM k) (hP k)
def hN (k f : Int) : Bool := ob (ob (k == 1) (ab (k == 2) (decide (f ≥ 10)))) (ab (k == 6) (ob (ob (f == 6) (f == 7)) (f == 9)))
def hWo (k : Int) : Bool := ob (ob (ob (k == 3) (k == 5)) (k == 6)) (k == 7)
def hNm (k : Int) : Bool := ob (hWo k) (k == 4)
def hT (k f : Int) : Bool := ob (ob (ob (ab (k == 3) (f == 3)) (k == 5)) (ab (k == 6) (f == 8))) (k == 13)
def hA (k : Int) : Int := bif k == 7 then 2 else bif ob (k == 6) (k == 12) then 1 else 0
noncomputable def c98 : Ct := ⟨fun | [x] => FitE x | _ => False, fun | [x] => some (.agg [bD (hM (intOf (cellOf x 0))), bD (hS (intOf (cellOf x 0))), bD (hP (intOf (cellOf x 0))), bD (hW (intOf (cellOf x 0))), bD (hN (intOf (cellOf x 0)) (intOf (cellOf x 1))), bD (hNm (intOf (cellOf x 0))), bD (hWo (intOf (cellOf x 0))), bD (intOf (cellOf x 0) == 7), bD (hT (intOf (cellOf x 0)) (intOf (cellOf x 1))), ntD (hA (intOf (cellOf x 0)))]) | _ => none⟩
noncomputable def T98 : Tab := T141.add 98 c98
theorem w100 (k : Int) (p : V → Prop) : (evBodyT (Cn T98) T98 noCS 0 noSp noHn 100 [lint k] Heap.empty fun v H => p (freezeR H v)) =
 (bif k == 2 then
 p
 (V.d
 (D.slice false 1
 [D.lit (Value.string (ByteArray.mk (Array.mk []))),
 D.lit (Value.string (ByteArray.mk (Array.mk [108, 97, 115, 116]))),
 D.lit (Value.string (ByteArray.mk (Array.mk [99, 111, 117, 110, 116]))),
 D.lit (Value.string (ByteArray.mk (Array.mk [115, 117, 109]))),
 D.lit (Value.string (ByteArray.mk (Array.mk [109, 105, 110]))),
 D.lit (Value.string (ByteArray.mk (Array.mk [109, 97, 120]))),
 D.lit (Value.string (ByteArray.mk (Array.mk [97, 118, 103]))),
 D.lit (Value.string (ByteArray.mk (Array.mk [100, 101, 108, 116, 97]))),
 D.lit (Value.string (ByteArray.mk (Array.mk [105, 110, 99, 114, 101, 97, 115, 101]))),
 D.lit (Value.string (ByteArray.mk (Array.mk [114, 97, 116, 101]))),
 D.lit (Value.string (ByteArray.mk (Array.mk [113, 117, 97, 110, 116, 105, 108, 101]))),
 D.lit (Value.string (ByteArray.mk (Array.mk [104, 105, 115, 116, 113, 117, 97, 110, 116, 105, 108, 101])))])) else
 (bif k == 3 then
 p
 (V.d
 (D.slice false 1
 [D.lit (Value.string (ByteArray.mk (Array.mk []))),
 D.lit (Value.string (ByteArray.mk (Array.mk [108, 105, 110, 101, 115]))),
 D.lit (Value.string (ByteArray.mk (Array.mk [98, 121, 116, 101, 115]))),
 D.lit (Value.string (ByteArray.mk (Array.mk [117, 110, 119, 114, 97, 112])))])) else
 (bif k == 6 then
 p
 (V.d
 (D.slice false 1
 [D.lit (Value.string (ByteArray.mk (Array.mk []))),
 D.lit (Value.string (ByteArray.mk (Array.mk [115, 117, 109]))),
 D.lit (Value.string (ByteArray.mk (Array.mk [99, 111, 117, 110, 116]))),
 D.lit (Value.string (ByteArray.mk (Array.mk [109, 105, 110]))),
 D.lit (Value.string (ByteArray.mk (Array.mk [109, 97, 120]))),
 D.lit (Value.string (ByteArray.mk (Array.mk [97, 118, 103]))),
 D.lit (Value.string (ByteArray.mk (Array.mk [113, 117, 97, 110, 116, 105, 108, 101]))),
 D.lit (Value.string (ByteArray.mk (Array.mk [116, 111, 112]))),
 D.lit (Value.string (ByteArray.mk (Array.mk [100, 105, 115, 116, 105, 110, 99, 116]))),
 D.lit (Value.string (ByteArray.mk (Array.mk [115, 107, 101, 116, 99, 104])))])) else
 (bif k == 7 then
 p
 (V.d
 (D.slice false 1
 [D.lit (Value.string (ByteArray.mk (Array.mk []))), D.lit (Value.string (ByteArray.mk (Array.mk [43]))),
 D.lit (Value.string (ByteArray.mk (Array.mk [45]))), D.lit (Value.string (ByteArray.mk (Array.mk [42]))),
 D.lit (Value.string (ByteArray.mk (Array.mk [47]))), D.lit (Value.string (ByteArray.mk (Array.mk [61, 61]))),
 D.lit (Value.string (ByteArray.mk (Array.mk [33, 61]))), D.lit (Value.string (ByteArray.mk (Array.mk [60]))),
 D.lit (Value.string (ByteArray.mk (Array.mk [60, 61]))), D.lit (Value.string (ByteArray.mk (Array.mk [62]))),
 D.lit (Value.string (ByteArray.mk (Array.mk [62, 61])))])) else
 p (V.d (D.slice false 1 [])))))) := by kernel_rfl
abbrev sB (l : List UInt8) : D := .lit (.string (ByteArray.mk (Array.mk l)))
def fnsD (k : Int) : List D := bif k == 2 then [sB [], sB [108, 97, 115, 116], sB [99, 111, 117, 110, 116], sB [115, 117, 109], sB [109, 105, 110], sB [109, 97, 120], sB [97, 118, 103], sB [100, 101, 108, 116, 97], sB [105, 110, 99, 114, 101, 97, 115, 101], sB [114, 97, 116, 101], sB [113, 117, 97, 110, 116, 105, 108, 101], sB [104, 105, 115, 116, 113, 117, 97, 110, 116, 105, 108, 101]] else bif k == 3 then [sB [], sB [108, 105, 110, 101, 115], sB [98, 121, 116, 101, 115], sB [117, 110, 119, 114, 97, 112]] else bif k == 6 then [sB [], sB [115, 117, 109], sB [99, 111, 117, 110, 116], sB [109, 105, 110], sB [109, 97, 120], sB [97, 118, 103], sB [113, 117, 97, 110, 116, 105, 108, 101], sB [116, 111, 112], sB [100, 105, 115, 116, 105, 110, 99, 116], sB [115, 107, 101, 116, 99, 104]] else bif k == 7 then [sB [], sB [43], sB [45], sB [42], sB [47], sB [61, 61], sB [33, 61], sB [60], sB [60, 61], sB [62], sB [62, 61]] else []
noncomputable def c100 : Ct := ⟨fun _ => True, fun | [.lit (.int .i64 k)] => some (.slice false 1 (fnsD k)) | _ => none⟩
noncomputable def T100 : Tab := T98.add 100 c100
theorem w138 (y : D) (p : V → Prop) : (evBodyT (Cn T100) T100 noCS 0 noSp noHn 138 [V.d (eV y)] Heap.empty fun v H => p (freezeR H v)) =
 (FitE (eV y) ∧
 (True ∧
 (bif bif
 bif
 bif bif (↑(fnsD (intOf (cellOf y 0))).length : Int) == 0 then intOf (cellOf y 1) != 0 else false then true
 else
 bif !hM (intOf (D.lit (Value.int IntKind.i64 (intOf (cellOf y 0))))) then
 decide ((↑(seqD (cellOf y 2)).length : Int) > 0)
 else false then
 true
 else
 bif !hS (intOf (D.lit (Value.int IntKind.i64 (intOf (cellOf y 0))))) then
 decide ((↑(seqD (cellOf y 10)).length : Int) > 0)
 else false then
 true
 else
 bif !hW (intOf (D.lit (Value.int IntKind.i64 (intOf (cellOf y 0))))) then
 bif intOf (cellOf y 3) != 0 then true else intOf (cellOf y 4) != 0
 else false then
 p (V.d (D.lit (Value.bool true))) else
 (bif bif
 bif
 bif !hP (intOf (D.lit (Value.int IntKind.i64 (intOf (cellOf y 0))))) then
 bif intOf (cellOf y 11) != 0 then true
 else
 decide (IntKind.i64.wrap ((↑(seqD (cellOf y 12)).length : Int) + (↑(seqD (cellOf y 13)).length : Int)) > 0)
 else false then
 true
 else
 bif
 !hN (intOf (D.lit (Value.int IntKind.i64 (intOf (cellOf y 0)))))
 (intOf (D.lit (Value.int IntKind.i64 (intOf (cellOf y 1))))) then
 !(intOf (cellOf y 5) == 0 && (intOf (cellOf y 6) == 0 && true))
 else false then
 true
 else
 bif !hNm (intOf (D.lit (Value.int IntKind.i64 (intOf (cellOf y 0))))) then
 decide ((↑(seqD (cellOf y 7)).length : Int) > 0)
 else false then
 p (V.d (D.lit (Value.bool true))) else
 p
 (V.d
 (D.lit
 (Value.bool
 (bif
 bif
 bif
 bif !hWo (intOf (D.lit (Value.int IntKind.i64 (intOf (cellOf y 0))))) then boolOf (cellOf y 8)
 else false then
 true
 else
 bif !intOf (D.lit (Value.int IntKind.i64 (intOf (cellOf y 0)))) == 7 then intOf (cellOf y 9) != 0
 else false then
 true
 else
 bif
 !hT (intOf (D.lit (Value.int IntKind.i64 (intOf (cellOf y 0)))))
 (intOf (D.lit (Value.int IntKind.i64 (intOf (cellOf y 1))))) then
 !(strOf (cellOf y 14)).toList == (ByteArray.mk #[]).toList
 else false then
 true
 else (↑(seqD (cellOf y 15)).length : Int) != hA (intOf (D.lit (Value.int IntKind.i64 (intOf (cellOf y 0))))))))))))) := by kernel_rfl
noncomputable def foreignQ (y : D) : Bool :=
 (bif bif
 bif
 bif bif (↑(fnsD (intOf (cellOf y 0))).length : Int) == 0 then intOf (cellOf y 1) != 0 else false then true
 else
 bif !hM (intOf (D.lit (Value.int IntKind.i64 (intOf (cellOf y 0))))) then
 decide ((↑(seqD (cellOf y 2)).length : Int) > 0)
 else false then
 true
 else
 bif !hS (intOf (D.lit (Value.int IntKind.i64 (intOf (cellOf y 0))))) then
 decide ((↑(seqD (cellOf y 10)).length : Int) > 0)
 else false then
 true
 else
 bif !hW (intOf (D.lit (Value.int IntKind.i64 (intOf (cellOf y 0))))) then
 bif intOf (cellOf y 3) != 0 then true else intOf (cellOf y 4) != 0
 else false then
 true else
 (bif bif
 bif
 bif !hP (intOf (D.lit (Value.int IntKind.i64 (intOf (cellOf y 0))))) then
 bif intOf (cellOf y 11) != 0 then true
 else
 decide (IntKind.i64.wrap ((↑(seqD (cellOf y 12)).length : Int) + (↑(seqD (cellOf y 13)).length : Int)) > 0)
 else false then
 true
 else
 bif
 !hN (intOf (D.lit (Value.int IntKind.i64 (intOf (cellOf y 0)))))
 (intOf (D.lit (Value.int IntKind.i64 (intOf (cellOf y 1))))) then
 !(intOf (cellOf y 5) == 0 && (intOf (cellOf y 6) == 0 && true))
 else false then
 true
 else
 bif !hNm (intOf (D.lit (Value.int IntKind.i64 (intOf (cellOf y 0))))) then
 decide ((↑(seqD (cellOf y 7)).length : Int) > 0)
 else false then
 true else
 (bif
 bif
 bif
 bif !hWo (intOf (D.lit (Value.int IntKind.i64 (intOf (cellOf y 0))))) then boolOf (cellOf y 8)
 else false then
 true
 else
 bif !intOf (D.lit (Value.int IntKind.i64 (intOf (cellOf y 0)))) == 7 then intOf (cellOf y 9) != 0
 else false then
 true
 else
 bif
 !hT (intOf (D.lit (Value.int IntKind.i64 (intOf (cellOf y 0)))))
 (intOf (D.lit (Value.int IntKind.i64 (intOf (cellOf y 1))))) then
 !(strOf (cellOf y 14)).toList == (ByteArray.mk #[]).toList
 else false then
 true
 else (↑(seqD (cellOf y 15)).length : Int) != hA (intOf (D.lit (Value.int IntKind.i64 (intOf (cellOf y 0))))))))
noncomputable def c138 : Ct := ⟨fun | [x] => FitE x | _ => False, fun | [x] => some (.lit (.bool (foreignQ x))) | _ => none⟩
noncomputable def T138 : Tab := T100.add 138 c138
theorem w73 (y : D) (p : V → Prop) : (evBodyT (Cn T138) T138 noCS 0 noSp noHn 73 [V.d (eV y)] Heap.empty fun v H => p (freezeR H v)) =
 (bif bif decide (intOf (cellOf y 0) < 1) then true else decide (intOf (cellOf y 0) > 13) then
 p (V.d (D.lit (Value.int IntKind.i64 8))) else
 (True ∧
 (bif bif decide ((↑(fnsD (intOf (cellOf y 0))).length : Int) > 0) then
 bif decide (intOf (cellOf y 1) < 1) then true
 else decide (intOf (cellOf y 1) ≥ (↑(fnsD (intOf (cellOf y 0))).length : Int))
 else false then
 p (V.d (D.lit (Value.int IntKind.i64 8))) else
 (FitE (eV y) ∧
 (bif foreignQ (eV y) then
 p (V.d (D.lit (Value.int IntKind.i64 1))) else
 (FitE (eV y) ∧
 ((3 = 3 ∧ ∀ (y_1 : D), y_1 ∈ seqD (cellOf y 2) → FitM y_1 ∧ Bd y_1) ∧
 (bif matchersE (seqD (cellOf y 2)) != 0 then
 p (V.d (D.lit (Value.int IntKind.i64 (matchersE (seqD (cellOf y 2)))))) else
 (bif bif hW (intOf (D.lit (Value.int IntKind.i64 (intOf (cellOf y 0))))) then
 bif
 bif bif decide (intOf (cellOf y 3) < 1) then true else decide (intOf (cellOf y 3) > 1099511627776) then true
 else decide (intOf (cellOf y 4) < 0) then
 true
 else decide (intOf (cellOf y 4) > 1099511627776)
 else false then
 p (V.d (D.lit (Value.int IntKind.i64 2))) else
 (FitE (eV y) ∧
 (bif bif
 hN (intOf (D.lit (Value.int IntKind.i64 (intOf (cellOf y 0)))))
 (intOf (D.lit (Value.int IntKind.i64 (intOf (cellOf y 1))))) then
 numberE (eV y) != 0
 else false then
 p (V.d (D.lit (Value.int IntKind.i64 (numberE (eV y))))) else
 ((FitE (eV y) ∧ Bd (eV y)) ∧
 (bif namesE (seqD (D.slice (nilOf (cellOf y 7)) 1 (seqD (cellOf y 7))))
 (intOf (D.lit (Value.int IntKind.i64 (intOf (cellOf y 0)))) == 4) !=
 0 then
 p
 (V.d
 (D.lit
 (Value.int IntKind.i64
 (namesE (seqD (D.slice (nilOf (cellOf y 7)) 1 (seqD (cellOf y 7))))
 (intOf (D.lit (Value.int IntKind.i64 (intOf (cellOf y 0)))) == 4))))) else
 (bif bif decide (intOf (cellOf y 9) < 0) then true else decide (intOf (cellOf y 9) > 2) then
 p (V.d (D.lit (Value.int IntKind.i64 8))) else
 ((4 = 4 ∧ ∀ (y_1 : D), y_1 ∈ seqD (cellOf y 10) → FitG y_1 ∧ Bd y_1) ∧
 (bif stagesE (seqD (cellOf y 10)) != 0 then
 p (V.d (D.lit (Value.int IntKind.i64 (stagesE (seqD (cellOf y 10)))))) else
 ((FitP (paV y) ∧ Bd (paV y)) ∧
 (bif bif hP (intOf (D.lit (Value.int IntKind.i64 (intOf (cellOf y 0))))) then patCheckE (paV y) != 0 else false then
 p (V.d (D.lit (Value.int IntKind.i64 (patCheckE (paV y))))) else
 (bif hT (intOf (D.lit (Value.int IntKind.i64 (intOf (cellOf y 0)))))
 (intOf (D.lit (Value.int IntKind.i64 (intOf (cellOf y 1))))) then
 ((FitE (eV y) ∧ Bd (eV y)) ∧
 p (V.d (D.lit (Value.int IntKind.i64 (textQ (eV y)))))) else
 p (V.d (D.lit (Value.int IntKind.i64 0)))))))))))))))))))))) := by kernel_rfl
noncomputable def oneQ (y : D) : Int :=
 (bif bif decide (intOf (cellOf y 0) < 1) then true else decide (intOf (cellOf y 0) > 13) then
 8 else
 (bif bif decide ((↑(fnsD (intOf (cellOf y 0))).length : Int) > 0) then
 bif decide (intOf (cellOf y 1) < 1) then true
 else decide (intOf (cellOf y 1) ≥ (↑(fnsD (intOf (cellOf y 0))).length : Int))
 else false then
 8 else
 (bif foreignQ (eV y) then
 1 else
 (bif matchersE (seqD (cellOf y 2)) != 0 then
 (matchersE (seqD (cellOf y 2))) else
 (bif bif hW (intOf (D.lit (Value.int IntKind.i64 (intOf (cellOf y 0))))) then
 bif
 bif bif decide (intOf (cellOf y 3) < 1) then true else decide (intOf (cellOf y 3) > 1099511627776) then true
 else decide (intOf (cellOf y 4) < 0) then
 true
 else decide (intOf (cellOf y 4) > 1099511627776)
 else false then
 2 else
 (bif bif
 hN (intOf (D.lit (Value.int IntKind.i64 (intOf (cellOf y 0)))))
 (intOf (D.lit (Value.int IntKind.i64 (intOf (cellOf y 1))))) then
 numberE (eV y) != 0
 else false then
 (numberE (eV y)) else
 (bif namesE (seqD (D.slice (nilOf (cellOf y 7)) 1 (seqD (cellOf y 7))))
 (intOf (D.lit (Value.int IntKind.i64 (intOf (cellOf y 0)))) == 4) !=
 0 then
 (namesE (seqD (D.slice (nilOf (cellOf y 7)) 1 (seqD (cellOf y 7))))
 (intOf (D.lit (Value.int IntKind.i64 (intOf (cellOf y 0)))) == 4)) else
 (bif bif decide (intOf (cellOf y 9) < 0) then true else decide (intOf (cellOf y 9) > 2) then
 8 else
 (bif stagesE (seqD (cellOf y 10)) != 0 then
 (stagesE (seqD (cellOf y 10))) else
 (bif bif hP (intOf (D.lit (Value.int IntKind.i64 (intOf (cellOf y 0))))) then patCheckE (paV y) != 0 else false then
 (patCheckE (paV y)) else
 (bif hT (intOf (D.lit (Value.int IntKind.i64 (intOf (cellOf y 0)))))
 (intOf (D.lit (Value.int IntKind.i64 (intOf (cellOf y 1))))) then
 (textQ (eV y)) else
 0)))))))))))
noncomputable def c73 : Ct := ⟨fun | [x] => FitE x ∧ Bd x | _ => False, fun | [x] => some (.lit (.int .i64 (exprE x))) | _ => none⟩
noncomputable def T73 : Tab := T138.add 73 c73
def hF (k : Int) : Bool := ob (ob (ob (k == 2) (k == 3)) (k == 6)) (k == 7)
def nF (k : Int) : Int := bif k == 2 then 11 else bif k == 3 then 3 else bif k == 6 then 9 else bif k == 7 then 10 else 0
def gN (k f : Int) : Bool := numB (k == 1) k f
def gT (k f : Int) : Bool := textB (ob (k == 5) (k == 13)) k f
def argB (k f : Int) (y : D) : Bool := ob (!(butB (presB y 0) (hF k) == false && (butB (presB y 1) (k == 7) == false && (butB (presB y 2) (gN k f) == false && (butB (presB y 3) (gT k f) == false && (butB (presB y 4) (hM k) == false && (butB (presB y 5) (hP k) == false && (butB (presB y 6) (hS k) == false && (butB (presB y 7) (hW k) == false && (butB (presB y 8) (hNm k) == false && (butB (presB y 9) (hWo k) == false && true)))))))))))
 ((↑(seqD (cellOf y 15)).length : Int) != hA k)
noncomputable def restE (k f : Int) (y : D) : Int :=
 bif namesE (seqD (cellOf y 7)) (k == 4) != 0 then namesE (seqD (cellOf y 7)) (k == 4) else
 bif ob (decide (intOf (cellOf y 9) < 0)) (decide (intOf (cellOf y 9) > 2)) then 8 else
 bif stagesE (seqD (cellOf y 10)) != 0 then stagesE (seqD (cellOf y 10)) else
 bif ab (hP k) (patCheckE (paV y) != 0) then patCheckE (paV y) else
 bif gT k f then textE y else 0
noncomputable def genE (k f : Int) (y : D) : Int :=
 bif ob (decide (k < 1)) (decide (k > 13)) then 8 else
 bif ab (hF k) (ob (decide (f < 1)) (decide (f > nF k))) then 8 else
 bif argB k f y then 1 else
 bif ab (hM k) (matchersE (seqD (cellOf y 2)) != 0) then matchersE (seqD (cellOf y 2)) else
 bif ab (hW k) (ob (ob (ob (decide (intOf (cellOf y 3) < 1)) (decide (intOf (cellOf y 3) > 1099511627776))) (decide (intOf (cellOf y 4) < 0))) (decide (intOf (cellOf y 4) > 1099511627776))) then 2 else
 bif gN k f then (bif numberE y != 0 then numberE y else restE k f y) else restE k f y
theorem expr_gen (y : D) : exprE y = genE (intOf (cellOf y 0)) (intOf (cellOf y 1)) (eV y) := by
 unfold exprE
 generalize hk : intOf (cellOf y 0) = k
 generalize hf : intOf (cellOf y 1) = f
 by_cases h : 1 ≤ k ∧ k ≤ 13
 ·
  have h3 : k = 1 ∨ k = 2 ∨ k = 3 ∨ k = 4 ∨ k = 5 ∨ k = 6 ∨ k = 7 ∨ k = 8 ∨ k = 9 ∨ k = 10 ∨ k = 11 ∨ k = 12 ∨ k = 13 := by omega
  clear hk hf h
  rcases h3 with rfl | rfl | rfl | rfl | rfl | rfl | rfl | rfl | rfl | rfl | rfl | rfl | rfl <;> (show _ = _; kernel_rfl)
 ·
  have hne : ∀ i : Int, 1 ≤ i → i ≤ 13 → (k == i) = false := fun i h1 h2 => by
   have : k ≠ i := by omega
   simpa using this
  have e : ob (decide (k < 1)) (decide (k > 13)) = true := by
   show (bif decide (k < 1) then true else decide (k > 13)) = true
   rw [bif_or]
   simp
   omega
  unfold genE
  rw [e]
  rw [hne 1 (by decide) (by decide), hne 2 (by decide) (by decide), hne 3 (by decide) (by decide), hne 4 (by decide) (by decide), hne 5 (by decide) (by decide), hne 6 (by decide) (by decide), hne 7 (by decide) (by decide), hne 8 (by decide) (by decide), hne 9 (by decide) (by decide), hne 10 (by decide) (by decide), hne 11 (by decide) (by decide), hne 12 (by decide) (by decide), hne 13 (by decide) (by decide)]
  show _ = _
  kernel_rfl
noncomputable def genQ (k f : Int) (y : D) : Int :=
 bif ob (decide (k < 1)) (decide (k > 13)) then 8 else
 bif ab (decide (((fnsD k).length : Int) > 0)) (ob (decide (f < 1)) (decide (f ≥ ((fnsD k).length : Int)))) then 8 else
 bif foreignQ y then 1 else
 bif matchersE (seqD (cellOf y 2)) != 0 then matchersE (seqD (cellOf y 2)) else
 bif ab (hW k) (ob (ob (ob (decide (intOf (cellOf y 3) < 1)) (decide (intOf (cellOf y 3) > 1099511627776))) (decide (intOf (cellOf y 4) < 0))) (decide (intOf (cellOf y 4) > 1099511627776))) then 2 else
 bif ab (hN k f) (numberE y != 0) then numberE y else
 bif namesE (seqD (cellOf y 7)) (k == 4) != 0 then namesE (seqD (cellOf y 7)) (k == 4) else
 bif ob (decide (intOf (cellOf y 9) < 0)) (decide (intOf (cellOf y 9) > 2)) then 8 else
 bif stagesE (seqD (cellOf y 10)) != 0 then stagesE (seqD (cellOf y 10)) else
 bif ab (hP k) (patCheckE (paV y) != 0) then patCheckE (paV y) else
 bif hT k f then textQ y else 0
theorem one_gen (y : D) : oneQ y = genQ (intOf (cellOf y 0)) (intOf (cellOf y 1)) (eV y) := by
 unfold oneQ
 kernel_rfl
def argQ (k f : Int) (y : D) : Bool :=
 ob (ob (ob (ob (ob (ob (ob (ob (ob (ob (ab (!hF k) (presB y 0)) (ab (!hM k) (presB y 4))) (ab (!hS k) (presB y 6))) (ab (!hW k) (presB y 7))) (ab (!hP k) (presB y 5))) (ab (!hN k f) (presB y 2))) (ab (!hNm k) (presB y 8))) (ab (!hWo k) (presB y 9))) (ab (!(k == 7)) (presB y 1))) (ab (!hT k f) (presB y 3))) ((↑(seqD (cellOf y 15)).length : Int) != hA k)
theorem fns_len (k : Int) : decide (((fnsD k).length : Int) > 0) = hF k ∧ (hF k = true → ((fnsD k).length : Int) = nF k + 1) := by
 unfold fnsD hF nF
 by_cases h2 : k = 2
 ·
  subst h2; exact ⟨rfl, fun _ => rfl⟩
 by_cases h3 : k = 3
 ·
  subst h3; exact ⟨rfl, fun _ => rfl⟩
 by_cases h6 : k = 6
 ·
  subst h6; exact ⟨rfl, fun _ => rfl⟩
 by_cases h7 : k = 7
 ·
  subst h7; exact ⟨rfl, fun _ => rfl⟩
 have e2 : (k == 2) = false := by simpa using h2
 have e3 : (k == 3) = false := by simpa using h3
 have e6 : (k == 6) = false := by simpa using h6
 have e7 : (k == 7) = false := by simpa using h7
 rw [e2, e3, e6, e7]
 exact ⟨rfl, fun h => by cases h⟩
theorem foreign_eq (y : D) (hs : Short (subs y 12) ∧ Short (subs y 13)) : foreignQ y = argQ (intOf (cellOf y 0)) (intOf (cellOf y 1)) y := by
 unfold foreignQ argQ
 have e0 : (((fnsD (intOf (cellOf y 0))).length : Int) == 0) = !hF (intOf (cellOf y 0)) := by
  rw [← (fns_len _).1]
  cases fnsD (intOf (cellOf y 0)) with
  | nil => rfl
  | cons a l =>
   have h1 : (((a :: l).length : Int) == 0) = false := by simp only [List.length_cons, beq_eq_false_iff_ne, ne_eq]; omega
   have h2 : decide (((a :: l).length : Int) > 0) = true := by simp only [List.length_cons, decide_eq_true_eq]; omega
   rw [h1, h2]; rfl
 have e1 : (bif intOf (cellOf y 11) != 0 then true else decide (IntKind.i64.wrap ((↑(seqD (cellOf y 12)).length : Int) + (↑(seqD (cellOf y 13)).length : Int)) > 0)) = presB y 5 := by
  have h1 : (seqD (cellOf y 12)).length ≤ 1152921504606846976 := hs.1
  have h2 : (seqD (cellOf y 13)).length ≤ 1152921504606846976 := hs.2
  rw [wr (by omega) (by omega)]
  show _ = hasPat y
  unfold hasPat subs
  rw [bif_or]
  have : decide ((↑(seqD (cellOf y 12)).length : Int) + (↑(seqD (cellOf y 13)).length : Int) > 0) = (decide (0 < (seqD (cellOf y 12)).length) || decide (0 < (seqD (cellOf y 13)).length)) := by
   rw [← Bool.decide_or]; exact decide_eq_decide.2 (by omega)
  rw [this]
  congr 1
  cases h : (intOf (cellOf y 11) != 0) with
  | true => have := bne_t h; simp [this]
  | false => have := bne_f h; simp [this]
 rw [e0]
 show (bif ob (ob (ob (ab (!hF (intOf (cellOf y 0))) (presB y 0)) (ab (!hM (intOf (cellOf y 0))) (presB y 4))) (ab (!hS (intOf (cellOf y 0))) (presB y 6))) (ab (!hW (intOf (cellOf y 0))) (presB y 7)) then true else
  bif ob (ob (ab (!hP (intOf (cellOf y 0))) (bif intOf (cellOf y 11) != 0 then true else decide (IntKind.i64.wrap ((↑(seqD (cellOf y 12)).length : Int) + (↑(seqD (cellOf y 13)).length : Int)) > 0))) (ab (!hN (intOf (cellOf y 0)) (intOf (cellOf y 1))) (presB y 2))) (ab (!hNm (intOf (cellOf y 0))) (presB y 8)) then true else
  ob (ob (ob (ab (!hWo (intOf (cellOf y 0))) (presB y 9)) (ab (!(intOf (cellOf y 0) == 7)) (presB y 1))) (ab (!hT (intOf (cellOf y 0)) (intOf (cellOf y 1))) (presB y 3))) ((↑(seqD (cellOf y 15)).length : Int) != hA (intOf (cellOf y 0)))) = _
 rw [e1]
 simp only [ob, ab, bif_or, Bool.or_assoc]
theorem bools10 : ∀ x0 x1 x2 x3 x4 x5 x6 x7 x8 x9 c : Bool, ob (!(x0 == false && (x1 == false && (x2 == false && (x3 == false && (x4 == false && (x5 == false && (x6 == false && (x7 == false && (x8 == false && (x9 == false && true))))))))))) c =
  ob (ob (ob (ob (ob (ob (ob (ob (ob (ob x0 x4) x6) x7) x5) x2) x8) x9) x1) x3) c := by decide +kernel
theorem but_ab (p h : Bool) : butB p h = ab (!h) p := by cases p <;> cases h <;> rfl
theorem arg_eq {k f : Int} {y : D} (h1 : gN k f = hN k f) (h2 : gT k f = hT k f) : argB k f y = argQ k f y := by
 unfold argB argQ
 rw [h1, h2, bools10]
 simp only [but_ab]
theorem gT_eq (k f : Int) : gT k f = hT k f := by
 unfold gT textB hT
 by_cases h2 : k = 2
 ·
  subst h2; rfl
 by_cases h3 : k = 3
 ·
  subst h3
  show (f == 3) = ob (ob (ob (f == 3) false) false) false
  cases (f == 3) <;> rfl
 by_cases h6 : k = 6
 ·
  subst h6
  show (f == 8) = ob (ob (ob false false) (f == 8)) false
  cases (f == 8) <;> rfl
 have e2 : (k == 2) = false := by simpa using h2
 have e3 : (k == 3) = false := by simpa using h3
 have e6 : (k == 6) = false := by simpa using h6
 rw [e2, e3, e6]
 cases (k == 5) <;> cases (k == 13) <;> rfl
theorem gN_eq {k f : Int} (h : ab (hF k) (ob (decide (f < 1)) (decide (f > nF k))) = false) : gN k f = hN k f := by
 unfold gN numB hN
 by_cases h2 : k = 2
 ·
  subst h2
  have h : ob (decide (f < 1)) (decide (f > 11)) = false := h
  have := (or_f' h).2
  simp only [decide_eq_false_iff_not] at this
  show (ob (f == 10) (f == 11)) = ob (ob false (decide (f ≥ 10))) false
  by_cases h10 : f ≥ 10
  ·
   have : f = 10 ∨ f = 11 := by omega
   rcases this with rfl | rfl <;> rfl
  ·
   have d : decide (f ≥ 10) = false := by simpa using h10
   have e1 : (f == 10) = false := by simp; omega
   have e2 : (f == 11) = false := by simp; omega
   rw [d, e1, e2]; rfl
 by_cases h3 : k = 3
 ·
  subst h3; rfl
 by_cases h6 : k = 6
 ·
  subst h6; rfl
 have e2 : (k == 2) = false := by simpa using h2
 have e3 : (k == 3) = false := by simpa using h3
 have e6 : (k == 6) = false := by simpa using h6
 rw [e2, e3, e6]
 cases (k == 1) <;> rfl
theorem fn_eq (k f : Int) : ab (decide (((fnsD k).length : Int) > 0)) (ob (decide (f < 1)) (decide (f ≥ ((fnsD k).length : Int)))) = ab (hF k) (ob (decide (f < 1)) (decide (f > nF k))) := by
 obtain ⟨h1, h2⟩ := fns_len k
 rw [h1]
 cases h : hF k with
 | false => rfl
 | true =>
  have := h2 h
  have e : decide (f ≥ ((fnsD k).length : Int)) = decide (f > nF k) := decide_eq_decide.2 (by omega)
  rw [e]
theorem search_mem {β : Type} {f : Nat → Option β} : ∀ {n i : Nat} {b : β}, rounds (fun i _ => ofOpt (f i)) n i () = .inr b → ∃ j, f j = some b
 | 0, i, b, h => by cases h
 | n + 1, i, b, h => by
  unfold rounds at h
  cases hf : f i with
  | none => rw [hf] at h; exact search_mem h
  | some c => rw [hf] at h; exact ⟨i, by rw [hf]; simp only [ofOpt] at h; cases h; rfl⟩
theorem search_some {β : Type} {f : Nat → Option β} {n : Nat} {b : β} (h : search f n = some b) : ∃ j, f j = some b := by
 unfold search at h
 split at h
 ·
  rename_i c hc
  cases h
  exact search_mem hc
 ·
  cases h
theorem view_eq (s : ByteArray) : (bif !viewB s then (5 : Int) else 0) = (bif (bif decide ((s.size : Int) < 1) then true else decide ((s.size : Int) > 60)) then 5 else (match search (byteErr (bytesD s)) (bytesD s).length with | some e => e | none => 0)) := by
 unfold viewB
 have e1 : decide ((s.size : Int) > 0) = !decide ((s.size : Int) < 1) := by rw [← decide_not]; exact decide_eq_decide.2 (by omega)
 have e2 : decide ((s.size : Int) ≤ 60) = !decide ((s.size : Int) > 60) := by rw [← decide_not]; exact decide_eq_decide.2 (by omega)
 rw [e1, e2]
 cases h : search (byteErr (bytesD s)) (bytesD s).length with
 | none => cases decide ((s.size : Int) < 1) <;> cases decide ((s.size : Int) > 60) <;> rfl
 | some e =>
  obtain ⟨j, hj⟩ := search_some h
  unfold byteErr at hj
  have : e = 5 := by
   cases hb : (bif intOf ((bytesD s).getD j .any) != 95 then (bif decide (intOf ((bytesD s).getD j .any) < 97) then true else decide (intOf ((bytesD s).getD j .any) > 122)) else false) with
   | true => rw [hb] at hj; cases hj; rfl
   | false => rw [hb] at hj; cases hj
  subst this
  cases decide ((s.size : Int) < 1) <;> cases decide ((s.size : Int) > 60) <;> rfl
theorem text_eq {y : D} (h : hT (intOf (cellOf y 0)) (intOf (cellOf y 1)) = true) : textQ y = textE y := by
 unfold textQ textE
 generalize hk : intOf (cellOf y 0) = k at h ⊢
 have hcase : k = 3 ∨ k = 5 ∨ k = 6 ∨ k = 13 := by
  by_cases h3 : k = 3
  ·
   exact .inl h3
  by_cases h5 : k = 5
  ·
   exact .inr (.inl h5)
  by_cases h6 : k = 6
  ·
   exact .inr (.inr (.inl h6))
  by_cases h13 : k = 13
  ·
   exact .inr (.inr (.inr h13))
  exfalso
  unfold hT at h
  have e3 : (k == 3) = false := by simpa using h3
  have e5 : (k == 5) = false := by simpa using h5
  have e6 : (k == 6) = false := by simpa using h6
  have e13 : (k == 13) = false := by simpa using h13
  rw [e3, e5, e6, e13] at h
  cases h
 rcases hcase with rfl | rfl | rfl | rfl
 ·
  show (bif !isName (strOf (cellOf y 14)) then (5 : Int) else 0) = _
  rfl
 ·
  show (bif decide ((↑(strOf (cellOf y 14)).size : Int) > 60) then (4 : Int) else 0) = _
  rfl
 ·
  show (bif !isName (strOf (cellOf y 14)) then (5 : Int) else 0) = _
  rfl
 ·
  show (bif (bif !viewB (strOf (cellOf y 14)) then true else false) then (5 : Int) else 0) = _
  have : (bif !viewB (strOf (cellOf y 14)) then true else false) = !viewB (strOf (cellOf y 14)) := by cases viewB (strOf (cellOf y 14)) <;> rfl
  rw [this, view_eq]
  rfl
theorem gen_eq {y : D} (hs : Short (subs y 12) ∧ Short (subs y 13)) : genQ (intOf (cellOf y 0)) (intOf (cellOf y 1)) y = genE (intOf (cellOf y 0)) (intOf (cellOf y 1)) y := by
 unfold genQ genE
 rw [fn_eq]
 cases h1 : ob (decide (intOf (cellOf y 0) < 1)) (decide (intOf (cellOf y 0) > 13)) with
 | true => rfl
 | false =>
 cases h2 : ab (hF (intOf (cellOf y 0))) (ob (decide (intOf (cellOf y 1) < 1)) (decide (intOf (cellOf y 1) > nF (intOf (cellOf y 0))))) with
 | true => rfl
 | false =>
 have hgN := gN_eq h2
 rw [foreign_eq y hs, ← arg_eq hgN (gT_eq _ _)]
 cases h3 : argB (intOf (cellOf y 0)) (intOf (cellOf y 1)) y with
 | true => rfl
 | false =>
 simp only [cond_false]
 rw [hgN]
 unfold restE
 rw [gT_eq]
 have hM0 : hM (intOf (cellOf y 0)) = false → matchersE (seqD (cellOf y 2)) = 0 := fun hm => by
  have h4 : presB y 4 = false := by
   unfold argB at h3
   have h3 := (or_f' h3).1
   simp only [Bool.not_eq_false', Bool.and_eq_true, beq_iff_eq] at h3
   have := h3.2.2.2.2.1
   unfold butB at this
   rw [hm] at this
   cases hp : presB y 4 with
   | true => rw [hp] at this; cases this
   | false => rfl
  rw [len_nil h4]; rfl
 have e1 : ∀ R : Int, (bif matchersE (seqD (cellOf y 2)) != 0 then matchersE (seqD (cellOf y 2)) else R) = (bif ab (hM (intOf (cellOf y 0))) (matchersE (seqD (cellOf y 2)) != 0) then matchersE (seqD (cellOf y 2)) else R) := fun R => by
  cases hm : hM (intOf (cellOf y 0)) with
  | true => rfl
  | false => rw [hM0 hm]; rfl
 rw [e1]
 have e2 : ∀ (g N R : Int) (b : Bool), (bif ab b (N != 0) then N else R) = (bif b then (bif N != 0 then N else R) else R) := fun g N R b => by cases b <;> rfl
 rw [e2 0 (numberE y) _ (hN (intOf (cellOf y 0)) (intOf (cellOf y 1)))]
 have e3 : (bif hT (intOf (cellOf y 0)) (intOf (cellOf y 1)) then textQ y else 0) = (bif hT (intOf (cellOf y 0)) (intOf (cellOf y 1)) then textE y else 0) := by
  cases ht : hT (intOf (cellOf y 0)) (intOf (cellOf y 1)) with
  | true => rw [text_eq ht]
  | false => rfl
 rw [e3]
theorem one_eq {y : D} (hv : eV y = y) (hs : Short (subs y 12) ∧ Short (subs y 13)) : oneQ y = exprE y := by
 rw [one_gen, expr_gen, hv, gen_eq hs]
theorem k98 : TabOk B T98 := by
 refine add_body base k141 (fn := Tryz.f98) (cd := bodyOf Tryz.f98) (sp := noSp) (hn := noHn) Tryz.func98 (by kernel_rfl) (by kernel_rfl) noSp_ok fun ds r hp hr => ?_
 unfold c98 at hp hr
 simp only [] at hr hp
 split at hr
 ·
  rename_i x
  cases hr
  rw [arg1 (FitE.v hp)]
  refine keep (w98 x fun v => v = _) ?_
  refine cond_split (fun g => ?_) (fun g => ?_)
  ·
   have g' : ob (intOf (cellOf x 0) == 6) (intOf (cellOf x 0) == 12) = true := g
   refine cond_split (fun g => ?_) (fun g => ?_)
   ·
    have e : hA (intOf (cellOf x 0)) = 2 := by unfold hA; rw [g]; rfl
    rw [e]; rfl
   ·
    have e : hA (intOf (cellOf x 0)) = 1 := by unfold hA; rw [g, g']; rfl
    rw [e]; rfl
  ·
   have g' : ob (intOf (cellOf x 0) == 6) (intOf (cellOf x 0) == 12) = false := g
   refine cond_split (fun g => ?_) (fun g => ?_)
   ·
    have e : hA (intOf (cellOf x 0)) = 2 := by unfold hA; rw [g]; rfl
    rw [e]; rfl
   ·
    have e : hA (intOf (cellOf x 0)) = 0 := by unfold hA; rw [g, g']; rfl
    rw [e]; rfl
 ·
  cases hr
theorem k100 : TabOk B T100 := by
 refine add_body base k98 (fn := Tryz.f100) (cd := bodyOf Tryz.f100) (sp := noSp) (hn := noHn) Tryz.func100 (by kernel_rfl) (by kernel_rfl) noSp_ok fun ds r hp hr => ?_
 unfold c100 at hr
 simp only [] at hr
 split at hr
 ·
  rename_i k
  cases hr
  have hw := w100 k fun v => v = .d (.slice false 1 (fnsD k))
  refine keep hw ?_
  clear hw
  unfold fnsD
  refine cond_split (fun g => ?_) (fun g => ?_)
  ·
   rw [g]; show _ = _; kernel_rfl
  rw [g]
  refine cond_split (fun g => ?_) (fun g => ?_)
  ·
   rw [g]; show _ = _; kernel_rfl
  rw [g]
  refine cond_split (fun g => ?_) (fun g => ?_)
  ·
   rw [g]; show _ = _; kernel_rfl
  rw [g]
  refine cond_split (fun g => ?_) (fun g => ?_)
  ·
   rw [g]; show _ = _; kernel_rfl
  rw [g]; show _ = _; kernel_rfl
 ·
  cases hr
theorem k138 : TabOk B T138 := by
 refine add_body base k100 (fn := Tryz.f138) (cd := bodyOf Tryz.f138) (sp := noSp) (hn := noHn) Tryz.func138 (by kernel_rfl) (by kernel_rfl) noSp_ok fun ds r hp hr => ?_
 unfold c138 at hp hr
 simp only [] at hr hp
 split at hr
 ·
  rename_i x
  cases hr
  rw [arg1 (FitE.v hp)]
  refine keep (w138 x fun v => v = _) ?_
  unfold foreignQ
  rw [FitE.v hp]
  (repeat' (first | with_reducible rfl | (refine cond_split (fun hcw => ?_) (fun hcw => ?_) <;> simp only [hcw, cond_true, cond_false]) | refine and_i ?_ ?_))
  all_goals first | trivial | exact hp
 ·
  cases hr
theorem k73 : TabOk B T73 := by
 refine add_body base k138 (fn := Tryz.f73) (cd := bodyOf Tryz.f73) (sp := noSp) (hn := noHn) Tryz.func73 (by kernel_rfl) (by kernel_rfl) noSp_ok fun ds r hp hr => ?_
 unfold c73 at hp hr
 simp only [] at hr hp
 split at hr
 ·
  rename_i x
  cases hr
  obtain ⟨hx, hb⟩ := hp
  rw [arg1 hx.v, ← one_eq hx.v ⟨hx.p.l.1, hx.p.l.2⟩]
  refine keep (w73 x fun v => v = _) ?_
  unfold oneQ
  rw [hx.v]
  have h2 : ∀ y ∈ seqD (cellOf x 2), FitM y ∧ Bd y := fun y hy => ⟨hx.m y hy, hb.sub hy⟩
  have h10 : ∀ y ∈ seqD (cellOf x 10), FitG y ∧ Bd y := fun y hy => ⟨hx.s y hy, hb.sub hy⟩
  have hpp : FitP (paV x) := hx.p
  have b12 : Bd (lC x 12 4) := show BdL _ from BdL_of fun a ha => hb.sub ha
  have b13 : Bd (lC x 13 3) := show BdL _ from BdL_of fun a ha => hb.sub ha
  (repeat' (first | with_reducible rfl | (refine cond_split (fun hcw => ?_) (fun hcw => ?_) <;> simp only [hcw, cond_true, cond_false]) | refine and_i ?_ ?_))
  all_goals first | trivial | assumption
 ·
  cases hr
abbrev tyD : List D := [intD 0, intD 1, intD 2, intD 2, intD 2, intD 2, intD 2, intD 2, intD 3, intD 4, intD 5, intD 4, intD 3, intD 0]
noncomputable def c46 : Ct := ⟨fun | [x] => FitE x ∧ Bd x | _ => False, fun | [x] => some (.lit (.int .i64 (partsE x))) | _ => none⟩
noncomputable def U46 (κ : Nat) : Tab := T73.add 46 (c46.below μ1 κ)
noncomputable def T46 : Tab := T73.add 46 c46
noncomputable def l46 : Code := roundOf (pieceAt (bodyOf Tryz.f46) 10)
theorem b46 (κ : Nat) (y : D) (i : Int) (R : X → List V → List Box → Prop) : (roundT (Cn (U46 κ)) (U46 κ) noCS 0 noSp noHn l46 27 [1, 4] [[5000]] [] [([5000], [5000])] [2] []
 [V.ptr [5000] 0, lint i] [eBox y] R) =
 (bif decide (i < (↑(seqD (cellOf y 15)).length : Int)) then
 ((((0 : Int) ≤ i) ∧ (i.toNat < (seqD (cellOf y 15)).length ∧ eV ((seqD (cellOf y 15)).getD i.toNat D.any) = (seqD (cellOf y 15)).getD i.toNat D.any)) ∧
 (((FitE (eV ((seqD (cellOf y 15)).getD i.toNat D.any)) ∧ Bd (eV ((seqD (cellOf y 15)).getD i.toNat D.any))) ∧ μ1 [eV ((seqD (cellOf y 15)).getD i.toNat D.any)] < κ) ∧
 (bif partsE (eV ((seqD (cellOf y 15)).getD i.toNat D.any)) != 0 then
 (27 = 27 ∧
 R X.ret [V.d (D.lit (Value.int IntKind.i64 (partsE (eV ((seqD (cellOf y 15)).getD i.toNat D.any)))))] []) else
 (27 = 27 ∧
 R X.normal [V.ptr [5000] 0, V.d (D.lit (Value.int IntKind.i64 (IntKind.i64.wrap (i + 1))))]
 [eBox y])))) else
 (27 = 27 ∧
 R (X.exit 0) [V.any] [])) := by kernel_rfl
noncomputable def S46 (rec : D → Int) (κ : Nat) : Ev.Spec := { L := [1,4], ns := [([5000],[3])], L' := [2], nm' := [], G := fun N vals bs k => match vals, bs with
 | [.ptr [5000] 0, .d (.lit (.int .i64 i))], [.cells 33 [a0, a1, a2, a3, a4, a5, a6, a7, a8, a9, a10, a11, a12, a13, a14, .d (.slice b 16 xs)]] => (IsE [a0, a1, a2, a3, a4, a5, a6, a7, a8, a9, a10, a11, a12, a13, a14, .d (.slice b 16 xs)] ∧ N = 27 ∧ rec = partsE ∧ i = 0 ∧ Short xs ∧ ∀ y ∈ xs, (FitE y ∧ Bd y) ∧ dsz y < κ) ∧ optE (search (firstF rec xs) xs.length) (k (.exit 0) [.any] []) (fun e => k .ret [lint e] [])
 | _, _ => False }
theorem w46 (rec : D → Int) (κ : Nat) (y : D) (p : V → Prop) : (evBodyT (Cn (U46 κ)) (U46 κ) noCS 0 (spL [(10, S46 rec κ)]) noHn 46 [V.d (eV y)] Heap.empty fun v H => p (freezeR H v)) =
 ((FitE (eV y) ∧ Bd (eV y)) ∧
 (bif exprE (eV y) != 0 then
 p (V.d (D.lit (Value.int IntKind.i64 (exprE (eV y))))) else
 ((IsE (eCells y) ∧ (27 = 27 ∧ (rec = partsE ∧ (((0 : Int) = 0) ∧ (Short (seqD (cellOf y 15)) ∧ ∀ (y_1 : D), y_1 ∈ seqD (cellOf y 15) → (FitE y_1 ∧ Bd y_1) ∧ dsz y_1 < κ))))) ∧
 (match search (firstF rec (seqD (cellOf y 15))) (seqD (cellOf y 15)).length with
 | some y0 =>
 p (V.d (D.lit (Value.int IntKind.i64 y0)))
 | none => p (V.d (D.lit (Value.int IntKind.i64 0))))))) := by kernel_rfl
noncomputable def U45 (κ : Nat) : Tab := T46.add 45 (c43.below μ1 κ)
noncomputable def T45 : Tab := T46.add 45 c43
noncomputable def l45 : Code := roundOf (pieceAt (bodyOf Tryz.f45) 6)
theorem b45 (κ : Nat) (y : D) (i : Int) (m : Int) (R : X → List V → List Box → Prop) : (roundT (Cn (U45 κ)) (U45 κ) noCS 0 noSp noHn l45 22 [1, 3, 4] [[5000]] [] [([5000], [5000])] [3] []
 [V.ptr [5000] 0, lint m, lint i] [eBox y] R) =
 (bif decide (i < (↑(seqD (cellOf y 15)).length : Int)) then
 ((((0 : Int) ≤ i) ∧ (i.toNat < (seqD (cellOf y 15)).length ∧ eV ((seqD (cellOf y 15)).getD i.toNat D.any) = (seqD (cellOf y 15)).getD i.toNat D.any)) ∧
 (((FitE (eV ((seqD (cellOf y 15)).getD i.toNat D.any)) ∧ etot (eV ((seqD (cellOf y 15)).getD i.toNat D.any)) ≤ 100) ∧ μ1 [eV ((seqD (cellOf y 15)).getD i.toNat D.any)] < κ) ∧
 (22 = 22 ∧
 R X.normal
 [V.ptr [5000] 0,
 V.d
 (D.lit
 (Value.int IntKind.i64
 (bif true then
 if (↑(edep (eV ((seqD (cellOf y 15)).getD i.toNat D.any))) : Int) > m then
 (↑(edep (eV ((seqD (cellOf y 15)).getD i.toNat D.any))) : Int)
 else m
 else
 if (↑(edep (eV ((seqD (cellOf y 15)).getD i.toNat D.any))) : Int) < m then
 (↑(edep (eV ((seqD (cellOf y 15)).getD i.toNat D.any))) : Int)
 else m))),
 V.d (D.lit (Value.int IntKind.i64 (IntKind.i64.wrap (i + 1))))]
 [eBox y]))) else
 (22 = 22 ∧
 R (X.exit 0) [V.d (D.lit (Value.int IntKind.i64 m))] [])) := by kernel_rfl
noncomputable def S45 (κ : Nat) : Ev.Spec := { L := [1,3,4], ns := [([5000],[3])], L' := [3], nm' := [], G := fun N vals bs k => match vals, bs with
 | [.ptr [5000] 0, .d (.lit (.int .i64 m)), .d (.lit (.int .i64 i))], [.cells 33 [a0, a1, a2, a3, a4, a5, a6, a7, a8, a9, a10, a11, a12, a13, a14, .d (.slice b 16 xs)]] => (IsE [a0, a1, a2, a3, a4, a5, a6, a7, a8, a9, a10, a11, a12, a13, a14, .d (.slice b 16 xs)] ∧ N = 22 ∧ i = 0 ∧ m = 0 ∧ xs.length ≤ 100 ∧ ∀ y ∈ xs, (FitE y ∧ etot y ≤ 100) ∧ dsz y < κ) ∧ k (.exit 0) [lint (maxL (xs.map edep) : Nat)] []
 | _, _ => False }
theorem w45 (κ : Nat) (y : D) (p : V → Prop) : (evBodyT (Cn (U45 κ)) (U45 κ) noCS 0 (spL [(6, S45 κ)]) noHn 45 [V.d (eV y)] Heap.empty fun v H => p (freezeR H v)) =
 ((IsE (eCells y) ∧ (22 = 22 ∧ (((0 : Int) = 0) ∧ (((0 : Int) = 0) ∧ ((seqD (cellOf y 15)).length ≤ 100 ∧ ∀ (y_1 : D), y_1 ∈ seqD (cellOf y 15) → (FitE y_1 ∧ etot y_1 ≤ 100) ∧ dsz y_1 < κ))))) ∧
 p (V.d (D.lit (Value.int IntKind.i64 (IntKind.i64.wrap ((↑(maxL (List.map edep (seqD (cellOf y 15)))) : Int) + 1)))))) := by kernel_rfl
theorem w18 (y : D) (p : V → Prop) : (evBodyT (Cn T45) T45 noCS 0 noSp noHn 18 [V.d (eV y)] Heap.empty fun v H => p (freezeR H v)) =
 (FitE (eV y) ∧
 (bif decide
 ((bif false then if 101 > cntE (eV y) 0 then 101 else cntE (eV y) 0
 else if 101 < cntE (eV y) 0 then 101 else cntE (eV y) 0) >
 100) then
 p (V.d (D.lit (Value.int IntKind.i64 4))) else
 ((FitE (eV y) ∧ etot (eV y) ≤ 100) ∧
 (bif decide ((↑(edep (eV y)) : Int) > 12) then
 p (V.d (D.lit (Value.int IntKind.i64 30))) else
 ((FitE (eV y) ∧ Bd (eV y)) ∧
 p (V.d (D.lit (Value.int IntKind.i64 (partsE (eV y)))))))))) := by kernel_rfl
noncomputable def c18 : Ct := ⟨fun | [x] => FitE x ∧ Bd x | _ => False, fun | [x] => some (.lit (.int .i64 (checkE x))) | _ => none⟩
noncomputable def T18 : Tab := T45.add 18 c18
noncomputable def c42 : Ct := ⟨fun | [x] => FitE x ∧ etot x ≤ 100 ∧ partsE x = 0 | _ => False, fun | [x] => some (.lit (.int .i64 (typeE x))) | _ => none⟩
noncomputable def U42 (κ : Nat) : Tab := T18.add 42 (c42.below μ1 κ)
noncomputable def T42 : Tab := T18.add 42 c42
noncomputable def l42 : Code := roundOf (pieceAt (bodyOf Tryz.f42) 8)
abbrev nm42 : List (Name × Name) := [([5000],[5000]),([5001],[5001]),([5002],[5002])]
noncomputable def S42 (rec : D → Int) (κ : Nat) : Ev.Spec := { L := [1,3,4,5], ns := [([5000],[3]),([5001],[8]),([5002],[9])], L' := [1,3,4], nm' := [[5000],[5001],[5002]], G := fun N vals bs k => match vals, bs with
 | [.ptr [5000] 0, .ref [5001], .ref [5002], .d (.lit (.int .i64 i))], [.cells 33 [a0, a1, a2, a3, a4, a5, a6, a7, a8, a9, a10, a11, a12, a13, a14, .d (.slice b 16 xs)], .arr true false 3 1 t0 [], .arr true false 3 1 [] []] => (IsE [a0, a1, a2, a3, a4, a5, a6, a7, a8, a9, a10, a11, a12, a13, a14, .d (.slice b 16 xs)] ∧ N = 114 ∧ rec = typeE ∧ i = 0 ∧ xs.length ≤ 100 ∧ ∀ y ∈ xs, (FitE y ∧ etot y ≤ 100 ∧ partsE y = 0) ∧ dsz y < κ) ∧ k (.exit 0) [.ptr [5000] 0, .ref [5001], .ref [5002]] [.cells 33 [a0, a1, a2, a3, a4, a5, a6, a7, a8, a9, a10, a11, a12, a13, a14, .d (.slice b 16 xs)], .arr true false 3 1 t0 [], .arr true false 3 1 (xs.map fun a => intD (rec a)) []]
 | _, _ => False }
theorem b42 (κ : Nat) (t0 : List D) (ts : List D) (y : D) (i : Int) (R : X → List V → List Box → Prop) : (roundT (Cn (U42 κ)) (U42 κ) noCS 0 noSp noHn l42 114 [1, 3, 4, 5] [[5000], [5001], [5002]] []
 [([5000], [5000]), ([5001], [5001]), ([5002], [25])] [1, 3, 4] nm42
 [V.ptr [5000] 0, V.ref [5001], V.ref [5002], lint i]
 [eBox y, Box.arr true false 3 1 t0 [], Box.arr true false 3 1 ts []] R) =
 (bif decide (i < (↑(seqD (cellOf y 15)).length : Int)) then
 ((((0 : Int) ≤ i) ∧ (i.toNat < (seqD (cellOf y 15)).length ∧ eV ((seqD (cellOf y 15)).getD i.toNat D.any) = (seqD (cellOf y 15)).getD i.toNat D.any)) ∧
 (((FitE (eV ((seqD (cellOf y 15)).getD i.toNat D.any)) ∧ (etot (eV ((seqD (cellOf y 15)).getD i.toNat D.any)) ≤ 100 ∧ ((partsE (eV ((seqD (cellOf y 15)).getD i.toNat D.any)) : Int) = 0))) ∧ μ1 [eV ((seqD (cellOf y 15)).getD i.toNat D.any)] < κ) ∧
 (bif ((ts.length + 1) * 8).ble 70368744177664 then
 (114 = 114 ∧
 R X.normal [V.ptr [5000] 0, V.ref [5001], V.ref [5002], V.d (D.lit (Value.int IntKind.i64 (IntKind.i64.wrap (i + 1))))]
 [eBox y,
 Box.arr true false 3 1 t0 [],
 Box.arr true false 3 1
 (ts ++ [D.lit (Value.int IntKind.i64 (typeE (eV ((seqD (cellOf y 15)).getD i.toNat D.any))))]) []]) else
 False))) else
 (114 = 114 ∧
 R (X.exit 0) [V.ptr [5000] 0, V.ref [5001], V.ref [5002]]
 [eBox y,
 Box.arr true false 3 1 t0 [], Box.arr true false 3 1 ts []])) := by kernel_rfl
theorem w42 (rec : D → Int) (κ : Nat) (y : D) (p : V → Prop) : (evBodyT (Cn (U42 κ)) (U42 κ) noCS 0 (spL [(8, S42 rec κ)]) noHn 42 [V.d (eV y)] Heap.empty fun v H => p (freezeR H v)) =
 ((IsE (eCells y) ∧ (114 = 114 ∧ (rec = typeE ∧ (((0 : Int) = 0) ∧ ((seqD (cellOf y 15)).length ≤ 100 ∧ ∀ (y_1 : D), y_1 ∈ seqD (cellOf y 15) → (FitE y_1 ∧ etot y_1 ≤ 100 ∧ partsE y_1 = 0) ∧ dsz y_1 < κ))))) ∧
 (((intOf (cellOf y 0) == 6 && true) = true → (((0 : Int) ≤ 0) ∧ (0 < (List.map (fun a => intD (rec a)) (seqD (cellOf y 15))).length ∧ D.lit (Value.int IntKind.i64 (intOf ((List.map (fun a => intD (rec a)) (seqD (cellOf y 15))).getD 0 D.any))) =
 (List.map (fun a => intD (rec a)) (seqD (cellOf y 15))).getD 0 D.any))) ∧
 (((intOf (cellOf y 0) == 12 &&
 ((!bif intOf (cellOf y 0) == 6 then
 intOf ((List.map (fun a => intD (rec a)) (seqD (cellOf y 15))).getD 0 D.any) != 2
 else false) &&
 true)) =
 true → (((0 : Int) ≤ 0) ∧ (0 < (List.map (fun a => intD (rec a)) (seqD (cellOf y 15))).length ∧ D.lit (Value.int IntKind.i64 (intOf ((List.map (fun a => intD (rec a)) (seqD (cellOf y 15))).getD 0 D.any))) =
 (List.map (fun a => intD (rec a)) (seqD (cellOf y 15))).getD 0 D.any))) ∧
 (bif bif
 bif intOf (cellOf y 0) == 6 then intOf ((List.map (fun a => intD (rec a)) (seqD (cellOf y 15))).getD 0 D.any) != 2
 else false then
 true
 else
 bif intOf (cellOf y 0) == 12 then intOf ((List.map (fun a => intD (rec a)) (seqD (cellOf y 15))).getD 0 D.any) != 4
 else false then
 p (V.d (D.lit (Value.int IntKind.i64 0))) else
 (((!intOf (cellOf y 0) != 7 && true) = true → (((0 : Int) ≤ 0) ∧ (0 < (List.map (fun a => intD (rec a)) (seqD (cellOf y 15))).length ∧ D.lit (Value.int IntKind.i64 (intOf ((List.map (fun a => intD (rec a)) (seqD (cellOf y 15))).getD 0 D.any))) =
 (List.map (fun a => intD (rec a)) (seqD (cellOf y 15))).getD 0 D.any))) ∧
 (((intOf ((List.map (fun a => intD (rec a)) (seqD (cellOf y 15))).getD 0 D.any) == 2 &&
 (!intOf (cellOf y 0) != 7 && true)) =
 true → (((0 : Int) ≤ 1) ∧ (1 < (List.map (fun a => intD (rec a)) (seqD (cellOf y 15))).length ∧ D.lit (Value.int IntKind.i64 (intOf ((List.map (fun a => intD (rec a)) (seqD (cellOf y 15))).getD 1 D.any))) =
 (List.map (fun a => intD (rec a)) (seqD (cellOf y 15))).getD 1 D.any))) ∧
 (bif bif intOf (cellOf y 0) != 7 then true
 else
 bif intOf ((List.map (fun a => intD (rec a)) (seqD (cellOf y 15))).getD 0 D.any) == 2 then
 intOf ((List.map (fun a => intD (rec a)) (seqD (cellOf y 15))).getD 1 D.any) == 2
 else false then
 ((((0 : Int) ≤ intOf (cellOf y 0)) ∧ ((intOf (cellOf y 0)).toNat < 14 ∧ D.lit
 (Value.int IntKind.i64
 (intOf
 (tyD.getD
 (intOf (cellOf y 0)).toNat D.any))) =
 tyD.getD
 (intOf (cellOf y 0)).toNat D.any)) ∧
 p
 (V.d
 (D.lit
 (Value.int IntKind.i64
 (intOf
 (tyD.getD
 (intOf (cellOf y 0)).toNat D.any)))))) else
 ((((0 : Int) ≤ 0) ∧ (0 < (List.map (fun a => intD (rec a)) (seqD (cellOf y 15))).length ∧ D.lit (Value.int IntKind.i64 (intOf ((List.map (fun a => intD (rec a)) (seqD (cellOf y 15))).getD 0 D.any))) =
 (List.map (fun a => intD (rec a)) (seqD (cellOf y 15))).getD 0 D.any)) ∧
 (((intOf ((List.map (fun a => intD (rec a)) (seqD (cellOf y 15))).getD 0 D.any) != 1 && true) = true → (((0 : Int) ≤ 0) ∧ (0 < (List.map (fun a => intD (rec a)) (seqD (cellOf y 15))).length ∧ D.lit (Value.int IntKind.i64 (intOf ((List.map (fun a => intD (rec a)) (seqD (cellOf y 15))).getD 0 D.any))) =
 (List.map (fun a => intD (rec a)) (seqD (cellOf y 15))).getD 0 D.any))) ∧
 ((((!bif intOf ((List.map (fun a => intD (rec a)) (seqD (cellOf y 15))).getD 0 D.any) != 1 then
 intOf ((List.map (fun a => intD (rec a)) (seqD (cellOf y 15))).getD 0 D.any) != 2
 else false) &&
 true) =
 true → (((0 : Int) ≤ 1) ∧ (1 < (List.map (fun a => intD (rec a)) (seqD (cellOf y 15))).length ∧ D.lit (Value.int IntKind.i64 (intOf ((List.map (fun a => intD (rec a)) (seqD (cellOf y 15))).getD 1 D.any))) =
 (List.map (fun a => intD (rec a)) (seqD (cellOf y 15))).getD 1 D.any))) ∧
 (((intOf ((List.map (fun a => intD (rec a)) (seqD (cellOf y 15))).getD 1 D.any) != 1 &&
 ((!bif intOf ((List.map (fun a => intD (rec a)) (seqD (cellOf y 15))).getD 0 D.any) != 1 then
 intOf ((List.map (fun a => intD (rec a)) (seqD (cellOf y 15))).getD 0 D.any) != 2
 else false) &&
 true)) =
 true → (((0 : Int) ≤ 1) ∧ (1 < (List.map (fun a => intD (rec a)) (seqD (cellOf y 15))).length ∧ D.lit (Value.int IntKind.i64 (intOf ((List.map (fun a => intD (rec a)) (seqD (cellOf y 15))).getD 1 D.any))) =
 (List.map (fun a => intD (rec a)) (seqD (cellOf y 15))).getD 1 D.any))) ∧
 (bif bif
 bif
 bif
 bif
 bif intOf ((List.map (fun a => intD (rec a)) (seqD (cellOf y 15))).getD 0 D.any) != 1 then
 intOf ((List.map (fun a => intD (rec a)) (seqD (cellOf y 15))).getD 0 D.any) != 2
 else false then
 true
 else
 bif intOf ((List.map (fun a => intD (rec a)) (seqD (cellOf y 15))).getD 1 D.any) != 1 then
 intOf ((List.map (fun a => intD (rec a)) (seqD (cellOf y 15))).getD 1 D.any) != 2
 else false then
 true
 else decide ((↑(seqD (cellOf y 7)).length : Int) > 0) then
 true
 else boolOf (cellOf y 8) then
 true
 else intOf (cellOf y 9) != 0 then
 p (V.d (D.lit (Value.int IntKind.i64 0))) else
 ((((0 : Int) ≤ 0) ∧ (0 < (List.map (fun a => intD (rec a)) (seqD (cellOf y 15))).length ∧ D.lit (Value.int IntKind.i64 (intOf ((List.map (fun a => intD (rec a)) (seqD (cellOf y 15))).getD 0 D.any))) =
 (List.map (fun a => intD (rec a)) (seqD (cellOf y 15))).getD 0 D.any)) ∧
 (((!intOf ((List.map (fun a => intD (rec a)) (seqD (cellOf y 15))).getD 0 D.any) == 2 && true) = true → (((0 : Int) ≤ 1) ∧ (1 < (List.map (fun a => intD (rec a)) (seqD (cellOf y 15))).length ∧ D.lit (Value.int IntKind.i64 (intOf ((List.map (fun a => intD (rec a)) (seqD (cellOf y 15))).getD 1 D.any))) =
 (List.map (fun a => intD (rec a)) (seqD (cellOf y 15))).getD 1 D.any))) ∧
 (bif bif intOf ((List.map (fun a => intD (rec a)) (seqD (cellOf y 15))).getD 0 D.any) == 2 then true
 else intOf ((List.map (fun a => intD (rec a)) (seqD (cellOf y 15))).getD 1 D.any) == 2 then
 p (V.d (D.lit (Value.int IntKind.i64 2))) else
 (bif decide (intOf (cellOf y 1) ≥ 5) then
 p (V.d (D.lit (Value.int IntKind.i64 0))) else
 p (V.d (D.lit (Value.int IntKind.i64 1))))))))))))))))))) := by kernel_rfl
theorem w16 (y : D) (p : V → Prop) : (evBodyT (Cn T42) T42 noCS 0 noSp noHn 16 [V.d (eV y)] Heap.empty fun v H => p (freezeR H v)) =
 ((FitE (eV y) ∧ Bd (eV y)) ∧
 (bif checkE (eV y) != 0 then
 p (V.d (D.tup [D.lit (Value.int IntKind.i64 0), D.lit (Value.int IntKind.i64 (checkE (eV y)))])) else
 ((FitE (eV y) ∧ (etot (eV y) ≤ 100 ∧ ((partsE (eV y) : Int) = 0))) ∧
 (bif typeE (eV y) == 0 then
 p (V.d (D.tup [D.lit (Value.int IntKind.i64 0), D.lit (Value.int IntKind.i64 15)])) else
 p (V.d (D.tup [D.lit (Value.int IntKind.i64 (typeE (eV y))), D.lit (Value.int IntKind.i64 0)])))))) := by kernel_rfl
noncomputable def c15q : Ct := ⟨fun | [x] => FitE x ∧ Bd x | _ => False, fun | [x] => some (.tup [intD (bif checkE x != 0 then 0 else typeE x), intD (bif checkE x != 0 then checkE x else bif typeE x == 0 then 15 else 0)]) | _ => none⟩
noncomputable def T16 : Tab := T42.add 16 c15q
theorem ok46 {κ : Nat} (hk : TabOk B (U46 κ)) : OkS (Cn (U46 κ)) 0 (.loop l46) (S46 partsE κ) := by
 refine okS_loop fun N vals bs K h => ?_
 simp only [S46] at h
 split at h
 case h_2 => exact h.elim
 rename_i i a0 a1 a2 a3 a4 a5 a6 a7 a8 a9 a10 a11 a12 a13 a14 b xs
 obtain ⟨⟨⟨y, hy⟩, rfl, _, rfl, hsh, hall⟩, h⟩ := h
 have hxs : xs = seqD (cellOf y 15) := by
  have := congrArg (fun l : List V => l.getD 15 .any) hy
  simp at this
  exact this.2
 rw [hy]
 subst hxs
 have hs : (seqD (cellOf y 15)).length ≤ 1152921504606846976 := hsh
 refine search_loop (tab_fit base hk noCS_valid) tab_has noSp_ok (hn := noHn) (adsI := []) (nsI := [([5000],[5000])]) (nsX := []) rfl rfl (seqD (cellOf y 15)).length
  (fun i => [.ptr [5000] 0, lint i]) (fun _ => [eBox y]) (firstF partsE (seqD (cellOf y 15))) (fun e => (.ret, [lint e], [])) (by simp) (.exit 0) [.any] [] (by simp) ?_ ?_ h
 ·
  intro i R hi hR
  refine keep (b46 κ y i R) ?_
  have e1 : decide ((i : Int) < (seqD (cellOf y 15)).length) = true := by simp; omega
  have e2 : IntKind.i64.wrap ((i : Int) + 1) = ((i + 1 : Nat) : Int) := by rw [Go.IntWalk.i64_in _ (by omega)]; omega
  obtain ⟨hv, hlt⟩ := hall _ (getD_mem hi)
  rw [e1]
  simp only [Int.toNat_natCast, e2, cond_true, hv.1.v]
  refine ⟨⟨by omega, hi, (by trivial)⟩, ⟨hv, hlt⟩, cond_split (fun h1 => ⟨(by trivial), ?_⟩) (fun h1 => ⟨(by trivial), ?_⟩)⟩ <;> (simp only [firstF, h1, cond_true, cond_false, optE] at hR; exact hR)
 ·
  intro R hR
  refine keep (b46 κ y (seqD (cellOf y 15)).length R) ?_
  have e1 : decide (((seqD (cellOf y 15)).length : Int) < (seqD (cellOf y 15)).length) = false := by simp
  rw [e1]
  exact ⟨(by trivial), hR⟩
theorem k46 : TabOk B T46 := by
 refine add_rec base k73 μ1 (fn := Tryz.f46) (cd := bodyOf Tryz.f46) (sp := fun n => spL [(10, S46 partsE n)]) (hn := noHn) Tryz.func46 (by kernel_rfl) (by kernel_rfl) (fun n hk => specT_cons (c := .loop l46) (by kernel_rfl) (ok46 hk) specT_nil) fun κ ds r hp hm hr => ?_
 unfold c46 at hp hr
 simp only [] at hr hp
 split at hr
 ·
  rename_i x
  cases hr
  rw [arg1 hp.1.v]
  refine keep (w46 partsE κ x fun v => v = _) ?_
  rw [partsE_eq]
  unfold partsT
  rw [hp.1.v]
  have ha : ∀ y ∈ seqD (cellOf x 15), (FitE y ∧ Bd y) ∧ dsz y < κ := fun y hy => ⟨⟨hp.1.a y hy, hp.2.sub hy⟩, hm ▸ subs_lt hy⟩
  have hE : IsE (eCells x) := ⟨x, rfl⟩
  have hs : Short (seqD (cellOf x 15)) := hp.1.l.2.2
  generalize search (firstF partsE (seqD (cellOf x 15))) (seqD (cellOf x 15)).length = o2
  refine ⟨hp, cond_split (fun g => ?_) (fun g => ?_)⟩
  ·
   simp only [g, cond_true]
  ·
   simp only [g, cond_false]
   refine ⟨⟨hE, (by trivial), (by trivial), (by trivial), hs, ha⟩, ?_⟩
   cases o2 <;> rfl
 ·
  cases hr
theorem ok45 {κ : Nat} (hk : TabOk B (U45 κ)) : OkS (Cn (U45 κ)) 0 (.loop l45) (S45 κ) := by
 refine okS_loop fun N vals bs K h => ?_
 simp only [S45] at h
 split at h
 case h_2 => exact h.elim
 rename_i m i a0 a1 a2 a3 a4 a5 a6 a7 a8 a9 a10 a11 a12 a13 a14 b xs
 obtain ⟨⟨⟨y, hy⟩, rfl, rfl, rfl, hl, hx⟩, h⟩ := h
 have hxs : xs = seqD (cellOf y 15) := by
  have := congrArg (fun l : List V => l.getD 15 .any) hy
  simp at this
  exact this.2
 rw [hy]
 subst hxs
 have main : ∀ k i, i + k = (seqD (cellOf y 15)).length → LoopT (Cn (U45 κ)) 0 l45 22 [1,3,4] [[5000]] [3] [] [.ptr [5000] 0, lint (maxL (((seqD (cellOf y 15)).take i).map edep) : Nat), lint i] [eBox y] K := by
  intro k
  induction k with
  | zero =>
   intro i hi
   have : i = (seqD (cellOf y 15)).length := by omega
   subst this
   refine loopT_step (tab_fit base hk noCS_valid) tab_has noSp_ok (hn := noHn) (adsI := []) (nsI := [([5000],[5000])]) (nsX := []) rfl rfl (keep (b45 κ y (seqD (cellOf y 15)).length _ _) ?_)
   have e1 : decide (((seqD (cellOf y 15)).length : Int) < (seqD (cellOf y 15)).length) = false := by simp
   rw [e1, List.take_length]
   exact ⟨(by trivial), h⟩
  | succ k ih =>
   intro i hi
   refine loopT_step (tab_fit base hk noCS_valid) tab_has noSp_ok (hn := noHn) (adsI := []) (nsI := [([5000],[5000])]) (nsX := []) rfl rfl (keep (b45 κ y i _ _) ?_)
   have e1 : decide ((i : Int) < (seqD (cellOf y 15)).length) = true := by simp; omega
   obtain ⟨hf, hlt⟩ := hx _ (getD_mem (xs := seqD (cellOf y 15)) (i := i) (by omega))
   have hv := hf.1.v
   rw [e1]
   simp only [Int.toNat_natCast, cond_true, hv]
   refine ⟨⟨by omega, by omega, (by trivial)⟩, ⟨hf, hlt⟩, (by trivial), ?_⟩
   have := ih (i + 1) (by omega)
   rw [Go.IntWalk.i64_in _ (by omega)]
   rw [maxL_take_succ (by omega)] at this
   rw [show (if (edep ((seqD (cellOf y 15)).getD i .any) : Int) > (maxL (((seqD (cellOf y 15)).take i).map edep) : Nat) then (edep ((seqD (cellOf y 15)).getD i .any) : Int) else (maxL (((seqD (cellOf y 15)).take i).map edep) : Nat)) = (max (maxL (((seqD (cellOf y 15)).take i).map edep)) (edep ((seqD (cellOf y 15)).getD i .any)) : Nat) by split <;> omega]
   exact this
 exact main (seqD (cellOf y 15)).length 0 (by omega)
theorem k45 : TabOk B T45 := by
 refine add_rec base k46 μ1 (fn := Tryz.f45) (cd := bodyOf Tryz.f45) (sp := fun n => spL [(6, S45 n)]) (hn := noHn) Tryz.func45 (by kernel_rfl) (by kernel_rfl) (fun n hk => specT_cons (c := .loop l45) (by kernel_rfl) (ok45 hk) specT_nil) fun κ ds r hp hm hr => ?_
 unfold c43 at hp hr
 simp only [] at hr hp
 split at hr
 ·
  rename_i x
  cases hr
  obtain ⟨hf, h1⟩ := hp
  rw [arg1 hf.v]
  refine keep (w45 κ x fun v => v = _) ?_
  have e1 := etot_eq x
  have e2 := edep_eq x
  have e3 := edep_le _ x (Nat.le_refl _)
  have e4 := len_etot (xs := subs x 15)
  refine ⟨⟨⟨x, rfl⟩, (by trivial), (by trivial), (by trivial), by unfold subs at *; omega, fun y hy => ⟨⟨hf.a y hy, ?_⟩, ?_⟩⟩, ?_⟩
  ·
   have := le_sum (f := etot) (xs := subs x 15) hy; omega
  ·
   rw [← hm]; exact subs_lt hy
  ·
   unfold subs at *
   rw [Go.IntWalk.i64_in _ (by omega), show ((maxL (List.map edep (seqD (cellOf x 15))) : Nat) : Int) + 1 = (edep x : Nat) by omega]
 ·
  cases hr
theorem pat_cond (y : D) (hs : Short (subs y 12) ∧ Short (subs y 13)) : (bif intOf (cellOf y 11) != 0 then true else decide (IntKind.i64.wrap ((↑(seqD (cellOf y 12)).length : Int) + (↑(seqD (cellOf y 13)).length : Int)) > 0)) = hasPat y := by
 have h1 : (seqD (cellOf y 12)).length ≤ 1152921504606846976 := hs.1
 have h2 : (seqD (cellOf y 13)).length ≤ 1152921504606846976 := hs.2
 rw [wr (by omega) (by omega)]
 unfold hasPat subs
 rw [bif_or]
 have : decide ((↑(seqD (cellOf y 12)).length : Int) + (↑(seqD (cellOf y 13)).length : Int) > 0) = (decide (0 < (seqD (cellOf y 12)).length) || decide (0 < (seqD (cellOf y 13)).length)) := by
  rw [← Bool.decide_or]; exact decide_eq_decide.2 (by omega)
 rw [this]
 congr 1
 cases h : (intOf (cellOf y 11) != 0) with
 | true => have := bne_t h; simp [this]
 | false => have := bne_f h; simp [this]
theorem cnt_cap : ∀ (κ : Nat) (y : D), dsz y < κ → FitE y → ∀ n : Int, 0 ≤ n → n ≤ 100 → n ≤ cntE y n ∧ min (cntE y n) 101 = min (n + (etot y : Nat)) 101
 | 0, _, h, _, _, _, _ => absurd h (Nat.not_lt_zero _)
 | κ + 1, y, h, hf, n, h0, h1 => by
  rw [cntE_eq, etot_eq]
  unfold cntT
  rw [pat_cond y ⟨hf.p.l.1, hf.p.l.2⟩]
  have hrec : ∀ a ∈ seqD (cellOf y 15), ∀ n : Int, 0 ≤ n → n ≤ 100 → n ≤ cntE a n ∧ min (cntE a n) 101 = min (n + (etot a : Nat)) 101 := fun a ha => cnt_cap κ a (by have := subs_lt (y := y) (i := 15) ha; omega) (hf.a a ha)
  unfold subs
  by_cases hl : (seqD (cellOf y 10)).length > 100
  ·
   have d : decide ((↑(seqD (cellOf y 10)).length : Int) > 100) = true := by simp; omega
   rw [d]
   simp only [cond_true]
   constructor
   ·
    omega
   ·
    have : min (seqD (cellOf y 10)).length 100 = 100 := by omega
    rw [this]
    cases hasPat y <;> simp only [cond_true, cond_false] <;> omega
  ·
   have d : decide ((↑(seqD (cellOf y 10)).length : Int) > 100) = false := by simp; omega
   have em : min (seqD (cellOf y 10)).length 100 = (seqD (cellOf y 10)).length := by omega
   rw [d, em, wr (x := n + 1) (by omega) (by omega), wr (x := n + 1 + (↑(seqD (cellOf y 10)).length : Int)) (by omega) (by omega)]
   simp only [cond_false]
   cases hp : hasPat y with
   | false =>
    simp only [cond_false]
    obtain ⟨p1, p2⟩ := cntL_cap (rec := cntE) (f := etot) (xs := seqD (cellOf y 15)) (m := n + 1 + (↑(seqD (cellOf y 10)).length : Int)) (by omega) hrec
    omega
   | true =>
    simp only [cond_true]
    by_cases hm : n + 1 + (↑(seqD (cellOf y 10)).length : Int) ≤ 100
    ·
     have d2 : decide (n + 1 + (↑(seqD (cellOf y 10)).length : Int) ≤ 100) = true := by simpa using hm
     rw [d2]
     simp only [cond_true]
     obtain ⟨q1, q2⟩ := cnp_cap _ (paV y) (Nat.lt_succ_self _) (n + 1 + (↑(seqD (cellOf y 10)).length : Int)) (by omega) hm
     obtain ⟨p1, p2⟩ := cntL_cap (rec := cntE) (f := etot) (xs := seqD (cellOf y 15)) (m := cnpE (paV y) (n + 1 + (↑(seqD (cellOf y 10)).length : Int))) (by omega) hrec
     omega
    ·
     have d2 : decide (n + 1 + (↑(seqD (cellOf y 10)).length : Int) ≤ 100) = false := by simpa using hm
     rw [d2]
     simp only [cond_false]
     obtain ⟨p1, p2⟩ := cntL_cap (rec := cntE) (f := etot) (xs := seqD (cellOf y 15)) (m := n + 1 + (↑(seqD (cellOf y 10)).length : Int)) (by omega) hrec
     omega
theorem size_eq {x : D} (h : FitE x) : (bif false then if 101 > cntE x 0 then 101 else cntE x 0 else if 101 < cntE x 0 then 101 else cntE x 0) = ((cap (etot x) : Nat) : Int) := by
 have := (cnt_cap _ x (Nat.lt_succ_self _) h 0 (by omega) (by omega)).2
 simp only [cond_false]
 unfold cap
 split <;> omega
theorem k18 : TabOk B T18 := by
 refine add_body base k45 (fn := Tryz.f18) (cd := bodyOf Tryz.f18) (sp := noSp) (hn := noHn) Tryz.func18 (by kernel_rfl) (by kernel_rfl) noSp_ok fun ds r hp hr => ?_
 unfold c18 at hp hr
 simp only [] at hr hp
 split at hr
 ·
  rename_i x
  cases hr
  rw [arg1 hp.1.v]
  refine keep (w18 x fun v => v = _) ?_
  unfold checkE
  rw [hp.1.v, size_eq hp.1]
  refine ⟨hp.1, cond_split (fun g => ?_) (fun g => ?_)⟩
  ·
   simp only [g, cond_true]
  ·
   simp only [g, cond_false]
   simp only [decide_eq_false_iff_not] at g
   refine ⟨⟨hp.1, by unfold cap at g; omega⟩, cond_split (fun g => ?_) (fun g => ?_)⟩
   ·
    simp only [g, cond_true]
   ·
    simp only [g, cond_false]; exact ⟨hp, (by trivial)⟩
 ·
  cases hr
theorem ok42 {κ : Nat} (hk : TabOk B (U42 κ)) : OkS (Cn (U42 κ)) 0 (.loop l42) (S42 typeE κ) := by
 refine okS_loop fun N vals bs K h => ?_
 simp only [S42] at h
 split at h
 case h_2 => exact h.elim
 rename_i i a0 a1 a2 a3 a4 a5 a6 a7 a8 a9 a10 a11 a12 a13 a14 b xs t0
 obtain ⟨⟨⟨y, hy⟩, rfl, _, rfl, h16, hall⟩, h⟩ := h
 have hxs : xs = seqD (cellOf y 15) := by
  have := congrArg (fun l : List V => l.getD 15 .any) hy
  simp at this
  exact this.2
 rw [hy] at h ⊢
 subst hxs
 have main : ∀ k i ts, i + k = (seqD (cellOf y 15)).length → ts = ((seqD (cellOf y 15)).take i).map (fun a => intD (typeE a)) → LoopT (Cn (U42 κ)) 0 l42 114 [1,3,4,5] [[5000],[5001],[5002]] [1,3,4] [[5000],[5001],[5002]] [.ptr [5000] 0, .ref [5001], .ref [5002], lint i] [eBox y, .arr true false 3 1 t0 [], .arr true false 3 1 ts []] K := by
  intro k
  induction k with
  | zero =>
   intro i ts hi hts
   have : i = (seqD (cellOf y 15)).length := by omega
   subst this
   rw [List.take_length] at hts
   subst hts
   refine loopT_step (tab_fit base hk noCS_valid) tab_has noSp_ok (hn := noHn) (adsI := []) (nsI := [([5000],[5000]),([5001],[5001]),([5002],[25])]) (nsX := nm42) rfl rfl (keep (b42 κ t0 _ y (seqD (cellOf y 15)).length _) ?_)
   have e1 : decide (((seqD (cellOf y 15)).length : Int) < (seqD (cellOf y 15)).length) = false := by simp
   rw [e1]
   exact ⟨(by trivial), h⟩
  | succ k ih =>
   intro i ts hi hts
   refine loopT_step (tab_fit base hk noCS_valid) tab_has noSp_ok (hn := noHn) (adsI := []) (nsI := [([5000],[5000]),([5001],[5001]),([5002],[25])]) (nsX := nm42) rfl rfl (keep (b42 κ t0 ts y i _) ?_)
   have e1 : decide ((i : Int) < (seqD (cellOf y 15)).length) = true := by simp; omega
   have e2 : IntKind.i64.wrap ((i : Int) + 1) = ((i + 1 : Nat) : Int) := by rw [Go.IntWalk.i64_in _ (by omega)]; omega
   obtain ⟨hv, hlt⟩ := hall _ (getD_mem (xs := seqD (cellOf y 15)) (i := i) (by omega))
   have hl : ts.length = i := by rw [hts, List.length_map, List.length_take]; omega
   have e3 : ((ts.length + 1) * 8).ble 70368744177664 = true := by rw [hl, Nat.ble_eq]; omega
   rw [e1, e3]
   simp only [Int.toNat_natCast, e2, cond_true, hv.1.v]
   refine ⟨⟨by omega, by omega, (by trivial)⟩, ⟨hv, hlt⟩, (by trivial), ih (i + 1) _ (by omega) ?_⟩
   rw [hts, List.take_add_one, List.map_append, List.getElem?_eq_getElem (by omega : i < (seqD (cellOf y 15)).length), List.getD_eq_getElem?_getD, List.getElem?_eq_getElem (by omega : i < (seqD (cellOf y 15)).length)]
   rfl
 exact main (seqD (cellOf y 15)).length 0 [] (by omega) (by simp)
def binB (a b : Int) (n w m F : Bool) : Int :=
 bif ob (bif a != 1 then a != 2 else false) (bif b != 1 then b != 2 else false) then 0 else
 bif ab (a == 2) (b == 2) then 2 else bif ob (ob n w) m then 0 else bif ob (a == 2) (b == 2) then 2 else bif F then 0 else 1
theorem k42 : TabOk B T42 := by
 refine add_rec base k18 μ1 (fn := Tryz.f42) (cd := bodyOf Tryz.f42) (sp := fun n => spL [(8, S42 typeE n)]) (hn := noHn) Tryz.func42 (by kernel_rfl) (by kernel_rfl) (fun n hk => specT_cons (c := .loop l42) (by kernel_rfl) (ok42 hk) specT_nil) fun κ ds r hp hm hr => ?_
 unfold c42 at hp hr
 simp only [] at hr hp
 split at hr
 ·
  rename_i x
  cases hr
  obtain ⟨hf, ht, hpa⟩ := hp
  rw [arg1 hf.v]
  refine keep (w42 typeE κ x fun v => v = _) ?_
  rw [typeE_eq]
  unfold typeT
  rw [hf.v]
  obtain ⟨hx, hap⟩ := partsE_ok hf.v hpa
  obtain ⟨hlen, hk1, hk2⟩ := exprE_args hx
  have ha : ∀ y ∈ seqD (cellOf x 15), (FitE y ∧ etot y ≤ 100 ∧ partsE y = 0) ∧ dsz y < κ := fun y hy => ⟨⟨hf.a y hy, by
   have := etot_eq x
   have := le_sum (f := etot) (xs := subs x 15) hy
   omega, hap y hy⟩, hm ▸ subs_lt hy⟩
  have hl : (seqD (cellOf x 15)).length ≤ 100 := by
   have := etot_eq x
   have := len_etot (xs := subs x 15)
   unfold subs at *
   omega
  refine ⟨⟨⟨x, rfl⟩, (by trivial), (by trivial), (by trivial), hl, ha⟩, ?_⟩
  have h0 : 0 < (seqD (cellOf x 15)).length → D.lit (Value.int IntKind.i64 (intOf (((seqD (cellOf x 15)).map fun a => intD (typeE a)).getD 0 .any))) = ((seqD (cellOf x 15)).map fun a => intD (typeE a)).getD 0 .any := fun h => intD_at h
  have h1 : 1 < (seqD (cellOf x 15)).length → D.lit (Value.int IntKind.i64 (intOf (((seqD (cellOf x 15)).map fun a => intD (typeE a)).getD 1 .any))) = ((seqD (cellOf x 15)).map fun a => intD (typeE a)).getD 1 .any := fun h => intD_at h
  unfold subs at hlen
  have hL : ((seqD (cellOf x 15)).map fun a => intD (typeE a)).length = (seqD (cellOf x 15)).length := List.length_map _
  generalize ((seqD (cellOf x 15)).map fun a => intD (typeE a)) = L at h0 h1 hL ⊢
  rw [← hL] at hlen h0 h1
  clear hL hl ha ht hap hpa hm hx
  have hbin : ∀ a b : Int, binE x a b = binE x a b := fun _ _ => rfl
  generalize hkk : intOf (cellOf x 0) = k at hlen hk1 hk2 ⊢
  have hcase : k = 1 ∨ k = 2 ∨ k = 3 ∨ k = 4 ∨ k = 5 ∨ k = 6 ∨ k = 7 ∨ k = 8 ∨ k = 9 ∨ k = 10 ∨ k = 11 ∨ k = 12 ∨ k = 13 := by omega
  have fin : ∀ v : Int, (((0 : Int) ≤ k) ∧ (k.toNat < 14 ∧ D.lit (Value.int IntKind.i64 (intOf (tyD.getD k.toNat D.any))) = tyD.getD k.toNat D.any)) := fun _ => by
   rcases hcase with rfl | rfl | rfl | rfl | rfl | rfl | rfl | rfl | rfl | rfl | rfl | rfl | rfl <;> exact ⟨by decide, by decide, rfl⟩
  by_cases c7 : k = 7
  ·
   subst c7
   have hl2 : L.length = 2 := by simp [kArgs] at hlen; omega
   have g0 := h0 (by omega)
   have g1 := h1 (by omega)
   have b0 : (0 : Int) ≤ 0 ∧ (0 < L.length ∧ D.lit (Value.int IntKind.i64 (intOf (L.getD 0 D.any))) = L.getD 0 D.any) := ⟨by omega, by omega, g0⟩
   have b1 : (0 : Int) ≤ 1 ∧ (1 < L.length ∧ D.lit (Value.int IntKind.i64 (intOf (L.getD 1 D.any))) = L.getD 1 D.any) := ⟨by omega, by omega, g1⟩
   refine ⟨fun _ => b0, fun _ => b0, ?_⟩
   refine cond_split (fun g => by cases g) (fun _ => ⟨fun _ => b0, fun _ => b1, ?_⟩)
   have hR : (bif (7 : Int) == 7 then binE x (intOf (L.getD 0 D.any)) (intOf (L.getD 1 D.any)) else 0) = binB (intOf (L.getD 0 D.any)) (intOf (L.getD 1 D.any)) (decide ((↑(seqD (cellOf x 7)).length : Int) > 0)) (boolOf (cellOf x 8)) (intOf (cellOf x 9) != 0) (decide (intOf (cellOf x 1) ≥ 5)) := rfl
   refine cond_split (fun g => ?_) (fun g => ?_)
   ·
    have g : (bif intOf (L.getD 0 D.any) == 2 then intOf (L.getD 1 D.any) == 2 else false) = true := g
    obtain ⟨q0, q1⟩ := and_t' g
    have q0 : intOf (L.getD 0 D.any) = 2 := by simpa using q0
    have q1 : intOf (L.getD 1 D.any) = 2 := by simpa using q1
    refine ⟨fin 0, ?_⟩
    show V.d (D.lit (Value.int IntKind.i64 2)) = V.d (D.lit (Value.int IntKind.i64 (binE x (intOf (L.getD 0 D.any)) (intOf (L.getD 1 D.any)))))
    rw [q0, q1]; rfl
   ·
    have g : (bif intOf (L.getD 0 D.any) == 2 then intOf (L.getD 1 D.any) == 2 else false) = false := g
    have leaf : ∀ v : Int, v = binB (intOf (L.getD 0 D.any)) (intOf (L.getD 1 D.any)) (decide ((↑(seqD (cellOf x 7)).length : Int) > 0)) (boolOf (cellOf x 8)) (intOf (cellOf x 9) != 0) (decide (intOf (cellOf x 1) ≥ 5)) → V.d (D.lit (Value.int IntKind.i64 v)) = V.d (D.lit (Value.int IntKind.i64 (binE x (intOf (L.getD 0 D.any)) (intOf (L.getD 1 D.any))))) := fun v hv => by rw [hv]; rfl
    refine ⟨b0, fun _ => b0, fun _ => b1, fun _ => b1, cond_split (fun g2 => leaf 0 ?_) (fun g2 => ⟨b0, fun _ => b1, cond_split (fun g3 => leaf 2 ?_) (fun g3 => cond_split (fun g4 => leaf 0 ?_) (fun g4 => leaf 1 ?_))⟩)⟩
    all_goals
     unfold binB
     generalize intOf (L.getD 0 D.any) = a at *
     generalize intOf (L.getD 1 D.any) = b at *
     generalize decide ((↑(seqD (cellOf x 7)).length : Int) > 0) = n at *
     generalize boolOf (cellOf x 8) = w at *
     generalize (intOf (cellOf x 9) != 0) = m at *
     generalize decide (intOf (cellOf x 1) ≥ 5) = F at *
     generalize (a == 2) = a2 at *
     generalize (b == 2) = b2 at *
     generalize (bif a != 1 then a != 2 else false) = A1 at *
     generalize (bif b != 1 then b != 2 else false) = B1 at *
     cases a2 <;> cases b2 <;> cases A1 <;> cases B1 <;> cases n <;> cases w <;> cases m <;> cases F <;> first | rfl | exact absurd g (by decide) | exact absurd g2 (by decide) | exact absurd g3 (by decide) | exact absurd g4 (by decide)
  ·
   by_cases c6 : k = 6
   ·
    subst c6
    have hl2 : L.length = 1 := by simp [kArgs] at hlen; omega
    have b0 : (0 : Int) ≤ 0 ∧ (0 < L.length ∧ D.lit (Value.int IntKind.i64 (intOf (L.getD 0 D.any))) = L.getD 0 D.any) := ⟨by omega, by omega, h0 (by omega)⟩
    refine ⟨fun _ => b0, (fun h => by simp at h), cond_split (fun g => ?_) (fun g => ⟨(fun h => by simp at h), (fun h => by simp at h), cond_split (fun _ => ⟨fin 0, ?_⟩) (fun g => by cases g)⟩)⟩
    ·
     have g : (bif intOf (L.getD 0 D.any) != 2 then true else false) = true := g
     have g' : (intOf (L.getD 0 D.any) != 2) = true := by
      cases h : (intOf (L.getD 0 D.any) != 2) with
      | true => rfl
      | false => rw [h] at g; cases g
     show V.d (D.lit (Value.int IntKind.i64 0)) = V.d (D.lit (Value.int IntKind.i64 (bif intOf (L.getD 0 D.any) != 2 then 0 else 2)))
     rw [g']; rfl
    ·
     have g : (bif intOf (L.getD 0 D.any) != 2 then true else false) = false := g
     have g' : (intOf (L.getD 0 D.any) != 2) = false := (or_f' g).1
     show V.d (D.lit (Value.int IntKind.i64 2)) = V.d (D.lit (Value.int IntKind.i64 (bif intOf (L.getD 0 D.any) != 2 then 0 else 2)))
     rw [g']; rfl
   ·
    by_cases c12 : k = 12
    ·
     subst c12
     have hl2 : L.length = 1 := by simp [kArgs] at hlen; omega
     have b0 : (0 : Int) ≤ 0 ∧ (0 < L.length ∧ D.lit (Value.int IntKind.i64 (intOf (L.getD 0 D.any))) = L.getD 0 D.any) := ⟨by omega, by omega, h0 (by omega)⟩
     refine ⟨(fun h => by simp at h), fun _ => b0, cond_split (fun g => ?_) (fun g => ⟨(fun h => by simp at h), (fun h => by simp at h), cond_split (fun _ => ⟨fin 0, ?_⟩) (fun g => by cases g)⟩)⟩
     ·
      have g : (intOf (L.getD 0 D.any) != 4) = true := g
      show V.d (D.lit (Value.int IntKind.i64 0)) = V.d (D.lit (Value.int IntKind.i64 (bif intOf (L.getD 0 D.any) != 4 then 0 else 3)))
      rw [g]; rfl
     ·
      have g : (intOf (L.getD 0 D.any) != 4) = false := g
      show V.d (D.lit (Value.int IntKind.i64 3)) = V.d (D.lit (Value.int IntKind.i64 (bif intOf (L.getD 0 D.any) != 4 then 0 else 3)))
      rw [g]; rfl
    ·
     rcases hcase with rfl | rfl | rfl | rfl | rfl | rfl | rfl | rfl | rfl | rfl | rfl | rfl | rfl <;> first
      | exact absurd rfl c7
      | exact absurd rfl c6
      | exact absurd rfl c12
      | exact ⟨(fun h => by simp at h), (fun h => by simp at h), cond_split (fun g => by cases g) (fun _ => ⟨(fun h => by simp at h), (fun h => by simp at h), cond_split (fun _ => ⟨fin 0, rfl⟩) (fun g => by cases g)⟩)⟩
 ·
  cases hr
theorem k16 : TabOk B T16 := by
 refine add_body base k42 (fn := Tryz.f16) (cd := bodyOf Tryz.f16) (sp := noSp) (hn := noHn) Tryz.func16 (by kernel_rfl) (by kernel_rfl) noSp_ok fun ds r hp hr => ?_
 unfold c15q at hp hr
 simp only [] at hr hp
 split at hr
 ·
  rename_i x
  cases hr
  rw [arg1 hp.1.v]
  refine keep (w16 x fun v => v = _) ?_
  rw [hp.1.v]
  refine ⟨hp, cond_split (fun h => ?_) (fun h => ?_)⟩
  ·
   simp only [h, cond_true]
  ·
   have h0 : checkE x = 0 := by simpa using h
   simp only [h, cond_false]
   obtain ⟨a1, a2, a3⟩ := k15w h0 (FitE.v hp.1)
   refine ⟨⟨hp.1, a1, a3⟩, cond_split (fun h => ?_) (fun h => ?_)⟩
   ·
    have : typeE x = 0 := by simpa using h
    simp only [this]; rfl
   ·
    simp only [h, cond_false]
 ·
  cases hr
noncomputable def c14s : Ct := ⟨fun | [] => True | _ => False, fun | [] => some (.lit (.bool true)) | _ => none⟩
noncomputable def T3a : Tab := T16.add 14 c14s
theorem w3 (y : D) (p : V → Prop) : (evBodyT (Cn T3a) T3a noCS 0 noSp noHn 3 [V.d (eV y)] Heap.empty fun v H => p (freezeR H v)) =
 (FitE (eV y) ∧
 (bif greatB (eV y) then
 (True ∧
 p (V.d (D.lit (Value.bool true)))) else
 (FitE (eV y) ∧
 ((FitE (eV y) ∧ Bd (eV y)) ∧
 (FitE (eV y) ∧
 ((FitE (eV y) ∧ Bd (eV y)) ∧
 ((((bif
 bif checkE (eV y) == checkE (eV y) then
 (bif checkE (eV y) != 0 then 0 else typeE (eV y)) == bif checkE (eV y) != 0 then 0 else typeE (eV y)
 else false then
 (bif checkE (eV y) != 0 then checkE (eV y) else bif typeE (eV y) == 0 then 15 else 0) ==
 bif checkE (eV y) != 0 then checkE (eV y) else bif typeE (eV y) == 0 then 15 else 0
 else false) &&
 true) =
 true → FitE (eV y)) ∧
 ((((bif
 bif checkE (eV y) == checkE (eV y) then
 (bif checkE (eV y) != 0 then 0 else typeE (eV y)) == bif checkE (eV y) != 0 then 0 else typeE (eV y)
 else false then
 (bif checkE (eV y) != 0 then checkE (eV y) else bif typeE (eV y) == 0 then 15 else 0) ==
 bif checkE (eV y) != 0 then checkE (eV y) else bif typeE (eV y) == 0 then 15 else 0
 else false) &&
 true) =
 true → FitE (eV y)) ∧
 ((((bif
 bif
 bif checkE (eV y) == checkE (eV y) then
 (bif checkE (eV y) != 0 then 0 else typeE (eV y)) == bif checkE (eV y) != 0 then 0 else typeE (eV y)
 else false then
 (bif checkE (eV y) != 0 then checkE (eV y) else bif typeE (eV y) == 0 then 15 else 0) ==
 bif checkE (eV y) != 0 then checkE (eV y) else bif typeE (eV y) == 0 then 15 else 0
 else false then
 (↑(cap (etot (eV y))) : Int) ==
 bif false then if 101 > cntE (eV y) 0 then 101 else cntE (eV y) 0
 else if 101 < cntE (eV y) 0 then 101 else cntE (eV y) 0
 else false) &&
 true) =
 true → True) ∧
 p
 (V.d
 (D.lit
 (Value.bool
 (bif
 bif
 bif
 bif checkE (eV y) == checkE (eV y) then
 (bif checkE (eV y) != 0 then 0 else typeE (eV y)) ==
 bif checkE (eV y) != 0 then 0 else typeE (eV y)
 else false then
 (bif checkE (eV y) != 0 then checkE (eV y) else bif typeE (eV y) == 0 then 15 else 0) ==
 bif checkE (eV y) != 0 then checkE (eV y) else bif typeE (eV y) == 0 then 15 else 0
 else false then
 (↑(cap (etot (eV y))) : Int) ==
 bif false then if 101 > cntE (eV y) 0 then 101 else cntE (eV y) 0
 else if 101 < cntE (eV y) 0 then 101 else cntE (eV y) 0
 else false then
 true
 else false))))))))))))) := by kernel_rfl
noncomputable def c3 : Ct := ⟨fun | [x] => FitE x ∧ Bd x | _ => False, fun | [x] => some (.lit (.bool true)) | _ => none⟩
theorem k3 (hk : TabOk B T3a) : TabOk B (T3a.add 3 c3) := by
 refine add_body base hk (fn := Tryz.f3) (cd := bodyOf Tryz.f3) (sp := noSp) (hn := noHn) Tryz.func3 (by kernel_rfl) (by kernel_rfl) noSp_ok fun ds r hp hr => ?_
 unfold c3 at hp hr
 simp only [] at hr hp
 split at hr
 ·
  rename_i x
  cases hr
  rw [arg1 hp.1.v]
  refine keep (w3 x fun v => v = _) ?_
  rw [hp.1.v, size_eq hp.1]
  refine ⟨hp.1, cond_split (fun g => ⟨(by trivial), (by trivial)⟩) (fun g => ⟨hp.1, hp, hp.1, hp, fun _ => hp.1, fun _ => hp.1, fun _ => trivial, ?_⟩)⟩
  simp only [beq_self_eq_true, cond_true]
 ·
  cases hr
end Go.Ev.R2
end
