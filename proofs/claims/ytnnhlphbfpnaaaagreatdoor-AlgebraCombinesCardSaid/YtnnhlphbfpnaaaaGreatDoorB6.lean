/- What the proofs of the lexer's laws share, part 6 of 13. -/
import Derived.Test.YtnnhlphbfpnaaaaGreatDoorB5
import Derived.Test.YtnnhlphbfpnaaaaGreatDoorB1
import Derived.ChangeArms
import Derived.SizedLaws
import Derived.Test.YtnnhlphbfpnaaaaGreatDoorB4
import Derived.Laws.IdiomRangeMap
import Derived.Test.YtnnhlphbfpnaaaaGreatDoorProg
import Derived.KernelRfl
import Derived.Shelf.Strings.BuilderX
import Derived.Shelf.RegionOpenPlain
import Derived.Lib.Strings
import Derived.Lib.Slices
import Derived.Lib.Walk
import Derived.Lib.Builder
import Derived.Lib.AppendStr
import Derived.Lib.UnsafeStr
import Derived.Lib.MakeNoZero
import Derived.WalkKit
import Derived.Laws.Externs
import Derived.Laws.IdiomCopy
import Derived.Laws.BitsLemmas
set_option linter.unusedVariables false
set_option linter.unusedSimpArgs false
section
namespace Go.Ev.R2
open Go Go.Ev Go.Proofs
set_option maxRecDepth 100000
set_option linter.unusedVariables false
set_option linter.unusedSimpArgs false
noncomputable def partsT (rec : D → Int) (y : D) : Int :=
  (bif exprE (eV y) != 0 then
 (exprE (eV y)) else
 (match search (firstF rec (seqD (cellOf y 15))) (seqD (cellOf y 15)).length with
 | some y0 => y0
 | none => 0))
noncomputable def partsE (y : D) : Int := fixD partsT 0 (dsz y + 1) y
noncomputable def c44 : Ct := ⟨fun | [x, .map es] => (FitE x ∧ etot x ≤ 100) ∧ IsKinds es | _ => False, fun | [x, .map es] => some (.lit (.int .i64 (partsE x))) | _ => none⟩
noncomputable def U44 (κ : Nat) : Tab := T72.add 44 (c44.below μ1 κ)
noncomputable def T44 : Tab := T72.add 44 c44
noncomputable def l44 : Code := roundOf (pieceAt (bodyOf Tryz.f44) 10)
noncomputable def S44 (rec : D → Int) (κ : Nat) : Ev.Spec := { L := [1,16,17,18], ns := [], L' := [4], nm' := [], G := fun N vals bs k => match vals, bs with
  | [.d (.map es), .d (.slice b 16 xs), .d (.lit (.int .i64 n)), .d (.lit (.int .i64 i))], [] => (N = 29 ∧ IsKinds es ∧ rec = partsE ∧ i = 0 ∧ n = xs.length ∧ xs.length ≤ 100 ∧ ∀ y ∈ xs, (FitE y ∧ etot y ≤ 100) ∧ dsz y < κ) ∧ optE (search (firstF rec xs) xs.length) (k (.exit 0) [.any] []) (fun e => k .ret [lint e] [])
  | _, _ => False }
theorem b44 (κ : Nat) (es : List (D × D)) (xs : List D) (i : Int) (n : Int) (b : Bool) (R : X → List V → List Box → Prop) : (roundT (Cn (U44 κ)) (U44 κ) noCS 0 noSp noHn l44 29 [1, 16, 17, 18] [] [] [] [4] []
  [V.d (D.map es), V.d (D.slice b 16 xs), lint n, lint i] [] R) =
  (bif decide (i < n) then
   ((((0 : Int) ≤ i) ∧ (i.toNat < xs.length ∧ eV (xs.getD i.toNat D.any) = xs.getD i.toNat D.any)) ∧
   ((((FitE (eV (xs.getD i.toNat D.any)) ∧ etot (eV (xs.getD i.toNat D.any)) ≤ 100) ∧ IsKinds es) ∧ μ1 [eV (xs.getD i.toNat D.any), D.map es] < κ) ∧
   (bif partsE (eV (xs.getD i.toNat D.any)) != 0 then
    (29 = 29 ∧
    R X.ret [V.d (D.lit (Value.int IntKind.i64 (partsE (eV (xs.getD i.toNat D.any)))))] []) else
    (29 = 29 ∧
    R X.normal
  [V.d (D.map es), V.d (D.slice b 16 xs), V.d (D.lit (Value.int IntKind.i64 n)),
    V.d (D.lit (Value.int IntKind.i64 (IntKind.i64.wrap (i + 1))))]
  [])))) else
   (29 = 29 ∧
   R (X.exit 0) [V.any] [])) := by kernel_rfl
theorem w44 (rec : D → Int) (κ : Nat) (es : List (D × D)) (y : D) (p : V → Prop) : (evBodyT (Cn (U44 κ)) (U44 κ) noCS 0 (spL [(10, S44 rec κ)]) noHn 44 [V.d (eV y), V.d (D.map es)] Heap.empty fun v H =>
  p (freezeR H v)) =
  ((FitE (eV y) ∧ IsKinds es) ∧
  (bif exprE (eV y) != 0 then
   p (V.d (D.lit (Value.int IntKind.i64 (exprE (eV y))))) else
   ((29 = 29 ∧ (IsKinds es ∧ (rec = partsE ∧ (((0 : Int) = 0) ∧ ((((↑(seqD (cellOf y 15)).length : Int) : Int) = (↑(seqD (cellOf y 15)).length : Int)) ∧ ((seqD (cellOf y 15)).length ≤ 100 ∧ ∀ (y_1 : D), y_1 ∈ seqD (cellOf y 15) → (FitE y_1 ∧ etot y_1 ≤ 100) ∧ dsz y_1 < κ)))))) ∧
   (match search (firstF rec (seqD (cellOf y 15))) (seqD (cellOf y 15)).length with
   | some y0 =>
    p (V.d (D.lit (Value.int IntKind.i64 y0)))
   | none => p (V.d (D.lit (Value.int IntKind.i64 0))))))) := by kernel_rfl
theorem w17 (y : D) (p : V → Prop) : (evBodyT (Cn T44) T44 noCS 0 noSp noHn 17 [V.d (eV y)] Heap.empty fun v H => p (freezeR H v)) =
  (FitE (eV y) ∧
  (bif decide ((↑(cap (etot (eV y))) : Int) > 100) then
   p (V.d (D.lit (Value.int IntKind.i64 4))) else
   ((FitE (eV y) ∧ etot (eV y) ≤ 100) ∧
   (bif decide ((↑(edep (eV y)) : Int) > 12) then
    p (V.d (D.lit (Value.int IntKind.i64 30))) else
    (True ∧
    (((FitE (eV y) ∧ etot (eV y) ≤ 100) ∧ IsKinds kindsEs) ∧
    p (V.d (D.lit (Value.int IntKind.i64 (partsE (eV y))))))))))) := by kernel_rfl
noncomputable def checkE (y : D) : Int :=
  (bif decide ((↑(cap (etot (eV y))) : Int) > 100) then
 4 else
 (bif decide ((↑(edep (eV y)) : Int) > 12) then
 30 else
 (partsE (eV y))))
noncomputable def c17 : Ct := ⟨fun | [x] => FitE x | _ => False, fun | [x] => some (.lit (.int .i64 (checkE x))) | _ => none⟩
noncomputable def T17 : Tab := T44.add 17 c17
theorem w70 (y : D) (a : Int) (b : Int) (p : V → Prop) : (evBodyT (Cn T17) T17 noCS 0 noSp noHn 70 [V.d (eV y), lint a, lint b] Heap.empty fun v H => p (freezeR H v)) =
  (bif bif bif a != 1 then a != 2 else false then true else bif b != 1 then b != 2 else false then
   p (V.d (D.lit (Value.int IntKind.i64 0))) else
   (bif bif a == 2 then b == 2 else false then
    p (V.d (D.lit (Value.int IntKind.i64 2))) else
    (bif bif bif decide ((↑(seqD (cellOf y 7)).length : Int) > 0) then true else boolOf (cellOf y 8) then true
else intOf (cellOf y 9) != 0 then
     p (V.d (D.lit (Value.int IntKind.i64 0))) else
     (bif bif a == 2 then true else b == 2 then
      p (V.d (D.lit (Value.int IntKind.i64 2))) else
      (bif decide (intOf (cellOf y 1) ≥ 5) then
       p (V.d (D.lit (Value.int IntKind.i64 0))) else
       p (V.d (D.lit (Value.int IntKind.i64 1)))))))) := by kernel_rfl
noncomputable def binE (y : D) (a b : Int) : Int :=
  (bif bif bif a != 1 then a != 2 else false then true else bif b != 1 then b != 2 else false then
 0 else
 (bif bif a == 2 then b == 2 else false then
 2 else
 (bif bif bif decide ((↑(seqD (cellOf y 7)).length : Int) > 0) then true else boolOf (cellOf y 8) then true
else intOf (cellOf y 9) != 0 then
 0 else
 (bif bif a == 2 then true else b == 2 then
 2 else
 (bif decide (intOf (cellOf y 1) ≥ 5) then
 0 else
 1)))))
noncomputable def c70 : Ct := ⟨fun | [x, .lit (.int .i64 a), .lit (.int .i64 b)] => FitE x | _ => False, fun | [x, .lit (.int .i64 a), .lit (.int .i64 b)] => some (.lit (.int .i64 (binE x a b))) | _ => none⟩
noncomputable def T70 : Tab := T17.add 70 c70
abbrev intD (n : Int) : D := .lit (.int .i64 n)
abbrev eCells (y : D) : List V := [.d (iC y 0), .d (iC y 1), .d (lC y 2 3), .d (iC y 3), .d (iC y 4), .d (iC y 5), .d (iC y 6), .d (lC y 7 1), .d (bC y 8), .d (iC y 9), .d (lC y 10 4), .d (iC y 11), .d (lC y 12 4), .d (lC y 13 3), .d (sC y 14), .d (lC y 15 16)]
abbrev eBox (y : D) : Box := .cells 33 (eCells y)
def IsE (cs : List V) : Prop := ∃ y, cs = eCells y
noncomputable def typeT (rec : D → Int) (y : D) : Int :=
  (bif intOf (cellOf y 0) == 6 then
 (bif intOf ((List.map (fun a => intD (rec a)) (seqD (cellOf y 15))).getD 0 D.any) != 2 then
 0 else
 (bif intOf (cellOf y 0) == 1 then
 1 else
 (bif intOf (cellOf y 0) == 2 then
 2 else
 (bif intOf (cellOf y 0) == 3 then
 2 else
 (bif intOf (cellOf y 0) == 4 then
 2 else
 (bif intOf (cellOf y 0) == 5 then
 2 else
 (bif intOf (cellOf y 0) == 6 then
 2 else
 (bif intOf (cellOf y 0) == 7 then
 0 else
 (bif intOf (cellOf y 0) == 8 then
 3 else
 (bif intOf (cellOf y 0) == 9 then
 4 else
 (bif intOf (cellOf y 0) == 10 then
 5 else
 (bif intOf (cellOf y 0) == 11 then
 4 else
 (bif intOf (cellOf y 0) == 12 then
 3 else
 (bif intOf (cellOf y 0) == 13 then
 0 else
 0)))))))))))))) else
 (bif intOf (cellOf y 0) == 12 then
 (bif intOf ((List.map (fun a => intD (rec a)) (seqD (cellOf y 15))).getD 0 D.any) != 4 then
 0 else
 (bif intOf (cellOf y 0) == 1 then
 1 else
 (bif intOf (cellOf y 0) == 2 then
 2 else
 (bif intOf (cellOf y 0) == 3 then
 2 else
 (bif intOf (cellOf y 0) == 4 then
 2 else
 (bif intOf (cellOf y 0) == 5 then
 2 else
 (bif intOf (cellOf y 0) == 6 then
 2 else
 (bif intOf (cellOf y 0) == 7 then
 0 else
 (bif intOf (cellOf y 0) == 8 then
 3 else
 (bif intOf (cellOf y 0) == 9 then
 4 else
 (bif intOf (cellOf y 0) == 10 then
 5 else
 (bif intOf (cellOf y 0) == 11 then
 4 else
 (bif intOf (cellOf y 0) == 12 then
 3 else
 (bif intOf (cellOf y 0) == 13 then
 0 else
 0)))))))))))))) else
 (bif intOf (cellOf y 0) == 7 then
 (binE (eV y) (intOf ((List.map (fun a => intD (rec a)) (seqD (cellOf y 15))).getD 0 D.any))
          (intOf ((List.map (fun a => intD (rec a)) (seqD (cellOf y 15))).getD 1 D.any))) else
 (bif intOf (cellOf y 0) == 1 then
 1 else
 (bif intOf (cellOf y 0) == 2 then
 2 else
 (bif intOf (cellOf y 0) == 3 then
 2 else
 (bif intOf (cellOf y 0) == 4 then
 2 else
 (bif intOf (cellOf y 0) == 5 then
 2 else
 (bif intOf (cellOf y 0) == 6 then
 2 else
 (bif intOf (cellOf y 0) == 7 then
 0 else
 (bif intOf (cellOf y 0) == 8 then
 3 else
 (bif intOf (cellOf y 0) == 9 then
 4 else
 (bif intOf (cellOf y 0) == 10 then
 5 else
 (bif intOf (cellOf y 0) == 11 then
 4 else
 (bif intOf (cellOf y 0) == 12 then
 3 else
 (bif intOf (cellOf y 0) == 13 then
 0 else
 0))))))))))))))))
noncomputable def typeE (y : D) : Int := fixD typeT 0 (dsz y + 1) y
noncomputable def c40 : Ct := ⟨fun | [x, .map es] => (FitE x ∧ etot x ≤ 100 ∧ partsE x = 0) ∧ IsKinds es | _ => False, fun | [x, .map es] => some (.lit (.int .i64 (typeE x))) | _ => none⟩
noncomputable def U40 (κ : Nat) : Tab := T70.add 40 (c40.below μ1 κ)
noncomputable def T40 : Tab := T70.add 40 c40
noncomputable def l40 : Code := roundOf (pieceAt (bodyOf Tryz.f40) 6)
noncomputable def S40 (rec : D → Int) (κ : Nat) : Ev.Spec := { L := [1,2,5,10,11,12], ns := [([5000],[4]),([5001],[10])], L' := [1,2,5], nm' := [[5000],[5001]], G := fun N vals bs k => match vals, bs with
  | [.d (.map es), .ptr [5000] 0, .ref [5001], .d (.slice b 16 xs), .d (.lit (.int .i64 n)), .d (.lit (.int .i64 i))], [.cells 33 cs, .arr true false 3 1 [] []] => (IsE cs ∧ N = 52 ∧ IsKinds es ∧ rec = typeE ∧ i = 0 ∧ n = xs.length ∧ xs.length ≤ 100 ∧ ∀ y ∈ xs, (FitE y ∧ etot y ≤ 100 ∧ partsE y = 0) ∧ dsz y < κ) ∧ k (.exit 0) [.d (.map es), .ptr [5000] 0, .ref [5001]] [.cells 33 cs, .arr true false 3 1 (xs.map fun a => intD (rec a)) []]
  | _, _ => False }
theorem b40 (κ : Nat) (es : List (D × D)) (ts : List D) (y : D) (xs : List D) (i : Int) (n : Int) (b : Bool) (R : X → List V → List Box → Prop) : (roundT (Cn (U40 κ)) (U40 κ) noCS 0 noSp noHn l40 52 [1, 2, 5, 10, 11, 12] [[5000], [5001]] []
  [([5000], [5000]), ([5001], [23])] [1, 2, 5] [([5000], [5000]), ([5001], [5001])]
  [V.d (D.map es), V.ptr [5000] 0, V.ref [5001], V.d (D.slice b 16 xs), lint n, lint i]
  [eBox y, Box.arr true false 3 1 ts []] R) =
  (bif decide (i < n) then
   ((((0 : Int) ≤ i) ∧ (i.toNat < xs.length ∧ eV (xs.getD i.toNat D.any) = xs.getD i.toNat D.any)) ∧
   ((((FitE (eV (xs.getD i.toNat D.any)) ∧ (etot (eV (xs.getD i.toNat D.any)) ≤ 100 ∧ ((partsE (eV (xs.getD i.toNat D.any)) : Int) = 0))) ∧ IsKinds es) ∧ μ1 [eV (xs.getD i.toNat D.any), D.map es] < κ) ∧
   (bif ((ts.length + 1) * 8).ble 70368744177664 then
    (52 = 52 ∧
    R X.normal
  [V.d (D.map es), V.ptr [5000] 0, V.ref [5001], V.d (D.slice b 16 xs), V.d (D.lit (Value.int IntKind.i64 n)),
    V.d (D.lit (Value.int IntKind.i64 (IntKind.i64.wrap (i + 1))))]
  [Box.cells 33
      [V.d (D.lit (Value.int IntKind.i64 (intOf (cellOf y 0)))),
        V.d (D.lit (Value.int IntKind.i64 (intOf (cellOf y 1)))),
        V.d (D.slice (nilOf (cellOf y 2)) 3 (seqD (cellOf y 2))),
        V.d (D.lit (Value.int IntKind.i64 (intOf (cellOf y 3)))),
        V.d (D.lit (Value.int IntKind.i64 (intOf (cellOf y 4)))),
        V.d (D.lit (Value.int IntKind.i64 (intOf (cellOf y 5)))),
        V.d (D.lit (Value.int IntKind.i64 (intOf (cellOf y 6)))),
        V.d (D.slice (nilOf (cellOf y 7)) 1 (seqD (cellOf y 7))), V.d (D.lit (Value.bool (boolOf (cellOf y 8)))),
        V.d (D.lit (Value.int IntKind.i64 (intOf (cellOf y 9)))),
        V.d (D.slice (nilOf (cellOf y 10)) 4 (seqD (cellOf y 10))),
        V.d (D.lit (Value.int IntKind.i64 (intOf (cellOf y 11)))),
        V.d (D.slice (nilOf (cellOf y 12)) 4 (seqD (cellOf y 12))),
        V.d (D.slice (nilOf (cellOf y 13)) 3 (seqD (cellOf y 13))), V.d (D.lit (Value.string (strOf (cellOf y 14)))),
        V.d (D.slice (nilOf (cellOf y 15)) 16 (seqD (cellOf y 15)))],
    Box.arr true false 3 1 (ts ++ [D.lit (Value.int IntKind.i64 (typeE (eV (xs.getD i.toNat D.any))))]) []]) else
    False))) else
   (52 = 52 ∧
   R (X.exit 0) [V.d (D.map es), V.ptr [5000] 0, V.ref [5001]]
  [Box.cells 33
      [V.d (D.lit (Value.int IntKind.i64 (intOf (cellOf y 0)))),
        V.d (D.lit (Value.int IntKind.i64 (intOf (cellOf y 1)))),
        V.d (D.slice (nilOf (cellOf y 2)) 3 (seqD (cellOf y 2))),
        V.d (D.lit (Value.int IntKind.i64 (intOf (cellOf y 3)))),
        V.d (D.lit (Value.int IntKind.i64 (intOf (cellOf y 4)))),
        V.d (D.lit (Value.int IntKind.i64 (intOf (cellOf y 5)))),
        V.d (D.lit (Value.int IntKind.i64 (intOf (cellOf y 6)))),
        V.d (D.slice (nilOf (cellOf y 7)) 1 (seqD (cellOf y 7))), V.d (D.lit (Value.bool (boolOf (cellOf y 8)))),
        V.d (D.lit (Value.int IntKind.i64 (intOf (cellOf y 9)))),
        V.d (D.slice (nilOf (cellOf y 10)) 4 (seqD (cellOf y 10))),
        V.d (D.lit (Value.int IntKind.i64 (intOf (cellOf y 11)))),
        V.d (D.slice (nilOf (cellOf y 12)) 4 (seqD (cellOf y 12))),
        V.d (D.slice (nilOf (cellOf y 13)) 3 (seqD (cellOf y 13))), V.d (D.lit (Value.string (strOf (cellOf y 14)))),
        V.d (D.slice (nilOf (cellOf y 15)) 16 (seqD (cellOf y 15)))],
    Box.arr true false 3 1 ts []])) := by kernel_rfl
theorem w40 (rec : D → Int) (κ : Nat) (es : List (D × D)) (y : D) (p : V → Prop) : (evBodyT (Cn (U40 κ)) (U40 κ) noCS 0 (spL [(6, S40 rec κ)]) noHn 40 [V.d (eV y), V.d (D.map kindsEs)] Heap.empty
  fun v H => p (freezeR H v)) =
  ((IsE
  [V.d (D.lit (Value.int IntKind.i64 (intOf (cellOf y 0)))), V.d (D.lit (Value.int IntKind.i64 (intOf (cellOf y 1)))),
    V.d (D.slice (nilOf (cellOf y 2)) 3 (seqD (cellOf y 2))), V.d (D.lit (Value.int IntKind.i64 (intOf (cellOf y 3)))),
    V.d (D.lit (Value.int IntKind.i64 (intOf (cellOf y 4)))), V.d (D.lit (Value.int IntKind.i64 (intOf (cellOf y 5)))),
    V.d (D.lit (Value.int IntKind.i64 (intOf (cellOf y 6)))), V.d (D.slice (nilOf (cellOf y 7)) 1 (seqD (cellOf y 7))),
    V.d (D.lit (Value.bool (boolOf (cellOf y 8)))), V.d (D.lit (Value.int IntKind.i64 (intOf (cellOf y 9)))),
    V.d (D.slice (nilOf (cellOf y 10)) 4 (seqD (cellOf y 10))),
    V.d (D.lit (Value.int IntKind.i64 (intOf (cellOf y 11)))),
    V.d (D.slice (nilOf (cellOf y 12)) 4 (seqD (cellOf y 12))),
    V.d (D.slice (nilOf (cellOf y 13)) 3 (seqD (cellOf y 13))), V.d (D.lit (Value.string (strOf (cellOf y 14)))),
    V.d (D.slice (nilOf (cellOf y 15)) 16 (seqD (cellOf y 15)))] ∧ (52 = 52 ∧ (IsKinds kindsEs ∧ (rec = typeE ∧ (((0 : Int) = 0) ∧ ((((↑(seqD (cellOf y 15)).length : Int) : Int) = (↑(seqD (cellOf y 15)).length : Int)) ∧ ((seqD (cellOf y 15)).length ≤ 100 ∧ ∀ (y_1 : D), y_1 ∈ seqD (cellOf y 15) → (FitE y_1 ∧ etot y_1 ≤ 100 ∧ partsE y_1 = 0) ∧ dsz y_1 < κ))))))) ∧
  (bif intOf (cellOf y 0) == 6 then
   ((((0 : Int) ≤ 0) ∧ (0 < (List.map (fun a => intD (rec a)) (seqD (cellOf y 15))).length ∧ D.lit (Value.int IntKind.i64 (intOf ((List.map (fun a => intD (rec a)) (seqD (cellOf y 15))).getD 0 D.any))) =
  (List.map (fun a => intD (rec a)) (seqD (cellOf y 15))).getD 0 D.any)) ∧
   (bif intOf ((List.map (fun a => intD (rec a)) (seqD (cellOf y 15))).getD 0 D.any) != 2 then
    p (V.d (D.lit (Value.int IntKind.i64 0))) else
    (bif intOf (cellOf y 0) == 1 then
     p (V.d (D.lit (Value.int IntKind.i64 1))) else
     (bif intOf (cellOf y 0) == 2 then
      p (V.d (D.lit (Value.int IntKind.i64 2))) else
      (bif intOf (cellOf y 0) == 3 then
       p (V.d (D.lit (Value.int IntKind.i64 2))) else
       (bif intOf (cellOf y 0) == 4 then
        p (V.d (D.lit (Value.int IntKind.i64 2))) else
        (bif intOf (cellOf y 0) == 5 then
         p (V.d (D.lit (Value.int IntKind.i64 2))) else
         (bif intOf (cellOf y 0) == 6 then
          p (V.d (D.lit (Value.int IntKind.i64 2))) else
          (bif intOf (cellOf y 0) == 7 then
           p (V.d (D.lit (Value.int IntKind.i64 0))) else
           (bif intOf (cellOf y 0) == 8 then
            p (V.d (D.lit (Value.int IntKind.i64 3))) else
            (bif intOf (cellOf y 0) == 9 then
             p (V.d (D.lit (Value.int IntKind.i64 4))) else
             (bif intOf (cellOf y 0) == 10 then
              p (V.d (D.lit (Value.int IntKind.i64 5))) else
              (bif intOf (cellOf y 0) == 11 then
               p (V.d (D.lit (Value.int IntKind.i64 4))) else
               (bif intOf (cellOf y 0) == 12 then
                p (V.d (D.lit (Value.int IntKind.i64 3))) else
                (bif intOf (cellOf y 0) == 13 then
                 p (V.d (D.lit (Value.int IntKind.i64 0))) else
                 p (V.d (D.lit (Value.int IntKind.i64 0)))))))))))))))))) else
   (bif intOf (cellOf y 0) == 12 then
    ((((0 : Int) ≤ 0) ∧ (0 < (List.map (fun a => intD (rec a)) (seqD (cellOf y 15))).length ∧ D.lit (Value.int IntKind.i64 (intOf ((List.map (fun a => intD (rec a)) (seqD (cellOf y 15))).getD 0 D.any))) =
  (List.map (fun a => intD (rec a)) (seqD (cellOf y 15))).getD 0 D.any)) ∧
    (bif intOf ((List.map (fun a => intD (rec a)) (seqD (cellOf y 15))).getD 0 D.any) != 4 then
     p (V.d (D.lit (Value.int IntKind.i64 0))) else
     (bif intOf (cellOf y 0) == 1 then
      p (V.d (D.lit (Value.int IntKind.i64 1))) else
      (bif intOf (cellOf y 0) == 2 then
       p (V.d (D.lit (Value.int IntKind.i64 2))) else
       (bif intOf (cellOf y 0) == 3 then
        p (V.d (D.lit (Value.int IntKind.i64 2))) else
        (bif intOf (cellOf y 0) == 4 then
         p (V.d (D.lit (Value.int IntKind.i64 2))) else
         (bif intOf (cellOf y 0) == 5 then
          p (V.d (D.lit (Value.int IntKind.i64 2))) else
          (bif intOf (cellOf y 0) == 6 then
           p (V.d (D.lit (Value.int IntKind.i64 2))) else
           (bif intOf (cellOf y 0) == 7 then
            p (V.d (D.lit (Value.int IntKind.i64 0))) else
            (bif intOf (cellOf y 0) == 8 then
             p (V.d (D.lit (Value.int IntKind.i64 3))) else
             (bif intOf (cellOf y 0) == 9 then
              p (V.d (D.lit (Value.int IntKind.i64 4))) else
              (bif intOf (cellOf y 0) == 10 then
               p (V.d (D.lit (Value.int IntKind.i64 5))) else
               (bif intOf (cellOf y 0) == 11 then
                p (V.d (D.lit (Value.int IntKind.i64 4))) else
                (bif intOf (cellOf y 0) == 12 then
                 p (V.d (D.lit (Value.int IntKind.i64 3))) else
                 (bif intOf (cellOf y 0) == 13 then
                  p (V.d (D.lit (Value.int IntKind.i64 0))) else
                  p (V.d (D.lit (Value.int IntKind.i64 0)))))))))))))))))) else
    (bif intOf (cellOf y 0) == 7 then
     ((((0 : Int) ≤ 0) ∧ (0 < (List.map (fun a => intD (rec a)) (seqD (cellOf y 15))).length ∧ D.lit (Value.int IntKind.i64 (intOf ((List.map (fun a => intD (rec a)) (seqD (cellOf y 15))).getD 0 D.any))) =
  (List.map (fun a => intD (rec a)) (seqD (cellOf y 15))).getD 0 D.any)) ∧
     ((((0 : Int) ≤ 1) ∧ (1 < (List.map (fun a => intD (rec a)) (seqD (cellOf y 15))).length ∧ D.lit (Value.int IntKind.i64 (intOf ((List.map (fun a => intD (rec a)) (seqD (cellOf y 15))).getD 1 D.any))) =
  (List.map (fun a => intD (rec a)) (seqD (cellOf y 15))).getD 1 D.any)) ∧
     (FitE (eV y) ∧
     p
  (V.d
    (D.lit
      (Value.int IntKind.i64
        (binE (eV y) (intOf ((List.map (fun a => intD (rec a)) (seqD (cellOf y 15))).getD 0 D.any))
          (intOf ((List.map (fun a => intD (rec a)) (seqD (cellOf y 15))).getD 1 D.any))))))))) else
     (bif intOf (cellOf y 0) == 1 then
      p (V.d (D.lit (Value.int IntKind.i64 1))) else
      (bif intOf (cellOf y 0) == 2 then
       p (V.d (D.lit (Value.int IntKind.i64 2))) else
       (bif intOf (cellOf y 0) == 3 then
        p (V.d (D.lit (Value.int IntKind.i64 2))) else
        (bif intOf (cellOf y 0) == 4 then
         p (V.d (D.lit (Value.int IntKind.i64 2))) else
         (bif intOf (cellOf y 0) == 5 then
          p (V.d (D.lit (Value.int IntKind.i64 2))) else
          (bif intOf (cellOf y 0) == 6 then
           p (V.d (D.lit (Value.int IntKind.i64 2))) else
           (bif intOf (cellOf y 0) == 7 then
            p (V.d (D.lit (Value.int IntKind.i64 0))) else
            (bif intOf (cellOf y 0) == 8 then
             p (V.d (D.lit (Value.int IntKind.i64 3))) else
             (bif intOf (cellOf y 0) == 9 then
              p (V.d (D.lit (Value.int IntKind.i64 4))) else
              (bif intOf (cellOf y 0) == 10 then
               p (V.d (D.lit (Value.int IntKind.i64 5))) else
               (bif intOf (cellOf y 0) == 11 then
                p (V.d (D.lit (Value.int IntKind.i64 4))) else
                (bif intOf (cellOf y 0) == 12 then
                 p (V.d (D.lit (Value.int IntKind.i64 3))) else
                 (bif intOf (cellOf y 0) == 13 then
                  p (V.d (D.lit (Value.int IntKind.i64 0))) else
                  p (V.d (D.lit (Value.int IntKind.i64 0)))))))))))))))))))) := by kernel_rfl
theorem w15 (y : D) (p : V → Prop) : (evBodyT (Cn T40) T40 noCS 0 noSp noHn 15 [V.d (eV y)] Heap.empty fun v H => p (freezeR H v)) =
  (FitE (eV y) ∧
  (bif checkE (eV y) != 0 then
   p (V.d (D.tup [D.lit (Value.int IntKind.i64 0), D.lit (Value.int IntKind.i64 (checkE (eV y)))])) else
   (True ∧
   (((FitE (eV y) ∧ (etot (eV y) ≤ 100 ∧ ((partsE (eV y) : Int) = 0))) ∧ IsKinds kindsEs) ∧
   (bif typeE (eV y) == 0 then
    p (V.d (D.tup [D.lit (Value.int IntKind.i64 0), D.lit (Value.int IntKind.i64 15)])) else
    p (V.d (D.tup [D.lit (Value.int IntKind.i64 (typeE (eV y))), D.lit (Value.int IntKind.i64 0)]))))))) := by kernel_rfl
theorem arg3 {x y a b : D} (h : y = x) : [x, a, b].map V.d = [V.d y, V.d a, V.d b] := by rw [h]; rfl
theorem partsT_congr (r r' : D → Int) (y : D) (h : ∀ a ∈ subs y 15, r a = r' a) : partsT r y = partsT r' y := by
  unfold partsT
  rw [firstF_congr h]
theorem partsE_eq (y : D) : partsE y = partsT partsE y := fixD_step partsT_congr y
theorem ok44 {κ : Nat} (hk : TabOk B (U44 κ)) : OkS (Cn (U44 κ)) 0 (.loop l44) (S44 partsE κ) := by
  refine okS_loop fun N vals bs K h => ?_
  simp only [S44] at h
  split at h
  case h_2 => exact h.elim
  rename_i es b xs n i
  obtain ⟨⟨rfl, hes, _, rfl, rfl, h16, hall⟩, h⟩ := h
  refine search_loop (tab_fit base hk noCS_valid) tab_has noSp_ok (hn := noHn) (adsI := []) (nsI := []) (nsX := []) rfl rfl xs.length
    (fun i => [.d (.map es), .d (.slice b 16 xs), lint xs.length, lint i]) (fun _ => []) (firstF partsE xs) (fun e => (.ret, [lint e], [])) (by simp) (.exit 0) [.any] [] (by simp) ?_ ?_ h
  · intro i R hi hR
    refine keep (b44 κ es xs i xs.length b R) ?_
    have e1 : decide ((i : Int) < xs.length) = true := by simp; omega
    have e2 : IntKind.i64.wrap ((i : Int) + 1) = ((i + 1 : Nat) : Int) := by rw [Go.IntWalk.i64_in _ (by omega)]; omega
    obtain ⟨hv, hlt⟩ := hall _ (getD_mem hi)
    rw [e1]
    simp only [Int.toNat_natCast, e2, cond_true, hv.1.v]
    refine ⟨⟨by omega, hi, trivial⟩, ⟨⟨hv, hes⟩, hlt⟩, cond_split (fun h1 => ⟨trivial, ?_⟩) (fun h1 => ⟨trivial, ?_⟩)⟩ <;> (simp only [firstF, h1, cond_true, cond_false, optE] at hR; exact hR)
  · intro R hR
    refine keep (b44 κ es xs xs.length xs.length b R) ?_
    have e1 : decide ((xs.length : Int) < xs.length) = false := by simp
    rw [e1]
    exact ⟨rfl, hR⟩
theorem k44 : TabOk B T44 := by
  refine add_rec base k72 μ1 (fn := Tryz.f44) (cd := bodyOf Tryz.f44) (sp := fun n => spL [(10, S44 partsE n)]) (hn := noHn) Tryz.func44 (by kernel_rfl) (by kernel_rfl) (fun n hk => specT_cons (c := .loop l44) (by kernel_rfl) (ok44 hk) specT_nil) fun κ ds r hp hm hr => ?_
  unfold c44 at hp hr
  simp only [] at hr hp
  split at hr
  · rename_i x es
    cases hr
    obtain ⟨⟨hf, ht⟩, hes⟩ := hp
    rw [arg2 hf.v]
    refine keep (w44 partsE κ es x fun v => v = _) ?_
    rw [partsE_eq]
    unfold partsT
    rw [hf.v]
    have ha : ∀ y ∈ seqD (cellOf x 15), (FitE y ∧ etot y ≤ 100) ∧ dsz y < κ := fun y hy => ⟨⟨hf.a y hy, by
      have := etot_eq x
      have := le_sum (f := etot) (xs := subs x 15) hy
      omega⟩, hm ▸ subs_lt hy⟩
    have hl : (seqD (cellOf x 15)).length ≤ 100 := by
      have := etot_eq x
      have := len_etot (xs := subs x 15)
      unfold subs at *
      omega
    generalize search (firstF partsE (seqD (cellOf x 15))) (seqD (cellOf x 15)).length = o2
    cases o2 <;> (repeat' (first | with_reducible rfl | (refine cond_split (fun hcw => ?_) (fun hcw => ?_) <;> simp only [hcw, cond_true, cond_false]) | refine and_i ?_ ?_))
    all_goals first | trivial | assumption
  · cases hr
theorem k17 : TabOk B T17 := by
  refine add_body base k44 (fn := Tryz.f17) (cd := bodyOf Tryz.f17) (sp := noSp) (hn := noHn) Tryz.func17 (by kernel_rfl) (by kernel_rfl) noSp_ok fun ds r hp hr => ?_
  unfold c17 at hp hr
  simp only [] at hr hp
  split at hr
  · rename_i x
    cases hr
    rw [arg1 (FitE.v hp)]
    refine keep (w17 x fun v => v = _) ?_
    unfold checkE
    rw [FitE.v hp]
    (repeat' (first | with_reducible rfl | (refine cond_split (fun hcw => ?_) (fun hcw => ?_) <;> simp only [hcw, cond_true, cond_false]) | refine and_i ?_ ?_))
    all_goals first | exact hp | trivial | exact Eq.refl kindsEs | (simp [cap] at *; omega)
  · cases hr
theorem k70 : TabOk B T70 := by
  refine add_body base k17 (fn := Tryz.f70) (cd := bodyOf Tryz.f70) (sp := noSp) (hn := noHn) Tryz.func70 (by kernel_rfl) (by kernel_rfl) noSp_ok fun ds r hp hr => ?_
  unfold c70 at hp hr
  simp only [] at hr hp
  split at hr
  · rename_i x a b
    cases hr
    rw [arg3 (FitE.v hp)]
    refine keep (w70 x a b fun v => v = _) ?_
    unfold binE
    (repeat' (first | with_reducible rfl | (refine cond_split (fun hcw => ?_) (fun hcw => ?_) <;> simp only [hcw, cond_true, cond_false]) | refine and_i ?_ ?_))
  · cases hr
theorem cond_z {c : Bool} {k r : Int} (hk : k ≠ 0) (h : (bif c then k else r) = 0) : c = false ∧ r = 0 := by
  cases c with
  | true => exact absurd h hk
  | false => exact ⟨rfl, h⟩
theorem or_f {a b : Bool} (h : (bif a then true else b) = false) : a = false ∧ b = false := by
  cases a with
  | true => cases h
  | false => exact ⟨rfl, h⟩
def kArgs (k : Int) : Int := bif k == 6 then 1 else bif k == 7 then 2 else bif k == 12 then 1 else 0
theorem exprE_args {x : D} (h : exprE x = 0) : ((subs x 15).length : Int) = kArgs (intOf (cellOf x 0)) ∧ 1 ≤ intOf (cellOf x 0) ∧ intOf (cellOf x 0) ≤ 13 := by
  unfold exprE at h
  unfold subs
  generalize hk : intOf (cellOf x 0) = k at h ⊢
  by_cases hr : 1 ≤ k ∧ k ≤ 13
  · refine ⟨?_, hr⟩
    have : k = 1 ∨ k = 2 ∨ k = 3 ∨ k = 4 ∨ k = 5 ∨ k = 6 ∨ k = 7 ∨ k = 8 ∨ k = 9 ∨ k = 10 ∨ k = 11 ∨ k = 12 ∨ k = 13 := by omega
    rcases this with rfl | rfl | rfl | rfl | rfl | rfl | rfl | rfl | rfl | rfl | rfl | rfl | rfl
    all_goals
      simp only [Int.reduceBEq, cond_true, cond_false] at h
      first
      | (have h1 := (or_f (cond_z (by decide) h).1).2; simp at h1; simp [kArgs]; omega)
      | (have h1 := (or_f (cond_z (by decide) (cond_z (by decide) h).2).1).2; simp at h1; simp [kArgs]; omega)
  · exfalso
    have hn : ∀ j : Int, 1 ≤ j → j ≤ 13 → (k == j) = false := fun j h1 h2 => by
      have : k ≠ j := by rintro rfl; exact hr ⟨h1, h2⟩
      simpa using this
    simp only [hn 1 (by omega) (by omega), hn 2 (by omega) (by omega), hn 3 (by omega) (by omega), hn 4 (by omega) (by omega), hn 5 (by omega) (by omega), hn 6 (by omega) (by omega), hn 7 (by omega) (by omega), hn 8 (by omega) (by omega), hn 9 (by omega) (by omega), hn 10 (by omega) (by omega), hn 11 (by omega) (by omega), hn 12 (by omega) (by omega), hn 13 (by omega) (by omega), cond_false] at h
    exact absurd h (by decide)
theorem typeT_congr (r r' : D → Int) (y : D) (h : ∀ a ∈ subs y 15, r a = r' a) : typeT r y = typeT r' y := by
  unfold typeT
  have e : List.map (fun a => intD (r a)) (seqD (cellOf y 15)) = List.map (fun a => intD (r' a)) (seqD (cellOf y 15)) := List.map_congr_left fun a ha => by rw [h a ha]
  rw [e]
theorem typeE_eq (y : D) : typeE y = typeT typeE y := fixD_step typeT_congr y
theorem search_all {f : D → Int} {xs : List D} (h : search (firstF f xs) xs.length = none) : ∀ a ∈ xs, f a = 0 := by
  have key : ∀ n i, i + n = xs.length → rounds (fun i _ => ofOpt (firstF f xs i)) n i () = .inl () → ∀ j, i ≤ j → j < xs.length → f (xs.getD j .any) = 0 := by
    intro n
    induction n with
    | zero => intro i hi _ j h1 h2; omega
    | succ n ih =>
      intro i hi hr j h1 h2
      unfold rounds at hr
      cases hf : firstF f xs i with
      | some e => simp only [hf, ofOpt] at hr; cases hr
      | none =>
        simp only [hf, ofOpt] at hr
        by_cases hj : j = i
        · subst hj
          unfold firstF at hf
          cases hb : (f (xs.getD j .any) != 0) with
          | true => rw [hb] at hf; cases hf
          | false => simpa using hb
        · exact ih (i + 1) (by omega) hr j (by omega) h2
  intro a ha
  obtain ⟨j, hj, rfl⟩ := List.getElem_of_mem ha
  unfold search at h
  cases hr : rounds (fun i _ => ofOpt (firstF f xs i)) xs.length 0 () with
  | inr b => rw [hr] at h; cases h
  | inl u =>
    have := key _ 0 (by omega) hr j (by omega) hj
    rw [List.getD_eq_getElem?_getD, List.getElem?_eq_getElem hj] at this
    exact this
theorem firstF_ne {f : D → Int} {xs : List D} {e : Int} (h : search (firstF f xs) xs.length = some e) : e ≠ 0 := by
  have key : ∀ n i, rounds (fun i _ => ofOpt (firstF f xs i)) n i () = .inr e → e ≠ 0 := by
    intro n
    induction n with
    | zero => intro i h; cases h
    | succ n ih =>
      intro i hr
      unfold rounds at hr
      cases hf : firstF f xs i with
      | none => simp only [hf, ofOpt] at hr; exact ih _ hr
      | some x =>
        simp only [hf, ofOpt] at hr
        cases hr
        unfold firstF at hf
        cases hb : (f (xs.getD i .any) != 0) with
        | true => rw [hb] at hf; cases hf; simpa using hb
        | false => rw [hb] at hf; cases hf
  unfold search at h
  cases hr : rounds (fun i _ => ofOpt (firstF f xs i)) xs.length 0 () with
  | inl b => rw [hr] at h; cases h
  | inr b => rw [hr] at h; cases h; exact key _ _ hr
theorem partsE_ok {x : D} (hv : eV x = x) (h : partsE x = 0) : exprE x = 0 ∧ ∀ a ∈ subs x 15, partsE a = 0 := by
  rw [partsE_eq] at h
  unfold partsT at h
  rw [hv] at h
  cases he : (exprE x != 0) with
  | true => rw [he] at h; simp at he; exact absurd h he
  | false =>
    rw [he] at h
    simp only [cond_false] at h
    refine ⟨by simpa using he, ?_⟩
    cases hs : search (firstF partsE (seqD (cellOf x 15))) (seqD (cellOf x 15)).length with
    | none => exact search_all hs
    | some e => rw [hs] at h; exact absurd h (firstF_ne hs)
theorem k15w {y : D} (h : checkE y = 0) (hv : eV y = y) : etot y ≤ 100 ∧ edep y ≤ 12 ∧ partsE y = 0 := by
  unfold checkE at h
  rw [hv] at h
  obtain ⟨h1, h⟩ := cond_z (by decide) h
  obtain ⟨h2, h⟩ := cond_z (by decide) h
  simp [cap] at h1 h2
  exact ⟨by omega, by omega, h⟩
theorem ok40 {κ : Nat} (hk : TabOk B (U40 κ)) : OkS (Cn (U40 κ)) 0 (.loop l40) (S40 typeE κ) := by
  refine okS_loop fun N vals bs K h => ?_
  simp only [S40] at h
  split at h
  case h_2 => exact h.elim
  rename_i es b xs n i cs
  obtain ⟨⟨⟨y, rfl⟩, rfl, hes, _, rfl, rfl, h16, hall⟩, h⟩ := h
  have main : ∀ k i ts, i + k = xs.length → ts = (xs.take i).map (fun a => intD (typeE a)) → LoopT (Cn (U40 κ)) 0 l40 52 [1,2,5,10,11,12] [[5000],[5001]] [1,2,5] [[5000],[5001]] [.d (.map es), .ptr [5000] 0, .ref [5001], .d (.slice b 16 xs), lint xs.length, lint i] [eBox y, .arr true false 3 1 ts []] K := by
    intro k
    induction k with
    | zero =>
      intro i ts hi hts
      have : i = xs.length := by omega
      subst this
      rw [List.take_length] at hts
      subst hts
      refine loopT_step (tab_fit base hk noCS_valid) tab_has noSp_ok (hn := noHn) (adsI := []) (nsI := [([5000],[5000]),([5001],[23])]) (nsX := [([5000],[5000]),([5001],[5001])]) rfl rfl (keep (b40 κ es _ y xs xs.length xs.length b _) ?_)
      have e1 : decide ((xs.length : Int) < xs.length) = false := by simp
      rw [e1]
      exact ⟨rfl, h⟩
    | succ k ih =>
      intro i ts hi hts
      refine loopT_step (tab_fit base hk noCS_valid) tab_has noSp_ok (hn := noHn) (adsI := []) (nsI := [([5000],[5000]),([5001],[23])]) (nsX := [([5000],[5000]),([5001],[5001])]) rfl rfl (keep (b40 κ es ts y xs i xs.length b _) ?_)
      have e1 : decide ((i : Int) < xs.length) = true := by simp; omega
      have e2 : IntKind.i64.wrap ((i : Int) + 1) = ((i + 1 : Nat) : Int) := by rw [Go.IntWalk.i64_in _ (by omega)]; omega
      obtain ⟨hv, hlt⟩ := hall _ (getD_mem (xs := xs) (i := i) (by omega))
      have hl : ts.length = i := by rw [hts, List.length_map, List.length_take]; omega
      have e3 : ((ts.length + 1) * 8).ble 70368744177664 = true := by rw [hl, Nat.ble_eq]; omega
      rw [e1, e3]
      simp only [Int.toNat_natCast, e2, cond_true, hv.1.v]
      refine ⟨⟨by omega, by omega, trivial⟩, ⟨⟨hv, hes⟩, hlt⟩, trivial, ih (i + 1) _ (by omega) ?_⟩
      rw [hts, List.take_add_one, List.map_append, List.getElem?_eq_getElem (by omega : i < xs.length), List.getD_eq_getElem?_getD, List.getElem?_eq_getElem (by omega : i < xs.length)]
      rfl
  exact main xs.length 0 [] (by omega) (by simp)
theorem intD_at {f : D → Int} {xs : List D} {i : Nat} (h : i < xs.length) : D.lit (Value.int IntKind.i64 (intOf ((xs.map fun a => intD (f a)).getD i .any))) = (xs.map fun a => intD (f a)).getD i .any := by
  rw [List.getD_eq_getElem?_getD, List.getElem?_map, List.getElem?_eq_getElem h]; rfl
theorem k40 : TabOk B T40 := by
  refine add_rec base k70 μ1 (fn := Tryz.f40) (cd := bodyOf Tryz.f40) (sp := fun n => spL [(6, S40 typeE n)]) (hn := noHn) Tryz.func40 (by kernel_rfl) (by kernel_rfl) (fun n hk => specT_cons (c := .loop l40) (by kernel_rfl) (ok40 hk) specT_nil) fun κ ds r hp hm hr => ?_
  unfold c40 at hp hr
  simp only [] at hr hp
  split at hr
  · rename_i x es
    cases hr
    obtain ⟨⟨hf, ht, hpa⟩, hes⟩ := hp
    rw [show es = kindsEs from hes, arg2 hf.v]
    refine keep (w40 typeE κ es x fun v => v = _) ?_
    rw [typeE_eq]
    unfold typeT
    rw [hf.v]
    obtain ⟨hx, hap⟩ := partsE_ok hf.v hpa
    have hlen := (exprE_args hx).1
    have ha : ∀ y ∈ seqD (cellOf x 15), (FitE y ∧ etot y ≤ 100 ∧ partsE y = 0) ∧ dsz y < κ := fun y hy => ⟨⟨hf.a y hy, by
      have := etot_eq x
      have := le_sum (f := etot) (xs := subs x 15) hy
      omega, hap y hy⟩, hm ▸ subs_lt hy⟩
    have hl : (seqD (cellOf x 15)).length ≤ 100 := by
      have := etot_eq x
      have := len_etot (xs := subs x 15)
      unfold subs at *
      omega
    have h6 : (intOf (cellOf x 0) == 6) = true → (seqD (cellOf x 15)).length = 1 := fun h => by
      have h : intOf (cellOf x 0) = 6 := by simpa using h
      rw [h] at hlen; unfold subs at hlen; simp [kArgs] at hlen; omega
    have h12 : (intOf (cellOf x 0) == 12) = true → (seqD (cellOf x 15)).length = 1 := fun h => by
      have h : intOf (cellOf x 0) = 12 := by simpa using h
      rw [h] at hlen; unfold subs at hlen; simp [kArgs] at hlen; omega
    have h7 : (intOf (cellOf x 0) == 7) = true → (seqD (cellOf x 15)).length = 2 := fun h => by
      have h : intOf (cellOf x 0) = 7 := by simpa using h
      rw [h] at hlen; unfold subs at hlen; simp [kArgs] at hlen; omega
    have hE : IsE (eCells x) := ⟨x, rfl⟩
    have hK : IsKinds kindsEs := rfl
    (repeat' (first | with_reducible rfl | (refine cond_split (fun hcw => ?_) (fun hcw => ?_) <;> simp only [hcw, cond_true, cond_false]) | refine and_i ?_ ?_))
    all_goals first
      | trivial
      | assumption
      | exact hE
      | (rw [List.length_map, h6 (by assumption)]; decide)
      | (rw [List.length_map, h12 (by assumption)]; decide)
      | (rw [List.length_map, h7 (by assumption)]; decide)
      | exact intD_at (by rw [h6 (by assumption)]; decide)
      | exact intD_at (by rw [h12 (by assumption)]; decide)
      | exact intD_at (by rw [h7 (by assumption)]; decide)
  · cases hr
noncomputable def c15 : Ct := ⟨fun | [x] => FitE x | _ => False, fun | [x] => some (.tup [intD (bif checkE x != 0 then 0 else typeE x), intD (bif checkE x != 0 then checkE x else bif typeE x == 0 then 15 else 0)]) | _ => none⟩
noncomputable def T15 : Tab := T40.add 15 c15
theorem k15 : TabOk B T15 := by
  refine add_body base k40 (fn := Tryz.f15) (cd := bodyOf Tryz.f15) (sp := noSp) (hn := noHn) Tryz.func15 (by kernel_rfl) (by kernel_rfl) noSp_ok fun ds r hp hr => ?_
  unfold c15 at hp hr
  simp only [] at hr hp
  split at hr
  · rename_i x
    cases hr
    rw [arg1 (FitE.v hp)]
    refine keep (w15 x fun v => v = _) ?_
    rw [FitE.v hp]
    refine ⟨hp, cond_split (fun h => ?_) (fun h => ?_)⟩
    · simp only [h, cond_true]
    · simp only [h, cond_false]
      have h0 : checkE x = 0 := by simpa using h
      obtain ⟨a1, a2, a3⟩ := k15w h0 (FitE.v hp)
      refine ⟨trivial, ⟨⟨hp, a1, a3⟩, Eq.refl kindsEs⟩, cond_split (fun h => ?_) (fun h => ?_)⟩
      · have : typeE x = 0 := by simpa using h
        simp only [this]; rfl
      · simp only [h, cond_false]
  · cases hr
end Go.Ev.R2
end
section
namespace Go.Ev.R2
open Go Go.Ev Go.Proofs
set_option maxRecDepth 100000
set_option linter.unusedVariables false
set_option linter.unusedSimpArgs false
def cntL (rec : D → Int → Int) : List D → Int → Int
  | [], m => m
  | a :: r, m => bif decide (m ≤ 100) then cntL rec r (rec a m) else m
noncomputable def cnpT (rec : D → Int → Int) (y : D) (n : Int) : Int :=
  (cntL rec (seqD (cellOf y 2)) (IntKind.i64.wrap (n + 1)))
noncomputable def cnpE (y : D) : Int → Int := fixD (fun rec y => cnpT rec y) (fun n => n) (dsz y + 1) y
noncomputable def c49 : Ct := ⟨fun | [x, .lit (.int .i64 n)] => FitP x | _ => False, fun | [x, .lit (.int .i64 n)] => some (.lit (.int .i64 (cnpE x n))) | _ => none⟩
noncomputable def U49 (κ : Nat) : Tab := T15.add 49 (c49.below μ1 κ)
noncomputable def T49 : Tab := T15.add 49 c49
noncomputable def l49 : Code := roundOf (pieceAt (bodyOf Tryz.f49) 6)
noncomputable def S49 (rec : D → Int → Int) (κ : Nat) : Ev.Spec := { L := [1,2,5], ns := [([5000],[4])], L' := [1], nm' := [], G := fun N vals bs k => match vals, bs with
  | [.d (.lit (.int .i64 m)), .ptr [5000] 0, .d (.lit (.int .i64 i))], [.cells 30 [.d (.lit (.int .i64 q)), .d (.slice b1 4 cs), .d (.slice b2 3 xs)]] => (N = 27 ∧ rec = cnpE ∧ i = 0 ∧ Short xs ∧ ∀ y ∈ xs, FitP y ∧ dsz y < κ) ∧ k (.exit 0) [lint (cntL rec xs m)] []
  | _, _ => False }
theorem b49 (κ : Nat) (q : Int) (cs : List D) (xs : List D) (b1 : Bool) (b2 : Bool) (i : Int) (m : Int) (R : X → List V → List Box → Prop) : (roundT (Cn (U49 κ)) (U49 κ) noCS 0 noSp noHn l49 27 [1, 2, 5] [[5000]] [] [([5000], [5000])] [1] []
  [lint m, V.ptr [5000] 0, lint i] [pBox q b1 cs b2 xs] R) =
  (bif bif decide (i < (↑xs.length : Int)) then decide (m ≤ 100) else false then
   ((((0 : Int) ≤ i) ∧ (i.toNat < xs.length ∧ pV (xs.getD i.toNat D.any) = xs.getD i.toNat D.any)) ∧
   ((FitP (pV (xs.getD i.toNat D.any)) ∧ μ1 [pV (xs.getD i.toNat D.any), D.lit (Value.int IntKind.i64 m)] < κ) ∧
   (27 = 27 ∧
   R X.normal
  [V.d (D.lit (Value.int IntKind.i64 (cnpE (pV (xs.getD i.toNat D.any)) m))), V.ptr [5000] 0,
    V.d (D.lit (Value.int IntKind.i64 (IntKind.i64.wrap (i + 1))))]
  [Box.cells 30 [V.d (D.lit (Value.int IntKind.i64 q)), V.d (D.slice b1 4 cs), V.d (D.slice b2 3 xs)]]))) else
   (27 = 27 ∧
   R (X.exit 0) [V.d (D.lit (Value.int IntKind.i64 m))] [])) := by kernel_rfl
theorem w49 (rec : D → Int → Int) (κ : Nat) (y : D) (n : Int) (p : V → Prop) : (evBodyT (Cn (U49 κ)) (U49 κ) noCS 0 (spL [(6, S49 rec κ)]) noHn 49 [V.d (pV y), lint n] Heap.empty fun v H =>
  p (freezeR H v)) =
  ((27 = 27 ∧ (rec = cnpE ∧ (((0 : Int) = 0) ∧ (Short (seqD (cellOf y 2)) ∧ ∀ (y_1 : D), y_1 ∈ seqD (cellOf y 2) → FitP y_1 ∧ dsz y_1 < κ)))) ∧
  p (V.d (D.lit (Value.int IntKind.i64 (cntL rec (seqD (cellOf y 2)) (IntKind.i64.wrap (n + 1))))))) := by kernel_rfl
noncomputable def cntT (rec : D → Int → Int) (y : D) (n : Int) : Int :=
  (bif decide ((↑(seqD (cellOf y 10)).length : Int) > 100) then
 101 else
 (bif bif
    bif intOf (cellOf y 11) != 0 then true
    else
      decide (IntKind.i64.wrap ((↑(seqD (cellOf y 12)).length : Int) + (↑(seqD (cellOf y 13)).length : Int)) > 0) then
  decide (IntKind.i64.wrap (IntKind.i64.wrap (n + 1) + (↑(seqD (cellOf y 10)).length : Int)) ≤ 100)
else false then
 (cntL rec (seqD (cellOf y 15))
          (cnpE (paV y) (IntKind.i64.wrap (IntKind.i64.wrap (n + 1) + (↑(seqD (cellOf y 10)).length : Int))))) else
 (cntL rec (seqD (cellOf y 15))
          (IntKind.i64.wrap (IntKind.i64.wrap (n + 1) + (↑(seqD (cellOf y 10)).length : Int))))))
noncomputable def cntE (y : D) : Int → Int := fixD (fun rec y => cntT rec y) (fun n => n) (dsz y + 1) y
noncomputable def c48 : Ct := ⟨fun | [x, .lit (.int .i64 n)] => FitE x | _ => False, fun | [x, .lit (.int .i64 n)] => some (.lit (.int .i64 (cntE x n))) | _ => none⟩
noncomputable def U48 (κ : Nat) : Tab := T49.add 48 (c48.below μ1 κ)
noncomputable def T48 : Tab := T49.add 48 c48
noncomputable def l48 : Code := roundOf (pieceAt (bodyOf Tryz.f48) 16)
noncomputable def S48 (rec : D → Int → Int) (κ : Nat) : Ev.Spec := { L := [1,2,5], ns := [([5000],[4])], L' := [1], nm' := [], G := fun N vals bs k => match vals, bs with
  | [.d (.lit (.int .i64 m)), .ptr [5000] 0, .d (.lit (.int .i64 i))], [.cells 33 [a0, a1, a2, a3, a4, a5, a6, a7, a8, a9, a10, a11, a12, a13, a14, .d (.slice b 16 xs)]] => (IsE [a0, a1, a2, a3, a4, a5, a6, a7, a8, a9, a10, a11, a12, a13, a14, .d (.slice b 16 xs)] ∧ N = 60 ∧ rec = cntE ∧ i = 0 ∧ Short xs ∧ ∀ y ∈ xs, FitE y ∧ dsz y < κ) ∧ k (.exit 0) [lint (cntL rec xs m)] []
  | _, _ => False }
theorem b48 (κ : Nat) (y : D) (i : Int) (m : Int) (R : X → List V → List Box → Prop) : (roundT (Cn (U48 κ)) (U48 κ) noCS 0 noSp noHn l48 60 [1, 2, 5] [[5000]] [] [([5000], [5000])] [1] []
  [lint m, V.ptr [5000] 0, lint i] [eBox y] R) =
  (bif bif decide (i < (↑(seqD (cellOf y 15)).length : Int)) then decide (m ≤ 100) else false then
   ((((0 : Int) ≤ i) ∧ (i.toNat < (seqD (cellOf y 15)).length ∧ eV ((seqD (cellOf y 15)).getD i.toNat D.any) = (seqD (cellOf y 15)).getD i.toNat D.any)) ∧
   ((FitE (eV ((seqD (cellOf y 15)).getD i.toNat D.any)) ∧ μ1 [eV ((seqD (cellOf y 15)).getD i.toNat D.any), D.lit (Value.int IntKind.i64 m)] < κ) ∧
   (60 = 60 ∧
   R X.normal
  [V.d (D.lit (Value.int IntKind.i64 (cntE (eV ((seqD (cellOf y 15)).getD i.toNat D.any)) m))), V.ptr [5000] 0,
    V.d (D.lit (Value.int IntKind.i64 (IntKind.i64.wrap (i + 1))))]
  [Box.cells 33
      [V.d (D.lit (Value.int IntKind.i64 (intOf (cellOf y 0)))),
        V.d (D.lit (Value.int IntKind.i64 (intOf (cellOf y 1)))),
        V.d (D.slice (nilOf (cellOf y 2)) 3 (seqD (cellOf y 2))),
        V.d (D.lit (Value.int IntKind.i64 (intOf (cellOf y 3)))),
        V.d (D.lit (Value.int IntKind.i64 (intOf (cellOf y 4)))),
        V.d (D.lit (Value.int IntKind.i64 (intOf (cellOf y 5)))),
        V.d (D.lit (Value.int IntKind.i64 (intOf (cellOf y 6)))),
        V.d (D.slice (nilOf (cellOf y 7)) 1 (seqD (cellOf y 7))), V.d (D.lit (Value.bool (boolOf (cellOf y 8)))),
        V.d (D.lit (Value.int IntKind.i64 (intOf (cellOf y 9)))),
        V.d (D.slice (nilOf (cellOf y 10)) 4 (seqD (cellOf y 10))),
        V.d (D.lit (Value.int IntKind.i64 (intOf (cellOf y 11)))),
        V.d (D.slice (nilOf (cellOf y 12)) 4 (seqD (cellOf y 12))),
        V.d (D.slice (nilOf (cellOf y 13)) 3 (seqD (cellOf y 13))), V.d (D.lit (Value.string (strOf (cellOf y 14)))),
        V.d (D.slice (nilOf (cellOf y 15)) 16 (seqD (cellOf y 15)))]]))) else
   (60 = 60 ∧
   R (X.exit 0) [V.d (D.lit (Value.int IntKind.i64 m))] [])) := by kernel_rfl
theorem w48 (rec : D → Int → Int) (κ : Nat) (y : D) (n : Int) (p : V → Prop) : (evBodyT (Cn (U48 κ)) (U48 κ) noCS 0 (spL [(16, S48 rec κ)]) noHn 48 [V.d (eV y), lint n] Heap.empty fun v H =>
  p (freezeR H v)) =
  (bif decide ((↑(seqD (cellOf y 10)).length : Int) > 100) then
   p (V.d (D.lit (Value.int IntKind.i64 101))) else
   (bif bif
    bif intOf (cellOf y 11) != 0 then true
    else
      decide (IntKind.i64.wrap ((↑(seqD (cellOf y 12)).length : Int) + (↑(seqD (cellOf y 13)).length : Int)) > 0) then
  decide (IntKind.i64.wrap (IntKind.i64.wrap (n + 1) + (↑(seqD (cellOf y 10)).length : Int)) ≤ 100)
else false then
    (FitP (paV y) ∧
    ((IsE
  [V.d (D.lit (Value.int IntKind.i64 (intOf (cellOf y 0)))), V.d (D.lit (Value.int IntKind.i64 (intOf (cellOf y 1)))),
    V.d (D.slice (nilOf (cellOf y 2)) 3 (seqD (cellOf y 2))), V.d (D.lit (Value.int IntKind.i64 (intOf (cellOf y 3)))),
    V.d (D.lit (Value.int IntKind.i64 (intOf (cellOf y 4)))), V.d (D.lit (Value.int IntKind.i64 (intOf (cellOf y 5)))),
    V.d (D.lit (Value.int IntKind.i64 (intOf (cellOf y 6)))), V.d (D.slice (nilOf (cellOf y 7)) 1 (seqD (cellOf y 7))),
    V.d (D.lit (Value.bool (boolOf (cellOf y 8)))), V.d (D.lit (Value.int IntKind.i64 (intOf (cellOf y 9)))),
    V.d (D.slice (nilOf (cellOf y 10)) 4 (seqD (cellOf y 10))),
    V.d (D.lit (Value.int IntKind.i64 (intOf (cellOf y 11)))),
    V.d (D.slice (nilOf (cellOf y 12)) 4 (seqD (cellOf y 12))),
    V.d (D.slice (nilOf (cellOf y 13)) 3 (seqD (cellOf y 13))), V.d (D.lit (Value.string (strOf (cellOf y 14)))),
    V.d (D.slice (nilOf (cellOf y 15)) 16 (seqD (cellOf y 15)))] ∧ (60 = 60 ∧ (rec = cntE ∧ (((0 : Int) = 0) ∧ (Short (seqD (cellOf y 15)) ∧ ∀ (y_1 : D), y_1 ∈ seqD (cellOf y 15) → FitE y_1 ∧ dsz y_1 < κ))))) ∧
    p
  (V.d
    (D.lit
      (Value.int IntKind.i64
        (cntL rec (seqD (cellOf y 15))
          (cnpE (paV y) (IntKind.i64.wrap (IntKind.i64.wrap (n + 1) + (↑(seqD (cellOf y 10)).length : Int)))))))))) else
    ((IsE
  [V.d (D.lit (Value.int IntKind.i64 (intOf (cellOf y 0)))), V.d (D.lit (Value.int IntKind.i64 (intOf (cellOf y 1)))),
    V.d (D.slice (nilOf (cellOf y 2)) 3 (seqD (cellOf y 2))), V.d (D.lit (Value.int IntKind.i64 (intOf (cellOf y 3)))),
    V.d (D.lit (Value.int IntKind.i64 (intOf (cellOf y 4)))), V.d (D.lit (Value.int IntKind.i64 (intOf (cellOf y 5)))),
    V.d (D.lit (Value.int IntKind.i64 (intOf (cellOf y 6)))), V.d (D.slice (nilOf (cellOf y 7)) 1 (seqD (cellOf y 7))),
    V.d (D.lit (Value.bool (boolOf (cellOf y 8)))), V.d (D.lit (Value.int IntKind.i64 (intOf (cellOf y 9)))),
    V.d (D.slice (nilOf (cellOf y 10)) 4 (seqD (cellOf y 10))),
    V.d (D.lit (Value.int IntKind.i64 (intOf (cellOf y 11)))),
    V.d (D.slice (nilOf (cellOf y 12)) 4 (seqD (cellOf y 12))),
    V.d (D.slice (nilOf (cellOf y 13)) 3 (seqD (cellOf y 13))), V.d (D.lit (Value.string (strOf (cellOf y 14)))),
    V.d (D.slice (nilOf (cellOf y 15)) 16 (seqD (cellOf y 15)))] ∧ (60 = 60 ∧ (rec = cntE ∧ (((0 : Int) = 0) ∧ (Short (seqD (cellOf y 15)) ∧ ∀ (y_1 : D), y_1 ∈ seqD (cellOf y 15) → FitE y_1 ∧ dsz y_1 < κ))))) ∧
    p
  (V.d
    (D.lit
      (Value.int IntKind.i64
        (cntL rec (seqD (cellOf y 15))
          (IntKind.i64.wrap (IntKind.i64.wrap (n + 1) + (↑(seqD (cellOf y 10)).length : Int)))))))))) := by kernel_rfl
noncomputable def c20 : Ct := ⟨fun | [x] => FitE x | _ => False, fun | [x] => some (.lit (.int .i64 (bif false then if 101 > cntE x 0 then 101 else cntE x 0 else if 101 < cntE x 0 then 101 else cntE x 0))) | _ => none⟩
noncomputable def T20 : Tab := T48.add 20 c20
theorem w20 (y : D) (p : V → Prop) : (evBodyT (Cn T48) T48 noCS 0 noSp noHn 20 [V.d (eV y)] Heap.empty fun v H => p (freezeR H v)) =
  (FitE (eV y) ∧
  p
  (V.d
    (D.lit
      (Value.int IntKind.i64
        (bif false then if 101 > cntE (eV y) 0 then 101 else cntE (eV y) 0
        else if 101 < cntE (eV y) 0 then 101 else cntE (eV y) 0))))) := by kernel_rfl
theorem drop_at {xs : List D} {i : Nat} (h : i < xs.length) : xs.drop i = xs.getD i .any :: xs.drop (i + 1) := by
  rw [List.drop_eq_getElem_cons h, List.getD_eq_getElem?_getD, List.getElem?_eq_getElem h]; rfl
theorem cntL_congr {r r' : D → Int → Int} : ∀ {xs : List D} {m : Int}, (∀ a ∈ xs, r a = r' a) → cntL r xs m = cntL r' xs m
  | [], m, h => rfl
  | a :: l, m, h => by
    unfold cntL
    rw [h a (.head _), cntL_congr fun b hb => h b (.tail _ hb)]
theorem cnpT_congr (r r' : D → Int → Int) (y : D) (h : ∀ a ∈ subs y 2, r a = r' a) : cnpT r y = cnpT r' y := by
  funext n; unfold cnpT; exact cntL_congr h
theorem cnpE_eq (y : D) : cnpE y = cnpT cnpE y := fixD_step (F := fun rec y => cnpT rec y) cnpT_congr y
theorem cntT_congr (r r' : D → Int → Int) (y : D) (h : ∀ a ∈ subs y 15, r a = r' a) : cntT r y = cntT r' y := by
  have e : ∀ m, cntL r (seqD (cellOf y 15)) m = cntL r' (seqD (cellOf y 15)) m := fun m => cntL_congr h
  funext n; unfold cntT; simp only [e]
theorem cntE_eq (y : D) : cntE y = cntT cntE y := fixD_step (F := fun rec y => cntT rec y) cntT_congr y
theorem ok49 {κ : Nat} (hk : TabOk B (U49 κ)) : OkS (Cn (U49 κ)) 0 (.loop l49) (S49 cnpE κ) := by
  refine okS_loop fun N vals bs K h => ?_
  simp only [S49] at h
  split at h
  case h_2 => exact h.elim
  rename_i m i q b1 cs b2 xs
  obtain ⟨⟨rfl, _, rfl, hsh, hx⟩, h⟩ := h
  have main : ∀ k i (m : Int), i + k = xs.length → K (.exit 0) [lint (cntL cnpE (xs.drop i) m)] [] → LoopT (Cn (U49 κ)) 0 l49 27 [1,2,5] [[5000]] [1] [] [lint m, .ptr [5000] 0, lint i] [pBox q b1 cs b2 xs] K := by
    intro k
    induction k with
    | zero =>
      intro i m hi h
      have : i = xs.length := by omega
      subst this
      refine loopT_step (tab_fit base hk noCS_valid) tab_has noSp_ok (hn := noHn) (adsI := []) (nsI := [([5000],[5000])]) (nsX := []) rfl rfl (keep (b49 κ q cs xs b1 b2 xs.length m _) ?_)
      have e1 : decide ((xs.length : Int) < xs.length) = false := by simp
      rw [e1]
      rw [List.drop_length] at h
      exact ⟨rfl, h⟩
    | succ k ih =>
      intro i m hi h
      refine loopT_step (tab_fit base hk noCS_valid) tab_has noSp_ok (hn := noHn) (adsI := []) (nsI := [([5000],[5000])]) (nsX := []) rfl rfl (keep (b49 κ q cs xs b1 b2 i m _) ?_)
      have e1 : decide ((i : Int) < xs.length) = true := by simp; omega
      have hs : xs.length ≤ 1152921504606846976 := hsh
      have e2 : IntKind.i64.wrap ((i : Int) + 1) = ((i + 1 : Nat) : Int) := by rw [Go.IntWalk.i64_in _ (by omega)]; omega
      obtain ⟨hf, hlt⟩ := hx _ (getD_mem (xs := xs) (i := i) (by omega))
      have hv := hf.v
      rw [drop_at (by omega)] at h
      unfold cntL at h
      rw [e1]
      simp only [Int.toNat_natCast, e2, cond_true, hv]
      refine cond_split (fun hb => ?_) (fun hb => ?_)
      · rw [hb] at h
        exact ⟨⟨by omega, by omega, trivial⟩, ⟨hf, hlt⟩, trivial, ih (i + 1) _ (by omega) h⟩
      · rw [hb] at h
        exact ⟨trivial, h⟩
  exact main xs.length 0 m (by omega) (by rw [List.drop_zero]; exact h)
theorem k49 : TabOk B T49 := by
  refine add_rec base k15 μ1 (fn := Tryz.f49) (cd := bodyOf Tryz.f49) (sp := fun n => spL [(6, S49 cnpE n)]) (hn := noHn) Tryz.func49 (by kernel_rfl) (by kernel_rfl) (fun n hk => specT_cons (c := .loop l49) (by kernel_rfl) (ok49 hk) specT_nil) fun κ ds r hp hm hr => ?_
  unfold c49 at hp hr
  simp only [] at hr hp
  split at hr
  · rename_i x n
    cases hr
    rw [arg2 (FitP.v hp)]
    refine keep (w49 cnpE κ x n fun v => v = _) ?_
    rw [cnpE_eq]
    exact ⟨⟨rfl, rfl, rfl, (FitP.l hp).2, fun y hy => ⟨FitP.a hp y hy, hm ▸ subs_lt hy⟩⟩, rfl⟩
  · cases hr
theorem ok48 {κ : Nat} (hk : TabOk B (U48 κ)) : OkS (Cn (U48 κ)) 0 (.loop l48) (S48 cntE κ) := by
  refine okS_loop fun N vals bs K h => ?_
  simp only [S48] at h
  split at h
  case h_2 => exact h.elim
  rename_i m i a0 a1 a2 a3 a4 a5 a6 a7 a8 a9 a10 a11 a12 a13 a14 b xs
  obtain ⟨⟨⟨y, hy⟩, rfl, _, rfl, hsh, hx⟩, h⟩ := h
  have hxs : xs = seqD (cellOf y 15) := by
    have := congrArg (fun l : List V => l.getD 15 .any) hy
    simp at this
    exact this.2
  rw [hy]
  subst hxs
  have main : ∀ k i (m : Int), i + k = (seqD (cellOf y 15)).length → K (.exit 0) [lint (cntL cntE ((seqD (cellOf y 15)).drop i) m)] [] → LoopT (Cn (U48 κ)) 0 l48 60 [1,2,5] [[5000]] [1] [] [lint m, .ptr [5000] 0, lint i] [eBox y] K := by
    intro k
    induction k with
    | zero =>
      intro i m hi h
      have : i = (seqD (cellOf y 15)).length := by omega
      subst this
      refine loopT_step (tab_fit base hk noCS_valid) tab_has noSp_ok (hn := noHn) (adsI := []) (nsI := [([5000],[5000])]) (nsX := []) rfl rfl (keep (b48 κ y (seqD (cellOf y 15)).length m _) ?_)
      have e1 : decide (((seqD (cellOf y 15)).length : Int) < (seqD (cellOf y 15)).length) = false := by simp
      rw [e1]
      rw [List.drop_length] at h
      exact ⟨rfl, h⟩
    | succ k ih =>
      intro i m hi h
      refine loopT_step (tab_fit base hk noCS_valid) tab_has noSp_ok (hn := noHn) (adsI := []) (nsI := [([5000],[5000])]) (nsX := []) rfl rfl (keep (b48 κ y i m _) ?_)
      have e1 : decide ((i : Int) < (seqD (cellOf y 15)).length) = true := by simp; omega
      have hs : (seqD (cellOf y 15)).length ≤ 1152921504606846976 := hsh
      have e2 : IntKind.i64.wrap ((i : Int) + 1) = ((i + 1 : Nat) : Int) := by rw [Go.IntWalk.i64_in _ (by omega)]; omega
      obtain ⟨hf, hlt⟩ := hx _ (getD_mem (xs := seqD (cellOf y 15)) (i := i) (by omega))
      have hv := hf.v
      rw [drop_at (by omega)] at h
      unfold cntL at h
      rw [e1]
      simp only [Int.toNat_natCast, e2, cond_true, hv]
      refine cond_split (fun hb => ?_) (fun hb => ?_)
      · rw [hb] at h
        exact ⟨⟨by omega, by omega, trivial⟩, ⟨hf, hlt⟩, trivial, ih (i + 1) _ (by omega) h⟩
      · rw [hb] at h
        exact ⟨trivial, h⟩
  exact main (seqD (cellOf y 15)).length 0 m (by omega) (by rw [List.drop_zero]; exact h)
theorem k48 : TabOk B T48 := by
  refine add_rec base k49 μ1 (fn := Tryz.f48) (cd := bodyOf Tryz.f48) (sp := fun n => spL [(16, S48 cntE n)]) (hn := noHn) Tryz.func48 (by kernel_rfl) (by kernel_rfl) (fun n hk => specT_cons (c := .loop l48) (by kernel_rfl) (ok48 hk) specT_nil) fun κ ds r hp hm hr => ?_
  unfold c48 at hp hr
  simp only [] at hr hp
  split at hr
  · rename_i x n
    cases hr
    rw [arg2 (FitE.v hp)]
    refine keep (w48 cntE κ x n fun v => v = _) ?_
    rw [cntE_eq]
    unfold cntT
    have hE : IsE (eCells x) := ⟨x, rfl⟩
    have hs : Short (seqD (cellOf x 15)) := (FitE.l hp).2.2
    have ha : ∀ y ∈ seqD (cellOf x 15), FitE y ∧ dsz y < κ := fun y hy => ⟨FitE.a hp y hy, hm ▸ subs_lt hy⟩
    (repeat' (first | with_reducible rfl | (refine cond_split (fun hcw => ?_) (fun hcw => ?_) <;> simp only [hcw, cond_true, cond_false]) | refine and_i ?_ ?_))
    all_goals first | trivial | assumption | exact hE | exact FitE.p hp
  · cases hr
theorem k20 : TabOk B T20 := by
  refine add_body base k48 (fn := Tryz.f20) (cd := bodyOf Tryz.f20) (sp := noSp) (hn := noHn) Tryz.func20 (by kernel_rfl) (by kernel_rfl) noSp_ok fun ds r hp hr => ?_
  unfold c20 at hp hr
  simp only [] at hr hp
  split at hr
  · rename_i x
    cases hr
    rw [arg1 (FitE.v hp)]
    refine keep (w20 x fun v => v = _) ?_
    rw [FitE.v hp]
    exact ⟨hp, rfl⟩
  · cases hr
end Go.Ev.R2
end
section
namespace Go.Ev.R2
open Go Go.Ev Go.Proofs
set_option maxRecDepth 100000
set_option linter.unusedVariables false
set_option linter.unusedSimpArgs false
def anyF (f : D → Bool) (xs : List D) (i : Nat) : Option Bool := bif f (xs.getD i .any) then some true else none
def mBig (y : D) : Bool := bif (bif decide (((strOf (cellOf y 1)).size : Int) > 61) then true else (bif decide (((strOf (cellOf y 2)).size : Int) > 40) then decide (intOf (cellOf y 0) > 2) else false)) then true else decide (((strOf (cellOf y 2)).size : Int) > 201)
noncomputable def l51 : Code := roundOf (pieceAt (bodyOf Tryz.f51) 4)
noncomputable def S51 : Ev.Spec := { L := [0,3], ns := [], L' := [0,2], nm' := [], G := fun N vals bs k => match vals, bs with
  | [.d (.slice b 3 xs), .d (.lit (.int .i64 i))], [] => (N = 46 ∧ i = 0 ∧ Short xs ∧ ∀ y ∈ xs, FitM y) ∧ optE (search (anyF mBig xs) xs.length) (k (.exit 0) [.d (.slice b 3 xs), .any] []) (fun e => k .ret [.d (.slice b 3 xs), lbool e] [])
  | _, _ => False }
theorem b51 (xs : List D) (i : Int) (b : Bool) (R : X → List V → List Box → Prop) : (roundT (Cn T20) T20 noCS 0 noSp noHn l51 46 [0, 3] [] [] [] [0, 2] [] [V.d (D.slice b 3 xs), lint i] [] R) =
  (bif decide (i < (↑xs.length : Int)) then
   ((((0 : Int) ≤ i) ∧ (i.toNat < xs.length ∧ mV (xs.getD i.toNat D.any) = xs.getD i.toNat D.any)) ∧
   (((!decide ((↑(strOf (cellOf (xs.getD i.toNat D.any) 1)).size : Int) > 61) && true) = true → (((0 : Int) ≤ i) ∧ (i.toNat < xs.length ∧ mV (xs.getD i.toNat D.any) = xs.getD i.toNat D.any))) ∧
   (((decide ((↑(strOf (cellOf (xs.getD i.toNat D.any) 2)).size : Int) > 40) &&
    (!decide ((↑(strOf (cellOf (xs.getD i.toNat D.any) 1)).size : Int) > 61) && true)) =
  true → (((0 : Int) ≤ i) ∧ (i.toNat < xs.length ∧ mV (xs.getD i.toNat D.any) = xs.getD i.toNat D.any))) ∧
   ((((!bif decide ((↑(strOf (cellOf (xs.getD i.toNat D.any) 1)).size : Int) > 61) then true
      else
        bif decide ((↑(strOf (cellOf (xs.getD i.toNat D.any) 2)).size : Int) > 40) then
          decide (intOf (cellOf (xs.getD i.toNat D.any) 0) > 2)
        else false) &&
    true) =
  true → (((0 : Int) ≤ i) ∧ (i.toNat < xs.length ∧ mV (xs.getD i.toNat D.any) = xs.getD i.toNat D.any))) ∧
   (bif bif
    bif decide ((↑(strOf (cellOf (xs.getD i.toNat D.any) 1)).size : Int) > 61) then true
    else
      bif decide ((↑(strOf (cellOf (xs.getD i.toNat D.any) 2)).size : Int) > 40) then
        decide (intOf (cellOf (xs.getD i.toNat D.any) 0) > 2)
      else false then
  true
else decide ((↑(strOf (cellOf (xs.getD i.toNat D.any) 2)).size : Int) > 201) then
    (46 = 46 ∧
    R X.ret [V.d (D.slice b 3 xs), V.d (D.lit (Value.bool true))] []) else
    (46 = 46 ∧
    R X.normal [V.d (D.slice b 3 xs), V.d (D.lit (Value.int IntKind.i64 (IntKind.i64.wrap (i + 1))))] [])))))) else
   (46 = 46 ∧
   R (X.exit 0) [V.d (D.slice b 3 xs), V.any] [])) := by kernel_rfl
theorem w51 (xs : List D) (b : Bool) (p : V → Prop) : (evBodyT (Cn T20) T20 noCS 0 (spL [(4, S51)]) noHn 51 [V.d (D.slice b 3 xs)] Heap.empty fun v H => p (freezeR H v)) =
  ((46 = 46 ∧ (((0 : Int) = 0) ∧ (Short xs ∧ ∀ (y : D), y ∈ xs → FitM y))) ∧
  (match search (anyF mBig xs) xs.length with
  | some y0 =>
   p (V.d (D.lit (Value.bool y0)))
  | none => p (V.d (D.lit (Value.bool (decide ((↑xs.length : Int) > 17))))))) := by kernel_rfl
noncomputable def matchersB (xs : List D) : Bool :=
  (match search (anyF mBig xs) xs.length with
 | some y0 => y0
 | none => (decide ((↑xs.length : Int) > 17)))
noncomputable def c51 : Ct := ⟨fun | [.slice _ z xs] => z = 3 ∧ Short xs ∧ ∀ y ∈ xs, FitM y | _ => False, fun | [.slice _ _ xs] => some (.lit (.bool (matchersB xs))) | _ => none⟩
noncomputable def T51 : Tab := T20.add 51 c51
def nBig (y : D) : Bool := decide (((strOf y).size : Int) > 70)
noncomputable def l52 : Code := roundOf (pieceAt (bodyOf Tryz.f52) 4)
noncomputable def S52 : Ev.Spec := { L := [0,3], ns := [], L' := [0,2], nm' := [], G := fun N vals bs k => match vals, bs with
  | [.d (.slice b 1 xs), .d (.lit (.int .i64 i))], [] => (N = 19 ∧ i = 0 ∧ Short xs ∧ ∀ y ∈ xs, FitN y) ∧ optE (search (anyF nBig xs) xs.length) (k (.exit 0) [.d (.slice b 1 xs), .any] []) (fun e => k .ret [.d (.slice b 1 xs), lbool e] [])
  | _, _ => False }
theorem b52 (xs : List D) (i : Int) (b : Bool) (R : X → List V → List Box → Prop) : (roundT (Cn T51) T51 noCS 0 noSp noHn l52 19 [0, 3] [] [] [] [0, 2] [] [V.d (D.slice b 1 xs), lint i] [] R) =
  (bif decide (i < (↑xs.length : Int)) then
   ((((0 : Int) ≤ i) ∧ (i.toNat < xs.length ∧ D.lit (Value.string (strOf (xs.getD i.toNat D.any))) = xs.getD i.toNat D.any)) ∧
   (bif decide ((↑(strOf (xs.getD i.toNat D.any)).size : Int) > 70) then
    (19 = 19 ∧
    R X.ret [V.d (D.slice b 1 xs), V.d (D.lit (Value.bool true))] []) else
    (19 = 19 ∧
    R X.normal [V.d (D.slice b 1 xs), V.d (D.lit (Value.int IntKind.i64 (IntKind.i64.wrap (i + 1))))] []))) else
   (19 = 19 ∧
   R (X.exit 0) [V.d (D.slice b 1 xs), V.any] [])) := by kernel_rfl
theorem w52 (xs : List D) (b : Bool) (p : V → Prop) : (evBodyT (Cn T51) T51 noCS 0 (spL [(4, S52)]) noHn 52 [V.d (D.slice b 1 xs)] Heap.empty fun v H => p (freezeR H v)) =
  ((19 = 19 ∧ (((0 : Int) = 0) ∧ (Short xs ∧ ∀ (y : D), y ∈ xs → FitN y))) ∧
  (match search (anyF nBig xs) xs.length with
  | some y0 =>
   p (V.d (D.lit (Value.bool y0)))
  | none => p (V.d (D.lit (Value.bool (decide ((↑xs.length : Int) > 17))))))) := by kernel_rfl
noncomputable def namesB (xs : List D) : Bool :=
  (match search (anyF nBig xs) xs.length with
 | some y0 => y0
 | none => (decide ((↑xs.length : Int) > 17)))
noncomputable def c52 : Ct := ⟨fun | [.slice _ z xs] => z = 1 ∧ Short xs ∧ ∀ y ∈ xs, FitN y | _ => False, fun | [.slice _ _ xs] => some (.lit (.bool (namesB xs))) | _ => none⟩
noncomputable def T52 : Tab := T51.add 52 c52
noncomputable def l22 : Code := roundOf (pieceAt (bodyOf Tryz.f22) 8)
theorem b22 (xs : List D) (i : Int) (b : Bool) (R : X → List V → List Box → Prop) : (roundT (Cn T52) T52 noCS 0 noSp noHn l22 45 [0, 3] [] [] [] [2] [] [V.d (D.slice b 4 xs), lint i] [] R) =
  (bif bif decide (i < (↑xs.length : Int)) then decide (i < 12) else false then
   ((((0 : Int) ≤ i) ∧ (i.toNat < xs.length ∧ gV (xs.getD i.toNat D.any) = xs.getD i.toNat D.any)) ∧
   (((!decide ((↑(strOf (cellOf (xs.getD i.toNat D.any) 1)).size : Int) > 210) && true) = true → (((0 : Int) ≤ i) ∧ (i.toNat < xs.length ∧ gV (xs.getD i.toNat D.any) = xs.getD i.toNat D.any))) ∧
   (((!decide ((↑(strOf (cellOf (xs.getD i.toNat D.any) 1)).size : Int) > 210) && true) = true → (3 = 3 ∧ (Short (seqD (cellOf (xs.getD i.toNat D.any) 2)) ∧ ∀ (y : D), y ∈ seqD (cellOf (xs.getD i.toNat D.any) (0 + 1 + 1)) → FitM y))) ∧
   ((((!bif decide ((↑(strOf (cellOf (xs.getD i.toNat D.any) 1)).size : Int) > 210) then true
      else matchersB (seqD (cellOf (xs.getD i.toNat D.any) 2))) &&
    true) =
  true → (((0 : Int) ≤ i) ∧ (i.toNat < xs.length ∧ gV (xs.getD i.toNat D.any) = xs.getD i.toNat D.any))) ∧
   ((((!bif decide ((↑(strOf (cellOf (xs.getD i.toNat D.any) 1)).size : Int) > 210) then true
      else matchersB (seqD (cellOf (xs.getD i.toNat D.any) 2))) &&
    true) =
  true → (1 = 1 ∧ (Short (seqD (cellOf (xs.getD i.toNat D.any) 3)) ∧ ∀ (y : D), y ∈ seqD (cellOf (xs.getD i.toNat D.any) (0 + 1 + 1 + 1)) → FitN y))) ∧
   (bif bif
    bif decide ((↑(strOf (cellOf (xs.getD i.toNat D.any) 1)).size : Int) > 210) then true
    else matchersB (seqD (cellOf (xs.getD i.toNat D.any) 2)) then
  true
else namesB (seqD (cellOf (xs.getD i.toNat D.any) 3)) then
    (45 = 45 ∧
    R X.ret [V.d (D.lit (Value.bool true))] []) else
    (45 = 45 ∧
    R X.normal [V.d (D.slice b 4 xs), V.d (D.lit (Value.int IntKind.i64 (IntKind.i64.wrap (i + 1))))] []))))))) else
   (45 = 45 ∧
   R (X.exit 0) [V.any] [])) := by kernel_rfl
noncomputable def gBig (y : D) : Bool := bif (bif decide (((strOf (cellOf y 1)).size : Int) > 210) then true else matchersB (seqD (cellOf y 2))) then true else namesB (seqD (cellOf y 3))
noncomputable def S22 : Ev.Spec := { L := [0,3], ns := [], L' := [2], nm' := [], G := fun N vals bs k => match vals, bs with
  | [.d (.slice b 4 xs), .d (.lit (.int .i64 i))], [] => (N = 45 ∧ i = 0 ∧ Short xs ∧ ∀ y ∈ xs, FitG y) ∧ optE (search (anyF gBig xs) (min xs.length 12)) (k (.exit 0) [.any] []) (fun e => k .ret [lbool e] [])
  | _, _ => False }
theorem w22 (xs : List D) (b : Bool) (p : V → Prop) : (evBodyT (Cn T52) T52 noCS 0 (spL [(8, S22)]) noHn 22 [V.d (D.slice b 4 xs)] Heap.empty fun v H => p (freezeR H v)) =
  (bif bif decide ((↑xs.length : Int) > 12) then decide ((↑xs.length : Int) ≤ 100) else false then
   p (V.d (D.lit (Value.bool true))) else
   ((45 = 45 ∧ (((0 : Int) = 0) ∧ (Short xs ∧ ∀ (y : D), y ∈ xs → FitG y))) ∧
   (match search (anyF gBig xs) (min xs.length 12) with
   | some y0 =>
    p (V.d (D.lit (Value.bool y0)))
   | none => p (V.d (D.lit (Value.bool false)))))) := by kernel_rfl
noncomputable def stagesB (xs : List D) : Bool :=
  (bif bif decide ((↑xs.length : Int) > 12) then decide ((↑xs.length : Int) ≤ 100) else false then
 true else
 (match search (anyF gBig xs) (min xs.length 12) with
 | some y0 => y0
 | none => false))
noncomputable def c22 : Ct := ⟨fun | [.slice _ z xs] => z = 4 ∧ Short xs ∧ ∀ y ∈ xs, FitG y | _ => False, fun | [.slice _ _ xs] => some (.lit (.bool (stagesB xs))) | _ => none⟩
noncomputable def T22 : Tab := T52.add 22 c22
theorem ok51 : OkS (Cn T20) 0 (.loop l51) S51 := by
  refine okS_loop fun N vals bs K h => ?_
  simp only [S51] at h
  split at h
  case h_2 => exact h.elim
  rename_i b xs i
  obtain ⟨⟨rfl, rfl, hsh, hall⟩, h⟩ := h
  have hs : xs.length ≤ 1152921504606846976 := hsh
  refine search_loop (tab_fit base k20 noCS_valid) tab_has noSp_ok (hn := noHn) (adsI := []) (nsI := []) (nsX := []) rfl rfl xs.length
    (fun i => [.d (.slice b 3 xs), lint i]) (fun _ => []) (anyF mBig xs) (fun e => (.ret, [.d (.slice b 3 xs), lbool e], [])) (by simp) (.exit 0) [.d (.slice b 3 xs), .any] [] (by simp) ?_ ?_ h
  · intro i R hi hR
    refine keep (b51 xs i b R) ?_
    have e1 : decide ((i : Int) < xs.length) = true := by simp; omega
    have e2 : IntKind.i64.wrap ((i : Int) + 1) = ((i + 1 : Nat) : Int) := by rw [Go.IntWalk.i64_in _ (by omega)]; omega
    have hv := hall _ (getD_mem hi)
    have hg : (0 : Int) ≤ i ∧ i < xs.length ∧ mV (xs.getD i .any) = xs.getD i .any := ⟨by omega, hi, hv⟩
    rw [e1]
    simp only [Int.toNat_natCast, e2, cond_true]
    refine ⟨hg, fun _ => hg, fun _ => hg, fun _ => hg, cond_split (fun h1 => ⟨trivial, ?_⟩) (fun h1 => ⟨trivial, ?_⟩)⟩ <;> (simp only [anyF, mBig, h1, cond_true, cond_false, optE] at hR; exact hR)
  · intro R hR
    refine keep (b51 xs xs.length b R) ?_
    have e1 : decide ((xs.length : Int) < xs.length) = false := by simp
    rw [e1]
    exact ⟨rfl, hR⟩
theorem k51 : TabOk B T51 := by
  refine add_body base k20 (fn := Tryz.f51) (cd := bodyOf Tryz.f51) (sp := spL [(4, S51)]) (hn := noHn) Tryz.func51 (by kernel_rfl) (by kernel_rfl) (specT_cons (c := .loop l51) (by kernel_rfl) ok51 specT_nil) fun ds r hp hr => ?_
  unfold c51 at hp hr
  simp only [] at hr hp
  split at hr
  · rename_i b z xs
    cases hr
    obtain ⟨rfl, hs, hall⟩ := hp
    refine keep (w51 xs b fun v => v = _) ?_
    unfold matchersB
    refine ⟨⟨rfl, rfl, hs, hall⟩, ?_⟩
    cases search (anyF mBig xs) xs.length <;> rfl
  · cases hr
theorem ok52 : OkS (Cn T51) 0 (.loop l52) S52 := by
  refine okS_loop fun N vals bs K h => ?_
  simp only [S52] at h
  split at h
  case h_2 => exact h.elim
  rename_i b xs i
  obtain ⟨⟨rfl, rfl, hsh, hall⟩, h⟩ := h
  have hs : xs.length ≤ 1152921504606846976 := hsh
  refine search_loop (tab_fit base k51 noCS_valid) tab_has noSp_ok (hn := noHn) (adsI := []) (nsI := []) (nsX := []) rfl rfl xs.length
    (fun i => [.d (.slice b 1 xs), lint i]) (fun _ => []) (anyF nBig xs) (fun e => (.ret, [.d (.slice b 1 xs), lbool e], [])) (by simp) (.exit 0) [.d (.slice b 1 xs), .any] [] (by simp) ?_ ?_ h
  · intro i R hi hR
    refine keep (b52 xs i b R) ?_
    have e1 : decide ((i : Int) < xs.length) = true := by simp; omega
    have e2 : IntKind.i64.wrap ((i : Int) + 1) = ((i + 1 : Nat) : Int) := by rw [Go.IntWalk.i64_in _ (by omega)]; omega
    have hv := hall _ (getD_mem hi)
    have hg : (0 : Int) ≤ i ∧ i < xs.length ∧ D.lit (Value.string (strOf (xs.getD i .any))) = xs.getD i .any := ⟨by omega, hi, hv⟩
    rw [e1]
    simp only [Int.toNat_natCast, e2, cond_true]
    refine ⟨hg, cond_split (fun h1 => ⟨trivial, ?_⟩) (fun h1 => ⟨trivial, ?_⟩)⟩ <;> (simp only [anyF, nBig, h1, cond_true, cond_false, optE] at hR; exact hR)
  · intro R hR
    refine keep (b52 xs xs.length b R) ?_
    have e1 : decide ((xs.length : Int) < xs.length) = false := by simp
    rw [e1]
    exact ⟨rfl, hR⟩
theorem k52 : TabOk B T52 := by
  refine add_body base k51 (fn := Tryz.f52) (cd := bodyOf Tryz.f52) (sp := spL [(4, S52)]) (hn := noHn) Tryz.func52 (by kernel_rfl) (by kernel_rfl) (specT_cons (c := .loop l52) (by kernel_rfl) ok52 specT_nil) fun ds r hp hr => ?_
  unfold c52 at hp hr
  simp only [] at hr hp
  split at hr
  · rename_i b z xs
    cases hr
    obtain ⟨rfl, hs, hall⟩ := hp
    refine keep (w52 xs b fun v => v = _) ?_
    unfold namesB
    refine ⟨⟨rfl, rfl, hs, hall⟩, ?_⟩
    cases search (anyF nBig xs) xs.length <;> rfl
  · cases hr
theorem ok22 : OkS (Cn T52) 0 (.loop l22) S22 := by
  refine okS_loop fun N vals bs K h => ?_
  simp only [S22] at h
  split at h
  case h_2 => exact h.elim
  rename_i b xs i
  obtain ⟨⟨rfl, rfl, hsh, hall⟩, h⟩ := h
  have hs : xs.length ≤ 1152921504606846976 := hsh
  refine search_loop (tab_fit base k52 noCS_valid) tab_has noSp_ok (hn := noHn) (adsI := []) (nsI := []) (nsX := []) rfl rfl (min xs.length 12)
    (fun i => [.d (.slice b 4 xs), lint i]) (fun _ => []) (anyF gBig xs) (fun e => (.ret, [lbool e], [])) (by simp) (.exit 0) [.any] [] (by simp) ?_ ?_ h
  · intro i R hi hR
    have hi' : i < xs.length := by omega
    refine keep (b22 xs i b R) ?_
    have e1 : decide ((i : Int) < xs.length) = true := by simp; omega
    have e0 : decide ((i : Int) < 12) = true := by simp; omega
    have e2 : IntKind.i64.wrap ((i : Int) + 1) = ((i + 1 : Nat) : Int) := by rw [Go.IntWalk.i64_in _ (by omega)]; omega
    have hv := hall _ (getD_mem hi')
    have hg : (0 : Int) ≤ i ∧ i < xs.length ∧ gV (xs.getD i .any) = xs.getD i .any := ⟨by omega, hi', hv.v⟩
    rw [e1, e0]
    simp only [Int.toNat_natCast, e2, cond_true]
    refine ⟨hg, fun _ => hg, fun _ => ⟨trivial, hv.ml, hv.m⟩, fun _ => hg, fun _ => ⟨trivial, hv.nl, hv.n⟩, cond_split (fun h1 => ⟨trivial, ?_⟩) (fun h1 => ⟨trivial, ?_⟩)⟩ <;> (simp only [anyF, gBig, h1, cond_true, cond_false, optE] at hR; exact hR)
  · intro R hR
    refine keep (b22 xs (min xs.length 12 : Nat) b R) ?_
    have e1 : (bif decide (((min xs.length 12 : Nat) : Int) < xs.length) then decide (((min xs.length 12 : Nat) : Int) < 12) else false) = false := by
      by_cases h : xs.length ≤ 12
      · have : decide (((min xs.length 12 : Nat) : Int) < xs.length) = false := by simp; omega
        rw [this]; rfl
      · have : decide (((min xs.length 12 : Nat) : Int) < 12) = false := by simp; omega
        rw [this]; cases decide (((min xs.length 12 : Nat) : Int) < xs.length) <;> rfl
    rw [e1]
    exact ⟨rfl, hR⟩
theorem k22 : TabOk B T22 := by
  refine add_body base k52 (fn := Tryz.f22) (cd := bodyOf Tryz.f22) (sp := spL [(8, S22)]) (hn := noHn) Tryz.func22 (by kernel_rfl) (by kernel_rfl) (specT_cons (c := .loop l22) (by kernel_rfl) ok22 specT_nil) fun ds r hp hr => ?_
  unfold c22 at hp hr
  simp only [] at hr hp
  split at hr
  · rename_i b z xs
    cases hr
    obtain ⟨rfl, hs, hall⟩ := hp
    refine keep (w22 xs b fun v => v = _) ?_
    unfold stagesB
    generalize search (anyF gBig xs) (min xs.length 12) = o1
    cases o1 <;> (repeat' (first | with_reducible rfl | (refine cond_split (fun hcw => ?_) (fun hcw => ?_) <;> simp only [hcw, cond_true, cond_false]) | refine and_i ?_ ?_))
    all_goals first | trivial | assumption
  · cases hr
end Go.Ev.R2
end
section
namespace Go.Ev.R2
open Go Go.Ev Go.Proofs
set_option maxRecDepth 100000
set_option linter.unusedVariables false
set_option linter.unusedSimpArgs false
noncomputable def cBig (y : D) : Bool := bif decide (((strOf (cellOf y 2)).size : Int) > 210) then true else decide (((strOf (cellOf y 0)).size : Int) > 100)
noncomputable def gpT (rec : D → Bool) (y : D) : Bool :=
  (bif decide ((↑(seqD (cellOf y 1)).length : Int) > 17) then
 true else
 (match search (anyF cBig (seqD (cellOf y 1))) (seqD (cellOf y 1)).length with
 | some y1 => y1
 | none => (match search (anyF rec (seqD (cellOf y 2))) (seqD (cellOf y 2)).length with
 | some y0 => y0
 | none => false)))
noncomputable def gpE (y : D) : Bool := fixD gpT false (dsz y + 1) y
noncomputable def c50 : Ct := ⟨fun | [x] => FitP x | _ => False, fun | [x] => some (.lit (.bool (gpE x))) | _ => none⟩
noncomputable def U50 (κ : Nat) : Tab := T22.add 50 (c50.below μ1 κ)
noncomputable def T50 : Tab := T22.add 50 c50
noncomputable def l50a : Code := roundOf (pieceAt (bodyOf Tryz.f50) 8)
noncomputable def l50b : Code := roundOf (pieceAt (bodyOf Tryz.f50) 18)
noncomputable def S50a : Ev.Spec := { L := [1,3], ns := [([5000],[3])], L' := [1,2], nm' := [[5000]], G := fun N vals bs k => match vals, bs with
  | [.ptr [5000] 0, .d (.lit (.int .i64 i))], [.cells 30 [.d (.lit (.int .i64 q)), .d (.slice b1 4 cs), .d (.slice b2 3 xs)]] => (N = 47 ∧ i = 0 ∧ Short cs ∧ ∀ y ∈ cs, FitC y) ∧ optE (search (anyF cBig cs) cs.length) (k (.exit 0) [.ptr [5000] 0, .any] [pBox q b1 cs b2 xs]) (fun e => k .ret [.ptr [5000] 0, lbool e] [pBox q b1 cs b2 xs])
  | _, _ => False }
noncomputable def S50b (rec : D → Bool) (κ : Nat) : Ev.Spec := { L := [1,4], ns := [([5000],[5000])], L' := [2], nm' := [], G := fun N vals bs k => match vals, bs with
  | [.ptr [5000] 0, .d (.lit (.int .i64 i))], [.cells 30 [.d (.lit (.int .i64 q)), .d (.slice b1 4 cs), .d (.slice b2 3 xs)]] => (N = 47 ∧ rec = gpE ∧ i = 0 ∧ Short xs ∧ ∀ y ∈ xs, FitP y ∧ dsz y < κ) ∧ optE (search (anyF rec xs) xs.length) (k (.exit 2) [.any] []) (fun e => k .ret [lbool e] [])
  | _, _ => False }
theorem b50a (κ : Nat) (q : Int) (cs : List D) (xs : List D) (b1 : Bool) (b2 : Bool) (i : Int) (R : X → List V → List Box → Prop) : (roundT (Cn (U50 κ)) (U50 κ) noCS 0 noSp noHn l50a 47 [1, 3] [[5000]] [] [([5000], [5000])] [1, 2] [([5000], [5000])]
  [V.ptr [5000] 0, lint i] [pBox q b1 cs b2 xs] R) =
  (bif decide (i < (↑cs.length : Int)) then
   ((((0 : Int) ≤ i) ∧ (i.toNat < cs.length ∧ cV (cs.getD i.toNat D.any) = cs.getD i.toNat D.any)) ∧
   (((!decide ((↑(strOf (cellOf (cs.getD i.toNat D.any) 2)).size : Int) > 210) && true) = true → (((0 : Int) ≤ i) ∧ (i.toNat < cs.length ∧ cV (cs.getD i.toNat D.any) = cs.getD i.toNat D.any))) ∧
   (bif bif decide ((↑(strOf (cellOf (cs.getD i.toNat D.any) 2)).size : Int) > 210) then true
else decide ((↑(strOf (cellOf (cs.getD i.toNat D.any) 0)).size : Int) > 100) then
    (47 = 47 ∧
    R X.ret [V.ptr [5000] 0, V.d (D.lit (Value.bool true))]
  [Box.cells 30 [V.d (D.lit (Value.int IntKind.i64 q)), V.d (D.slice b1 4 cs), V.d (D.slice b2 3 xs)]]) else
    (47 = 47 ∧
    R X.normal [V.ptr [5000] 0, V.d (D.lit (Value.int IntKind.i64 (IntKind.i64.wrap (i + 1))))]
  [Box.cells 30 [V.d (D.lit (Value.int IntKind.i64 q)), V.d (D.slice b1 4 cs), V.d (D.slice b2 3 xs)]])))) else
   (47 = 47 ∧
   R (X.exit 0) [V.ptr [5000] 0, V.any]
  [Box.cells 30 [V.d (D.lit (Value.int IntKind.i64 q)), V.d (D.slice b1 4 cs), V.d (D.slice b2 3 xs)]])) := by kernel_rfl
theorem b50b (κ : Nat) (q : Int) (cs : List D) (xs : List D) (b1 : Bool) (b2 : Bool) (i : Int) (R : X → List V → List Box → Prop) : (roundT (Cn (U50 κ)) (U50 κ) noCS 0 noSp noHn l50b 47 [1, 4] [[5000]] [] [([5000], [5000])] [2] []
  [V.ptr [5000] 0, lint i] [pBox q b1 cs b2 xs] R) =
  (bif decide (i < (↑xs.length : Int)) then
   ((((0 : Int) ≤ i) ∧ (i.toNat < xs.length ∧ pV (xs.getD i.toNat D.any) = xs.getD i.toNat D.any)) ∧
   ((FitP (pV (xs.getD i.toNat D.any)) ∧ μ1 [pV (xs.getD i.toNat D.any)] < κ) ∧
   (bif gpE (pV (xs.getD i.toNat D.any)) then
    (47 = 47 ∧
    R X.ret [V.d (D.lit (Value.bool true))] []) else
    (47 = 47 ∧
    R X.normal [V.ptr [5000] 0, V.d (D.lit (Value.int IntKind.i64 (IntKind.i64.wrap (i + 1))))]
  [Box.cells 30 [V.d (D.lit (Value.int IntKind.i64 q)), V.d (D.slice b1 4 cs), V.d (D.slice b2 3 xs)]])))) else
   (47 = 47 ∧
   R (X.exit 2) [V.any] [])) := by kernel_rfl
theorem w50 (rec : D → Bool) (κ : Nat) (y : D) (p : V → Prop) : (evBodyT (Cn (U50 κ)) (U50 κ) noCS 0 (spL [(8, S50a), (18, S50b rec κ)]) noHn 50 [V.d (pV y)] Heap.empty fun v H =>
  p (freezeR H v)) =
  (bif decide ((↑(seqD (cellOf y 1)).length : Int) > 17) then
   p (V.d (D.lit (Value.bool true))) else
   ((47 = 47 ∧ (((0 : Int) = 0) ∧ (Short (seqD (cellOf y 1)) ∧ ∀ (y_1 : D), y_1 ∈ seqD (cellOf y 1) → FitC y_1))) ∧
   (match search (anyF cBig (seqD (cellOf y 1))) (seqD (cellOf y 1)).length with
   | some y1 =>
    p (V.d (D.lit (Value.bool y1)))
   | none => ((47 = 47 ∧ (rec = gpE ∧ (((0 : Int) = 0) ∧ (Short (seqD (cellOf y 2)) ∧ ∀ (y_1 : D), y_1 ∈ seqD (cellOf y 2) → FitP y_1 ∧ dsz y_1 < κ)))) ∧
    (match search (anyF rec (seqD (cellOf y 2))) (seqD (cellOf y 2)).length with
    | some y0 =>
     p (V.d (D.lit (Value.bool y0)))
    | none => p (V.d (D.lit (Value.bool false)))))))) := by kernel_rfl
noncomputable def goT (rec : D → Bool) (y : D) : Bool :=
  (bif bif
    bif
        bif bif decide ((↑(strOf (cellOf y 14)).size : Int) > 210) then true else matchersB (seqD (cellOf y 2)) then
          true
        else namesB (seqD (cellOf y 7)) then
      true
    else stagesB (seqD (cellOf y 10)) then
  true
else gpE (paV y) then
 true else
 (match search (anyF rec (seqD (cellOf y 15))) (seqD (cellOf y 15)).length with
 | some y0 => y0
 | none => false))
noncomputable def goE (y : D) : Bool := fixD goT false (dsz y + 1) y
noncomputable def c38 : Ct := ⟨fun | [x] => FitE x | _ => False, fun | [x] => some (.lit (.bool (goE x))) | _ => none⟩
noncomputable def U38 (κ : Nat) : Tab := T50.add 38 (c38.below μ1 κ)
noncomputable def T38 : Tab := T50.add 38 c38
noncomputable def l38 : Code := roundOf (pieceAt (bodyOf Tryz.f38) 8)
noncomputable def S38 (rec : D → Bool) (κ : Nat) : Ev.Spec := { L := [1,3], ns := [([5000],[3])], L' := [2], nm' := [], G := fun N vals bs k => match vals, bs with
  | [.ptr [5000] 0, .d (.lit (.int .i64 i))], [.cells 33 [a0, a1, a2, a3, a4, a5, a6, a7, a8, a9, a10, a11, a12, a13, a14, .d (.slice b 16 xs)]] => (IsE [a0, a1, a2, a3, a4, a5, a6, a7, a8, a9, a10, a11, a12, a13, a14, .d (.slice b 16 xs)] ∧ N = 41 ∧ rec = goE ∧ i = 0 ∧ Short xs ∧ ∀ y ∈ xs, FitE y ∧ dsz y < κ) ∧ optE (search (anyF rec xs) xs.length) (k (.exit 0) [.any] []) (fun e => k .ret [lbool e] [])
  | _, _ => False }
theorem b38 (κ : Nat) (y : D) (i : Int) (R : X → List V → List Box → Prop) : (roundT (Cn (U38 κ)) (U38 κ) noCS 0 noSp noHn l38 41 [1, 3] [[5000]] [] [([5000], [5000])] [2] []
  [V.ptr [5000] 0, lint i] [eBox y] R) =
  (bif decide (i < (↑(seqD (cellOf y 15)).length : Int)) then
   ((((0 : Int) ≤ i) ∧ (i.toNat < (seqD (cellOf y 15)).length ∧ eV ((seqD (cellOf y 15)).getD i.toNat D.any) = (seqD (cellOf y 15)).getD i.toNat D.any)) ∧
   ((FitE (eV ((seqD (cellOf y 15)).getD i.toNat D.any)) ∧ μ1 [eV ((seqD (cellOf y 15)).getD i.toNat D.any)] < κ) ∧
   (bif goE (eV ((seqD (cellOf y 15)).getD i.toNat D.any)) then
    (41 = 41 ∧
    R X.ret [V.d (D.lit (Value.bool true))] []) else
    (41 = 41 ∧
    R X.normal [V.ptr [5000] 0, V.d (D.lit (Value.int IntKind.i64 (IntKind.i64.wrap (i + 1))))]
  [Box.cells 33
      [V.d (D.lit (Value.int IntKind.i64 (intOf (cellOf y 0)))),
        V.d (D.lit (Value.int IntKind.i64 (intOf (cellOf y 1)))),
        V.d (D.slice (nilOf (cellOf y 2)) 3 (seqD (cellOf y 2))),
        V.d (D.lit (Value.int IntKind.i64 (intOf (cellOf y 3)))),
        V.d (D.lit (Value.int IntKind.i64 (intOf (cellOf y 4)))),
        V.d (D.lit (Value.int IntKind.i64 (intOf (cellOf y 5)))),
        V.d (D.lit (Value.int IntKind.i64 (intOf (cellOf y 6)))),
        V.d (D.slice (nilOf (cellOf y 7)) 1 (seqD (cellOf y 7))), V.d (D.lit (Value.bool (boolOf (cellOf y 8)))),
        V.d (D.lit (Value.int IntKind.i64 (intOf (cellOf y 9)))),
        V.d (D.slice (nilOf (cellOf y 10)) 4 (seqD (cellOf y 10))),
        V.d (D.lit (Value.int IntKind.i64 (intOf (cellOf y 11)))),
        V.d (D.slice (nilOf (cellOf y 12)) 4 (seqD (cellOf y 12))),
        V.d (D.slice (nilOf (cellOf y 13)) 3 (seqD (cellOf y 13))), V.d (D.lit (Value.string (strOf (cellOf y 14)))),
        V.d (D.slice (nilOf (cellOf y 15)) 16 (seqD (cellOf y 15)))]])))) else
   (41 = 41 ∧
   R (X.exit 0) [V.any] [])) := by kernel_rfl
theorem w38 (rec : D → Bool) (κ : Nat) (y : D) (p : V → Prop) : (evBodyT (Cn (U38 κ)) (U38 κ) noCS 0 (spL [(8, S38 rec κ)]) noHn 38 [V.d (eV y)] Heap.empty fun v H => p (freezeR H v)) =
  (((!decide ((↑(strOf (cellOf y 14)).size : Int) > 210) && true) = true → (3 = 3 ∧ (Short (seqD (cellOf y 2)) ∧ ∀ (y_1 : D), y_1 ∈ seqD (cellOf y 2) → FitM y_1))) ∧
  ((((!bif decide ((↑(strOf (cellOf y 14)).size : Int) > 210) then true else matchersB (seqD (cellOf y 2))) && true) = true → (1 = 1 ∧ (Short (seqD (cellOf y 7)) ∧ ∀ (y_1 : D), y_1 ∈ seqD (cellOf y 7) → FitN y_1))) ∧
  ((((!bif bif decide ((↑(strOf (cellOf y 14)).size : Int) > 210) then true else matchersB (seqD (cellOf y 2)) then true
      else namesB (seqD (cellOf y 7))) &&
    true) =
  true → (4 = 4 ∧ (Short (seqD (cellOf y 10)) ∧ ∀ (y_1 : D), y_1 ∈ seqD (cellOf y 10) → FitG y_1))) ∧
  ((((!bif
          bif bif decide ((↑(strOf (cellOf y 14)).size : Int) > 210) then true else matchersB (seqD (cellOf y 2)) then
            true
          else namesB (seqD (cellOf y 7)) then
        true
      else stagesB (seqD (cellOf y 10))) &&
    true) =
  true → FitP (paV y)) ∧
  (bif bif
    bif
        bif bif decide ((↑(strOf (cellOf y 14)).size : Int) > 210) then true else matchersB (seqD (cellOf y 2)) then
          true
        else namesB (seqD (cellOf y 7)) then
      true
    else stagesB (seqD (cellOf y 10)) then
  true
else gpE (paV y) then
   p (V.d (D.lit (Value.bool true))) else
   ((IsE
  [V.d (D.lit (Value.int IntKind.i64 (intOf (cellOf y 0)))), V.d (D.lit (Value.int IntKind.i64 (intOf (cellOf y 1)))),
    V.d (D.slice (nilOf (cellOf y 2)) 3 (seqD (cellOf y 2))), V.d (D.lit (Value.int IntKind.i64 (intOf (cellOf y 3)))),
    V.d (D.lit (Value.int IntKind.i64 (intOf (cellOf y 4)))), V.d (D.lit (Value.int IntKind.i64 (intOf (cellOf y 5)))),
    V.d (D.lit (Value.int IntKind.i64 (intOf (cellOf y 6)))), V.d (D.slice (nilOf (cellOf y 7)) 1 (seqD (cellOf y 7))),
    V.d (D.lit (Value.bool (boolOf (cellOf y 8)))), V.d (D.lit (Value.int IntKind.i64 (intOf (cellOf y 9)))),
    V.d (D.slice (nilOf (cellOf y 10)) 4 (seqD (cellOf y 10))),
    V.d (D.lit (Value.int IntKind.i64 (intOf (cellOf y 11)))),
    V.d (D.slice (nilOf (cellOf y 12)) 4 (seqD (cellOf y 12))),
    V.d (D.slice (nilOf (cellOf y 13)) 3 (seqD (cellOf y 13))), V.d (D.lit (Value.string (strOf (cellOf y 14)))),
    V.d (D.slice (nilOf (cellOf y 15)) 16 (seqD (cellOf y 15)))] ∧ (41 = 41 ∧ (rec = goE ∧ (((0 : Int) = 0) ∧ (Short (seqD (cellOf y 15)) ∧ ∀ (y_1 : D), y_1 ∈ seqD (cellOf y 15) → FitE y_1 ∧ dsz y_1 < κ))))) ∧
   (match search (anyF rec (seqD (cellOf y 15))) (seqD (cellOf y 15)).length with
   | some y0 =>
    p (V.d (D.lit (Value.bool y0)))
   | none => p (V.d (D.lit (Value.bool false)))))))))) := by kernel_rfl
theorem w13 (y : D) (p : V → Prop) : (evBodyT (Cn T38) T38 noCS 0 noSp noHn 13 [V.d (eV y)] Heap.empty fun v H => p (freezeR H v)) =
  (FitE (eV y) ∧
  (((!decide
        ((bif false then if 101 > cntE (eV y) 0 then 101 else cntE (eV y) 0
          else if 101 < cntE (eV y) 0 then 101 else cntE (eV y) 0) >
          20) &&
    (decide
        ((bif false then if 101 > cntE (eV y) 0 then 101 else cntE (eV y) 0
          else if 101 < cntE (eV y) 0 then 101 else cntE (eV y) 0) ≤
          100) &&
      true)) =
  true → FitE (eV y)) ∧
  p
  (V.d
    (D.lit
      (Value.bool
        (bif
            decide
              ((bif false then if 101 > cntE (eV y) 0 then 101 else cntE (eV y) 0
                else if 101 < cntE (eV y) 0 then 101 else cntE (eV y) 0) ≤
                100) then
          bif
              decide
                ((bif false then if 101 > cntE (eV y) 0 then 101 else cntE (eV y) 0
                  else if 101 < cntE (eV y) 0 then 101 else cntE (eV y) 0) >
                  20) then
            true
          else goE (eV y)
        else false)))))) := by kernel_rfl
noncomputable def greatB (y : D) : Bool :=
  (bif
            decide
              ((bif false then if 101 > cntE (eV y) 0 then 101 else cntE (eV y) 0
                else if 101 < cntE (eV y) 0 then 101 else cntE (eV y) 0) ≤
                100) then
          bif
              decide
                ((bif false then if 101 > cntE (eV y) 0 then 101 else cntE (eV y) 0
                  else if 101 < cntE (eV y) 0 then 101 else cntE (eV y) 0) >
                  20) then
            true
          else goE (eV y)
        else false)
noncomputable def c13 : Ct := ⟨fun | [x] => FitE x | _ => False, fun | [x] => some (.lit (.bool (greatB x))) | _ => none⟩
noncomputable def T13 : Tab := T38.add 13 c13
theorem anyF_congr {f g : D → Bool} {xs : List D} (h : ∀ a ∈ xs, f a = g a) : search (anyF f xs) xs.length = search (anyF g xs) xs.length := by
  have key : ∀ n i, i + n ≤ xs.length → rounds (fun i _ => ofOpt (anyF f xs i)) n i () = rounds (fun i _ => ofOpt (anyF g xs i)) n i () := by
    intro n
    induction n with
    | zero => intro i _; rfl
    | succ n ih =>
      intro i hi
      unfold rounds
      have e : anyF f xs i = anyF g xs i := by unfold anyF; rw [h _ (getD_mem (by omega))]
      simp only [e]
      cases ofOpt (anyF g xs i) with
      | inl _ => exact ih (i + 1) (by omega)
      | inr _ => rfl
  unfold search
  rw [key _ 0 (by omega)]
theorem gpT_congr (r r' : D → Bool) (y : D) (h : ∀ a ∈ subs y 2, r a = r' a) : gpT r y = gpT r' y := by
  unfold gpT
  rw [anyF_congr h]
theorem gpE_eq (y : D) : gpE y = gpT gpE y := fixD_step gpT_congr y
theorem goT_congr (r r' : D → Bool) (y : D) (h : ∀ a ∈ subs y 15, r a = r' a) : goT r y = goT r' y := by
  unfold goT
  rw [anyF_congr h]
theorem goE_eq (y : D) : goE y = goT goE y := fixD_step goT_congr y
theorem ok50a {κ : Nat} (hk : TabOk B (U50 κ)) : OkS (Cn (U50 κ)) 0 (.loop l50a) S50a := by
  refine okS_loop fun N vals bs K h => ?_
  simp only [S50a] at h
  split at h
  case h_2 => exact h.elim
  rename_i i q b1 cs b2 xs
  obtain ⟨⟨rfl, rfl, hsh, hall⟩, h⟩ := h
  have hs : cs.length ≤ 1152921504606846976 := hsh
  refine search_loop (tab_fit base hk noCS_valid) tab_has noSp_ok (hn := noHn) (adsI := []) (nsI := [([5000],[5000])]) (nsX := [([5000],[5000])]) rfl rfl cs.length
    (fun i => [.ptr [5000] 0, lint i]) (fun _ => [pBox q b1 cs b2 xs]) (anyF cBig cs) (fun e => (.ret, [.ptr [5000] 0, lbool e], [pBox q b1 cs b2 xs])) (by simp) (.exit 0) [.ptr [5000] 0, .any] [pBox q b1 cs b2 xs] (by simp) ?_ ?_ h
  · intro i R hi hR
    refine keep (b50a κ q cs xs b1 b2 i R) ?_
    have e1 : decide ((i : Int) < cs.length) = true := by simp; omega
    have e2 : IntKind.i64.wrap ((i : Int) + 1) = ((i + 1 : Nat) : Int) := by rw [Go.IntWalk.i64_in _ (by omega)]; omega
    have hg : (0 : Int) ≤ i ∧ i < cs.length ∧ cV (cs.getD i .any) = cs.getD i .any := ⟨by omega, hi, hall _ (getD_mem hi)⟩
    rw [e1]
    simp only [Int.toNat_natCast, e2, cond_true]
    refine ⟨hg, fun _ => hg, cond_split (fun h1 => ⟨trivial, ?_⟩) (fun h1 => ⟨trivial, ?_⟩)⟩ <;> (simp only [anyF, cBig, h1, cond_true, cond_false, optE] at hR; exact hR)
  · intro R hR
    refine keep (b50a κ q cs xs b1 b2 cs.length R) ?_
    have e1 : decide ((cs.length : Int) < cs.length) = false := by simp
    rw [e1]
    exact ⟨rfl, hR⟩
theorem ok50b {κ : Nat} (hk : TabOk B (U50 κ)) : OkS (Cn (U50 κ)) 0 (.loop l50b) (S50b gpE κ) := by
  refine okS_loop fun N vals bs K h => ?_
  simp only [S50b] at h
  split at h
  case h_2 => exact h.elim
  rename_i i q b1 cs b2 xs
  obtain ⟨⟨rfl, _, rfl, hsh, hall⟩, h⟩ := h
  have hs : xs.length ≤ 1152921504606846976 := hsh
  refine search_loop (tab_fit base hk noCS_valid) tab_has noSp_ok (hn := noHn) (adsI := []) (nsI := [([5000],[5000])]) (nsX := []) rfl rfl xs.length
    (fun i => [.ptr [5000] 0, lint i]) (fun _ => [pBox q b1 cs b2 xs]) (anyF gpE xs) (fun e => (.ret, [lbool e], [])) (by simp) (.exit 2) [.any] [] (by simp) ?_ ?_ h
  · intro i R hi hR
    refine keep (b50b κ q cs xs b1 b2 i R) ?_
    have e1 : decide ((i : Int) < xs.length) = true := by simp; omega
    have e2 : IntKind.i64.wrap ((i : Int) + 1) = ((i + 1 : Nat) : Int) := by rw [Go.IntWalk.i64_in _ (by omega)]; omega
    obtain ⟨hv, hlt⟩ := hall _ (getD_mem hi)
    rw [e1]
    simp only [Int.toNat_natCast, e2, cond_true, hv.v]
    refine ⟨⟨by omega, hi, trivial⟩, ⟨hv, hlt⟩, cond_split (fun h1 => ⟨trivial, ?_⟩) (fun h1 => ⟨trivial, ?_⟩)⟩ <;> (simp only [anyF, h1, cond_true, cond_false, optE] at hR; exact hR)
  · intro R hR
    refine keep (b50b κ q cs xs b1 b2 xs.length R) ?_
    have e1 : decide ((xs.length : Int) < xs.length) = false := by simp
    rw [e1]
    exact ⟨rfl, hR⟩
theorem k50 : TabOk B T50 := by
  refine add_rec base k22 μ1 (fn := Tryz.f50) (cd := bodyOf Tryz.f50) (sp := fun n => spL [(8, S50a), (18, S50b gpE n)]) (hn := noHn) Tryz.func50 (by kernel_rfl) (by kernel_rfl) (fun n hk => specT_cons (c := .loop l50a) (by kernel_rfl) (ok50a hk) (specT_cons (c := .loop l50b) (by kernel_rfl) (ok50b hk) specT_nil)) fun κ ds r hp hm hr => ?_
  unfold c50 at hp hr
  simp only [] at hr hp
  split at hr
  · rename_i x
    cases hr
    rw [arg1 (FitP.v hp)]
    refine keep (w50 gpE κ x fun v => v = _) ?_
    rw [gpE_eq]
    unfold gpT
    have hc : ∀ y ∈ seqD (cellOf x 1), FitC y := FitP.c hp
    have h1 : Short (seqD (cellOf x 1)) := (FitP.l hp).1
    have h2 : Short (seqD (cellOf x 2)) := (FitP.l hp).2
    have ha : ∀ y ∈ seqD (cellOf x 2), FitP y ∧ dsz y < κ := fun y hy => ⟨FitP.a hp y hy, hm ▸ subs_lt hy⟩
    generalize search (anyF cBig (seqD (cellOf x 1))) (seqD (cellOf x 1)).length = o1
    generalize search (anyF gpE (seqD (cellOf x 2))) (seqD (cellOf x 2)).length = o2
    cases o1 <;> cases o2 <;> (repeat' (first | with_reducible rfl | (refine cond_split (fun hcw => ?_) (fun hcw => ?_) <;> simp only [hcw, cond_true, cond_false]) | refine and_i ?_ ?_))
    all_goals first | trivial | assumption
  · cases hr
theorem ok38 {κ : Nat} (hk : TabOk B (U38 κ)) : OkS (Cn (U38 κ)) 0 (.loop l38) (S38 goE κ) := by
  refine okS_loop fun N vals bs K h => ?_
  simp only [S38] at h
  split at h
  case h_2 => exact h.elim
  rename_i i a0 a1 a2 a3 a4 a5 a6 a7 a8 a9 a10 a11 a12 a13 a14 b xs
  obtain ⟨⟨⟨y, hy⟩, rfl, _, rfl, hsh, hall⟩, h⟩ := h
  have hxs : xs = seqD (cellOf y 15) := by
    have := congrArg (fun l : List V => l.getD 15 .any) hy
    simp at this
    exact this.2
  rw [hy]
  subst hxs
  have hs : (seqD (cellOf y 15)).length ≤ 1152921504606846976 := hsh
  refine search_loop (tab_fit base hk noCS_valid) tab_has noSp_ok (hn := noHn) (adsI := []) (nsI := [([5000],[5000])]) (nsX := []) rfl rfl (seqD (cellOf y 15)).length
    (fun i => [.ptr [5000] 0, lint i]) (fun _ => [eBox y]) (anyF goE (seqD (cellOf y 15))) (fun e => (.ret, [lbool e], [])) (by simp) (.exit 0) [.any] [] (by simp) ?_ ?_ h
  · intro i R hi hR
    refine keep (b38 κ y i R) ?_
    have e1 : decide ((i : Int) < (seqD (cellOf y 15)).length) = true := by simp; omega
    have e2 : IntKind.i64.wrap ((i : Int) + 1) = ((i + 1 : Nat) : Int) := by rw [Go.IntWalk.i64_in _ (by omega)]; omega
    obtain ⟨hv, hlt⟩ := hall _ (getD_mem hi)
    rw [e1]
    simp only [Int.toNat_natCast, e2, cond_true, hv.v]
    refine ⟨⟨by omega, hi, trivial⟩, ⟨hv, hlt⟩, cond_split (fun h1 => ⟨trivial, ?_⟩) (fun h1 => ⟨trivial, ?_⟩)⟩ <;> (simp only [anyF, h1, cond_true, cond_false, optE] at hR; exact hR)
  · intro R hR
    refine keep (b38 κ y (seqD (cellOf y 15)).length R) ?_
    have e1 : decide (((seqD (cellOf y 15)).length : Int) < (seqD (cellOf y 15)).length) = false := by simp
    rw [e1]
    exact ⟨rfl, hR⟩
theorem k38 : TabOk B T38 := by
  refine add_rec base k50 μ1 (fn := Tryz.f38) (cd := bodyOf Tryz.f38) (sp := fun n => spL [(8, S38 goE n)]) (hn := noHn) Tryz.func38 (by kernel_rfl) (by kernel_rfl) (fun n hk => specT_cons (c := .loop l38) (by kernel_rfl) (ok38 hk) specT_nil) fun κ ds r hp hm hr => ?_
  unfold c38 at hp hr
  simp only [] at hr hp
  split at hr
  · rename_i x
    cases hr
    rw [arg1 (FitE.v hp)]
    refine keep (w38 goE κ x fun v => v = _) ?_
    rw [goE_eq]
    unfold goT
    have hE : IsE (eCells x) := ⟨x, rfl⟩
    obtain ⟨⟨s1, s2⟩, s3, s4⟩ := FitE.l hp
    have hm' : ∀ y ∈ seqD (cellOf x 2), FitM y := FitE.m hp
    have hn : ∀ y ∈ seqD (cellOf x 7), FitN y := FitE.n hp
    have hs : ∀ y ∈ seqD (cellOf x 10), FitG y := FitE.s hp
    have hpp := FitE.p hp
    have ha : ∀ y ∈ seqD (cellOf x 15), FitE y ∧ dsz y < κ := fun y hy => ⟨FitE.a hp y hy, hm ▸ subs_lt hy⟩
    generalize search (anyF goE (seqD (cellOf x 15))) (seqD (cellOf x 15)).length = o1
    cases o1 <;> (repeat' (first | with_reducible rfl | (refine cond_split (fun hcw => ?_) (fun hcw => ?_) <;> simp only [hcw, cond_true, cond_false]) | refine and_i ?_ ?_))
    all_goals first | trivial | assumption | exact hE | (intro _; first | assumption | exact ⟨rfl, by assumption, by assumption⟩)
  · cases hr
theorem k13 : TabOk B T13 := by
  refine add_body base k38 (fn := Tryz.f13) (cd := bodyOf Tryz.f13) (sp := noSp) (hn := noHn) Tryz.func13 (by kernel_rfl) (by kernel_rfl) noSp_ok fun ds r hp hr => ?_
  unfold c13 at hp hr
  simp only [] at hr hp
  split at hr
  · rename_i x
    cases hr
    rw [arg1 (FitE.v hp)]
    refine keep (w13 x fun v => v = _) ?_
    unfold greatB
    rw [FitE.v hp]
    exact ⟨hp, fun _ => hp, rfl⟩
  · cases hr
end Go.Ev.R2
end
section
namespace Go.Ev.R2
open Go Go.Ev Go.Proofs
set_option maxRecDepth 100000
set_option linter.unusedVariables false
set_option linter.unusedSimpArgs false
noncomputable def c14 : Ct := ⟨fun | [] => True | _ => False, fun | [] => some (.lit (.bool true)) | _ => none⟩
noncomputable def T14 : Tab := T13.add 14 c14
noncomputable def l9 : Code := roundOf (pieceAt (bodyOf Tryz.f9) 16)
noncomputable def S9 : Ev.Spec := { L := [1,4,5,37,38,39], ns := [([5000],[3])], L' := [1,5,2], nm' := [[5000]], G := fun N vals bs k => match vals, bs with
  | [.ptr [5000] 0, .d (.lit (.int .i64 e)), .d (.lit (.int .i64 s)), .d (.slice b 16 xs), .d (.lit (.int .i64 n)), .d (.lit (.int .i64 i))], [.cells 33 cs] => (IsE cs ∧ N = 75 ∧ s = 0 ∧ i = 0 ∧ n = xs.length ∧ xs.length ≤ 100 ∧ (xs.map etot).sum ≤ 100 ∧ ∀ y ∈ xs, FitE y ∧ checkE y = 0 ∧ (e = 0 → typeE y ≠ 0)) ∧ k (.exit 0) [.ptr [5000] 0, lint ((xs.map etot).sum : Nat), .any] [.cells 33 cs]
  | _, _ => False }
theorem b9 (y : D) (e : Int) (s : Int) (xs : List D) (i : Int) (n : Int) (b : Bool) (R : X → List V → List Box → Prop) : (roundT (Cn T14) T14 noCS 0 noSp noHn l9 75 [1, 4, 5, 37, 38, 39] [[5000]] [] [([5000], [5000])] [1, 5, 2]
  [([5000], [5000])] [V.ptr [5000] 0, lint e, lint s, V.d (D.slice b 16 xs), lint n, lint i] [eBox y] R) =
  (bif decide (i < n) then
   ((((0 : Int) ≤ i) ∧ (i.toNat < xs.length ∧ eV (xs.getD i.toNat D.any) = xs.getD i.toNat D.any)) ∧
   (FitE (eV (xs.getD i.toNat D.any)) ∧
   (FitE (eV (xs.getD i.toNat D.any)) ∧
   (FitE (eV (xs.getD i.toNat D.any)) ∧
   (bif bif checkE (eV (xs.getD i.toNat D.any)) != 0 then true
else
  bif e == 0 then
    bif
        (bif checkE (eV (xs.getD i.toNat D.any)) != 0 then checkE (eV (xs.getD i.toNat D.any))
          else bif typeE (eV (xs.getD i.toNat D.any)) == 0 then 15 else 0) !=
          0 then
      true
    else (bif checkE (eV (xs.getD i.toNat D.any)) != 0 then 0 else typeE (eV (xs.getD i.toNat D.any))) == 0
  else false then
    (75 = 75 ∧
    R X.ret
  [V.ptr [5000] 0,
    V.d (D.lit (Value.int IntKind.i64 (IntKind.i64.wrap (s + (↑(cap (etot (eV (xs.getD i.toNat D.any)))) : Int))))),
    V.d (D.lit (Value.bool false))]
  [Box.cells 33
      [V.d (D.lit (Value.int IntKind.i64 (intOf (cellOf y 0)))),
        V.d (D.lit (Value.int IntKind.i64 (intOf (cellOf y 1)))),
        V.d (D.slice (nilOf (cellOf y 2)) 3 (seqD (cellOf y 2))),
        V.d (D.lit (Value.int IntKind.i64 (intOf (cellOf y 3)))),
        V.d (D.lit (Value.int IntKind.i64 (intOf (cellOf y 4)))),
        V.d (D.lit (Value.int IntKind.i64 (intOf (cellOf y 5)))),
        V.d (D.lit (Value.int IntKind.i64 (intOf (cellOf y 6)))),
        V.d (D.slice (nilOf (cellOf y 7)) 1 (seqD (cellOf y 7))), V.d (D.lit (Value.bool (boolOf (cellOf y 8)))),
        V.d (D.lit (Value.int IntKind.i64 (intOf (cellOf y 9)))),
        V.d (D.slice (nilOf (cellOf y 10)) 4 (seqD (cellOf y 10))),
        V.d (D.lit (Value.int IntKind.i64 (intOf (cellOf y 11)))),
        V.d (D.slice (nilOf (cellOf y 12)) 4 (seqD (cellOf y 12))),
        V.d (D.slice (nilOf (cellOf y 13)) 3 (seqD (cellOf y 13))), V.d (D.lit (Value.string (strOf (cellOf y 14)))),
        V.d (D.slice (nilOf (cellOf y 15)) 16 (seqD (cellOf y 15)))]]) else
    (75 = 75 ∧
    R X.normal
  [V.ptr [5000] 0, V.d (D.lit (Value.int IntKind.i64 e)),
    V.d (D.lit (Value.int IntKind.i64 (IntKind.i64.wrap (s + (↑(cap (etot (eV (xs.getD i.toNat D.any)))) : Int))))),
    V.d (D.slice b 16 xs), V.d (D.lit (Value.int IntKind.i64 n)),
    V.d (D.lit (Value.int IntKind.i64 (IntKind.i64.wrap (i + 1))))]
  [Box.cells 33
      [V.d (D.lit (Value.int IntKind.i64 (intOf (cellOf y 0)))),
        V.d (D.lit (Value.int IntKind.i64 (intOf (cellOf y 1)))),
        V.d (D.slice (nilOf (cellOf y 2)) 3 (seqD (cellOf y 2))),
        V.d (D.lit (Value.int IntKind.i64 (intOf (cellOf y 3)))),
        V.d (D.lit (Value.int IntKind.i64 (intOf (cellOf y 4)))),
        V.d (D.lit (Value.int IntKind.i64 (intOf (cellOf y 5)))),
        V.d (D.lit (Value.int IntKind.i64 (intOf (cellOf y 6)))),
        V.d (D.slice (nilOf (cellOf y 7)) 1 (seqD (cellOf y 7))), V.d (D.lit (Value.bool (boolOf (cellOf y 8)))),
        V.d (D.lit (Value.int IntKind.i64 (intOf (cellOf y 9)))),
        V.d (D.slice (nilOf (cellOf y 10)) 4 (seqD (cellOf y 10))),
        V.d (D.lit (Value.int IntKind.i64 (intOf (cellOf y 11)))),
        V.d (D.slice (nilOf (cellOf y 12)) 4 (seqD (cellOf y 12))),
        V.d (D.slice (nilOf (cellOf y 13)) 3 (seqD (cellOf y 13))), V.d (D.lit (Value.string (strOf (cellOf y 14)))),
        V.d (D.slice (nilOf (cellOf y 15)) 16 (seqD (cellOf y 15)))]])))))) else
   (75 = 75 ∧
   R (X.exit 0) [V.ptr [5000] 0, V.d (D.lit (Value.int IntKind.i64 s)), V.any]
  [Box.cells 33
      [V.d (D.lit (Value.int IntKind.i64 (intOf (cellOf y 0)))),
        V.d (D.lit (Value.int IntKind.i64 (intOf (cellOf y 1)))),
        V.d (D.slice (nilOf (cellOf y 2)) 3 (seqD (cellOf y 2))),
        V.d (D.lit (Value.int IntKind.i64 (intOf (cellOf y 3)))),
        V.d (D.lit (Value.int IntKind.i64 (intOf (cellOf y 4)))),
        V.d (D.lit (Value.int IntKind.i64 (intOf (cellOf y 5)))),
        V.d (D.lit (Value.int IntKind.i64 (intOf (cellOf y 6)))),
        V.d (D.slice (nilOf (cellOf y 7)) 1 (seqD (cellOf y 7))), V.d (D.lit (Value.bool (boolOf (cellOf y 8)))),
        V.d (D.lit (Value.int IntKind.i64 (intOf (cellOf y 9)))),
        V.d (D.slice (nilOf (cellOf y 10)) 4 (seqD (cellOf y 10))),
        V.d (D.lit (Value.int IntKind.i64 (intOf (cellOf y 11)))),
        V.d (D.slice (nilOf (cellOf y 12)) 4 (seqD (cellOf y 12))),
        V.d (D.slice (nilOf (cellOf y 13)) 3 (seqD (cellOf y 13))), V.d (D.lit (Value.string (strOf (cellOf y 14)))),
        V.d (D.slice (nilOf (cellOf y 15)) 16 (seqD (cellOf y 15)))]])) := by kernel_rfl
theorem w9 (y : D) (p : V → Prop) : (evBodyT (Cn T14) T14 noCS 0 (spL [(16, S9)]) noHn 9 [V.d (eV y)] Heap.empty fun v H => p (freezeR H v)) =
  (FitE (eV y) ∧
  (((!greatB (eV y) && true) = true → FitE (eV y)) ∧
  (bif bif greatB (eV y) then true else checkE (eV y) != 0 then
   (True ∧
   p (V.d (D.lit (Value.bool true)))) else
   (FitE (eV y) ∧
   (bif bif
    !((bif checkE (eV y) != 0 then checkE (eV y) else bif typeE (eV y) == 0 then 15 else 0) == 0) ==
        ((bif checkE (eV y) != 0 then 0 else typeE (eV y)) != 0) then
  true
else
  bif (bif checkE (eV y) != 0 then checkE (eV y) else bif typeE (eV y) == 0 then 15 else 0) != 0 then
    (bif checkE (eV y) != 0 then checkE (eV y) else bif typeE (eV y) == 0 then 15 else 0) != 15
  else false then
    p (V.d (D.lit (Value.bool false))) else
    ((IsE
  [V.d (D.lit (Value.int IntKind.i64 (intOf (cellOf y 0)))), V.d (D.lit (Value.int IntKind.i64 (intOf (cellOf y 1)))),
    V.d (D.slice (nilOf (cellOf y 2)) 3 (seqD (cellOf y 2))), V.d (D.lit (Value.int IntKind.i64 (intOf (cellOf y 3)))),
    V.d (D.lit (Value.int IntKind.i64 (intOf (cellOf y 4)))), V.d (D.lit (Value.int IntKind.i64 (intOf (cellOf y 5)))),
    V.d (D.lit (Value.int IntKind.i64 (intOf (cellOf y 6)))), V.d (D.slice (nilOf (cellOf y 7)) 1 (seqD (cellOf y 7))),
    V.d (D.lit (Value.bool (boolOf (cellOf y 8)))), V.d (D.lit (Value.int IntKind.i64 (intOf (cellOf y 9)))),
    V.d (D.slice (nilOf (cellOf y 10)) 4 (seqD (cellOf y 10))),
    V.d (D.lit (Value.int IntKind.i64 (intOf (cellOf y 11)))),
    V.d (D.slice (nilOf (cellOf y 12)) 4 (seqD (cellOf y 12))),
    V.d (D.slice (nilOf (cellOf y 13)) 3 (seqD (cellOf y 13))), V.d (D.lit (Value.string (strOf (cellOf y 14)))),
    V.d (D.slice (nilOf (cellOf y 15)) 16 (seqD (cellOf y 15)))] ∧ (75 = 75 ∧ (((0 : Int) = 0) ∧ (((0 : Int) = 0) ∧ ((((↑(seqD (cellOf y 15)).length : Int) : Int) = (↑(seqD (cellOf y 15)).length : Int)) ∧ ((seqD (cellOf y 15)).length ≤ 100 ∧ ((List.map etot (seqD (cellOf y 15))).sum ≤ 100 ∧ ∀ (y_1 : D),
  y_1 ∈ seqD (cellOf y 15) →
    FitE y_1 ∧
      checkE y_1 = 0 ∧
        ((bif
                checkE
                    (D.agg
                      [iC y 0, iC y 1, lC y 2 3, iC y 3, iC y 4, iC y 5, iC y 6, lC y 7 1, bC y 8, iC y 9, lC y 10 4,
                        iC y 11, lC y 12 4, lC y 13 3, sC y 14, lC y 15 16]) !=
                  0 then
              checkE
                (D.agg
                  [iC y 0, iC y 1, lC y 2 3, iC y 3, iC y 4, iC y 5, iC y 6, lC y 7 1, bC y 8, iC y 9, lC y 10 4,
                    iC y 11, lC y 12 4, lC y 13 3, sC y 14, lC y 15 16])
            else
              bif
                  typeE
                      (D.agg
                        [iC y 0, iC y 1, lC y 2 3, iC y 3, iC y 4, iC y 5, iC y 6, lC y 7 1, bC y 8, iC y 9, lC y 10 4,
                          iC y 11, lC y 12 4, lC y 13 3, sC y 14, lC y 15 16]) ==
                    0 then
                15
              else 0) =
            0 →
          typeE y_1 ≠ 0)))))))) ∧
    (FitE (eV y) ∧
    (((decide ((↑(cap (etot (eV y))) : Int) > (↑(List.map etot (seqD (cellOf y 15))).sum : Int)) && true) = true → True) ∧
    p
  (V.d
    (D.lit
      (Value.bool
        (bif decide ((↑(cap (etot (eV y))) : Int) > (↑(List.map etot (seqD (cellOf y 15))).sum : Int)) then true
        else false)))))))))))) := by kernel_rfl
theorem maxL_ge {f : D → Nat} {y : D} : ∀ {xs : List D}, y ∈ xs → f y ≤ maxL (xs.map f)
  | x :: xs, h => by
    rw [List.map_cons, maxL_cons]
    rcases List.mem_cons.1 h with rfl | h
    · omega
    · have := maxL_ge (f := f) h; omega
theorem checkE_of {y : D} (hv : eV y = y) (h1 : etot y ≤ 100) (h2 : edep y ≤ 12) (h3 : partsE y = 0) : checkE y = 0 := by
  unfold checkE
  rw [hv, h3]
  have e1 : decide (((cap (etot y) : Nat) : Int) > 100) = false := by simp [cap]; omega
  have e2 : decide (((edep y : Nat) : Int) > 12) = false := by simp; omega
  rw [e1, e2]; rfl
theorem check_args {x : D} (hf : FitE x) (h : checkE x = 0) : ((subs x 15).map etot).sum < etot x ∧ etot x ≤ 100 ∧ ∀ a ∈ subs x 15, checkE a = 0 := by
  obtain ⟨h1, h2, h3⟩ := k15w h hf.v
  have e1 := etot_eq x
  have e2 := edep_eq x
  refine ⟨by omega, h1, fun a ha => ?_⟩
  have := le_sum (f := etot) ha
  have := maxL_ge (f := edep) ha
  exact checkE_of (hf.a a ha).v (by omega) (by omega) ((partsE_ok hf.v h3).2 a ha)
theorem type_args {x : D} (hf : FitE x) (h : checkE x = 0) (ht : typeE x ≠ 0) : ∀ a ∈ subs x 15, typeE a ≠ 0 := by
  intro a ha hz
  apply ht
  obtain ⟨h1, h2, h3⟩ := k15w h hf.v
  have hlen := (exprE_args (partsE_ok hf.v h3).1).1
  rw [typeE_eq]
  unfold typeT
  unfold subs at ha hlen
  generalize hk : intOf (cellOf x 0) = k at hlen ⊢
  generalize hl : seqD (cellOf x 15) = l at ha hlen ⊢
  by_cases k6 : k = 6
  · subst k6
    have : l.length = 1 := by simp [kArgs] at hlen; omega
    obtain ⟨b, rfl⟩ := List.length_eq_one_iff.1 this
    have : a = b := by simpa using ha
    subst this
    simp [hz, intOf]
  by_cases k12 : k = 12
  · subst k12
    have : l.length = 1 := by simp [kArgs] at hlen; omega
    obtain ⟨b, rfl⟩ := List.length_eq_one_iff.1 this
    have : a = b := by simpa using ha
    subst this
    simp [hz, intOf]
  by_cases k7 : k = 7
  · subst k7
    have : l.length = 2 := by simp [kArgs] at hlen; omega
    obtain ⟨b, c, rfl⟩ : ∃ b c, l = [b, c] := by
      match l, this with
      | [b, c], _ => exact ⟨b, c, rfl⟩
    have hbc : typeE b = 0 ∨ typeE c = 0 := by
      rcases List.mem_cons.1 ha with rfl | ha
      · exact .inl hz
      · have : a = c := by simpa using ha
        subst this; exact .inr hz
    simp only [Int.reduceBEq, cond_true, cond_false, List.map_cons, List.map_nil, List.getD_cons_zero, List.getD_cons_succ]
    unfold binE
    rcases hbc with e | e <;> simp [e, intOf]
  · have : l.length = 0 := by
      have e6 : (k == 6) = false := by simpa using k6
      have e7 : (k == 7) = false := by simpa using k7
      have e12 : (k == 12) = false := by simpa using k12
      simp [kArgs, e6, e7, e12] at hlen
      simpa using hlen
    have := List.length_eq_zero_iff.1 this
    subst this
    cases ha
theorem ok9 (hk : TabOk B T14) : OkS (Cn T14) 0 (.loop l9) S9 := by
  refine okS_loop fun N vals bs K h => ?_
  simp only [S9] at h
  split at h
  case h_2 => exact h.elim
  rename_i e s b xs n i cs
  obtain ⟨⟨⟨y, rfl⟩, rfl, rfl, rfl, rfl, hl, hsum, hx⟩, h⟩ := h
  have main : ∀ k i, i + k = xs.length → LoopT (Cn T14) 0 l9 75 [1,4,5,37,38,39] [[5000]] [1,5,2] [[5000]] [.ptr [5000] 0, lint e, lint (psum etot xs i : Nat), .d (.slice b 16 xs), lint xs.length, lint i] [eBox y] K := by
    intro k
    induction k with
    | zero =>
      intro i hi
      have : i = xs.length := by omega
      subst this
      refine loopT_step (tab_fit base hk noCS_valid) tab_has noSp_ok (hn := noHn) (adsI := []) (nsI := [([5000],[5000])]) (nsX := [([5000],[5000])]) rfl rfl (keep (b9 y e _ xs xs.length xs.length b _) ?_)
      have e1 : decide ((xs.length : Int) < xs.length) = false := by simp
      rw [e1, psum_all]
      exact ⟨rfl, h⟩
    | succ k ih =>
      intro i hi
      refine loopT_step (tab_fit base hk noCS_valid) tab_has noSp_ok (hn := noHn) (adsI := []) (nsI := [([5000],[5000])]) (nsX := [([5000],[5000])]) rfl rfl (keep (b9 y e _ xs i xs.length b _) ?_)
      have e1 : decide ((i : Int) < xs.length) = true := by simp; omega
      obtain ⟨hf, hc, ht⟩ := hx _ (getD_mem (xs := xs) (i := i) (by omega))
      have hv := hf.v
      have hp := psum_le (f := etot) (xs := xs) (i + 1)
      have hps := psum_succ (f := etot) (xs := xs) (i := i) (by omega)
      have ih' := ih (i + 1) (by omega)
      rw [hps] at ih' hp
      have e2 : IntKind.i64.wrap ((i : Int) + 1) = ((i + 1 : Nat) : Int) := by rw [Go.IntWalk.i64_in _ (by omega)]; omega
      have e3 : IntKind.i64.wrap ((psum etot xs i : Nat) + (cap (etot (xs.getD i .any)) : Nat) : Int) = ((psum etot xs i + etot (xs.getD i .any) : Nat) : Int) := by
        have : cap (etot (xs.getD i .any)) = etot (xs.getD i .any) := by unfold cap; omega
        rw [this, Go.IntWalk.i64_in _ (by omega)]; omega
      rw [e1]
      simp only [Int.toNat_natCast, e2, cond_true, hv, hc, e3, bne_self_eq_false, cond_false]
      refine ⟨⟨by omega, by omega, trivial⟩, hf, hf, hf, ?_⟩
      have e4 : (bif e == 0 then bif (bif typeE (xs.getD i .any) == 0 then (15 : Int) else 0) != 0 then true else typeE (xs.getD i .any) == 0 else false) = false := by
        cases he : (e == 0) with
        | false => rfl
        | true =>
          have h0 : typeE (xs.getD i .any) ≠ 0 := ht (by simpa using he)
          have h1 : (typeE (xs.getD i .any) == 0) = false := by simpa using h0
          rw [h1]; rfl
      rw [e4]
      exact ⟨trivial, ih'⟩
  have := main xs.length 0 (by omega)
  rw [show psum etot xs 0 = 0 from by simp [psum]] at this
  exact this
noncomputable def c9 : Ct := ⟨fun | [x] => FitE x | _ => False, fun | [x] => some (.lit (.bool true)) | _ => none⟩
theorem k9 (hk : TabOk B T14) : TabOk B (T14.add 9 c9) := by
  refine add_body base hk (fn := Tryz.f9) (cd := bodyOf Tryz.f9) (sp := spL [(16, S9)]) (hn := noHn) Tryz.func9 (by kernel_rfl) (by kernel_rfl) (specT_cons (c := .loop l9) (by kernel_rfl) (ok9 hk) specT_nil) fun ds r hp hr => ?_
  unfold c9 at hp hr
  simp only [] at hr hp
  split at hr
  · rename_i x
    cases hr
    rw [arg1 (FitE.v hp)]
    refine keep (w9 x fun v => v = _) ?_
    rw [FitE.v hp]
    refine ⟨hp, fun _ => hp, cond_split (fun h => ⟨trivial, rfl⟩) (fun h => ⟨hp, ?_⟩)⟩
    have hc : checkE x = 0 := by have := (or_f h).2; simpa using this
    obtain ⟨hs, ht, ha⟩ := check_args hp hc
    have hl := len_etot (xs := subs x 15)
    simp only [hc, bne_self_eq_false, cond_false]
    have hg : (decide ((cap (etot x) : Nat) > (((List.map etot (seqD (cellOf x 15))).sum : Nat) : Int))) = true := by
      unfold subs at hs; simp [cap]; omega
    have hE : IsE (eCells x) := ⟨x, rfl⟩
    have hc' : checkE (eV x) = 0 := by rw [FitE.v hp]; exact hc
    have hfin : (List.map etot (seqD (cellOf x 15))).sum ≤ 100 := by unfold subs at hs; omega
    unfold subs at hl ha
    have hcc : (bif !((bif typeE x == 0 then (15 : Int) else 0) == 0) == (typeE x != 0) then true else bif (bif typeE x == 0 then (15 : Int) else 0) != 0 then (bif typeE x == 0 then (15 : Int) else 0) != 15 else false) = false := by
      cases h0 : (typeE x == 0) with
      | true => simp_all
      | false => simp_all
    rw [hcc, hg]
    simp only [cond_true, cond_false]
    refine ⟨⟨hE, trivial, trivial, trivial, trivial, by omega, hfin, fun y hy => ⟨FitE.a hp y hy, ha y hy, fun h0 => type_args hp hc (fun hz => ?_) y hy⟩⟩, hp, fun _ => trivial, trivial⟩
    have hv : D.agg [iC x 0, iC x 1, lC x 2 3, iC x 3, iC x 4, iC x 5, iC x 6, lC x 7 1, bC x 8, iC x 9, lC x 10 4, iC x 11, lC x 12 4, lC x 13 3, sC x 14, lC x 15 16] = x := FitE.v hp
    simp [hv, hc, hz] at h0
  · cases hr
end Go.Ev.R2
end
section
namespace Go.Ev
set_option linter.unusedSimpArgs false
set_option linter.unusedVariables false
def lim0 (w : World) (b : Nat) : Nat := match w.heap[b]? with
  | some (.cells c _ _) => c.size
  | some (.map _ _) => 1
  | _ => 0
theorem lim0_fresh {w : World} {b : Nat} (h : w.heap.size ≤ b) : lim0 w b = 0 := by simp [lim0, Array.getElem?_eq_none h]
theorem lim0_cell {w : World} {b o : Nat} {v : Value} (h : w.cell? ⟨b, o, none⟩ = some v) : o < lim0 w b := by
  unfold World.cell? at h
  unfold lim0
  split at h
  · rename_i c t fr hb
    rw [hb]
    simp at h
    exact (Array.getElem?_eq_some_iff.1 h).1
  · cases h
def elemD (P : Program) (e : TypeId) (cs : List D) : D := match P.underlying e with
  | some (.struct _) => .agg cs
  | _ => cs.headD .any
def fitC (P : Program) : Nat → TypeId → List D → Prop
  | 0, _, _ => False
  | n + 1, t, ds => match P.underlying t with
    | some .bool => ∃ b, ds = [.lit (.bool b)]
    | some (.int k) => ∃ i, ds = [.lit (.int k i)] ∧ (Lit.int k i).wf = true
    | some .string => ∃ s : ByteArray, ds = [.lit (.string s)] ∧ s.size ≤ reachBytes
    | some (.slice e) => ∃ nil xs, ds = [.slice nil (P.cellsOf e) xs] ∧ xs.length ≤ reachBytes ∧ ∀ x ∈ xs, ∃ cs, x = elemD P e cs ∧ fitC P n e cs
    | some (.struct fs) => ds.length = P.cellsOf t ∧ ∀ (i : Nat) (f : Field), fs[i]? = some f → fitC P n f.type ((ds.drop f.offset).take (P.cellsOf f.type))
    | _ => False
structure Plainly (P : Program) (T : TypeId → Prop) : Prop where
  slice : ∀ t e, T t → P.underlying t = some (.slice e) → T e ∧ (0 < P.cellsOf e ∧ 0 < P.bytesOf e)
  struct : ∀ t fs, T t → P.underlying t = some (.struct fs) → (∀ f ∈ fs.toList, T f.type) ∧ P.cellsOf t = (fs.toList.map fun f => P.cellsOf f.type).sum ∧
    ∀ (j : Nat) f, fs.toList[j]? = some f → f.offset = ((fs.toList.take j).map fun f => P.cellsOf f.type).sum
  kinds : ∀ t, T t → (∃ fs, P.underlying t = some (.struct fs)) ∨ (P.cellsOf t = 1 ∧ (P.underlying t = some .bool ∨ (∃ k, P.underlying t = some (.int k)) ∨ P.underlying t = some .string ∨ ∃ e, P.underlying t = some (.slice e)))
theorem elemD_cells {P : Program} {e : TypeId} {cs : List D} (h : (∃ fs, P.underlying e = some (.struct fs)) ∨ (cs.length = 1 ∧ (∀ x ∈ cs, x.cells = [x]) ∧ ∀ fs, P.underlying e ≠ some (.struct fs))) : (elemD P e cs).cells = cs := by
  unfold elemD
  rcases h with ⟨fs, h⟩ | ⟨hl, hx, hn⟩
  · rw [h]; rfl
  · split
    · rename_i fs h; exact absurd h (hn fs)
    · obtain ⟨x, rfl⟩ := List.length_eq_one_iff.1 hl
      exact hx x (by simp)
section
variable {H : Type} {enc : TypeId × Value → H} {P : Program} {w : World} {held : Bool} {T : TypeId → Prop}
def Good1 (P : Program) (w : World) (n : Nat) (t : TypeId) (cs : List Value) : Prop :=
  cs.length = P.cellsOf t ∧ (∀ v ∈ cs, Flat v) ∧ ∃ ds, RepDs w (lim0 w) ds cs ∧ fitC P n t ds ∧ ∀ x ∈ ds, x.cells = [x]
theorem rows_rep {n : Nat} {e : TypeId} {b off sz : Nat} : ∀ (k : Nat) (f : Nat → List Value),
    (∀ i, i < k → (f i).length = sz ∧ (∀ v ∈ f i, Flat v) ∧ (∀ j v, (f i)[j]? = some v → w.cell? ⟨b, off + i * sz + j, none⟩ = some v) ∧ ∃ ds, RepDs w (lim0 w) ds (f i) ∧ fitC P n e ds ∧ (elemD P e ds).cells = ds) →
    ∃ xs vs, xs.length = k ∧ RepDs w (lim0 w) (flats xs) vs ∧ (∀ v ∈ vs, Flat v) ∧ vs.length = k * sz ∧ (∀ j v, vs[j]? = some v → w.cell? ⟨b, off + j, none⟩ = some v) ∧ (∀ x ∈ xs, x.cells.length = sz) ∧ ∀ x ∈ xs, ∃ cs, x = elemD P e cs ∧ fitC P n e cs
  | 0, f, h => ⟨[], [], rfl, .nil, by simp, by simp, by simp, by simp, by simp⟩
  | k + 1, f, h => by
    obtain ⟨xs, vs, h1, h2, h3, h4, h5, h6, h7⟩ := rows_rep k f fun i hi => h i (by omega)
    obtain ⟨g1, g2, g3, ds, g4, g5, g6⟩ := h k (by omega)
    refine ⟨xs ++ [elemD P e ds], vs ++ f k, by simp [h1], ?_, ?_, ?_, ?_, ?_, ?_⟩
    · have : flats (xs ++ [elemD P e ds]) = flats xs ++ ds := by simp [flats, g6]
      rw [this]; exact h2.append g4
    · intro v hv
      rcases List.mem_append.1 hv with hv | hv
      · exact h3 v hv
      · exact g2 v hv
    · rw [List.length_append, h4, g1, Nat.add_mul]; omega
    · intro j v hj
      by_cases hlt : j < vs.length
      · rw [List.getElem?_append_left hlt] at hj; exact h5 j v hj
      · rw [List.getElem?_append_right (by omega)] at hj
        have := g3 _ _ hj
        rw [h4] at this hlt
        rw [show off + k * sz + (j - k * sz) = off + j by omega] at this
        exact this
    · intro x hx
      rcases List.mem_append.1 hx with hx | hx
      · exact h6 x hx
      · simp only [List.mem_singleton] at hx; subst hx; rw [g6, g4.length, g1]
    · intro x hx
      rcases List.mem_append.1 hx with hx | hx
      · exact h7 x hx
      · simp only [List.mem_singleton] at hx; subst hx; exact ⟨ds, rfl, g5⟩
theorem struct_rep {n : Nat} : ∀ (l : List Field) (cs : List Value), cs.length = (l.map fun f => P.cellsOf f.type).sum →
    (∀ (j : Nat) (f : Field), l[j]? = some f → Good1 P w n f.type ((cs.drop ((l.take j).map fun f => P.cellsOf f.type).sum).take (P.cellsOf f.type))) →
    ∃ ds, RepDs w (lim0 w) ds cs ∧ (∀ v ∈ cs, Flat v) ∧ (∀ x ∈ ds, x.cells = [x]) ∧
      ∀ (j : Nat) (f : Field), l[j]? = some f → fitC P n f.type ((ds.drop ((l.take j).map fun f => P.cellsOf f.type).sum).take (P.cellsOf f.type))
  | [], cs, hl, _ => by
    have : cs = [] := List.length_eq_zero_iff.1 (by simpa using hl)
    subst this
    exact ⟨[], .nil, by simp, by simp, fun j f h => by simp at h⟩
  | f :: l, cs, hl, h => by
    have h0 := h 0 f rfl
    simp only [List.take_zero, List.map_nil, List.sum_nil, List.drop_zero] at h0
    obtain ⟨g1, g2, ds1, g3, g4, g5⟩ := h0
    simp only [List.map_cons, List.sum_cons] at hl
    obtain ⟨ds2, k1, k2, k3, k4⟩ := struct_rep l (cs.drop (P.cellsOf f.type)) (by rw [List.length_drop]; omega) fun j f' hf' => by
      have := h (j + 1) f' (by simpa using hf')
      simp only [List.take_succ_cons, List.map_cons, List.sum_cons] at this
      rw [List.drop_drop]
      exact this
    have e1 : ds1.length = P.cellsOf f.type := by rw [g3.length, g1]
    refine ⟨ds1 ++ ds2, by have := g3.append k1; rwa [List.take_append_drop] at this, fun v hv => ?_, fun x hx => ?_, fun j f' hf' => ?_⟩
    · rw [← List.take_append_drop (P.cellsOf f.type) cs] at hv
      rcases List.mem_append.1 hv with hv | hv
      · exact g2 v hv
      · exact k2 v hv
    · rcases List.mem_append.1 hx with hx | hx
      · exact g5 x hx
      · exact k3 x hx
    · cases j with
      | zero =>
        simp only [List.getElem?_cons_zero, Option.some.injEq] at hf'
        subst hf'
        simp only [List.take_zero, List.map_nil, List.sum_nil, List.drop_zero]
        rw [← e1, List.take_left]
        exact g4
      | succ j =>
        have := k4 j f' (by simpa using hf')
        simp only [List.take_succ_cons, List.map_cons, List.sum_cons]
        rw [← e1, ← List.drop_drop, List.drop_left]
        exact this
theorem weightsAll_mem {e : TypeId} : ∀ {l : List (DataW H)} {d : DataW H}, d ∈ l → ∀ n ∈ d.weights P e, n ∈ DataW.weightsAll P e l
  | x :: l, d, h, n, hn => by
    simp only [DataW.weightsAll, List.mem_append]
    rcases List.mem_cons.1 h with rfl | h
    · exact .inl hn
    · exact .inr (weightsAll_mem h n hn)
theorem trod_rep (hT : Plainly P T) : ∀ (n : Nat) (t : TypeId) (cs : List Value) (x : DataW H × List MemPlace), T t → DataW.trod enc P w 0 (fun _ => true) held n t cs = some x → (∀ m ∈ x.1.weights P t, m ≤ reachBytes) → Good1 P w n t cs := by
  intro n
  induction n with
  | zero => intro t cs x _ h; simp [DataW.trod] at h
  | succ n ih =>
    intro t cs x ht h hwt
    rcases hT.kinds t ht with ⟨fs, hu⟩ | ⟨hc1, hu | ⟨k, hu⟩ | hu | ⟨e, hu⟩⟩
    · -- a struct
      obtain ⟨xs, m, hm, hx, hl, hxl, hfs⟩ := DataW.trod_struct hu h
      obtain rfl : n = m := by omega
      obtain ⟨hft, hsum, hoff⟩ := hT.struct t fs ht hu
      have each : ∀ (j : Nat) (f : Field), fs.toList[j]? = some f → Good1 P w n f.type ((cs.drop ((fs.toList.take j).map fun f => P.cellsOf f.type).sum).take (P.cellsOf f.type)) := fun i f hf => by
        have hf' : fs[i]? = some f := by simpa using hf
        have h1 := hfs i f hf'
        have hi : i < xs.length := by rw [hxl]; exact (Array.getElem?_eq_some_iff.1 hf').1
        rw [List.getElem?_eq_getElem hi] at h1
        rw [← hoff i f hf]
        refine ih _ _ _ (hft f (List.mem_of_getElem? hf)) h1 fun m hm => hwt m ?_
        rw [hx]
        simp only [DataW.weights, hu]
        exact DataW.weights_mem_each (j := i) (t := f.type) (d := xs[i].1) (by simp [hf]) (by simp [hi]) m hm
      obtain ⟨ds, d1, d2, d3, d4⟩ := struct_rep fs.toList cs (by rw [hl, hsum]) each
      refine ⟨hl, d2, ds, d1, ?_, d3⟩
      unfold fitC
      rw [hu]
      refine ⟨by rw [d1.length, hl], fun i f hf => ?_⟩
      have hf' : fs.toList[i]? = some f := by simpa using hf
      rw [hoff i f hf']
      exact d4 i f hf'
    · obtain ⟨b, rfl, _⟩ := DataW.trod_bool hu h
      exact ⟨hc1.symm, by simp [Flat], [.lit (.bool b)], .cons (.lit (by simp)) .nil, by unfold fitC; rw [hu]; exact ⟨b, rfl⟩, by simp [D.cells]⟩
    · obtain ⟨i, rfl, _, hw⟩ := DataW.trod_int hu h
      exact ⟨hc1.symm, by simp [Flat], [.lit (.int k i)], .cons (.lit (by simp)) .nil, by unfold fitC; rw [hu]; exact ⟨i, rfl, hw⟩, by simp [D.cells]⟩
    · obtain ⟨s, rfl, rfl, _⟩ := DataW.trod_string hu h
      have hs : s.size ≤ reachBytes := hwt s.size (by simp [DataW.weights])
      exact ⟨hc1.symm, by simp [Flat], [.lit (.string s)], .cons (.lit (by simp)) .nil, by unfold fitC; rw [hu]; exact ⟨s, rfl, hs⟩, by simp [D.cells]⟩
    · obtain ⟨hte, hpos, hby⟩ := hT.slice t e ht hu
      rcases DataW.trod_slice hu h with ⟨rfl, _⟩ | ⟨a, len, cap, elems, rest, m, hm, rfl, hx, _, hlc, hcm, hel, hi, _⟩
      · exact ⟨hc1.symm, by simp [Flat], [.slice true (P.cellsOf e) []], .cons .nils .nil, by unfold fitC; rw [hu]; exact ⟨true, [], rfl, Nat.zero_le _, by simp⟩, by simp [D.cells]⟩
      · obtain rfl : n = m := by omega
        refine ⟨hc1.symm, by simp [Flat], ?_⟩
        by_cases h0 : len = 0
        · subst h0
          exact ⟨[.slice false (P.cellsOf e) []], .cons (.slice (vs := []) .nil (by simp) (fun h => absurd rfl h) (by simp) rfl hlc) .nil, by unfold fitC; rw [hu]; exact ⟨false, [], rfl, Nat.zero_le _, by simp⟩, by simp [D.cells]⟩
        have hlen : len ≤ reachBytes := by
          have h1 := hwt ((elems.length + rest.length) * P.bytesOf e) (by rw [hx]; simp [DataW.weights, hu])
          have h2 : elems.length + rest.length ≤ (elems.length + rest.length) * P.bytesOf e := Nat.le_mul_of_pos_right _ hby
          omega
        have elem : ∀ i, i < len → ∃ cs y, w.cells? 0 (a.add (i * P.cellsOf e)) (P.cellsOf e) = some cs ∧ DataW.trod enc P w 0 (fun _ => true) held n e cs = some y ∧ y ∈ elems := fun i hlt => by
          have h1 := hi i hlt
          rw [List.getElem?_eq_getElem (by omega)] at h1
          cases hc : w.cells? 0 (a.add (i * P.cellsOf e)) (P.cellsOf e) with
          | none => rw [hc] at h1; cases h1
          | some cs => rw [hc] at h1; exact ⟨cs, _, rfl, h1, List.getElem_mem _⟩
        have hsp : a.spot = none := by
          obtain ⟨cs, y, hc, _⟩ := elem 0 (by omega)
          obtain ⟨_, hl, hcell⟩ := World.cells?_some hc
          have h1 := hcell 0 hpos
          have : 0 < cs.length := by omega
          rw [List.getElem?_eq_getElem this] at h1
          simpa [Addr.add] using World.cell?_spot h1
        obtain ⟨b, off, sp⟩ := a
        obtain rfl : sp = none := hsp
        have hadd : ∀ k : Nat, (⟨b, off, none⟩ : Addr).add k = ⟨b, off + k, none⟩ := fun k => by unfold Addr.add; split <;> simp_all
        have hadd2 : ∀ i j : Nat, ((⟨b, off, none⟩ : Addr).add i).add j = ⟨b, off + i + j, none⟩ := fun i j => by rw [hadd]; unfold Addr.add; split <;> simp_all
        let f : Nat → List Value := fun i => (w.cells? 0 ((⟨b, off, none⟩ : Addr).add (i * P.cellsOf e)) (P.cellsOf e)).getD []
        obtain ⟨xs, vs, h1, h2, h3, h4, h5, h6, h7⟩ := rows_rep (P := P) (w := w) (n := n) (e := e) (b := b) (off := off) (sz := P.cellsOf e) len f (fun i hlt => by
          obtain ⟨cs, y, hc, hy, hym⟩ := elem i hlt
          have hfi : f i = cs := by simp only [f, hc, Option.getD_some]
          rw [hfi]
          obtain ⟨_, hl, hcell⟩ := World.cells?_some hc
          obtain ⟨_, g1, ds, g2, g3, g4⟩ := ih e cs y hte hy fun m hm => hwt m (by
            rw [hx]
            simp only [DataW.weights, hu, List.mem_cons, List.mem_append]
            exact .inr (.inl (weightsAll_mem (List.mem_map.2 ⟨y, hym, rfl⟩) m hm)))
          refine ⟨hl, g1, fun j v hj => ?_, ds, g2, g3, ?_⟩
          · have hlt : j < P.cellsOf e := by rw [← hl]; exact (List.getElem?_eq_some_iff.1 hj).1
            have := hcell j hlt
            rw [hadd2] at this
            rw [this, hj]
          · apply elemD_cells
            rcases hT.kinds e hte with hs | ⟨hc1, hk⟩
            · exact .inl hs
            · refine .inr ⟨by rw [g2.length, hl, hc1], g4, fun fs hfs => ?_⟩
              rcases hk with hk | ⟨_, hk⟩ | hk | ⟨_, hk⟩ <;> rw [hk] at hfs <;> cases hfs)
        refine ⟨[.slice false (P.cellsOf e) xs], .cons (.slice h2 h3 (fun _ => ⟨rfl, fun i v hv => ⟨lim0_cell (h5 i v hv), h5 i v hv⟩⟩) h6 h1.symm hlc) .nil, ?_, by simp [D.cells]⟩
        unfold fitC
        rw [hu]
        exact ⟨false, xs, rfl, by rw [h1]; exact hlen, h7⟩
end
def plainB (P : Program) (l : List TypeId) : Bool := l.all fun t => match P.underlying t with
  | some (.slice e) => l.contains e && (decide (0 < P.cellsOf e) && (decide (0 < P.bytesOf e) && P.cellsOf t == 1))
  | some (.struct fs) => fs.toList.all (fun f => l.contains f.type) && (P.cellsOf t == (fs.toList.map fun f => P.cellsOf f.type).sum &&
      (List.range fs.toList.length).all fun j => (fs.toList[j]?.map (·.offset)) == some ((fs.toList.take j).map fun f => P.cellsOf f.type).sum)
  | some .bool | some (.int _) | some .string => P.cellsOf t == 1
  | _ => false
theorem plain_of {P : Program} {l : List TypeId} (h : plainB P l = true) : Plainly P (· ∈ l) := by
  have at_ : ∀ t ∈ l, _ := fun t ht => List.all_eq_true.1 h t ht
  refine ⟨fun t e ht hu => ?_, fun t fs ht hu => ?_, fun t ht => ?_⟩
  · have := at_ t ht
    simp only [hu, Bool.and_eq_true, decide_eq_true_eq] at this
    exact ⟨List.elem_iff.1 this.1, this.2.1, this.2.2.1⟩
  · have := at_ t ht
    simp only [hu, Bool.and_eq_true, beq_iff_eq, List.all_eq_true] at this
    refine ⟨fun f hf => List.elem_iff.1 (this.1 f hf), this.2.1, fun j f hf => ?_⟩
    have h2 := this.2.2 j (List.mem_range.2 (List.getElem?_eq_some_iff.1 hf).1)
    rw [hf] at h2
    simpa using h2
  · have := at_ t ht
    cases hu : P.underlying t with
    | none => rw [hu] at this; cases this
    | some u =>
      rw [hu] at this
      cases u <;> simp at this
      case bool => exact .inr ⟨this, .inl rfl⟩
      case int k => exact .inr ⟨this, .inr (.inl ⟨k, rfl⟩)⟩
      case string => exact .inr ⟨this, .inr (.inr (.inl rfl))⟩
      case slice e => exact .inr ⟨this.2.2.2, .inr (.inr (.inr ⟨e, rfl⟩))⟩
      case struct fs => exact .inl ⟨fs, rfl⟩
section
variable {P : Program} {n : Nat} {t : TypeId} {x : D}
theorem fit_bool (hu : P.underlying t = some .bool) (h : fitC P n t [x]) : ∃ b, x = .lit (.bool b) := by
  cases n with
  | zero => exact h.elim
  | succ n => unfold fitC at h; rw [hu] at h; obtain ⟨b, hb⟩ := h; exact ⟨b, by simpa using hb⟩
theorem fit_int {k : IntKind} (hu : P.underlying t = some (.int k)) (h : fitC P n t [x]) : ∃ i, x = .lit (.int k i) ∧ (Lit.int k i).wf = true := by
  cases n with
  | zero => exact h.elim
  | succ n => unfold fitC at h; rw [hu] at h; obtain ⟨b, hb, hw⟩ := h; exact ⟨b, by simpa using hb, hw⟩
theorem fit_str (hu : P.underlying t = some .string) (h : fitC P n t [x]) : ∃ s : ByteArray, x = .lit (.string s) ∧ s.size ≤ reachBytes := by
  cases n with
  | zero => exact h.elim
  | succ n => unfold fitC at h; rw [hu] at h; obtain ⟨b, hb, hw⟩ := h; exact ⟨b, by simpa using hb, hw⟩
theorem fit_slice {e : TypeId} (hu : P.underlying t = some (.slice e)) (h : fitC P n t [x]) : ∃ m nil xs, n = m + 1 ∧ x = .slice nil (P.cellsOf e) xs ∧ xs.length ≤ reachBytes ∧ ∀ y ∈ xs, ∃ cs, y = elemD P e cs ∧ fitC P m e cs := by
  cases n with
  | zero => exact h.elim
  | succ n => unfold fitC at h; rw [hu] at h; obtain ⟨nil, xs, hb, hw⟩ := h; exact ⟨n, nil, xs, rfl, by simpa using hb, hw⟩
theorem fit_struct {fs : Array Field} {ds : List D} (hu : P.underlying t = some (.struct fs)) (h : fitC P n t ds) : ∃ m, n = m + 1 ∧ ds.length = P.cellsOf t ∧ ∀ (i : Nat) (f : Field), fs[i]? = some f → fitC P m f.type ((ds.drop f.offset).take (P.cellsOf f.type)) := by
  cases n with
  | zero => exact h.elim
  | succ n => unfold fitC at h; rw [hu] at h; exact ⟨n, rfl, h⟩
end
end Go.Ev
end
section
namespace Go.Ev.R2
open Go Go.Ev Go.Proofs
set_option maxRecDepth 100000
set_option linter.unusedVariables false
set_option linter.unusedSimpArgs false
def tyL : List TypeId := [33, 3, 22, 24, 25, 4, 26, 30, 9, 31, 98, 65, 27, 28, 107]
theorem plainT : Plainly Tryz.prog (· ∈ tyL) := plain_of (by kernel_rfl)
theorem short_of {xs : List D} (h : xs.length ≤ reachBytes) : Short xs := by unfold Short; unfold reachBytes at h; omega
theorem c33 : Tryz.prog.cellsOf 33 = 16 := by kernel_rfl
theorem c30 : Tryz.prog.cellsOf 30 = 3 := by kernel_rfl
theorem c107 : Tryz.prog.cellsOf 107 = 4 := by kernel_rfl
theorem c98 : Tryz.prog.cellsOf 98 = 3 := by kernel_rfl
theorem c65 : Tryz.prog.cellsOf 65 = 4 := by kernel_rfl
theorem c9_ : Tryz.prog.cellsOf 9 = 1 := by kernel_rfl
theorem fit98 {n : Nat} {ds : List D} (h : fitC Tryz.prog n 98 ds) : FitM (.agg ds) := by
  obtain ⟨m, rfl, hl, hf⟩ := fit_struct Tryz.underlying98 h
  rw [c98] at hl
  match ds, hl with
  | [x0, x1, x2], _ =>
    obtain ⟨i, rfl, _⟩ := fit_int Tryz.underlying3 (hf 0 _ rfl)
    obtain ⟨s1, rfl, _⟩ := fit_str Tryz.underlying9 (hf 1 _ rfl)
    obtain ⟨s2, rfl, _⟩ := fit_str Tryz.underlying9 (hf 2 _ rfl)
    rfl
theorem fit107 {n : Nat} {ds : List D} (h : fitC Tryz.prog n 107 ds) : FitC (.agg ds) := by
  obtain ⟨m, rfl, hl, hf⟩ := fit_struct Tryz.underlying107 h
  rw [c107] at hl
  match ds, hl with
  | [x0, x1, x2, x3], _ =>
    obtain ⟨s0, rfl, _⟩ := fit_str Tryz.underlying9 (hf 0 _ rfl)
    obtain ⟨i, rfl, _⟩ := fit_int Tryz.underlying3 (hf 1 _ rfl)
    obtain ⟨s2, rfl, _⟩ := fit_str Tryz.underlying9 (hf 2 _ rfl)
    obtain ⟨j, rfl, _⟩ := fit_int Tryz.underlying3 (hf 3 _ rfl)
    rfl
theorem elem98 (cs : List D) : elemD Tryz.prog 98 cs = .agg cs := by unfold elemD; rw [Tryz.underlying98]
theorem elem107 (cs : List D) : elemD Tryz.prog 107 cs = .agg cs := by unfold elemD; rw [Tryz.underlying107]
theorem elem65 (cs : List D) : elemD Tryz.prog 65 cs = .agg cs := by unfold elemD; rw [Tryz.underlying65]
theorem elem30 (cs : List D) : elemD Tryz.prog 30 cs = .agg cs := by unfold elemD; rw [Tryz.underlying30]
theorem elem33 (cs : List D) : elemD Tryz.prog 33 cs = .agg cs := by unfold elemD; rw [Tryz.underlying33]
theorem fit22 {n : Nat} {x : D} (h : fitC Tryz.prog n 22 [x]) : ∃ nil xs, x = .slice nil 3 xs ∧ Short xs ∧ ∀ m ∈ xs, FitM m := by
  obtain ⟨m, nil, xs, rfl, rfl, hs, hx⟩ := fit_slice Tryz.underlying22 h
  refine ⟨nil, xs, by rw [c98], short_of hs, fun y hy => ?_⟩
  obtain ⟨cs, rfl, hc⟩ := hx y hy
  rw [elem98]; exact fit98 hc
theorem fit25 {n : Nat} {x : D} (h : fitC Tryz.prog n 25 [x]) : ∃ nil xs, x = .slice nil 1 xs ∧ Short xs ∧ ∀ m ∈ xs, FitN m := by
  obtain ⟨m, nil, xs, rfl, rfl, hs, hx⟩ := fit_slice Tryz.underlying25 h
  refine ⟨nil, xs, by rw [c9_], short_of hs, fun y hy => ?_⟩
  obtain ⟨cs, rfl, hc⟩ := hx y hy
  have hcs : ∃ s : ByteArray, cs = [.lit (.string s)] := by
    cases m with
    | zero => exact hc.elim
    | succ m =>
      unfold fitC at hc
      rw [Tryz.underlying9] at hc
      obtain ⟨s, h1, _⟩ := hc
      exact ⟨s, h1⟩
  obtain ⟨s, rfl⟩ := hcs
  unfold elemD
  rw [Tryz.underlying9]
  rfl
theorem fit65 {n : Nat} {ds : List D} (h : fitC Tryz.prog n 65 ds) : FitG (.agg ds) := by
  obtain ⟨m, rfl, hl, hf⟩ := fit_struct Tryz.underlying65 h
  rw [c65] at hl
  match ds, hl with
  | [x0, x1, x2, x3], _ =>
    obtain ⟨i, rfl, _⟩ := fit_int Tryz.underlying3 (hf 0 _ rfl)
    obtain ⟨s1, rfl, _⟩ := fit_str Tryz.underlying9 (hf 1 _ rfl)
    obtain ⟨b2, l2, rfl, hs2, h2⟩ := fit22 (hf 2 _ rfl)
    obtain ⟨b3, l3, rfl, hs3, h3⟩ := fit25 (hf 3 _ rfl)
    exact ⟨rfl, hs2, hs3, h2, h3⟩
theorem fit26 {n : Nat} {x : D} (h : fitC Tryz.prog n 26 [x]) : ∃ nil xs, x = .slice nil 4 xs ∧ Short xs ∧ ∀ m ∈ xs, FitG m := by
  obtain ⟨m, nil, xs, rfl, rfl, hs, hx⟩ := fit_slice Tryz.underlying26 h
  refine ⟨nil, xs, by rw [c65], short_of hs, fun y hy => ?_⟩
  obtain ⟨cs, rfl, hc⟩ := hx y hy
  rw [elem65]; exact fit65 hc
theorem fit27 {n : Nat} {x : D} (h : fitC Tryz.prog n 27 [x]) : ∃ nil xs, x = .slice nil 4 xs ∧ Short xs ∧ ∀ m ∈ xs, FitC m := by
  obtain ⟨m, nil, xs, rfl, rfl, hs, hx⟩ := fit_slice Tryz.underlying27 h
  refine ⟨nil, xs, by rw [c107], short_of hs, fun y hy => ?_⟩
  obtain ⟨cs, rfl, hc⟩ := hx y hy
  rw [elem107]; exact fit107 hc
theorem fit30 : ∀ (N n : Nat) {ds : List D}, n ≤ N → fitC Tryz.prog n 30 ds → FitP (.agg ds)
  | 0, n, ds, hn, h => by
    obtain ⟨m, rfl, _⟩ := fit_struct Tryz.underlying30 h
    omega
  | N + 1, n, ds, hn, h => by
    obtain ⟨m, rfl, hl, hf⟩ := fit_struct Tryz.underlying30 h
    rw [c30] at hl
    match ds, hl with
    | [x0, x1, x2], _ =>
      obtain ⟨i, rfl, _⟩ := fit_int Tryz.underlying3 (hf 0 _ rfl)
      obtain ⟨b1, l1, rfl, hs1, h1⟩ := fit27 (hf 1 _ rfl)
      obtain ⟨q, b2, l2, hq, rfl, hs2, h2⟩ := fit_slice Tryz.underlying28 (hf 2 _ rfl)
      refine FitP.mk (y := .agg [.lit (.int .i64 i), .slice b1 4 l1, .slice b2 (Tryz.prog.cellsOf 30) l2]) ?_ ⟨hs1, short_of hs2⟩ h1 ?_
      · rw [c30]; rfl
      · intro a ha
        obtain ⟨cs, rfl, hc⟩ := h2 a ha
        rw [elem30]
        exact fit30 N q (by omega) hc
theorem fit33 : ∀ (N n : Nat) {ds : List D}, n ≤ N → fitC Tryz.prog n 33 ds → FitE (.agg ds)
  | 0, n, ds, hn, h => by
    obtain ⟨m, rfl, _⟩ := fit_struct Tryz.underlying33 h
    omega
  | N + 1, n, ds, hn, h => by
    obtain ⟨m, rfl, hl, hf⟩ := fit_struct Tryz.underlying33 h
    rw [c33] at hl
    match ds, hl with
    | [x0, x1, x2, x3, x4, x5, x6, x7, x8, x9, x10, x11, x12, x13, x14, x15], _ =>
      obtain ⟨i0, rfl, _⟩ := fit_int Tryz.underlying3 (hf 0 _ rfl)
      obtain ⟨i1, rfl, _⟩ := fit_int Tryz.underlying3 (hf 1 _ rfl)
      obtain ⟨b2, l2, rfl, hs2, h2⟩ := fit22 (hf 2 _ rfl)
      obtain ⟨i3, rfl, _⟩ := fit_int Tryz.underlying3 (hf 3 _ rfl)
      obtain ⟨i4, rfl, _⟩ := fit_int Tryz.underlying3 (hf 4 _ rfl)
      obtain ⟨m5, hm5, _, hf5⟩ := fit_struct Tryz.underlying24 (hf 5 _ rfl)
      have g5 := hf5 0 _ rfl
      have g6 := hf5 1 _ rfl
      obtain ⟨i5, rfl, _⟩ := fit_int Tryz.underlying3 g5
      obtain ⟨i6, rfl, _⟩ := fit_int Tryz.underlying3 g6
      obtain ⟨b7, l7, rfl, hs7, h7⟩ := fit25 (hf 6 _ rfl)
      obtain ⟨i8, rfl⟩ := fit_bool Tryz.underlying4 (hf 7 _ rfl)
      obtain ⟨i9, rfl, _⟩ := fit_int Tryz.underlying3 (hf 8 _ rfl)
      obtain ⟨b10, l10, rfl, hs10, h10⟩ := fit26 (hf 9 _ rfl)
      obtain ⟨s14, rfl, _⟩ := fit_str Tryz.underlying9 (hf 11 _ rfl)
      obtain ⟨q, b15, l15, hq, rfl, hs15, h15⟩ := fit_slice Tryz.underlying31 (hf 12 _ rfl)
      have hpc : fitC Tryz.prog m 30 [x11, x12, x13] := by
        have this : fitC Tryz.prog m 30 (List.take (Tryz.prog.cellsOf 30) [x11, x12, x13, .lit (.string s14), .slice b15 (Tryz.prog.cellsOf 33) l15]) := hf 10 _ rfl
        rw [c30] at this
        exact this
      have hp' : FitP (.agg [x11, x12, x13]) := fit30 m m (Nat.le_refl _) hpc
      rw [c33]
      have hpv : pV (.agg [x11, x12, x13]) = .agg [x11, x12, x13] := hp'.v
      simp only [D.agg.injEq, List.cons.injEq, and_true] at hpv
      obtain ⟨e1, e2, e3⟩ := hpv
      refine FitE.mk ?_ ⟨⟨hs2, hs7⟩, hs10, short_of hs15⟩ h2 h7 h10 ?_ ?_
      · simp only [D.agg.injEq, List.cons.injEq, and_true]
        exact ⟨rfl, rfl, rfl, rfl, rfl, rfl, rfl, rfl, rfl, rfl, rfl, e1, e2, e3, rfl, rfl⟩
      · have : paV (.agg [.lit (.int .i64 i0), .lit (.int .i64 i1), .slice b2 3 l2, .lit (.int .i64 i3), .lit (.int .i64 i4), .lit (.int .i64 i5), .lit (.int .i64 i6), .slice b7 1 l7, .lit (.bool i8), .lit (.int .i64 i9), .slice b10 4 l10, x11, x12, x13, .lit (.string s14), .slice b15 16 l15]) = pV (.agg [x11, x12, x13]) := rfl
        rw [this, hp'.v]; exact hp'
      · intro a ha
        obtain ⟨cs, rfl, hc⟩ := h15 a ha
        rw [elem33]
        exact fit33 N q (by omega) hc
end Go.Ev.R2
end
section
namespace Go.Ev
set_option linter.unusedSimpArgs false
set_option linter.unusedVariables false
structure SmB where
  pre : List V → List Box → Bool
  f : List V → List Box → Option (V × List Box × List Box)
def SmB.sm (S : SmB) : Sm := ⟨fun v b => S.pre v b = true, fun v b => match S.f v b with | some (r, bs, news) => one r bs news | none => none⟩
abbrev STabB := List (FuncId × SmB)
def lookB : STabB → FuncId → Option SmB
  | [], _ => none
  | (a, S) :: r, n => bif n == a then some S else lookB r n
def STabB.st (tb : STabB) : STab := fun K => match lookB tb K with | some S => some S.sm | none => none
def smCallB (tb : STabB) : CallF := fun K args H => match lookB tb K with
  | none => none
  | some S => match reach H 200 [] (namess args) with
    | none => none
    | some l => match boxesOf H (canon 0 l) with
      | none => none
      | some bs => bif nodupB l && (l.all zeroB && (inAll l (namess args) && bs.all (fun b => inAll l (boxNames b)))) then
          (match S.f (rens (rhoL (canon 0 l)) args) (bs.map (·.ren (rhoL (canon 0 l)))) with
          | some x => bif S.pre (rens (rhoL (canon 0 l)) args) (bs.map (·.ren (rhoL (canon 0 l)))) && x.2.1.length == bs.length then some (smPut H l x) else none
          | none => none)
        else none
theorem smCallB_le (tb : STabB) : CallLe (smCallB tb) (smCall tb.st) := by
  intro K args H r h
  unfold smCallB at h
  unfold smCall smRun STabB.st
  cases hl : lookB tb K with
  | none => rw [hl] at h; cases h
  | some S =>
    rw [hl] at h
    simp only [] at h ⊢
    cases hr : reach H 200 [] (namess args) with
    | none => rw [hr] at h; cases h
    | some l =>
      rw [hr] at h
      simp only [] at h ⊢
      cases hb : boxesOf H (canon 0 l) with
      | none => rw [hb] at h; cases h
      | some bs =>
        rw [hb] at h
        simp only [] at h ⊢
        cases hc : (nodupB l && (l.all zeroB && (inAll l (namess args) && bs.all (fun b => inAll l (boxNames b))))) with
        | false => rw [hc] at h; cases h
        | true =>
          rw [hc] at h
          simp only [cond_true] at h ⊢
          simp only [SmB.sm]
          cases hf : S.f (rens (rhoL (canon 0 l)) args) (bs.map (·.ren (rhoL (canon 0 l)))) with
          | none => rw [hf] at h; cases h
          | some x =>
            obtain ⟨x1, x2, x3⟩ := x
            rw [hf] at h
            simp only [] at h ⊢
            cases hp : S.pre (rens (rhoL (canon 0 l)) args) (bs.map (·.ren (rhoL (canon 0 l)))) with
            | false => rw [hp] at h; cases h
            | true =>
              rw [hp] at h
              simp only [Bool.true_and] at h
              cases he : (x2.length == bs.length) with
              | false => rw [he] at h; cases h
              | true =>
                rw [he] at h
                simp only [cond_true, Option.some.injEq] at h
                subst h
                simp [one, he]
theorem Valid.le {C : Cx} {c c' : CallF} (h : CallLe c c') (hv : Valid C c') : Valid C c := fun K args H r H' hr => hv K args H r H' (h K args H _ hr)
def evB (C : Cx) (base : CallF) : Nat → CallF
  | 0 => base
  | n + 1 => fun K args H => match base K args H with
    | some r => some r
    | none => evBody C (evLoopN 100000) (evB C base n) K args H
theorem evB_valid {C : Cx} {base : CallF} (ok : CxOk C) (okc : CallsOk C) (hn : NamesOk C) (hb : Valid C base) : ∀ n, Valid C (evB C base n)
  | 0 => hb
  | n + 1 => fun K args H r H' h => by
    simp only [evB] at h
    split at h
    · rename_i r' hr
      simp only [Option.some.injEq] at h
      subst h
      exact hb K args H _ _ hr
    · exact body_valid ok okc hn (loopN_ok _) (evB_valid ok okc hn hb n) K args H r H' h
theorem sm_nil {C : Cx} : SmOk C (STabB.st []) := fun K f vals bs c x y h => by cases h
theorem sm_consB {C : Cx} {K : FuncId} {S : SmB} {tb : STabB} (h : SmOk C tb.st)
    (hS : ∀ vals bs r bs' news, S.pre vals bs = true → S.f vals bs = some (r, bs', news) → Enters C.P K ∧ SoundQ C K vals (smIn bs) fun r' H' => r' = r ∧ H' = smOut bs' news) : SmOk C (STabB.st ((K, S) :: tb)) := fun K' f vals bs c x y ht hp hf => by
  unfold STabB.st lookB at ht
  by_cases e : K' = K
  · subst e
    simp only [beq_self_eq_true, cond_true, Option.some.injEq] at ht
    subst ht
    simp only [SmB.sm] at hp hf
    cases hx : S.f vals bs with
    | none => rw [hx] at hf; cases hf
    | some q =>
      obtain ⟨r, bs', news⟩ := q
      rw [hx] at hf
      simp only [one, Option.some.injEq, Prod.mk.injEq] at hf
      obtain ⟨rfl, rfl, rfl⟩ := hf
      exact hS vals bs r bs' news hp hx
  · have : (K' == K) = false := by simpa using e
    rw [this] at ht
    exact h K' f vals bs c x y ht hp hf
end Go.Ev
end
section
namespace Go.Ev
set_option linter.unusedSimpArgs false
set_option linter.unusedVariables false
abbrev itV (it : Nat) : V := .d (.lit (.pointer (some ⟨it, 0, none⟩)))
structure IterW (it r : Nat) (ms : Array MapEntry) (c : Nat) (es : List (D × D)) (seen : Array Nat) (g : G) (w : World) : Prop where
  blk : w.heap[it]? = some (.mapIter (some r) c seen c)
  own : g.owner it = none
  map : w.heap[r]? = some (.map ms c)
  pos : 0 < g.lim r
  keys : RepDs w g.lim (es.map (·.1)) (ms.toList.map (·.key))
  vals : RepDs w g.lim (es.map (·.2)) (ms.toList.map (·.val))
  st : Stamps ms c
section
variable {C : Cx} {w w' : World} {g g' : G} {s s' : St} {a : Act} {it r c : Nat} {ms : Array MapEntry} {es : List (D × D)} {seen : Array Nat}
theorem IterW.lt (h : IterW it r ms c es seen g w) : it < w.heap.size := (Array.getElem?_eq_some_iff.1 h.blk).1
theorem IterW.step (h : IterW it r ms c es seen g w) (st : Step w g w' g') : IterW it r ms c es seen g' w' :=
  ⟨(st.free it h.lt h.own).1.trans h.blk, (st.free it h.lt h.own).2.2, st.grow.map r ms c h.pos h.map, Nat.lt_of_lt_of_le h.pos (st.grow.le r), h.keys.mono st.grow, h.vals.mono st.grow, h.st⟩
theorem iter_set (R : Rel C g s a w) (h : IterW it r ms c es seen g w) (seen' : Array Nat) (hal : w'.os = w.os ∧ w'.tape = w.tape ∧ w'.output = w.output) (hw : w'.heap = w.heap.setIfInBounds it (.mapIter (some r) c seen' c)) :
    Rel C g s a w' ∧ IterW it r ms c es seen' g w' ∧ ∀ (w0 : World) (g0 : G), w0.heap.size ≤ it → Step w0 g0 w g → Step w0 g0 w' g := by
  have hother : ∀ k, k ≠ it → w'.heap[k]? = w.heap[k]? := fun k hk => by rw [hw, Array.getElem?_setIfInBounds, if_neg (Ne.symm hk)]
  have hsame : w'.heap[it]? = some (.mapIter (some r) c seen' c) := by rw [hw]; simp [h.lt]
  have hri : r ≠ it := fun e => by have := h.map; rw [e, h.blk] at this; cases this
  have hg : Grow w g.lim w' g.lim := ⟨fun _ => Nat.le_refl _, fun b o ho => by
      by_cases e : b = it
      · subst e; simp only [World.cell?, hsame, h.blk]
      · simp only [World.cell?, hother b e], fun b ms' c' hb hm => by
      by_cases e : b = it
      · subst e; rw [h.blk] at hm; cases hm
      · rw [hother b e]; exact hm, fun b c' t m hb hm => by
      by_cases e : b = it
      · subst e; rw [h.blk] at hm; cases hm
      · exact ⟨c', _, by rw [hother b e]; exact hm, rfl⟩⟩
  have hsz : w'.heap.size = w.heap.size := by rw [hw]; simp
  have hnm : Names s.H g s.H g := .refl _ _
  have hH : RepH w' g s.H := ⟨fun n b hb => (R.heap.box n b hb).mono hb hg hnm fun _ k hk => by
      have hk' : k ≠ it := fun e => by subst e; rw [h.own] at hk; cases hk
      exact ⟨hother k hk', hk, rfl⟩, fun b hb => R.heap.fresh b (by rw [← hsz]; exact hb)⟩
  refine ⟨R.later hg hnm hH, ⟨hsame, h.own, (hother r hri).trans h.map, h.pos, h.keys.mono hg, h.vals.mono hg, h.st⟩, fun w0 g0 hle st => ?_⟩
  exact ⟨hal.1.trans st.os, hal.2.1.trans st.tape, hal.2.2.trans st.output, by rw [hsz]; exact st.size, fun b hb ho => by
    have : b ≠ it := by omega
    obtain ⟨k1, k2, k3⟩ := st.free b hb ho
    exact ⟨(hother b this).trans k1, k2, k3⟩, st.grow.trans hg⟩
theorem run_next_at (P : Program) (ty : TypeId) (h : IterW it r ms c es seen g w) :
    ((leftOf ms seen).size = 0 ∧ (Instr.next (.pointer (some ⟨it, 0, none⟩)) false ty).run P w = .ok (.tuple #[.bool false]) w) ∨
    ∃ e ∈ (leftOf ms seen).toList, ∃ w' : World, (w'.os = w.os ∧ w'.tape = w.tape ∧ w'.output = w.output) ∧ w'.heap = w.heap.setIfInBounds it (.mapIter (some r) c (seen.push e.born) c) ∧
      (Instr.next (.pointer (some ⟨it, 0, none⟩)) false ty).run P w = .ok (.tuple #[.bool true, e.key, e.val]) w' := by
  simp only [Instr.next, getObj, Sem.run_bind, Sem.run, h.blk, h.map, Result.andThen, next_test_false seen ms c c h.st.old (Nat.le_refl _), Bool.false_eq_true, if_false]
  unfold leftOf
  have hmem : ∀ x ∈ (Array.filter (fun e => !seen.contains e.born) ms).toList, x.born < c := fun x hx => h.st.old x (by simp at hx ⊢; exact hx.1)
  generalize Array.filter (fun e => !seen.contains e.born) ms = L at hmem ⊢
  have e1 : L.filter (fun x => decide (x.born < c)) = L := Array.filter_eq_self.2 (fun x hx => by simpa using hmem x (by simpa using hx))
  have e2 : L.filter (fun x => decide (x.born ≥ c)) = #[] := by
    rw [Array.filter_eq_empty_iff]
    intro x hx
    have := hmem x (by simpa using hx)
    simp
    omega
  simp only [e1, e2, Array.append_empty]
  by_cases h0 : L.size = 0
  · left
    have : L = #[] := Array.eq_empty_of_size_eq_zero h0
    subst this
    refine ⟨rfl, ?_⟩
    simp [choose, Sem.run, Question.forced]
  · right
    have hne : L.isEmpty = false := by simp [Array.isEmpty, h0]
    simp only [hne, Bool.false_eq_true, if_false, Array.empty_append, Array.size_map]
    have hch : ∃ (j : Nat) (w1 : World), j < L.size ∧ (w1.os = w.os ∧ w1.tape = w.tape ∧ w1.output = w.output) ∧ w1.heap = w.heap ∧ (choose (Question.mapNext L.size)).run P w = .ok j w1 := by
      by_cases hf : L.size ≤ 1
      · exact ⟨0, w, by omega, ⟨rfl, rfl, rfl⟩, rfl, by simp [choose, Sem.run, Question.forced, hf]⟩
      · exact ⟨_, w.drew, Nat.mod_lt _ (by omega), ⟨rfl, rfl, rfl⟩, rfl, by
          simp only [choose, Sem.run, Question.forced, decide_eq_true_eq, hf, if_false, Question.cut]
          rfl⟩
    obtain ⟨j, w1, hj, hal, hhp, hrun⟩ := hch
    refine ⟨L[j], by simp, { w1 with heap := w1.heap.setIfInBounds it (.mapIter (some r) c (seen.push L[j].born) c) }, hal, by simp [hhp], ?_⟩
    have hi : w1.heap[it]? = some (.mapIter (some r) c seen c) := by rw [hhp]; exact h.blk
    have hset : ∀ (o' : Obj), (setObj it o').run P w1 = .ok () { w1 with heap := w1.heap.setIfInBounds it o' } := fun o' => by
      simp only [setObj, Sem.run, hi]
    simp only [hrun, Array.getElem?_map, Array.getElem?_eq_getElem hj, Option.map_some, Sem.run_bind, hset, Result.andThen]
    rfl
theorem run_entry_at (P : Program) {e : MapEntry} (h : IterW it r ms c es (seen.push e.born) g w) (he : e ∈ ms.toList) :
    (Instr.entry (.pointer (some ⟨it, 0, none⟩))).run P w = .ok (.tuple #[e.key, e.val]) w := by
  have hf : ms.find? (·.born == e.born) = some e := by rw [← Array.find?_toList]; exact find_born e ms.toList h.st.uniq he
  simp only [Instr.entry, getObj, Sem.run_bind, Sem.run, h.blk, h.map, Result.andThen, Array.back?_push, bne_self_eq_false, Bool.false_eq_true, if_false, hf]
  rfl
theorem RepDs.at {lim : Nat → Nat} {xs : List D} {vs : List Value} {i : Nat} {v : Value} (h : RepDs w lim xs vs) (hv : vs[i]? = some v) : ∃ x, xs[i]? = some x ∧ RepD w lim x v := by
  have hl := h.length
  have hi : i < xs.length := by rw [hl]; exact (List.getElem?_eq_some_iff.1 hv).1
  obtain ⟨v', h1, h2⟩ := h.get (List.getElem?_eq_getElem hi)
  rw [h1] at hv; cases hv
  exact ⟨_, List.getElem?_eq_getElem hi, h2⟩
theorem IterW.entry (h : IterW it r ms c es seen g w) {e : MapEntry} (he : e ∈ ms.toList) : ∃ (i : Nat) (p : D × D), ms.toList[i]? = some e ∧ es[i]? = some p ∧ RepD w g.lim p.1 e.key ∧ RepD w g.lim p.2 e.val := by
  obtain ⟨i, hi⟩ := List.mem_iff_getElem?.1 he
  obtain ⟨x, h1, h2⟩ := h.keys.at (i := i) (v := e.key) (by simp [hi])
  obtain ⟨y, h3, h4⟩ := h.vals.at (i := i) (v := e.val) (by simp [hi])
  rw [List.getElem?_map] at h1 h3
  cases hp : es[i]? with
  | none => rw [hp] at h1; cases h1
  | some p =>
    rw [hp] at h1 h3
    simp at h1 h3
    subst h1 h3
    exact ⟨i, p, hi, hp, h2, h4⟩
end
def mapRoundT (C : Cx) (tb : Tab) (cs : CS) (k : Nat) (sp : Nat → Option Spec) (hn : Nat → Option Hint) (d9 d10 d11 : Nat) (ops3 : Array Oper) (tail : Code) (kx vx : D) (s : St) (K : X → St → Prop) : Prop :=
  go (s.put (some d9) (.d (.tup [.lit (.bool true), kx, vx]))) fun s => go (s.put (some d10) (lbool true)) fun s =>
    go ((ageAll s ops3.toList).put (some d11) (.d (.tup [kx, vx]))) fun s => bif setsOne ops3.toList then False else
      evOpsT C tb cs ops3 ops3.toList.tail s fun s2 => evCodeT C tb cs k sp hn true tail s2 K
section
variable {C : Cx} {tb : Tab} {cs : CS} {k : Nat}
theorem born_idx {l : List MapEntry} (hn : (l.map (·.born)).Nodup) {i j : Nat} {e : MapEntry} (hi : l[i]? = some e) (hj : l[j]? = some e) : i = j := by
  obtain ⟨a1, b1⟩ := List.getElem?_eq_some_iff.1 hi
  obtain ⟨a2, b2⟩ := List.getElem?_eq_some_iff.1 hj
  exact (List.getElem_inj (h₀ := by simpa using a1) (h₁ := by simpa using a2) hn).1 (by simp [b1, b2])
theorem mapLoop_wp (F : Fit2 C cs.call) (hE : Has C tb) {sp : Nat → Option Spec} {hn : Nat → Option Hint} {d8 d9 d10 d11 idX id2 id3 b1 : Nat} {oN oX oE : Oper} {rest : List Oper} {ops3 : Array Oper} {tail : Code}
    (hops : ops3.toList = oE :: rest) (hN1 : oN.op = .next (.tmp d8) false) (hN2 : oN.dst = some d9) (hN3 : oN.guard = none) (hX1 : oX.op = .extract (.tmp d9) 0) (hX2 : oX.dst = some d10) (hX3 : oX.guard = none)
    (hE1 : oE.op = .entry (.tmp d8)) (hE2 : oE.dst = some d11) (hE3 : oE.guard = none) (h98 : d9 ≠ d8) (h108 : d10 ≠ d8) (ok : SpecT C k sp (specsOf true tail))
    {it r c : Nat} {ms : Array MapEntry} {es : List (D × D)} {N : Nat} {L L' : List Nat} {nm nm' : List Name} {nsI nsX : List (Name × Name)} (hI : nmOf nsI = nm) (hX : nmOf nsX = nm')
    (Inv : List Nat → List V → List Box → Prop) (Kx : List V → List Box → Prop)
    (hF : ∀ dn vals bs, Inv dn vals bs → (stN N L nm vals bs).F d8 = itV it)
    (hround : ∀ dn vals bs (i : Nat) (p : D × D), Inv dn vals bs → i ∉ dn → es[i]? = some p → Kept (mapRoundT C tb cs k sp hn d9 d10 d11 ops3 tail p.1 p.2 (stN N L nm vals bs) fun x s => s.N = N ∧ (x = .normal ∧ go (cutSt k L nsI s) fun q => Inv (i :: dn) q.1 q.2)))
    (hend : ∀ dn vals bs, Inv dn vals bs → (∀ i, i < es.length → i ∈ dn) →
      Kept (go ((stN N L nm vals bs).put (some d9) (.d (.tup [.lit (.bool false)]))) fun s => go (s.put (some d10) (lbool false)) fun s => s.N = N ∧ go (cutSt k L' nsX s) fun q => Kx q.1 q.2))
    {w0 : World} {g0 : G} {H0 : Heap} {Q : Exit → Act → World → Prop} (hit : w0.heap.size ≤ it)
    (hq : ∀ s' a' w', (∃ vs bs', s' = stN N L' nm' vs bs' ∧ Kx vs bs') → Z0 k s'.H → Post C g0 H0 w0 s' a' w' → Q (.exit idX) a' w') :
    ∀ (n : Nat) (seen : Array Nat) (dn : List Nat) (vals : List V) (bs : List Box) (g : G) (a : Act) (w : World), (leftOf ms seen).size < n → (∀ (i : Nat) e, ms.toList[i]? = some e → (seen.contains e.born = true ↔ i ∈ dn)) → Inv dn vals bs →
      Rel C g (stN N L nm vals bs) a w → Z0 k (stN N L nm vals bs).H → IterW it r ms c es seen g w → Step w0 g0 w g → Keep H0 g0 (stN N L nm vals bs).H g →
      wpL C.P (.seq (.region id2 #[oN, oX] false) (.seq (.cond (.tmp d10) .skip (.exit idX)) (.block b1 (.seq (.region id3 ops3 false) tail)))) Q a w := by
  intro n
  induction n with
  | zero => intro seen dn vals bs g a w h; omega
  | succ n ih =>
    intro seen dn vals bs g a w hn hag hinv R z iw st kp
    have hlen : es.length = ms.toList.length := by have := iw.keys.length; simpa using this
    have hp8 : a.eval (.tmp d8) = .pointer (some ⟨it, 0, none⟩) := by
      have := R.slots d8
      rw [hF dn vals bs hinv] at this
      exact this.lit_inv
    -- the step, and its first part
    have step2 : ∀ {v : Value} {x : V} {b : Bool} {xs : List D} {g1 : G} {w1 : World} {s1 s2 : St} {Q' : Exit → Act → World → Prop}, (execOp a.eval oN).run C.P w = .ok (.value v) w1 → Rel C g1 (stN N L nm vals bs) a w1 → RepV w1 g1 (stN N L nm vals bs).H x v →
        x = .d (.tup (.lit (.bool b) :: xs)) → (stN N L nm vals bs).put (some d9) x = some s1 → s1.put (some d10) (lbool b) = some s2 → (∀ a', Rel C g1 s2 a' w1 → s2.H = (stN N L nm vals bs).H → a'.eval (.tmp d8) = .pointer (some ⟨it, 0, none⟩) → Q' .normal a' w1) →
        (Code.region id2 #[oN, oX] false).wp C.P Q' a w := by
      intro v x b xs g1 w1 s1 s2 Q' hx R1 hv hxe h1 h2 hk
      refine wp_region_list ?_
      show wpList C.P #[oN, oX] Q' [oN, oX] a w
      unfold wpList
      rw [if_pos (wanted_ok R1 (show wantedV #[oN, oX] oN (stN N L nm vals bs).F = some true by unfold wantedV; rw [hN3]))]
      refine .inl (wp_val (C := C) hx ?_)
      obtain ⟨R2, e2⟩ := put_ok R1 h1 hv
      rw [← hN2] at R2
      unfold wpList
      rw [if_pos (wanted_ok R2 (show wantedV #[oN, oX] oX s1.F = some true by unfold wantedV; rw [hX3]))]
      have hs1 : s1.F d9 = x := by
        simp only [St.put] at h1
        cases hb : Nat.blt d9 (stN N L nm vals bs).N with
        | false => rw [hb] at h1; cases h1
        | true => rw [hb] at h1; simp at h1; subst h1; simp [upd]
      have h9 := R2.slots d9
      rw [hs1, hxe] at h9
      obtain ⟨ar, har, hb0⟩ : ∃ ar : Array Value, (a.put oN.dst v).eval (.tmp d9) = .tuple ar ∧ ar[0]? = some (.bool b) := by
        cases h9 with
        | d h9 =>
          generalize hz : (a.put oN.dst v).tmps.getD d9 undef = u at h9
          cases h9 with
          | tup h9 =>
            rename_i ar
            refine ⟨ar, hz, ?_⟩
            generalize hl : ar.toList = l at h9
            cases h9 with
            | cons h0 t =>
              cases h0
              have : ar.toList[0]? = some (.bool b) := by rw [hl]; rfl
              simpa using this
      refine .inl (wp_val (C := C) (v := .bool b) (w' := w1) ?_ ?_)
      · simp [execOp, hX1, har, Instr.extract, hb0]
      · unfold wpList
        obtain ⟨R3, e3⟩ := put_ok R2 h2 (.d (.lit (by simp)) : RepV w1 g1 s1.H (lbool b) (.bool b))
        rw [← hX2] at R3
        refine hk _ R3 (e3.trans e2) ?_
        have : ((a.put oN.dst v).put oX.dst (.bool b)).eval (.tmp d8) = a.eval (.tmp d8) := by
          rw [hN2, hX2]
          simp only [Act.eval, Act.put, Array.getD_eq_getD_getElem?]
          rw [Array.getElem?_setIfInBounds_ne h108, Array.getElem?_setIfInBounds_ne h98]
        rw [this]; exact hp8
    refine wpL_one (wp_seq ?_)
    rcases run_next_at C.P oN.type iw with ⟨h0, hrun⟩ | ⟨e, he, w1, hal, hhp, hrun⟩
    · -- the end
      have hall : ∀ i, i < es.length → i ∈ dn := fun i hi => by
        have hi' : i < ms.toList.length := by omega
        exact (hag i _ (List.getElem?_eq_getElem hi')).1 (all_seen ms seen h0 _ (List.getElem_mem hi'))
      obtain ⟨s1, h1, hk⟩ := go_prop (hend dn vals bs hinv hall).h
      obtain ⟨s2, h2, hN', hk⟩ := go_prop hk
      obtain ⟨⟨vs, bs'⟩, h3, hk⟩ := go_prop hk
      refine step2 (x := .d (.tup [.lit (.bool false)])) (b := false) (xs := []) (v := .tuple #[.bool false]) (w1 := w) (g1 := g) ?_ R (.d (.tup (.cons (.lit (by simp)) .nil))) rfl h1 h2 ?_
      · simp only [execOp, hN1, hp8]; simp [hrun]
      · intro a' R' hH' _
        refine wp_seq (wp_cond_false ?_ ?_)
        · have : s2.F d10 = lbool false := by
            simp only [St.put] at h2
            cases hb : Nat.blt d10 s1.N with
            | false => rw [hb] at h2; cases h2
            | true => rw [hb] at h2; simp at h2; subst h2; simp [upd]
          have h10 := R'.slots d10
          rw [this] at h10
          exact h10.lit_inv
        · refine wp_exit ?_
          have z2 : Z0 k s2.H := by rw [hH']; exact z
          obtain ⟨z3, p⟩ := cut_weak h3 g a' w R' z2
          rw [hN', hX] at z3 p
          exact hq _ _ _ ⟨vs, bs', rfl, hk⟩ z3 (p.after st (by rw [hH']; exact kp))
    · -- an entry
      have hml := mem_left he
      obtain ⟨i, p, hi, hpi, hk1, hk2⟩ := iw.entry hml.1
      have hnd : i ∉ dn := fun h => by have := (hag i e hi).2 h; rw [hml.2] at this; cases this
      obtain ⟨s1, h1, hk⟩ := go_prop (hround dn vals bs i p hinv hnd hpi).h
      obtain ⟨s2, h2, hk⟩ := go_prop hk
      obtain ⟨s3, h3, hk⟩ := go_prop hk
      have hset : setsOne ops3.toList = false := by
        cases hs : setsOne ops3.toList with
        | false => rfl
        | true => rw [hs] at hk; exact hk.elim
      rw [hset] at hk
      simp only [cond_false] at hk
      obtain ⟨s4, h4, hk⟩ := evOpsT_imp hE hk
      obtain ⟨R1, iw1, hst⟩ := iter_set R iw (seen.push e.born) hal hhp
      have hkd := iw1.entry hml.1
      have rk : RepD w1 g.lim p.1 e.key ∧ RepD w1 g.lim p.2 e.val := by
        obtain ⟨j, q, hj, hqj, k1, k2⟩ := iw1.entry hml.1
        have hij : j = i := born_idx iw.st.uniq hj hi
        subst hij
        rw [hqj] at hpi; cases hpi
        exact ⟨k1, k2⟩
      refine step2 (x := .d (.tup [.lit (.bool true), p.1, p.2])) (b := true) (xs := [p.1, p.2]) (v := .tuple #[.bool true, e.key, e.val]) (w1 := w1) (g1 := g) ?_ R1 (.d (.tup (.cons (.lit (by simp)) (.cons rk.1 (.cons rk.2 .nil))))) rfl h1 h2 ?_
      · simp only [execOp, hN1, hp8]; simp [hrun]
      · intro a2 R2 hH2 hp82
        refine wp_seq (wp_cond_true ?_ (wp_skip ?_))
        · have : s2.F d10 = lbool true := by
            simp only [St.put] at h2
            cases hb : Nat.blt d10 s1.N with
            | false => rw [hb] at h2; cases h2
            | true => rw [hb] at h2; simp at h2; subst h2; simp [upd]
          have h10 := R2.slots d10
          rw [this] at h10
          exact h10.lit_inv
        · have z2 : Z0 k s2.H := by rw [hH2]; exact z
          have st2 := hst w0 g0 hit st
          have kp2 : Keep H0 g0 s2.H g := by rw [hH2]; exact kp
          refine wp_block (wp_seq (wp_region_list ?_))
          obtain ⟨g3, R3, st3, kp3⟩ := ageAll_rel ops3.toList R2
          have iw3 := iw1.step st3
          rw [hops]
          unfold wpList
          rw [if_pos (wanted_ok R3 (show wantedV ops3 oE (ageAll s2 ops3.toList).F = some true by unfold wantedV; rw [hE3]))]
          have hent := run_entry_at C.P (e := e) iw3 hml.1
          refine .inl (wp_val (C := C) (v := .tuple #[e.key, e.val]) (w' := w1) (by simp only [execOp, hE1, hp82]; simp [hent]) ?_)
          have rk3 : RepV w1 g3 (ageAll s2 ops3.toList).H (.d (.tup [p.1, p.2])) (.tuple #[e.key, e.val]) := .d (.tup (.cons (rk.1.mono st3.grow) (.cons (rk.2.mono st3.grow) .nil)))
          obtain ⟨R4, e4⟩ := put_ok R3 h3 rk3
          rw [← hE2] at R4
          have h4' : evOps C false cs.call ops3 rest s3 = some s4 := by rw [hops] at h4; exact h4
          refine evOps_list F.ok F.calls F.valid rest R4 h4' fun a5 w5 hp5 => ?_
          obtain ⟨g5, R5, st5, kp5⟩ := hp5
          have zb : Back s2.H s4.H := by
            refine (ageAll_back ops3.toList).trans (Back.trans ?_ (evOps_back (fun K f args H r H' h1 h2 => (F.calls.prim K f args H r H' h1 h2).2) (fun K args H r H' h => (F.valid K args H r H' h).2.2) h4'))
            rw [e4]; exact .rfl'
          have z5 := z2.back zb
          have kp5' : Keep (ageAll s2 ops3.toList).H g3 s4.H g5 := by rw [← e4]; exact kp5
          refine (evCodeT_T F hE tail true _ _ ok hk) g5 a5 w5 _ R5 z5 fun x s' a' w' hx z6 hp6 => ?_
          obtain ⟨g6, R6, st6, kp6⟩ := hp6
          obtain ⟨hN', rfl, hx⟩ := hx
          obtain ⟨⟨vs, bs'⟩, h7, hinv'⟩ := go_prop hx
          obtain ⟨z7, g7, R7, st7, kp7⟩ := cut_weak h7 g6 a' w' R6 z6
          rw [hN', hI] at z7 R7 kp7
          have stA := ((st3.trans st5).trans st6).trans st7
          refine ih (seen.push e.born) (i :: dn) vs bs' g7 a' w' ?_ ?_ hinv' R7 z7 (iw1.step stA) (st2.trans stA) ((kp2.trans kp3).trans ((kp5'.trans kp6).trans kp7))
          · have := left_shrinks ms seen e he; omega
          · intro j e' hj
            rw [contains_push, List.mem_cons, ← hag j e' hj]
            constructor
            · intro h
              cases hc : seen.contains e'.born with
              | true => exact .inr rfl
              | false =>
                rw [hc, Bool.false_or] at h
                have heq : e'.born = e.born := by simpa using h
                have := born_inj iw.st.uniq (List.mem_of_getElem? hj) hml.1 heq
                subst this
                exact .inl (born_idx iw.st.uniq hj hi)
            · rintro (rfl | h)
              · rw [hi] at hj; cases hj; simp
              · rw [h]; rfl
theorem evOps_list_app (ok : CxOk C) (okc : CallsOk C) {call : CallF} (hv : Valid C call) {ops : Array Oper} {Q : Exit → Act → World → Prop} {m : List Oper} {s' : St} :
    ∀ (l : List Oper) {g : G} {s : St} {a : Act} {w : World}, Rel C g s a w → evOps C false call ops l s = some s' → (∀ a' w', Post C g s.H w s' a' w' → wpList C.P ops Q m a' w') → wpList C.P ops Q (l ++ m) a w
  | [], g, s, a, w, R, h, hq => by
    simp [evOps] at h; subst h
    exact hq _ _ ⟨g, R, .refl _ _, .refl _ _⟩
  | o :: l, g, s, a, w, R, h, hq => by
    simp only [evOps] at h
    simp only [List.cons_append]
    unfold wpList
    split at h
    · rename_i hw
      rw [if_pos (wanted_ok R hw)]
      split at h
      · rename_i s1 ho
        refine .inl (evOp_ok ok okc hv R (fun h => by cases h) ho fun a' w' hp => ?_)
        obtain ⟨g1, r1, st, k⟩ := hp
        exact evOps_list_app ok okc hv l r1 h fun a2 w2 hp2 => hq _ _ (hp2.after st k)
      · simp at h
    · rename_i hw
      rw [if_neg (by rw [wanted_ok R hw]; simp)]
      split at h
      · rename_i s1 hp
        obtain ⟨r1, e1⟩ := put_ok R hp repUndef
        refine evOps_list_app ok okc hv l r1 h fun a2 w2 hp2 => hq _ _ ?_
        rw [← e1]; exact hp2
      · simp at h
    · simp at h
theorem mapRange_T (F : Fit2 C cs.call) (hE : Has C tb) {sp : Nat → Option Spec} {hn : Nat → Option Hint} {d7 d8 d9 d10 d11 idX id1 id2 id3 b1 : Nat} {oR oN oX oE : Oper} {pre rest : List Oper} {ops1 ops3 : Array Oper} {tail : Code} {t kt et : TypeId}
    (hops1 : ops1.toList = pre ++ [oR]) (hR1 : oR.op = .range t (.tmp d7)) (hR2 : oR.dst = some d8) (hR3 : oR.guard = none) (hu : C.P.underlying t = some (.map kt et))
    (hops : ops3.toList = oE :: rest) (hN1 : oN.op = .next (.tmp d8) false) (hN2 : oN.dst = some d9) (hN3 : oN.guard = none) (hX1 : oX.op = .extract (.tmp d9) 0) (hX2 : oX.dst = some d10) (hX3 : oX.guard = none)
    (hE1 : oE.op = .entry (.tmp d8)) (hE2 : oE.dst = some d11) (hE3 : oE.guard = none) (h98 : d9 ≠ d8) (h108 : d10 ≠ d8) (ok : SpecT C k sp (specsOf true tail))
    {es : List (D × D)} {N : Nat} {L L' : List Nat} {nm nm' : List Name} {ns0 nsI nsX : List (Name × Name)} (h0 : nmOf ns0 = nm) (hI : nmOf nsI = nm) (hX : nmOf nsX = nm')
    (Inv : Nat → List Nat → List V → List Box → Prop) (Kx : List V → List Box → Prop) {K : X → St → Prop} {s : St} (hKx : ∀ vs bs, Kx vs bs → K .normal (stN N L' nm' vs bs))
    (hF : ∀ it dn vals bs, Inv it dn vals bs → (stN N L nm vals bs).F d8 = itV it)
    (hstart : Kept (go (evOps C false cs.call ops1 pre s) fun s1 => s1.F d7 = .d (.map es) ∧ (s1.N = N ∧ ∀ it, go (s1.put (some d8) (itV it)) fun s2 => go (cutSt k L ns0 s2) fun q => Inv it [] q.1 q.2)))
    (hround : ∀ it dn vals bs (i : Nat) (p : D × D), Inv it dn vals bs → i ∉ dn → es[i]? = some p → Kept (mapRoundT C tb cs k sp hn d9 d10 d11 ops3 tail p.1 p.2 (stN N L nm vals bs) fun x s => s.N = N ∧ (x = .normal ∧ go (cutSt k L nsI s) fun q => Inv it (i :: dn) q.1 q.2)))
    (hend : ∀ it dn vals bs, Inv it dn vals bs → (∀ i, i < es.length → i ∈ dn) →
      Kept (go ((stN N L nm vals bs).put (some d9) (.d (.tup [.lit (.bool false)]))) fun s => go (s.put (some d10) (lbool false)) fun s => s.N = N ∧ go (cutSt k L' nsX s) fun q => Kx q.1 q.2)) :
    T C k (.seq (.region id1 ops1 false) (.block idX (.loop (.seq (.region id2 #[oN, oX] false) (.seq (.cond (.tmp d10) .skip (.exit idX)) (.block b1 (.seq (.region id3 ops3 false) tail))))))) s K := by
  intro g a w Q R z hq
  obtain ⟨s1, h1, hes, hN, hst⟩ := go_prop hstart.h
  have zb : Z0 k s1.H := z.back (evOps_back (fun K f args H r H' h1 h2 => (F.calls.prim K f args H r H' h1 h2).2) (fun K args H r H' h => (F.valid K args H r H' h).2.2) h1)
  refine wp_seq (wp_region_list ?_)
  rw [hops1]
  refine evOps_list_app F.ok F.calls F.valid pre R h1 fun a1 w1 hp => ?_
  obtain ⟨g1, R1, st1, kp1⟩ := hp
  have h7 := R1.slots d7
  rw [hes] at h7
  have h7' : ∃ r ms c, a1.eval (.tmp d7) = .map (some r) ∧ 0 < g1.lim r ∧ w1.heap[r]? = some (.map ms c) ∧ RepDs w1 g1.lim (es.map (·.1)) (ms.toList.map (·.key)) ∧ RepDs w1 g1.lim (es.map (·.2)) (ms.toList.map (·.val)) ∧ Stamps ms c := by
    cases h7 with
    | d h7 =>
      generalize hz : a1.tmps.getD d7 undef = u at h7
      cases h7 with
      | map x1 x2 x3 x4 x5 => exact ⟨_, _, _, hz, x1, x2, x3, x4, x5⟩
  obtain ⟨r, ms, c, hev, hpos, hw, hk, hvl, hstm⟩ := h7'
  unfold wpList
  rw [if_pos (wanted_ok R1 (show wantedV ops1 oR s1.F = some true by unfold wantedV; rw [hR3]))]
  have hrun := run_range_map (P := C.P) w1 t kt et r ms c hu hw
  refine .inl (wp_val (C := C) (v := .pointer (some ⟨w1.heap.size, 0, none⟩)) (w' := w1.alloc (.mapIter (some r) c #[] c)) (by simp only [execOp, hR1, hev]; simp [hrun]) ?_)
  have hE1' := Ext.alloc w1 (.mapIter (some r) c #[] c)
  obtain ⟨R2, st2, nm2⟩ := ext_rel (lim' := g1.lim) R1 hE1' (fun _ _ => rfl) (fun b hb => (R1.heap.fresh b (Nat.le_trans hE1'.size hb)).1)
  obtain ⟨s2, h2, hk2⟩ := go_prop (hst w1.heap.size)
  obtain ⟨⟨vals, bs⟩, h3, hinv⟩ := go_prop hk2
  obtain ⟨R3, e3⟩ := put_ok R2 h2 (.d (.lit (by simp)) : RepV _ _ s1.H (itV w1.heap.size) (.pointer (some ⟨w1.heap.size, 0, none⟩)))
  rw [← hR2] at R3
  have z2 : Z0 k s2.H := by rw [e3]; exact zb
  have hNs : s2.N = N := (put_none h2).trans hN
  obtain ⟨z3, g4, R4, st4, kp4⟩ := cut_weak h3 _ _ _ R3 z2
  rw [hNs, h0] at z3 R4 kp4
  have kp2 : Keep s1.H g1 s2.H ⟨g1.val, g1.lim, g1.owner⟩ := by rw [e3]; exact .of_names nm2
  have iw : IterW w1.heap.size r ms c es #[] ⟨g1.val, g1.lim, g1.owner⟩ (w1.alloc (.mapIter (some r) c #[] c)) :=
    ⟨heap_alloc_new w1 _, (R1.heap.fresh _ (Nat.le_refl _)).2, by rw [heap_alloc_old w1 _ (Array.getElem?_eq_some_iff.1 hw).1]; exact hw, hpos, hk.mono st2.grow, hvl.mono st2.grow, hstm⟩
  unfold wpList
  refine wp_block (wpL_wp ?_)
  refine mapLoop_wp F hE hops hN1 hN2 hN3 hX1 hX2 hX3 hE1 hE2 hE3 h98 h108 ok (es := es) (N := N) (L := L) (L' := L') (nm := nm) (nm' := nm') hI hX (Inv w1.heap.size) Kx (hF _) (hround _) (fun dn vals bs hi hall => hend _ dn vals bs hi hall)
    (w0 := w1) (g0 := g1) (H0 := s1.H) (Nat.le_refl _) ?_ ((leftOf ms #[]).size + 1) #[] [] vals bs g4 _ _ (Nat.lt_succ_self _) (fun i e _ => by simp) hinv R4 z3 (iw.step st4) (st2.trans st4) (kp2.trans kp4)
  rintro s' a' w' ⟨vs, bs', rfl, hk'⟩ zz hp
  have := hq .normal (stN N L' nm' vs bs') a' w' (hKx vs bs' hk') zz (hp.after st1 kp1)
  simpa [toExit, Exit.inBlock] using this
end
theorem evCodeT_K {C : Cx} {tb : Tab} {cs : CS} {k : Nat} (F : Fit2 C cs.call) (hE : Has C tb) {sp : Nat → Option Spec} {hn : Nat → Option Hint} {c : Code} {il : Bool} {s : St} {K : X → St → Prop} (ok : SpecT C k sp (specsOf il c)) (h : Kept (evCodeT C tb cs k sp hn il c s K)) : T C k c s K := evCodeT_T F hE c il s K ok h.h
def endT (k : Nat) (ads : List Ad) (ends : List (List (Name × Name))) (L : List Nat) (R : V → List Box → Prop) (x : X) (s : St) : Prop := match x with
  | .exit _ => False
  | _ => go (adopts ads s) fun s => endsK k L ends s fun vs bs => R (oneOrTup vs) bs
theorem sm_bodyT {B : Cx} {etb : Tab} {stb : STab} (hB : Base B) {K : FuncId} {fn : Func} {cd : Code} {k : Nat} {ads : List Ad} {ends : List (List (Name × Name))} {L : List Nat} (hf : B.P.funcs[K]? = some fn) (hb : fn.body = some cd) (hr : (fn.name == "runtime.NumGoroutine") = false)
    (hL : resTmps fn.results.toList = some L) (hLn : nodupN L = true)
    (hends : ends.all (fun ns => nmOf ns == inNames k ++ newNames ((nmOf ns).length - k)) = true)
    {vals : List V} {bs bs' news : List Box} {r : V} (hk : bs.length = k) (hl : bs'.length = bs.length)
    (hc : T (B.tab etb) k cd ⟨max fn.ntmps vals.length, fun t => (vals[t]?).getD vundef, smIn bs⟩ (endT k ads ends L fun r' bx => r' = r ∧ bx = bs' ++ news)) :
    Enters B.P K ∧ SoundQ B K vals (smIn bs) fun r' H' => r' = r ∧ H' = smOut bs' news := by
  refine ⟨⟨fn, hf, by simpa using hr, by rw [hb]; rfl⟩, ?_⟩
  have key : SoundQ (B.tab etb) K vals (smIn bs) fun r' H' => ∃ ns ∈ ends, ∃ bx, bx.length = (nmOf ns).length ∧ H' = ofL (zipNm (nmOf ns) bx) ∧ (r' = r ∧ bx = bs' ++ news) := by
    refine soundQ_body (k := k) hf hb (smIn_z0 hk) (T_post hc ?_)
    intro x s' hx
    cases x with
    | exit i => exact hx.elim
    | normal =>
      obtain ⟨s1, h1, hx⟩ := go_prop (show go (adopts ads s') _ from hx)
      obtain ⟨ns, hns, vs, bx, hw, h2, h3, h4⟩ := endsK_at (C := B.tab etb) hx
      exact ⟨_, (adopts_weak h1).trans hw, vs, by rw [resTmps_evRes hL]; exact congrArg some (mk_map hLn h2), ns, hns, bx, h3, rfl, h4⟩
    | ret =>
      obtain ⟨s1, h1, hx⟩ := go_prop (show go (adopts ads s') _ from hx)
      obtain ⟨ns, hns, vs, bx, hw, h2, h3, h4⟩ := endsK_at (C := B.tab etb) hx
      exact ⟨_, (adopts_weak h1).trans hw, vs, by rw [resTmps_evRes hL]; exact congrArg some (mk_map hLn h2), ns, hns, bx, h3, rfl, h4⟩
  intro w g vs a b c d
  refine ((key.of (C' := B) rfl rfl) w g vs a b c d).mono ?_
  rintro e w' ⟨v, r', H', g', ⟨ns, hns, bx, hlen, rfl, rfl, rfl⟩, h2⟩
  refine ⟨v, _, _, g', ⟨rfl, ?_⟩, h2⟩
  have hn := List.all_eq_true.1 hends ns hns
  have hn : nmOf ns = inNames k ++ newNames ((nmOf ns).length - k) := by simpa using hn
  have hlen2 : (nmOf ns).length - k = news.length := by
    rw [← hlen]; simp; omega
  rw [hlen2] at hn
  unfold smOut
  rw [hn, zipNm_append (by simp [inNames]; omega)]
  rw [show bs'.length = k by omega]
end Go.Ev
end
section
set_option linter.unusedVariables false
namespace Go.Ev.R2
open Go Go.Proofs Go.Shelf Go.RowKit
theorem size73 : ∃ j, Tryz.prog.info? 73 = some j ∧ j.size ≠ 0 := by
  have h : (match Tryz.prog.info? 73 with | some i => decide (i.size ≠ 0) | none => false) = true := by kernel_rfl
  cases hi : Tryz.prog.info? 73 with
  | none => rw [hi] at h; cases h
  | some i => rw [hi] at h; exact ⟨i, rfl, by simpa using h⟩
set_option maxHeartbeats 1000000 in
set_option maxRecDepth 100000 in
theorem cc_used (b : Nat) (w : World) (h0 : w.cell? ⟨b, 0, none⟩ = some (.pointer (some ⟨b, 0, none⟩))) :
    Calls Tryz.prog 195 #[.pointer (some ⟨b, 0, none⟩)] w fun e w' => e = .returned (.tuple #[]) ∧ w' = w := by
  obtain ⟨j, hj, _⟩ := size73
  go_enter Tryz.func195, Tryz.ntmps195
  go_wp2
  rw [Lib.run_neq_ptr_same w _ Tryz.underlying70 hj]
  go_wp2
  go_end0
  exact ⟨rfl, rfl⟩
set_option maxHeartbeats 1000000 in
set_option maxRecDepth 100000 in
theorem cc_fresh (b T n : Nat) (w : World) (h0 : w.cell? ⟨b, 0, none⟩ = some (.pointer none)) (hsh : w.shape? b = some (T, n)) (hn : 0 < n) (hlies : liesAt Tryz.prog Tryz.prog.depth T (n / Tryz.prog.cellsOf T) 0 73 1 = true) (hfz : w.frozen? ⟨b, 0, none⟩ = false) :
    Calls Tryz.prog 195 #[.pointer (some ⟨b, 0, none⟩)] w fun e w' => e = .returned (.tuple #[]) ∧ w' = w.setCell ⟨b, 0, none⟩ (.pointer (some ⟨b, 0, none⟩)) := by
  obtain ⟨j, hj, hjs⟩ := size73
  go_enter Tryz.func195, Tryz.ntmps195
  go_wp2
  rw [Lib.run_to_unsafe w ⟨b, 0, none⟩ Tryz.underlying70 Tryz.underlying241 hj hjs hsh hn]
  simp only [Result.andThen]
  rw [Oper.upon_value]
  go_wp2
  rw [run_callFunc_extern Tryz.func218 (by kernel_rfl) (by kernel_rfl) (by kernel_rfl) (e := Extern.AbiNoEscape.same) (by kernel_rfl)]
  rw [Lib.run_noEscape]
  simp only [Result.andThen]
  rw [Oper.upon_value]
  go_wp2
  rw [Lib.run_from_unsafe w ⟨b, 0, none⟩ Tryz.underlying241 Tryz.underlying70 hj hsh hlies]
  simp only [Result.andThen]
  rw [Oper.upon_value]
  go_wp2
  go_end0
  exact ⟨rfl, rfl⟩
set_option maxHeartbeats 2000000 in
set_option maxRecDepth 100000 in
theorem str_row (b g cap : Nat) (cur : Array Value) (l : List UInt8) (w : World) (hl : l ≠ []) (h1 : w.cell? ⟨b, 1, none⟩ = some (.slice (some ⟨g, 0, none⟩) l.length cap)) (hc : l.length ≤ cap) (hcm : cap ≤ maxLen)
    (hg : w.heap[g]? = some (.cells cur 5 (0, 0))) (hcur : l.length ≤ cur.size) (hb : ∀ (j : Nat) (x : UInt8), l[j]? = some x → w.cell? ⟨g, j, none⟩ = some (.int .u8 x.toNat)) :
    Calls Tryz.prog 61 #[.pointer (some ⟨b, 0, none⟩)] w fun e w' => e = .returned (.string ⟨l.toArray⟩) ∧ w' = w.drew.freeze ⟨g, 0, none⟩ l.length := by
  have hl0 : l.length ≠ 0 := by simpa using hl
  have c1 : w.drew.cell? ⟨b, 1, none⟩ = some (.slice (some ⟨g, 0, none⟩) l.length cap) := h1
  have hSD : (Builtin.unsafeSliceData_ #[71] 124 #[.slice (some ⟨g, 0, none⟩) l.length cap]).run Tryz.prog w.drew = .ok (.pointer (some ⟨g, 0, none⟩)) w.drew :=
    Lib.run_unsafeSliceData_row _ _ _ _ _ _ (by omega)
  have hUS : (Builtin.unsafeString_ #[124, 3] 9 #[.pointer (some ⟨g, 0, none⟩), .int .i64 l.length]).run Tryz.prog w.drew = .ok (.string ⟨l.toArray⟩) (w.drew.freeze ⟨g, 0, none⟩ l.length) := by
    refine Lib.run_unsafeString_row w.drew 124 3 9 5 Tryz.underlying124 (by kernel_rfl) g cur.size (by have hg' : w.drew.heap[g]? = some (.cells cur 5 (0, 0)) := hg; simp [World.shape?, hg']) l hl hcur (by unfold maxLen at hcm; omega) ?_
    intro j x hx
    have := hb j x hx
    unfold Addr.add
    split
    · subst_vars; exact this
    · simpa using this
  have mixed : Tryz.prog.follows Departure.mixedOrders = true := by kernel_rfl
  go_enter Tryz.func61, Tryz.ntmps61
  go_wp2
  go_region_o
  all_goals (go_wp2; go_ret; exact ⟨rfl, rfl⟩)
set_option maxHeartbeats 2000000 in
set_option maxRecDepth 100000 in
theorem str_nil (b : Nat) (w : World) (h1 : w.cell? ⟨b, 1, none⟩ = some (.slice none 0 0)) :
    Calls Tryz.prog 61 #[.pointer (some ⟨b, 0, none⟩)] w fun e w' => e = .returned (.string ⟨#[]⟩) ∧ w' = w.drew := by
  have hUS : ∀ (W : World) (q : Option Addr), (Builtin.unsafeString_ #[124, 3] 9 #[.pointer q, .int .i64 0]).run Tryz.prog W = .ok (.string .empty) W := fun W q => Lib.run_unsafeString_none W _ _ _ q
  have c1 : w.drew.cell? ⟨b, 1, none⟩ = some (.slice none 0 0) := h1
  have hSD : (Builtin.unsafeSliceData_ #[71] 124 #[.slice none 0 0]).run Tryz.prog w.drew = .ok (.pointer none) w.drew := rfl
  have mixed : Tryz.prog.follows Departure.mixedOrders = true := by kernel_rfl
  go_enter Tryz.func61, Tryz.ntmps61
  go_wp2
  go_region_o
  all_goals (go_wp2; go_ret; exact ⟨rfl, rfl⟩)
end Go.Ev.R2
end
section
namespace Go.Ev
theorem smIn_at {bs : List Box} {i : Nat} {b : Box} (h : bs[i]? = some b) : smIn bs [0, i] = some b := by
  have hlt := (List.getElem?_eq_some_iff.1 h).1
  exact ofL_zipNm_at (by have := nodup_range 0 bs.length; simpa [inNames] using this) (by simp [inNames, hlt]) h
theorem smIn_some {bs : List Box} {n : Name} {b : Box} (h : smIn bs n = some b) : ∃ i : Nat, n = [0, i] ∧ bs[i]? = some b := by
  obtain ⟨i, h1, h2⟩ := ofL_zipNm h
  refine ⟨i, ?_, h2⟩
  have hlt := (List.getElem?_eq_some_iff.1 h2).1
  simp [inNames, hlt] at h1
  exact h1.symm
theorem smIn_set {bs : List Box} {i : Nat} {b : Box} (h : i < bs.length) : smIn (bs.set i b) = (smIn bs).set [0, i] b := by
  funext n
  by_cases hn : n = [0, i]
  · subst hn
    rw [set_same]
    exact smIn_at (by simp [h])
  · rw [set_other _ _ hn]
    cases hs : smIn bs n with
    | some c =>
      obtain ⟨j, rfl, hj⟩ := smIn_some hs
      have hji : i ≠ j := fun e => hn (by rw [e])
      exact smIn_at (by rw [List.getElem?_set_ne hji]; exact hj)
    | none =>
      cases hs2 : smIn (bs.set i b) n with
      | none => rfl
      | some c =>
        obtain ⟨j, rfl, hj⟩ := smIn_some hs2
        have hji : i ≠ j := fun e => hn (by rw [e])
        rw [List.getElem?_set_ne hji] at hj
        rw [smIn_at hj] at hs; cases hs
theorem smOut_nil (bs : List Box) : smOut bs [] = smIn bs := by
  unfold smOut smIn
  simp [newNames, zipNm]
theorem recellV {C : Cx} {w : World} {g : G} {s : St} {n : Name} {u : TypeId} {cs : List V} {i : Nat} {x : V} {a : Act} (R : Rel C g s a w) (hb : s.H n = some (.cells u cs)) (hx : ∀ b c, g.val n = .pointer (some ⟨b, 0, none⟩) → w.heap[b]? = some (.cells c u (0, 0)) → ∀ v, c.toList[i]? = some v → RepV w g s.H x v) :
    Rel C g (s.with (s.H.set n (.cells u (cs.set i x)))) a w ∧ Names s.H g (s.H.set n (.cells u (cs.set i x))) g := by
  have hn : Names s.H g (s.H.set n (.cells u (cs.set i x))) g := fun m q hq => by
    refine ⟨?_, rfl⟩
    by_cases e : m = n
    · subst e; simp [kd, hb, Box.kind] at hq; subst hq; simp [kd, set_same, Box.kind]
    · simpa [kd, set_other _ _ e] using hq
  refine ⟨R.later (.refl _ _) hn ?_, hn⟩
  refine RepH.upd (n0 := n) R.heap (.refl _ _) hn (fun _ _ _ _ ho => ⟨rfl, ho, rfl⟩) (fun m hm => set_other _ _ hm) (fun b hb' => ?_) (fun b hb => R.heap.fresh b hb)
  rw [set_same] at hb'
  cases hb'
  obtain ⟨b, c, h1, h2, h3, h4, h5, h6⟩ := R.heap.box n _ hb
  exact ⟨b, c, h1, h2, RepVs.mono (.refl _ _) hn (h3.set fun v hv => hx b c h1 h2 v hv), h4, h5, h6⟩
theorem rel0 {C : Cx} {w : World} {g : G} {H : Heap} (hH : RepH w g H) (hG : Globs C w g.lim) : Rel C g ⟨0, fun _ => vundef, H⟩ { tmps := #[], defers := [] } w :=
  ⟨rfl, fun t => by simpa using repUndef, hH, hG, rfl⟩
end Go.Ev
namespace Go.Ev.R2
open Go Go.Ev Go.Proofs
set_option maxRecDepth 100000
set_option linter.unusedVariables false
set_option linter.unusedSimpArgs false
theorem storeV_at {C : Cx} {H : Heap} {n m : Name} {off t : Nat} {T : TypeId} {c0 : V} {cs : List V} (hb : H n = some (.cells T (c0 :: cs))) (hs : sizeT C t = some 1) : storeV C H t (.ptr n 0) (.ptr m off) = some (H.set n (.cells T (.ptr m off :: cs))) := by
  simp [storeV, hb, hs, cellyV, V.cells, splice]
  rfl
def okB (T n : Nat) : Bool := (T == 73 && n == 1) || (T == 75 && n == 3)
def s195 : SmB := ⟨fun _ _ => true, fun vals bs => match vals, bs with
  | [.ptr [0, 0] 0], .cells T (c0 :: cs) :: rest => bif okB T cs.length then (match c0 with
    | .d (.lit (.pointer none)) => some (.d (.tup []), .cells T (.ptr [0, 0] 0 :: cs) :: rest, [])
    | .ptr [0, 0] 0 => some (.d (.tup []), .cells T (.ptr [0, 0] 0 :: cs) :: rest, [])
    | .opt [0, 0] 0 => some (.d (.tup []), .cells T (.ptr [0, 0] 0 :: cs) :: rest, [])
    | _ => none) else none
  | _, _ => none⟩
theorem lies75 : liesAt Tryz.prog Tryz.prog.depth 75 (4 / Tryz.prog.cellsOf 75) 0 73 1 = true := by kernel_rfl
theorem lies73 : liesAt Tryz.prog Tryz.prog.depth 73 (2 / Tryz.prog.cellsOf 73) 0 73 1 = true := by kernel_rfl
theorem size70 : sizeT B 70 = some 1 := by kernel_rfl
theorem size70' : ∃ i, Tryz.prog.info? 70 = some i ∧ i.size = 1 := by
  obtain ⟨i, h1, h2⟩ := sizeT_some size70
  exact ⟨i, h1, h2⟩
theorem enters195 : Enters Tryz.prog 195 := by
  have h : (Tryz.f195.name == "runtime.NumGoroutine") = false := by kernel_rfl
  exact ⟨Tryz.f195, Tryz.func195, by simpa using h, by kernel_rfl⟩
theorem enters61 : Enters Tryz.prog 61 := by
  have h : (Tryz.f61.name == "runtime.NumGoroutine") = false := by kernel_rfl
  exact ⟨Tryz.f61, Tryz.func61, by simpa using h, by kernel_rfl⟩
theorem store_ptr {w : World} {b : Nat} {p : Addr} (h0 : ∃ v, w.cell? ⟨b, 0, none⟩ = some v) (hfz : w.frozen? ⟨b, 0, none⟩ = false) : (Instr.storeAt 70 (.pointer (some ⟨b, 0, none⟩)) (.pointer (some p))).run Tryz.prog w = .ok () (w.setCell ⟨b, 0, none⟩ (.pointer (some p))) := by
  obtain ⟨i, h1, h2⟩ := size70'
  obtain ⟨v, hv⟩ := h0
  have hs := run_store Tryz.prog w ⟨b, 0, none⟩ (.pointer (some p)) .plain rfl
  rw [hv] at hs
  simp only [hfz, Bool.false_eq_true, if_false] at hs
  simp [Instr.storeAt, Instr.sureAddr, storeVar, run_size _ w h1, h2, storeCells, Addr.add, Value.cells, hs]
theorem args1 {w : World} {g : G} {H : Heap} {vs : Array Value} {n : Name} {b : Nat} (hr : RepVs w g H [.ptr n 0] vs.toList) (hval : g.val n = .pointer (some ⟨b, 0, none⟩)) : vs = #[.pointer (some ⟨b, 0, none⟩)] := by
  obtain ⟨vs⟩ := vs
  cases hr with
  | cons h t =>
    cases t
    cases h with
    | ptr _ => rw [hval]; rfl
theorem ok195 : ∀ vals bs r bs' news, s195.pre vals bs = true → s195.f vals bs = some (r, bs', news) → Enters B.P 195 ∧ SoundQ B 195 vals (smIn bs) fun r' H' => r' = r ∧ H' = smOut bs' news := by
  intro vals bs r bs' news _ hf
  refine ⟨enters195, fun w g vs hH hG hr hz => ?_⟩
  unfold s195 at hf
  simp only [] at hf
  split at hf
  case h_2 => cases hf
  rename_i T c0 cs rest hpre
  cases hT : okB T cs.length with
  | false => rw [hT] at hf; cases hf
  | true =>
    rw [hT] at hf
    simp only [cond_true] at hf
    have hbox := smIn_at (bs := .cells T (c0 :: cs) :: rest) (i := 0) rfl
    obtain ⟨b, c, hval, hw, hcs, hfl, hlim, how⟩ := hH.box _ _ hbox
    have hvs := args1 hr hval
    subst hvs
    have hsz : c.size = cs.length + 1 := by have := hcs.length; simp at this; omega
    have hsh : w.shape? b = some (T, c.size) := by simp [World.shape?, hw]
    have hfz : w.frozen? ⟨b, 0, none⟩ = false := by simp [World.frozen?, hw]
    have hlies : liesAt Tryz.prog Tryz.prog.depth T (c.size / Tryz.prog.cellsOf T) 0 73 1 = true := by
      rw [hsz]
      unfold okB at hT
      simp only [Bool.or_eq_true, Bool.and_eq_true, beq_iff_eq] at hT
      rcases hT with ⟨rfl, h⟩ | ⟨rfl, h⟩
      · rw [h]; exact lies73
      · rw [h]; exact lies75
    have hc0 : ∃ v, c.toList[0]? = some v ∧ RepV w g (smIn (.cells T (c0 :: cs) :: rest)) c0 v := by
      have := hcs.get (i := 0) (x := c0) rfl
      exact this
    obtain ⟨v0, hv0, hr0⟩ := hc0
    have hcell : w.cell? ⟨b, 0, none⟩ = some v0 := by simp [World.cell?, hw]; simpa using hv0
    have hset : smIn (.cells T (.ptr [0, 0] 0 :: cs) :: rest) = (smIn (.cells T (c0 :: cs) :: rest)).set [0, 0] (.cells T (.ptr [0, 0] 0 :: cs)) := smIn_set (bs := .cells T (c0 :: cs) :: rest) (i := 0) (by simp)
    have hres : r = .d (.tup []) ∧ bs' = .cells T (.ptr [0, 0] 0 :: cs) :: rest ∧ news = [] := by
      split at hf
      · simp only [Option.some.injEq, Prod.mk.injEq] at hf; exact ⟨hf.1.symm, hf.2.1.symm, hf.2.2.symm⟩
      · simp only [Option.some.injEq, Prod.mk.injEq] at hf; exact ⟨hf.1.symm, hf.2.1.symm, hf.2.2.symm⟩
      · simp only [Option.some.injEq, Prod.mk.injEq] at hf; exact ⟨hf.1.symm, hf.2.1.symm, hf.2.2.symm⟩
      · cases hf
    have hv : v0 = .pointer none ∨ v0 = .pointer (some ⟨b, 0, none⟩) := by
      split at hf
      · exact .inl hr0.lit_inv
      · right; cases hr0 with
        | ptr _ => rw [hval]; rfl
      · cases hr0 with
        | opt _ h => rcases h with h | h
                     · exact .inl h
                     · right; rw [h, hval]; rfl
      · cases hf
    clear hf
    obtain ⟨rfl, rfl, rfl⟩ := hres
    have hp : RepV w g (smIn (.cells T (c0 :: cs) :: rest)) (.ptr [0, 0] 0) (.pointer (some ⟨b, 0, none⟩)) := by
      have : RepV w g (smIn (.cells T (c0 :: cs) :: rest)) (.ptr [0, 0] 0) (ptrAt (g.val [0, 0]) 0) := .ptr (by simp [kd, hbox, Box.kind])
      rw [hval] at this; exact this
    rcases hv with rfl | rfl
    · -- fresh
      refine (cc_fresh b T c.size w hcell hsh (by omega) hlies hfz).mono ?_
      rintro e w' ⟨rfl, rfl⟩
      obtain ⟨w2, hrun, g', R', st, nm⟩ := store_post (C := B) (rel0 hH hG) (storeV_at hbox size70) hp hp
      have hrun2 := store_ptr (w := w) (b := b) (p := ⟨b, 0, none⟩) ⟨_, hcell⟩ hfz
      have hrun' : (Instr.storeAt 70 (.pointer (some ⟨b, 0, none⟩)) (.pointer (some ⟨b, 0, none⟩))).run Tryz.prog w = .ok () w2 := hrun
      rw [hrun2] at hrun'
      cases hrun'
      refine ⟨_, _, _, g', ⟨rfl, rfl⟩, rfl, .d (.tup .nil), ?_, st, ?_⟩
      · rw [smOut_nil, hset]; exact R'.heap
      · rw [smOut_nil, hset]; exact .of_names nm
    · -- used
      refine (cc_used b w hcell).mono ?_
      rintro e w' ⟨rfl, rfl⟩
      obtain ⟨R', nm⟩ := recellV (C := B) (i := 0) (x := .ptr [0, 0] 0) (rel0 hH hG) hbox (fun b' c' hval' hw' v hv => by
        rw [hval] at hval'
        cases hval'
        rw [hw] at hw'
        cases hw'
        rw [hv0] at hv
        cases hv
        exact hp)
      exact ⟨_, _, _, g, ⟨rfl, rfl⟩, rfl, .d (.tup .nil), by rw [smOut_nil, hset]; exact R'.heap, .refl _ _, by rw [smOut_nil, hset]; exact .of_names nm⟩
def byteB : D → Bool
  | .lit (.int .u8 n) => decide (0 ≤ n) && decide (n < 256)
  | _ => false
def s61 : SmB := ⟨fun _ _ => true, fun vals bs => match vals, bs with
  | [.ptr [0, 0] 0], .cells T (c0 :: .d (.slice true z []) :: cs) :: rest => some (.d (.lit (.string ⟨#[]⟩)), .cells T (c0 :: .d (.slice true z []) :: cs) :: rest, [])
  | [.ptr [0, 0] 0], .cells T (c0 :: .ref [0, 1] :: cs) :: .arr live nil 5 1 xs [] :: rest =>
    bif live && xs.all byteB then (bif nil then (bif xs.isEmpty then some (.d (.lit (.string ⟨#[]⟩)), .cells T (c0 :: .ref [0, 1] :: cs) :: .arr live nil 5 1 xs [] :: rest, []) else none)
      else bif xs.isEmpty then none else (match unbytes xs with
        | some l => some (.d (.lit (.string ⟨l.toArray⟩)), .cells T (c0 :: .ref [0, 1] :: cs) :: .arr false false 5 1 xs [] :: rest, [])
        | none => none)) else none
  | _, _ => none⟩
theorem freeze_cell (w : World) (b n : Nat) (x : Addr) : (w.freeze ⟨b, 0, none⟩ n).cell? x = w.cell? x := by
  unfold World.freeze
  split
  · rfl
  · unfold World.cell?
    simp only [Array.getElem?_modify]
    by_cases h : b = x.block
    · rw [if_pos h]
      cases w.heap[x.block]? with
      | none => rfl
      | some o => cases o <;> rfl
    · rw [if_neg h]
theorem freeze_other (w : World) {b n k : Nat} (h : k ≠ b) : (w.freeze ⟨b, 0, none⟩ n).heap[k]? = w.heap[k]? := by
  unfold World.freeze
  split
  · rfl
  · simp only [Array.getElem?_modify]
    rw [if_neg (Ne.symm h)]
theorem freeze_same (w : World) {b n : Nat} {c : Array Value} {t : TypeId} {m : Nat × Nat} (h : w.heap[b]? = some (.cells c t m)) : ∃ m', (w.freeze ⟨b, 0, none⟩ n).heap[b]? = some (.cells c t m') := by
  unfold World.freeze
  split
  · exact ⟨m, h⟩
  · simp only [Array.getElem?_modify, if_true, h]
    exact ⟨_, rfl⟩
theorem freeze_world (w : World) (b n : Nat) : (w.freeze ⟨b, 0, none⟩ n).os = w.os ∧ (w.freeze ⟨b, 0, none⟩ n).tape = w.tape ∧ (w.freeze ⟨b, 0, none⟩ n).output = w.output ∧ (w.freeze ⟨b, 0, none⟩ n).heap.size = w.heap.size := by
  unfold World.freeze
  split
  · exact ⟨rfl, rfl, rfl, rfl⟩
  · exact ⟨rfl, rfl, rfl, by simp⟩
theorem bytes_of {w : World} {lim : Nat → Nat} : ∀ {xs : List D} {vs : List Value} {l : List UInt8}, xs.all byteB = true → unbytes xs = some l → RepDs w lim (flats xs) vs → vs = l.map fun c => .int .u8 c.toNat
  | [], vs, l, _, h, hr => by
    simp only [unbytes, Option.some.injEq] at h; subst h
    simp only [flats, List.flatMap_nil] at hr
    cases hr; rfl
  | x :: xs, vs, l, hb, h, hr => by
    simp only [List.all_cons, Bool.and_eq_true] at hb
    obtain ⟨hb1, hb2⟩ := hb
    unfold byteB at hb1
    split at hb1
    · rename_i n
      simp only [unbytes] at h
      split at h
      · rename_i l' hl
        simp only [Option.some.injEq] at h
        subst h
        have hr' : RepDs w lim (.lit (.int .u8 n) :: flats xs) vs := hr
        cases hr' with
        | cons h0 t =>
          have ih := bytes_of hb2 hl t
          subst ih
          cases h0
          simp only [Bool.and_eq_true, decide_eq_true_eq] at hb1
          simp only [List.map_cons]
          congr 2
          have : (UInt8.ofNat n.toNat).toNat = n.toNat := by rw [UInt8.toNat_ofNat']; omega
          rw [this]; omega
      · cases h
    · cases hb1
theorem ok61 : ∀ vals bs r bs' news, s61.pre vals bs = true → s61.f vals bs = some (r, bs', news) → Enters B.P 61 ∧ SoundQ B 61 vals (smIn bs) fun r' H' => r' = r ∧ H' = smOut bs' news := by
  intro vals bs r bs' news hpre hf
  refine ⟨enters61, fun w g vs hH hG hr hz => ?_⟩
  clear hpre
  unfold s61 at hf
  simp only [] at hf
  split at hf
  · -- a nil slice
    rename_i T c0 z cs rest
    simp only [Option.some.injEq, Prod.mk.injEq] at hf
    obtain ⟨rfl, rfl, rfl⟩ := hf
    have hbox := smIn_at (bs := .cells T (c0 :: .d (.slice true z []) :: cs) :: rest) (i := 0) rfl
    obtain ⟨b, c, hval, hw, hcs, hfl, hlim, how⟩ := hH.box _ _ hbox
    have hvs := args1 hr hval
    subst hvs
    obtain ⟨v1, hv1, hr1⟩ := hcs.get (i := 1) rfl
    have hv1' : v1 = .slice none 0 0 := by cases hr1 with | d h => cases h; rfl
    subst hv1'
    have hcell : w.cell? ⟨b, 1, none⟩ = some (.slice none 0 0) := by simp [World.cell?, hw]; simpa using hv1
    refine (str_nil b w hcell).mono ?_
    rintro e w' ⟨rfl, rfl⟩
    obtain ⟨R, st, nm⟩ := ext_rel (C := B) (w' := w.drew) (lim' := g.lim) (rel0 hH hG) ⟨rfl, rfl, rfl, Nat.le_refl _, fun _ _ => rfl⟩ (fun _ _ => rfl) (fun b hb => (hH.fresh b hb).1)
    exact ⟨_, _, _, _, ⟨rfl, rfl⟩, rfl, .d (.lit (by simp)), by rw [smOut_nil]; exact R.heap, st, by rw [smOut_nil]; exact .of_names nm⟩
  · -- a row
    rename_i T c0 cs live nil xs rest
    cases hg : (live && xs.all byteB) with
    | false => rw [hg] at hf; cases hf
    | true =>
      rw [hg] at hf
      simp only [Bool.and_eq_true] at hg
      obtain ⟨rfl, hby⟩ := hg
      simp only [cond_true] at hf
      have hbox := smIn_at (bs := .cells T (c0 :: .ref [0, 1] :: cs) :: .arr true nil 5 1 xs [] :: rest) (i := 0) rfl
      have hbox1 := smIn_at (bs := .cells T (c0 :: .ref [0, 1] :: cs) :: .arr true nil 5 1 xs [] :: rest) (i := 1) rfl
      obtain ⟨b, c, hval, hw, hcs, hfl, hlim, how⟩ := hH.box _ _ hbox
      have hvs := args1 hr hval
      subst hvs
      obtain ⟨v1, hv1, hr1⟩ := hcs.get (i := 1) rfl
      have hv1' : v1 = g.val [0, 1] := by cases hr1; rfl
      subst hv1'
      have hcell : w.cell? ⟨b, 1, none⟩ = some (g.val [0, 1]) := by simp [World.cell?, hw]; simpa using hv1
      obtain ⟨vs, us, q1, q2, q3, q4, q5, q6, q7, q8⟩ := hH.box _ _ hbox1
      cases nil with
      | true =>
        simp only [cond_true] at hf
        cases he : xs.isEmpty with
        | false => rw [he] at hf; cases hf
        | true =>
          rw [he] at hf
          simp only [cond_true, Option.some.injEq, Prod.mk.injEq] at hf
          obtain ⟨rfl, rfl, rfl⟩ := hf
          rw [q5.1 rfl] at hcell
          refine (str_nil b w hcell).mono ?_
          rintro e w' ⟨rfl, rfl⟩
          obtain ⟨R, st, nm⟩ := ext_rel (C := B) (w' := w.drew) (lim' := g.lim) (rel0 hH hG) ⟨rfl, rfl, rfl, Nat.le_refl _, fun _ _ => rfl⟩ (fun _ _ => rfl) (fun b hb => (hH.fresh b hb).1)
          exact ⟨_, _, _, _, ⟨rfl, rfl⟩, rfl, .d (.lit (by simp)), by rw [smOut_nil]; exact R.heap, st, by rw [smOut_nil]; exact .of_names nm⟩
      | false =>
        simp only [cond_false] at hf
        cases he : xs.isEmpty with
        | true => rw [he] at hf; cases hf
        | false =>
          rw [he] at hf
          simp only [cond_false] at hf
          cases hu : unbytes xs with
          | none => rw [hu] at hf; cases hf
          | some l =>
            rw [hu] at hf
            simp only [Option.some.injEq, Prod.mk.injEq] at hf
            obtain ⟨rfl, rfl, rfl⟩ := hf
            have hus : us = [] := by simp [flats] at q2; cases q2; rfl
            subst hus
            have hvs := bytes_of hby hu q1
            have hvl : vs.length = xs.length := by
              rw [← q1.length, flats_length (sz := 1) (fun x hx => q4 x (by simp [hx]))]; omega
            have hll : l.length = xs.length := by rw [← hvl, hvs]; simp
            have hne : l ≠ [] := by
              rintro rfl
              simp at hll
              have : xs = [] := List.length_eq_zero_iff.1 hll.symm
              subst this; simp at he
            obtain ⟨hown, hob⟩ := q7 rfl
            rcases hown.2 with ⟨hv, _⟩ | ⟨gb, cap, cur, hv, _, hwg, hn, hm, hs, ht⟩
            · have := q5.2 hv; cases this
            · obtain ⟨ho1, ho2⟩ := hob gb (by rw [hv]; rfl)
              have hcells := hown.cells (g := gb) (by rw [hv]; rfl)
              have hread : ∀ (j : Nat) v, vs[j]? = some v → w.cell? ⟨gb, j, none⟩ = some v := fun j v hj => by
                have := hcells j v (by simpa using hj)
                unfold Addr.add at this
                split at this
                · subst_vars; exact this
                · simpa using this
              rw [hv] at hcell
              simp only [List.length_nil, Nat.add_zero] at hcell hn hs
              rw [← hll] at hcell hn
              refine (str_row b gb cap cur l w hne hcell hn hm hwg (by rw [hs]; omega) (fun j x hj => hread j _ (by rw [hvs]; simp [hj]))).mono ?_
              rintro e w' ⟨rfl, rfl⟩
              have hother : ∀ k, k ≠ gb → (w.drew.freeze ⟨gb, 0, none⟩ l.length).heap[k]? = w.heap[k]? := fun k hk => freeze_other w.drew hk
              obtain ⟨m', hsame⟩ := freeze_same w.drew (n := l.length) (b := gb) (c := cur) (t := 5) (m := (0, 0)) hwg
              obtain ⟨f1, f2, f3, f4⟩ := freeze_world w.drew gb l.length
              have hgr : Grow w g.lim (w.drew.freeze ⟨gb, 0, none⟩ l.length) g.lim := ⟨fun _ => Nat.le_refl _, fun b o _ => freeze_cell w.drew gb l.length _, fun b ms cc hb hm => by
                have : b ≠ gb := fun e => by subst e; rw [hwg] at hm; cases hm
                rw [hother b this]; exact hm, fun b cc tt mm hb hm => by
                by_cases e : b = gb
                · subst e; rw [hwg] at hm; cases hm; exact ⟨_, _, hsame, rfl⟩
                · exact ⟨_, _, by rw [hother b e]; exact hm, rfl⟩⟩
              have hset : smIn (.cells T (c0 :: .ref [0, 1] :: cs) :: .arr false false 5 1 xs [] :: rest) = (smIn (.cells T (c0 :: .ref [0, 1] :: cs) :: .arr true false 5 1 xs [] :: rest)).set [0, 1] (.arr false false 5 1 xs []) :=
                smIn_set (bs := .cells T (c0 :: .ref [0, 1] :: cs) :: .arr true false 5 1 xs [] :: rest) (i := 1) (by simp)
              have hnm : Names (smIn (.cells T (c0 :: .ref [0, 1] :: cs) :: .arr true false 5 1 xs [] :: rest)) g ((smIn (.cells T (c0 :: .ref [0, 1] :: cs) :: .arr true false 5 1 xs [] :: rest)).set [0, 1] (.arr false false 5 1 xs [])) g := fun n k hk => by
                refine ⟨?_, rfl⟩
                by_cases e : n = [0, 1]
                · subst e
                  simp only [kd, hbox1, Option.map_some, Box.kind] at hk
                  simpa [kd, set_same, Box.kind] using hk
                · simpa [kd, set_other _ _ e] using hk
              have hH' : RepH (w.drew.freeze ⟨gb, 0, none⟩ l.length) g ((smIn (.cells T (c0 :: .ref [0, 1] :: cs) :: .arr true false 5 1 xs [] :: rest)).set [0, 1] (.arr false false 5 1 xs [])) := by
                refine RepH.upd (n0 := [0, 1]) hH hgr hnm (fun n k hn _ ho => ?_) (fun n hn => set_other _ _ hn) (fun b' hb' => ?_) (fun b hb => hH.fresh b (by have h4 : (w.drew.freeze ⟨gb, 0, none⟩ l.length).heap.size = w.heap.size := f4; omega))
                · have hk : k ≠ gb := fun e => by subst e; rw [ho1] at ho; cases ho; exact hn rfl
                  exact ⟨hother k hk, ho, rfl⟩
                · rw [set_same] at hb'; cases hb'
                  refine ⟨vs, [], q1.mono hgr, .nil, q3, q4, q5, q6, by simp, fun _ => ⟨rfl, .inr ⟨⟨gb, 0, none⟩, cap, ?_, by omega, rfl, fun i v hi => ⟨?_, ?_⟩⟩⟩⟩
                  · rw [hv]; simp
                  · show 0 + i < g.lim gb
                    have := (List.getElem?_eq_some_iff.1 hi).1
                    omega
                  · show (w.drew.freeze _ _).cell? ⟨gb, 0 + i, none⟩ = _
                    rw [freeze_cell, Nat.zero_add]
                    exact hread i v hi
              refine ⟨_, _, _, g, ⟨rfl, rfl⟩, rfl, .d (.lit (by simp)), ?_, ⟨f1, f2, f3, Nat.le_of_eq f4.symm, fun k hk ho => ⟨hother k (fun e => by subst e; rw [ho1] at ho; cases ho), rfl, ho⟩, hgr⟩, ?_⟩
              · rw [smOut_nil, hset]; exact hH'
              · rw [smOut_nil, hset]; exact .of_names hnm
  · cases hf
end Go.Ev.R2
end
