/- What the proofs of the lexer's laws share, part 5 of 14. -/
import Derived.Test.YtnnhlphbfpnaaaaGreatDoorF4
set_option linter.unusedVariables false
set_option linter.unusedSimpArgs false
section
namespace Go.Ev.R2
open Go Go.Ev Go.Proofs
set_option maxRecDepth 100000
def c262 : Ct := ⟨fun ds => match ds with | [.lit (.string _), .lit (.int .u8 c)] => 0 ≤ c ∧ c < 256 | _ => False, fun | [.lit (.string s), .lit (.int .u8 c)] => some (.lit (.int .i64 (Lib.indexByte s.data.toList c.toNat.toUInt8))) | _ => none⟩
def T262 : Tab := T260.add 262 c262
def specialS : ByteArray := ⟨#[46,91,93,40,41,124,42,43,63,92]⟩
def specialB (c : Int) : Bool := decide (Lib.indexByte specialS.data.toList c.toNat.toUInt8 ≥ 0)
mutual
def atomR (s : ByteArray) (i : Nat) : Bool × Nat :=
 if h : i < s.size then
  (if byteAt s i = 40 then (if (choiceR s (i + 1)).1 then (if skipB s (choiceR s (i + 1)).2 41 then (true, (choiceR s (i + 1)).2 + 1) else (false, (choiceR s (i + 1)).2)) else (false, (choiceR s (i + 1)).2))
  else if byteAt s i = 91 then ((brS s ((i + 1 : Nat) : Int)).1, (brS s ((i + 1 : Nat) : Int)).2.toNat)
  else if byteAt s i = 46 then (true, i + 1)
  else if byteAt s i = 92 then (if escOk s ((i + 1 : Nat) : Int) then (true, i + 1 + 1) else (false, (escAt s ((i + 1 : Nat) : Int)).toNat))
  else (!specialB (byteAt s i), i + 1))
 else (false, i)
termination_by (s.size - i) * 4
def factorR (s : ByteArray) (i : Nat) : Bool × Nat :=
 if (atomR s i).1 then (if skipB s (atomR s i).2 42 || (skipB s (atomR s i).2 43 || skipB s (atomR s i).2 63) then (true, (atomR s i).2 + 1) else (true, (atomR s i).2)) else (false, (atomR s i).2)
termination_by (s.size - i) * 4 + 1
def seqR (s : ByteArray) (i : Nat) : Bool × Nat :=
 if h : i < s.size then
  (if byteAt s i = 124 ∨ byteAt s i = 41 then (true, i)
  else if (factorR s i).1 then (if h2 : i < (factorR s i).2 then seqR s (factorR s i).2 else (false, i)) else (false, (factorR s i).2))
 else (true, i)
termination_by (s.size - i) * 4 + 2
def choiceR (s : ByteArray) (i : Nat) : Bool × Nat :=
 if (seqR s i).1 then (if skipB s (seqR s i).2 124 then (if h2 : i ≤ (seqR s i).2 ∧ (seqR s i).2 < s.size then choiceR s ((seqR s i).2 + 1) else (false, i)) else (true, (seqR s i).2)) else (false, (seqR s i).2)
termination_by (s.size - i) * 4 + 3
end
def gram (f : ByteArray → Nat → Bool × Nat) : Sm := ⟨fun _ bs => posP bs, fun vals bs => match vals, bs with
 | [.ptr [0, 0] 0], [.cells 213 [.d (.lit (.string s)), .d (.lit (.int .i64 i))]] => one (.d (.tup [.any, .lit (.bool (f s i.toNat).1)])) [psB s (f s i.toNat).2] []
 | _, _ => none⟩
def grp : List (FuncId × Sm) := [(247, gram atomR), (232, gram factorR), (214, gram seqR), (192, gram choiceR)]
def rankG (K : FuncId) : Nat := bif K == 247 then 0 else bif K == 232 then 1 else bif K == 214 then 2 else 3
def muG (K : FuncId) (_ : List V) (bs : List Box) : Nat := match bs with
 | [.cells _ [.d (.lit (.string s)), .d (.lit (.int _ i))]] => (s.size - i.toNat) * 4 + rankG K
 | _ => 0
def UG (n : Nat) : STab := U258.addG (belowG grp muG n)
theorem w247 (n : Nat) (s : ByteArray) (i : Int) (R : V → List Box → Prop) : (evBodyS (Cn T262) T262 (smCS (UG n)) 1 noSp noHn [Ad.flat 2] e00 247 [V.ptr [0, 0] 0] (smIn [psB s i]) R) =
  (s231.pre [V.ptr [0, 0] 0] [Box.cells 213 [V.d (D.lit (Value.string s)), V.d (D.lit (Value.int IntKind.i64 i))]] ∧
  (bif i == (↑s.size : Int) then
   R (V.d (D.tup [D.any, D.lit (Value.bool false)]))
  [Box.cells 213 [V.d (D.lit (Value.string s)), V.d (D.lit (Value.int IntKind.i64 i))]] else
   (bif byteAt s i.toNat == 40 then
    (((192, gram choiceR).snd.below (muG (192, gram choiceR).fst) n).pre [V.ptr [0, 0] 0]
  [Box.cells 213 [V.d (D.lit (Value.string s)), V.d (D.lit (Value.int IntKind.i64 (IntKind.i64.wrap (i + 1))))]] ∧
    (bif !(choiceR s (IntKind.i64.wrap (i + 1)).toNat).fst then
     R (V.d (D.tup [D.any, D.lit (Value.bool false)]))
  [Box.cells 213
      [V.d (D.lit (Value.string s)),
        V.d (D.lit (Value.int IntKind.i64 (↑(choiceR s (IntKind.i64.wrap (i + 1)).toNat).snd : Int)))]] else
     (s215.pre [V.ptr [0, 0] 0, V.d (D.lit (Value.int IntKind.u8 41))]
  [Box.cells 213
      [V.d (D.lit (Value.string s)),
        V.d (D.lit (Value.int IntKind.i64 (↑(choiceR s (IntKind.i64.wrap (i + 1)).toNat).snd : Int)))]] ∧
     (bif skipB s (↑(choiceR s (IntKind.i64.wrap (i + 1)).toNat).snd : Int) 41 then
      R (V.d (D.tup [D.any, D.lit (Value.bool true)]))
  [Box.cells 213
      [V.d (D.lit (Value.string s)),
        V.d (D.lit (Value.int IntKind.i64 ((↑(choiceR s (IntKind.i64.wrap (i + 1)).toNat).snd : Int) + 1)))]] else
      R (V.d (D.tup [D.any, D.lit (Value.bool false)]))
  [Box.cells 213
      [V.d (D.lit (Value.string s)),
        V.d (D.lit (Value.int IntKind.i64 (↑(choiceR s (IntKind.i64.wrap (i + 1)).toNat).snd : Int)))]])))) else
    (bif byteAt s i.toNat == 91 then
     (s258.pre [V.ptr [0, 0] 0]
  [Box.cells 213 [V.d (D.lit (Value.string s)), V.d (D.lit (Value.int IntKind.i64 (IntKind.i64.wrap (i + 1))))]] ∧
     R (V.d (D.tup [D.any, D.lit (Value.bool (brS s (IntKind.i64.wrap (i + 1))).fst)]))
  [Box.cells 213
      [V.d (D.lit (Value.string s)), V.d (D.lit (Value.int IntKind.i64 (brS s (IntKind.i64.wrap (i + 1))).snd))]]) else
     (bif byteAt s i.toNat == 46 then
      (s259.pre [V.fn (Fn.func 260) [] []] [] ∧
      R (V.d (D.tup [D.any, D.lit (Value.bool true)]))
  [Box.cells 213 [V.d (D.lit (Value.string s)), V.d (D.lit (Value.int IntKind.i64 (IntKind.i64.wrap (i + 1))))]]) else
      (bif byteAt s i.toNat == 92 then
       (s261.pre [V.ptr [0, 0] 0]
  [Box.cells 213 [V.d (D.lit (Value.string s)), V.d (D.lit (Value.int IntKind.i64 (IntKind.i64.wrap (i + 1))))]] ∧
       (bif escOk s (IntKind.i64.wrap (i + 1)) then
        R (V.d (D.tup [D.any, D.lit (Value.bool true)]))
  [Box.cells 213 [V.d (D.lit (Value.string s)), V.d (D.lit (Value.int IntKind.i64 (IntKind.i64.wrap (i + 1) + 1)))]] else
        R (V.d (D.tup [D.any, D.lit (Value.bool false)]))
  [Box.cells 213
      [V.d (D.lit (Value.string s)), V.d (D.lit (Value.int IntKind.i64 (escAt s (IntKind.i64.wrap (i + 1)))))]])) else
       ((((0 : Int) ≤ byteAt s i.toNat) ∧ ((byteAt s i.toNat : Int) < 256)) ∧
       (bif decide
  (Lib.indexByte (ByteArray.mk #[46, 91, 93, 40, 41, 124, 42, 43, 63, 92]).data.toList
      (byteAt s i.toNat).toNat.toUInt8 ≥
    0) then
        R (V.d (D.tup [D.any, D.lit (Value.bool false)]))
  [Box.cells 213 [V.d (D.lit (Value.string s)), V.d (D.lit (Value.int IntKind.i64 (IntKind.i64.wrap (i + 1))))]] else
        (s263.pre [V.d (D.lit (Value.int IntKind.u8 (byteAt s i.toNat)))] [] ∧
        R (V.d (D.tup [D.any, D.lit (Value.bool true)]))
  [Box.cells 213 [V.d (D.lit (Value.string s)), V.d (D.lit (Value.int IntKind.i64 (IntKind.i64.wrap (i + 1))))]]))))))))) := by kernel_rfl
theorem w232 (n : Nat) (s : ByteArray) (i : Int) (R : V → List Box → Prop) : (evBodyS (Cn T262) T262 (smCS (UG n)) 1 noSp noHn [Ad.flat 2] e00 232 [V.ptr [0, 0] 0] (smIn [psB s i]) R) =
 (((247, gram atomR).snd.below (muG (247, gram atomR).fst) n).pre [V.ptr [0, 0] 0]
 [Box.cells 213 [V.d (D.lit (Value.string s)), V.d (D.lit (Value.int IntKind.i64 i))]] ∧
 (bif !(atomR s i.toNat).fst then
 R (V.d (D.tup [D.any, D.lit (Value.bool false)]))
 [Box.cells 213 [V.d (D.lit (Value.string s)), V.d (D.lit (Value.int IntKind.i64 (↑(atomR s i.toNat).snd : Int)))]] else
 (s215.pre [V.ptr [0, 0] 0, V.d (D.lit (Value.int IntKind.u8 42))]
 [Box.cells 213 [V.d (D.lit (Value.string s)), V.d (D.lit (Value.int IntKind.i64 (↑(atomR s i.toNat).snd : Int)))]] ∧
 (bif skipB s (↑(atomR s i.toNat).snd : Int) 42 then
 R (V.d (D.tup [D.any, D.lit (Value.bool true)]))
 [Box.cells 213
 [V.d (D.lit (Value.string s)), V.d (D.lit (Value.int IntKind.i64 ((↑(atomR s i.toNat).snd : Int) + 1)))]] else
 (s215.pre [V.ptr [0, 0] 0, V.d (D.lit (Value.int IntKind.u8 43))]
 [Box.cells 213 [V.d (D.lit (Value.string s)), V.d (D.lit (Value.int IntKind.i64 (↑(atomR s i.toNat).snd : Int)))]] ∧
 (bif skipB s (↑(atomR s i.toNat).snd : Int) 43 then
 R (V.d (D.tup [D.any, D.lit (Value.bool true)]))
 [Box.cells 213
 [V.d (D.lit (Value.string s)), V.d (D.lit (Value.int IntKind.i64 ((↑(atomR s i.toNat).snd : Int) + 1)))]] else
 (s215.pre [V.ptr [0, 0] 0, V.d (D.lit (Value.int IntKind.u8 63))]
 [Box.cells 213 [V.d (D.lit (Value.string s)), V.d (D.lit (Value.int IntKind.i64 (↑(atomR s i.toNat).snd : Int)))]] ∧
 (bif skipB s (↑(atomR s i.toNat).snd : Int) 63 then
 R (V.d (D.tup [D.any, D.lit (Value.bool true)]))
 [Box.cells 213
 [V.d (D.lit (Value.string s)), V.d (D.lit (Value.int IntKind.i64 ((↑(atomR s i.toNat).snd : Int) + 1)))]] else
 R (V.d (D.tup [D.any, D.lit (Value.bool true)]))
 [Box.cells 213 [V.d (D.lit (Value.string s)), V.d (D.lit (Value.int IntKind.i64 (↑(atomR s i.toNat).snd : Int)))]])))))))) := by kernel_rfl
noncomputable def l214 : Code := roundOf (pieceAt (bodyOf Tryz.f214) 4)
noncomputable def l192 : Code := roundOf (pieceAt (bodyOf Tryz.f192) 4)
abbrev trB (k : Int) : Box := .cells 239 [lint k, lbool false, .d (.lit (.int .u8 0)), .d (.lit (.pointer none)), .ref [5001]]
abbrev bxG (k : Int) (s : ByteArray) (i : Int) (nl : Bool) (xs : List D) : List Box := [psB s i, trB k, .arr true nl 169 1 xs []]
def h214 : Nat → Option Hint := fun id => match id with
 | 4 => some { ads := [.flat 2] }
 | 7 => some { ads := [.flat 2] }
 | _ => none
def h192 : Nat → Option Hint := fun id => match id with
 | 4 => some { ads := [.flat 2], cut := [([2,3,4], [([0,0],[0,0]),([5000],[5000]),([25],[5001])])] }
 | _ => none
theorem b214 (n : Nat) (s : ByteArray) (i : Int) (nl : Bool) (xs : List D) (R : X → List V → List Box → Prop) : (roundT (Cn T262) T262 (smCS (UG n)) 1 noSp h214 l214 44 [0, 4] [[0, 0], [5000], [5001]] []
  [([0, 0], [0, 0]), ([5000], [5000]), ([5001], [43])] [2, 3] [([0, 0], [0, 0])] [V.ptr [0, 0] 0, V.ptr [5000] 0]
  (bxG 1 s i nl xs) R) =
  (s231.pre [V.ptr [0, 0] 0] [Box.cells 213 [V.d (D.lit (Value.string s)), V.d (D.lit (Value.int IntKind.i64 i))]] ∧
  (bif i == (↑s.size : Int) then
   (44 = 44 ∧
   R X.ret [V.d D.any, V.d (D.lit (Value.bool true))]
  [Box.cells 213 [V.d (D.lit (Value.string s)), V.d (D.lit (Value.int IntKind.i64 i))]]) else
   (bif bif bif false then true else byteAt s i.toNat == 124 then true else byteAt s i.toNat == 41 then
    (44 = 44 ∧
    R X.ret [V.d D.any, V.d (D.lit (Value.bool true))]
  [Box.cells 213 [V.d (D.lit (Value.string s)), V.d (D.lit (Value.int IntKind.i64 i))]]) else
    (((232, gram factorR).snd.below (muG (232, gram factorR).fst) n).pre [V.ptr [0, 0] 0]
  [Box.cells 213 [V.d (D.lit (Value.string s)), V.d (D.lit (Value.int IntKind.i64 i))]] ∧
    (bif !(factorR s i.toNat).fst then
     (44 = 44 ∧
     R X.ret [V.d D.any, V.d (D.lit (Value.bool false))]
  [Box.cells 213 [V.d (D.lit (Value.string s)), V.d (D.lit (Value.int IntKind.i64 (↑(factorR s i.toNat).snd : Int)))]]) else
     (bif ((xs.length + 1) * 8).ble 70368744177664 then
      (44 = 44 ∧
      R X.normal [V.ptr [0, 0] 0, V.ptr [5000] 0]
  [Box.cells 213 [V.d (D.lit (Value.string s)), V.d (D.lit (Value.int IntKind.i64 (↑(factorR s i.toNat).snd : Int)))],
    Box.cells 239
      [V.d (D.lit (Value.int IntKind.i64 1)), V.d (D.lit (Value.bool false)), V.d (D.lit (Value.int IntKind.u8 0)),
        V.d (D.lit (Value.pointer none)), V.ref [5001]],
    Box.arr true (nl && false) 169 1 (xs ++ [D.any]) []]) else
      False)))))) := by kernel_rfl
theorem b192 (n : Nat) (s : ByteArray) (i : Int) (nl : Bool) (xs : List D) (R : X → List V → List Box → Prop) : (roundT (Cn T262) T262 (smCS (UG n)) 1 noSp h192 l192 42 [0, 4] [[0, 0], [5000], [5001]] []
 [([0, 0], [0, 0]), ([5000], [5000]), ([5001], [25])] [2, 3, 4] [([0, 0], [0, 0]), ([5000], [5000]), ([5001], [25])]
 [V.ptr [0, 0] 0, V.ptr [5000] 0] (bxG 2 s i nl xs) R) =
 (((214, gram seqR).snd.below (muG (214, gram seqR).fst) n).pre [V.ptr [0, 0] 0]
 [Box.cells 213 [V.d (D.lit (Value.string s)), V.d (D.lit (Value.int IntKind.i64 i))]] ∧
 (bif !(seqR s i.toNat).fst then
 (42 = 42 ∧
 R X.ret [V.d D.any, V.d (D.lit (Value.bool false)), V.ptr [5000] 0]
 [Box.cells 213 [V.d (D.lit (Value.string s)), V.d (D.lit (Value.int IntKind.i64 (↑(seqR s i.toNat).snd : Int)))],
 Box.cells 239
 [V.d (D.lit (Value.int IntKind.i64 2)), V.d (D.lit (Value.bool false)), V.d (D.lit (Value.int IntKind.u8 0)),
 V.d (D.lit (Value.pointer none)), V.ref [5001]],
 Box.arr true nl 169 1 xs []]) else
 (bif ((xs.length + 1) * 8).ble 70368744177664 then
 (s215.pre [V.ptr [0, 0] 0, V.d (D.lit (Value.int IntKind.u8 124))]
 [Box.cells 213 [V.d (D.lit (Value.string s)), V.d (D.lit (Value.int IntKind.i64 (↑(seqR s i.toNat).snd : Int)))]] ∧
 (bif skipB s (↑(seqR s i.toNat).snd : Int) 124 then
 (42 = 42 ∧
 R X.normal [V.ptr [0, 0] 0, V.ptr [5000] 0]
 [Box.cells 213
 [V.d (D.lit (Value.string s)), V.d (D.lit (Value.int IntKind.i64 ((↑(seqR s i.toNat).snd : Int) + 1)))],
 Box.cells 239
 [V.d (D.lit (Value.int IntKind.i64 2)), V.d (D.lit (Value.bool false)), V.d (D.lit (Value.int IntKind.u8 0)),
 V.d (D.lit (Value.pointer none)), V.ref [5001]],
 Box.arr true (nl && false) 169 1 (xs ++ [D.any]) []]) else
 (42 = 42 ∧
 R (X.exit 0) [V.any, V.any, V.ptr [5000] 0]
 [Box.cells 213 [V.d (D.lit (Value.string s)), V.d (D.lit (Value.int IntKind.i64 (↑(seqR s i.toNat).snd : Int)))],
 Box.cells 239
 [V.d (D.lit (Value.int IntKind.i64 2)), V.d (D.lit (Value.bool false)), V.d (D.lit (Value.int IntKind.u8 0)),
 V.d (D.lit (Value.pointer none)), V.ref [5001]],
 Box.arr true (nl && false) 169 1 (xs ++ [D.any]) []]))) else
 False))) := by kernel_rfl
def S214 (n : Nat) : Ev.Spec := { L := [0,4], ns := [([0,0],[0,0]),([5000],[12]),([5001],[5001])], ads := [.cell [12] 4 169 1 [5001]], L' := [2,3], nm' := [[0,0]], G := fun N vals bs k => match vals, bs with
 | [.ptr [0,0] 0, .ptr [5000] 0], [.cells 213 [.d (.lit (.string s)), .d (.lit (.int .i64 i))], .cells 239 [.d (.lit (.int .i64 1)), .d (.lit (.bool false)), .d (.lit (.int .u8 0)), .d (.lit (.pointer none)), .ref [5001]], .arr true nl 169 1 [] []] => (N = 44 ∧ 0 ≤ i ∧ i ≤ s.size ∧ s.size ≤ 200 ∧ (s.size - i.toNat) * 4 + 1 < n) ∧ k .ret [.d .any, lbool (seqR s i.toNat).1] [psB s (seqR s i.toNat).2]
 | _, _ => False }
def S192 (n : Nat) : Ev.Spec := { L := [0,4], ns := [([0,0],[0,0]),([5000],[10]),([5001],[5001])], ads := [.cell [10] 4 169 1 [5001]], L' := [2,3,4], nm' := [[0,0],[5000],[5001]], G := fun N vals bs k => match vals, bs with
  | [.ptr [0,0] 0, .ptr [5000] 0], [.cells 213 [.d (.lit (.string s)), .d (.lit (.int .i64 i))], .cells 239 [.d (.lit (.int .i64 2)), .d (.lit (.bool false)), .d (.lit (.int .u8 0)), .d (.lit (.pointer none)), .ref [5001]], .arr true nl 169 1 [] []] => (N = 42 ∧ 0 ≤ i ∧ i ≤ s.size ∧ s.size ≤ 200 ∧ (s.size - i.toNat) * 4 + 2 < n) ∧
      (bif (choiceR s i.toNat).1 then ∀ (m : Nat) (nl : Bool), k (.exit 0) [.any, .any, .ptr [5000] 0] (bxG 2 s (choiceR s i.toNat).2 nl (.any :: List.replicate m .any))
       else ∀ (m : Nat) (nl : Bool), k .ret [.d .any, lbool false, .ptr [5000] 0] (bxG 2 s (choiceR s i.toNat).2 nl (List.replicate m .any)))
  | _, _ => False }
theorem w214 (n : Nat) (s : ByteArray) (i : Int) (R : V → List Box → Prop) : (evBodyS (Cn T262) T262 (smCS (UG n)) 1 (spL [(4, S214 n)]) noHn [Ad.flat 2] e00 214 [V.ptr [0, 0] 0] (smIn [psB s i]) R) =
 ((44 = 44 ∧ (((0 : Int) ≤ i) ∧ (((i : Int) ≤ (↑s.size : Int)) ∧ (s.size ≤ 200 ∧ (s.size - i.toNat) * 4 + 1 < n)))) ∧
 R (V.d (D.tup [D.any, D.lit (Value.bool (seqR s i.toNat).fst)]))
 [Box.cells 213 [V.d (D.lit (Value.string s)), V.d (D.lit (Value.int IntKind.i64 (↑(seqR s i.toNat).snd : Int)))]]) := by kernel_rfl
theorem w192 (n : Nat) (s : ByteArray) (i : Int) (R : V → List Box → Prop) : (evBodyS (Cn T262) T262 (smCS (UG n)) 1 (spL [(4, S192 n)]) noHn [Ad.flat 2] e00 192 [V.ptr [0, 0] 0] (smIn [psB s i]) R) =
 ((42 = 42 ∧ (((0 : Int) ≤ i) ∧ (((i : Int) ≤ (↑s.size : Int)) ∧ (s.size ≤ 200 ∧ (s.size - i.toNat) * 4 + 2 < n)))) ∧
 (bif (choiceR s i.toNat).fst then
 (∀ z0 : Nat, (∀ z1 : Bool, (bif (↑(D.any :: List.replicate z0 D.any).length : Int) == 1 then
 ((((0 : Int) ≤ 0) ∧ (0 < (D.any :: List.replicate z0 D.any).length ∧ D.any = D.any)) ∧
 R (V.d (D.tup [D.any, D.lit (Value.bool true)]))
 [Box.cells 213 [V.d (D.lit (Value.string s)), V.d (D.lit (Value.int IntKind.i64 (↑(choiceR s i.toNat).snd : Int)))]]) else
 R (V.d (D.tup [D.any, D.lit (Value.bool true)]))
 [Box.cells 213 [V.d (D.lit (Value.string s)), V.d (D.lit (Value.int IntKind.i64 (↑(choiceR s i.toNat).snd : Int)))]]))) else
 (∀ z2 : Nat, (∀ z3 : Bool, R (V.d (D.tup [D.any, D.lit (Value.bool false)]))
 [Box.cells 213 [V.d (D.lit (Value.string s)), V.d (D.lit (Value.int IntKind.i64 (↑(choiceR s i.toNat).snd : Int)))]])))) := by kernel_rfl
def UR : STab := U258.addG grp
def rxOk (s : ByteArray) : Bool := (choiceR s 0).1 && ((choiceR s 0).2 == s.size)
def c147 : Ct := ⟨fun _ => True, fun | [.lit (.string s)] => some (.tup [.any, .lit (.bool (bif decide ((s.size : Int) > 200) then false else rxOk s))]) | _ => none⟩
def T147 : Tab := T262.add 147 c147
def rxErr (s : ByteArray) : Int := bif decide ((s.size : Int) > 200) then 4 else bif rxOk s then 0 else 3
def c77 : Ct := ⟨fun _ => True, fun | [.lit (.string s)] => some (.lit (.int .i64 (rxErr s))) | _ => none⟩
def T77 : Tab := T147.add 77 c77
def h147 : Nat → Option Hint := fun id => match id with
 | 2 => some { ads := [.flat 2] }
 | 6 => some { ads := [.flat 2] }
 | 7 => some { ads := [.flat 2] }
 | _ => none
theorem w147 (s : ByteArray) (p : V → Prop) : (evBodyT (Cn T262) T262 (smCS UR) 0 noSp h147 147 [lstr s] Heap.empty fun v H => p (freezeR H v)) =
 (bif decide ((↑s.size : Int) > 200) then
 p (V.d (D.tup [D.any, D.lit (Value.bool false)])) else
 ((gram choiceR).pre [V.ptr [0, 0] 0]
 [Box.cells 213 [V.d (D.lit (Value.string s)), V.d (D.lit (Value.int IntKind.i64 0))]] ∧
 (bif bif !(choiceR s 0).fst then true else (↑(choiceR s 0).snd : Int) != (↑s.size : Int) then
 p (V.d (D.tup [D.any, D.lit (Value.bool false)])) else
 p (V.d (D.tup [D.any, D.lit (Value.bool true)]))))) := by kernel_rfl
theorem w77 (s : ByteArray) (p : V → Prop) : (evBodyT (Cn T147) T147 noCS 0 noSp noHn 77 [lstr s] Heap.empty fun v H => p (freezeR H v)) =
 (bif decide ((↑s.size : Int) > 200) then
 p (V.d (D.lit (Value.int IntKind.i64 4))) else
 (True ∧
 (bif !bif decide ((↑s.size : Int) > 200) then false else rxOk s then
 p (V.d (D.lit (Value.int IntKind.i64 3))) else
 p (V.d (D.lit (Value.int IntKind.i64 0)))))) := by kernel_rfl
theorem k262 : TabOk B T262 := by
 refine add_ok k260 fun ds r hp hr => ?_
 unfold c262 at hr
 simp only [] at hr
 split at hr
 ·
  rename_i s c
  cases hr
  have hn : (Tryz.f262.name == "runtime.NumGoroutine") = false := by kernel_rfl
  refine ⟨⟨Tryz.f262, Tryz.func262, by simpa using hn, by kernel_rfl⟩, fun w lim vs hl hg hd => ?_⟩
  obtain ⟨vs⟩ := vs
  cases hd with
  | cons h1 t =>
   cases t with
   | cons h2 t =>
    cases t
    cases h1; cases h2
    refine (Tryz.strings_IndexByte s c w).mono ?_
    rintro e w' ⟨rfl, rfl⟩
    exact ⟨_, lim, rfl, .refl _, fun _ _ => rfl, hl, .lit (by simp)⟩
 ·
  cases hr
theorem gram_pos (s : ByteArray) : ∀ (n i : Nat), i ≤ s.size → s.size - i ≤ n →
  (i ≤ (atomR s i).2 ∧ (atomR s i).2 ≤ s.size ∧ ((atomR s i).1 = true → i < (atomR s i).2)) ∧ (i ≤ (factorR s i).2 ∧ (factorR s i).2 ≤ s.size ∧ ((factorR s i).1 = true → i < (factorR s i).2)) ∧
  (i ≤ (seqR s i).2 ∧ (seqR s i).2 ≤ s.size) ∧ (i ≤ (choiceR s i).2 ∧ (choiceR s i).2 ≤ s.size) := by
 intro n
 induction n with
 | zero =>
  intro i hi hn
  have hlt : ¬ i < s.size := by omega
  have hA : atomR s i = (false, i) := by unfold atomR; rw [dif_neg hlt]
  have hF : factorR s i = (false, i) := by unfold factorR; rw [hA]; rfl
  have hS : seqR s i = (true, i) := by unfold seqR; rw [dif_neg hlt]
  have hk : skipB s (i : Int) 124 = false := by
   have : ((i : Int) == (s.size : Int)) = true := by simp; omega
   simp [skipB, this]
  have hC : choiceR s i = (true, i) := by unfold choiceR; rw [hS]; simp [hk]
  rw [hA, hF, hS, hC]
  simp; omega
 | succ n ih =>
  intro i hi hn
  by_cases hlt : i < s.size
  ·
   have hA : i ≤ (atomR s i).2 ∧ (atomR s i).2 ≤ s.size ∧ ((atomR s i).1 = true → i < (atomR s i).2) := by
    have hc := (ih (i + 1) (by omega) (by omega)).2.2.2
    have hb := brR_pos (s := s) (n := 201) (i := ((i + 1 : Nat) : Int)) (by omega) (by omega)
    have hbs : ((i + 1 : Nat) : Int) ≤ (brS s ((i + 1 : Nat) : Int)).2 ∧ (brS s ((i + 1 : Nat) : Int)).2 ≤ s.size := by
     unfold brS
     cases g : skipB s ((i + 1 : Nat) : Int) 94 with
     | true => have := skipB_pos g (by omega); exact brR_ge (by simp only [cond_true]; omega) (by simp only [cond_true]; omega) (by simp only [cond_true]; omega)
     | false => exact brR_ge (by simp only [cond_false]; omega) (by simp only [cond_false]; omega) (by simp only [cond_false]; omega)
    have he := escAt_pos (s := s) (i := ((i + 1 : Nat) : Int)) (by omega) (by omega)
    have he2 : ((i + 1 : Nat) : Int) ≤ escAt s ((i + 1 : Nat) : Int) := by
     unfold escAt
     cases (((i + 1 : Nat) : Int) == (s.size : Int)) <;> simp <;> omega
    unfold atomR
    rw [dif_pos hlt]
    split
    ·
     split
     ·
      split
      ·
       rename_i g; have := skipB_pos g (by omega); simp only []; omega
      ·
       simp only []; omega
     ·
      simp only []; omega
    ·
     split
     ·
      simp only []; omega
     ·
      split
      ·
       simp only []; omega
      ·
       split
       ·
        split
        ·
         rename_i g; have := escOk_pos g; simp only []; omega
        ·
         simp only []; omega
       ·
        simp only []; omega
   have hF : i ≤ (factorR s i).2 ∧ (factorR s i).2 ≤ s.size ∧ ((factorR s i).1 = true → i < (factorR s i).2) := by
    unfold factorR
    split
    ·
     rename_i g
     have := hA.2.2 g
     split
     ·
      rename_i g2
      have : (atomR s i).2 < s.size := by
       simp only [Bool.or_eq_true] at g2
       rcases g2 with g2 | g2 | g2 <;> (have := skipB_pos g2 (by omega); omega)
      simp only []; omega
     ·
      simp only []; omega
    ·
     simp only []; refine ⟨hA.1, hA.2.1, fun h => by cases h⟩
   have hS : i ≤ (seqR s i).2 ∧ (seqR s i).2 ≤ s.size := by
    unfold seqR
    rw [dif_pos hlt]
    split
    ·
     simp only []; omega
    ·
     split
     ·
      split
      ·
       rename_i g
       have := (ih (factorR s i).2 hF.2.1 (by omega)).2.2.1
       omega
      ·
       simp only []; omega
     ·
      simp only []; omega
   refine ⟨hA, hF, hS, ?_⟩
   unfold choiceR
   split
   ·
    split
    ·
     split
     ·
      rename_i g
      have := (ih ((seqR s i).2 + 1) (by omega) (by omega)).2.2.2
      omega
     ·
      simp only []; omega
    ·
     simp only []; omega
   ·
    simp only []; omega
  ·
   exact ih i hi (by omega)
theorem ok214 {n : Nat} (hs : SmOk B (UG n)) : OkS (Cn T262) 1 (.loop l214) (S214 n) := by
 refine okS_loop fun N vals bs K h => ?_
 simp only [S214] at h
 split at h
 case h_2 => exact h.elim
 rename_i s i nl
 obtain ⟨⟨rfl, h0, h1, h2, hm⟩, h⟩ := h
 obtain ⟨i, rfl⟩ := Int.eq_ofNat_of_zero_le h0
 rw [Int.toNat_natCast] at h hm
 have key : ∀ (k i : Nat) (nl : Bool) (xs : List D), i ≤ s.size → s.size - i ≤ k → (s.size - i) * 4 + 1 < n → xs.length ≤ i → K .ret [.d .any, lbool (seqR s i).1] [psB s (seqR s i).2] →
   LoopT (Cn T262) 1 l214 44 [0,4] [[0,0],[5000],[5001]] [2,3] [[0,0]] [.ptr [0,0] 0, .ptr [5000] 0] (bxG 1 s i nl xs) K := by
  intro k
  induction k with
  | zero =>
   intro i nl xs hi hk hm hx h
   have hlt : ¬ i < s.size := by omega
   have hS : seqR s i = (true, i) := by unfold seqR; rw [dif_neg hlt]
   refine loopT_step (sm_fit base k262 hs) tab_has noSp_ok (hn := h214) (adsI := []) (nsI := [([0,0],[0,0]),([5000],[5000]),([5001],[43])]) (nsX := [([0,0],[0,0])]) rfl rfl (keep (b214 n s i nl xs _) ?_)
   refine ⟨⟨by omega, by omega, h2⟩, ?_⟩
   have e : ((i : Int) == (s.size : Int)) = true := by simp; omega
   rw [e]
   rw [hS] at h
   exact ⟨rfl, h⟩
  | succ k ih =>
   intro i nl xs hi hk hm hx h
   by_cases hlt : i < s.size
   ·
    have hp := gram_pos s (s.size - i) i hi (by omega)
    refine loopT_step (sm_fit base k262 hs) tab_has noSp_ok (hn := h214) (adsI := []) (nsI := [([0,0],[0,0]),([5000],[5000]),([5001],[43])]) (nsX := [([0,0],[0,0])]) rfl rfl (keep (b214 n s i nl xs _) ?_)
    refine ⟨⟨by omega, by omega, h2⟩, ?_⟩
    have e : ((i : Int) == (s.size : Int)) = false := by simp; omega
    rw [e]
    simp only [cond_false, Int.toNat_natCast]
    unfold seqR at h
    rw [dif_pos hlt] at h
    refine cond_split (fun g => ?_) (fun g => ?_)
    ·
     have : byteAt s i = 124 ∨ byteAt s i = 41 := by
      cases g1 : (byteAt s i == 124) with
      | true => left; simpa using g1
      | false => right; rw [g1] at g; simpa using g
     rw [if_pos this] at h
     exact ⟨trivial, h⟩
    ·
     have : ¬ (byteAt s i = 124 ∨ byteAt s i = 41) := by
      rintro (g1 | g1)
      ·
       rw [g1] at g; simp at g
      ·
       rw [g1] at g; simp at g
     rw [if_neg this] at h
     refine ⟨⟨⟨by omega, by omega, h2⟩, by show (s.size - ((i : Int)).toNat) * 4 + 1 < n; simpa using hm⟩, ?_⟩
     cases g2 : (factorR s i).1 with
     | false =>
      rw [g2] at h
      exact ⟨trivial, h⟩
     | true =>
      have hj := hp.2.1.2.2 g2
      have hj2 := hp.2.1.2.1
      rw [g2] at h
      simp only [if_true] at h
      rw [dif_pos hj] at h
      simp only [Bool.not_true, cond_false]
      have hr : ((xs.length + 1) * 8).ble 70368744177664 = true := by simp [Nat.ble_eq]; omega
      rw [hr]
      simp only [cond_true]
      exact ⟨trivial, ih (factorR s i).2 (nl && false) (xs ++ [D.any]) hj2 (by omega) (by omega) (by simp; omega) h⟩
   ·
    exact ih i nl xs hi (by omega) hm hx h
 exact key (s.size - i) i nl [] (by omega) (by omega) hm (by simp) h
theorem rep_any (m : Nat) : List.replicate m D.any ++ [D.any] = .any :: List.replicate m D.any := by
 rw [← List.replicate_succ', List.replicate_succ]
theorem ok192 {n : Nat} (hs : SmOk B (UG n)) : OkS (Cn T262) 1 (.loop l192) (S192 n) := by
  refine okS_loop fun N vals bs K h => ?_
  simp only [S192] at h
  split at h
  case h_2 => exact h.elim
  rename_i s i nl
  obtain ⟨⟨rfl, h0, h1, h2, hm⟩, h⟩ := h
  obtain ⟨i, rfl⟩ := Int.eq_ofNat_of_zero_le h0
  rw [Int.toNat_natCast] at h hm
  have key : ∀ (k i : Nat) (nl : Bool) (m : Nat), i ≤ s.size → s.size - i ≤ k → (s.size - i) * 4 + 2 < n → m ≤ i →
      (bif (choiceR s i).1 then ∀ (m : Nat) (nl : Bool), K (.exit 0) [.any, .any, .ptr [5000] 0] (bxG 2 s (choiceR s i).2 nl (.any :: List.replicate m .any))
       else ∀ (m : Nat) (nl : Bool), K .ret [.d .any, lbool false, .ptr [5000] 0] (bxG 2 s (choiceR s i).2 nl (List.replicate m .any))) →
      LoopT (Cn T262) 1 l192 42 [0,4] [[0,0],[5000],[5001]] [2,3,4] [[0,0],[5000],[5001]] [.ptr [0,0] 0, .ptr [5000] 0] (bxG 2 s i nl (List.replicate m .any)) K := by
    intro k
    induction k with
    | zero =>
      intro i nl m hi hk hm hx h
      have hp := gram_pos s (s.size - i) i hi (by omega)
      refine loopT_step (sm_fit base k262 hs) tab_has noSp_ok (hn := h192) (adsI := []) (nsI := [([0,0],[0,0]),([5000],[5000]),([5001],[25])]) (nsX := [([0,0],[0,0]),([5000],[5000]),([5001],[25])]) rfl rfl (keep (b192 n s i nl (List.replicate m .any) _) ?_)
      refine ⟨⟨⟨by omega, by omega, h2⟩, by show (s.size - ((i : Int)).toNat) * 4 + 2 < n; simpa using hm⟩, ?_⟩
      simp only [Int.toNat_natCast]
      unfold choiceR at h
      cases g1 : (seqR s i).1 with
      | false => rw [g1] at h; exact ⟨trivial, h m nl⟩
      | true =>
        rw [g1] at h
        simp only [if_true] at h
        have hr : (((List.replicate m D.any).length + 1) * 8).ble 70368744177664 = true := by simp [Nat.ble_eq]; omega
        simp only [Bool.not_true, cond_false, hr, cond_true]
        refine ⟨⟨by omega, by omega, h2⟩, ?_⟩
        cases g2 : skipB s ((seqR s i).2 : Int) 124 with
        | true => have := skipB_pos g2 (by omega); omega
        | false =>
          rw [g2] at h
          rw [rep_any]
          exact ⟨trivial, h m (nl && false)⟩
    | succ k ih =>
      intro i nl m hi hk hm hx h
      have hp := gram_pos s (s.size - i) i hi (by omega)
      refine loopT_step (sm_fit base k262 hs) tab_has noSp_ok (hn := h192) (adsI := []) (nsI := [([0,0],[0,0]),([5000],[5000]),([5001],[25])]) (nsX := [([0,0],[0,0]),([5000],[5000]),([5001],[25])]) rfl rfl (keep (b192 n s i nl (List.replicate m .any) _) ?_)
      refine ⟨⟨⟨by omega, by omega, h2⟩, by show (s.size - ((i : Int)).toNat) * 4 + 2 < n; simpa using hm⟩, ?_⟩
      simp only [Int.toNat_natCast]
      unfold choiceR at h
      cases g1 : (seqR s i).1 with
      | false => rw [g1] at h; exact ⟨trivial, h m nl⟩
      | true =>
        rw [g1] at h
        simp only [if_true] at h
        have hr : (((List.replicate m D.any).length + 1) * 8).ble 70368744177664 = true := by simp [Nat.ble_eq]; omega
        simp only [Bool.not_true, cond_false, hr, cond_true]
        refine ⟨⟨by omega, by omega, h2⟩, ?_⟩
        cases g2 : skipB s ((seqR s i).2 : Int) 124 with
        | true =>
          have hj := skipB_pos g2 (by omega)
          rw [g2] at h
          simp only [if_true] at h
          rw [dif_pos ⟨hp.2.2.1.1, by omega⟩] at h
          rw [rep_any]
          have := ih ((seqR s i).2 + 1) (nl && false) (m + 1) (by omega) (by omega) (by omega) (by omega) h
          exact ⟨trivial, this⟩
        | false =>
          rw [g2] at h
          rw [rep_any]
          exact ⟨trivial, h m (nl && false)⟩
  exact key (s.size - i) i nl 0 (by omega) (by omega) hm (by omega) h
theorem qUR : SmOk B UR := by
 refine sm_group q258 grp muG fun n hs K S hmem vals bs c x y hp hmu hf => ?_
 have hs : SmOk B (UG n) := hs
 simp only [grp, List.mem_cons, Prod.mk.injEq, List.not_mem_nil, or_false] at hmem
 have inv : ∀ f : ByteArray → Nat → Bool × Nat, S = gram f → ∃ (s : ByteArray) (i : Nat), vals = [.ptr [0, 0] 0] ∧ bs = [psB s i] ∧ (i ≤ s.size ∧ s.size ≤ 200) ∧ n = (s.size - i) * 4 + rankG K ∧
   (bif c then x else y) = (.d (.tup [.any, .lit (.bool (f s i).1)]), [psB s (f s i).2], []) := by
  rintro f rfl
  unfold gram at hf hp
  simp only [] at hf hp
  split at hf
  case h_2 => cases hf
  rename_i s i
  simp only [one, Option.some.injEq, Prod.mk.injEq] at hf
  obtain ⟨rfl, rfl, rfl⟩ := hf
  obtain ⟨h0, h1, h2⟩ := hp
  obtain ⟨i, rfl⟩ := Int.eq_ofNat_of_zero_le h0
  refine ⟨s, i, rfl, rfl, ⟨by omega, h2⟩, ?_, ?_⟩
  ·
   rw [← hmu]; simp [muG]
  ·
   simp
 rcases hmem with ⟨rfl, rfl⟩ | ⟨rfl, rfl⟩ | ⟨rfl, rfl⟩ | ⟨rfl, rfl⟩
 ·
  obtain ⟨s, i, rfl, rfl, ⟨h1, h2⟩, rfl, e⟩ := inv atomR rfl
  rw [e]
  refine sm_bodyS base k262 hs (fn := Tryz.f247) (cd := bodyOf Tryz.f247) (sp := noSp) (hn := noHn) (k := 1) (ads := [.flat 2]) (ends := e00) Tryz.func247 (by kernel_rfl) (by kernel_rfl) (by kernel_rfl) e00_ok noSp_ok rfl rfl (keep (w247 _ s i _) ?_)
  refine ⟨⟨by omega, by omega, h2⟩, ?_⟩
  unfold atomR
  by_cases hlt : i < s.size
  ·
   have e1 : ((i : Int) == (s.size : Int)) = false := by simp; omega
   rw [e1, dif_pos hlt, i64_small (i := (i : Int) + 1) (by omega) (by omega)]
   have e2 : (i : Int) + 1 = ((i + 1 : Nat) : Int) := by omega
   rw [e2]
   simp only [cond_false, Int.toNat_natCast]
   have hp := gram_pos s (s.size - (i + 1)) (i + 1) (by omega) (by omega)
   refine cond_split (fun g1 => ?_) (fun g1 => ?_)
   ·
    rw [if_pos (by simpa using g1)]
    refine ⟨⟨⟨by omega, by omega, h2⟩, by show (s.size - (((i + 1 : Nat) : Int)).toNat) * 4 + 3 < _; simp [rankG]; omega⟩, ?_⟩
    cases g2 : (choiceR s (i + 1)).1 with
    | false => exact ⟨rfl, rfl⟩
    | true =>
     refine ⟨⟨by omega, by omega, h2⟩, ?_⟩
     cases g3 : skipB s ((choiceR s (i + 1)).2 : Int) 41 with
     | true => exact ⟨rfl, rfl⟩
     | false => exact ⟨rfl, rfl⟩
   rw [if_neg (by simpa using g1)]
   refine cond_split (fun g2 => ?_) (fun g2 => ?_)
   ·
    rw [if_pos (by simpa using g2)]
    have hb : 0 ≤ (brS s ((i + 1 : Nat) : Int)).2 := by
     unfold brS
     cases g : skipB s ((i + 1 : Nat) : Int) 94 with
     | true => have := skipB_pos g (by omega); exact (brR_pos (by simp only [cond_true]; omega) (by simp only [cond_true]; omega)).1
     | false => exact (brR_pos (by simp only [cond_false]; omega) (by simp only [cond_false]; omega)).1
    refine ⟨⟨by omega, by omega, h2⟩, rfl, ?_⟩
    simp only [Int.toNat_of_nonneg hb]
    rfl
   rw [if_neg (by simpa using g2)]
   refine cond_split (fun g3 => ?_) (fun g3 => ?_)
   ·
    rw [if_pos (by simpa using g3)]
    exact ⟨trivial, rfl, rfl⟩
   rw [if_neg (by simpa using g3)]
   refine cond_split (fun g4 => ?_) (fun g4 => ?_)
   ·
    rw [if_pos (by simpa using g4)]
    refine ⟨⟨by omega, by omega, h2⟩, ?_⟩
    cases g5 : escOk s ((i + 1 : Nat) : Int) with
    | true => exact ⟨rfl, rfl⟩
    | false =>
     have he := escAt_pos (s := s) (i := ((i + 1 : Nat) : Int)) (by omega) (by omega)
     refine ⟨rfl, ?_⟩
     simp only [Bool.false_eq_true, if_false, Int.toNat_of_nonneg he.1]
     rfl
   rw [if_neg (by simpa using g4)]
   refine ⟨byteAt_lt _ _, ?_⟩
   refine cond_split (fun g5 => ?_) (fun g5 => ?_)
   ·
    have : specialB (byteAt s i) = true := g5
    rw [this]; exact ⟨rfl, rfl⟩
   ·
    have : specialB (byteAt s i) = false := g5
    rw [this]; exact ⟨trivial, rfl, rfl⟩
  ·
   have e1 : ((i : Int) == (s.size : Int)) = true := by simp; omega
   rw [e1, dif_neg hlt]
   exact ⟨rfl, rfl⟩
 ·
  obtain ⟨s, i, rfl, rfl, ⟨h1, h2⟩, rfl, e⟩ := inv factorR rfl
  rw [e]
  have hp := gram_pos s (s.size - i) i h1 (by omega)
  refine sm_bodyS base k262 hs (fn := Tryz.f232) (cd := bodyOf Tryz.f232) (sp := noSp) (hn := noHn) (k := 1) (ads := [.flat 2]) (ends := e00) Tryz.func232 (by kernel_rfl) (by kernel_rfl) (by kernel_rfl) e00_ok noSp_ok rfl rfl (keep (w232 _ s i _) ?_)
  refine ⟨⟨⟨by omega, by omega, h2⟩, by show (s.size - ((i : Int)).toNat) * 4 + 0 < _; simp [rankG]⟩, ?_⟩
  unfold factorR
  simp only [Int.toNat_natCast]
  cases g1 : (atomR s i).1 with
  | false => exact ⟨rfl, rfl⟩
  | true =>
   simp only [Bool.not_true, cond_false, if_true]
   refine ⟨⟨by omega, by omega, h2⟩, cond_split (fun g2 => ?_) (fun g2 => ?_)⟩
   ·
    rw [g2]; exact ⟨rfl, rfl⟩
   refine ⟨⟨by omega, by omega, h2⟩, cond_split (fun g3 => ?_) (fun g3 => ?_)⟩
   ·
    rw [g2, g3]; exact ⟨rfl, rfl⟩
   refine ⟨⟨by omega, by omega, h2⟩, cond_split (fun g4 => ?_) (fun g4 => ?_)⟩
   ·
    rw [g2, g3, g4]; exact ⟨rfl, rfl⟩
   ·
    rw [g2, g3, g4]; exact ⟨rfl, rfl⟩
 ·
  obtain ⟨s, i, rfl, rfl, ⟨h1, h2⟩, rfl, e⟩ := inv seqR rfl
  rw [e]
  refine sm_bodyS base k262 hs (fn := Tryz.f214) (cd := bodyOf Tryz.f214) (sp := spL [(4, S214 _)]) (hn := noHn) (k := 1) (ads := [.flat 2]) (ends := e00) Tryz.func214 (by kernel_rfl) (by kernel_rfl) (by kernel_rfl) e00_ok (specT_cons (c := .loop l214) (by kernel_rfl) (ok214 hs) specT_nil) rfl rfl (keep (w214 _ s i _) ?_)
  simp only [Int.toNat_natCast]
  exact ⟨⟨trivial, by omega, by omega, h2, by simp [rankG]⟩, by trivial, by trivial⟩
 ·
  obtain ⟨s, i, rfl, rfl, ⟨h1, h2⟩, rfl, e⟩ := inv choiceR rfl
  rw [e]
  refine sm_bodyS base k262 hs (fn := Tryz.f192) (cd := bodyOf Tryz.f192) (sp := spL [(4, S192 _)]) (hn := noHn) (k := 1) (ads := [.flat 2]) (ends := e00) Tryz.func192 (by kernel_rfl) (by kernel_rfl) (by kernel_rfl) e00_ok (specT_cons (c := .loop l192) (by kernel_rfl) (ok192 hs) specT_nil) rfl rfl (keep (w192 _ s i _) ?_)
  simp only [Int.toNat_natCast]
  refine ⟨⟨trivial, by omega, by omega, h2, by simp [rankG]⟩, cond_split (fun g => fun m nl => cond_split (fun g2 => ⟨by simp, ?_, rfl⟩) (fun g2 => ⟨?_, rfl⟩)) (fun g => fun m nl => ⟨?_, rfl⟩)⟩
  ·
   rw [g]
  ·
   rw [g]
  ·
   rw [g]
theorem k147 : TabOk B T147 := by
 refine add_bodyS base k262 qUR (fn := Tryz.f147) (cd := bodyOf Tryz.f147) (sp := noSp) (hn := h147) Tryz.func147 (by kernel_rfl) (by kernel_rfl) noSp_ok fun ds r hp hr => ?_
 unfold c147 at hr
 simp only [] at hr
 split at hr
 ·
  rename_i s
  cases hr
  refine keep (w147 s fun v => v = _) ?_
  refine cond_split (fun g => ?_) (fun g => ⟨⟨by omega, by omega, by have := of_decide_eq_false g; omega⟩, ?_⟩)
  ·
   rw [g]; rfl
  ·
   rw [g]
   unfold rxOk
   simp only [cond_false]
   refine cond_split (fun g2 => ?_) (fun g2 => ?_)
   ·
    have : ((choiceR s 0).1 && (choiceR s 0).2 == s.size) = false := by
     cases h : (choiceR s 0).1 with
     | false => rfl
     | true =>
      rw [h] at g2
      have : ((choiceR s 0).2 : Int) ≠ s.size := by simpa using g2
      simp; omega
    rw [this]
   ·
    have : ((choiceR s 0).1 && (choiceR s 0).2 == s.size) = true := by
     cases h : (choiceR s 0).1 with
     | false => rw [h] at g2; simp at g2
     | true =>
      rw [h] at g2
      have : ((choiceR s 0).2 : Int) = s.size := by simpa [bne] using g2
      simp; omega
    rw [this]
 ·
  cases hr
theorem k77 : TabOk B T77 := by
 refine add_body base k147 (fn := Tryz.f77) (cd := bodyOf Tryz.f77) (sp := noSp) (hn := noHn) Tryz.func77 (by kernel_rfl) (by kernel_rfl) noSp_ok fun ds r hp hr => ?_
 unfold c77 at hr
 simp only [] at hr
 split at hr
 ·
  rename_i s
  cases hr
  refine keep (w77 s fun v => v = _) ?_
  unfold rxErr
  refine cond_split (fun g => ?_) (fun g => ⟨trivial, ?_⟩)
  ·
   rw [g]; rfl
  ·
   rw [g]
   simp only [cond_false]
   cases rxOk s <;> rfl
 ·
  cases hr
def strD (l : List UInt8) : D := .lit (.string ⟨l.toArray⟩)
def ascii (s : ByteArray) : Bool := s.data.toList.all fun b => decide (b.toNat < 128)
def c71 : Ct := ⟨fun ds => match ds with | [.lit (.string s)] => s.size < 4294967281 ∧ ascii s = true | _ => False, fun | [.lit (.string s)] => some (.slice false 1 ((Lib.fields s.data.toList).map strD)) | _ => none⟩
def T71 : Tab := T77.add 71 c71
theorem rep_lits {w : World} {lim : Nat → Nat} : ∀ {xs : List Value} {vs : List Value}, (∀ x ∈ xs, ∀ a, x ≠ .agg a) → RepDs w lim (xs.map .lit) vs → vs = xs
 | [], _, _, h => by cases h; rfl
 | x :: xs, _, h', h => by
  cases h with
  | cons h1 t => cases h1; rw [rep_lits (fun y hy => h' y (.tail _ hy)) t]
theorem lits_rep {w : World} {lim : Nat → Nat} : ∀ {xs : List Value}, (∀ x ∈ xs, ∀ a, x ≠ .agg a) → RepDs w lim (xs.map .lit) xs
 | [], _ => .nil
 | x :: xs, h => .cons (.lit (h x (.head _))) (lits_rep fun y hy => h y (.tail _ hy))
theorem tab_of {w : World} {lim : Nat → Nat} (hg : Globs B w lim) : Lib.TabIs Tryz.prog w "strings.asciiSpace" .u8 Lib.asciiSpaceTab := by
 obtain ⟨h1, h2, c, t, m, h3, h4⟩ := hg 0 spaceD rfl
 have hn : Tryz.prog.globalNamed "strings.asciiSpace" = some 0 := by kernel_rfl
 unfold Lib.TabIs World.var?
 rw [hn]
 show (match w.heap[0]? with | some (.cells cs _ _) => some cs | _ => none) = _
 rw [h3]
 refine congrArg some ?_
 cases h1 with
 | elem hd hf hh =>
  have e : spaceD = (Lib.asciiSpaceTab.map fun z => Value.int .u8 z).map .lit := by simp [spaceD]
  rw [e] at hd
  have := rep_lits (by intro x hx a; obtain ⟨z, _, rfl⟩ := List.mem_map.1 hx; simp) hd
  subst this
  refine Array.ext' ?_
  rw [List.toList_toArray]
  refine List.ext_getElem? fun i => ?_
  by_cases hi : i < c.toList.length
  ·
   have hi' : i < (Lib.asciiSpaceTab.map fun z => Value.int .u8 z).length := by rw [e, List.length_map] at h4; simpa [← h4] using hi
   have := (hh.2 i _ (List.getElem?_eq_getElem hi')).2
   unfold World.cell? at this
   simp only [Nat.zero_add, h3] at this
   rw [List.getElem?_eq_getElem hi', ← this]
   simp
  ·
   have hi' : ¬ i < (Lib.asciiSpaceTab.map fun z => Value.int .u8 z).length := by rw [e, List.length_map] at h4; simpa [← h4] using hi
   simp only [List.toList_toArray]
   rw [List.getElem?_eq_none (by omega), List.getElem?_eq_none (by omega)]
theorem k71 : TabOk B T71 := by
 refine add_ok k77 fun ds r hp hr => ?_
 unfold c71 at hr hp
 simp only [] at hr
 split at hr
 ·
  rename_i s
  cases hr
  have hn : (Tryz.f71.name == "runtime.NumGoroutine") = false := by kernel_rfl
  refine ⟨⟨Tryz.f71, Tryz.func71, by simpa using hn, by kernel_rfl⟩, fun w lim vs hl hg hd => ?_⟩
  obtain ⟨vs⟩ := vs
  cases hd with
  | cons h1 t =>
   cases t
   cases h1
   refine (Tryz.strings_Fields_laid s w hp.1 (fun j b hb => by
    have := List.all_eq_true.1 hp.2 b (List.mem_of_getElem? hb); simpa using this) (tab_of hg)).mono ?_
   rintro e w' ⟨rfl, rfl⟩
   refine ⟨_, fun b => if b = w.heap.size then (Lib.fields s.data.toList).length else lim b, rfl, .alloc .., fun b hb => if_neg (by omega), fun b hb => ?_, ?_⟩
   ·
    simp at hb
    show (if b = w.heap.size then _ else _) = 0
    rw [if_neg (by omega)]; exact hl b (by omega)
   ·
    have e : flats ((Lib.fields s.data.toList).map strD) = ((Lib.fields s.data.toList).map fun l => Value.string ⟨l.toArray⟩).map .lit := by
     generalize Lib.fields s.data.toList = l
     induction l with
     | nil => rfl
     | cons a l ih => rw [List.map_cons, List.map_cons, List.map_cons, ← ih]; rfl
    refine .slice (vs := (Lib.fields s.data.toList).map fun l => Value.string ⟨l.toArray⟩) ?_ ?_ (fun _ => ⟨rfl, fun i v hv => ⟨?_, ?_⟩⟩) ?_ (by simp) (Nat.le_refl _)
    ·
     rw [e]; exact lits_rep (by intro x hx a; obtain ⟨z, _, rfl⟩ := List.mem_map.1 hx; simp)
    ·
     intro x hx; obtain ⟨z, _, rfl⟩ := List.mem_map.1 hx; exact ⟨by simp, by simp⟩
    ·
     have := (List.getElem?_eq_some_iff.1 hv).1
     simp only [List.length_map] at this
     show 0 + i < if w.heap.size = w.heap.size then _ else _
     rw [if_pos rfl]; omega
    ·
     show (w.alloc _).cell? ⟨w.heap.size, 0 + i, none⟩ = _
     rw [Nat.zero_add, World.cell?_alloc_new]; simpa using hv
    ·
     intro x hx; obtain ⟨z, _, rfl⟩ := List.mem_map.1 hx; rfl
 ·
  cases hr
def kindRow (k : Int) (name : List UInt8) (f : List Bool) (fns : D) (args typ : Int) : D × D := (.lit (.int .i64 k), .agg (strD name :: (f.map (fun b => .lit (.bool b)) ++ [fns, .lit (.int .i64 args), .lit (.int .i64 typ)])))
def noFns : D := .slice true 0 []
def fns2 : D := .slice false 1 [strD [108, 97, 115, 116], strD [99, 111, 117, 110, 116], strD [115, 117, 109], strD [109, 105, 110], strD [109, 97, 120], strD [97, 118, 103], strD [100, 101, 108, 116, 97], strD [105, 110, 99, 114, 101, 97, 115, 101], strD [114, 97, 116, 101], strD [113, 117, 97, 110, 116, 105, 108, 101], strD [104, 105, 115, 116, 113, 117, 97, 110, 116, 105, 108, 101]]
def fns3 : D := .slice false 1 [strD [108, 105, 110, 101, 115], strD [98, 121, 116, 101, 115], strD [117, 110, 119, 114, 97, 112]]
def fns6 : D := .slice false 1 [strD [115, 117, 109], strD [99, 111, 117, 110, 116], strD [109, 105, 110], strD [109, 97, 120], strD [97, 118, 103], strD [113, 117, 97, 110, 116, 105, 108, 101], strD [116, 111, 112], strD [100, 105, 115, 116, 105, 110, 99, 116], strD [115, 107, 101, 116, 99, 104]]
def fns7 : D := .slice false 1 [strD [43], strD [45], strD [42], strD [47], strD [61, 61], strD [33, 61], strD [60], strD [60, 61], strD [62], strD [62, 61]]
def kindsEs : List (D × D) := [
 kindRow 1 [110, 117, 109, 98, 101, 114] [false, false, true, false, false, false, false, false, false, false] noFns 0 1,
 kindRow 2 [119, 105, 110, 100, 111, 119] [true, false, false, false, true, false, false, true, false, false] fns2 0 2,
 kindRow 3 [108, 111, 103, 99, 111, 117, 110, 116] [true, false, false, false, true, false, true, true, true, true] fns3 0 2,
 kindRow 4 [116, 114, 97, 99, 101, 99, 111, 117, 110, 116] [false, false, false, false, false, true, false, true, true, false] noFns 0 2,
 kindRow 5 [102, 108, 97, 109, 101, 119, 101, 105, 103, 104, 116] [false, false, false, true, true, false, false, true, true, true] noFns 0 2,
 kindRow 6 [97, 103, 103, 114, 101, 103, 97, 116, 101] [true, false, false, false, false, false, false, false, true, true] fns6 1 2,
 kindRow 7 [98, 105, 110, 97, 114, 121] [true, true, false, false, false, false, false, false, true, true] fns7 2 0,
 kindRow 8 [108, 111, 103, 115] [false, false, false, false, true, false, true, true, false, false] noFns 0 3,
 kindRow 9 [116, 114, 97, 99, 101, 115] [false, false, false, false, false, true, false, true, false, false] noFns 0 4,
 kindRow 10 [102, 108, 97, 109, 101] [false, false, false, false, true, false, false, true, false, false] noFns 0 5,
 kindRow 11 [101, 120, 101, 109, 112, 108, 97, 114, 116, 114, 97, 99, 101, 115] [false, false, false, false, true, false, false, true, false, false] noFns 0 4,
 kindRow 12 [108, 111, 103, 115, 111, 102] [false, false, false, false, true, false, true, true, false, false] noFns 1 3,
 kindRow 13 [118, 105, 101, 119] [false, false, false, true, false, false, false, false, false, false] noFns 0 0]
theorem w41 (p : V → Prop) : (evBodyT (Cn T71) T71 noCS 0 noSp noHn 41 [] Heap.empty fun v H => p (freezeR H v)) =
 ((68 < 4294967281 ∧ true = true) ∧
 ((18 < 4294967281 ∧ true = true) ∧
 ((50 < 4294967281 ∧ true = true) ∧
 ((23 < 4294967281 ∧ true = true) ∧
 p (.d (.map kindsEs)))))) := by kernel_rfl
def c41 : Ct := ⟨fun | [] => True | _ => False, fun _ => some (.map kindsEs)⟩
def T41 : Tab := T71.add 41 c41
theorem k41 : TabOk B T41 := by
 refine add_body base k71 (fn := Tryz.f41) (cd := bodyOf Tryz.f41) (sp := noSp) (hn := noHn) Tryz.func41 (by kernel_rfl) (by kernel_rfl) noSp_ok fun ds r hp hr => ?_
 have e1 : ds = [] := by cases ds with | nil => rfl | cons a b => exact hp.elim
 have e2 : r = .map kindsEs := (Option.some.inj hr).symm
 rw [e1, e2]
 refine keep (w41 (fun v => v = .d (.map kindsEs))) ?_
 exact ⟨⟨by decide, rfl⟩, ⟨by decide, rfl⟩, ⟨by decide, rfl⟩, ⟨by decide, rfl⟩, Eq.refl _⟩
abbrev iC (y : D) (i : Nat) : D := .lit (.int .i64 (intOf (cellOf y i)))
abbrev bC (y : D) (i : Nat) : D := .lit (.bool (boolOf (cellOf y i)))
abbrev sC (y : D) (i : Nat) : D := .lit (.string (strOf (cellOf y i)))
abbrev lC (y : D) (i sz : Nat) : D := .slice (nilOf (cellOf y i)) sz (seqD (cellOf y i))
abbrev nV (y : D) : D := .lit (.string (strOf y))
abbrev mV (y : D) : D := .agg [iC y 0, sC y 1, sC y 2]
abbrev gV (y : D) : D := .agg [iC y 0, sC y 1, lC y 2 3, lC y 3 1]
abbrev cV (y : D) : D := .agg [sC y 0, iC y 1, sC y 2, iC y 3]
abbrev pV (y : D) : D := .agg [iC y 0, lC y 1 4, lC y 2 3]
abbrev eV (y : D) : D := .agg [iC y 0, iC y 1, lC y 2 3, iC y 3, iC y 4, iC y 5, iC y 6, lC y 7 1, bC y 8, iC y 9, lC y 10 4, iC y 11, lC y 12 4, lC y 13 3, sC y 14, lC y 15 16]
abbrev paV (y : D) : D := .agg [iC y 11, lC y 12 4, lC y 13 3]
abbrev subs (y : D) (i : Nat) : List D := seqD (cellOf y i)
def Short (xs : List D) : Prop := xs.length ≤ 1152921504606846976
def FitM (x : D) : Prop := mV x = x
def FitC (x : D) : Prop := cV x = x
def FitN (x : D) : Prop := nV x = x
inductive FitP : D → Prop
 | mk {y : D} (h : pV y = y) (hl : Short (subs y 1) ∧ Short (subs y 2)) (hc : ∀ c ∈ subs y 1, FitC c) (ha : ∀ a ∈ subs y 2, FitP a) : FitP y
structure FitG (y : D) : Prop where
 v : gV y = y
 ml : Short (subs y 2)
 nl : Short (subs y 3)
 m : ∀ m ∈ subs y 2, FitM m
 n : ∀ n ∈ subs y 3, FitN n
inductive FitE : D → Prop
 | mk {y : D} (h : eV y = y) (hl : (Short (subs y 2) ∧ Short (subs y 7)) ∧ (Short (subs y 10) ∧ Short (subs y 15))) (hm : ∀ m ∈ subs y 2, FitM m) (hn : ∀ n ∈ subs y 7, FitN n) (hs : ∀ s ∈ subs y 10, FitG s) (hp : FitP (paV y)) (ha : ∀ a ∈ subs y 15, FitE a) : FitE y
noncomputable abbrev dsz (y : D) : Nat := SizeOf.sizeOf y
theorem subs_lt {y a : D} {i : Nat} (h : a ∈ subs y i) : dsz a < dsz y := by
 have key : ∀ x : D, a ∈ seqD x → dsz a < dsz x := fun x hx => by
  cases x with
  | slice b z xs => have := List.sizeOf_lt_of_mem (show a ∈ xs from hx); simp only [dsz, D.slice.sizeOf_spec]; omega
  | _ => cases hx
 unfold subs cellOf at h
 rw [List.getD_eq_getElem?_getD] at h
 cases hg : y.cells[i]? with
 | none => rw [hg] at h; cases h
 | some c =>
  rw [hg] at h
  have h1 := key c h
  cases y with
  | agg cs => have := List.sizeOf_lt_of_mem (List.mem_of_getElem? (show cs[i]? = some c from hg)); simp only [dsz, D.agg.sizeOf_spec] at h1 ⊢; omega
  | _ =>
   have := List.mem_of_getElem? hg
   simp only [D.cells, List.mem_singleton] at this
   subst this; exact h1
noncomputable def ptot (y : D) : Nat := 1 + ((subs y 2).attach.map fun ⟨a, h⟩ => ptot a).sum
termination_by dsz y
decreasing_by exact subs_lt h
theorem ptot_eq (y : D) : ptot y = 1 + ((subs y 2).map ptot).sum := by
 rw [ptot]; simp
def maxL (l : List Nat) : Nat := l.foldl max 0
noncomputable def pdep (y : D) : Nat := 1 + maxL ((subs y 2).attach.map fun ⟨a, h⟩ => pdep a)
termination_by dsz y
decreasing_by exact subs_lt h
theorem pdep_eq (y : D) : pdep y = 1 + maxL ((subs y 2).map pdep) := by
 rw [pdep]; simp
noncomputable def edep (y : D) : Nat := 1 + maxL ((subs y 15).attach.map fun ⟨a, h⟩ => edep a)
termination_by dsz y
decreasing_by exact subs_lt h
theorem edep_eq (y : D) : edep y = 1 + maxL ((subs y 15).map edep) := by
 rw [edep]; simp
def hasPat (y : D) : Bool := decide (intOf (cellOf y 11) ≠ 0) || (decide (0 < (subs y 12).length) || decide (0 < (subs y 13).length))
noncomputable def etot (y : D) : Nat := 1 + min (subs y 10).length 100 + (bif hasPat y then ptot (paV y) else 0) + ((subs y 15).attach.map fun ⟨a, h⟩ => etot a).sum
termination_by dsz y
decreasing_by exact subs_lt h
theorem etot_eq (y : D) : etot y = 1 + min (subs y 10).length 100 + (bif hasPat y then ptot (paV y) else 0) + ((subs y 15).map etot).sum := by
 rw [etot]; simp
def cap (n : Nat) : Nat := min n 101
noncomputable def c53 : Ct := ⟨fun | [x, .lit (.int .i64 n)] => FitP x ∧ 0 ≤ n ∧ n ≤ 100 | _ => False, fun | [x, .lit (.int .i64 n)] => some (.lit (.int .i64 (cap (n.toNat + ptot x) : Nat))) | _ => none⟩
noncomputable def μ1 (ds : List D) : Nat := dsz (ds.headD .any)
noncomputable def U53 (n : Nat) : Tab := T41.add 53 (c53.below μ1 n)
noncomputable def T53 : Tab := T41.add 53 c53
def c74 : Ct := ⟨fun | [x] => FitE x | _ => False, fun | [x] => some (.lit (.bool (hasPat x))) | _ => none⟩
noncomputable def T74 : Tab := T53.add 74 c74
noncomputable def c47 : Ct := ⟨fun | [x, .lit (.int .i64 n)] => FitE x ∧ 0 ≤ n ∧ n ≤ 100 | _ => False, fun | [x, .lit (.int .i64 n)] => some (.lit (.int .i64 (cap (n.toNat + etot x) : Nat))) | _ => none⟩
noncomputable def U47 (n : Nat) : Tab := T74.add 47 (c47.below μ1 n)
noncomputable def T47 : Tab := T74.add 47 c47
noncomputable def c19 : Ct := ⟨fun | [x] => FitE x | _ => False, fun | [x] => some (.lit (.int .i64 (cap (etot x) : Nat))) | _ => none⟩
noncomputable def T19 : Tab := T47.add 19 c19
noncomputable def c54 : Ct := ⟨fun | [x] => FitP x ∧ ptot x ≤ 100 | _ => False, fun | [x] => some (.lit (.int .i64 (pdep x : Nat))) | _ => none⟩
noncomputable def U54 (n : Nat) : Tab := T19.add 54 (c54.below μ1 n)
noncomputable def T54 : Tab := T19.add 54 c54
noncomputable def c43 : Ct := ⟨fun | [x] => FitE x ∧ etot x ≤ 100 | _ => False, fun | [x] => some (.lit (.int .i64 (edep x : Nat))) | _ => none⟩
noncomputable def U43 (n : Nat) : Tab := T54.add 43 (c43.below μ1 n)
noncomputable def T43 : Tab := T54.add 43 c43
noncomputable def l53 : Code := roundOf (pieceAt (bodyOf Tryz.f53) 6)
noncomputable def l47 : Code := roundOf (pieceAt (bodyOf Tryz.f47) 10)
noncomputable def l54 : Code := roundOf (pieceAt (bodyOf Tryz.f54) 6)
noncomputable def l43 : Code := roundOf (pieceAt (bodyOf Tryz.f43) 6)
noncomputable def S53 (κ : Nat) : Ev.Spec := { L := [1,10,11,12], ns := [], L' := [1], nm' := [], G := fun N vals bs k => match vals, bs with
 | [.d (.lit (.int .i64 m)), .d (.slice b 3 xs), .d (.lit (.int .i64 n)), .d (.lit (.int .i64 i))], [] => ∃ a : Nat, (N = 24 ∧ i = 0 ∧ n = xs.length ∧ m = (cap a : Nat) ∧ ∀ y ∈ xs, FitP y ∧ dsz y < κ) ∧ k (.exit 0) [lint (cap (a + (xs.map ptot).sum) : Nat)] []
 | _, _ => False }
noncomputable def S47 (κ : Nat) : Ev.Spec := { L := [1,25,26,27], ns := [], L' := [1], nm' := [], G := fun N vals bs k => match vals, bs with
 | [.d (.lit (.int .i64 m)), .d (.slice b 16 xs), .d (.lit (.int .i64 n)), .d (.lit (.int .i64 i))], [] => ∃ a : Nat, (N = 39 ∧ i = 0 ∧ n = xs.length ∧ 0 ≤ m ∧ min m 101 = (cap a : Nat) ∧ ∀ y ∈ xs, FitE y ∧ dsz y < κ) ∧ ∀ m' : Int, min m' 101 = (cap (a + (xs.map etot).sum) : Nat) → k (.exit 0) [lint m'] []
 | _, _ => False }
noncomputable def S54 (κ : Nat) : Ev.Spec := { L := [3,7,8,9], ns := [], L' := [3], nm' := [], G := fun N vals bs k => match vals, bs with
 | [.d (.lit (.int .i64 m)), .d (.slice b 3 xs), .d (.lit (.int .i64 n)), .d (.lit (.int .i64 i))], [] => (N = 20 ∧ i = 0 ∧ n = xs.length ∧ m = 0 ∧ xs.length ≤ 100 ∧ ∀ y ∈ xs, (FitP y ∧ ptot y ≤ 100) ∧ dsz y < κ) ∧ k (.exit 0) [lint (maxL (xs.map pdep) : Nat)] []
 | _, _ => False }
noncomputable def S43 (κ : Nat) : Ev.Spec := { L := [3,7,8,9], ns := [], L' := [3], nm' := [], G := fun N vals bs k => match vals, bs with
 | [.d (.lit (.int .i64 m)), .d (.slice b 16 xs), .d (.lit (.int .i64 n)), .d (.lit (.int .i64 i))], [] => (N = 20 ∧ i = 0 ∧ n = xs.length ∧ m = 0 ∧ xs.length ≤ 100 ∧ ∀ y ∈ xs, (FitE y ∧ etot y ≤ 100) ∧ dsz y < κ) ∧ k (.exit 0) [lint (maxL (xs.map edep) : Nat)] []
 | _, _ => False }
theorem b53 (κ : Nat) (xs : List D) (i : Int) (n : Int) (m : Int) (b : Bool) (R : X → List V → List Box → Prop) : (roundT (Cn (U53 κ)) (U53 κ) noCS 0 noSp noHn l53 24 [1, 10, 11, 12] [] [] [] [1] []
 [lint m, V.d (D.slice b 3 xs), lint n, lint i] [] R) =
 (bif decide (i < n) then
 ((((0 : Int) ≤ i) ∧ (i.toNat < xs.length ∧ pV (xs.getD i.toNat D.any) = xs.getD i.toNat D.any)) ∧
 (bif decide (m > 100) then
 (24 = 24 ∧
 R (X.exit 0) [V.d (D.lit (Value.int IntKind.i64 m))] []) else
 (((FitP (pV (xs.getD i.toNat D.any)) ∧ (((0 : Int) ≤ m) ∧ ((m : Int) ≤ 100))) ∧ μ1 [pV (xs.getD i.toNat D.any), D.lit (Value.int IntKind.i64 m)] < κ) ∧
 (24 = 24 ∧
 R X.normal
 [V.d (D.lit (Value.int IntKind.i64 (↑(cap (m.toNat + ptot (pV (xs.getD i.toNat D.any)))) : Int))),
 V.d (D.slice b 3 xs), V.d (D.lit (Value.int IntKind.i64 n)),
 V.d (D.lit (Value.int IntKind.i64 (IntKind.i64.wrap (i + 1))))]
 [])))) else
 (24 = 24 ∧
 R (X.exit 0) [V.d (D.lit (Value.int IntKind.i64 m))] [])) := by kernel_rfl
theorem w53 (κ : Nat) (y : D) (n : Int) (p : V → Prop) : (evBodyT (Cn (U53 κ)) (U53 κ) noCS 0 (spL [(6, S53 κ)]) noHn 53 [V.d (pV y), lint n] Heap.empty fun v H =>
 p (freezeR H v)) =
 (∃ (a : Nat), ((24 = 24 ∧ (((0 : Int) = 0) ∧ ((((↑(seqD (cellOf y 2)).length : Int) : Int) = (↑(seqD (cellOf y 2)).length : Int)) ∧ (((IntKind.i64.wrap (n + 1) : Int) = (↑(cap a) : Int)) ∧ ∀ (y_1 : D), y_1 ∈ seqD (cellOf y 2) → FitP y_1 ∧ dsz y_1 < κ)))) ∧
 p
 (V.d
 (D.lit
 (Value.int IntKind.i64
 (bif false then
 if 101 > (↑(cap (a + (List.map ptot (seqD (cellOf y 2))).sum)) : Int) then 101
 else (↑(cap (a + (List.map ptot (seqD (cellOf y 2))).sum)) : Int)
 else
 if 101 < (↑(cap (a + (List.map ptot (seqD (cellOf y 2))).sum)) : Int) then 101
 else (↑(cap (a + (List.map ptot (seqD (cellOf y 2))).sum)) : Int))))))) := by kernel_rfl
theorem w74 (y : D) (p : V → Prop) : (evBodyT (Cn T53) T53 noCS 0 noSp noHn 74 [V.d (eV y)] Heap.empty fun v H => p (freezeR H v)) =
 p
 (V.d
 (D.lit
 (Value.bool
 (bif bif intOf (cellOf y 11) != 0 then true else decide ((↑(seqD (cellOf y 12)).length : Int) > 0) then true
 else decide ((↑(seqD (cellOf y 13)).length : Int) > 0))))) := by kernel_rfl
theorem b47 (κ : Nat) (xs : List D) (i : Int) (n : Int) (m : Int) (b : Bool) (R : X → List V → List Box → Prop) : (roundT (Cn (U47 κ)) (U47 κ) noCS 0 noSp noHn l47 39 [1, 25, 26, 27] [] [] [] [1] []
 [lint m, V.d (D.slice b 16 xs), lint n, lint i] [] R) =
 (bif decide (i < n) then
 ((((0 : Int) ≤ i) ∧ (i.toNat < xs.length ∧ eV (xs.getD i.toNat D.any) = xs.getD i.toNat D.any)) ∧
 (bif decide (m > 100) then
 (39 = 39 ∧
 R (X.exit 0) [V.d (D.lit (Value.int IntKind.i64 m))] []) else
 (((FitE (eV (xs.getD i.toNat D.any)) ∧ (((0 : Int) ≤ m) ∧ ((m : Int) ≤ 100))) ∧ μ1 [eV (xs.getD i.toNat D.any), D.lit (Value.int IntKind.i64 m)] < κ) ∧
 (39 = 39 ∧
 R X.normal
 [V.d (D.lit (Value.int IntKind.i64 (↑(cap (m.toNat + etot (eV (xs.getD i.toNat D.any)))) : Int))),
 V.d (D.slice b 16 xs), V.d (D.lit (Value.int IntKind.i64 n)),
 V.d (D.lit (Value.int IntKind.i64 (IntKind.i64.wrap (i + 1))))]
 [])))) else
 (39 = 39 ∧
 R (X.exit 0) [V.d (D.lit (Value.int IntKind.i64 m))] [])) := by kernel_rfl
theorem w47 (κ : Nat) (y : D) (n : Int) (p : V → Prop) : (evBodyT (Cn (U47 κ)) (U47 κ) noCS 0 (spL [(10, S47 κ)]) noHn 47 [V.d (eV y), lint n] Heap.empty fun v H =>
 p (freezeR H v)) =
 (FitE (eV y) ∧
 (bif bif hasPat (eV y) then
 decide
 (IntKind.i64.wrap
 (n +
 IntKind.i64.wrap
 (1 +
 bif false then
 if 100 > (↑(seqD (cellOf y 10)).length : Int) then 100 else (↑(seqD (cellOf y 10)).length : Int)
 else if 100 < (↑(seqD (cellOf y 10)).length : Int) then 100 else (↑(seqD (cellOf y 10)).length : Int))) ≤
 100)
 else false then
 ((FitP (paV y) ∧ (((0 : Int) ≤ IntKind.i64.wrap
 (n +
 IntKind.i64.wrap
 (1 +
 bif false then if 100 > (↑(seqD (cellOf y 10)).length : Int) then 100 else (↑(seqD (cellOf y 10)).length : Int)
 else if 100 < (↑(seqD (cellOf y 10)).length : Int) then 100 else (↑(seqD (cellOf y 10)).length : Int)))) ∧ ((IntKind.i64.wrap
 (n +
 IntKind.i64.wrap
 (1 +
 bif false then if 100 > (↑(seqD (cellOf y 10)).length : Int) then 100 else (↑(seqD (cellOf y 10)).length : Int)
 else if 100 < (↑(seqD (cellOf y 10)).length : Int) then 100 else (↑(seqD (cellOf y 10)).length : Int))) : Int) ≤ 100))) ∧
 (∃ (a : Nat), ((39 = 39 ∧ (((0 : Int) = 0) ∧ ((((↑(seqD (cellOf y 15)).length : Int) : Int) = (↑(seqD (cellOf y 15)).length : Int)) ∧ (((0 : Int) ≤ (↑(cap
 ((IntKind.i64.wrap
 (n +
 IntKind.i64.wrap
 (1 +
 bif false then
 if 100 > (↑(seqD (cellOf y 10)).length : Int) then 100 else (↑(seqD (cellOf y 10)).length : Int)
 else
 if 100 < (↑(seqD (cellOf y 10)).length : Int) then 100
 else (↑(seqD (cellOf y 10)).length : Int)))).toNat +
 ptot (paV y))) :
 Int)) ∧ (((min
 (↑(cap
 ((IntKind.i64.wrap
 (n +
 IntKind.i64.wrap
 (1 +
 bif false then
 if 100 > (↑(seqD (cellOf y 10)).length : Int) then 100 else (↑(seqD (cellOf y 10)).length : Int)
 else
 if 100 < (↑(seqD (cellOf y 10)).length : Int) then 100
 else (↑(seqD (cellOf y 10)).length : Int)))).toNat +
 ptot (paV y))) :
 Int)
 101 : Int) = (↑(cap a) : Int)) ∧ ∀ (y_1 : D), y_1 ∈ seqD (cellOf y 15) → FitE y_1 ∧ dsz y_1 < κ))))) ∧
 (∀ z0 : Int, (((min z0 101 : Int) = (↑(cap (a + (List.map etot (seqD (cellOf y 15))).sum)) : Int)) → p (V.d (D.lit (Value.int IntKind.i64 (bif false then if 101 > z0 then 101 else z0 else if 101 < z0 then 101 else z0))))))))) else
 (∃ (a : Nat), ((39 = 39 ∧ (((0 : Int) = 0) ∧ ((((↑(seqD (cellOf y 15)).length : Int) : Int) = (↑(seqD (cellOf y 15)).length : Int)) ∧ (((0 : Int) ≤ IntKind.i64.wrap
 (n +
 IntKind.i64.wrap
 (1 +
 bif false then if 100 > (↑(seqD (cellOf y 10)).length : Int) then 100 else (↑(seqD (cellOf y 10)).length : Int)
 else if 100 < (↑(seqD (cellOf y 10)).length : Int) then 100 else (↑(seqD (cellOf y 10)).length : Int)))) ∧ (((min
 (IntKind.i64.wrap
 (n +
 IntKind.i64.wrap
 (1 +
 bif false then
 if 100 > (↑(seqD (cellOf y 10)).length : Int) then 100 else (↑(seqD (cellOf y 10)).length : Int)
 else if 100 < (↑(seqD (cellOf y 10)).length : Int) then 100 else (↑(seqD (cellOf y 10)).length : Int))))
 101 : Int) = (↑(cap a) : Int)) ∧ ∀ (y_1 : D), y_1 ∈ seqD (cellOf y 15) → FitE y_1 ∧ dsz y_1 < κ))))) ∧
 (∀ z1 : Int, (((min z1 101 : Int) = (↑(cap (a + (List.map etot (seqD (cellOf y 15))).sum)) : Int)) → p (V.d (D.lit (Value.int IntKind.i64 (bif false then if 101 > z1 then 101 else z1 else if 101 < z1 then 101 else z1)))))))))) := by kernel_rfl
theorem w19 (y : D) (p : V → Prop) : (evBodyT (Cn T47) T47 noCS 0 noSp noHn 19 [V.d (eV y)] Heap.empty fun v H => p (freezeR H v)) =
 ((FitE (eV y) ∧ (((0 : Int) ≤ 0) ∧ ((0 : Int) ≤ 100))) ∧
 p (V.d (D.lit (Value.int IntKind.i64 (↑(cap (0 + etot (eV y))) : Int))))) := by kernel_rfl
theorem b54 (κ : Nat) (xs : List D) (i : Int) (n : Int) (m : Int) (b : Bool) (R : X → List V → List Box → Prop) : (roundT (Cn (U54 κ)) (U54 κ) noCS 0 noSp noHn l54 20 [3, 7, 8, 9] [] [] [] [3] []
 [lint m, V.d (D.slice b 3 xs), lint n, lint i] [] R) =
 (bif decide (i < n) then
 ((((0 : Int) ≤ i) ∧ (i.toNat < xs.length ∧ pV (xs.getD i.toNat D.any) = xs.getD i.toNat D.any)) ∧
 (((FitP (pV (xs.getD i.toNat D.any)) ∧ ptot (pV (xs.getD i.toNat D.any)) ≤ 100) ∧ μ1 [pV (xs.getD i.toNat D.any)] < κ) ∧
 (20 = 20 ∧
 R X.normal
 [V.d
 (D.lit
 (Value.int IntKind.i64
 (bif true then
 if (↑(pdep (pV (xs.getD i.toNat D.any))) : Int) > m then (↑(pdep (pV (xs.getD i.toNat D.any))) : Int) else m
 else
 if (↑(pdep (pV (xs.getD i.toNat D.any))) : Int) < m then (↑(pdep (pV (xs.getD i.toNat D.any))) : Int)
 else m))),
 V.d (D.slice b 3 xs), V.d (D.lit (Value.int IntKind.i64 n)),
 V.d (D.lit (Value.int IntKind.i64 (IntKind.i64.wrap (i + 1))))]
 []))) else
 (20 = 20 ∧
 R (X.exit 0) [V.d (D.lit (Value.int IntKind.i64 m))] [])) := by kernel_rfl
theorem w54 (κ : Nat) (y : D) (p : V → Prop) : (evBodyT (Cn (U54 κ)) (U54 κ) noCS 0 (spL [(6, S54 κ)]) noHn 54 [V.d (pV y)] Heap.empty fun v H => p (freezeR H v)) =
 ((20 = 20 ∧ (((0 : Int) = 0) ∧ ((((↑(seqD (cellOf y 2)).length : Int) : Int) = (↑(seqD (cellOf y 2)).length : Int)) ∧ (((0 : Int) = 0) ∧ ((seqD (cellOf y 2)).length ≤ 100 ∧ ∀ (y_1 : D), y_1 ∈ seqD (cellOf y 2) → (FitP y_1 ∧ ptot y_1 ≤ 100) ∧ dsz y_1 < κ))))) ∧
 p (V.d (D.lit (Value.int IntKind.i64 (IntKind.i64.wrap ((↑(maxL (List.map pdep (seqD (cellOf y 2)))) : Int) + 1)))))) := by kernel_rfl
theorem b43 (κ : Nat) (xs : List D) (i : Int) (n : Int) (m : Int) (b : Bool) (R : X → List V → List Box → Prop) : (roundT (Cn (U43 κ)) (U43 κ) noCS 0 noSp noHn l43 20 [3, 7, 8, 9] [] [] [] [3] []
 [lint m, V.d (D.slice b 16 xs), lint n, lint i] [] R) =
 (bif decide (i < n) then
 ((((0 : Int) ≤ i) ∧ (i.toNat < xs.length ∧ eV (xs.getD i.toNat D.any) = xs.getD i.toNat D.any)) ∧
 (((FitE (eV (xs.getD i.toNat D.any)) ∧ etot (eV (xs.getD i.toNat D.any)) ≤ 100) ∧ μ1 [eV (xs.getD i.toNat D.any)] < κ) ∧
 (20 = 20 ∧
 R X.normal
 [V.d
 (D.lit
 (Value.int IntKind.i64
 (bif true then
 if (↑(edep (eV (xs.getD i.toNat D.any))) : Int) > m then (↑(edep (eV (xs.getD i.toNat D.any))) : Int) else m
 else
 if (↑(edep (eV (xs.getD i.toNat D.any))) : Int) < m then (↑(edep (eV (xs.getD i.toNat D.any))) : Int)
 else m))),
 V.d (D.slice b 16 xs), V.d (D.lit (Value.int IntKind.i64 n)),
 V.d (D.lit (Value.int IntKind.i64 (IntKind.i64.wrap (i + 1))))]
 []))) else
 (20 = 20 ∧
 R (X.exit 0) [V.d (D.lit (Value.int IntKind.i64 m))] [])) := by kernel_rfl
theorem w43 (κ : Nat) (y : D) (p : V → Prop) : (evBodyT (Cn (U43 κ)) (U43 κ) noCS 0 (spL [(6, S43 κ)]) noHn 43 [V.d (eV y)] Heap.empty fun v H => p (freezeR H v)) =
 ((20 = 20 ∧ (((0 : Int) = 0) ∧ ((((↑(seqD (cellOf y 15)).length : Int) : Int) = (↑(seqD (cellOf y 15)).length : Int)) ∧ (((0 : Int) = 0) ∧ ((seqD (cellOf y 15)).length ≤ 100 ∧ ∀ (y_1 : D), y_1 ∈ seqD (cellOf y 15) → (FitE y_1 ∧ etot y_1 ≤ 100) ∧ dsz y_1 < κ))))) ∧
 p (V.d (D.lit (Value.int IntKind.i64 (IntKind.i64.wrap ((↑(maxL (List.map edep (seqD (cellOf y 15)))) : Int) + 1)))))) := by kernel_rfl
def psum (f : D → Nat) (xs : List D) (i : Nat) : Nat := ((xs.take i).map f).sum
theorem psum_succ {f : D → Nat} {xs : List D} {i : Nat} (h : i < xs.length) : psum f xs (i + 1) = psum f xs i + f (xs.getD i .any) := by
 unfold psum
 rw [List.take_add_one, List.map_append, List.sum_append, List.getElem?_eq_getElem h, List.getD_eq_getElem?_getD, List.getElem?_eq_getElem h]
 simp
theorem psum_all {f : D → Nat} {xs : List D} : psum f xs xs.length = (xs.map f).sum := by unfold psum; rw [List.take_length]
theorem psum_le {f : D → Nat} {xs : List D} (i : Nat) : psum f xs i ≤ (xs.map f).sum := by
 have h := List.take_append_drop i xs
 unfold psum
 conv => rhs; rw [← h, List.map_append, List.sum_append]
 omega
theorem psum_ge {f : D → Nat} (hf : ∀ y, 1 ≤ f y) {xs : List D} : ∀ {i : Nat}, i ≤ xs.length → i ≤ psum f xs i
 | 0, _ => Nat.zero_le _
 | i + 1, h => by rw [psum_succ (by omega)]; have := psum_ge hf (i := i) (xs := xs) (by omega); have := hf (xs.getD i .any); omega
theorem getD_mem {xs : List D} {i : Nat} (h : i < xs.length) : xs.getD i .any ∈ xs := by
 rw [List.getD_eq_getElem?_getD, List.getElem?_eq_getElem h]; exact List.getElem_mem h
theorem ptot_pos (y : D) : 1 ≤ ptot y := by rw [ptot_eq]; omega
theorem etot_pos (y : D) : 1 ≤ etot y := by rw [etot_eq]; omega
theorem FitP.v {y : D} (h : FitP y) : pV y = y := by cases h; assumption
theorem FitE.v {y : D} (h : FitE y) : eV y = y := by cases h; assumption
theorem FitP.l {y : D} (h : FitP y) : Short (subs y 1) ∧ Short (subs y 2) := by cases h; assumption
theorem FitE.l {y : D} (h : FitE y) : (Short (subs y 2) ∧ Short (subs y 7)) ∧ (Short (subs y 10) ∧ Short (subs y 15)) := by cases h; assumption
theorem FitP.a {y : D} (h : FitP y) : ∀ a ∈ subs y 2, FitP a := by cases h; assumption
theorem FitE.a {y : D} (h : FitE y) : ∀ a ∈ subs y 15, FitE a := by cases h; assumption
theorem FitE.p {y : D} (h : FitE y) : FitP (paV y) := by cases h; assumption
theorem FitP.c {y : D} (h : FitP y) : ∀ c ∈ subs y 1, FitC c := by cases h; assumption
theorem FitE.m {y : D} (h : FitE y) : ∀ a ∈ subs y 2, FitM a := by cases h; assumption
theorem FitE.n {y : D} (h : FitE y) : ∀ a ∈ subs y 7, FitN a := by cases h; assumption
theorem FitE.s {y : D} (h : FitE y) : ∀ a ∈ subs y 10, FitG a := by cases h; assumption
theorem ok53 {κ : Nat} (hk : TabOk B (U53 κ)) : OkS (Cn (U53 κ)) 0 (.loop l53) (S53 κ) := by
 refine okS_loop fun N vals bs K h => ?_
 simp only [S53] at h
 split at h
 case h_2 => exact h.elim
 rename_i m b xs n i
 obtain ⟨a, ⟨rfl, rfl, rfl, rfl, hx⟩, h⟩ := h
 have main : ∀ k i, i + k = xs.length → LoopT (Cn (U53 κ)) 0 l53 24 [1,10,11,12] [] [1] [] [lint (cap (a + psum ptot xs i) : Nat), .d (.slice b 3 xs), lint xs.length, lint i] [] K := by
  intro k
  induction k with
  | zero =>
   intro i hi
   have : i = xs.length := by omega
   subst this
   refine loopT_step (tab_fit base hk noCS_valid) tab_has noSp_ok (hn := noHn) (adsI := []) (nsI := []) (nsX := []) rfl rfl (keep (b53 κ xs xs.length xs.length _ b _) ?_)
   have e1 : decide ((xs.length : Int) < xs.length) = false := by simp
   rw [e1, psum_all]
   exact ⟨rfl, h⟩
  | succ k ih =>
   intro i hi
   refine loopT_step (tab_fit base hk noCS_valid) tab_has noSp_ok (hn := noHn) (adsI := []) (nsI := []) (nsX := []) rfl rfl (keep (b53 κ xs i xs.length _ b _) ?_)
   have e1 : decide ((i : Int) < xs.length) = true := by simp; omega
   obtain ⟨hf, hlt⟩ := hx _ (getD_mem (xs := xs) (i := i) (by omega))
   have hv := hf.v
   rw [e1]
   simp only [Int.toNat_natCast, cond_true, hv]
   refine ⟨⟨by omega, by omega, trivial⟩, cond_split (fun hb => ⟨trivial, ?_⟩) (fun hb => ⟨⟨⟨hf, by omega, by simpa using hb⟩, hlt⟩, trivial, ?_⟩)⟩
   ·
    have := psum_le (f := ptot) (xs := xs) i
    simp at hb
    rw [show cap (a + psum ptot xs i) = cap (a + (xs.map ptot).sum) by simp only [cap] at hb ⊢; omega]
    exact h
   ·
    simp at hb
    unfold cap at hb
    have hge := psum_ge ptot_pos (xs := xs) (i := i) (by omega)
    rw [Go.IntWalk.i64_in _ (by omega)]
    have := ih (i + 1) (by omega)
    rw [psum_succ (by omega)] at this
    rw [show cap (cap (a + psum ptot xs i) + ptot (xs.getD i .any)) = cap (a + (psum ptot xs i + ptot (xs.getD i .any))) by simp only [cap]; omega]
    exact this
 have := main xs.length 0 (by omega)
 rw [show psum ptot xs 0 = 0 from by simp [psum]] at this
 exact this
theorem arg1 {x y : D} (h : y = x) : [x].map V.d = [V.d y] := by rw [h]; rfl
theorem arg2 {x y z : D} (h : y = x) : [x, z].map V.d = [V.d y, V.d z] := by rw [h]; rfl
theorem k53 : TabOk B T53 := by
 refine add_rec base k41 μ1 (fn := Tryz.f53) (cd := bodyOf Tryz.f53) (sp := fun n => spL [(6, S53 n)]) (hn := noHn) Tryz.func53 (by kernel_rfl) (by kernel_rfl) (fun n hk => specT_cons (c := .loop l53) (by kernel_rfl) (ok53 hk) specT_nil) fun κ ds r hp hm hr => ?_
 unfold c53 at hp hr
 simp only [] at hr hp
 split at hr
 ·
  rename_i x n
  cases hr
  obtain ⟨hf, h0, h1⟩ := hp
  rw [arg2 hf.v]
  refine keep (w53 κ x n fun v => v = _) ?_
  refine ⟨n.toNat + 1, ⟨rfl, rfl, rfl, by rw [Go.IntWalk.i64_in _ (by omega)]; unfold cap; omega, fun y hy => ⟨hf.a y hy, ?_⟩⟩, ?_⟩
  ·
   rw [← hm]; exact subs_lt hy
  ·
   have e := ptot_eq x
   unfold subs at e
   rw [show n.toNat + 1 + (List.map ptot (seqD (cellOf x 2))).sum = n.toNat + ptot x by omega]
   simp only [cond_false]
   rw [if_neg (by unfold cap; omega)]
 ·
  cases hr
theorem k74 : TabOk B T74 := by
 refine add_body base k53 (fn := Tryz.f74) (cd := bodyOf Tryz.f74) (sp := noSp) (hn := noHn) Tryz.func74 (by kernel_rfl) (by kernel_rfl) noSp_ok fun ds r hp hr => ?_
 unfold c74 at hp hr
 simp only [] at hr hp
 split at hr
 ·
  rename_i x
  cases hr
  rw [arg1 (FitE.v hp)]
  refine keep (w74 x fun v => v = _) ?_
  unfold hasPat
  congr 3
  cases h1 : (intOf (cellOf x 11) != 0) <;> simp_all
 ·
  cases hr
theorem ok47 {κ : Nat} (hk : TabOk B (U47 κ)) : OkS (Cn (U47 κ)) 0 (.loop l47) (S47 κ) := by
 refine okS_loop fun N vals bs K h => ?_
 simp only [S47] at h
 split at h
 case h_2 => exact h.elim
 rename_i m b xs n i
 obtain ⟨a, ⟨rfl, rfl, rfl, hm0, hm, hx⟩, h⟩ := h
 have main : ∀ k i (m : Int), i + k = xs.length → 0 ≤ m → min m 101 = (cap (a + psum etot xs i) : Nat) → LoopT (Cn (U47 κ)) 0 l47 39 [1,25,26,27] [] [1] [] [lint m, .d (.slice b 16 xs), lint xs.length, lint i] [] K := by
  intro k
  induction k with
  | zero =>
   intro i m hi hm0 hm
   have : i = xs.length := by omega
   subst this
   refine loopT_step (tab_fit base hk noCS_valid) tab_has noSp_ok (hn := noHn) (adsI := []) (nsI := []) (nsX := []) rfl rfl (keep (b47 κ xs xs.length xs.length _ b _) ?_)
   have e1 : decide ((xs.length : Int) < xs.length) = false := by simp
   rw [e1]
   rw [psum_all] at hm
   exact ⟨rfl, h m hm⟩
  | succ k ih =>
   intro i m hi hm0 hm
   refine loopT_step (tab_fit base hk noCS_valid) tab_has noSp_ok (hn := noHn) (adsI := []) (nsI := []) (nsX := []) rfl rfl (keep (b47 κ xs i xs.length _ b _) ?_)
   have e1 : decide ((i : Int) < xs.length) = true := by simp; omega
   obtain ⟨hf, hlt⟩ := hx _ (getD_mem (xs := xs) (i := i) (by omega))
   have hv := hf.v
   rw [e1]
   simp only [Int.toNat_natCast, cond_true, hv]
   refine ⟨⟨by omega, by omega, trivial⟩, cond_split (fun hb => ⟨trivial, ?_⟩) (fun hb => ⟨⟨⟨hf, hm0, by simpa using hb⟩, hlt⟩, trivial, ?_⟩)⟩
   ·
    have := psum_le (f := etot) (xs := xs) i
    simp at hb
    refine h m ?_
    simp only [cap] at hm ⊢
    omega
   ·
    simp at hb
    simp only [cap] at hm
    have hge := psum_ge etot_pos (xs := xs) (i := i) (by omega)
    rw [Go.IntWalk.i64_in _ (by omega)]
    refine ih (i + 1) _ (by omega) (by omega) ?_
    rw [psum_succ (by omega)]
    simp only [cap]
    omega
 exact main xs.length 0 m (by omega) hm0 (by simpa [psum] using hm)
theorem len_ptot {xs : List D} : xs.length ≤ (xs.map ptot).sum := by
 rw [← psum_all]; exact psum_ge ptot_pos (Nat.le_refl _)
theorem len_etot {xs : List D} : xs.length ≤ (xs.map etot).sum := by
 rw [← psum_all]; exact psum_ge etot_pos (Nat.le_refl _)
theorem le_sum {f : D → Nat} {y : D} : ∀ {xs : List D}, y ∈ xs → f y ≤ (xs.map f).sum
 | x :: xs, h => by
  rw [List.map_cons, List.sum_cons]
  rcases List.mem_cons.1 h with rfl | h
  ·
   omega
  ·
   have := le_sum (f := f) h; omega
theorem k47 : TabOk B T47 := by
 refine add_rec base k74 μ1 (fn := Tryz.f47) (cd := bodyOf Tryz.f47) (sp := fun n => spL [(10, S47 n)]) (hn := noHn) Tryz.func47 (by kernel_rfl) (by kernel_rfl) (fun n hk => specT_cons (c := .loop l47) (by kernel_rfl) (ok47 hk) specT_nil) fun κ ds r hp hm hr => ?_
 unfold c47 at hp hr
 simp only [] at hr hp
 split at hr
 ·
  rename_i x n
  cases hr
  obtain ⟨hf, h0, h1⟩ := hp
  rw [arg2 hf.v]
  refine keep (w47 κ x n fun v => v = _) ?_
  rw [hf.v]
  have hmin : (bif false then if 100 > ((seqD (cellOf x 10)).length : Int) then 100 else ((seqD (cellOf x 10)).length : Int) else if 100 < ((seqD (cellOf x 10)).length : Int) then 100 else ((seqD (cellOf x 10)).length : Int)) = (min (seqD (cellOf x 10)).length 100 : Nat) := by
   simp only [cond_false]; split <;> omega
  have et := etot_eq x
  unfold subs at et
  have key : ∀ m' : Int, min m' 101 = (cap (n.toNat + etot x) : Nat) → V.d (.lit (.int .i64 (bif false then if 101 > m' then 101 else m' else if 101 < m' then 101 else m'))) = V.d (.lit (.int .i64 (cap (n.toNat + etot x) : Nat))) := by
   intro m' h
   rw [← h]
   simp only [cond_false]
   rw [show (if (101 : Int) < m' then (101 : Int) else m') = min m' 101 by split <;> omega]
  simp only [hmin]
  rw [Go.IntWalk.i64_in (1 + _) (by omega), Go.IntWalk.i64_in _ (by omega)]
  refine ⟨hf, ?_⟩
  cases hh : hasPat x with
  | false =>
   rw [hh] at et
   simp only [cond_false] at et
   simp only [cond_false, Bool.false_and]
   refine ⟨n.toNat + 1 + min (seqD (cellOf x 10)).length 100, ⟨trivial, trivial, trivial, by omega, by simp only [cap]; omega, fun y hy => ⟨hf.a y hy, ?_⟩⟩, fun m' hm' => key m' ?_⟩
   ·
    rw [← hm]; exact subs_lt hy
   ·
    rw [hm']; simp only [cap]; omega
  | true =>
   rw [hh] at et
   simp only [cond_true] at et
   simp only [cond_true, Bool.true_and]
   refine cond_split (fun hb => ?_) (fun hb => ?_)
   ·
    simp only [decide_eq_true_eq] at hb
    refine ⟨⟨hf.p, by omega, hb⟩, n.toNat + 1 + min (seqD (cellOf x 10)).length 100 + ptot (paV x), ⟨trivial, trivial, trivial, by omega, by simp only [cap]; omega, fun y hy => ⟨hf.a y hy, ?_⟩⟩, fun m' hm' => key m' ?_⟩
    ·
     rw [← hm]; exact subs_lt hy
    ·
     rw [hm']; simp only [cap]; omega
   ·
    simp only [decide_eq_false_iff_not] at hb
    refine ⟨n.toNat + 1 + min (seqD (cellOf x 10)).length 100, ⟨trivial, trivial, trivial, by omega, by simp only [cap]; omega, fun y hy => ⟨hf.a y hy, ?_⟩⟩, fun m' hm' => key m' ?_⟩
    ·
     rw [← hm]; exact subs_lt hy
    ·
     rw [hm']; simp only [cap]; omega
 ·
  cases hr
theorem k19 : TabOk B T19 := by
 refine add_body base k47 (fn := Tryz.f19) (cd := bodyOf Tryz.f19) (sp := noSp) (hn := noHn) Tryz.func19 (by kernel_rfl) (by kernel_rfl) noSp_ok fun ds r hp hr => ?_
 unfold c19 at hp hr
 simp only [] at hr hp
 split at hr
 ·
  rename_i x
  cases hr
  rw [arg1 (FitE.v hp)]
  refine keep (w19 x fun v => v = _) ?_
  rw [FitE.v hp]
  exact ⟨⟨hp, by decide, by decide⟩, by simp⟩
 ·
  cases hr
theorem maxL_foldl (l : List Nat) (a : Nat) : l.foldl max a = max a (maxL l) := by
 unfold maxL
 induction l generalizing a with
 | nil => simp
 | cons x l ih => rw [List.foldl_cons, List.foldl_cons, ih, ih (max 0 x)]; omega
theorem maxL_cons (x : Nat) (l : List Nat) : maxL (x :: l) = max x (maxL l) := by
 show List.foldl max (max 0 x) l = _
 rw [maxL_foldl]; omega
theorem maxL_append (l m : List Nat) : maxL (l ++ m) = max (maxL l) (maxL m) := by
 induction l with
 | nil => simp [maxL]
 | cons x l ih => rw [List.cons_append, maxL_cons, maxL_cons, ih]; omega
theorem maxL_sum {f g : D → Nat} : ∀ {l : List D}, (∀ y ∈ l, f y ≤ g y) → maxL (l.map f) ≤ (l.map g).sum
 | [], _ => by simp [maxL]
 | x :: l, h => by
  rw [List.map_cons, List.map_cons, maxL_cons, List.sum_cons]
  have := h x (.head _)
  have := maxL_sum (l := l) (f := f) (g := g) fun y hy => h y (.tail _ hy)
  omega
theorem maxL_take_succ {f : D → Nat} {xs : List D} {i : Nat} (h : i < xs.length) : maxL ((xs.take (i + 1)).map f) = max (maxL ((xs.take i).map f)) (f (xs.getD i .any)) := by
 rw [List.take_add_one, List.map_append, maxL_append, List.getElem?_eq_getElem h, List.getD_eq_getElem?_getD, List.getElem?_eq_getElem h]
 simp [maxL]
theorem pdep_le : ∀ (n : Nat) (y : D), dsz y ≤ n → pdep y ≤ ptot y := by
 intro n
 induction n with
 | zero => intro y h; cases y <;> simp [dsz] at h
 | succ n ih =>
  intro y h
  rw [pdep_eq, ptot_eq]
  have := maxL_sum (l := subs y 2) (f := pdep) (g := ptot) fun z hz => ih z (by have := subs_lt hz; omega)
  omega
theorem edep_le : ∀ (n : Nat) (y : D), dsz y ≤ n → edep y ≤ etot y := by
 intro n
 induction n with
 | zero => intro y h; cases y <;> simp [dsz] at h
 | succ n ih =>
  intro y h
  rw [edep_eq, etot_eq]
  have := maxL_sum (l := subs y 15) (f := edep) (g := etot) fun z hz => ih z (by have := subs_lt hz; omega)
  omega
theorem ok54 {κ : Nat} (hk : TabOk B (U54 κ)) : OkS (Cn (U54 κ)) 0 (.loop l54) (S54 κ) := by
 refine okS_loop fun N vals bs K h => ?_
 simp only [S54] at h
 split at h
 case h_2 => exact h.elim
 rename_i m b xs n i
 obtain ⟨⟨rfl, rfl, rfl, rfl, hl, hx⟩, h⟩ := h
 have main : ∀ k i, i + k = xs.length → LoopT (Cn (U54 κ)) 0 l54 20 [3,7,8,9] [] [3] [] [lint (maxL ((xs.take i).map pdep) : Nat), .d (.slice b 3 xs), lint xs.length, lint i] [] K := by
  intro k
  induction k with
  | zero =>
   intro i hi
   have : i = xs.length := by omega
   subst this
   refine loopT_step (tab_fit base hk noCS_valid) tab_has noSp_ok (hn := noHn) (adsI := []) (nsI := []) (nsX := []) rfl rfl (keep (b54 κ xs xs.length xs.length _ b _) ?_)
   have e1 : decide ((xs.length : Int) < xs.length) = false := by simp
   rw [e1, List.take_length]
   exact ⟨rfl, h⟩
  | succ k ih =>
   intro i hi
   refine loopT_step (tab_fit base hk noCS_valid) tab_has noSp_ok (hn := noHn) (adsI := []) (nsI := []) (nsX := []) rfl rfl (keep (b54 κ xs i xs.length _ b _) ?_)
   have e1 : decide ((i : Int) < xs.length) = true := by simp; omega
   obtain ⟨hf, hlt⟩ := hx _ (getD_mem (xs := xs) (i := i) (by omega))
   have hv := hf.1.v
   rw [e1]
   simp only [Int.toNat_natCast, cond_true, hv]
   refine ⟨⟨by omega, by omega, trivial⟩, ⟨hf, hlt⟩, trivial, ?_⟩
   have := ih (i + 1) (by omega)
   rw [Go.IntWalk.i64_in _ (by omega)]
   rw [maxL_take_succ (by omega)] at this
   rw [show (if (pdep (xs.getD i .any) : Int) > (maxL ((xs.take i).map pdep) : Nat) then (pdep (xs.getD i .any) : Int) else (maxL ((xs.take i).map pdep) : Nat)) = (max (maxL ((xs.take i).map pdep)) (pdep (xs.getD i .any)) : Nat) by split <;> omega]
   exact this
 exact main xs.length 0 (by omega)
theorem k54 : TabOk B T54 := by
 refine add_rec base k19 μ1 (fn := Tryz.f54) (cd := bodyOf Tryz.f54) (sp := fun n => spL [(6, S54 n)]) (hn := noHn) Tryz.func54 (by kernel_rfl) (by kernel_rfl) (fun n hk => specT_cons (c := .loop l54) (by kernel_rfl) (ok54 hk) specT_nil) fun κ ds r hp hm hr => ?_
 unfold c54 at hp hr
 simp only [] at hr hp
 split at hr
 ·
  rename_i x
  cases hr
  obtain ⟨hf, h1⟩ := hp
  rw [arg1 hf.v]
  refine keep (w54 κ x fun v => v = _) ?_
  have e1 := ptot_eq x
  have e2 := pdep_eq x
  have e3 := pdep_le _ x (Nat.le_refl _)
  have e4 := len_ptot (xs := subs x 2)
  refine ⟨⟨rfl, rfl, rfl, rfl, by unfold subs at *; omega, fun y hy => ⟨⟨hf.a y hy, ?_⟩, ?_⟩⟩, ?_⟩
  ·
   have := le_sum (f := ptot) (xs := subs x 2) hy; omega
  ·
   rw [← hm]; exact subs_lt hy
  ·
   unfold subs at *
   rw [Go.IntWalk.i64_in _ (by omega), show ((maxL (List.map pdep (seqD (cellOf x 2))) : Nat) : Int) + 1 = (pdep x : Nat) by omega]
 ·
  cases hr
theorem ok43 {κ : Nat} (hk : TabOk B (U43 κ)) : OkS (Cn (U43 κ)) 0 (.loop l43) (S43 κ) := by
 refine okS_loop fun N vals bs K h => ?_
 simp only [S43] at h
 split at h
 case h_2 => exact h.elim
 rename_i m b xs n i
 obtain ⟨⟨rfl, rfl, rfl, rfl, hl, hx⟩, h⟩ := h
 have main : ∀ k i, i + k = xs.length → LoopT (Cn (U43 κ)) 0 l43 20 [3,7,8,9] [] [3] [] [lint (maxL ((xs.take i).map edep) : Nat), .d (.slice b 16 xs), lint xs.length, lint i] [] K := by
  intro k
  induction k with
  | zero =>
   intro i hi
   have : i = xs.length := by omega
   subst this
   refine loopT_step (tab_fit base hk noCS_valid) tab_has noSp_ok (hn := noHn) (adsI := []) (nsI := []) (nsX := []) rfl rfl (keep (b43 κ xs xs.length xs.length _ b _) ?_)
   have e1 : decide ((xs.length : Int) < xs.length) = false := by simp
   rw [e1, List.take_length]
   exact ⟨rfl, h⟩
  | succ k ih =>
   intro i hi
   refine loopT_step (tab_fit base hk noCS_valid) tab_has noSp_ok (hn := noHn) (adsI := []) (nsI := []) (nsX := []) rfl rfl (keep (b43 κ xs i xs.length _ b _) ?_)
   have e1 : decide ((i : Int) < xs.length) = true := by simp; omega
   obtain ⟨hf, hlt⟩ := hx _ (getD_mem (xs := xs) (i := i) (by omega))
   have hv := hf.1.v
   rw [e1]
   simp only [Int.toNat_natCast, cond_true, hv]
   refine ⟨⟨by omega, by omega, trivial⟩, ⟨hf, hlt⟩, trivial, ?_⟩
   have := ih (i + 1) (by omega)
   rw [Go.IntWalk.i64_in _ (by omega)]
   rw [maxL_take_succ (by omega)] at this
   rw [show (if (edep (xs.getD i .any) : Int) > (maxL ((xs.take i).map edep) : Nat) then (edep (xs.getD i .any) : Int) else (maxL ((xs.take i).map edep) : Nat)) = (max (maxL ((xs.take i).map edep)) (edep (xs.getD i .any)) : Nat) by split <;> omega]
   exact this
 exact main xs.length 0 (by omega)
theorem k43 : TabOk B T43 := by
 refine add_rec base k54 μ1 (fn := Tryz.f43) (cd := bodyOf Tryz.f43) (sp := fun n => spL [(6, S43 n)]) (hn := noHn) Tryz.func43 (by kernel_rfl) (by kernel_rfl) (fun n hk => specT_cons (c := .loop l43) (by kernel_rfl) (ok43 hk) specT_nil) fun κ ds r hp hm hr => ?_
 unfold c43 at hp hr
 simp only [] at hr hp
 split at hr
 ·
  rename_i x
  cases hr
  obtain ⟨hf, h1⟩ := hp
  rw [arg1 hf.v]
  refine keep (w43 κ x fun v => v = _) ?_
  have e1 := etot_eq x
  have e2 := edep_eq x
  have e3 := edep_le _ x (Nat.le_refl _)
  have e4 := len_etot (xs := subs x 15)
  refine ⟨⟨rfl, rfl, rfl, rfl, by unfold subs at *; omega, fun y hy => ⟨⟨hf.a y hy, ?_⟩, ?_⟩⟩, ?_⟩
  ·
   have := le_sum (f := etot) (xs := subs x 15) hy; omega
  ·
   rw [← hm]; exact subs_lt hy
  ·
   unfold subs at *
   rw [Go.IntWalk.i64_in _ (by omega), show ((maxL (List.map edep (seqD (cellOf x 15))) : Nat) : Int) + 1 = (edep x : Nat) by omega]
 ·
  cases hr
def firstF (f : D → Int) (xs : List D) (i : Nat) : Option Int := bif f (xs.getD i .any) != 0 then some (f (xs.getD i .any)) else none
noncomputable def mOneE (y : D) : Int :=
 (bif bif decide (intOf (cellOf y 0) < 1) then true else decide (intOf (cellOf y 0) > 4) then
 8 else
 (bif labelsE [D.agg [D.lit (Value.string (strOf (cellOf y 1))), D.lit (Value.string (ByteArray.mk (Array.mk [120])))]] != 0 then
 5 else
 (bif bif intOf (cellOf y 0) == 3 then true else intOf (cellOf y 0) == 4 then
 (rxErr (strOf (cellOf y 2))) else
 (bif decide ((↑(strOf (cellOf y 2)).size : Int) > 200) then
 4 else
 0))))
noncomputable def c148 : Ct := ⟨fun | [x] => FitM x | _ => False, fun | [x] => some (.lit (.int .i64 (mOneE x))) | _ => none⟩
noncomputable def T148 : Tab := T43.add 148 c148
theorem w148 (y : D) (p : V → Prop) : (evBodyT (Cn T43) T43 noCS 0 noSp noHn 148 [V.d (mV y)] Heap.empty fun v H => p (freezeR H v)) =
 (bif bif decide (intOf (cellOf y 0) < 1) then true else decide (intOf (cellOf y 0) > 4) then
 p (V.d (D.lit (Value.int IntKind.i64 8))) else
 ((2 = 2 ∧ AllT 209 [D.agg [D.lit (Value.string (strOf (cellOf y 1))), D.lit (Value.string (ByteArray.mk (Array.mk [120])))]]) ∧
 (bif labelsE [D.agg [D.lit (Value.string (strOf (cellOf y 1))), D.lit (Value.string (ByteArray.mk (Array.mk [120])))]] != 0 then
 p (V.d (D.lit (Value.int IntKind.i64 5))) else
 (bif bif intOf (cellOf y 0) == 3 then true else intOf (cellOf y 0) == 4 then
 (True ∧
 p (V.d (D.lit (Value.int IntKind.i64 (rxErr (strOf (cellOf y 2))))))) else
 (bif decide ((↑(strOf (cellOf y 2)).size : Int) > 200) then
 p (V.d (D.lit (Value.int IntKind.i64 4))) else
 p (V.d (D.lit (Value.int IntKind.i64 0)))))))) := by kernel_rfl
noncomputable def l78 : Code := roundOf (pieceAt (bodyOf Tryz.f78) 8)
noncomputable def S78 : Ev.Spec := { L := [9,10,11], ns := [], L' := [2], nm' := [], G := fun N vals bs k => match vals, bs with
 | [.d (.slice b 3 xs), .d (.lit (.int .i64 n)), .d (.lit (.int .i64 i))], [] => (N = 21 ∧ i = 0 ∧ n = xs.length ∧ xs.length ≤ 16 ∧ ∀ y ∈ xs, FitM y) ∧ optE (search (firstF mOneE xs) xs.length) (k (.exit 0) [.any] []) (fun e => k .ret [lint e] [])
 | _, _ => False }
theorem b78 (xs : List D) (i : Int) (n : Int) (b : Bool) (R : X → List V → List Box → Prop) : (roundT (Cn T148) T148 noCS 0 noSp noHn l78 21 [9, 10, 11] [] [] [] [2] [] [V.d (D.slice b 3 xs), lint n, lint i] [] R) =
 (bif decide (i < n) then
 ((((0 : Int) ≤ i) ∧ (i.toNat < xs.length ∧ mV (xs.getD i.toNat D.any) = xs.getD i.toNat D.any)) ∧
 (D.agg
 [D.lit (Value.int IntKind.i64 (intOf (D.lit (Value.int IntKind.i64 (intOf (cellOf (xs.getD i.toNat D.any) 0)))))),
 D.lit (Value.string (strOf (D.lit (Value.string (strOf (cellOf (xs.getD i.toNat D.any) 1)))))),
 D.lit (Value.string (strOf (D.lit (Value.string (strOf (cellOf (xs.getD i.toNat D.any) 2))))))] =
 mV (xs.getD i.toNat D.any) ∧
 (bif mOneE (mV (xs.getD i.toNat D.any)) != 0 then
 (21 = 21 ∧
 R X.ret [V.d (D.lit (Value.int IntKind.i64 (mOneE (mV (xs.getD i.toNat D.any)))))] []) else
 (21 = 21 ∧
 R X.normal
 [V.d (D.slice b 3 xs), V.d (D.lit (Value.int IntKind.i64 n)),
 V.d (D.lit (Value.int IntKind.i64 (IntKind.i64.wrap (i + 1))))]
 [])))) else
 (21 = 21 ∧
 R (X.exit 0) [V.any] [])) := by kernel_rfl
theorem w78 (xs : List D) (b : Bool) (p : V → Prop) : (evBodyT (Cn T148) T148 noCS 0 (spL [(8, S78)]) noHn 78 [V.d (D.slice b 3 xs)] Heap.empty fun v H => p (freezeR H v)) =
 (bif decide ((↑xs.length : Int) > 16) then
 p (V.d (D.lit (Value.int IntKind.i64 4))) else
 ((21 = 21 ∧ (((0 : Int) = 0) ∧ ((((↑xs.length : Int) : Int) = (↑xs.length : Int)) ∧ (xs.length ≤ 16 ∧ ∀ (y : D), y ∈ xs → FitM y)))) ∧
 (match search (firstF mOneE xs) xs.length with
 | some y0 =>
 p (V.d (D.lit (Value.int IntKind.i64 y0)))
 | none => p (V.d (D.lit (Value.int IntKind.i64 0)))))) := by kernel_rfl
noncomputable def matchersE (xs : List D) : Int :=
 (bif decide ((↑xs.length : Int) > 16) then
 4 else
 (match search (firstF mOneE xs) xs.length with
 | some y0 => y0
 | none => 0))
noncomputable def c78 : Ct := ⟨fun | [.slice _ z xs] => z = 3 ∧ ∀ y ∈ xs, FitM y | _ => False, fun | [.slice _ _ xs] => some (.lit (.int .i64 (matchersE xs))) | _ => none⟩
noncomputable def T78 : Tab := T148.add 78 c78
def nameErr (sp : Bool) (xs : List D) (i : Nat) : Option Int :=
 bif (bif !isName (strOf (xs.getD i .any)) then true else bif (bif sp then !eqS (strOf (xs.getD i .any)) (ByteArray.mk #[110, 97, 109, 101]) else false) then !eqS (strOf (xs.getD i .any)) (ByteArray.mk #[115, 101, 114, 118, 105, 99, 101]) else false) then some 5 else
 bif (bif decide ((i : Int) > 0) then leS (strOf (xs.getD i .any)) (strOf (xs.getD (i - 1) .any)) else false) then some 9 else none
noncomputable def l79 : Code := roundOf (pieceAt (bodyOf Tryz.f79) 8)
noncomputable def S79 : Ev.Spec := { L := [0,1,10,11,12], ns := [], L' := [4], nm' := [], G := fun N vals bs k => match vals, bs with
 | [.d (.slice b 1 xs), .d (.lit (.bool sp)), .d (.slice b' 1 xs'), .d (.lit (.int .i64 n)), .d (.lit (.int .i64 i))], [] => (N = 43 ∧ b' = b ∧ xs' = xs ∧ i = 0 ∧ n = xs.length ∧ xs.length ≤ 16 ∧ ∀ y ∈ xs, FitN y) ∧ optE (search (nameErr sp xs) xs.length) (k (.exit 0) [.any] []) (fun e => k .ret [lint e] [])
 | _, _ => False }
theorem b79 (xs : List D) (sp : Bool) (i : Int) (n : Int) (b : Bool) (R : X → List V → List Box → Prop) : (roundT (Cn T78) T78 noCS 0 noSp noHn l79 43 [0, 1, 10, 11, 12] [] [] [] [4] []
 [V.d (D.slice b 1 xs), lbool sp, V.d (D.slice b 1 xs), lint n, lint i] [] R) =
 (bif decide (i < n) then
 ((((0 : Int) ≤ i) ∧ (i.toNat < xs.length ∧ D.lit (Value.string (strOf (xs.getD i.toNat D.any))) = xs.getD i.toNat D.any)) ∧
 (True ∧
 (bif bif !isName (strOf (xs.getD i.toNat D.any)) then true
 else
 bif bif sp then !(strOf (xs.getD i.toNat D.any)).toList == (ByteArray.mk #[110, 97, 109, 101]).toList else false then
 !(strOf (xs.getD i.toNat D.any)).toList == (ByteArray.mk #[115, 101, 114, 118, 105, 99, 101]).toList
 else false then
 (43 = 43 ∧
 R X.ret [V.d (D.lit (Value.int IntKind.i64 5))] []) else
 (((decide (i > 0) && true) = true → (((0 : Int) ≤ IntKind.i64.wrap (i - 1)) ∧ ((IntKind.i64.wrap (i - 1)).toNat < xs.length ∧ D.lit (Value.string (strOf (xs.getD (IntKind.i64.wrap (i - 1)).toNat D.any))) =
 xs.getD (IntKind.i64.wrap (i - 1)).toNat D.any))) ∧
 (bif bif decide (i > 0) then
 Op.bytesLess (strOf (xs.getD i.toNat D.any)).toList (strOf (xs.getD (IntKind.i64.wrap (i - 1)).toNat D.any)).toList ||
 (strOf (xs.getD i.toNat D.any)).toList == (strOf (xs.getD (IntKind.i64.wrap (i - 1)).toNat D.any)).toList
 else false then
 (43 = 43 ∧
 R X.ret [V.d (D.lit (Value.int IntKind.i64 9))] []) else
 (43 = 43 ∧
 R X.normal
 [V.d (D.slice b 1 xs), V.d (D.lit (Value.bool sp)), V.d (D.slice b 1 xs), V.d (D.lit (Value.int IntKind.i64 n)),
 V.d (D.lit (Value.int IntKind.i64 (IntKind.i64.wrap (i + 1))))]
 [])))))) else
 (43 = 43 ∧
 R (X.exit 0) [V.any] [])) := by kernel_rfl
theorem w79 (xs : List D) (sp : Bool) (b : Bool) (p : V → Prop) : (evBodyT (Cn T78) T78 noCS 0 (spL [(8, S79)]) noHn 79 [V.d (D.slice b 1 xs), lbool sp] Heap.empty fun v H =>
 p (freezeR H v)) =
 (bif decide ((↑xs.length : Int) > 16) then
 p (V.d (D.lit (Value.int IntKind.i64 4))) else
 ((43 = 43 ∧ (b = b ∧ (xs = xs ∧ (((0 : Int) = 0) ∧ ((((↑xs.length : Int) : Int) = (↑xs.length : Int)) ∧ (xs.length ≤ 16 ∧ ∀ (y : D), y ∈ xs → FitN y)))))) ∧
 (match search (nameErr sp xs) xs.length with
 | some y0 =>
 p (V.d (D.lit (Value.int IntKind.i64 y0)))
 | none => p (V.d (D.lit (Value.int IntKind.i64 0)))))) := by kernel_rfl
noncomputable def namesE (xs : List D) (sp : Bool) : Int :=
 (bif decide ((↑xs.length : Int) > 16) then
 4 else
 (match search (nameErr sp xs) xs.length with
 | some y0 => y0
 | none => 0))
noncomputable def c79 : Ct := ⟨fun | [.slice _ z xs, .lit (.bool _)] => z = 1 ∧ ∀ y ∈ xs, FitN y | _ => False, fun | [.slice _ _ xs, .lit (.bool sp)] => some (.lit (.int .i64 (namesE xs sp))) | _ => none⟩
noncomputable def T79 : Tab := T78.add 79 c79
theorem w58 (y : D) (p : V → Prop) : (evBodyT (Cn T79) T79 noCS 0 noSp noHn 58 [V.d (gV y)] Heap.empty fun v H => p (freezeR H v)) =
 (bif bif decide (intOf (cellOf y 0) < 1) then true else decide (intOf (cellOf y 0) > 8) then
 p (V.d (D.lit (Value.int IntKind.i64 8))) else
 (bif bif
 bif
 bif !(strOf (cellOf y 1)).toList == (ByteArray.mk #[]).toList then !decide (intOf (cellOf y 0) ≤ 3)
 else false then
 true
 else !decide ((↑(seqD (cellOf y 2)).length : Int) > 0) == (intOf (cellOf y 0) == 5) then
 true
 else !decide ((↑(seqD (cellOf y 3)).length : Int) > 0) == decide (intOf (cellOf y 0) ≥ 6) then
 p (V.d (D.lit (Value.int IntKind.i64 1))) else
 (bif intOf (cellOf y 0) == 1 then
 (bif (strOf (cellOf y 1)).toList == (ByteArray.mk #[]).toList then
 p (V.d (D.lit (Value.int IntKind.i64 1))) else
 (bif decide ((↑(strOf (cellOf y 1)).size : Int) > 200) then
 p (V.d (D.lit (Value.int IntKind.i64 4))) else
 p (V.d (D.lit (Value.int IntKind.i64 0))))) else
 (bif intOf (cellOf y 0) == 2 then
 (bif (strOf (cellOf y 1)).toList == (ByteArray.mk #[]).toList then
 p (V.d (D.lit (Value.int IntKind.i64 1))) else
 (bif decide ((↑(strOf (cellOf y 1)).size : Int) > 200) then
 p (V.d (D.lit (Value.int IntKind.i64 4))) else
 p (V.d (D.lit (Value.int IntKind.i64 0))))) else
 (bif intOf (cellOf y 0) == 3 then
 (True ∧
 p (V.d (D.lit (Value.int IntKind.i64 (rxErr (strOf (cellOf y 1))))))) else
 (bif intOf (cellOf y 0) == 5 then
 ((3 = 3 ∧ ∀ (y_1 : D), y_1 ∈ seqD (cellOf y 2) → FitM y_1) ∧
 p (V.d (D.lit (Value.int IntKind.i64 (matchersE (seqD (cellOf y 2))))))) else
 ((1 = 1 ∧ ∀ (y_1 : D), y_1 ∈ seqD (cellOf y 3) → FitN y_1) ∧
 p (V.d (D.lit (Value.int IntKind.i64 (namesE (seqD (cellOf y 3)) false))))))))))) := by kernel_rfl
noncomputable def stageE (y : D) : Int :=
 (bif bif decide (intOf (cellOf y 0) < 1) then true else decide (intOf (cellOf y 0) > 8) then
 8 else
 (bif bif
 bif
 bif !(strOf (cellOf y 1)).toList == (ByteArray.mk #[]).toList then !decide (intOf (cellOf y 0) ≤ 3)
 else false then
 true
 else !decide ((↑(seqD (cellOf y 2)).length : Int) > 0) == (intOf (cellOf y 0) == 5) then
 true
 else !decide ((↑(seqD (cellOf y 3)).length : Int) > 0) == decide (intOf (cellOf y 0) ≥ 6) then
 1 else
 (bif intOf (cellOf y 0) == 1 then
 (bif (strOf (cellOf y 1)).toList == (ByteArray.mk #[]).toList then
 1 else
 (bif decide ((↑(strOf (cellOf y 1)).size : Int) > 200) then
 4 else
 0)) else
 (bif intOf (cellOf y 0) == 2 then
 (bif (strOf (cellOf y 1)).toList == (ByteArray.mk #[]).toList then
 1 else
 (bif decide ((↑(strOf (cellOf y 1)).size : Int) > 200) then
 4 else
 0)) else
 (bif intOf (cellOf y 0) == 3 then
 (rxErr (strOf (cellOf y 1))) else
 (bif intOf (cellOf y 0) == 5 then
 (matchersE (seqD (cellOf y 2))) else
 (namesE (seqD (cellOf y 3)) false)))))))
noncomputable def c58 : Ct := ⟨fun | [x] => FitG x | _ => False, fun | [x] => some (.lit (.int .i64 (stageE x))) | _ => none⟩
noncomputable def T58 : Tab := T79.add 58 c58
noncomputable def l25 : Code := roundOf (pieceAt (bodyOf Tryz.f25) 8)
noncomputable def S25 : Ev.Spec := { L := [9,10,11], ns := [], L' := [2], nm' := [], G := fun N vals bs k => match vals, bs with
 | [.d (.slice b 4 xs), .d (.lit (.int .i64 n)), .d (.lit (.int .i64 i))], [] => (N = 21 ∧ i = 0 ∧ n = xs.length ∧ xs.length ≤ 100 ∧ ∀ y ∈ xs, FitG y) ∧ optE (search (firstF stageE xs) xs.length) (k (.exit 0) [.any] []) (fun e => k .ret [lint e] [])
 | _, _ => False }
theorem b25 (xs : List D) (i : Int) (n : Int) (b : Bool) (R : X → List V → List Box → Prop) : (roundT (Cn T58) T58 noCS 0 noSp noHn l25 21 [9, 10, 11] [] [] [] [2] [] [V.d (D.slice b 4 xs), lint n, lint i] [] R) =
 (bif decide (i < n) then
 ((((0 : Int) ≤ i) ∧ (i.toNat < xs.length ∧ gV (xs.getD i.toNat D.any) = xs.getD i.toNat D.any)) ∧
 (FitG (gV (xs.getD i.toNat D.any)) ∧
 (bif stageE (gV (xs.getD i.toNat D.any)) != 0 then
 (21 = 21 ∧
 R X.ret [V.d (D.lit (Value.int IntKind.i64 (stageE (gV (xs.getD i.toNat D.any)))))] []) else
 (21 = 21 ∧
 R X.normal
 [V.d (D.slice b 4 xs), V.d (D.lit (Value.int IntKind.i64 n)),
 V.d (D.lit (Value.int IntKind.i64 (IntKind.i64.wrap (i + 1))))]
 [])))) else
 (21 = 21 ∧
 R (X.exit 0) [V.any] [])) := by kernel_rfl
theorem w25 (xs : List D) (b : Bool) (p : V → Prop) : (evBodyT (Cn T58) T58 noCS 0 (spL [(8, S25)]) noHn 25 [V.d (D.slice b 4 xs)] Heap.empty fun v H => p (freezeR H v)) =
 (bif decide ((↑xs.length : Int) > 100) then
 p (V.d (D.lit (Value.int IntKind.i64 4))) else
 ((21 = 21 ∧ (((0 : Int) = 0) ∧ ((((↑xs.length : Int) : Int) = (↑xs.length : Int)) ∧ (xs.length ≤ 100 ∧ ∀ (y : D), y ∈ xs → FitG y)))) ∧
 (match search (firstF stageE xs) xs.length with
 | some y0 =>
 p (V.d (D.lit (Value.int IntKind.i64 y0)))
 | none => p (V.d (D.lit (Value.int IntKind.i64 0)))))) := by kernel_rfl
noncomputable def stagesE (xs : List D) : Int :=
 (bif decide ((↑xs.length : Int) > 100) then
 4 else
 (match search (firstF stageE xs) xs.length with
 | some y0 => y0
 | none => 0))
noncomputable def c25 : Ct := ⟨fun | [.slice _ z xs] => z = 4 ∧ ∀ y ∈ xs, FitG y | _ => False, fun | [.slice _ _ xs] => some (.lit (.int .i64 (stagesE xs))) | _ => none⟩
noncomputable def T25 : Tab := T58.add 25 c25
theorem w75 (y : D) (p : V → Prop) : (evBodyT (Cn T25) T25 noCS 0 noSp noHn 75 [V.d (cV y)] Heap.empty fun v H => p (freezeR H v)) =
 (True ∧
 (True ∧
 (bif numericB (strOf (cellOf y 0)) then
 (bif bif bif bif intOf (cellOf y 1) != 1 then intOf (cellOf y 1) != 2 else false then intOf (cellOf y 1) != 5 else false then
 intOf (cellOf y 1) != 6
 else false then
 p (V.d (D.lit (Value.int IntKind.i64 8))) else
 (bif !(strOf (cellOf y 2)).toList == (ByteArray.mk #[]).toList then
 p (V.d (D.lit (Value.int IntKind.i64 1))) else
 (bif bif decide (intOf (cellOf y 3) < 0) then true else decide (intOf (cellOf y 3) > 1099511627776) then
 p (V.d (D.lit (Value.int IntKind.i64 2))) else
 p (V.d (D.lit (Value.int IntKind.i64 0)))))) else
 (((prefixB (strOf (cellOf y 0)) (ByteArray.mk (Array.mk [97, 116, 116, 114, 46])) &&
 ((!bif (strOf (cellOf y 0)).toList == (ByteArray.mk #[115, 101, 114, 118, 105, 99, 101]).toList then true
 else (strOf (cellOf y 0)).toList == (ByteArray.mk #[110, 97, 109, 101]).toList) &&
 true)) =
 true → True) ∧
 (bif bif
 bif (strOf (cellOf y 0)).toList == (ByteArray.mk #[115, 101, 114, 118, 105, 99, 101]).toList then true
 else (strOf (cellOf y 0)).toList == (ByteArray.mk #[110, 97, 109, 101]).toList then
 true
 else
 bif prefixB (strOf (cellOf y 0)) (ByteArray.mk (Array.mk [97, 116, 116, 114, 46])) then
 isName
 (bif prefixB (strOf (cellOf y 0)) (ByteArray.mk (Array.mk [97, 116, 116, 114, 46])) then
 (strOf (cellOf y 0)).extract 5 (strOf (cellOf y 0)).size
 else strOf (cellOf y 0))
 else false then
 (bif bif decide (intOf (cellOf y 1) < 1) then true else decide (intOf (cellOf y 1) > 4) then
 p (V.d (D.lit (Value.int IntKind.i64 8))) else
 (bif intOf (cellOf y 3) != 0 then
 p (V.d (D.lit (Value.int IntKind.i64 1))) else
 (bif decide (intOf (cellOf y 1) ≥ 3) then
 (True ∧
 p (V.d (D.lit (Value.int IntKind.i64 (rxErr (strOf (cellOf y 2))))))) else
 (bif decide ((↑(strOf (cellOf y 2)).size : Int) > 200) then
 p (V.d (D.lit (Value.int IntKind.i64 4))) else
 p (V.d (D.lit (Value.int IntKind.i64 0))))))) else
 p (V.d (D.lit (Value.int IntKind.i64 5)))))))) := by kernel_rfl
noncomputable def condE (y : D) : Int :=
 (bif numericB (strOf (cellOf y 0)) then
 (bif bif bif bif intOf (cellOf y 1) != 1 then intOf (cellOf y 1) != 2 else false then intOf (cellOf y 1) != 5 else false then
 intOf (cellOf y 1) != 6
 else false then
 8 else
 (bif !(strOf (cellOf y 2)).toList == (ByteArray.mk #[]).toList then
 1 else
 (bif bif decide (intOf (cellOf y 3) < 0) then true else decide (intOf (cellOf y 3) > 1099511627776) then
 2 else
 0))) else
 (bif bif
 bif (strOf (cellOf y 0)).toList == (ByteArray.mk #[115, 101, 114, 118, 105, 99, 101]).toList then true
 else (strOf (cellOf y 0)).toList == (ByteArray.mk #[110, 97, 109, 101]).toList then
 true
 else
 bif prefixB (strOf (cellOf y 0)) (ByteArray.mk (Array.mk [97, 116, 116, 114, 46])) then
 isName
 (bif prefixB (strOf (cellOf y 0)) (ByteArray.mk (Array.mk [97, 116, 116, 114, 46])) then
 (strOf (cellOf y 0)).extract 5 (strOf (cellOf y 0)).size
 else strOf (cellOf y 0))
 else false then
 (bif bif decide (intOf (cellOf y 1) < 1) then true else decide (intOf (cellOf y 1) > 4) then
 8 else
 (bif intOf (cellOf y 3) != 0 then
 1 else
 (bif decide (intOf (cellOf y 1) ≥ 3) then
 (rxErr (strOf (cellOf y 2))) else
 (bif decide ((↑(strOf (cellOf y 2)).size : Int) > 200) then
 4 else
 0)))) else
 5))
noncomputable def c75 : Ct := ⟨fun | [x] => FitC x | _ => False, fun | [x] => some (.lit (.int .i64 (condE x))) | _ => none⟩
noncomputable def T75 : Tab := T25.add 75 c75
noncomputable def l55a : Code := roundOf (pieceAt (bodyOf Tryz.f55) 26)
noncomputable def l55b : Code := roundOf (pieceAt (bodyOf Tryz.f55) 40)
abbrev pBox (k : Int) (b : Bool) (cs : List D) (b' : Bool) (xs : List D) : Box := .cells 30 [lint k, .d (.slice b 4 cs), .d (.slice b' 3 xs)]
def S55a : Ev.Spec := { L := [1,48,49,50], ns := [([5000],[3])], L' := [1,2], nm' := [[5000]], G := fun N vals bs k => match vals, bs with
 | [.ptr [5000] 0, .d (.slice b 4 xs), .d (.lit (.int .i64 n)), .d (.lit (.int .i64 i))], [.cells 30 [.d (.lit (.int .i64 q)), .d (.slice b1 4 cs), .d (.slice b2 3 ps)]] => (N = 73 ∧ i = 0 ∧ n = xs.length ∧ xs.length ≤ 16 ∧ ∀ y ∈ xs, FitC y) ∧ optE (search (firstF condE xs) xs.length) (k (.exit 1) [.ptr [5000] 0, .any] [pBox q b1 cs b2 ps]) (fun e => k .ret [.ptr [5000] 0, lint e] [pBox q b1 cs b2 ps])
 | _, _ => False }
noncomputable def fixD {β : Type} (F : (D → β) → D → β) (z : β) : Nat → D → β
 | 0, _ => z
 | n + 1, y => F (fixD F z n) y
theorem fixD_eq {β : Type} {F : (D → β) → D → β} {z : β} {i : Nat} (hF : ∀ r r' y, (∀ a ∈ subs y i, r a = r' a) → F r y = F r' y) : ∀ (n m : Nat) (y : D), dsz y < n → dsz y < m → fixD F z n y = fixD F z m y
 | 0, _, _, h, _ => absurd h (Nat.not_lt_zero _)
 | _, 0, _, _, h => absurd h (Nat.not_lt_zero _)
 | n + 1, m + 1, y, h, h' => hF _ _ _ fun a ha => fixD_eq hF n m a (by have := subs_lt ha; omega) (by have := subs_lt ha; omega)
theorem fixD_step {β : Type} {F : (D → β) → D → β} {z : β} {i : Nat} (hF : ∀ r r' y, (∀ a ∈ subs y i, r a = r' a) → F r y = F r' y) (y : D) : fixD F z (dsz y + 1) y = F (fun a => fixD F z (dsz a + 1) a) y :=
 hF _ _ _ fun a ha => fixD_eq hF _ _ a (by have := subs_lt ha; omega) (by omega)
noncomputable def patT (rec : D → Int) (y : D) : Int :=
 (bif bif decide (intOf (cellOf y 0) < 1) then true else decide (intOf (cellOf y 0) > 9) then
 8 else
 (bif intOf (cellOf y 0) == 1 then
 (bif bif bif intOf (cellOf y 0) != 1 then decide ((↑(seqD (cellOf y 1)).length : Int) > 0) else false then true
 else (↑(seqD (cellOf y 2)).length : Int) != 0 then
 1 else
 (bif decide ((↑(seqD (cellOf y 1)).length : Int) > 16) then
 4 else
 (match search (firstF condE (seqD (cellOf y 1))) (seqD (cellOf y 1)).length with
 | some y1 => y1
 | none => (match search (firstF rec (seqD (cellOf y 2))) (seqD (cellOf y 2)).length with
 | some y0 => y0
 | none => 0)))) else
 (bif intOf (cellOf y 0) == 9 then
 (bif bif bif intOf (cellOf y 0) != 1 then decide ((↑(seqD (cellOf y 1)).length : Int) > 0) else false then true
 else (↑(seqD (cellOf y 2)).length : Int) != 1 then
 1 else
 (bif decide ((↑(seqD (cellOf y 1)).length : Int) > 16) then
 4 else
 (match search (firstF condE (seqD (cellOf y 1))) (seqD (cellOf y 1)).length with
 | some y3 => y3
 | none => (match search (firstF rec (seqD (cellOf y 2))) (seqD (cellOf y 2)).length with
 | some y2 => y2
 | none => 0)))) else
 (bif bif bif intOf (cellOf y 0) != 1 then decide ((↑(seqD (cellOf y 1)).length : Int) > 0) else false then true
 else (↑(seqD (cellOf y 2)).length : Int) != 2 then
 1 else
 (bif decide ((↑(seqD (cellOf y 1)).length : Int) > 16) then
 4 else
 (match search (firstF condE (seqD (cellOf y 1))) (seqD (cellOf y 1)).length with
 | some y5 => y5
 | none => (match search (firstF rec (seqD (cellOf y 2))) (seqD (cellOf y 2)).length with
 | some y4 => y4
 | none => 0)))))))
noncomputable def patE (y : D) : Int := fixD patT 0 (dsz y + 1) y
noncomputable def c55 : Ct := ⟨fun | [x] => FitP x | _ => False, fun | [x] => some (.lit (.int .i64 (patE x))) | _ => none⟩
noncomputable def U55 (κ : Nat) : Tab := T75.add 55 (c55.below μ1 κ)
noncomputable def T55 : Tab := T75.add 55 c55
noncomputable def S55b (rec : D → Int) (κ : Nat) : Ev.Spec := { L := [61,62,63], ns := [], L' := [2], nm' := [], G := fun N vals bs k => match vals, bs with
 | [.d (.slice b 3 xs), .d (.lit (.int .i64 n)), .d (.lit (.int .i64 i))], [] => (N = 73 ∧ rec = patE ∧ i = 0 ∧ n = xs.length ∧ xs.length ≤ 2 ∧ ∀ y ∈ xs, FitP y ∧ dsz y < κ) ∧ optE (search (firstF rec xs) xs.length) (k (.exit 3) [.any] []) (fun e => k .ret [lint e] [])
 | _, _ => False }
theorem b55a (κ : Nat) (q : Int) (xs : List D) (cs : List D) (ps : List D) (b1 : Bool) (b2 : Bool) (i : Int) (n : Int) (b : Bool) (R : X → List V → List Box → Prop) : (roundT (Cn (U55 κ)) (U55 κ) noCS 0 noSp noHn l55a 73 [1, 48, 49, 50] [[5000]] [] [([5000], [5000])] [1, 2]
 [([5000], [5000])] [V.ptr [5000] 0, V.d (D.slice b 4 xs), lint n, lint i] [pBox q b1 cs b2 ps] R) =
 (bif decide (i < n) then
 ((((0 : Int) ≤ i) ∧ (i.toNat < xs.length ∧ cV (xs.getD i.toNat D.any) = xs.getD i.toNat D.any)) ∧
 (D.agg
 [D.lit (Value.string (strOf (D.lit (Value.string (strOf (cellOf (xs.getD i.toNat D.any) 0)))))),
 D.lit (Value.int IntKind.i64 (intOf (D.lit (Value.int IntKind.i64 (intOf (cellOf (xs.getD i.toNat D.any) 1)))))),
 D.lit (Value.string (strOf (D.lit (Value.string (strOf (cellOf (xs.getD i.toNat D.any) 2)))))),
 D.lit
 (Value.int IntKind.i64 (intOf (D.lit (Value.int IntKind.i64 (intOf (cellOf (xs.getD i.toNat D.any) 3))))))] =
 cV (xs.getD i.toNat D.any) ∧
 (bif condE (cV (xs.getD i.toNat D.any)) != 0 then
 (73 = 73 ∧
 R X.ret [V.ptr [5000] 0, V.d (D.lit (Value.int IntKind.i64 (condE (cV (xs.getD i.toNat D.any)))))]
 [Box.cells 30 [V.d (D.lit (Value.int IntKind.i64 q)), V.d (D.slice b1 4 cs), V.d (D.slice b2 3 ps)]]) else
 (73 = 73 ∧
 R X.normal
 [V.ptr [5000] 0, V.d (D.slice b 4 xs), V.d (D.lit (Value.int IntKind.i64 n)),
 V.d (D.lit (Value.int IntKind.i64 (IntKind.i64.wrap (i + 1))))]
 [Box.cells 30 [V.d (D.lit (Value.int IntKind.i64 q)), V.d (D.slice b1 4 cs), V.d (D.slice b2 3 ps)]])))) else
 (73 = 73 ∧
 R (X.exit 1) [V.ptr [5000] 0, V.any]
 [Box.cells 30 [V.d (D.lit (Value.int IntKind.i64 q)), V.d (D.slice b1 4 cs), V.d (D.slice b2 3 ps)]])) := by kernel_rfl
theorem b55b (κ : Nat) (xs : List D) (i : Int) (n : Int) (b : Bool) (R : X → List V → List Box → Prop) : (roundT (Cn (U55 κ)) (U55 κ) noCS 0 noSp noHn l55b 73 [61, 62, 63] [] [] [] [2] [] [V.d (D.slice b 3 xs), lint n, lint i]
 [] R) =
 (bif decide (i < n) then
 ((((0 : Int) ≤ i) ∧ (i.toNat < xs.length ∧ pV (xs.getD i.toNat D.any) = xs.getD i.toNat D.any)) ∧
 ((FitP (pV (xs.getD i.toNat D.any)) ∧ μ1 [pV (xs.getD i.toNat D.any)] < κ) ∧
 (bif patE (pV (xs.getD i.toNat D.any)) != 0 then
 (73 = 73 ∧
 R X.ret [V.d (D.lit (Value.int IntKind.i64 (patE (pV (xs.getD i.toNat D.any)))))] []) else
 (73 = 73 ∧
 R X.normal
 [V.d (D.slice b 3 xs), V.d (D.lit (Value.int IntKind.i64 n)),
 V.d (D.lit (Value.int IntKind.i64 (IntKind.i64.wrap (i + 1))))]
 [])))) else
 (73 = 73 ∧
 R (X.exit 3) [V.any] [])) := by kernel_rfl
theorem w55 (rec : D → Int) (κ : Nat) (y : D) (p : V → Prop) : (evBodyT (Cn (U55 κ)) (U55 κ) noCS 0 (spL [(26, S55a), (40, S55b rec κ)]) noHn 55 [V.d (pV y)] Heap.empty fun v H =>
 p (freezeR H v)) =
 (bif bif decide (intOf (cellOf y 0) < 1) then true else decide (intOf (cellOf y 0) > 9) then
 p (V.d (D.lit (Value.int IntKind.i64 8))) else
 (bif intOf (cellOf y 0) == 1 then
 (bif bif bif intOf (cellOf y 0) != 1 then decide ((↑(seqD (cellOf y 1)).length : Int) > 0) else false then true
 else (↑(seqD (cellOf y 2)).length : Int) != 0 then
 p (V.d (D.lit (Value.int IntKind.i64 1))) else
 (bif decide ((↑(seqD (cellOf y 1)).length : Int) > 16) then
 p (V.d (D.lit (Value.int IntKind.i64 4))) else
 ((73 = 73 ∧ (((0 : Int) = 0) ∧ ((((↑(seqD (cellOf y 1)).length : Int) : Int) = (↑(seqD (cellOf y 1)).length : Int)) ∧ ((seqD (cellOf y 1)).length ≤ 16 ∧ ∀ (y_1 : D), y_1 ∈ seqD (cellOf y 1) → FitC y_1)))) ∧
 (match search (firstF condE (seqD (cellOf y 1))) (seqD (cellOf y 1)).length with
 | some y1 =>
 p (V.d (D.lit (Value.int IntKind.i64 y1)))
 | none => ((73 = 73 ∧ (rec = patE ∧ (((0 : Int) = 0) ∧ ((((↑(seqD (cellOf y 2)).length : Int) : Int) = (↑(seqD (cellOf y 2)).length : Int)) ∧ ((seqD (cellOf y 2)).length ≤ 2 ∧ ∀ (y_1 : D), y_1 ∈ seqD (cellOf y 2) → FitP y_1 ∧ dsz y_1 < κ))))) ∧
 (match search (firstF rec (seqD (cellOf y 2))) (seqD (cellOf y 2)).length with
 | some y0 =>
 p (V.d (D.lit (Value.int IntKind.i64 y0)))
 | none => p (V.d (D.lit (Value.int IntKind.i64 0))))))))) else
 (bif intOf (cellOf y 0) == 9 then
 (bif bif bif intOf (cellOf y 0) != 1 then decide ((↑(seqD (cellOf y 1)).length : Int) > 0) else false then true
 else (↑(seqD (cellOf y 2)).length : Int) != 1 then
 p (V.d (D.lit (Value.int IntKind.i64 1))) else
 (bif decide ((↑(seqD (cellOf y 1)).length : Int) > 16) then
 p (V.d (D.lit (Value.int IntKind.i64 4))) else
 ((73 = 73 ∧ (((0 : Int) = 0) ∧ ((((↑(seqD (cellOf y 1)).length : Int) : Int) = (↑(seqD (cellOf y 1)).length : Int)) ∧ ((seqD (cellOf y 1)).length ≤ 16 ∧ ∀ (y_1 : D), y_1 ∈ seqD (cellOf y 1) → FitC y_1)))) ∧
 (match search (firstF condE (seqD (cellOf y 1))) (seqD (cellOf y 1)).length with
 | some y3 =>
 p (V.d (D.lit (Value.int IntKind.i64 y3)))
 | none => ((73 = 73 ∧ (rec = patE ∧ (((0 : Int) = 0) ∧ ((((↑(seqD (cellOf y 2)).length : Int) : Int) = (↑(seqD (cellOf y 2)).length : Int)) ∧ ((seqD (cellOf y 2)).length ≤ 2 ∧ ∀ (y_1 : D), y_1 ∈ seqD (cellOf y 2) → FitP y_1 ∧ dsz y_1 < κ))))) ∧
 (match search (firstF rec (seqD (cellOf y 2))) (seqD (cellOf y 2)).length with
 | some y2 =>
 p (V.d (D.lit (Value.int IntKind.i64 y2)))
 | none => p (V.d (D.lit (Value.int IntKind.i64 0))))))))) else
 (bif bif bif intOf (cellOf y 0) != 1 then decide ((↑(seqD (cellOf y 1)).length : Int) > 0) else false then true
 else (↑(seqD (cellOf y 2)).length : Int) != 2 then
 p (V.d (D.lit (Value.int IntKind.i64 1))) else
 (bif decide ((↑(seqD (cellOf y 1)).length : Int) > 16) then
 p (V.d (D.lit (Value.int IntKind.i64 4))) else
 ((73 = 73 ∧ (((0 : Int) = 0) ∧ ((((↑(seqD (cellOf y 1)).length : Int) : Int) = (↑(seqD (cellOf y 1)).length : Int)) ∧ ((seqD (cellOf y 1)).length ≤ 16 ∧ ∀ (y_1 : D), y_1 ∈ seqD (cellOf y 1) → FitC y_1)))) ∧
 (match search (firstF condE (seqD (cellOf y 1))) (seqD (cellOf y 1)).length with
 | some y5 =>
 p (V.d (D.lit (Value.int IntKind.i64 y5)))
 | none => ((73 = 73 ∧ (rec = patE ∧ (((0 : Int) = 0) ∧ ((((↑(seqD (cellOf y 2)).length : Int) : Int) = (↑(seqD (cellOf y 2)).length : Int)) ∧ ((seqD (cellOf y 2)).length ≤ 2 ∧ ∀ (y_1 : D), y_1 ∈ seqD (cellOf y 2) → FitP y_1 ∧ dsz y_1 < κ))))) ∧
 (match search (firstF rec (seqD (cellOf y 2))) (seqD (cellOf y 2)).length with
 | some y4 =>
 p (V.d (D.lit (Value.int IntKind.i64 y4)))
 | none => p (V.d (D.lit (Value.int IntKind.i64 0)))))))))))) := by kernel_rfl
theorem w23 (y : D) (p : V → Prop) : (evBodyT (Cn T55) T55 noCS 0 noSp noHn 23 [V.d (pV y)] Heap.empty fun v H => p (freezeR H v)) =
 ((FitP (pV y) ∧ (((0 : Int) ≤ 0) ∧ ((0 : Int) ≤ 100))) ∧
 (bif decide ((↑(cap (0 + ptot (pV y))) : Int) > 100) then
 p (V.d (D.lit (Value.int IntKind.i64 4))) else
 ((FitP (pV y) ∧ ptot (pV y) ≤ 100) ∧
 (bif decide ((↑(pdep (pV y)) : Int) > 12) then
 p (V.d (D.lit (Value.int IntKind.i64 30))) else
 (FitP (pV y) ∧
 p (V.d (D.lit (Value.int IntKind.i64 (patE (pV y)))))))))) := by kernel_rfl
noncomputable def patCheckE (y : D) : Int :=
 (bif decide ((↑(cap (0 + ptot (pV y))) : Int) > 100) then
 4 else
 (bif decide ((↑(pdep (pV y)) : Int) > 12) then
 30 else
 (patE (pV y))))
noncomputable def c23 : Ct := ⟨fun | [x] => FitP x | _ => False, fun | [x] => some (.lit (.int .i64 (patCheckE x))) | _ => none⟩
noncomputable def T23 : Tab := T55.add 23 c23
theorem and_i {a b : Prop} (h : a) (k : b) : a ∧ b := ⟨h, k⟩
theorem k148 : TabOk B T148 := by
 refine add_body base k43 (fn := Tryz.f148) (cd := bodyOf Tryz.f148) (sp := noSp) (hn := noHn) Tryz.func148 (by kernel_rfl) (by kernel_rfl) noSp_ok fun ds r hp hr => ?_
 unfold c148 at hp hr
 simp only [] at hr hp
 split at hr
 ·
  rename_i x
  cases hr
  rw [arg1 (show mV x = x from hp)]
  refine keep (w148 x fun v => v = _) ?_
  unfold mOneE
  (repeat' (first | with_reducible rfl | (refine cond_split (fun hcw => ?_) (fun hcw => ?_) <;> simp only [hcw, cond_true, cond_false]) | refine and_i ?_ ?_))
  all_goals first | trivial | (intro i hi; cases i with | zero => rfl | succ i => simp at hi)
 ·
  cases hr
theorem ok78 : OkS (Cn T148) 0 (.loop l78) S78 := by
 refine okS_loop fun N vals bs K h => ?_
 simp only [S78] at h
 split at h
 case h_2 => exact h.elim
 rename_i b xs n i
 obtain ⟨⟨rfl, rfl, rfl, h16, hall⟩, h⟩ := h
 refine search_loop (tab_fit base k148 noCS_valid) tab_has noSp_ok (hn := noHn) (adsI := []) (nsI := []) (nsX := []) rfl rfl xs.length
  (fun i => [.d (.slice b 3 xs), lint xs.length, lint i]) (fun _ => []) (firstF mOneE xs) (fun e => (.ret, [lint e], [])) (by simp) (.exit 0) [.any] [] (by simp) ?_ ?_ h
 ·
  intro i R hi hR
  refine keep (b78 xs i xs.length b R) ?_
  have e1 : decide ((i : Int) < xs.length) = true := by simp; omega
  have e2 : IntKind.i64.wrap ((i : Int) + 1) = ((i + 1 : Nat) : Int) := by rw [Go.IntWalk.i64_in _ (by omega)]; omega
  have hv := hall _ (getD_mem hi)
  rw [e1]
  simp only [Int.toNat_natCast, e2, cond_true, show mV _ = _ from hv]
  refine ⟨⟨by omega, hi, trivial⟩, hv, cond_split (fun h1 => ⟨trivial, ?_⟩) (fun h1 => ⟨trivial, ?_⟩)⟩ <;> (simp only [firstF, h1, cond_true, cond_false, optE] at hR; exact hR)
 ·
  intro R hR
  refine keep (b78 xs xs.length xs.length b R) ?_
  have e1 : decide ((xs.length : Int) < xs.length) = false := by simp
  rw [e1]
  exact ⟨rfl, hR⟩
theorem k78 : TabOk B T78 := by
 refine add_body base k148 (fn := Tryz.f78) (cd := bodyOf Tryz.f78) (sp := spL [(8, S78)]) (hn := noHn) Tryz.func78 (by kernel_rfl) (by kernel_rfl) (specT_cons (c := .loop l78) (by kernel_rfl) ok78 specT_nil) fun ds r hp hr => ?_
 unfold c78 at hp hr
 simp only [] at hr hp
 split at hr
 ·
  rename_i b z xs
  cases hr
  obtain ⟨rfl, hall⟩ := hp
  refine keep (w78 xs b fun v => v = _) ?_
  unfold matchersE
  refine cond_split (fun h1 => ?_) (fun h1 => ?_) <;> simp only [h1, cond_true, cond_false]
  have h1' : ¬ (xs.length : Int) > 16 := by simpa using h1
  refine ⟨⟨trivial, trivial, trivial, by omega, hall⟩, ?_⟩
  cases search (firstF mOneE xs) xs.length <;> rfl
 ·
  cases hr
theorem ok79 : OkS (Cn T78) 0 (.loop l79) S79 := by
 refine okS_loop fun N vals bs K h => ?_
 simp only [S79] at h
 split at h
 case h_2 => exact h.elim
 rename_i b0 xs0 sp b xs n i
 obtain ⟨⟨rfl, hb, hx, rfl, rfl, h16, hall⟩, h⟩ := h
 subst hb hx
 refine search_loop (tab_fit base k78 noCS_valid) tab_has noSp_ok (hn := noHn) (adsI := []) (nsI := []) (nsX := []) rfl rfl xs.length
  (fun i => [.d (.slice b 1 xs), lbool sp, .d (.slice b 1 xs), lint xs.length, lint i]) (fun _ => []) (nameErr sp xs) (fun e => (.ret, [lint e], [])) (by simp) (.exit 0) [.any] [] (by simp) ?_ ?_ h
 ·
  intro i R hi hR
  refine keep (b79 xs sp i xs.length b R) ?_
  have e1 : decide ((i : Int) < xs.length) = true := by simp; omega
  have e2 : IntKind.i64.wrap ((i : Int) + 1) = ((i + 1 : Nat) : Int) := by rw [Go.IntWalk.i64_in _ (by omega)]; omega
  have e3 : 0 < i → IntKind.i64.wrap ((i : Int) - 1) = ((i - 1 : Nat) : Int) := fun h => by rw [Go.IntWalk.i64_in _ (by omega)]; omega
  have hv := hall _ (getD_mem hi)
  rw [e1]
  simp only [Int.toNat_natCast, e2, cond_true]
  refine ⟨⟨by omega, hi, hv⟩, trivial, ?_⟩
  refine cond_split (fun h1 => ⟨trivial, by simp only [nameErr, eqS, leS, h1, cond_true, cond_false, optE] at hR; exact hR⟩) (fun h1 => ?_)
  refine ⟨fun h => ?_, ?_⟩
  ·
   have hz : 0 < i := by simp at h; omega
   rw [e3 hz]
   exact ⟨by omega, by omega, hall _ (getD_mem (by omega))⟩
  ·
   have hR' : optE (bif (bif decide ((i : Int) > 0) then leS (strOf (xs.getD i .any)) (strOf (xs.getD (i - 1) .any)) else false) then some (9 : Int) else none) (R X.normal [V.d (D.slice b 1 xs), lbool sp, V.d (D.slice b 1 xs), lint ↑xs.length, lint ↑(i + 1)] []) (fun e => R .ret [lint e] []) := by
    simp only [nameErr, eqS, h1, cond_true, cond_false] at hR; exact hR
   by_cases hz : 0 < i
   ·
    have e4 : decide ((i : Int) > 0) = true := by simp; omega
    rw [e4] at hR' ⊢
    rw [e3 hz]
    simp only [cond_true, Int.toNat_natCast] at hR' ⊢
    refine cond_split (fun h4 => ⟨trivial, ?_⟩) (fun h4 => ⟨trivial, ?_⟩)
    ·
     rw [show leS _ _ = true from h4] at hR'; exact hR'
    ·
     rw [show leS _ _ = false from h4] at hR'; exact hR'
   ·
    have e4 : decide ((i : Int) > 0) = false := by simp; omega
    rw [e4] at hR' ⊢
    exact ⟨trivial, hR'⟩
 ·
  intro R hR
  refine keep (b79 xs sp xs.length xs.length b R) ?_
  have e1 : decide ((xs.length : Int) < xs.length) = false := by simp
  rw [e1]
  exact ⟨rfl, hR⟩
theorem k79 : TabOk B T79 := by
 refine add_body base k78 (fn := Tryz.f79) (cd := bodyOf Tryz.f79) (sp := spL [(8, S79)]) (hn := noHn) Tryz.func79 (by kernel_rfl) (by kernel_rfl) (specT_cons (c := .loop l79) (by kernel_rfl) ok79 specT_nil) fun ds r hp hr => ?_
 unfold c79 at hp hr
 simp only [] at hr hp
 split at hr
 ·
  rename_i b z xs sp
  cases hr
  obtain ⟨rfl, hall⟩ := hp
  refine keep (w79 xs sp b fun v => v = _) ?_
  unfold namesE
  refine cond_split (fun h1 => ?_) (fun h1 => ?_) <;> simp only [h1, cond_true, cond_false]
  have h1' : ¬ (xs.length : Int) > 16 := by simpa using h1
  refine ⟨⟨trivial, trivial, trivial, trivial, trivial, by omega, hall⟩, ?_⟩
  cases search (nameErr sp xs) xs.length <;> rfl
 ·
  cases hr
theorem k58 : TabOk B T58 := by
 refine add_body base k79 (fn := Tryz.f58) (cd := bodyOf Tryz.f58) (sp := noSp) (hn := noHn) Tryz.func58 (by kernel_rfl) (by kernel_rfl) noSp_ok fun ds r hp hr => ?_
 unfold c58 at hp hr
 simp only [] at hr hp
 split at hr
 ·
  rename_i x
  cases hr
  rw [arg1 (FitG.v hp)]
  refine keep (w58 x fun v => v = _) ?_
  unfold stageE
  (repeat' (first | with_reducible rfl | (refine cond_split (fun hcw => ?_) (fun hcw => ?_) <;> simp only [hcw, cond_true, cond_false]) | refine and_i ?_ ?_))
  all_goals first | trivial | exact FitG.m hp | exact FitG.n hp
 ·
  cases hr
theorem ok25 : OkS (Cn T58) 0 (.loop l25) S25 := by
 refine okS_loop fun N vals bs K h => ?_
 simp only [S25] at h
 split at h
 case h_2 => exact h.elim
 rename_i b xs n i
 obtain ⟨⟨rfl, rfl, rfl, h16, hall⟩, h⟩ := h
 refine search_loop (tab_fit base k58 noCS_valid) tab_has noSp_ok (hn := noHn) (adsI := []) (nsI := []) (nsX := []) rfl rfl xs.length
  (fun i => [.d (.slice b 4 xs), lint xs.length, lint i]) (fun _ => []) (firstF stageE xs) (fun e => (.ret, [lint e], [])) (by simp) (.exit 0) [.any] [] (by simp) ?_ ?_ h
 ·
  intro i R hi hR
  refine keep (b25 xs i xs.length b R) ?_
  have e1 : decide ((i : Int) < xs.length) = true := by simp; omega
  have e2 : IntKind.i64.wrap ((i : Int) + 1) = ((i + 1 : Nat) : Int) := by rw [Go.IntWalk.i64_in _ (by omega)]; omega
  have hv := hall _ (getD_mem hi)
  rw [e1]
  simp only [Int.toNat_natCast, e2, cond_true, hv.v]
  refine ⟨⟨by omega, hi, trivial⟩, hv, cond_split (fun h1 => ⟨trivial, ?_⟩) (fun h1 => ⟨trivial, ?_⟩)⟩ <;> (simp only [firstF, h1, cond_true, cond_false, optE] at hR; exact hR)
 ·
  intro R hR
  refine keep (b25 xs xs.length xs.length b R) ?_
  have e1 : decide ((xs.length : Int) < xs.length) = false := by simp
  rw [e1]
  exact ⟨rfl, hR⟩
theorem k25 : TabOk B T25 := by
 refine add_body base k58 (fn := Tryz.f25) (cd := bodyOf Tryz.f25) (sp := spL [(8, S25)]) (hn := noHn) Tryz.func25 (by kernel_rfl) (by kernel_rfl) (specT_cons (c := .loop l25) (by kernel_rfl) ok25 specT_nil) fun ds r hp hr => ?_
 unfold c25 at hp hr
 simp only [] at hr hp
 split at hr
 ·
  rename_i b z xs
  cases hr
  obtain ⟨rfl, hall⟩ := hp
  refine keep (w25 xs b fun v => v = _) ?_
  unfold stagesE
  refine cond_split (fun h1 => ?_) (fun h1 => ?_) <;> simp only [h1, cond_true, cond_false]
  have h1' : ¬ (xs.length : Int) > 100 := by simpa using h1
  refine ⟨⟨trivial, trivial, trivial, by omega, hall⟩, ?_⟩
  cases search (firstF stageE xs) xs.length <;> rfl
 ·
  cases hr
theorem k75 : TabOk B T75 := by
 refine add_body base k25 (fn := Tryz.f75) (cd := bodyOf Tryz.f75) (sp := noSp) (hn := noHn) Tryz.func75 (by kernel_rfl) (by kernel_rfl) noSp_ok fun ds r hp hr => ?_
 unfold c75 at hp hr
 simp only [] at hr hp
 split at hr
 ·
  rename_i x
  cases hr
  rw [arg1 (show cV x = x from hp)]
  refine keep (w75 x fun v => v = _) ?_
  unfold condE
  (repeat' (first | with_reducible rfl | (refine cond_split (fun hcw => ?_) (fun hcw => ?_) <;> simp only [hcw, cond_true, cond_false]) | refine and_i ?_ ?_))
  all_goals first | trivial | (intro _; trivial)
 ·
  cases hr
theorem ok55a {κ : Nat} (hk : TabOk B (U55 κ)) : OkS (Cn (U55 κ)) 0 (.loop l55a) S55a := by
 refine okS_loop fun N vals bs K h => ?_
 simp only [S55a] at h
 split at h
 case h_2 => exact h.elim
 rename_i b xs n i q b1 cs b2 ps
 obtain ⟨⟨rfl, rfl, rfl, h16, hall⟩, h⟩ := h
 refine search_loop (tab_fit base hk noCS_valid) tab_has noSp_ok (hn := noHn) (adsI := []) (nsI := [([5000],[5000])]) (nsX := [([5000],[5000])]) rfl rfl xs.length
  (fun i => [.ptr [5000] 0, .d (.slice b 4 xs), lint xs.length, lint i]) (fun _ => [pBox q b1 cs b2 ps]) (firstF condE xs) (fun e => (.ret, [.ptr [5000] 0, lint e], [pBox q b1 cs b2 ps])) (by simp) (.exit 1) [.ptr [5000] 0, .any] [pBox q b1 cs b2 ps] (by simp) ?_ ?_ h
 ·
  intro i R hi hR
  refine keep (b55a κ q xs cs ps b1 b2 i xs.length b R) ?_
  have e1 : decide ((i : Int) < xs.length) = true := by simp; omega
  have e2 : IntKind.i64.wrap ((i : Int) + 1) = ((i + 1 : Nat) : Int) := by rw [Go.IntWalk.i64_in _ (by omega)]; omega
  have hv := hall _ (getD_mem hi)
  rw [e1]
  simp only [Int.toNat_natCast, e2, cond_true, show cV _ = _ from hv]
  refine ⟨⟨by omega, hi, trivial⟩, hv, cond_split (fun h1 => ⟨trivial, ?_⟩) (fun h1 => ⟨trivial, ?_⟩)⟩ <;> (simp only [firstF, h1, cond_true, cond_false, optE] at hR; exact hR)
 ·
  intro R hR
  refine keep (b55a κ q xs cs ps b1 b2 xs.length xs.length b R) ?_
  have e1 : decide ((xs.length : Int) < xs.length) = false := by simp
  rw [e1]
  exact ⟨rfl, hR⟩
theorem firstF_congr {f g : D → Int} {xs : List D} (h : ∀ a ∈ xs, f a = g a) : search (firstF f xs) xs.length = search (firstF g xs) xs.length := by
 have key : ∀ n i, i + n ≤ xs.length → rounds (fun i _ => ofOpt (firstF f xs i)) n i () = rounds (fun i _ => ofOpt (firstF g xs i)) n i () := by
  intro n
  induction n with
  | zero => intro i _; rfl
  | succ n ih =>
   intro i hi
   unfold rounds
   have e : firstF f xs i = firstF g xs i := by unfold firstF; rw [h _ (getD_mem (by omega))]
   simp only [e]
   cases ofOpt (firstF g xs i) with
   | inl _ => exact ih (i + 1) (by omega)
   | inr _ => rfl
 unfold search
 rw [key _ 0 (by omega)]
theorem patT_congr (r r' : D → Int) (y : D) (h : ∀ a ∈ subs y 2, r a = r' a) : patT r y = patT r' y := by
 unfold patT
 rw [firstF_congr h]
theorem patE_eq (y : D) : patE y = patT patE y := fixD_step patT_congr y
theorem ok55b {κ : Nat} (hk : TabOk B (U55 κ)) : OkS (Cn (U55 κ)) 0 (.loop l55b) (S55b patE κ) := by
 refine okS_loop fun N vals bs K h => ?_
 simp only [S55b] at h
 split at h
 case h_2 => exact h.elim
 rename_i b xs n i
 obtain ⟨⟨rfl, _, rfl, rfl, h16, hall⟩, h⟩ := h
 refine search_loop (tab_fit base hk noCS_valid) tab_has noSp_ok (hn := noHn) (adsI := []) (nsI := []) (nsX := []) rfl rfl xs.length
  (fun i => [.d (.slice b 3 xs), lint xs.length, lint i]) (fun _ => []) (firstF patE xs) (fun e => (.ret, [lint e], [])) (by simp) (.exit 3) [.any] [] (by simp) ?_ ?_ h
 ·
  intro i R hi hR
  refine keep (b55b κ xs i xs.length b R) ?_
  have e1 : decide ((i : Int) < xs.length) = true := by simp; omega
  have e2 : IntKind.i64.wrap ((i : Int) + 1) = ((i + 1 : Nat) : Int) := by rw [Go.IntWalk.i64_in _ (by omega)]; omega
  obtain ⟨hv, hlt⟩ := hall _ (getD_mem hi)
  rw [e1]
  simp only [Int.toNat_natCast, e2, cond_true, hv.v]
  refine ⟨⟨by omega, hi, trivial⟩, ⟨hv, hlt⟩, cond_split (fun h1 => ⟨trivial, ?_⟩) (fun h1 => ⟨trivial, ?_⟩)⟩ <;> (simp only [firstF, h1, cond_true, cond_false, optE] at hR; exact hR)
 ·
  intro R hR
  refine keep (b55b κ xs xs.length xs.length b R) ?_
  have e1 : decide ((xs.length : Int) < xs.length) = false := by simp
  rw [e1]
  exact ⟨rfl, hR⟩
theorem k55 : TabOk B T55 := by
 refine add_rec base k75 μ1 (fn := Tryz.f55) (cd := bodyOf Tryz.f55) (sp := fun n => spL [(26, S55a), (40, S55b patE n)]) (hn := noHn) Tryz.func55 (by kernel_rfl) (by kernel_rfl) (fun n hk => specT_cons (c := .loop l55a) (by kernel_rfl) (ok55a hk) (specT_cons (c := .loop l55b) (by kernel_rfl) (ok55b hk) specT_nil)) fun κ ds r hp hm hr => ?_
 unfold c55 at hp hr
 simp only [] at hr hp
 split at hr
 ·
  rename_i x
  cases hr
  rw [arg1 (FitP.v hp)]
  refine keep (w55 patE κ x fun v => v = _) ?_
  rw [patE_eq]
  unfold patT
  have hc : ∀ y ∈ seqD (cellOf x 1), FitC y := hp.c
  have ha : ∀ y ∈ seqD (cellOf x 2), FitP y ∧ dsz y < κ := fun y hy => ⟨hp.a y hy, hm ▸ subs_lt hy⟩
  generalize search (firstF condE (seqD (cellOf x 1))) (seqD (cellOf x 1)).length = o1
  generalize search (firstF patE (seqD (cellOf x 2))) (seqD (cellOf x 2)).length = o2
  cases o1 <;> cases o2 <;> (repeat' (first | with_reducible rfl | (refine cond_split (fun hcw => ?_) (fun hcw => ?_) <;> simp only [hcw, cond_true, cond_false]) | refine and_i ?_ ?_))
  all_goals first | trivial | assumption | (simp at *; omega) | (simp at *; grind)
 ·
  cases hr
theorem k23 : TabOk B T23 := by
 refine add_body base k55 (fn := Tryz.f23) (cd := bodyOf Tryz.f23) (sp := noSp) (hn := noHn) Tryz.func23 (by kernel_rfl) (by kernel_rfl) noSp_ok fun ds r hp hr => ?_
 unfold c23 at hp hr
 simp only [] at hr hp
 split at hr
 ·
  rename_i x
  cases hr
  rw [arg1 (FitP.v hp)]
  refine keep (w23 x fun v => v = _) ?_
  unfold patCheckE
  rw [FitP.v hp]
  (repeat' (first | with_reducible rfl | (refine cond_split (fun hcw => ?_) (fun hcw => ?_) <;> simp only [hcw, cond_true, cond_false]) | refine and_i ?_ ?_))
  all_goals first | exact hp | trivial | (simp [cap] at *; omega)
 ·
  cases hr
noncomputable def l196 : Code := roundOf (pieceAt (bodyOf Tryz.f196) 2)
theorem b196 (a : Int) (b : Int) (R : X → List V → List Box → Prop) : (roundT (Cn T23) T23 noCS 0 noSp noHn l196 12 [0, 1] [] [] [] [0] []
 [V.d (D.lit (Value.int IntKind.u64 a)), V.d (D.lit (Value.int IntKind.u64 b))] [] R) =
 (bif b != 0 then
 ((IntKind.u64 = IntKind.u64 ∧ b ≠ 0) ∧
 (12 = 12 ∧
 R X.normal [V.d (D.lit (Value.int IntKind.u64 b)), V.d (D.lit (Value.int IntKind.u64 (a.tmod b)))] [])) else
 (12 = 12 ∧
 R (X.exit 0) [V.d (D.lit (Value.int IntKind.u64 a))] [])) := by kernel_rfl
noncomputable def S196 : Ev.Spec := { L := [0,1], ns := [], L' := [0], nm' := [], G := fun N vals bs k => match vals, bs with
 | [.d (.lit (.int .u64 a)), .d (.lit (.int .u64 b))], [] => ∃ x y : Nat, (N = 12 ∧ a = x ∧ b = y ∧ x < 18446744073709551616 ∧ y < 18446744073709551616) ∧ k (.exit 0) [.d (.lit (.int .u64 (Nat.gcd x y : Nat)))] []
 | _, _ => False }
theorem w196 (a : Int) (b : Int) (p : V → Prop) : (evBodyT (Cn T23) T23 noCS 0 (spL [(2, S196)]) noHn 196
 [V.d (D.lit (Value.int IntKind.u64 a)), V.d (D.lit (Value.int IntKind.u64 b))] Heap.empty fun v H => p (freezeR H v)) =
 (∃ (x : Nat), (∃ (y : Nat), ((12 = 12 ∧ (((a : Int) = (↑x : Int)) ∧ (((b : Int) = (↑y : Int)) ∧ (x < 18446744073709551616 ∧ y < 18446744073709551616)))) ∧
 p (V.d (D.lit (Value.int IntKind.u64 (↑(x.gcd y) : Int))))))) := by kernel_rfl
noncomputable def c196 : Ct := ⟨fun | [.lit (.int .u64 a), .lit (.int .u64 b)] => 0 ≤ a ∧ a < 18446744073709551616 ∧ 0 ≤ b ∧ b < 18446744073709551616 | _ => False, fun | [.lit (.int .u64 a), .lit (.int .u64 b)] => some (.lit (.int .u64 (Nat.gcd a.toNat b.toNat : Nat))) | _ => none⟩
noncomputable def T196 : Tab := T23.add 196 c196
theorem w197 (n : Int) (p : V → Prop) : (evBodyT (Cn T196) T196 noCS 0 noSp noHn 197 [lint n] Heap.empty fun v H => p (freezeR H v)) =
 (bif decide (n < 0) then
 p (V.d (D.lit (Value.int IntKind.u64 (IntKind.u64.wrap (0 - IntKind.u64.wrap n))))) else
 p (V.d (D.lit (Value.int IntKind.u64 (IntKind.u64.wrap n))))) := by kernel_rfl
noncomputable def magU (n : Int) : Int :=
 (bif decide (n < 0) then
 (IntKind.u64.wrap (0 - IntKind.u64.wrap n)) else
 (IntKind.u64.wrap n))
noncomputable def c197 : Ct := ⟨fun _ => True, fun | [.lit (.int .i64 n)] => some (.lit (.int .u64 (magU n))) | _ => none⟩
noncomputable def T197 : Tab := T196.add 197 c197
abbrev rV (n d : Int) : D := .agg [.lit (.int .i64 n), .lit (.int .i64 d)]
theorem w154 (n : Int) (d : Int) (p : V → Prop) : (evBodyT (Cn T197) T197 noCS 0 noSp noHn 154 [V.d (rV n d)] Heap.empty fun v H => p (freezeR H v)) =
 (bif bif decide (d < 1) then true else decide (d > 1152921504606846976) then
 p (V.d (D.lit (Value.int IntKind.i64 1))) else
 (bif bif decide (n < -1152921504606846976) then true else decide (n > 1152921504606846976) then
 p (V.d (D.lit (Value.int IntKind.i64 1))) else
 (True ∧
 ((((0 : Int) ≤ magU n) ∧ (((magU n : Int) < 18446744073709551616) ∧ (((0 : Int) ≤ IntKind.u64.wrap d) ∧ ((IntKind.u64.wrap d : Int) < 18446744073709551616)))) ∧
 (bif (↑((magU n).toNat.gcd (IntKind.u64.wrap d).toNat) : Int) != 1 then
 p (V.d (D.lit (Value.int IntKind.i64 1))) else
 p (V.d (D.lit (Value.int IntKind.i64 0)))))))) := by kernel_rfl
noncomputable def ratioE (n d : Int) : Int :=
 (bif bif decide (d < 1) then true else decide (d > 1152921504606846976) then
 1 else
 (bif bif decide (n < -1152921504606846976) then true else decide (n > 1152921504606846976) then
 1 else
 (bif (↑((magU n).toNat.gcd (IntKind.u64.wrap d).toNat) : Int) != 1 then
 1 else
 0)))
noncomputable def c154 : Ct := ⟨fun _ => True, fun | [.agg [.lit (.int .i64 n), .lit (.int .i64 d)]] => some (.lit (.int .i64 (ratioE n d))) | _ => none⟩
noncomputable def T154 : Tab := T197.add 154 c154
theorem w136 (y : D) (p : V → Prop) : (evBodyT (Cn T154) T154 noCS 0 noSp noHn 136 [V.d (eV y)] Heap.empty fun v H => p (freezeR H v)) =
 (True ∧
 (bif ratioE (intOf (cellOf y 5)) (intOf (cellOf y 6)) != 0 then
 p (V.d (D.lit (Value.int IntKind.i64 1))) else
 (bif intOf (cellOf y 0) == 1 then
 p (V.d (D.lit (Value.int IntKind.i64 0))) else
 (bif bif intOf (cellOf y 0) == 6 then intOf (cellOf y 1) == 7 else false then
 (bif bif bif intOf (cellOf y 6) != 1 then true else decide (intOf (cellOf y 5) < 1) then true
 else decide (intOf (cellOf y 5) > 1000) then
 p (V.d (D.lit (Value.int IntKind.i64 2))) else
 p (V.d (D.lit (Value.int IntKind.i64 0)))) else
 (bif bif decide (intOf (cellOf y 5) < 0) then true else decide (intOf (cellOf y 5) > intOf (cellOf y 6)) then
 p (V.d (D.lit (Value.int IntKind.i64 2))) else
 p (V.d (D.lit (Value.int IntKind.i64 0)))))))) := by kernel_rfl
noncomputable def numberE (y : D) : Int :=
 (bif ratioE (intOf (cellOf y 5)) (intOf (cellOf y 6)) != 0 then
 1 else
 (bif intOf (cellOf y 0) == 1 then
 0 else
 (bif bif intOf (cellOf y 0) == 6 then intOf (cellOf y 1) == 7 else false then
 (bif bif bif intOf (cellOf y 6) != 1 then true else decide (intOf (cellOf y 5) < 1) then true
 else decide (intOf (cellOf y 5) > 1000) then
 2 else
 0) else
 (bif bif decide (intOf (cellOf y 5) < 0) then true else decide (intOf (cellOf y 5) > intOf (cellOf y 6)) then
 2 else
 0))))
noncomputable def c136 : Ct := ⟨fun | [x] => FitE x | _ => False, fun | [x] => some (.lit (.int .i64 (numberE x))) | _ => none⟩
noncomputable def T136 : Tab := T154.add 136 c136
noncomputable def l137 : Code := roundOf (pieceAt (bodyOf Tryz.f137) 22)
def FitB (x : D) : Prop := .lit (.int .u8 (intOf x)) = x
def byteErr (xs : List D) (i : Nat) : Option Int := bif (bif intOf (xs.getD i .any) != 95 then (bif decide (intOf (xs.getD i .any) < 97) then true else decide (intOf (xs.getD i .any) > 122)) else false) then some 5 else none
noncomputable def S137 : Ev.Spec := { L := [31,32,33], ns := [], L' := [2], nm' := [], G := fun N vals bs k => match vals, bs with
 | [.d (.slice b 1 xs), .d (.lit (.int .i64 n)), .d (.lit (.int .i64 i))], [] => (N = 48 ∧ i = 0 ∧ n = xs.length ∧ xs.length ≤ 60 ∧ ∀ y ∈ xs, FitB y) ∧ optE (search (byteErr xs) xs.length) (k (.exit 1) [.any] []) (fun e => k .ret [lint e] [])
 | _, _ => False }
theorem b137 (xs : List D) (i : Int) (n : Int) (b : Bool) (R : X → List V → List Box → Prop) : (roundT (Cn T136) T136 noCS 0 noSp noHn l137 48 [31, 32, 33] [] [] [] [2] [] [V.d (D.slice b 1 xs), lint n, lint i] [] R) =
 (bif decide (i < n) then
 ((((0 : Int) ≤ i) ∧ (i.toNat < xs.length ∧ D.lit (Value.int IntKind.u8 (intOf (xs.getD i.toNat D.any))) = xs.getD i.toNat D.any)) ∧
 (bif bif intOf (xs.getD i.toNat D.any) != 95 then
 bif decide (intOf (xs.getD i.toNat D.any) < 97) then true else decide (intOf (xs.getD i.toNat D.any) > 122)
 else false then
 (48 = 48 ∧
 R X.ret [V.d (D.lit (Value.int IntKind.i64 5))] []) else
 (48 = 48 ∧
 R X.normal
 [V.d (D.slice b 1 xs), V.d (D.lit (Value.int IntKind.i64 n)),
 V.d (D.lit (Value.int IntKind.i64 (IntKind.i64.wrap (i + 1))))]
 []))) else
 (48 = 48 ∧
 R (X.exit 1) [V.any] [])) := by kernel_rfl
theorem w137 (y : D) (p : V → Prop) : (evBodyT (Cn T136) T136 noCS 0 (spL [(22, S137)]) noHn 137 [V.d (eV y)] Heap.empty fun v H => p (freezeR H v)) =
  (bif intOf (cellOf y 0) == 5 then
   (bif decide ((↑(strOf (cellOf y 14)).size : Int) > 60) then
    p (V.d (D.lit (Value.int IntKind.i64 4))) else
    p (V.d (D.lit (Value.int IntKind.i64 0)))) else
   (bif intOf (cellOf y 0) == 13 then
    (bif bif decide ((↑(strOf (cellOf y 14)).size : Int) < 1) then true else decide ((↑(strOf (cellOf y 14)).size : Int) > 60) then
     p (V.d (D.lit (Value.int IntKind.i64 5))) else
     ((48 = 48 ∧ (((0 : Int) = 0) ∧ ((((↑(bytesD (strOf (cellOf y 14))).length : Int) : Int) = (↑(bytesD (strOf (cellOf y 14))).length : Int)) ∧ ((bytesD (strOf (cellOf y 14))).length ≤ 60 ∧ ∀ (y_1 : D), y_1 ∈ bytesD (strOf (cellOf y 14)) → FitB y_1)))) ∧
     (match search (byteErr (bytesD (strOf (cellOf y 14)))) (bytesD (strOf (cellOf y 14))).length with
     | some y0 =>
      p (V.d (D.lit (Value.int IntKind.i64 y0)))
     | none => p (V.d (D.lit (Value.int IntKind.i64 0)))))) else
    (True ∧
    (bif !isName (strOf (cellOf y 14)) then
     p (V.d (D.lit (Value.int IntKind.i64 5))) else
     p (V.d (D.lit (Value.int IntKind.i64 0))))))) := by kernel_rfl
noncomputable def textE (y : D) : Int :=
 (bif intOf (cellOf y 0) == 5 then
 (bif decide ((↑(strOf (cellOf y 14)).size : Int) > 60) then
 4 else
 0) else
 (bif intOf (cellOf y 0) == 13 then
 (bif bif decide ((↑(strOf (cellOf y 14)).size : Int) < 1) then true else decide ((↑(strOf (cellOf y 14)).size : Int) > 60) then
 5 else
 (match search (byteErr (bytesD (strOf (cellOf y 14)))) (bytesD (strOf (cellOf y 14))).length with
 | some y0 => y0
 | none => 0)) else
 (bif !isName (strOf (cellOf y 14)) then
 5 else
 0)))
noncomputable def c137 : Ct := ⟨fun | [x] => FitE x | _ => False, fun | [x] => some (.lit (.int .i64 (textE x))) | _ => none⟩
noncomputable def T137 : Tab := T136.add 137 c137
def numB (b : Bool) (k f : Int) : Bool := bif k == 2 then (bif f == 10 then true else f == 11) else bif k == 3 then b else bif k == 6 then (bif (bif f == 6 then true else f == 7) then true else f == 9) else b
def textB (b : Bool) (k f : Int) : Bool := bif k == 2 then b else bif k == 3 then f == 3 else bif k == 6 then f == 8 else b
abbrev bD (b : Bool) : D := .lit (.bool b)
theorem w83 (nm : D) (fns : D) (b0 : Bool) (b1 : Bool) (b2 : Bool) (b3 : Bool) (b4 : Bool) (b5 : Bool) (b6 : Bool) (b7 : Bool) (b8 : Bool) (b9 : Bool) (ar : Int) (ty : Int) (y : D) (p : V → Prop) : (evBodyT (Cn T137) T137 noCS 0 noSp noHn 83
 [V.d
 (D.agg
 [nm, bD b0, bD b1, bD b2, bD b3, bD b4, bD b5, bD b6, bD b7, bD b8, bD b9, fns,
 D.lit (Value.int IntKind.i64 ar), D.lit (Value.int IntKind.i64 ty)]),
 V.d (eV y)]
 Heap.empty fun v H => p (freezeR H v)) =
 (bif intOf (cellOf y 0) == 2 then
 p
 (V.d
 (D.agg
 [D.lit (Value.bool b0), D.lit (Value.bool b1),
 D.lit (Value.bool (bif intOf (cellOf y 1) == 10 then true else intOf (cellOf y 1) == 11)),
 D.lit (Value.bool b3), D.lit (Value.bool b4), D.lit (Value.bool b5), D.lit (Value.bool b6),
 D.lit (Value.bool b7), D.lit (Value.bool b8), D.lit (Value.bool b9)])) else
 (bif intOf (cellOf y 0) == 3 then
 p
 (V.d
 (D.agg
 [D.lit (Value.bool b0), D.lit (Value.bool b1), D.lit (Value.bool b2),
 D.lit (Value.bool (intOf (cellOf y 1) == 3)), D.lit (Value.bool b4), D.lit (Value.bool b5),
 D.lit (Value.bool b6), D.lit (Value.bool b7), D.lit (Value.bool b8), D.lit (Value.bool b9)])) else
 (bif intOf (cellOf y 0) == 6 then
 p
 (V.d
 (D.agg
 [D.lit (Value.bool b0), D.lit (Value.bool b1),
 D.lit
 (Value.bool
 (bif bif intOf (cellOf y 1) == 6 then true else intOf (cellOf y 1) == 7 then true
 else intOf (cellOf y 1) == 9)),
 D.lit (Value.bool (intOf (cellOf y 1) == 8)), D.lit (Value.bool b4), D.lit (Value.bool b5),
 D.lit (Value.bool b6), D.lit (Value.bool b7), D.lit (Value.bool b8), D.lit (Value.bool b9)])) else
 p
 (V.d
 (D.agg
 [D.lit (Value.bool b0), D.lit (Value.bool b1), D.lit (Value.bool b2), D.lit (Value.bool b3),
 D.lit (Value.bool b4), D.lit (Value.bool b5), D.lit (Value.bool b6), D.lit (Value.bool b7),
 D.lit (Value.bool b8), D.lit (Value.bool b9)]))))) := by kernel_rfl
noncomputable def c83 : Ct := ⟨fun | [.agg _, y] => FitE y | _ => False, fun | [.agg [nm, .lit (.bool b0), .lit (.bool b1), .lit (.bool b2), .lit (.bool b3), .lit (.bool b4), .lit (.bool b5), .lit (.bool b6), .lit (.bool b7), .lit (.bool b8), .lit (.bool b9), fns, .lit (.int .i64 ar), .lit (.int .i64 ty)], y] => some (.agg [bD b0, bD b1, bD (numB b2 (intOf (cellOf y 0)) (intOf (cellOf y 1))), bD (textB b3 (intOf (cellOf y 0)) (intOf (cellOf y 1))), bD b4, bD b5, bD b6, bD b7, bD b8, bD b9]) | _ => none⟩
noncomputable def T83 : Tab := T137.add 83 c83
theorem arg2b {x y z : D} (h : y = x) : [z, x].map V.d = [V.d z, V.d y] := by rw [h]; rfl
theorem ok196 : OkS (Cn T23) 0 (.loop l196) S196 := by
 refine okS_loop fun N vals bs K h => ?_
 simp only [S196] at h
 split at h
 case h_2 => exact h.elim
 rename_i a b
 obtain ⟨x, y, ⟨rfl, rfl, rfl, hx, hy⟩, h⟩ := h
 have main : ∀ (n x y : Nat), y ≤ n → K (.exit 0) [.d (.lit (.int .u64 (Nat.gcd x y : Nat)))] [] → LoopT (Cn T23) 0 l196 12 [0,1] [] [0] [] [.d (.lit (.int .u64 x)), .d (.lit (.int .u64 y))] [] K := by
  intro n
  induction n with
  | zero =>
   intro x y hn h
   have : y = 0 := by omega
   subst this
   refine loopT_step (tab_fit base k23 noCS_valid) tab_has noSp_ok (hn := noHn) (adsI := []) (nsI := []) (nsX := []) rfl rfl (keep (b196 x 0 _) ?_)
   rw [Nat.gcd_zero_right] at h
   exact ⟨rfl, h⟩
  | succ n ih =>
   intro x y hn h
   refine loopT_step (tab_fit base k23 noCS_valid) tab_has noSp_ok (hn := noHn) (adsI := []) (nsI := []) (nsX := []) rfl rfl (keep (b196 x y _) ?_)
   refine cond_split (fun h1 => ?_) (fun h1 => ?_)
   ·
    have hy : y ≠ 0 := by rintro rfl; simp at h1
    refine ⟨⟨rfl, by omega⟩, rfl, ?_⟩
    have e : ((x : Int)).tmod (y : Int) = ((x % y : Nat) : Int) := by rw [Int.ofNat_tmod]
    rw [e]
    refine ih y (x % y) (by have := Nat.mod_lt x (Nat.pos_of_ne_zero hy); omega) ?_
    rw [Nat.gcd_comm y, ← Nat.gcd_rec, Nat.gcd_comm]
    exact h
   ·
    have hy : y = 0 := by simpa using h1
    subst hy
    rw [Nat.gcd_zero_right] at h
    exact ⟨rfl, h⟩
 exact main y x y (Nat.le_refl _) h
theorem k196 : TabOk B T196 := by
 refine add_body base k23 (fn := Tryz.f196) (cd := bodyOf Tryz.f196) (sp := spL [(2, S196)]) (hn := noHn) Tryz.func196 (by kernel_rfl) (by kernel_rfl) (specT_cons (c := .loop l196) (by kernel_rfl) ok196 specT_nil) fun ds r hp hr => ?_
 unfold c196 at hp hr
 simp only [] at hr hp
 split at hr
 ·
  rename_i a b
  cases hr
  obtain ⟨h1, h2, h3, h4⟩ := hp
  refine keep (w196 a b fun v => v = _) ?_
  exact ⟨a.toNat, b.toNat, ⟨rfl, by omega, by omega, by omega, by omega⟩, rfl⟩
 ·
  cases hr
theorem k197 : TabOk B T197 := by
 refine add_body base k196 (fn := Tryz.f197) (cd := bodyOf Tryz.f197) (sp := noSp) (hn := noHn) Tryz.func197 (by kernel_rfl) (by kernel_rfl) noSp_ok fun ds r hp hr => ?_
 unfold c197 at hp hr
 simp only [] at hr hp
 split at hr
 ·
  rename_i n
  cases hr
  refine keep (w197 n fun v => v = _) ?_
  unfold magU
  (repeat' (first | with_reducible rfl | (refine cond_split (fun hcw => ?_) (fun hcw => ?_) <;> simp only [hcw, cond_true, cond_false]) | refine and_i ?_ ?_))
 ·
  cases hr
theorem wrap_u64 (n : Int) : 0 ≤ IntKind.u64.wrap n ∧ IntKind.u64.wrap n < 18446744073709551616 := by
 have e : IntKind.u64.wrap n = n % 18446744073709551616 := rfl
 rw [e]; omega
theorem magU_in (n : Int) : 0 ≤ magU n ∧ magU n < 18446744073709551616 := by
 unfold magU
 cases decide (n < 0) <;> exact wrap_u64 _
theorem k154 : TabOk B T154 := by
 refine add_body base k197 (fn := Tryz.f154) (cd := bodyOf Tryz.f154) (sp := noSp) (hn := noHn) Tryz.func154 (by kernel_rfl) (by kernel_rfl) noSp_ok fun ds r hp hr => ?_
 unfold c154 at hp hr
 simp only [] at hr hp
 split at hr
 ·
  rename_i n d
  cases hr
  refine keep (w154 n d fun v => v = _) ?_
  unfold ratioE
  (repeat' (first | with_reducible rfl | (refine cond_split (fun hcw => ?_) (fun hcw => ?_) <;> simp only [hcw, cond_true, cond_false]) | refine and_i ?_ ?_))
  all_goals first | trivial | exact (magU_in n).1 | exact (magU_in n).2 | exact (wrap_u64 d).1 | exact (wrap_u64 d).2
 ·
  cases hr
theorem k136 : TabOk B T136 := by
 refine add_body base k154 (fn := Tryz.f136) (cd := bodyOf Tryz.f136) (sp := noSp) (hn := noHn) Tryz.func136 (by kernel_rfl) (by kernel_rfl) noSp_ok fun ds r hp hr => ?_
 unfold c136 at hp hr
 simp only [] at hr hp
 split at hr
 ·
  rename_i x
  cases hr
  rw [arg1 (FitE.v hp)]
  refine keep (w136 x fun v => v = _) ?_
  unfold numberE
  (repeat' (first | with_reducible rfl | (refine cond_split (fun hcw => ?_) (fun hcw => ?_) <;> simp only [hcw, cond_true, cond_false]) | refine and_i ?_ ?_))
  all_goals trivial
 ·
  cases hr
theorem ok137 : OkS (Cn T136) 0 (.loop l137) S137 := by
 refine okS_loop fun N vals bs K h => ?_
 simp only [S137] at h
 split at h
 case h_2 => exact h.elim
 rename_i b xs n i
 obtain ⟨⟨rfl, rfl, rfl, h16, hall⟩, h⟩ := h
 refine search_loop (tab_fit base k136 noCS_valid) tab_has noSp_ok (hn := noHn) (adsI := []) (nsI := []) (nsX := []) rfl rfl xs.length
  (fun i => [.d (.slice b 1 xs), lint xs.length, lint i]) (fun _ => []) (byteErr xs) (fun e => (.ret, [lint e], [])) (by simp) (.exit 1) [.any] [] (by simp) ?_ ?_ h
 ·
  intro i R hi hR
  refine keep (b137 xs i xs.length b R) ?_
  have e1 : decide ((i : Int) < xs.length) = true := by simp; omega
  have e2 : IntKind.i64.wrap ((i : Int) + 1) = ((i + 1 : Nat) : Int) := by rw [Go.IntWalk.i64_in _ (by omega)]; omega
  have hv := hall _ (getD_mem hi)
  rw [e1]
  simp only [Int.toNat_natCast, e2, cond_true]
  refine ⟨⟨by omega, hi, hv⟩, cond_split (fun h1 => ⟨trivial, ?_⟩) (fun h1 => ⟨trivial, ?_⟩)⟩ <;> (simp only [byteErr, h1, cond_true, cond_false, optE] at hR; exact hR)
 ·
  intro R hR
  refine keep (b137 xs xs.length xs.length b R) ?_
  have e1 : decide ((xs.length : Int) < xs.length) = false := by simp
  rw [e1]
  exact ⟨rfl, hR⟩
theorem bytesD_len (s : ByteArray) : (bytesD s).length = s.size := by simp [bytesD]
theorem bytesD_fit (s : ByteArray) : ∀ y ∈ bytesD s, FitB y := by
 intro y hy
 unfold bytesD at hy
 obtain ⟨b, _, rfl⟩ := List.mem_map.1 hy
 rfl
theorem k137 : TabOk B T137 := by
 refine add_body base k136 (fn := Tryz.f137) (cd := bodyOf Tryz.f137) (sp := spL [(22, S137)]) (hn := noHn) Tryz.func137 (by kernel_rfl) (by kernel_rfl) (specT_cons (c := .loop l137) (by kernel_rfl) ok137 specT_nil) fun ds r hp hr => ?_
 unfold c137 at hp hr
 simp only [] at hr hp
 split at hr
 ·
  rename_i x
  cases hr
  rw [arg1 (FitE.v hp)]
  refine keep (w137 x fun v => v = _) ?_
  unfold textE
  have hb := bytesD_fit (strOf (cellOf x 14))
  have hl := bytesD_len (strOf (cellOf x 14))
  generalize search (byteErr (bytesD (strOf (cellOf x 14)))) (bytesD (strOf (cellOf x 14))).length = o1
  cases o1 <;> (repeat' (first | with_reducible rfl | (refine cond_split (fun hcw => ?_) (fun hcw => ?_) <;> simp only [hcw, cond_true, cond_false]) | refine and_i ?_ ?_))
  all_goals first | trivial | assumption | (simp at *; omega) | (simp at *; grind)
 ·
  cases hr
theorem k83 : TabOk B T83 := by
 refine add_body base k137 (fn := Tryz.f83) (cd := bodyOf Tryz.f83) (sp := noSp) (hn := noHn) Tryz.func83 (by kernel_rfl) (by kernel_rfl) noSp_ok fun ds r hp hr => ?_
 unfold c83 at hp hr
 simp only [] at hr hp
 split at hr
 ·
  rename_i nm b0 b1 b2 b3 b4 b5 b6 b7 b8 b9 fns ar ty y
  cases hr
  rw [arg2b (FitE.v hp)]
  refine keep (w83 nm fns b0 b1 b2 b3 b4 b5 b6 b7 b8 b9 ar ty y fun v => v = _) ?_
  unfold numB textB
  (repeat' (first | with_reducible rfl | (refine cond_split (fun hcw => ?_) (fun hcw => ?_) <;> simp only [hcw, cond_true, cond_false]) | refine and_i ?_ ?_))
  all_goals simp_all
 ·
  cases hr
end Go.Ev.R2
end
