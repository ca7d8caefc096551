/- What the proofs of the lexer's laws share, part 5 of 13. -/
import Derived.Test.YtnnhlphbfpnaaaaGreatDoorB4
set_option linter.unusedVariables false
set_option linter.unusedSimpArgs false
section
namespace Go.Ev.R2
open Go Go.Ev Go.Proofs
set_option maxRecDepth 100000
set_option linter.unusedVariables false
set_option linter.unusedSimpArgs false
abbrev iC (y : D) (i : Nat) : D := .lit (.int .i64 (intOf (cellOf y i)))
abbrev bC (y : D) (i : Nat) : D := .lit (.bool (boolOf (cellOf y i)))
abbrev sC (y : D) (i : Nat) : D := .lit (.string (strOf (cellOf y i)))
abbrev lC (y : D) (i sz : Nat) : D := .slice (nilOf (cellOf y i)) sz (seqD (cellOf y i))
abbrev nV (y : D) : D := .lit (.string (strOf y))
abbrev mV (y : D) : D := .agg [iC y 0, sC y 1, sC y 2]
abbrev gV (y : D) : D := .agg [iC y 0, sC y 1, lC y 2 3, lC y 3 1]
abbrev cV (y : D) : D := .agg [sC y 0, iC y 1, sC y 2, iC y 3]
abbrev pV (y : D) : D := .agg [iC y 0, lC y 1 4, lC y 2 3]
abbrev eV (y : D) : D := .agg [iC y 0, iC y 1, lC y 2 3, iC y 3, iC y 4, iC y 5, iC y 6, lC y 7 1, bC y 8, iC y 9, lC y 10 4, iC y 11, lC y 12 4, lC y 13 3, sC y 14, lC y 15 16]
abbrev paV (y : D) : D := .agg [iC y 11, lC y 12 4, lC y 13 3]
abbrev subs (y : D) (i : Nat) : List D := seqD (cellOf y i)
def Short (xs : List D) : Prop := xs.length ≤ 1152921504606846976
def FitM (x : D) : Prop := mV x = x
def FitC (x : D) : Prop := cV x = x
def FitN (x : D) : Prop := nV x = x
inductive FitP : D → Prop
  | mk {y : D} (h : pV y = y) (hl : Short (subs y 1) ∧ Short (subs y 2)) (hc : ∀ c ∈ subs y 1, FitC c) (ha : ∀ a ∈ subs y 2, FitP a) : FitP y
structure FitG (y : D) : Prop where
  v : gV y = y
  ml : Short (subs y 2)
  nl : Short (subs y 3)
  m : ∀ m ∈ subs y 2, FitM m
  n : ∀ n ∈ subs y 3, FitN n
inductive FitE : D → Prop
  | mk {y : D} (h : eV y = y) (hl : (Short (subs y 2) ∧ Short (subs y 7)) ∧ (Short (subs y 10) ∧ Short (subs y 15))) (hm : ∀ m ∈ subs y 2, FitM m) (hn : ∀ n ∈ subs y 7, FitN n) (hs : ∀ s ∈ subs y 10, FitG s) (hp : FitP (paV y)) (ha : ∀ a ∈ subs y 15, FitE a) : FitE y
noncomputable abbrev dsz (y : D) : Nat := SizeOf.sizeOf y
theorem subs_lt {y a : D} {i : Nat} (h : a ∈ subs y i) : dsz a < dsz y := by
  have key : ∀ x : D, a ∈ seqD x → dsz a < dsz x := fun x hx => by
    cases x with
    | slice b z xs => have := List.sizeOf_lt_of_mem (show a ∈ xs from hx); simp only [dsz, D.slice.sizeOf_spec]; omega
    | _ => cases hx
  unfold subs cellOf at h
  rw [List.getD_eq_getElem?_getD] at h
  cases hg : y.cells[i]? with
  | none => rw [hg] at h; cases h
  | some c =>
    rw [hg] at h
    have h1 := key c h
    cases y with
    | agg cs => have := List.sizeOf_lt_of_mem (List.mem_of_getElem? (show cs[i]? = some c from hg)); simp only [dsz, D.agg.sizeOf_spec] at h1 ⊢; omega
    | _ =>
      have := List.mem_of_getElem? hg
      simp only [D.cells, List.mem_singleton] at this
      subst this; exact h1
noncomputable def ptot (y : D) : Nat := 1 + ((subs y 2).attach.map fun ⟨a, h⟩ => ptot a).sum
termination_by dsz y
decreasing_by exact subs_lt h
theorem ptot_eq (y : D) : ptot y = 1 + ((subs y 2).map ptot).sum := by
  rw [ptot]; simp
def maxL (l : List Nat) : Nat := l.foldl max 0
noncomputable def pdep (y : D) : Nat := 1 + maxL ((subs y 2).attach.map fun ⟨a, h⟩ => pdep a)
termination_by dsz y
decreasing_by exact subs_lt h
theorem pdep_eq (y : D) : pdep y = 1 + maxL ((subs y 2).map pdep) := by
  rw [pdep]; simp
noncomputable def edep (y : D) : Nat := 1 + maxL ((subs y 15).attach.map fun ⟨a, h⟩ => edep a)
termination_by dsz y
decreasing_by exact subs_lt h
theorem edep_eq (y : D) : edep y = 1 + maxL ((subs y 15).map edep) := by
  rw [edep]; simp
def hasPat (y : D) : Bool := decide (intOf (cellOf y 11) ≠ 0) || (decide (0 < (subs y 12).length) || decide (0 < (subs y 13).length))
noncomputable def etot (y : D) : Nat := 1 + min (subs y 10).length 100 + (bif hasPat y then ptot (paV y) else 0) + ((subs y 15).attach.map fun ⟨a, h⟩ => etot a).sum
termination_by dsz y
decreasing_by exact subs_lt h
theorem etot_eq (y : D) : etot y = 1 + min (subs y 10).length 100 + (bif hasPat y then ptot (paV y) else 0) + ((subs y 15).map etot).sum := by
  rw [etot]; simp
def cap (n : Nat) : Nat := min n 101
noncomputable def c53 : Ct := ⟨fun | [x, .lit (.int .i64 n)] => FitP x ∧ 0 ≤ n ∧ n ≤ 100 | _ => False, fun | [x, .lit (.int .i64 n)] => some (.lit (.int .i64 (cap (n.toNat + ptot x) : Nat))) | _ => none⟩
noncomputable def μ1 (ds : List D) : Nat := dsz (ds.headD .any)
noncomputable def U53 (n : Nat) : Tab := T41.add 53 (c53.below μ1 n)
noncomputable def T53 : Tab := T41.add 53 c53
def c74 : Ct := ⟨fun | [x] => FitE x | _ => False, fun | [x] => some (.lit (.bool (hasPat x))) | _ => none⟩
noncomputable def T74 : Tab := T53.add 74 c74
noncomputable def c47 : Ct := ⟨fun | [x, .lit (.int .i64 n)] => FitE x ∧ 0 ≤ n ∧ n ≤ 100 | _ => False, fun | [x, .lit (.int .i64 n)] => some (.lit (.int .i64 (cap (n.toNat + etot x) : Nat))) | _ => none⟩
noncomputable def U47 (n : Nat) : Tab := T74.add 47 (c47.below μ1 n)
noncomputable def T47 : Tab := T74.add 47 c47
noncomputable def c19 : Ct := ⟨fun | [x] => FitE x | _ => False, fun | [x] => some (.lit (.int .i64 (cap (etot x) : Nat))) | _ => none⟩
noncomputable def T19 : Tab := T47.add 19 c19
noncomputable def c54 : Ct := ⟨fun | [x] => FitP x ∧ ptot x ≤ 100 | _ => False, fun | [x] => some (.lit (.int .i64 (pdep x : Nat))) | _ => none⟩
noncomputable def U54 (n : Nat) : Tab := T19.add 54 (c54.below μ1 n)
noncomputable def T54 : Tab := T19.add 54 c54
noncomputable def c43 : Ct := ⟨fun | [x] => FitE x ∧ etot x ≤ 100 | _ => False, fun | [x] => some (.lit (.int .i64 (edep x : Nat))) | _ => none⟩
noncomputable def U43 (n : Nat) : Tab := T54.add 43 (c43.below μ1 n)
noncomputable def T43 : Tab := T54.add 43 c43
noncomputable def l53 : Code := roundOf (pieceAt (bodyOf Tryz.f53) 6)
noncomputable def l47 : Code := roundOf (pieceAt (bodyOf Tryz.f47) 10)
noncomputable def l54 : Code := roundOf (pieceAt (bodyOf Tryz.f54) 6)
noncomputable def l43 : Code := roundOf (pieceAt (bodyOf Tryz.f43) 6)
noncomputable def S53 (κ : Nat) : Ev.Spec := { L := [1,10,11,12], ns := [], L' := [1], nm' := [], G := fun N vals bs k => match vals, bs with
  | [.d (.lit (.int .i64 m)), .d (.slice b 3 xs), .d (.lit (.int .i64 n)), .d (.lit (.int .i64 i))], [] => ∃ a : Nat, (N = 24 ∧ i = 0 ∧ n = xs.length ∧ m = (cap a : Nat) ∧ ∀ y ∈ xs, FitP y ∧ dsz y < κ) ∧ k (.exit 0) [lint (cap (a + (xs.map ptot).sum) : Nat)] []
  | _, _ => False }
noncomputable def S47 (κ : Nat) : Ev.Spec := { L := [1,25,26,27], ns := [], L' := [1], nm' := [], G := fun N vals bs k => match vals, bs with
  | [.d (.lit (.int .i64 m)), .d (.slice b 16 xs), .d (.lit (.int .i64 n)), .d (.lit (.int .i64 i))], [] => ∃ a : Nat, (N = 39 ∧ i = 0 ∧ n = xs.length ∧ 0 ≤ m ∧ min m 101 = (cap a : Nat) ∧ ∀ y ∈ xs, FitE y ∧ dsz y < κ) ∧ ∀ m' : Int, min m' 101 = (cap (a + (xs.map etot).sum) : Nat) → k (.exit 0) [lint m'] []
  | _, _ => False }
noncomputable def S54 (κ : Nat) : Ev.Spec := { L := [3,7,8,9], ns := [], L' := [3], nm' := [], G := fun N vals bs k => match vals, bs with
  | [.d (.lit (.int .i64 m)), .d (.slice b 3 xs), .d (.lit (.int .i64 n)), .d (.lit (.int .i64 i))], [] => (N = 20 ∧ i = 0 ∧ n = xs.length ∧ m = 0 ∧ xs.length ≤ 100 ∧ ∀ y ∈ xs, (FitP y ∧ ptot y ≤ 100) ∧ dsz y < κ) ∧ k (.exit 0) [lint (maxL (xs.map pdep) : Nat)] []
  | _, _ => False }
noncomputable def S43 (κ : Nat) : Ev.Spec := { L := [3,7,8,9], ns := [], L' := [3], nm' := [], G := fun N vals bs k => match vals, bs with
  | [.d (.lit (.int .i64 m)), .d (.slice b 16 xs), .d (.lit (.int .i64 n)), .d (.lit (.int .i64 i))], [] => (N = 20 ∧ i = 0 ∧ n = xs.length ∧ m = 0 ∧ xs.length ≤ 100 ∧ ∀ y ∈ xs, (FitE y ∧ etot y ≤ 100) ∧ dsz y < κ) ∧ k (.exit 0) [lint (maxL (xs.map edep) : Nat)] []
  | _, _ => False }
theorem b53 (κ : Nat) (xs : List D) (i : Int) (n : Int) (m : Int) (b : Bool) (R : X → List V → List Box → Prop) : (roundT (Cn (U53 κ)) (U53 κ) noCS 0 noSp noHn l53 24 [1, 10, 11, 12] [] [] [] [1] []
  [lint m, V.d (D.slice b 3 xs), lint n, lint i] [] R) =
  (bif decide (i < n) then
   ((((0 : Int) ≤ i) ∧ (i.toNat < xs.length ∧ pV (xs.getD i.toNat D.any) = xs.getD i.toNat D.any)) ∧
   (bif decide (m > 100) then
    (24 = 24 ∧
    R (X.exit 0) [V.d (D.lit (Value.int IntKind.i64 m))] []) else
    (((FitP (pV (xs.getD i.toNat D.any)) ∧ (((0 : Int) ≤ m) ∧ ((m : Int) ≤ 100))) ∧ μ1 [pV (xs.getD i.toNat D.any), D.lit (Value.int IntKind.i64 m)] < κ) ∧
    (24 = 24 ∧
    R X.normal
  [V.d (D.lit (Value.int IntKind.i64 (↑(cap (m.toNat + ptot (pV (xs.getD i.toNat D.any)))) : Int))),
    V.d (D.slice b 3 xs), V.d (D.lit (Value.int IntKind.i64 n)),
    V.d (D.lit (Value.int IntKind.i64 (IntKind.i64.wrap (i + 1))))]
  [])))) else
   (24 = 24 ∧
   R (X.exit 0) [V.d (D.lit (Value.int IntKind.i64 m))] [])) := by kernel_rfl
theorem w53 (κ : Nat) (y : D) (n : Int) (p : V → Prop) : (evBodyT (Cn (U53 κ)) (U53 κ) noCS 0 (spL [(6, S53 κ)]) noHn 53 [V.d (pV y), lint n] Heap.empty fun v H =>
  p (freezeR H v)) =
  (∃ (a : Nat), ((24 = 24 ∧ (((0 : Int) = 0) ∧ ((((↑(seqD (cellOf y 2)).length : Int) : Int) = (↑(seqD (cellOf y 2)).length : Int)) ∧ (((IntKind.i64.wrap (n + 1) : Int) = (↑(cap a) : Int)) ∧ ∀ (y_1 : D), y_1 ∈ seqD (cellOf y 2) → FitP y_1 ∧ dsz y_1 < κ)))) ∧
  p
  (V.d
    (D.lit
      (Value.int IntKind.i64
        (bif false then
          if 101 > (↑(cap (a + (List.map ptot (seqD (cellOf y 2))).sum)) : Int) then 101
          else (↑(cap (a + (List.map ptot (seqD (cellOf y 2))).sum)) : Int)
        else
          if 101 < (↑(cap (a + (List.map ptot (seqD (cellOf y 2))).sum)) : Int) then 101
          else (↑(cap (a + (List.map ptot (seqD (cellOf y 2))).sum)) : Int))))))) := by kernel_rfl
theorem w74 (y : D) (p : V → Prop) : (evBodyT (Cn T53) T53 noCS 0 noSp noHn 74 [V.d (eV y)] Heap.empty fun v H => p (freezeR H v)) =
  p
  (V.d
    (D.lit
      (Value.bool
        (bif bif intOf (cellOf y 11) != 0 then true else decide ((↑(seqD (cellOf y 12)).length : Int) > 0) then true
        else decide ((↑(seqD (cellOf y 13)).length : Int) > 0))))) := by kernel_rfl
theorem b47 (κ : Nat) (xs : List D) (i : Int) (n : Int) (m : Int) (b : Bool) (R : X → List V → List Box → Prop) : (roundT (Cn (U47 κ)) (U47 κ) noCS 0 noSp noHn l47 39 [1, 25, 26, 27] [] [] [] [1] []
  [lint m, V.d (D.slice b 16 xs), lint n, lint i] [] R) =
  (bif decide (i < n) then
   ((((0 : Int) ≤ i) ∧ (i.toNat < xs.length ∧ eV (xs.getD i.toNat D.any) = xs.getD i.toNat D.any)) ∧
   (bif decide (m > 100) then
    (39 = 39 ∧
    R (X.exit 0) [V.d (D.lit (Value.int IntKind.i64 m))] []) else
    (((FitE (eV (xs.getD i.toNat D.any)) ∧ (((0 : Int) ≤ m) ∧ ((m : Int) ≤ 100))) ∧ μ1 [eV (xs.getD i.toNat D.any), D.lit (Value.int IntKind.i64 m)] < κ) ∧
    (39 = 39 ∧
    R X.normal
  [V.d (D.lit (Value.int IntKind.i64 (↑(cap (m.toNat + etot (eV (xs.getD i.toNat D.any)))) : Int))),
    V.d (D.slice b 16 xs), V.d (D.lit (Value.int IntKind.i64 n)),
    V.d (D.lit (Value.int IntKind.i64 (IntKind.i64.wrap (i + 1))))]
  [])))) else
   (39 = 39 ∧
   R (X.exit 0) [V.d (D.lit (Value.int IntKind.i64 m))] [])) := by kernel_rfl
theorem w47 (κ : Nat) (y : D) (n : Int) (p : V → Prop) : (evBodyT (Cn (U47 κ)) (U47 κ) noCS 0 (spL [(10, S47 κ)]) noHn 47 [V.d (eV y), lint n] Heap.empty fun v H =>
  p (freezeR H v)) =
  (FitE (eV y) ∧
  (bif bif hasPat (eV y) then
  decide
    (IntKind.i64.wrap
        (n +
          IntKind.i64.wrap
            (1 +
              bif false then
                if 100 > (↑(seqD (cellOf y 10)).length : Int) then 100 else (↑(seqD (cellOf y 10)).length : Int)
              else if 100 < (↑(seqD (cellOf y 10)).length : Int) then 100 else (↑(seqD (cellOf y 10)).length : Int))) ≤
      100)
else false then
   ((FitP (paV y) ∧ (((0 : Int) ≤ IntKind.i64.wrap
  (n +
    IntKind.i64.wrap
      (1 +
        bif false then if 100 > (↑(seqD (cellOf y 10)).length : Int) then 100 else (↑(seqD (cellOf y 10)).length : Int)
        else if 100 < (↑(seqD (cellOf y 10)).length : Int) then 100 else (↑(seqD (cellOf y 10)).length : Int)))) ∧ ((IntKind.i64.wrap
  (n +
    IntKind.i64.wrap
      (1 +
        bif false then if 100 > (↑(seqD (cellOf y 10)).length : Int) then 100 else (↑(seqD (cellOf y 10)).length : Int)
        else if 100 < (↑(seqD (cellOf y 10)).length : Int) then 100 else (↑(seqD (cellOf y 10)).length : Int))) : Int) ≤ 100))) ∧
   (∃ (a : Nat), ((39 = 39 ∧ (((0 : Int) = 0) ∧ ((((↑(seqD (cellOf y 15)).length : Int) : Int) = (↑(seqD (cellOf y 15)).length : Int)) ∧ (((0 : Int) ≤ (↑(cap
      ((IntKind.i64.wrap
            (n +
              IntKind.i64.wrap
                (1 +
                  bif false then
                    if 100 > (↑(seqD (cellOf y 10)).length : Int) then 100 else (↑(seqD (cellOf y 10)).length : Int)
                  else
                    if 100 < (↑(seqD (cellOf y 10)).length : Int) then 100
                    else (↑(seqD (cellOf y 10)).length : Int)))).toNat +
        ptot (paV y))) :
  Int)) ∧ (((min
  (↑(cap
        ((IntKind.i64.wrap
              (n +
                IntKind.i64.wrap
                  (1 +
                    bif false then
                      if 100 > (↑(seqD (cellOf y 10)).length : Int) then 100 else (↑(seqD (cellOf y 10)).length : Int)
                    else
                      if 100 < (↑(seqD (cellOf y 10)).length : Int) then 100
                      else (↑(seqD (cellOf y 10)).length : Int)))).toNat +
          ptot (paV y))) :
    Int)
  101 : Int) = (↑(cap a) : Int)) ∧ ∀ (y_1 : D), y_1 ∈ seqD (cellOf y 15) → FitE y_1 ∧ dsz y_1 < κ))))) ∧
   (∀ z0 : Int, (((min z0 101 : Int) = (↑(cap (a + (List.map etot (seqD (cellOf y 15))).sum)) : Int)) → p (V.d (D.lit (Value.int IntKind.i64 (bif false then if 101 > z0 then 101 else z0 else if 101 < z0 then 101 else z0))))))))) else
   (∃ (a : Nat), ((39 = 39 ∧ (((0 : Int) = 0) ∧ ((((↑(seqD (cellOf y 15)).length : Int) : Int) = (↑(seqD (cellOf y 15)).length : Int)) ∧ (((0 : Int) ≤ IntKind.i64.wrap
  (n +
    IntKind.i64.wrap
      (1 +
        bif false then if 100 > (↑(seqD (cellOf y 10)).length : Int) then 100 else (↑(seqD (cellOf y 10)).length : Int)
        else if 100 < (↑(seqD (cellOf y 10)).length : Int) then 100 else (↑(seqD (cellOf y 10)).length : Int)))) ∧ (((min
  (IntKind.i64.wrap
    (n +
      IntKind.i64.wrap
        (1 +
          bif false then
            if 100 > (↑(seqD (cellOf y 10)).length : Int) then 100 else (↑(seqD (cellOf y 10)).length : Int)
          else if 100 < (↑(seqD (cellOf y 10)).length : Int) then 100 else (↑(seqD (cellOf y 10)).length : Int))))
  101 : Int) = (↑(cap a) : Int)) ∧ ∀ (y_1 : D), y_1 ∈ seqD (cellOf y 15) → FitE y_1 ∧ dsz y_1 < κ))))) ∧
   (∀ z1 : Int, (((min z1 101 : Int) = (↑(cap (a + (List.map etot (seqD (cellOf y 15))).sum)) : Int)) → p (V.d (D.lit (Value.int IntKind.i64 (bif false then if 101 > z1 then 101 else z1 else if 101 < z1 then 101 else z1)))))))))) := by kernel_rfl
theorem w19 (y : D) (p : V → Prop) : (evBodyT (Cn T47) T47 noCS 0 noSp noHn 19 [V.d (eV y)] Heap.empty fun v H => p (freezeR H v)) =
  ((FitE (eV y) ∧ (((0 : Int) ≤ 0) ∧ ((0 : Int) ≤ 100))) ∧
  p (V.d (D.lit (Value.int IntKind.i64 (↑(cap (0 + etot (eV y))) : Int))))) := by kernel_rfl
theorem b54 (κ : Nat) (xs : List D) (i : Int) (n : Int) (m : Int) (b : Bool) (R : X → List V → List Box → Prop) : (roundT (Cn (U54 κ)) (U54 κ) noCS 0 noSp noHn l54 20 [3, 7, 8, 9] [] [] [] [3] []
  [lint m, V.d (D.slice b 3 xs), lint n, lint i] [] R) =
  (bif decide (i < n) then
   ((((0 : Int) ≤ i) ∧ (i.toNat < xs.length ∧ pV (xs.getD i.toNat D.any) = xs.getD i.toNat D.any)) ∧
   (((FitP (pV (xs.getD i.toNat D.any)) ∧ ptot (pV (xs.getD i.toNat D.any)) ≤ 100) ∧ μ1 [pV (xs.getD i.toNat D.any)] < κ) ∧
   (20 = 20 ∧
   R X.normal
  [V.d
      (D.lit
        (Value.int IntKind.i64
          (bif true then
            if (↑(pdep (pV (xs.getD i.toNat D.any))) : Int) > m then (↑(pdep (pV (xs.getD i.toNat D.any))) : Int) else m
          else
            if (↑(pdep (pV (xs.getD i.toNat D.any))) : Int) < m then (↑(pdep (pV (xs.getD i.toNat D.any))) : Int)
            else m))),
    V.d (D.slice b 3 xs), V.d (D.lit (Value.int IntKind.i64 n)),
    V.d (D.lit (Value.int IntKind.i64 (IntKind.i64.wrap (i + 1))))]
  []))) else
   (20 = 20 ∧
   R (X.exit 0) [V.d (D.lit (Value.int IntKind.i64 m))] [])) := by kernel_rfl
theorem w54 (κ : Nat) (y : D) (p : V → Prop) : (evBodyT (Cn (U54 κ)) (U54 κ) noCS 0 (spL [(6, S54 κ)]) noHn 54 [V.d (pV y)] Heap.empty fun v H => p (freezeR H v)) =
  ((20 = 20 ∧ (((0 : Int) = 0) ∧ ((((↑(seqD (cellOf y 2)).length : Int) : Int) = (↑(seqD (cellOf y 2)).length : Int)) ∧ (((0 : Int) = 0) ∧ ((seqD (cellOf y 2)).length ≤ 100 ∧ ∀ (y_1 : D), y_1 ∈ seqD (cellOf y 2) → (FitP y_1 ∧ ptot y_1 ≤ 100) ∧ dsz y_1 < κ))))) ∧
  p (V.d (D.lit (Value.int IntKind.i64 (IntKind.i64.wrap ((↑(maxL (List.map pdep (seqD (cellOf y 2)))) : Int) + 1)))))) := by kernel_rfl
theorem b43 (κ : Nat) (xs : List D) (i : Int) (n : Int) (m : Int) (b : Bool) (R : X → List V → List Box → Prop) : (roundT (Cn (U43 κ)) (U43 κ) noCS 0 noSp noHn l43 20 [3, 7, 8, 9] [] [] [] [3] []
  [lint m, V.d (D.slice b 16 xs), lint n, lint i] [] R) =
  (bif decide (i < n) then
   ((((0 : Int) ≤ i) ∧ (i.toNat < xs.length ∧ eV (xs.getD i.toNat D.any) = xs.getD i.toNat D.any)) ∧
   (((FitE (eV (xs.getD i.toNat D.any)) ∧ etot (eV (xs.getD i.toNat D.any)) ≤ 100) ∧ μ1 [eV (xs.getD i.toNat D.any)] < κ) ∧
   (20 = 20 ∧
   R X.normal
  [V.d
      (D.lit
        (Value.int IntKind.i64
          (bif true then
            if (↑(edep (eV (xs.getD i.toNat D.any))) : Int) > m then (↑(edep (eV (xs.getD i.toNat D.any))) : Int) else m
          else
            if (↑(edep (eV (xs.getD i.toNat D.any))) : Int) < m then (↑(edep (eV (xs.getD i.toNat D.any))) : Int)
            else m))),
    V.d (D.slice b 16 xs), V.d (D.lit (Value.int IntKind.i64 n)),
    V.d (D.lit (Value.int IntKind.i64 (IntKind.i64.wrap (i + 1))))]
  []))) else
   (20 = 20 ∧
   R (X.exit 0) [V.d (D.lit (Value.int IntKind.i64 m))] [])) := by kernel_rfl
theorem w43 (κ : Nat) (y : D) (p : V → Prop) : (evBodyT (Cn (U43 κ)) (U43 κ) noCS 0 (spL [(6, S43 κ)]) noHn 43 [V.d (eV y)] Heap.empty fun v H => p (freezeR H v)) =
  ((20 = 20 ∧ (((0 : Int) = 0) ∧ ((((↑(seqD (cellOf y 15)).length : Int) : Int) = (↑(seqD (cellOf y 15)).length : Int)) ∧ (((0 : Int) = 0) ∧ ((seqD (cellOf y 15)).length ≤ 100 ∧ ∀ (y_1 : D), y_1 ∈ seqD (cellOf y 15) → (FitE y_1 ∧ etot y_1 ≤ 100) ∧ dsz y_1 < κ))))) ∧
  p (V.d (D.lit (Value.int IntKind.i64 (IntKind.i64.wrap ((↑(maxL (List.map edep (seqD (cellOf y 15)))) : Int) + 1)))))) := by kernel_rfl
def psum (f : D → Nat) (xs : List D) (i : Nat) : Nat := ((xs.take i).map f).sum
theorem psum_succ {f : D → Nat} {xs : List D} {i : Nat} (h : i < xs.length) : psum f xs (i + 1) = psum f xs i + f (xs.getD i .any) := by
  unfold psum
  rw [List.take_add_one, List.map_append, List.sum_append, List.getElem?_eq_getElem h, List.getD_eq_getElem?_getD, List.getElem?_eq_getElem h]
  simp
theorem psum_all {f : D → Nat} {xs : List D} : psum f xs xs.length = (xs.map f).sum := by unfold psum; rw [List.take_length]
theorem psum_le {f : D → Nat} {xs : List D} (i : Nat) : psum f xs i ≤ (xs.map f).sum := by
  have h := List.take_append_drop i xs
  unfold psum
  conv => rhs; rw [← h, List.map_append, List.sum_append]
  omega
theorem psum_ge {f : D → Nat} (hf : ∀ y, 1 ≤ f y) {xs : List D} : ∀ {i : Nat}, i ≤ xs.length → i ≤ psum f xs i
  | 0, _ => Nat.zero_le _
  | i + 1, h => by rw [psum_succ (by omega)]; have := psum_ge hf (i := i) (xs := xs) (by omega); have := hf (xs.getD i .any); omega
theorem getD_mem {xs : List D} {i : Nat} (h : i < xs.length) : xs.getD i .any ∈ xs := by
  rw [List.getD_eq_getElem?_getD, List.getElem?_eq_getElem h]; exact List.getElem_mem h
theorem ptot_pos (y : D) : 1 ≤ ptot y := by rw [ptot_eq]; omega
theorem etot_pos (y : D) : 1 ≤ etot y := by rw [etot_eq]; omega
theorem FitP.v {y : D} (h : FitP y) : pV y = y := by cases h; assumption
theorem FitE.v {y : D} (h : FitE y) : eV y = y := by cases h; assumption
theorem FitP.l {y : D} (h : FitP y) : Short (subs y 1) ∧ Short (subs y 2) := by cases h; assumption
theorem FitE.l {y : D} (h : FitE y) : (Short (subs y 2) ∧ Short (subs y 7)) ∧ (Short (subs y 10) ∧ Short (subs y 15)) := by cases h; assumption
theorem FitP.a {y : D} (h : FitP y) : ∀ a ∈ subs y 2, FitP a := by cases h; assumption
theorem FitE.a {y : D} (h : FitE y) : ∀ a ∈ subs y 15, FitE a := by cases h; assumption
theorem FitE.p {y : D} (h : FitE y) : FitP (paV y) := by cases h; assumption
theorem FitP.c {y : D} (h : FitP y) : ∀ c ∈ subs y 1, FitC c := by cases h; assumption
theorem FitE.m {y : D} (h : FitE y) : ∀ a ∈ subs y 2, FitM a := by cases h; assumption
theorem FitE.n {y : D} (h : FitE y) : ∀ a ∈ subs y 7, FitN a := by cases h; assumption
theorem FitE.s {y : D} (h : FitE y) : ∀ a ∈ subs y 10, FitG a := by cases h; assumption
theorem ok53 {κ : Nat} (hk : TabOk B (U53 κ)) : OkS (Cn (U53 κ)) 0 (.loop l53) (S53 κ) := by
  refine okS_loop fun N vals bs K h => ?_
  simp only [S53] at h
  split at h
  case h_2 => exact h.elim
  rename_i m b xs n i
  obtain ⟨a, ⟨rfl, rfl, rfl, rfl, hx⟩, h⟩ := h
  have main : ∀ k i, i + k = xs.length → LoopT (Cn (U53 κ)) 0 l53 24 [1,10,11,12] [] [1] [] [lint (cap (a + psum ptot xs i) : Nat), .d (.slice b 3 xs), lint xs.length, lint i] [] K := by
    intro k
    induction k with
    | zero =>
      intro i hi
      have : i = xs.length := by omega
      subst this
      refine loopT_step (tab_fit base hk noCS_valid) tab_has noSp_ok (hn := noHn) (adsI := []) (nsI := []) (nsX := []) rfl rfl (keep (b53 κ xs xs.length xs.length _ b _) ?_)
      have e1 : decide ((xs.length : Int) < xs.length) = false := by simp
      rw [e1, psum_all]
      exact ⟨rfl, h⟩
    | succ k ih =>
      intro i hi
      refine loopT_step (tab_fit base hk noCS_valid) tab_has noSp_ok (hn := noHn) (adsI := []) (nsI := []) (nsX := []) rfl rfl (keep (b53 κ xs i xs.length _ b _) ?_)
      have e1 : decide ((i : Int) < xs.length) = true := by simp; omega
      obtain ⟨hf, hlt⟩ := hx _ (getD_mem (xs := xs) (i := i) (by omega))
      have hv := hf.v
      rw [e1]
      simp only [Int.toNat_natCast, cond_true, hv]
      refine ⟨⟨by omega, by omega, trivial⟩, cond_split (fun hb => ⟨trivial, ?_⟩) (fun hb => ⟨⟨⟨hf, by omega, by simpa using hb⟩, hlt⟩, trivial, ?_⟩)⟩
      · have := psum_le (f := ptot) (xs := xs) i
        simp at hb
        rw [show cap (a + psum ptot xs i) = cap (a + (xs.map ptot).sum) by simp only [cap] at hb ⊢; omega]
        exact h
      · simp at hb
        unfold cap at hb
        have hge := psum_ge ptot_pos (xs := xs) (i := i) (by omega)
        rw [Go.IntWalk.i64_in _ (by omega)]
        have := ih (i + 1) (by omega)
        rw [psum_succ (by omega)] at this
        rw [show cap (cap (a + psum ptot xs i) + ptot (xs.getD i .any)) = cap (a + (psum ptot xs i + ptot (xs.getD i .any))) by simp only [cap]; omega]
        exact this
  have := main xs.length 0 (by omega)
  rw [show psum ptot xs 0 = 0 from by simp [psum]] at this
  exact this
theorem arg1 {x y : D} (h : y = x) : [x].map V.d = [V.d y] := by rw [h]; rfl
theorem arg2 {x y z : D} (h : y = x) : [x, z].map V.d = [V.d y, V.d z] := by rw [h]; rfl
theorem k53 : TabOk B T53 := by
  refine add_rec base k41 μ1 (fn := Tryz.f53) (cd := bodyOf Tryz.f53) (sp := fun n => spL [(6, S53 n)]) (hn := noHn) Tryz.func53 (by kernel_rfl) (by kernel_rfl) (fun n hk => specT_cons (c := .loop l53) (by kernel_rfl) (ok53 hk) specT_nil) fun κ ds r hp hm hr => ?_
  unfold c53 at hp hr
  simp only [] at hr hp
  split at hr
  · rename_i x n
    cases hr
    obtain ⟨hf, h0, h1⟩ := hp
    rw [arg2 hf.v]
    refine keep (w53 κ x n fun v => v = _) ?_
    refine ⟨n.toNat + 1, ⟨rfl, rfl, rfl, by rw [Go.IntWalk.i64_in _ (by omega)]; unfold cap; omega, fun y hy => ⟨hf.a y hy, ?_⟩⟩, ?_⟩
    · rw [← hm]; exact subs_lt hy
    · have e := ptot_eq x
      unfold subs at e
      rw [show n.toNat + 1 + (List.map ptot (seqD (cellOf x 2))).sum = n.toNat + ptot x by omega]
      simp only [cond_false]
      rw [if_neg (by unfold cap; omega)]
  · cases hr
theorem k74 : TabOk B T74 := by
  refine add_body base k53 (fn := Tryz.f74) (cd := bodyOf Tryz.f74) (sp := noSp) (hn := noHn) Tryz.func74 (by kernel_rfl) (by kernel_rfl) noSp_ok fun ds r hp hr => ?_
  unfold c74 at hp hr
  simp only [] at hr hp
  split at hr
  · rename_i x
    cases hr
    rw [arg1 (FitE.v hp)]
    refine keep (w74 x fun v => v = _) ?_
    unfold hasPat
    congr 3
    cases h1 : (intOf (cellOf x 11) != 0) <;> simp_all
  · cases hr
theorem ok47 {κ : Nat} (hk : TabOk B (U47 κ)) : OkS (Cn (U47 κ)) 0 (.loop l47) (S47 κ) := by
  refine okS_loop fun N vals bs K h => ?_
  simp only [S47] at h
  split at h
  case h_2 => exact h.elim
  rename_i m b xs n i
  obtain ⟨a, ⟨rfl, rfl, rfl, hm0, hm, hx⟩, h⟩ := h
  have main : ∀ k i (m : Int), i + k = xs.length → 0 ≤ m → min m 101 = (cap (a + psum etot xs i) : Nat) → LoopT (Cn (U47 κ)) 0 l47 39 [1,25,26,27] [] [1] [] [lint m, .d (.slice b 16 xs), lint xs.length, lint i] [] K := by
    intro k
    induction k with
    | zero =>
      intro i m hi hm0 hm
      have : i = xs.length := by omega
      subst this
      refine loopT_step (tab_fit base hk noCS_valid) tab_has noSp_ok (hn := noHn) (adsI := []) (nsI := []) (nsX := []) rfl rfl (keep (b47 κ xs xs.length xs.length _ b _) ?_)
      have e1 : decide ((xs.length : Int) < xs.length) = false := by simp
      rw [e1]
      rw [psum_all] at hm
      exact ⟨rfl, h m hm⟩
    | succ k ih =>
      intro i m hi hm0 hm
      refine loopT_step (tab_fit base hk noCS_valid) tab_has noSp_ok (hn := noHn) (adsI := []) (nsI := []) (nsX := []) rfl rfl (keep (b47 κ xs i xs.length _ b _) ?_)
      have e1 : decide ((i : Int) < xs.length) = true := by simp; omega
      obtain ⟨hf, hlt⟩ := hx _ (getD_mem (xs := xs) (i := i) (by omega))
      have hv := hf.v
      rw [e1]
      simp only [Int.toNat_natCast, cond_true, hv]
      refine ⟨⟨by omega, by omega, trivial⟩, cond_split (fun hb => ⟨trivial, ?_⟩) (fun hb => ⟨⟨⟨hf, hm0, by simpa using hb⟩, hlt⟩, trivial, ?_⟩)⟩
      · have := psum_le (f := etot) (xs := xs) i
        simp at hb
        refine h m ?_
        simp only [cap] at hm ⊢
        omega
      · simp at hb
        simp only [cap] at hm
        have hge := psum_ge etot_pos (xs := xs) (i := i) (by omega)
        rw [Go.IntWalk.i64_in _ (by omega)]
        refine ih (i + 1) _ (by omega) (by omega) ?_
        rw [psum_succ (by omega)]
        simp only [cap]
        omega
  exact main xs.length 0 m (by omega) hm0 (by simpa [psum] using hm)
theorem len_ptot {xs : List D} : xs.length ≤ (xs.map ptot).sum := by
  rw [← psum_all]; exact psum_ge ptot_pos (Nat.le_refl _)
theorem len_etot {xs : List D} : xs.length ≤ (xs.map etot).sum := by
  rw [← psum_all]; exact psum_ge etot_pos (Nat.le_refl _)
theorem le_sum {f : D → Nat} {y : D} : ∀ {xs : List D}, y ∈ xs → f y ≤ (xs.map f).sum
  | x :: xs, h => by
    rw [List.map_cons, List.sum_cons]
    rcases List.mem_cons.1 h with rfl | h
    · omega
    · have := le_sum (f := f) h; omega
theorem k47 : TabOk B T47 := by
  refine add_rec base k74 μ1 (fn := Tryz.f47) (cd := bodyOf Tryz.f47) (sp := fun n => spL [(10, S47 n)]) (hn := noHn) Tryz.func47 (by kernel_rfl) (by kernel_rfl) (fun n hk => specT_cons (c := .loop l47) (by kernel_rfl) (ok47 hk) specT_nil) fun κ ds r hp hm hr => ?_
  unfold c47 at hp hr
  simp only [] at hr hp
  split at hr
  · rename_i x n
    cases hr
    obtain ⟨hf, h0, h1⟩ := hp
    rw [arg2 hf.v]
    refine keep (w47 κ x n fun v => v = _) ?_
    rw [hf.v]
    have hmin : (bif false then if 100 > ((seqD (cellOf x 10)).length : Int) then 100 else ((seqD (cellOf x 10)).length : Int) else if 100 < ((seqD (cellOf x 10)).length : Int) then 100 else ((seqD (cellOf x 10)).length : Int)) = (min (seqD (cellOf x 10)).length 100 : Nat) := by
      simp only [cond_false]; split <;> omega
    have et := etot_eq x
    unfold subs at et
    have key : ∀ m' : Int, min m' 101 = (cap (n.toNat + etot x) : Nat) → V.d (.lit (.int .i64 (bif false then if 101 > m' then 101 else m' else if 101 < m' then 101 else m'))) = V.d (.lit (.int .i64 (cap (n.toNat + etot x) : Nat))) := by
      intro m' h
      rw [← h]
      simp only [cond_false]
      rw [show (if (101 : Int) < m' then (101 : Int) else m') = min m' 101 by split <;> omega]
    simp only [hmin]
    rw [Go.IntWalk.i64_in (1 + _) (by omega), Go.IntWalk.i64_in _ (by omega)]
    refine ⟨hf, ?_⟩
    cases hh : hasPat x with
    | false =>
      rw [hh] at et
      simp only [cond_false] at et
      simp only [cond_false, Bool.false_and]
      refine ⟨n.toNat + 1 + min (seqD (cellOf x 10)).length 100, ⟨trivial, trivial, trivial, by omega, by simp only [cap]; omega, fun y hy => ⟨hf.a y hy, ?_⟩⟩, fun m' hm' => key m' ?_⟩
      · rw [← hm]; exact subs_lt hy
      · rw [hm']; simp only [cap]; omega
    | true =>
      rw [hh] at et
      simp only [cond_true] at et
      simp only [cond_true, Bool.true_and]
      refine cond_split (fun hb => ?_) (fun hb => ?_)
      · simp only [decide_eq_true_eq] at hb
        refine ⟨⟨hf.p, by omega, hb⟩, n.toNat + 1 + min (seqD (cellOf x 10)).length 100 + ptot (paV x), ⟨trivial, trivial, trivial, by omega, by simp only [cap]; omega, fun y hy => ⟨hf.a y hy, ?_⟩⟩, fun m' hm' => key m' ?_⟩
        · rw [← hm]; exact subs_lt hy
        · rw [hm']; simp only [cap]; omega
      · simp only [decide_eq_false_iff_not] at hb
        refine ⟨n.toNat + 1 + min (seqD (cellOf x 10)).length 100, ⟨trivial, trivial, trivial, by omega, by simp only [cap]; omega, fun y hy => ⟨hf.a y hy, ?_⟩⟩, fun m' hm' => key m' ?_⟩
        · rw [← hm]; exact subs_lt hy
        · rw [hm']; simp only [cap]; omega
  · cases hr
theorem k19 : TabOk B T19 := by
  refine add_body base k47 (fn := Tryz.f19) (cd := bodyOf Tryz.f19) (sp := noSp) (hn := noHn) Tryz.func19 (by kernel_rfl) (by kernel_rfl) noSp_ok fun ds r hp hr => ?_
  unfold c19 at hp hr
  simp only [] at hr hp
  split at hr
  · rename_i x
    cases hr
    rw [arg1 (FitE.v hp)]
    refine keep (w19 x fun v => v = _) ?_
    rw [FitE.v hp]
    exact ⟨⟨hp, by decide, by decide⟩, by simp⟩
  · cases hr
theorem maxL_foldl (l : List Nat) (a : Nat) : l.foldl max a = max a (maxL l) := by
  unfold maxL
  induction l generalizing a with
  | nil => simp
  | cons x l ih => rw [List.foldl_cons, List.foldl_cons, ih, ih (max 0 x)]; omega
theorem maxL_cons (x : Nat) (l : List Nat) : maxL (x :: l) = max x (maxL l) := by
  show List.foldl max (max 0 x) l = _
  rw [maxL_foldl]; omega
theorem maxL_append (l m : List Nat) : maxL (l ++ m) = max (maxL l) (maxL m) := by
  induction l with
  | nil => simp [maxL]
  | cons x l ih => rw [List.cons_append, maxL_cons, maxL_cons, ih]; omega
theorem maxL_sum {f g : D → Nat} : ∀ {l : List D}, (∀ y ∈ l, f y ≤ g y) → maxL (l.map f) ≤ (l.map g).sum
  | [], _ => by simp [maxL]
  | x :: l, h => by
    rw [List.map_cons, List.map_cons, maxL_cons, List.sum_cons]
    have := h x (.head _)
    have := maxL_sum (l := l) (f := f) (g := g) fun y hy => h y (.tail _ hy)
    omega
theorem maxL_take_succ {f : D → Nat} {xs : List D} {i : Nat} (h : i < xs.length) : maxL ((xs.take (i + 1)).map f) = max (maxL ((xs.take i).map f)) (f (xs.getD i .any)) := by
  rw [List.take_add_one, List.map_append, maxL_append, List.getElem?_eq_getElem h, List.getD_eq_getElem?_getD, List.getElem?_eq_getElem h]
  simp [maxL]
theorem pdep_le : ∀ (n : Nat) (y : D), dsz y ≤ n → pdep y ≤ ptot y := by
  intro n
  induction n with
  | zero => intro y h; cases y <;> simp [dsz] at h
  | succ n ih =>
    intro y h
    rw [pdep_eq, ptot_eq]
    have := maxL_sum (l := subs y 2) (f := pdep) (g := ptot) fun z hz => ih z (by have := subs_lt hz; omega)
    omega
theorem edep_le : ∀ (n : Nat) (y : D), dsz y ≤ n → edep y ≤ etot y := by
  intro n
  induction n with
  | zero => intro y h; cases y <;> simp [dsz] at h
  | succ n ih =>
    intro y h
    rw [edep_eq, etot_eq]
    have := maxL_sum (l := subs y 15) (f := edep) (g := etot) fun z hz => ih z (by have := subs_lt hz; omega)
    omega
theorem ok54 {κ : Nat} (hk : TabOk B (U54 κ)) : OkS (Cn (U54 κ)) 0 (.loop l54) (S54 κ) := by
  refine okS_loop fun N vals bs K h => ?_
  simp only [S54] at h
  split at h
  case h_2 => exact h.elim
  rename_i m b xs n i
  obtain ⟨⟨rfl, rfl, rfl, rfl, hl, hx⟩, h⟩ := h
  have main : ∀ k i, i + k = xs.length → LoopT (Cn (U54 κ)) 0 l54 20 [3,7,8,9] [] [3] [] [lint (maxL ((xs.take i).map pdep) : Nat), .d (.slice b 3 xs), lint xs.length, lint i] [] K := by
    intro k
    induction k with
    | zero =>
      intro i hi
      have : i = xs.length := by omega
      subst this
      refine loopT_step (tab_fit base hk noCS_valid) tab_has noSp_ok (hn := noHn) (adsI := []) (nsI := []) (nsX := []) rfl rfl (keep (b54 κ xs xs.length xs.length _ b _) ?_)
      have e1 : decide ((xs.length : Int) < xs.length) = false := by simp
      rw [e1, List.take_length]
      exact ⟨rfl, h⟩
    | succ k ih =>
      intro i hi
      refine loopT_step (tab_fit base hk noCS_valid) tab_has noSp_ok (hn := noHn) (adsI := []) (nsI := []) (nsX := []) rfl rfl (keep (b54 κ xs i xs.length _ b _) ?_)
      have e1 : decide ((i : Int) < xs.length) = true := by simp; omega
      obtain ⟨hf, hlt⟩ := hx _ (getD_mem (xs := xs) (i := i) (by omega))
      have hv := hf.1.v
      rw [e1]
      simp only [Int.toNat_natCast, cond_true, hv]
      refine ⟨⟨by omega, by omega, trivial⟩, ⟨hf, hlt⟩, trivial, ?_⟩
      have := ih (i + 1) (by omega)
      rw [Go.IntWalk.i64_in _ (by omega)]
      rw [maxL_take_succ (by omega)] at this
      rw [show (if (pdep (xs.getD i .any) : Int) > (maxL ((xs.take i).map pdep) : Nat) then (pdep (xs.getD i .any) : Int) else (maxL ((xs.take i).map pdep) : Nat)) = (max (maxL ((xs.take i).map pdep)) (pdep (xs.getD i .any)) : Nat) by split <;> omega]
      exact this
  exact main xs.length 0 (by omega)
theorem k54 : TabOk B T54 := by
  refine add_rec base k19 μ1 (fn := Tryz.f54) (cd := bodyOf Tryz.f54) (sp := fun n => spL [(6, S54 n)]) (hn := noHn) Tryz.func54 (by kernel_rfl) (by kernel_rfl) (fun n hk => specT_cons (c := .loop l54) (by kernel_rfl) (ok54 hk) specT_nil) fun κ ds r hp hm hr => ?_
  unfold c54 at hp hr
  simp only [] at hr hp
  split at hr
  · rename_i x
    cases hr
    obtain ⟨hf, h1⟩ := hp
    rw [arg1 hf.v]
    refine keep (w54 κ x fun v => v = _) ?_
    have e1 := ptot_eq x
    have e2 := pdep_eq x
    have e3 := pdep_le _ x (Nat.le_refl _)
    have e4 := len_ptot (xs := subs x 2)
    refine ⟨⟨rfl, rfl, rfl, rfl, by unfold subs at *; omega, fun y hy => ⟨⟨hf.a y hy, ?_⟩, ?_⟩⟩, ?_⟩
    · have := le_sum (f := ptot) (xs := subs x 2) hy; omega
    · rw [← hm]; exact subs_lt hy
    · unfold subs at *
      rw [Go.IntWalk.i64_in _ (by omega), show ((maxL (List.map pdep (seqD (cellOf x 2))) : Nat) : Int) + 1 = (pdep x : Nat) by omega]
  · cases hr
theorem ok43 {κ : Nat} (hk : TabOk B (U43 κ)) : OkS (Cn (U43 κ)) 0 (.loop l43) (S43 κ) := by
  refine okS_loop fun N vals bs K h => ?_
  simp only [S43] at h
  split at h
  case h_2 => exact h.elim
  rename_i m b xs n i
  obtain ⟨⟨rfl, rfl, rfl, rfl, hl, hx⟩, h⟩ := h
  have main : ∀ k i, i + k = xs.length → LoopT (Cn (U43 κ)) 0 l43 20 [3,7,8,9] [] [3] [] [lint (maxL ((xs.take i).map edep) : Nat), .d (.slice b 16 xs), lint xs.length, lint i] [] K := by
    intro k
    induction k with
    | zero =>
      intro i hi
      have : i = xs.length := by omega
      subst this
      refine loopT_step (tab_fit base hk noCS_valid) tab_has noSp_ok (hn := noHn) (adsI := []) (nsI := []) (nsX := []) rfl rfl (keep (b43 κ xs xs.length xs.length _ b _) ?_)
      have e1 : decide ((xs.length : Int) < xs.length) = false := by simp
      rw [e1, List.take_length]
      exact ⟨rfl, h⟩
    | succ k ih =>
      intro i hi
      refine loopT_step (tab_fit base hk noCS_valid) tab_has noSp_ok (hn := noHn) (adsI := []) (nsI := []) (nsX := []) rfl rfl (keep (b43 κ xs i xs.length _ b _) ?_)
      have e1 : decide ((i : Int) < xs.length) = true := by simp; omega
      obtain ⟨hf, hlt⟩ := hx _ (getD_mem (xs := xs) (i := i) (by omega))
      have hv := hf.1.v
      rw [e1]
      simp only [Int.toNat_natCast, cond_true, hv]
      refine ⟨⟨by omega, by omega, trivial⟩, ⟨hf, hlt⟩, trivial, ?_⟩
      have := ih (i + 1) (by omega)
      rw [Go.IntWalk.i64_in _ (by omega)]
      rw [maxL_take_succ (by omega)] at this
      rw [show (if (edep (xs.getD i .any) : Int) > (maxL ((xs.take i).map edep) : Nat) then (edep (xs.getD i .any) : Int) else (maxL ((xs.take i).map edep) : Nat)) = (max (maxL ((xs.take i).map edep)) (edep (xs.getD i .any)) : Nat) by split <;> omega]
      exact this
  exact main xs.length 0 (by omega)
theorem k43 : TabOk B T43 := by
  refine add_rec base k54 μ1 (fn := Tryz.f43) (cd := bodyOf Tryz.f43) (sp := fun n => spL [(6, S43 n)]) (hn := noHn) Tryz.func43 (by kernel_rfl) (by kernel_rfl) (fun n hk => specT_cons (c := .loop l43) (by kernel_rfl) (ok43 hk) specT_nil) fun κ ds r hp hm hr => ?_
  unfold c43 at hp hr
  simp only [] at hr hp
  split at hr
  · rename_i x
    cases hr
    obtain ⟨hf, h1⟩ := hp
    rw [arg1 hf.v]
    refine keep (w43 κ x fun v => v = _) ?_
    have e1 := etot_eq x
    have e2 := edep_eq x
    have e3 := edep_le _ x (Nat.le_refl _)
    have e4 := len_etot (xs := subs x 15)
    refine ⟨⟨rfl, rfl, rfl, rfl, by unfold subs at *; omega, fun y hy => ⟨⟨hf.a y hy, ?_⟩, ?_⟩⟩, ?_⟩
    · have := le_sum (f := etot) (xs := subs x 15) hy; omega
    · rw [← hm]; exact subs_lt hy
    · unfold subs at *
      rw [Go.IntWalk.i64_in _ (by omega), show ((maxL (List.map edep (seqD (cellOf x 15))) : Nat) : Int) + 1 = (edep x : Nat) by omega]
  · cases hr
end Go.Ev.R2
end
section
namespace Go.Ev.R2
open Go Go.Ev Go.Proofs
set_option maxRecDepth 100000
set_option linter.unusedVariables false
set_option linter.unusedSimpArgs false
def firstF (f : D → Int) (xs : List D) (i : Nat) : Option Int := bif f (xs.getD i .any) != 0 then some (f (xs.getD i .any)) else none
noncomputable def mOneE (y : D) : Int :=
  (bif bif decide (intOf (cellOf y 0) < 1) then true else decide (intOf (cellOf y 0) > 4) then
 8 else
 (bif labelsE [D.agg [D.lit (Value.string (strOf (cellOf y 1))), D.lit (Value.string (ByteArray.mk (Array.mk [120])))]] != 0 then
 5 else
 (bif bif intOf (cellOf y 0) == 3 then true else intOf (cellOf y 0) == 4 then
 (rxErr (strOf (cellOf y 2))) else
 (bif decide ((↑(strOf (cellOf y 2)).size : Int) > 200) then
 4 else
 0))))
noncomputable def c148 : Ct := ⟨fun | [x] => FitM x | _ => False, fun | [x] => some (.lit (.int .i64 (mOneE x))) | _ => none⟩
noncomputable def T148 : Tab := T43.add 148 c148
theorem w148 (y : D) (p : V → Prop) : (evBodyT (Cn T43) T43 noCS 0 noSp noHn 148 [V.d (mV y)] Heap.empty fun v H => p (freezeR H v)) =
  (bif bif decide (intOf (cellOf y 0) < 1) then true else decide (intOf (cellOf y 0) > 4) then
   p (V.d (D.lit (Value.int IntKind.i64 8))) else
   ((2 = 2 ∧ AllT 209 [D.agg [D.lit (Value.string (strOf (cellOf y 1))), D.lit (Value.string (ByteArray.mk (Array.mk [120])))]]) ∧
   (bif labelsE [D.agg [D.lit (Value.string (strOf (cellOf y 1))), D.lit (Value.string (ByteArray.mk (Array.mk [120])))]] != 0 then
    p (V.d (D.lit (Value.int IntKind.i64 5))) else
    (bif bif intOf (cellOf y 0) == 3 then true else intOf (cellOf y 0) == 4 then
     (True ∧
     p (V.d (D.lit (Value.int IntKind.i64 (rxErr (strOf (cellOf y 2))))))) else
     (bif decide ((↑(strOf (cellOf y 2)).size : Int) > 200) then
      p (V.d (D.lit (Value.int IntKind.i64 4))) else
      p (V.d (D.lit (Value.int IntKind.i64 0)))))))) := by kernel_rfl
noncomputable def l78 : Code := roundOf (pieceAt (bodyOf Tryz.f78) 8)
noncomputable def S78 : Ev.Spec := { L := [9,10,11], ns := [], L' := [2], nm' := [], G := fun N vals bs k => match vals, bs with
  | [.d (.slice b 3 xs), .d (.lit (.int .i64 n)), .d (.lit (.int .i64 i))], [] => (N = 21 ∧ i = 0 ∧ n = xs.length ∧ xs.length ≤ 16 ∧ ∀ y ∈ xs, FitM y) ∧ optE (search (firstF mOneE xs) xs.length) (k (.exit 0) [.any] []) (fun e => k .ret [lint e] [])
  | _, _ => False }
theorem b78 (xs : List D) (i : Int) (n : Int) (b : Bool) (R : X → List V → List Box → Prop) : (roundT (Cn T148) T148 noCS 0 noSp noHn l78 21 [9, 10, 11] [] [] [] [2] [] [V.d (D.slice b 3 xs), lint n, lint i] [] R) =
  (bif decide (i < n) then
   ((((0 : Int) ≤ i) ∧ (i.toNat < xs.length ∧ mV (xs.getD i.toNat D.any) = xs.getD i.toNat D.any)) ∧
   (D.agg
    [D.lit (Value.int IntKind.i64 (intOf (D.lit (Value.int IntKind.i64 (intOf (cellOf (xs.getD i.toNat D.any) 0)))))),
      D.lit (Value.string (strOf (D.lit (Value.string (strOf (cellOf (xs.getD i.toNat D.any) 1)))))),
      D.lit (Value.string (strOf (D.lit (Value.string (strOf (cellOf (xs.getD i.toNat D.any) 2))))))] =
  mV (xs.getD i.toNat D.any) ∧
   (bif mOneE (mV (xs.getD i.toNat D.any)) != 0 then
    (21 = 21 ∧
    R X.ret [V.d (D.lit (Value.int IntKind.i64 (mOneE (mV (xs.getD i.toNat D.any)))))] []) else
    (21 = 21 ∧
    R X.normal
  [V.d (D.slice b 3 xs), V.d (D.lit (Value.int IntKind.i64 n)),
    V.d (D.lit (Value.int IntKind.i64 (IntKind.i64.wrap (i + 1))))]
  [])))) else
   (21 = 21 ∧
   R (X.exit 0) [V.any] [])) := by kernel_rfl
theorem w78 (xs : List D) (b : Bool) (p : V → Prop) : (evBodyT (Cn T148) T148 noCS 0 (spL [(8, S78)]) noHn 78 [V.d (D.slice b 3 xs)] Heap.empty fun v H => p (freezeR H v)) =
  (bif decide ((↑xs.length : Int) > 16) then
   p (V.d (D.lit (Value.int IntKind.i64 4))) else
   ((21 = 21 ∧ (((0 : Int) = 0) ∧ ((((↑xs.length : Int) : Int) = (↑xs.length : Int)) ∧ (xs.length ≤ 16 ∧ ∀ (y : D), y ∈ xs → FitM y)))) ∧
   (match search (firstF mOneE xs) xs.length with
   | some y0 =>
    p (V.d (D.lit (Value.int IntKind.i64 y0)))
   | none => p (V.d (D.lit (Value.int IntKind.i64 0)))))) := by kernel_rfl
noncomputable def matchersE (xs : List D) : Int :=
  (bif decide ((↑xs.length : Int) > 16) then
 4 else
 (match search (firstF mOneE xs) xs.length with
 | some y0 => y0
 | none => 0))
noncomputable def c78 : Ct := ⟨fun | [.slice _ z xs] => z = 3 ∧ ∀ y ∈ xs, FitM y | _ => False, fun | [.slice _ _ xs] => some (.lit (.int .i64 (matchersE xs))) | _ => none⟩
noncomputable def T78 : Tab := T148.add 78 c78
def nameErr (sp : Bool) (xs : List D) (i : Nat) : Option Int :=
  bif (bif !isName (strOf (xs.getD i .any)) then true else bif (bif sp then !eqS (strOf (xs.getD i .any)) (ByteArray.mk #[110, 97, 109, 101]) else false) then !eqS (strOf (xs.getD i .any)) (ByteArray.mk #[115, 101, 114, 118, 105, 99, 101]) else false) then some 5 else
  bif (bif decide ((i : Int) > 0) then leS (strOf (xs.getD i .any)) (strOf (xs.getD (i - 1) .any)) else false) then some 9 else none
noncomputable def l79 : Code := roundOf (pieceAt (bodyOf Tryz.f79) 8)
noncomputable def S79 : Ev.Spec := { L := [0,1,10,11,12], ns := [], L' := [4], nm' := [], G := fun N vals bs k => match vals, bs with
  | [.d (.slice b 1 xs), .d (.lit (.bool sp)), .d (.slice b' 1 xs'), .d (.lit (.int .i64 n)), .d (.lit (.int .i64 i))], [] => (N = 43 ∧ b' = b ∧ xs' = xs ∧ i = 0 ∧ n = xs.length ∧ xs.length ≤ 16 ∧ ∀ y ∈ xs, FitN y) ∧ optE (search (nameErr sp xs) xs.length) (k (.exit 0) [.any] []) (fun e => k .ret [lint e] [])
  | _, _ => False }
theorem b79 (xs : List D) (sp : Bool) (i : Int) (n : Int) (b : Bool) (R : X → List V → List Box → Prop) : (roundT (Cn T78) T78 noCS 0 noSp noHn l79 43 [0, 1, 10, 11, 12] [] [] [] [4] []
  [V.d (D.slice b 1 xs), lbool sp, V.d (D.slice b 1 xs), lint n, lint i] [] R) =
  (bif decide (i < n) then
   ((((0 : Int) ≤ i) ∧ (i.toNat < xs.length ∧ D.lit (Value.string (strOf (xs.getD i.toNat D.any))) = xs.getD i.toNat D.any)) ∧
   (True ∧
   (bif bif !isName (strOf (xs.getD i.toNat D.any)) then true
else
  bif bif sp then !(strOf (xs.getD i.toNat D.any)).toList == (ByteArray.mk #[110, 97, 109, 101]).toList else false then
    !(strOf (xs.getD i.toNat D.any)).toList == (ByteArray.mk #[115, 101, 114, 118, 105, 99, 101]).toList
  else false then
    (43 = 43 ∧
    R X.ret [V.d (D.lit (Value.int IntKind.i64 5))] []) else
    (((decide (i > 0) && true) = true → (((0 : Int) ≤ IntKind.i64.wrap (i - 1)) ∧ ((IntKind.i64.wrap (i - 1)).toNat < xs.length ∧ D.lit (Value.string (strOf (xs.getD (IntKind.i64.wrap (i - 1)).toNat D.any))) =
  xs.getD (IntKind.i64.wrap (i - 1)).toNat D.any))) ∧
    (bif bif decide (i > 0) then
  Op.bytesLess (strOf (xs.getD i.toNat D.any)).toList (strOf (xs.getD (IntKind.i64.wrap (i - 1)).toNat D.any)).toList ||
    (strOf (xs.getD i.toNat D.any)).toList == (strOf (xs.getD (IntKind.i64.wrap (i - 1)).toNat D.any)).toList
else false then
     (43 = 43 ∧
     R X.ret [V.d (D.lit (Value.int IntKind.i64 9))] []) else
     (43 = 43 ∧
     R X.normal
  [V.d (D.slice b 1 xs), V.d (D.lit (Value.bool sp)), V.d (D.slice b 1 xs), V.d (D.lit (Value.int IntKind.i64 n)),
    V.d (D.lit (Value.int IntKind.i64 (IntKind.i64.wrap (i + 1))))]
  [])))))) else
   (43 = 43 ∧
   R (X.exit 0) [V.any] [])) := by kernel_rfl
theorem w79 (xs : List D) (sp : Bool) (b : Bool) (p : V → Prop) : (evBodyT (Cn T78) T78 noCS 0 (spL [(8, S79)]) noHn 79 [V.d (D.slice b 1 xs), lbool sp] Heap.empty fun v H =>
  p (freezeR H v)) =
  (bif decide ((↑xs.length : Int) > 16) then
   p (V.d (D.lit (Value.int IntKind.i64 4))) else
   ((43 = 43 ∧ (b = b ∧ (xs = xs ∧ (((0 : Int) = 0) ∧ ((((↑xs.length : Int) : Int) = (↑xs.length : Int)) ∧ (xs.length ≤ 16 ∧ ∀ (y : D), y ∈ xs → FitN y)))))) ∧
   (match search (nameErr sp xs) xs.length with
   | some y0 =>
    p (V.d (D.lit (Value.int IntKind.i64 y0)))
   | none => p (V.d (D.lit (Value.int IntKind.i64 0)))))) := by kernel_rfl
noncomputable def namesE (xs : List D) (sp : Bool) : Int :=
  (bif decide ((↑xs.length : Int) > 16) then
 4 else
 (match search (nameErr sp xs) xs.length with
 | some y0 => y0
 | none => 0))
noncomputable def c79 : Ct := ⟨fun | [.slice _ z xs, .lit (.bool _)] => z = 1 ∧ ∀ y ∈ xs, FitN y | _ => False, fun | [.slice _ _ xs, .lit (.bool sp)] => some (.lit (.int .i64 (namesE xs sp))) | _ => none⟩
noncomputable def T79 : Tab := T78.add 79 c79
theorem w58 (y : D) (p : V → Prop) : (evBodyT (Cn T79) T79 noCS 0 noSp noHn 58 [V.d (gV y)] Heap.empty fun v H => p (freezeR H v)) =
  (bif bif decide (intOf (cellOf y 0) < 1) then true else decide (intOf (cellOf y 0) > 8) then
   p (V.d (D.lit (Value.int IntKind.i64 8))) else
   (bif bif
    bif
        bif !(strOf (cellOf y 1)).toList == (ByteArray.mk #[]).toList then !decide (intOf (cellOf y 0) ≤ 3)
        else false then
      true
    else !decide ((↑(seqD (cellOf y 2)).length : Int) > 0) == (intOf (cellOf y 0) == 5) then
  true
else !decide ((↑(seqD (cellOf y 3)).length : Int) > 0) == decide (intOf (cellOf y 0) ≥ 6) then
    p (V.d (D.lit (Value.int IntKind.i64 1))) else
    (bif intOf (cellOf y 0) == 1 then
     (bif (strOf (cellOf y 1)).toList == (ByteArray.mk #[]).toList then
      p (V.d (D.lit (Value.int IntKind.i64 1))) else
      (bif decide ((↑(strOf (cellOf y 1)).size : Int) > 200) then
       p (V.d (D.lit (Value.int IntKind.i64 4))) else
       p (V.d (D.lit (Value.int IntKind.i64 0))))) else
     (bif intOf (cellOf y 0) == 2 then
      (bif (strOf (cellOf y 1)).toList == (ByteArray.mk #[]).toList then
       p (V.d (D.lit (Value.int IntKind.i64 1))) else
       (bif decide ((↑(strOf (cellOf y 1)).size : Int) > 200) then
        p (V.d (D.lit (Value.int IntKind.i64 4))) else
        p (V.d (D.lit (Value.int IntKind.i64 0))))) else
      (bif intOf (cellOf y 0) == 3 then
       (True ∧
       p (V.d (D.lit (Value.int IntKind.i64 (rxErr (strOf (cellOf y 1))))))) else
       (bif intOf (cellOf y 0) == 5 then
        ((3 = 3 ∧ ∀ (y_1 : D), y_1 ∈ seqD (cellOf y 2) → FitM y_1) ∧
        p (V.d (D.lit (Value.int IntKind.i64 (matchersE (seqD (cellOf y 2))))))) else
        ((1 = 1 ∧ ∀ (y_1 : D), y_1 ∈ seqD (cellOf y 3) → FitN y_1) ∧
        p (V.d (D.lit (Value.int IntKind.i64 (namesE (seqD (cellOf y 3)) false))))))))))) := by kernel_rfl
noncomputable def stageE (y : D) : Int :=
  (bif bif decide (intOf (cellOf y 0) < 1) then true else decide (intOf (cellOf y 0) > 8) then
 8 else
 (bif bif
    bif
        bif !(strOf (cellOf y 1)).toList == (ByteArray.mk #[]).toList then !decide (intOf (cellOf y 0) ≤ 3)
        else false then
      true
    else !decide ((↑(seqD (cellOf y 2)).length : Int) > 0) == (intOf (cellOf y 0) == 5) then
  true
else !decide ((↑(seqD (cellOf y 3)).length : Int) > 0) == decide (intOf (cellOf y 0) ≥ 6) then
 1 else
 (bif intOf (cellOf y 0) == 1 then
 (bif (strOf (cellOf y 1)).toList == (ByteArray.mk #[]).toList then
 1 else
 (bif decide ((↑(strOf (cellOf y 1)).size : Int) > 200) then
 4 else
 0)) else
 (bif intOf (cellOf y 0) == 2 then
 (bif (strOf (cellOf y 1)).toList == (ByteArray.mk #[]).toList then
 1 else
 (bif decide ((↑(strOf (cellOf y 1)).size : Int) > 200) then
 4 else
 0)) else
 (bif intOf (cellOf y 0) == 3 then
 (rxErr (strOf (cellOf y 1))) else
 (bif intOf (cellOf y 0) == 5 then
 (matchersE (seqD (cellOf y 2))) else
 (namesE (seqD (cellOf y 3)) false)))))))
noncomputable def c58 : Ct := ⟨fun | [x] => FitG x | _ => False, fun | [x] => some (.lit (.int .i64 (stageE x))) | _ => none⟩
noncomputable def T58 : Tab := T79.add 58 c58
noncomputable def l25 : Code := roundOf (pieceAt (bodyOf Tryz.f25) 8)
noncomputable def S25 : Ev.Spec := { L := [9,10,11], ns := [], L' := [2], nm' := [], G := fun N vals bs k => match vals, bs with
  | [.d (.slice b 4 xs), .d (.lit (.int .i64 n)), .d (.lit (.int .i64 i))], [] => (N = 21 ∧ i = 0 ∧ n = xs.length ∧ xs.length ≤ 100 ∧ ∀ y ∈ xs, FitG y) ∧ optE (search (firstF stageE xs) xs.length) (k (.exit 0) [.any] []) (fun e => k .ret [lint e] [])
  | _, _ => False }
theorem b25 (xs : List D) (i : Int) (n : Int) (b : Bool) (R : X → List V → List Box → Prop) : (roundT (Cn T58) T58 noCS 0 noSp noHn l25 21 [9, 10, 11] [] [] [] [2] [] [V.d (D.slice b 4 xs), lint n, lint i] [] R) =
  (bif decide (i < n) then
   ((((0 : Int) ≤ i) ∧ (i.toNat < xs.length ∧ gV (xs.getD i.toNat D.any) = xs.getD i.toNat D.any)) ∧
   (FitG (gV (xs.getD i.toNat D.any)) ∧
   (bif stageE (gV (xs.getD i.toNat D.any)) != 0 then
    (21 = 21 ∧
    R X.ret [V.d (D.lit (Value.int IntKind.i64 (stageE (gV (xs.getD i.toNat D.any)))))] []) else
    (21 = 21 ∧
    R X.normal
  [V.d (D.slice b 4 xs), V.d (D.lit (Value.int IntKind.i64 n)),
    V.d (D.lit (Value.int IntKind.i64 (IntKind.i64.wrap (i + 1))))]
  [])))) else
   (21 = 21 ∧
   R (X.exit 0) [V.any] [])) := by kernel_rfl
theorem w25 (xs : List D) (b : Bool) (p : V → Prop) : (evBodyT (Cn T58) T58 noCS 0 (spL [(8, S25)]) noHn 25 [V.d (D.slice b 4 xs)] Heap.empty fun v H => p (freezeR H v)) =
  (bif decide ((↑xs.length : Int) > 100) then
   p (V.d (D.lit (Value.int IntKind.i64 4))) else
   ((21 = 21 ∧ (((0 : Int) = 0) ∧ ((((↑xs.length : Int) : Int) = (↑xs.length : Int)) ∧ (xs.length ≤ 100 ∧ ∀ (y : D), y ∈ xs → FitG y)))) ∧
   (match search (firstF stageE xs) xs.length with
   | some y0 =>
    p (V.d (D.lit (Value.int IntKind.i64 y0)))
   | none => p (V.d (D.lit (Value.int IntKind.i64 0)))))) := by kernel_rfl
noncomputable def stagesE (xs : List D) : Int :=
  (bif decide ((↑xs.length : Int) > 100) then
 4 else
 (match search (firstF stageE xs) xs.length with
 | some y0 => y0
 | none => 0))
noncomputable def c25 : Ct := ⟨fun | [.slice _ z xs] => z = 4 ∧ ∀ y ∈ xs, FitG y | _ => False, fun | [.slice _ _ xs] => some (.lit (.int .i64 (stagesE xs))) | _ => none⟩
noncomputable def T25 : Tab := T58.add 25 c25
theorem w75 (y : D) (p : V → Prop) : (evBodyT (Cn T25) T25 noCS 0 noSp noHn 75 [V.d (cV y)] Heap.empty fun v H => p (freezeR H v)) =
  (True ∧
  (True ∧
  (bif numericB (strOf (cellOf y 0)) then
   (bif bif bif bif intOf (cellOf y 1) != 1 then intOf (cellOf y 1) != 2 else false then intOf (cellOf y 1) != 5 else false then
  intOf (cellOf y 1) != 6
else false then
    p (V.d (D.lit (Value.int IntKind.i64 8))) else
    (bif !(strOf (cellOf y 2)).toList == (ByteArray.mk #[]).toList then
     p (V.d (D.lit (Value.int IntKind.i64 1))) else
     (bif bif decide (intOf (cellOf y 3) < 0) then true else decide (intOf (cellOf y 3) > 1099511627776) then
      p (V.d (D.lit (Value.int IntKind.i64 2))) else
      p (V.d (D.lit (Value.int IntKind.i64 0)))))) else
   (((prefixB (strOf (cellOf y 0)) (ByteArray.mk (Array.mk [97, 116, 116, 114, 46])) &&
    ((!bif (strOf (cellOf y 0)).toList == (ByteArray.mk #[115, 101, 114, 118, 105, 99, 101]).toList then true
        else (strOf (cellOf y 0)).toList == (ByteArray.mk #[110, 97, 109, 101]).toList) &&
      true)) =
  true → True) ∧
   (bif bif
    bif (strOf (cellOf y 0)).toList == (ByteArray.mk #[115, 101, 114, 118, 105, 99, 101]).toList then true
    else (strOf (cellOf y 0)).toList == (ByteArray.mk #[110, 97, 109, 101]).toList then
  true
else
  bif prefixB (strOf (cellOf y 0)) (ByteArray.mk (Array.mk [97, 116, 116, 114, 46])) then
    isName
      (bif prefixB (strOf (cellOf y 0)) (ByteArray.mk (Array.mk [97, 116, 116, 114, 46])) then
        (strOf (cellOf y 0)).extract 5 (strOf (cellOf y 0)).size
      else strOf (cellOf y 0))
  else false then
    (bif bif decide (intOf (cellOf y 1) < 1) then true else decide (intOf (cellOf y 1) > 4) then
     p (V.d (D.lit (Value.int IntKind.i64 8))) else
     (bif intOf (cellOf y 3) != 0 then
      p (V.d (D.lit (Value.int IntKind.i64 1))) else
      (bif decide (intOf (cellOf y 1) ≥ 3) then
       (True ∧
       p (V.d (D.lit (Value.int IntKind.i64 (rxErr (strOf (cellOf y 2))))))) else
       (bif decide ((↑(strOf (cellOf y 2)).size : Int) > 200) then
        p (V.d (D.lit (Value.int IntKind.i64 4))) else
        p (V.d (D.lit (Value.int IntKind.i64 0))))))) else
    p (V.d (D.lit (Value.int IntKind.i64 5)))))))) := by kernel_rfl
noncomputable def condE (y : D) : Int :=
  (bif numericB (strOf (cellOf y 0)) then
 (bif bif bif bif intOf (cellOf y 1) != 1 then intOf (cellOf y 1) != 2 else false then intOf (cellOf y 1) != 5 else false then
  intOf (cellOf y 1) != 6
else false then
 8 else
 (bif !(strOf (cellOf y 2)).toList == (ByteArray.mk #[]).toList then
 1 else
 (bif bif decide (intOf (cellOf y 3) < 0) then true else decide (intOf (cellOf y 3) > 1099511627776) then
 2 else
 0))) else
 (bif bif
    bif (strOf (cellOf y 0)).toList == (ByteArray.mk #[115, 101, 114, 118, 105, 99, 101]).toList then true
    else (strOf (cellOf y 0)).toList == (ByteArray.mk #[110, 97, 109, 101]).toList then
  true
else
  bif prefixB (strOf (cellOf y 0)) (ByteArray.mk (Array.mk [97, 116, 116, 114, 46])) then
    isName
      (bif prefixB (strOf (cellOf y 0)) (ByteArray.mk (Array.mk [97, 116, 116, 114, 46])) then
        (strOf (cellOf y 0)).extract 5 (strOf (cellOf y 0)).size
      else strOf (cellOf y 0))
  else false then
 (bif bif decide (intOf (cellOf y 1) < 1) then true else decide (intOf (cellOf y 1) > 4) then
 8 else
 (bif intOf (cellOf y 3) != 0 then
 1 else
 (bif decide (intOf (cellOf y 1) ≥ 3) then
 (rxErr (strOf (cellOf y 2))) else
 (bif decide ((↑(strOf (cellOf y 2)).size : Int) > 200) then
 4 else
 0)))) else
 5))
noncomputable def c75 : Ct := ⟨fun | [x] => FitC x | _ => False, fun | [x] => some (.lit (.int .i64 (condE x))) | _ => none⟩
noncomputable def T75 : Tab := T25.add 75 c75
noncomputable def l55a : Code := roundOf (pieceAt (bodyOf Tryz.f55) 26)
noncomputable def l55b : Code := roundOf (pieceAt (bodyOf Tryz.f55) 40)
abbrev pBox (k : Int) (b : Bool) (cs : List D) (b' : Bool) (xs : List D) : Box := .cells 30 [lint k, .d (.slice b 4 cs), .d (.slice b' 3 xs)]
def S55a : Ev.Spec := { L := [1,48,49,50], ns := [([5000],[3])], L' := [1,2], nm' := [[5000]], G := fun N vals bs k => match vals, bs with
  | [.ptr [5000] 0, .d (.slice b 4 xs), .d (.lit (.int .i64 n)), .d (.lit (.int .i64 i))], [.cells 30 [.d (.lit (.int .i64 q)), .d (.slice b1 4 cs), .d (.slice b2 3 ps)]] => (N = 73 ∧ i = 0 ∧ n = xs.length ∧ xs.length ≤ 16 ∧ ∀ y ∈ xs, FitC y) ∧ optE (search (firstF condE xs) xs.length) (k (.exit 1) [.ptr [5000] 0, .any] [pBox q b1 cs b2 ps]) (fun e => k .ret [.ptr [5000] 0, lint e] [pBox q b1 cs b2 ps])
  | _, _ => False }
noncomputable def fixD {β : Type} (F : (D → β) → D → β) (z : β) : Nat → D → β
  | 0, _ => z
  | n + 1, y => F (fixD F z n) y
theorem fixD_eq {β : Type} {F : (D → β) → D → β} {z : β} {i : Nat} (hF : ∀ r r' y, (∀ a ∈ subs y i, r a = r' a) → F r y = F r' y) : ∀ (n m : Nat) (y : D), dsz y < n → dsz y < m → fixD F z n y = fixD F z m y
  | 0, _, _, h, _ => absurd h (Nat.not_lt_zero _)
  | _, 0, _, _, h => absurd h (Nat.not_lt_zero _)
  | n + 1, m + 1, y, h, h' => hF _ _ _ fun a ha => fixD_eq hF n m a (by have := subs_lt ha; omega) (by have := subs_lt ha; omega)
theorem fixD_step {β : Type} {F : (D → β) → D → β} {z : β} {i : Nat} (hF : ∀ r r' y, (∀ a ∈ subs y i, r a = r' a) → F r y = F r' y) (y : D) : fixD F z (dsz y + 1) y = F (fun a => fixD F z (dsz a + 1) a) y :=
  hF _ _ _ fun a ha => fixD_eq hF _ _ a (by have := subs_lt ha; omega) (by omega)
noncomputable def patT (rec : D → Int) (y : D) : Int :=
  (bif bif decide (intOf (cellOf y 0) < 1) then true else decide (intOf (cellOf y 0) > 9) then
 8 else
 (bif intOf (cellOf y 0) == 1 then
 (bif bif bif intOf (cellOf y 0) != 1 then decide ((↑(seqD (cellOf y 1)).length : Int) > 0) else false then true
else (↑(seqD (cellOf y 2)).length : Int) != 0 then
 1 else
 (bif decide ((↑(seqD (cellOf y 1)).length : Int) > 16) then
 4 else
 (match search (firstF condE (seqD (cellOf y 1))) (seqD (cellOf y 1)).length with
 | some y1 => y1
 | none => (match search (firstF rec (seqD (cellOf y 2))) (seqD (cellOf y 2)).length with
 | some y0 => y0
 | none => 0)))) else
 (bif intOf (cellOf y 0) == 9 then
 (bif bif bif intOf (cellOf y 0) != 1 then decide ((↑(seqD (cellOf y 1)).length : Int) > 0) else false then true
else (↑(seqD (cellOf y 2)).length : Int) != 1 then
 1 else
 (bif decide ((↑(seqD (cellOf y 1)).length : Int) > 16) then
 4 else
 (match search (firstF condE (seqD (cellOf y 1))) (seqD (cellOf y 1)).length with
 | some y3 => y3
 | none => (match search (firstF rec (seqD (cellOf y 2))) (seqD (cellOf y 2)).length with
 | some y2 => y2
 | none => 0)))) else
 (bif bif bif intOf (cellOf y 0) != 1 then decide ((↑(seqD (cellOf y 1)).length : Int) > 0) else false then true
else (↑(seqD (cellOf y 2)).length : Int) != 2 then
 1 else
 (bif decide ((↑(seqD (cellOf y 1)).length : Int) > 16) then
 4 else
 (match search (firstF condE (seqD (cellOf y 1))) (seqD (cellOf y 1)).length with
 | some y5 => y5
 | none => (match search (firstF rec (seqD (cellOf y 2))) (seqD (cellOf y 2)).length with
 | some y4 => y4
 | none => 0)))))))
noncomputable def patE (y : D) : Int := fixD patT 0 (dsz y + 1) y
noncomputable def c55 : Ct := ⟨fun | [x] => FitP x | _ => False, fun | [x] => some (.lit (.int .i64 (patE x))) | _ => none⟩
noncomputable def U55 (κ : Nat) : Tab := T75.add 55 (c55.below μ1 κ)
noncomputable def T55 : Tab := T75.add 55 c55
noncomputable def S55b (rec : D → Int) (κ : Nat) : Ev.Spec := { L := [61,62,63], ns := [], L' := [2], nm' := [], G := fun N vals bs k => match vals, bs with
  | [.d (.slice b 3 xs), .d (.lit (.int .i64 n)), .d (.lit (.int .i64 i))], [] => (N = 73 ∧ rec = patE ∧ i = 0 ∧ n = xs.length ∧ xs.length ≤ 2 ∧ ∀ y ∈ xs, FitP y ∧ dsz y < κ) ∧ optE (search (firstF rec xs) xs.length) (k (.exit 3) [.any] []) (fun e => k .ret [lint e] [])
  | _, _ => False }
theorem b55a (κ : Nat) (q : Int) (xs : List D) (cs : List D) (ps : List D) (b1 : Bool) (b2 : Bool) (i : Int) (n : Int) (b : Bool) (R : X → List V → List Box → Prop) : (roundT (Cn (U55 κ)) (U55 κ) noCS 0 noSp noHn l55a 73 [1, 48, 49, 50] [[5000]] [] [([5000], [5000])] [1, 2]
  [([5000], [5000])] [V.ptr [5000] 0, V.d (D.slice b 4 xs), lint n, lint i] [pBox q b1 cs b2 ps] R) =
  (bif decide (i < n) then
   ((((0 : Int) ≤ i) ∧ (i.toNat < xs.length ∧ cV (xs.getD i.toNat D.any) = xs.getD i.toNat D.any)) ∧
   (D.agg
    [D.lit (Value.string (strOf (D.lit (Value.string (strOf (cellOf (xs.getD i.toNat D.any) 0)))))),
      D.lit (Value.int IntKind.i64 (intOf (D.lit (Value.int IntKind.i64 (intOf (cellOf (xs.getD i.toNat D.any) 1)))))),
      D.lit (Value.string (strOf (D.lit (Value.string (strOf (cellOf (xs.getD i.toNat D.any) 2)))))),
      D.lit
        (Value.int IntKind.i64 (intOf (D.lit (Value.int IntKind.i64 (intOf (cellOf (xs.getD i.toNat D.any) 3))))))] =
  cV (xs.getD i.toNat D.any) ∧
   (bif condE (cV (xs.getD i.toNat D.any)) != 0 then
    (73 = 73 ∧
    R X.ret [V.ptr [5000] 0, V.d (D.lit (Value.int IntKind.i64 (condE (cV (xs.getD i.toNat D.any)))))]
  [Box.cells 30 [V.d (D.lit (Value.int IntKind.i64 q)), V.d (D.slice b1 4 cs), V.d (D.slice b2 3 ps)]]) else
    (73 = 73 ∧
    R X.normal
  [V.ptr [5000] 0, V.d (D.slice b 4 xs), V.d (D.lit (Value.int IntKind.i64 n)),
    V.d (D.lit (Value.int IntKind.i64 (IntKind.i64.wrap (i + 1))))]
  [Box.cells 30 [V.d (D.lit (Value.int IntKind.i64 q)), V.d (D.slice b1 4 cs), V.d (D.slice b2 3 ps)]])))) else
   (73 = 73 ∧
   R (X.exit 1) [V.ptr [5000] 0, V.any]
  [Box.cells 30 [V.d (D.lit (Value.int IntKind.i64 q)), V.d (D.slice b1 4 cs), V.d (D.slice b2 3 ps)]])) := by kernel_rfl
theorem b55b (κ : Nat) (xs : List D) (i : Int) (n : Int) (b : Bool) (R : X → List V → List Box → Prop) : (roundT (Cn (U55 κ)) (U55 κ) noCS 0 noSp noHn l55b 73 [61, 62, 63] [] [] [] [2] [] [V.d (D.slice b 3 xs), lint n, lint i]
  [] R) =
  (bif decide (i < n) then
   ((((0 : Int) ≤ i) ∧ (i.toNat < xs.length ∧ pV (xs.getD i.toNat D.any) = xs.getD i.toNat D.any)) ∧
   ((FitP (pV (xs.getD i.toNat D.any)) ∧ μ1 [pV (xs.getD i.toNat D.any)] < κ) ∧
   (bif patE (pV (xs.getD i.toNat D.any)) != 0 then
    (73 = 73 ∧
    R X.ret [V.d (D.lit (Value.int IntKind.i64 (patE (pV (xs.getD i.toNat D.any)))))] []) else
    (73 = 73 ∧
    R X.normal
  [V.d (D.slice b 3 xs), V.d (D.lit (Value.int IntKind.i64 n)),
    V.d (D.lit (Value.int IntKind.i64 (IntKind.i64.wrap (i + 1))))]
  [])))) else
   (73 = 73 ∧
   R (X.exit 3) [V.any] [])) := by kernel_rfl
theorem w55 (rec : D → Int) (κ : Nat) (y : D) (p : V → Prop) : (evBodyT (Cn (U55 κ)) (U55 κ) noCS 0 (spL [(26, S55a), (40, S55b rec κ)]) noHn 55 [V.d (pV y)] Heap.empty fun v H =>
  p (freezeR H v)) =
  (bif bif decide (intOf (cellOf y 0) < 1) then true else decide (intOf (cellOf y 0) > 9) then
   p (V.d (D.lit (Value.int IntKind.i64 8))) else
   (bif intOf (cellOf y 0) == 1 then
    (bif bif bif intOf (cellOf y 0) != 1 then decide ((↑(seqD (cellOf y 1)).length : Int) > 0) else false then true
else (↑(seqD (cellOf y 2)).length : Int) != 0 then
     p (V.d (D.lit (Value.int IntKind.i64 1))) else
     (bif decide ((↑(seqD (cellOf y 1)).length : Int) > 16) then
      p (V.d (D.lit (Value.int IntKind.i64 4))) else
      ((73 = 73 ∧ (((0 : Int) = 0) ∧ ((((↑(seqD (cellOf y 1)).length : Int) : Int) = (↑(seqD (cellOf y 1)).length : Int)) ∧ ((seqD (cellOf y 1)).length ≤ 16 ∧ ∀ (y_1 : D), y_1 ∈ seqD (cellOf y 1) → FitC y_1)))) ∧
      (match search (firstF condE (seqD (cellOf y 1))) (seqD (cellOf y 1)).length with
      | some y1 =>
       p (V.d (D.lit (Value.int IntKind.i64 y1)))
      | none => ((73 = 73 ∧ (rec = patE ∧ (((0 : Int) = 0) ∧ ((((↑(seqD (cellOf y 2)).length : Int) : Int) = (↑(seqD (cellOf y 2)).length : Int)) ∧ ((seqD (cellOf y 2)).length ≤ 2 ∧ ∀ (y_1 : D), y_1 ∈ seqD (cellOf y 2) → FitP y_1 ∧ dsz y_1 < κ))))) ∧
       (match search (firstF rec (seqD (cellOf y 2))) (seqD (cellOf y 2)).length with
       | some y0 =>
        p (V.d (D.lit (Value.int IntKind.i64 y0)))
       | none => p (V.d (D.lit (Value.int IntKind.i64 0))))))))) else
    (bif intOf (cellOf y 0) == 9 then
     (bif bif bif intOf (cellOf y 0) != 1 then decide ((↑(seqD (cellOf y 1)).length : Int) > 0) else false then true
else (↑(seqD (cellOf y 2)).length : Int) != 1 then
      p (V.d (D.lit (Value.int IntKind.i64 1))) else
      (bif decide ((↑(seqD (cellOf y 1)).length : Int) > 16) then
       p (V.d (D.lit (Value.int IntKind.i64 4))) else
       ((73 = 73 ∧ (((0 : Int) = 0) ∧ ((((↑(seqD (cellOf y 1)).length : Int) : Int) = (↑(seqD (cellOf y 1)).length : Int)) ∧ ((seqD (cellOf y 1)).length ≤ 16 ∧ ∀ (y_1 : D), y_1 ∈ seqD (cellOf y 1) → FitC y_1)))) ∧
       (match search (firstF condE (seqD (cellOf y 1))) (seqD (cellOf y 1)).length with
       | some y3 =>
        p (V.d (D.lit (Value.int IntKind.i64 y3)))
       | none => ((73 = 73 ∧ (rec = patE ∧ (((0 : Int) = 0) ∧ ((((↑(seqD (cellOf y 2)).length : Int) : Int) = (↑(seqD (cellOf y 2)).length : Int)) ∧ ((seqD (cellOf y 2)).length ≤ 2 ∧ ∀ (y_1 : D), y_1 ∈ seqD (cellOf y 2) → FitP y_1 ∧ dsz y_1 < κ))))) ∧
        (match search (firstF rec (seqD (cellOf y 2))) (seqD (cellOf y 2)).length with
        | some y2 =>
         p (V.d (D.lit (Value.int IntKind.i64 y2)))
        | none => p (V.d (D.lit (Value.int IntKind.i64 0))))))))) else
     (bif bif bif intOf (cellOf y 0) != 1 then decide ((↑(seqD (cellOf y 1)).length : Int) > 0) else false then true
else (↑(seqD (cellOf y 2)).length : Int) != 2 then
      p (V.d (D.lit (Value.int IntKind.i64 1))) else
      (bif decide ((↑(seqD (cellOf y 1)).length : Int) > 16) then
       p (V.d (D.lit (Value.int IntKind.i64 4))) else
       ((73 = 73 ∧ (((0 : Int) = 0) ∧ ((((↑(seqD (cellOf y 1)).length : Int) : Int) = (↑(seqD (cellOf y 1)).length : Int)) ∧ ((seqD (cellOf y 1)).length ≤ 16 ∧ ∀ (y_1 : D), y_1 ∈ seqD (cellOf y 1) → FitC y_1)))) ∧
       (match search (firstF condE (seqD (cellOf y 1))) (seqD (cellOf y 1)).length with
       | some y5 =>
        p (V.d (D.lit (Value.int IntKind.i64 y5)))
       | none => ((73 = 73 ∧ (rec = patE ∧ (((0 : Int) = 0) ∧ ((((↑(seqD (cellOf y 2)).length : Int) : Int) = (↑(seqD (cellOf y 2)).length : Int)) ∧ ((seqD (cellOf y 2)).length ≤ 2 ∧ ∀ (y_1 : D), y_1 ∈ seqD (cellOf y 2) → FitP y_1 ∧ dsz y_1 < κ))))) ∧
        (match search (firstF rec (seqD (cellOf y 2))) (seqD (cellOf y 2)).length with
        | some y4 =>
         p (V.d (D.lit (Value.int IntKind.i64 y4)))
        | none => p (V.d (D.lit (Value.int IntKind.i64 0)))))))))))) := by kernel_rfl
theorem w23 (y : D) (p : V → Prop) : (evBodyT (Cn T55) T55 noCS 0 noSp noHn 23 [V.d (pV y)] Heap.empty fun v H => p (freezeR H v)) =
  ((FitP (pV y) ∧ (((0 : Int) ≤ 0) ∧ ((0 : Int) ≤ 100))) ∧
  (bif decide ((↑(cap (0 + ptot (pV y))) : Int) > 100) then
   p (V.d (D.lit (Value.int IntKind.i64 4))) else
   ((FitP (pV y) ∧ ptot (pV y) ≤ 100) ∧
   (bif decide ((↑(pdep (pV y)) : Int) > 12) then
    p (V.d (D.lit (Value.int IntKind.i64 30))) else
    (FitP (pV y) ∧
    p (V.d (D.lit (Value.int IntKind.i64 (patE (pV y)))))))))) := by kernel_rfl
noncomputable def patCheckE (y : D) : Int :=
  (bif decide ((↑(cap (0 + ptot (pV y))) : Int) > 100) then
 4 else
 (bif decide ((↑(pdep (pV y)) : Int) > 12) then
 30 else
 (patE (pV y))))
noncomputable def c23 : Ct := ⟨fun | [x] => FitP x | _ => False, fun | [x] => some (.lit (.int .i64 (patCheckE x))) | _ => none⟩
noncomputable def T23 : Tab := T55.add 23 c23
theorem and_i {a b : Prop} (h : a) (k : b) : a ∧ b := ⟨h, k⟩
theorem k148 : TabOk B T148 := by
  refine add_body base k43 (fn := Tryz.f148) (cd := bodyOf Tryz.f148) (sp := noSp) (hn := noHn) Tryz.func148 (by kernel_rfl) (by kernel_rfl) noSp_ok fun ds r hp hr => ?_
  unfold c148 at hp hr
  simp only [] at hr hp
  split at hr
  · rename_i x
    cases hr
    rw [arg1 (show mV x = x from hp)]
    refine keep (w148 x fun v => v = _) ?_
    unfold mOneE
    (repeat' (first | with_reducible rfl | (refine cond_split (fun hcw => ?_) (fun hcw => ?_) <;> simp only [hcw, cond_true, cond_false]) | refine and_i ?_ ?_))
    all_goals first | trivial | (intro i hi; cases i with | zero => rfl | succ i => simp at hi)
  · cases hr
theorem ok78 : OkS (Cn T148) 0 (.loop l78) S78 := by
  refine okS_loop fun N vals bs K h => ?_
  simp only [S78] at h
  split at h
  case h_2 => exact h.elim
  rename_i b xs n i
  obtain ⟨⟨rfl, rfl, rfl, h16, hall⟩, h⟩ := h
  refine search_loop (tab_fit base k148 noCS_valid) tab_has noSp_ok (hn := noHn) (adsI := []) (nsI := []) (nsX := []) rfl rfl xs.length
    (fun i => [.d (.slice b 3 xs), lint xs.length, lint i]) (fun _ => []) (firstF mOneE xs) (fun e => (.ret, [lint e], [])) (by simp) (.exit 0) [.any] [] (by simp) ?_ ?_ h
  · intro i R hi hR
    refine keep (b78 xs i xs.length b R) ?_
    have e1 : decide ((i : Int) < xs.length) = true := by simp; omega
    have e2 : IntKind.i64.wrap ((i : Int) + 1) = ((i + 1 : Nat) : Int) := by rw [Go.IntWalk.i64_in _ (by omega)]; omega
    have hv := hall _ (getD_mem hi)
    rw [e1]
    simp only [Int.toNat_natCast, e2, cond_true, show mV _ = _ from hv]
    refine ⟨⟨by omega, hi, trivial⟩, hv, cond_split (fun h1 => ⟨trivial, ?_⟩) (fun h1 => ⟨trivial, ?_⟩)⟩ <;> (simp only [firstF, h1, cond_true, cond_false, optE] at hR; exact hR)
  · intro R hR
    refine keep (b78 xs xs.length xs.length b R) ?_
    have e1 : decide ((xs.length : Int) < xs.length) = false := by simp
    rw [e1]
    exact ⟨rfl, hR⟩
theorem k78 : TabOk B T78 := by
  refine add_body base k148 (fn := Tryz.f78) (cd := bodyOf Tryz.f78) (sp := spL [(8, S78)]) (hn := noHn) Tryz.func78 (by kernel_rfl) (by kernel_rfl) (specT_cons (c := .loop l78) (by kernel_rfl) ok78 specT_nil) fun ds r hp hr => ?_
  unfold c78 at hp hr
  simp only [] at hr hp
  split at hr
  · rename_i b z xs
    cases hr
    obtain ⟨rfl, hall⟩ := hp
    refine keep (w78 xs b fun v => v = _) ?_
    unfold matchersE
    refine cond_split (fun h1 => ?_) (fun h1 => ?_) <;> simp only [h1, cond_true, cond_false]
    have h1' : ¬ (xs.length : Int) > 16 := by simpa using h1
    refine ⟨⟨trivial, trivial, trivial, by omega, hall⟩, ?_⟩
    cases search (firstF mOneE xs) xs.length <;> rfl
  · cases hr
theorem ok79 : OkS (Cn T78) 0 (.loop l79) S79 := by
  refine okS_loop fun N vals bs K h => ?_
  simp only [S79] at h
  split at h
  case h_2 => exact h.elim
  rename_i b0 xs0 sp b xs n i
  obtain ⟨⟨rfl, hb, hx, rfl, rfl, h16, hall⟩, h⟩ := h
  subst hb hx
  refine search_loop (tab_fit base k78 noCS_valid) tab_has noSp_ok (hn := noHn) (adsI := []) (nsI := []) (nsX := []) rfl rfl xs.length
    (fun i => [.d (.slice b 1 xs), lbool sp, .d (.slice b 1 xs), lint xs.length, lint i]) (fun _ => []) (nameErr sp xs) (fun e => (.ret, [lint e], [])) (by simp) (.exit 0) [.any] [] (by simp) ?_ ?_ h
  · intro i R hi hR
    refine keep (b79 xs sp i xs.length b R) ?_
    have e1 : decide ((i : Int) < xs.length) = true := by simp; omega
    have e2 : IntKind.i64.wrap ((i : Int) + 1) = ((i + 1 : Nat) : Int) := by rw [Go.IntWalk.i64_in _ (by omega)]; omega
    have e3 : 0 < i → IntKind.i64.wrap ((i : Int) - 1) = ((i - 1 : Nat) : Int) := fun h => by rw [Go.IntWalk.i64_in _ (by omega)]; omega
    have hv := hall _ (getD_mem hi)
    rw [e1]
    simp only [Int.toNat_natCast, e2, cond_true]
    refine ⟨⟨by omega, hi, hv⟩, trivial, ?_⟩
    refine cond_split (fun h1 => ⟨trivial, by simp only [nameErr, eqS, leS, h1, cond_true, cond_false, optE] at hR; exact hR⟩) (fun h1 => ?_)
    refine ⟨fun h => ?_, ?_⟩
    · have hz : 0 < i := by simp at h; omega
      rw [e3 hz]
      exact ⟨by omega, by omega, hall _ (getD_mem (by omega))⟩
    · have hR' : optE (bif (bif decide ((i : Int) > 0) then leS (strOf (xs.getD i .any)) (strOf (xs.getD (i - 1) .any)) else false) then some (9 : Int) else none) (R X.normal [V.d (D.slice b 1 xs), lbool sp, V.d (D.slice b 1 xs), lint ↑xs.length, lint ↑(i + 1)] []) (fun e => R .ret [lint e] []) := by
        simp only [nameErr, eqS, h1, cond_true, cond_false] at hR; exact hR
      by_cases hz : 0 < i
      · have e4 : decide ((i : Int) > 0) = true := by simp; omega
        rw [e4] at hR' ⊢
        rw [e3 hz]
        simp only [cond_true, Int.toNat_natCast] at hR' ⊢
        refine cond_split (fun h4 => ⟨trivial, ?_⟩) (fun h4 => ⟨trivial, ?_⟩)
        · rw [show leS _ _ = true from h4] at hR'; exact hR'
        · rw [show leS _ _ = false from h4] at hR'; exact hR'
      · have e4 : decide ((i : Int) > 0) = false := by simp; omega
        rw [e4] at hR' ⊢
        exact ⟨trivial, hR'⟩
  · intro R hR
    refine keep (b79 xs sp xs.length xs.length b R) ?_
    have e1 : decide ((xs.length : Int) < xs.length) = false := by simp
    rw [e1]
    exact ⟨rfl, hR⟩
theorem k79 : TabOk B T79 := by
  refine add_body base k78 (fn := Tryz.f79) (cd := bodyOf Tryz.f79) (sp := spL [(8, S79)]) (hn := noHn) Tryz.func79 (by kernel_rfl) (by kernel_rfl) (specT_cons (c := .loop l79) (by kernel_rfl) ok79 specT_nil) fun ds r hp hr => ?_
  unfold c79 at hp hr
  simp only [] at hr hp
  split at hr
  · rename_i b z xs sp
    cases hr
    obtain ⟨rfl, hall⟩ := hp
    refine keep (w79 xs sp b fun v => v = _) ?_
    unfold namesE
    refine cond_split (fun h1 => ?_) (fun h1 => ?_) <;> simp only [h1, cond_true, cond_false]
    have h1' : ¬ (xs.length : Int) > 16 := by simpa using h1
    refine ⟨⟨trivial, trivial, trivial, trivial, trivial, by omega, hall⟩, ?_⟩
    cases search (nameErr sp xs) xs.length <;> rfl
  · cases hr
theorem k58 : TabOk B T58 := by
  refine add_body base k79 (fn := Tryz.f58) (cd := bodyOf Tryz.f58) (sp := noSp) (hn := noHn) Tryz.func58 (by kernel_rfl) (by kernel_rfl) noSp_ok fun ds r hp hr => ?_
  unfold c58 at hp hr
  simp only [] at hr hp
  split at hr
  · rename_i x
    cases hr
    rw [arg1 (FitG.v hp)]
    refine keep (w58 x fun v => v = _) ?_
    unfold stageE
    (repeat' (first | with_reducible rfl | (refine cond_split (fun hcw => ?_) (fun hcw => ?_) <;> simp only [hcw, cond_true, cond_false]) | refine and_i ?_ ?_))
    all_goals first | trivial | exact FitG.m hp | exact FitG.n hp
  · cases hr
theorem ok25 : OkS (Cn T58) 0 (.loop l25) S25 := by
  refine okS_loop fun N vals bs K h => ?_
  simp only [S25] at h
  split at h
  case h_2 => exact h.elim
  rename_i b xs n i
  obtain ⟨⟨rfl, rfl, rfl, h16, hall⟩, h⟩ := h
  refine search_loop (tab_fit base k58 noCS_valid) tab_has noSp_ok (hn := noHn) (adsI := []) (nsI := []) (nsX := []) rfl rfl xs.length
    (fun i => [.d (.slice b 4 xs), lint xs.length, lint i]) (fun _ => []) (firstF stageE xs) (fun e => (.ret, [lint e], [])) (by simp) (.exit 0) [.any] [] (by simp) ?_ ?_ h
  · intro i R hi hR
    refine keep (b25 xs i xs.length b R) ?_
    have e1 : decide ((i : Int) < xs.length) = true := by simp; omega
    have e2 : IntKind.i64.wrap ((i : Int) + 1) = ((i + 1 : Nat) : Int) := by rw [Go.IntWalk.i64_in _ (by omega)]; omega
    have hv := hall _ (getD_mem hi)
    rw [e1]
    simp only [Int.toNat_natCast, e2, cond_true, hv.v]
    refine ⟨⟨by omega, hi, trivial⟩, hv, cond_split (fun h1 => ⟨trivial, ?_⟩) (fun h1 => ⟨trivial, ?_⟩)⟩ <;> (simp only [firstF, h1, cond_true, cond_false, optE] at hR; exact hR)
  · intro R hR
    refine keep (b25 xs xs.length xs.length b R) ?_
    have e1 : decide ((xs.length : Int) < xs.length) = false := by simp
    rw [e1]
    exact ⟨rfl, hR⟩
theorem k25 : TabOk B T25 := by
  refine add_body base k58 (fn := Tryz.f25) (cd := bodyOf Tryz.f25) (sp := spL [(8, S25)]) (hn := noHn) Tryz.func25 (by kernel_rfl) (by kernel_rfl) (specT_cons (c := .loop l25) (by kernel_rfl) ok25 specT_nil) fun ds r hp hr => ?_
  unfold c25 at hp hr
  simp only [] at hr hp
  split at hr
  · rename_i b z xs
    cases hr
    obtain ⟨rfl, hall⟩ := hp
    refine keep (w25 xs b fun v => v = _) ?_
    unfold stagesE
    refine cond_split (fun h1 => ?_) (fun h1 => ?_) <;> simp only [h1, cond_true, cond_false]
    have h1' : ¬ (xs.length : Int) > 100 := by simpa using h1
    refine ⟨⟨trivial, trivial, trivial, by omega, hall⟩, ?_⟩
    cases search (firstF stageE xs) xs.length <;> rfl
  · cases hr
theorem k75 : TabOk B T75 := by
  refine add_body base k25 (fn := Tryz.f75) (cd := bodyOf Tryz.f75) (sp := noSp) (hn := noHn) Tryz.func75 (by kernel_rfl) (by kernel_rfl) noSp_ok fun ds r hp hr => ?_
  unfold c75 at hp hr
  simp only [] at hr hp
  split at hr
  · rename_i x
    cases hr
    rw [arg1 (show cV x = x from hp)]
    refine keep (w75 x fun v => v = _) ?_
    unfold condE
    (repeat' (first | with_reducible rfl | (refine cond_split (fun hcw => ?_) (fun hcw => ?_) <;> simp only [hcw, cond_true, cond_false]) | refine and_i ?_ ?_))
    all_goals first | trivial | (intro _; trivial)
  · cases hr
theorem ok55a {κ : Nat} (hk : TabOk B (U55 κ)) : OkS (Cn (U55 κ)) 0 (.loop l55a) S55a := by
  refine okS_loop fun N vals bs K h => ?_
  simp only [S55a] at h
  split at h
  case h_2 => exact h.elim
  rename_i b xs n i q b1 cs b2 ps
  obtain ⟨⟨rfl, rfl, rfl, h16, hall⟩, h⟩ := h
  refine search_loop (tab_fit base hk noCS_valid) tab_has noSp_ok (hn := noHn) (adsI := []) (nsI := [([5000],[5000])]) (nsX := [([5000],[5000])]) rfl rfl xs.length
    (fun i => [.ptr [5000] 0, .d (.slice b 4 xs), lint xs.length, lint i]) (fun _ => [pBox q b1 cs b2 ps]) (firstF condE xs) (fun e => (.ret, [.ptr [5000] 0, lint e], [pBox q b1 cs b2 ps])) (by simp) (.exit 1) [.ptr [5000] 0, .any] [pBox q b1 cs b2 ps] (by simp) ?_ ?_ h
  · intro i R hi hR
    refine keep (b55a κ q xs cs ps b1 b2 i xs.length b R) ?_
    have e1 : decide ((i : Int) < xs.length) = true := by simp; omega
    have e2 : IntKind.i64.wrap ((i : Int) + 1) = ((i + 1 : Nat) : Int) := by rw [Go.IntWalk.i64_in _ (by omega)]; omega
    have hv := hall _ (getD_mem hi)
    rw [e1]
    simp only [Int.toNat_natCast, e2, cond_true, show cV _ = _ from hv]
    refine ⟨⟨by omega, hi, trivial⟩, hv, cond_split (fun h1 => ⟨trivial, ?_⟩) (fun h1 => ⟨trivial, ?_⟩)⟩ <;> (simp only [firstF, h1, cond_true, cond_false, optE] at hR; exact hR)
  · intro R hR
    refine keep (b55a κ q xs cs ps b1 b2 xs.length xs.length b R) ?_
    have e1 : decide ((xs.length : Int) < xs.length) = false := by simp
    rw [e1]
    exact ⟨rfl, hR⟩
theorem firstF_congr {f g : D → Int} {xs : List D} (h : ∀ a ∈ xs, f a = g a) : search (firstF f xs) xs.length = search (firstF g xs) xs.length := by
  have key : ∀ n i, i + n ≤ xs.length → rounds (fun i _ => ofOpt (firstF f xs i)) n i () = rounds (fun i _ => ofOpt (firstF g xs i)) n i () := by
    intro n
    induction n with
    | zero => intro i _; rfl
    | succ n ih =>
      intro i hi
      unfold rounds
      have e : firstF f xs i = firstF g xs i := by unfold firstF; rw [h _ (getD_mem (by omega))]
      simp only [e]
      cases ofOpt (firstF g xs i) with
      | inl _ => exact ih (i + 1) (by omega)
      | inr _ => rfl
  unfold search
  rw [key _ 0 (by omega)]
theorem patT_congr (r r' : D → Int) (y : D) (h : ∀ a ∈ subs y 2, r a = r' a) : patT r y = patT r' y := by
  unfold patT
  rw [firstF_congr h]
theorem patE_eq (y : D) : patE y = patT patE y := fixD_step patT_congr y
theorem ok55b {κ : Nat} (hk : TabOk B (U55 κ)) : OkS (Cn (U55 κ)) 0 (.loop l55b) (S55b patE κ) := by
  refine okS_loop fun N vals bs K h => ?_
  simp only [S55b] at h
  split at h
  case h_2 => exact h.elim
  rename_i b xs n i
  obtain ⟨⟨rfl, _, rfl, rfl, h16, hall⟩, h⟩ := h
  refine search_loop (tab_fit base hk noCS_valid) tab_has noSp_ok (hn := noHn) (adsI := []) (nsI := []) (nsX := []) rfl rfl xs.length
    (fun i => [.d (.slice b 3 xs), lint xs.length, lint i]) (fun _ => []) (firstF patE xs) (fun e => (.ret, [lint e], [])) (by simp) (.exit 3) [.any] [] (by simp) ?_ ?_ h
  · intro i R hi hR
    refine keep (b55b κ xs i xs.length b R) ?_
    have e1 : decide ((i : Int) < xs.length) = true := by simp; omega
    have e2 : IntKind.i64.wrap ((i : Int) + 1) = ((i + 1 : Nat) : Int) := by rw [Go.IntWalk.i64_in _ (by omega)]; omega
    obtain ⟨hv, hlt⟩ := hall _ (getD_mem hi)
    rw [e1]
    simp only [Int.toNat_natCast, e2, cond_true, hv.v]
    refine ⟨⟨by omega, hi, trivial⟩, ⟨hv, hlt⟩, cond_split (fun h1 => ⟨trivial, ?_⟩) (fun h1 => ⟨trivial, ?_⟩)⟩ <;> (simp only [firstF, h1, cond_true, cond_false, optE] at hR; exact hR)
  · intro R hR
    refine keep (b55b κ xs xs.length xs.length b R) ?_
    have e1 : decide ((xs.length : Int) < xs.length) = false := by simp
    rw [e1]
    exact ⟨rfl, hR⟩
theorem k55 : TabOk B T55 := by
  refine add_rec base k75 μ1 (fn := Tryz.f55) (cd := bodyOf Tryz.f55) (sp := fun n => spL [(26, S55a), (40, S55b patE n)]) (hn := noHn) Tryz.func55 (by kernel_rfl) (by kernel_rfl) (fun n hk => specT_cons (c := .loop l55a) (by kernel_rfl) (ok55a hk) (specT_cons (c := .loop l55b) (by kernel_rfl) (ok55b hk) specT_nil)) fun κ ds r hp hm hr => ?_
  unfold c55 at hp hr
  simp only [] at hr hp
  split at hr
  · rename_i x
    cases hr
    rw [arg1 (FitP.v hp)]
    refine keep (w55 patE κ x fun v => v = _) ?_
    rw [patE_eq]
    unfold patT
    have hc : ∀ y ∈ seqD (cellOf x 1), FitC y := hp.c
    have ha : ∀ y ∈ seqD (cellOf x 2), FitP y ∧ dsz y < κ := fun y hy => ⟨hp.a y hy, hm ▸ subs_lt hy⟩
    generalize search (firstF condE (seqD (cellOf x 1))) (seqD (cellOf x 1)).length = o1
    generalize search (firstF patE (seqD (cellOf x 2))) (seqD (cellOf x 2)).length = o2
    cases o1 <;> cases o2 <;> (repeat' (first | with_reducible rfl | (refine cond_split (fun hcw => ?_) (fun hcw => ?_) <;> simp only [hcw, cond_true, cond_false]) | refine and_i ?_ ?_))
    all_goals first | trivial | assumption | (simp at *; omega) | (simp at *; grind)
  · cases hr
theorem k23 : TabOk B T23 := by
  refine add_body base k55 (fn := Tryz.f23) (cd := bodyOf Tryz.f23) (sp := noSp) (hn := noHn) Tryz.func23 (by kernel_rfl) (by kernel_rfl) noSp_ok fun ds r hp hr => ?_
  unfold c23 at hp hr
  simp only [] at hr hp
  split at hr
  · rename_i x
    cases hr
    rw [arg1 (FitP.v hp)]
    refine keep (w23 x fun v => v = _) ?_
    unfold patCheckE
    rw [FitP.v hp]
    (repeat' (first | with_reducible rfl | (refine cond_split (fun hcw => ?_) (fun hcw => ?_) <;> simp only [hcw, cond_true, cond_false]) | refine and_i ?_ ?_))
    all_goals first | exact hp | trivial | (simp [cap] at *; omega)
  · cases hr
end Go.Ev.R2
end
section
namespace Go.Ev.R2
open Go Go.Ev Go.Proofs
set_option maxRecDepth 100000
set_option linter.unusedVariables false
set_option linter.unusedSimpArgs false
noncomputable def l196 : Code := roundOf (pieceAt (bodyOf Tryz.f196) 2)
theorem b196 (a : Int) (b : Int) (R : X → List V → List Box → Prop) : (roundT (Cn T23) T23 noCS 0 noSp noHn l196 12 [0, 1] [] [] [] [0] []
  [V.d (D.lit (Value.int IntKind.u64 a)), V.d (D.lit (Value.int IntKind.u64 b))] [] R) =
  (bif b != 0 then
   ((IntKind.u64 = IntKind.u64 ∧ b ≠ 0) ∧
   (12 = 12 ∧
   R X.normal [V.d (D.lit (Value.int IntKind.u64 b)), V.d (D.lit (Value.int IntKind.u64 (a.tmod b)))] [])) else
   (12 = 12 ∧
   R (X.exit 0) [V.d (D.lit (Value.int IntKind.u64 a))] [])) := by kernel_rfl
noncomputable def S196 : Ev.Spec := { L := [0,1], ns := [], L' := [0], nm' := [], G := fun N vals bs k => match vals, bs with
  | [.d (.lit (.int .u64 a)), .d (.lit (.int .u64 b))], [] => ∃ x y : Nat, (N = 12 ∧ a = x ∧ b = y ∧ x < 18446744073709551616 ∧ y < 18446744073709551616) ∧ k (.exit 0) [.d (.lit (.int .u64 (Nat.gcd x y : Nat)))] []
  | _, _ => False }
theorem w196 (a : Int) (b : Int) (p : V → Prop) : (evBodyT (Cn T23) T23 noCS 0 (spL [(2, S196)]) noHn 196
  [V.d (D.lit (Value.int IntKind.u64 a)), V.d (D.lit (Value.int IntKind.u64 b))] Heap.empty fun v H => p (freezeR H v)) =
  (∃ (x : Nat), (∃ (y : Nat), ((12 = 12 ∧ (((a : Int) = (↑x : Int)) ∧ (((b : Int) = (↑y : Int)) ∧ (x < 18446744073709551616 ∧ y < 18446744073709551616)))) ∧
  p (V.d (D.lit (Value.int IntKind.u64 (↑(x.gcd y) : Int))))))) := by kernel_rfl
noncomputable def c196 : Ct := ⟨fun | [.lit (.int .u64 a), .lit (.int .u64 b)] => 0 ≤ a ∧ a < 18446744073709551616 ∧ 0 ≤ b ∧ b < 18446744073709551616 | _ => False, fun | [.lit (.int .u64 a), .lit (.int .u64 b)] => some (.lit (.int .u64 (Nat.gcd a.toNat b.toNat : Nat))) | _ => none⟩
noncomputable def T196 : Tab := T23.add 196 c196
theorem w197 (n : Int) (p : V → Prop) : (evBodyT (Cn T196) T196 noCS 0 noSp noHn 197 [lint n] Heap.empty fun v H => p (freezeR H v)) =
  (bif decide (n < 0) then
   p (V.d (D.lit (Value.int IntKind.u64 (IntKind.u64.wrap (0 - IntKind.u64.wrap n))))) else
   p (V.d (D.lit (Value.int IntKind.u64 (IntKind.u64.wrap n))))) := by kernel_rfl
noncomputable def magU (n : Int) : Int :=
  (bif decide (n < 0) then
 (IntKind.u64.wrap (0 - IntKind.u64.wrap n)) else
 (IntKind.u64.wrap n))
noncomputable def c197 : Ct := ⟨fun _ => True, fun | [.lit (.int .i64 n)] => some (.lit (.int .u64 (magU n))) | _ => none⟩
noncomputable def T197 : Tab := T196.add 197 c197
abbrev rV (n d : Int) : D := .agg [.lit (.int .i64 n), .lit (.int .i64 d)]
theorem w154 (n : Int) (d : Int) (p : V → Prop) : (evBodyT (Cn T197) T197 noCS 0 noSp noHn 154 [V.d (rV n d)] Heap.empty fun v H => p (freezeR H v)) =
  (bif bif decide (d < 1) then true else decide (d > 1152921504606846976) then
   p (V.d (D.lit (Value.int IntKind.i64 1))) else
   (bif bif decide (n < -1152921504606846976) then true else decide (n > 1152921504606846976) then
    p (V.d (D.lit (Value.int IntKind.i64 1))) else
    (True ∧
    ((((0 : Int) ≤ magU n) ∧ (((magU n : Int) < 18446744073709551616) ∧ (((0 : Int) ≤ IntKind.u64.wrap d) ∧ ((IntKind.u64.wrap d : Int) < 18446744073709551616)))) ∧
    (bif (↑((magU n).toNat.gcd (IntKind.u64.wrap d).toNat) : Int) != 1 then
     p (V.d (D.lit (Value.int IntKind.i64 1))) else
     p (V.d (D.lit (Value.int IntKind.i64 0)))))))) := by kernel_rfl
noncomputable def ratioE (n d : Int) : Int :=
  (bif bif decide (d < 1) then true else decide (d > 1152921504606846976) then
 1 else
 (bif bif decide (n < -1152921504606846976) then true else decide (n > 1152921504606846976) then
 1 else
 (bif (↑((magU n).toNat.gcd (IntKind.u64.wrap d).toNat) : Int) != 1 then
 1 else
 0)))
noncomputable def c154 : Ct := ⟨fun _ => True, fun | [.agg [.lit (.int .i64 n), .lit (.int .i64 d)]] => some (.lit (.int .i64 (ratioE n d))) | _ => none⟩
noncomputable def T154 : Tab := T197.add 154 c154
theorem w136 (y : D) (p : V → Prop) : (evBodyT (Cn T154) T154 noCS 0 noSp noHn 136 [V.d (eV y)] Heap.empty fun v H => p (freezeR H v)) =
  (True ∧
  (bif ratioE (intOf (cellOf y 5)) (intOf (cellOf y 6)) != 0 then
   p (V.d (D.lit (Value.int IntKind.i64 1))) else
   (bif intOf (cellOf y 0) == 1 then
    p (V.d (D.lit (Value.int IntKind.i64 0))) else
    (bif bif intOf (cellOf y 0) == 6 then intOf (cellOf y 1) == 7 else false then
     (bif bif bif intOf (cellOf y 6) != 1 then true else decide (intOf (cellOf y 5) < 1) then true
else decide (intOf (cellOf y 5) > 1000) then
      p (V.d (D.lit (Value.int IntKind.i64 2))) else
      p (V.d (D.lit (Value.int IntKind.i64 0)))) else
     (bif bif decide (intOf (cellOf y 5) < 0) then true else decide (intOf (cellOf y 5) > intOf (cellOf y 6)) then
      p (V.d (D.lit (Value.int IntKind.i64 2))) else
      p (V.d (D.lit (Value.int IntKind.i64 0)))))))) := by kernel_rfl
noncomputable def numberE (y : D) : Int :=
  (bif ratioE (intOf (cellOf y 5)) (intOf (cellOf y 6)) != 0 then
 1 else
 (bif intOf (cellOf y 0) == 1 then
 0 else
 (bif bif intOf (cellOf y 0) == 6 then intOf (cellOf y 1) == 7 else false then
 (bif bif bif intOf (cellOf y 6) != 1 then true else decide (intOf (cellOf y 5) < 1) then true
else decide (intOf (cellOf y 5) > 1000) then
 2 else
 0) else
 (bif bif decide (intOf (cellOf y 5) < 0) then true else decide (intOf (cellOf y 5) > intOf (cellOf y 6)) then
 2 else
 0))))
noncomputable def c136 : Ct := ⟨fun | [x] => FitE x | _ => False, fun | [x] => some (.lit (.int .i64 (numberE x))) | _ => none⟩
noncomputable def T136 : Tab := T154.add 136 c136
noncomputable def l137 : Code := roundOf (pieceAt (bodyOf Tryz.f137) 22)
def FitB (x : D) : Prop := .lit (.int .u8 (intOf x)) = x
def byteErr (xs : List D) (i : Nat) : Option Int := bif (bif intOf (xs.getD i .any) != 95 then (bif decide (intOf (xs.getD i .any) < 97) then true else decide (intOf (xs.getD i .any) > 122)) else false) then some 5 else none
noncomputable def S137 : Ev.Spec := { L := [31,32,33], ns := [], L' := [2], nm' := [], G := fun N vals bs k => match vals, bs with
  | [.d (.slice b 1 xs), .d (.lit (.int .i64 n)), .d (.lit (.int .i64 i))], [] => (N = 48 ∧ i = 0 ∧ n = xs.length ∧ xs.length ≤ 60 ∧ ∀ y ∈ xs, FitB y) ∧ optE (search (byteErr xs) xs.length) (k (.exit 1) [.any] []) (fun e => k .ret [lint e] [])
  | _, _ => False }
theorem b137 (xs : List D) (i : Int) (n : Int) (b : Bool) (R : X → List V → List Box → Prop) : (roundT (Cn T136) T136 noCS 0 noSp noHn l137 48 [31, 32, 33] [] [] [] [2] [] [V.d (D.slice b 1 xs), lint n, lint i] [] R) =
  (bif decide (i < n) then
   ((((0 : Int) ≤ i) ∧ (i.toNat < xs.length ∧ D.lit (Value.int IntKind.u8 (intOf (xs.getD i.toNat D.any))) = xs.getD i.toNat D.any)) ∧
   (bif bif intOf (xs.getD i.toNat D.any) != 95 then
  bif decide (intOf (xs.getD i.toNat D.any) < 97) then true else decide (intOf (xs.getD i.toNat D.any) > 122)
else false then
    (48 = 48 ∧
    R X.ret [V.d (D.lit (Value.int IntKind.i64 5))] []) else
    (48 = 48 ∧
    R X.normal
  [V.d (D.slice b 1 xs), V.d (D.lit (Value.int IntKind.i64 n)),
    V.d (D.lit (Value.int IntKind.i64 (IntKind.i64.wrap (i + 1))))]
  []))) else
   (48 = 48 ∧
   R (X.exit 1) [V.any] [])) := by kernel_rfl
theorem w137 (y : D) (p : V → Prop) : (evBodyT (Cn T136) T136 noCS 0 (spL [(22, S137)]) noHn 137 [V.d (eV y)] Heap.empty fun v H => p (freezeR H v)) =
  (bif intOf (cellOf y 0) == 5 then
   (bif decide ((↑(strOf (cellOf y 14)).size : Int) > 60) then
    p (V.d (D.lit (Value.int IntKind.i64 4))) else
    p (V.d (D.lit (Value.int IntKind.i64 0)))) else
   (bif intOf (cellOf y 0) == 13 then
    (bif bif decide ((↑(strOf (cellOf y 14)).size : Int) < 1) then true else decide ((↑(strOf (cellOf y 14)).size : Int) > 60) then
     p (V.d (D.lit (Value.int IntKind.i64 5))) else
     ((48 = 48 ∧ (((0 : Int) = 0) ∧ ((((↑(bytesD (strOf (cellOf y 14))).length : Int) : Int) = (↑(bytesD (strOf (cellOf y 14))).length : Int)) ∧ ((bytesD (strOf (cellOf y 14))).length ≤ 60 ∧ ∀ (y_1 : D), y_1 ∈ bytesD (strOf (cellOf y 14)) → FitB y_1)))) ∧
     (match search (byteErr (bytesD (strOf (cellOf y 14)))) (bytesD (strOf (cellOf y 14))).length with
     | some y0 =>
      p (V.d (D.lit (Value.int IntKind.i64 y0)))
     | none => p (V.d (D.lit (Value.int IntKind.i64 0)))))) else
    (True ∧
    (bif !isName (strOf (cellOf y 14)) then
     p (V.d (D.lit (Value.int IntKind.i64 5))) else
     p (V.d (D.lit (Value.int IntKind.i64 0))))))) := by kernel_rfl
noncomputable def textE (y : D) : Int :=
  (bif intOf (cellOf y 0) == 5 then
 (bif decide ((↑(strOf (cellOf y 14)).size : Int) > 60) then
 4 else
 0) else
 (bif intOf (cellOf y 0) == 13 then
 (bif bif decide ((↑(strOf (cellOf y 14)).size : Int) < 1) then true else decide ((↑(strOf (cellOf y 14)).size : Int) > 60) then
 5 else
 (match search (byteErr (bytesD (strOf (cellOf y 14)))) (bytesD (strOf (cellOf y 14))).length with
 | some y0 => y0
 | none => 0)) else
 (bif !isName (strOf (cellOf y 14)) then
 5 else
 0)))
noncomputable def c137 : Ct := ⟨fun | [x] => FitE x | _ => False, fun | [x] => some (.lit (.int .i64 (textE x))) | _ => none⟩
noncomputable def T137 : Tab := T136.add 137 c137
def numB (b : Bool) (k f : Int) : Bool := bif k == 2 then (bif f == 10 then true else f == 11) else bif k == 3 then b else bif k == 6 then (bif (bif f == 6 then true else f == 7) then true else f == 9) else b
def textB (b : Bool) (k f : Int) : Bool := bif k == 2 then b else bif k == 3 then f == 3 else bif k == 6 then f == 8 else b
abbrev bD (b : Bool) : D := .lit (.bool b)
theorem w83 (nm : D) (fns : D) (b0 : Bool) (b1 : Bool) (b2 : Bool) (b3 : Bool) (b4 : Bool) (b5 : Bool) (b6 : Bool) (b7 : Bool) (b8 : Bool) (b9 : Bool) (ar : Int) (ty : Int) (y : D) (p : V → Prop) : (evBodyT (Cn T137) T137 noCS 0 noSp noHn 83
  [V.d
      (D.agg
        [nm, bD b0, bD b1, bD b2, bD b3, bD b4, bD b5, bD b6, bD b7, bD b8, bD b9, fns,
          D.lit (Value.int IntKind.i64 ar), D.lit (Value.int IntKind.i64 ty)]),
    V.d (eV y)]
  Heap.empty fun v H => p (freezeR H v)) =
  (bif intOf (cellOf y 0) == 2 then
   p
  (V.d
    (D.agg
      [D.lit (Value.bool b0), D.lit (Value.bool b1),
        D.lit (Value.bool (bif intOf (cellOf y 1) == 10 then true else intOf (cellOf y 1) == 11)),
        D.lit (Value.bool b3), D.lit (Value.bool b4), D.lit (Value.bool b5), D.lit (Value.bool b6),
        D.lit (Value.bool b7), D.lit (Value.bool b8), D.lit (Value.bool b9)])) else
   (bif intOf (cellOf y 0) == 3 then
    p
  (V.d
    (D.agg
      [D.lit (Value.bool b0), D.lit (Value.bool b1), D.lit (Value.bool b2),
        D.lit (Value.bool (intOf (cellOf y 1) == 3)), D.lit (Value.bool b4), D.lit (Value.bool b5),
        D.lit (Value.bool b6), D.lit (Value.bool b7), D.lit (Value.bool b8), D.lit (Value.bool b9)])) else
    (bif intOf (cellOf y 0) == 6 then
     p
  (V.d
    (D.agg
      [D.lit (Value.bool b0), D.lit (Value.bool b1),
        D.lit
          (Value.bool
            (bif bif intOf (cellOf y 1) == 6 then true else intOf (cellOf y 1) == 7 then true
            else intOf (cellOf y 1) == 9)),
        D.lit (Value.bool (intOf (cellOf y 1) == 8)), D.lit (Value.bool b4), D.lit (Value.bool b5),
        D.lit (Value.bool b6), D.lit (Value.bool b7), D.lit (Value.bool b8), D.lit (Value.bool b9)])) else
     p
  (V.d
    (D.agg
      [D.lit (Value.bool b0), D.lit (Value.bool b1), D.lit (Value.bool b2), D.lit (Value.bool b3),
        D.lit (Value.bool b4), D.lit (Value.bool b5), D.lit (Value.bool b6), D.lit (Value.bool b7),
        D.lit (Value.bool b8), D.lit (Value.bool b9)]))))) := by kernel_rfl
noncomputable def c83 : Ct := ⟨fun | [.agg _, y] => FitE y | _ => False, fun | [.agg [nm, .lit (.bool b0), .lit (.bool b1), .lit (.bool b2), .lit (.bool b3), .lit (.bool b4), .lit (.bool b5), .lit (.bool b6), .lit (.bool b7), .lit (.bool b8), .lit (.bool b9), fns, .lit (.int .i64 ar), .lit (.int .i64 ty)], y] => some (.agg [bD b0, bD b1, bD (numB b2 (intOf (cellOf y 0)) (intOf (cellOf y 1))), bD (textB b3 (intOf (cellOf y 0)) (intOf (cellOf y 1))), bD b4, bD b5, bD b6, bD b7, bD b8, bD b9]) | _ => none⟩
noncomputable def T83 : Tab := T137.add 83 c83
theorem arg2b {x y z : D} (h : y = x) : [z, x].map V.d = [V.d z, V.d y] := by rw [h]; rfl
theorem ok196 : OkS (Cn T23) 0 (.loop l196) S196 := by
  refine okS_loop fun N vals bs K h => ?_
  simp only [S196] at h
  split at h
  case h_2 => exact h.elim
  rename_i a b
  obtain ⟨x, y, ⟨rfl, rfl, rfl, hx, hy⟩, h⟩ := h
  have main : ∀ (n x y : Nat), y ≤ n → K (.exit 0) [.d (.lit (.int .u64 (Nat.gcd x y : Nat)))] [] → LoopT (Cn T23) 0 l196 12 [0,1] [] [0] [] [.d (.lit (.int .u64 x)), .d (.lit (.int .u64 y))] [] K := by
    intro n
    induction n with
    | zero =>
      intro x y hn h
      have : y = 0 := by omega
      subst this
      refine loopT_step (tab_fit base k23 noCS_valid) tab_has noSp_ok (hn := noHn) (adsI := []) (nsI := []) (nsX := []) rfl rfl (keep (b196 x 0 _) ?_)
      rw [Nat.gcd_zero_right] at h
      exact ⟨rfl, h⟩
    | succ n ih =>
      intro x y hn h
      refine loopT_step (tab_fit base k23 noCS_valid) tab_has noSp_ok (hn := noHn) (adsI := []) (nsI := []) (nsX := []) rfl rfl (keep (b196 x y _) ?_)
      refine cond_split (fun h1 => ?_) (fun h1 => ?_)
      · have hy : y ≠ 0 := by rintro rfl; simp at h1
        refine ⟨⟨rfl, by omega⟩, rfl, ?_⟩
        have e : ((x : Int)).tmod (y : Int) = ((x % y : Nat) : Int) := by rw [Int.ofNat_tmod]
        rw [e]
        refine ih y (x % y) (by have := Nat.mod_lt x (Nat.pos_of_ne_zero hy); omega) ?_
        rw [Nat.gcd_comm y, ← Nat.gcd_rec, Nat.gcd_comm]
        exact h
      · have hy : y = 0 := by simpa using h1
        subst hy
        rw [Nat.gcd_zero_right] at h
        exact ⟨rfl, h⟩
  exact main y x y (Nat.le_refl _) h
theorem k196 : TabOk B T196 := by
  refine add_body base k23 (fn := Tryz.f196) (cd := bodyOf Tryz.f196) (sp := spL [(2, S196)]) (hn := noHn) Tryz.func196 (by kernel_rfl) (by kernel_rfl) (specT_cons (c := .loop l196) (by kernel_rfl) ok196 specT_nil) fun ds r hp hr => ?_
  unfold c196 at hp hr
  simp only [] at hr hp
  split at hr
  · rename_i a b
    cases hr
    obtain ⟨h1, h2, h3, h4⟩ := hp
    refine keep (w196 a b fun v => v = _) ?_
    exact ⟨a.toNat, b.toNat, ⟨rfl, by omega, by omega, by omega, by omega⟩, rfl⟩
  · cases hr
theorem k197 : TabOk B T197 := by
  refine add_body base k196 (fn := Tryz.f197) (cd := bodyOf Tryz.f197) (sp := noSp) (hn := noHn) Tryz.func197 (by kernel_rfl) (by kernel_rfl) noSp_ok fun ds r hp hr => ?_
  unfold c197 at hp hr
  simp only [] at hr hp
  split at hr
  · rename_i n
    cases hr
    refine keep (w197 n fun v => v = _) ?_
    unfold magU
    (repeat' (first | with_reducible rfl | (refine cond_split (fun hcw => ?_) (fun hcw => ?_) <;> simp only [hcw, cond_true, cond_false]) | refine and_i ?_ ?_))
  · cases hr
theorem wrap_u64 (n : Int) : 0 ≤ IntKind.u64.wrap n ∧ IntKind.u64.wrap n < 18446744073709551616 := by
  have e : IntKind.u64.wrap n = n % 18446744073709551616 := rfl
  rw [e]; omega
theorem magU_in (n : Int) : 0 ≤ magU n ∧ magU n < 18446744073709551616 := by
  unfold magU
  cases decide (n < 0) <;> exact wrap_u64 _
theorem k154 : TabOk B T154 := by
  refine add_body base k197 (fn := Tryz.f154) (cd := bodyOf Tryz.f154) (sp := noSp) (hn := noHn) Tryz.func154 (by kernel_rfl) (by kernel_rfl) noSp_ok fun ds r hp hr => ?_
  unfold c154 at hp hr
  simp only [] at hr hp
  split at hr
  · rename_i n d
    cases hr
    refine keep (w154 n d fun v => v = _) ?_
    unfold ratioE
    (repeat' (first | with_reducible rfl | (refine cond_split (fun hcw => ?_) (fun hcw => ?_) <;> simp only [hcw, cond_true, cond_false]) | refine and_i ?_ ?_))
    all_goals first | trivial | exact (magU_in n).1 | exact (magU_in n).2 | exact (wrap_u64 d).1 | exact (wrap_u64 d).2
  · cases hr
theorem k136 : TabOk B T136 := by
  refine add_body base k154 (fn := Tryz.f136) (cd := bodyOf Tryz.f136) (sp := noSp) (hn := noHn) Tryz.func136 (by kernel_rfl) (by kernel_rfl) noSp_ok fun ds r hp hr => ?_
  unfold c136 at hp hr
  simp only [] at hr hp
  split at hr
  · rename_i x
    cases hr
    rw [arg1 (FitE.v hp)]
    refine keep (w136 x fun v => v = _) ?_
    unfold numberE
    (repeat' (first | with_reducible rfl | (refine cond_split (fun hcw => ?_) (fun hcw => ?_) <;> simp only [hcw, cond_true, cond_false]) | refine and_i ?_ ?_))
    all_goals trivial
  · cases hr
theorem ok137 : OkS (Cn T136) 0 (.loop l137) S137 := by
  refine okS_loop fun N vals bs K h => ?_
  simp only [S137] at h
  split at h
  case h_2 => exact h.elim
  rename_i b xs n i
  obtain ⟨⟨rfl, rfl, rfl, h16, hall⟩, h⟩ := h
  refine search_loop (tab_fit base k136 noCS_valid) tab_has noSp_ok (hn := noHn) (adsI := []) (nsI := []) (nsX := []) rfl rfl xs.length
    (fun i => [.d (.slice b 1 xs), lint xs.length, lint i]) (fun _ => []) (byteErr xs) (fun e => (.ret, [lint e], [])) (by simp) (.exit 1) [.any] [] (by simp) ?_ ?_ h
  · intro i R hi hR
    refine keep (b137 xs i xs.length b R) ?_
    have e1 : decide ((i : Int) < xs.length) = true := by simp; omega
    have e2 : IntKind.i64.wrap ((i : Int) + 1) = ((i + 1 : Nat) : Int) := by rw [Go.IntWalk.i64_in _ (by omega)]; omega
    have hv := hall _ (getD_mem hi)
    rw [e1]
    simp only [Int.toNat_natCast, e2, cond_true]
    refine ⟨⟨by omega, hi, hv⟩, cond_split (fun h1 => ⟨trivial, ?_⟩) (fun h1 => ⟨trivial, ?_⟩)⟩ <;> (simp only [byteErr, h1, cond_true, cond_false, optE] at hR; exact hR)
  · intro R hR
    refine keep (b137 xs xs.length xs.length b R) ?_
    have e1 : decide ((xs.length : Int) < xs.length) = false := by simp
    rw [e1]
    exact ⟨rfl, hR⟩
theorem bytesD_len (s : ByteArray) : (bytesD s).length = s.size := by simp [bytesD]
theorem bytesD_fit (s : ByteArray) : ∀ y ∈ bytesD s, FitB y := by
  intro y hy
  unfold bytesD at hy
  obtain ⟨b, _, rfl⟩ := List.mem_map.1 hy
  rfl
theorem k137 : TabOk B T137 := by
  refine add_body base k136 (fn := Tryz.f137) (cd := bodyOf Tryz.f137) (sp := spL [(22, S137)]) (hn := noHn) Tryz.func137 (by kernel_rfl) (by kernel_rfl) (specT_cons (c := .loop l137) (by kernel_rfl) ok137 specT_nil) fun ds r hp hr => ?_
  unfold c137 at hp hr
  simp only [] at hr hp
  split at hr
  · rename_i x
    cases hr
    rw [arg1 (FitE.v hp)]
    refine keep (w137 x fun v => v = _) ?_
    unfold textE
    have hb := bytesD_fit (strOf (cellOf x 14))
    have hl := bytesD_len (strOf (cellOf x 14))
    generalize search (byteErr (bytesD (strOf (cellOf x 14)))) (bytesD (strOf (cellOf x 14))).length = o1
    cases o1 <;> (repeat' (first | with_reducible rfl | (refine cond_split (fun hcw => ?_) (fun hcw => ?_) <;> simp only [hcw, cond_true, cond_false]) | refine and_i ?_ ?_))
    all_goals first | trivial | assumption | (simp at *; omega) | (simp at *; grind)
  · cases hr
theorem k83 : TabOk B T83 := by
  refine add_body base k137 (fn := Tryz.f83) (cd := bodyOf Tryz.f83) (sp := noSp) (hn := noHn) Tryz.func83 (by kernel_rfl) (by kernel_rfl) noSp_ok fun ds r hp hr => ?_
  unfold c83 at hp hr
  simp only [] at hr hp
  split at hr
  · rename_i nm b0 b1 b2 b3 b4 b5 b6 b7 b8 b9 fns ar ty y
    cases hr
    rw [arg2b (FitE.v hp)]
    refine keep (w83 nm fns b0 b1 b2 b3 b4 b5 b6 b7 b8 b9 ar ty y fun v => v = _) ?_
    unfold numB textB
    (repeat' (first | with_reducible rfl | (refine cond_split (fun hcw => ?_) (fun hcw => ?_) <;> simp only [hcw, cond_true, cond_false]) | refine and_i ?_ ?_))
    all_goals simp_all
  · cases hr
end Go.Ev.R2
end
section
namespace Go.Ev.R2
open Go Go.Ev Go.Proofs
set_option maxRecDepth 100000
set_option linter.unusedVariables false
set_option linter.unusedSimpArgs false
theorem w134 (y : D) (p : V → Prop) : (evBodyT (Cn T83) T83 noCS 0 noSp noHn 134 [V.d (eV y)] Heap.empty fun v H => p (freezeR H v)) =
  (FitE (eV y) ∧
  p
  (V.d
    (D.agg
      [D.lit (Value.bool (intOf (cellOf y 1) != 0)), D.lit (Value.bool (intOf (cellOf y 9) != 0)),
        D.lit (Value.bool !(intOf (cellOf y 5) == 0 && (intOf (cellOf y 6) == 0 && true))),
        D.lit (Value.bool !(strOf (cellOf y 14)).toList == (ByteArray.mk #[]).toList),
        D.lit (Value.bool (decide ((↑(seqD (cellOf y 2)).length : Int) > 0))), D.lit (Value.bool (hasPat (eV y))),
        D.lit (Value.bool (decide ((↑(seqD (cellOf y 10)).length : Int) > 0))),
        D.lit (Value.bool (bif intOf (cellOf y 3) != 0 then true else intOf (cellOf y 4) != 0)),
        D.lit (Value.bool (decide ((↑(seqD (cellOf y 7)).length : Int) > 0))),
        D.lit (Value.bool (boolOf (cellOf y 8)))]))) := by kernel_rfl
def presB (y : D) (i : Nat) : Bool := match i with
  | 0 => intOf (cellOf y 1) != 0 | 1 => intOf (cellOf y 9) != 0
  | 2 => !(intOf (cellOf y 5) == 0 && (intOf (cellOf y 6) == 0 && true))
  | 3 => !(strOf (cellOf y 14)).toList == (ByteArray.mk #[]).toList
  | 4 => decide ((↑(seqD (cellOf y 2)).length : Int) > 0) | 5 => hasPat y
  | 6 => decide ((↑(seqD (cellOf y 10)).length : Int) > 0)
  | 7 => bif intOf (cellOf y 3) != 0 then true else intOf (cellOf y 4) != 0
  | 8 => decide ((↑(seqD (cellOf y 7)).length : Int) > 0)
  | _ => boolOf (cellOf y 8)
noncomputable def c134 : Ct := ⟨fun | [x] => FitE x | _ => False, fun | [x] => some (.agg [bD (presB x 0), bD (presB x 1), bD (presB x 2), bD (presB x 3), bD (presB x 4), bD (presB x 5), bD (presB x 6), bD (presB x 7), bD (presB x 8), bD (presB x 9)]) | _ => none⟩
noncomputable def T134 : Tab := T83.add 134 c134
def butB (a b : Bool) : Bool := bif a then !b else false
noncomputable def c135 : Ct := ⟨fun _ => True, fun | [.agg [.lit (.bool a0), .lit (.bool a1), .lit (.bool a2), .lit (.bool a3), .lit (.bool a4), .lit (.bool a5), .lit (.bool a6), .lit (.bool a7), .lit (.bool a8), .lit (.bool a9)], .agg [.lit (.bool b0), .lit (.bool b1), .lit (.bool b2), .lit (.bool b3), .lit (.bool b4), .lit (.bool b5), .lit (.bool b6), .lit (.bool b7), .lit (.bool b8), .lit (.bool b9)]] => some (.agg [bD (butB a0 b0), bD (butB a1 b1), bD (butB a2 b2), bD (butB a3 b3), bD (butB a4 b4), bD (butB a5 b5), bD (butB a6 b6), bD (butB a7 b7), bD (butB a8 b8), bD (butB a9 b9)]) | _ => none⟩
noncomputable def T135 : Tab := T134.add 135 c135
theorem w135 (a0 : Bool) (a1 : Bool) (a2 : Bool) (a3 : Bool) (a4 : Bool) (a5 : Bool) (a6 : Bool) (a7 : Bool) (a8 : Bool) (a9 : Bool) (b0 : Bool) (b1 : Bool) (b2 : Bool) (b3 : Bool) (b4 : Bool) (b5 : Bool) (b6 : Bool) (b7 : Bool) (b8 : Bool) (b9 : Bool) (p : V → Prop) : (evBodyT (Cn T134) T134 noCS 0 noSp noHn 135
  [V.d (D.agg [bD a0, bD a1, bD a2, bD a3, bD a4, bD a5, bD a6, bD a7, bD a8, bD a9]),
    V.d (D.agg [bD b0, bD b1, bD b2, bD b3, bD b4, bD b5, bD b6, bD b7, bD b8, bD b9])]
  Heap.empty fun v H => p (freezeR H v)) =
  p
  (V.d
    (D.agg
      [D.lit (Value.bool (bif a0 then !b0 else false)), D.lit (Value.bool (bif a1 then !b1 else false)),
        D.lit (Value.bool (bif a2 then !b2 else false)), D.lit (Value.bool (bif a3 then !b3 else false)),
        D.lit (Value.bool (bif a4 then !b4 else false)), D.lit (Value.bool (bif a5 then !b5 else false)),
        D.lit (Value.bool (bif a6 then !b6 else false)), D.lit (Value.bool (bif a7 then !b7 else false)),
        D.lit (Value.bool (bif a8 then !b8 else false)), D.lit (Value.bool (bif a9 then !b9 else false))])) := by kernel_rfl
def IsKinds (es : List (D × D)) : Prop := es = kindsEs
theorem w72 (y : D) (p : V → Prop) : (evBodyT (Cn T135) T135 noCS 0 noSp noHn 72 [V.d (eV y), V.d (D.map kindsEs)] Heap.empty fun v H => p (freezeR H v)) =
  (bif intOf (cellOf y 0) == 1 then
   (FitE (eV y) ∧
   (FitE (eV y) ∧
   (True ∧
   (bif bif
    !(butB (presB (eV y) 0) false == false &&
        (butB (presB (eV y) 1) false == false &&
          (butB (presB (eV y) 2)
                (numB true (intOf (D.lit (Value.int IntKind.i64 (intOf (cellOf y 0)))))
                  (intOf (D.lit (Value.int IntKind.i64 (intOf (cellOf y 1)))))) ==
              false &&
            (butB (presB (eV y) 3)
                  (textB false (intOf (D.lit (Value.int IntKind.i64 (intOf (cellOf y 0)))))
                    (intOf (D.lit (Value.int IntKind.i64 (intOf (cellOf y 1)))))) ==
                false &&
              (butB (presB (eV y) 4) false == false &&
                (butB (presB (eV y) 5) false == false &&
                  (butB (presB (eV y) 6) false == false &&
                    (butB (presB (eV y) 7) false == false &&
                      (butB (presB (eV y) 8) false == false &&
                        (butB (presB (eV y) 9) false == false && true)))))))))) then
  true
else (↑(seqD (cellOf y 15)).length : Int) != 0 then
    p (V.d (D.lit (Value.int IntKind.i64 1))) else
    (bif numB true (intOf (D.lit (Value.int IntKind.i64 (intOf (cellOf y 0)))))
  (intOf (D.lit (Value.int IntKind.i64 (intOf (cellOf y 1))))) then
     (FitE (eV y) ∧
     (bif numberE (eV y) != 0 then
      p (V.d (D.lit (Value.int IntKind.i64 (numberE (eV y))))) else
      ((1 = 1 ∧ ∀ (y_1 : D), y_1 ∈ seqD (cellOf y 7) → FitN y_1) ∧
      (bif namesE (seqD (cellOf y 7)) (intOf (cellOf y 0) == 4) != 0 then
       p (V.d (D.lit (Value.int IntKind.i64 (namesE (seqD (cellOf y 7)) (intOf (cellOf y 0) == 4))))) else
       (bif bif decide (intOf (cellOf y 9) < 0) then true else decide (intOf (cellOf y 9) > 2) then
        p (V.d (D.lit (Value.int IntKind.i64 8))) else
        ((4 = 4 ∧ ∀ (y_1 : D), y_1 ∈ seqD (cellOf y 10) → FitG y_1) ∧
        (bif stagesE (seqD (cellOf y 10)) != 0 then
         p (V.d (D.lit (Value.int IntKind.i64 (stagesE (seqD (cellOf y 10)))))) else
         (bif textB false (intOf (D.lit (Value.int IntKind.i64 (intOf (cellOf y 0)))))
  (intOf (D.lit (Value.int IntKind.i64 (intOf (cellOf y 1))))) then
          (FitE (eV y) ∧
          p (V.d (D.lit (Value.int IntKind.i64 (textE (eV y)))))) else
          p (V.d (D.lit (Value.int IntKind.i64 0))))))))))) else
     ((1 = 1 ∧ ∀ (y_1 : D), y_1 ∈ seqD (cellOf y 7) → FitN y_1) ∧
     (bif namesE (seqD (cellOf y 7)) (intOf (cellOf y 0) == 4) != 0 then
      p (V.d (D.lit (Value.int IntKind.i64 (namesE (seqD (cellOf y 7)) (intOf (cellOf y 0) == 4))))) else
      (bif bif decide (intOf (cellOf y 9) < 0) then true else decide (intOf (cellOf y 9) > 2) then
       p (V.d (D.lit (Value.int IntKind.i64 8))) else
       ((4 = 4 ∧ ∀ (y_1 : D), y_1 ∈ seqD (cellOf y 10) → FitG y_1) ∧
       (bif stagesE (seqD (cellOf y 10)) != 0 then
        p (V.d (D.lit (Value.int IntKind.i64 (stagesE (seqD (cellOf y 10)))))) else
        (bif textB false (intOf (D.lit (Value.int IntKind.i64 (intOf (cellOf y 0)))))
  (intOf (D.lit (Value.int IntKind.i64 (intOf (cellOf y 1))))) then
         (FitE (eV y) ∧
         p (V.d (D.lit (Value.int IntKind.i64 (textE (eV y)))))) else
         p (V.d (D.lit (Value.int IntKind.i64 0)))))))))))))) else
   (bif intOf (cellOf y 0) == 2 then
    (bif bif true then bif decide (intOf (cellOf y 1) < 1) then true else decide (intOf (cellOf y 1) > (↑11 : Int)) else false then
     p (V.d (D.lit (Value.int IntKind.i64 8))) else
     (FitE (eV y) ∧
     (FitE (eV y) ∧
     (True ∧
     (bif bif
    !(butB (presB (eV y) 0) true == false &&
        (butB (presB (eV y) 1) false == false &&
          (butB (presB (eV y) 2)
                (numB false (intOf (D.lit (Value.int IntKind.i64 (intOf (cellOf y 0)))))
                  (intOf (D.lit (Value.int IntKind.i64 (intOf (cellOf y 1)))))) ==
              false &&
            (butB (presB (eV y) 3)
                  (textB false (intOf (D.lit (Value.int IntKind.i64 (intOf (cellOf y 0)))))
                    (intOf (D.lit (Value.int IntKind.i64 (intOf (cellOf y 1)))))) ==
                false &&
              (butB (presB (eV y) 4) true == false &&
                (butB (presB (eV y) 5) false == false &&
                  (butB (presB (eV y) 6) false == false &&
                    (butB (presB (eV y) 7) true == false &&
                      (butB (presB (eV y) 8) false == false &&
                        (butB (presB (eV y) 9) false == false && true)))))))))) then
  true
else (↑(seqD (cellOf y 15)).length : Int) != 0 then
      p (V.d (D.lit (Value.int IntKind.i64 1))) else
      ((3 = 3 ∧ ∀ (y_1 : D), y_1 ∈ seqD (cellOf y 2) → FitM y_1) ∧
      (bif matchersE (seqD (cellOf y 2)) != 0 then
       p (V.d (D.lit (Value.int IntKind.i64 (matchersE (seqD (cellOf y 2)))))) else
       (bif bif true then
  bif
      bif bif decide (intOf (cellOf y 3) < 1) then true else decide (intOf (cellOf y 3) > 1099511627776) then true
      else decide (intOf (cellOf y 4) < 0) then
    true
  else decide (intOf (cellOf y 4) > 1099511627776)
else false then
        p (V.d (D.lit (Value.int IntKind.i64 2))) else
        (bif numB false (intOf (D.lit (Value.int IntKind.i64 (intOf (cellOf y 0)))))
  (intOf (D.lit (Value.int IntKind.i64 (intOf (cellOf y 1))))) then
         (FitE (eV y) ∧
         (bif numberE (eV y) != 0 then
          p (V.d (D.lit (Value.int IntKind.i64 (numberE (eV y))))) else
          ((1 = 1 ∧ ∀ (y_1 : D), y_1 ∈ seqD (cellOf y 7) → FitN y_1) ∧
          (bif namesE (seqD (cellOf y 7)) (intOf (cellOf y 0) == 4) != 0 then
           p (V.d (D.lit (Value.int IntKind.i64 (namesE (seqD (cellOf y 7)) (intOf (cellOf y 0) == 4))))) else
           (bif bif decide (intOf (cellOf y 9) < 0) then true else decide (intOf (cellOf y 9) > 2) then
            p (V.d (D.lit (Value.int IntKind.i64 8))) else
            ((4 = 4 ∧ ∀ (y_1 : D), y_1 ∈ seqD (cellOf y 10) → FitG y_1) ∧
            (bif stagesE (seqD (cellOf y 10)) != 0 then
             p (V.d (D.lit (Value.int IntKind.i64 (stagesE (seqD (cellOf y 10)))))) else
             (bif textB false (intOf (D.lit (Value.int IntKind.i64 (intOf (cellOf y 0)))))
  (intOf (D.lit (Value.int IntKind.i64 (intOf (cellOf y 1))))) then
              (FitE (eV y) ∧
              p (V.d (D.lit (Value.int IntKind.i64 (textE (eV y)))))) else
              p (V.d (D.lit (Value.int IntKind.i64 0))))))))))) else
         ((1 = 1 ∧ ∀ (y_1 : D), y_1 ∈ seqD (cellOf y 7) → FitN y_1) ∧
         (bif namesE (seqD (cellOf y 7)) (intOf (cellOf y 0) == 4) != 0 then
          p (V.d (D.lit (Value.int IntKind.i64 (namesE (seqD (cellOf y 7)) (intOf (cellOf y 0) == 4))))) else
          (bif bif decide (intOf (cellOf y 9) < 0) then true else decide (intOf (cellOf y 9) > 2) then
           p (V.d (D.lit (Value.int IntKind.i64 8))) else
           ((4 = 4 ∧ ∀ (y_1 : D), y_1 ∈ seqD (cellOf y 10) → FitG y_1) ∧
           (bif stagesE (seqD (cellOf y 10)) != 0 then
            p (V.d (D.lit (Value.int IntKind.i64 (stagesE (seqD (cellOf y 10)))))) else
            (bif textB false (intOf (D.lit (Value.int IntKind.i64 (intOf (cellOf y 0)))))
  (intOf (D.lit (Value.int IntKind.i64 (intOf (cellOf y 1))))) then
             (FitE (eV y) ∧
             p (V.d (D.lit (Value.int IntKind.i64 (textE (eV y)))))) else
             p (V.d (D.lit (Value.int IntKind.i64 0)))))))))))))))))) else
    (bif intOf (cellOf y 0) == 3 then
     (bif bif true then bif decide (intOf (cellOf y 1) < 1) then true else decide (intOf (cellOf y 1) > (↑3 : Int)) else false then
      p (V.d (D.lit (Value.int IntKind.i64 8))) else
      (FitE (eV y) ∧
      (FitE (eV y) ∧
      (True ∧
      (bif bif
    !(butB (presB (eV y) 0) true == false &&
        (butB (presB (eV y) 1) false == false &&
          (butB (presB (eV y) 2)
                (numB false (intOf (D.lit (Value.int IntKind.i64 (intOf (cellOf y 0)))))
                  (intOf (D.lit (Value.int IntKind.i64 (intOf (cellOf y 1)))))) ==
              false &&
            (butB (presB (eV y) 3)
                  (textB false (intOf (D.lit (Value.int IntKind.i64 (intOf (cellOf y 0)))))
                    (intOf (D.lit (Value.int IntKind.i64 (intOf (cellOf y 1)))))) ==
                false &&
              (butB (presB (eV y) 4) true == false &&
                (butB (presB (eV y) 5) false == false &&
                  (butB (presB (eV y) 6) true == false &&
                    (butB (presB (eV y) 7) true == false &&
                      (butB (presB (eV y) 8) true == false &&
                        (butB (presB (eV y) 9) true == false && true)))))))))) then
  true
else (↑(seqD (cellOf y 15)).length : Int) != 0 then
       p (V.d (D.lit (Value.int IntKind.i64 1))) else
       ((3 = 3 ∧ ∀ (y_1 : D), y_1 ∈ seqD (cellOf y 2) → FitM y_1) ∧
       (bif matchersE (seqD (cellOf y 2)) != 0 then
        p (V.d (D.lit (Value.int IntKind.i64 (matchersE (seqD (cellOf y 2)))))) else
        (bif bif true then
  bif
      bif bif decide (intOf (cellOf y 3) < 1) then true else decide (intOf (cellOf y 3) > 1099511627776) then true
      else decide (intOf (cellOf y 4) < 0) then
    true
  else decide (intOf (cellOf y 4) > 1099511627776)
else false then
         p (V.d (D.lit (Value.int IntKind.i64 2))) else
         (bif numB false (intOf (D.lit (Value.int IntKind.i64 (intOf (cellOf y 0)))))
  (intOf (D.lit (Value.int IntKind.i64 (intOf (cellOf y 1))))) then
          (FitE (eV y) ∧
          (bif numberE (eV y) != 0 then
           p (V.d (D.lit (Value.int IntKind.i64 (numberE (eV y))))) else
           ((1 = 1 ∧ ∀ (y_1 : D), y_1 ∈ seqD (cellOf y 7) → FitN y_1) ∧
           (bif namesE (seqD (cellOf y 7)) (intOf (cellOf y 0) == 4) != 0 then
            p (V.d (D.lit (Value.int IntKind.i64 (namesE (seqD (cellOf y 7)) (intOf (cellOf y 0) == 4))))) else
            (bif bif decide (intOf (cellOf y 9) < 0) then true else decide (intOf (cellOf y 9) > 2) then
             p (V.d (D.lit (Value.int IntKind.i64 8))) else
             ((4 = 4 ∧ ∀ (y_1 : D), y_1 ∈ seqD (cellOf y 10) → FitG y_1) ∧
             (bif stagesE (seqD (cellOf y 10)) != 0 then
              p (V.d (D.lit (Value.int IntKind.i64 (stagesE (seqD (cellOf y 10)))))) else
              (bif textB false (intOf (D.lit (Value.int IntKind.i64 (intOf (cellOf y 0)))))
  (intOf (D.lit (Value.int IntKind.i64 (intOf (cellOf y 1))))) then
               (FitE (eV y) ∧
               p (V.d (D.lit (Value.int IntKind.i64 (textE (eV y)))))) else
               p (V.d (D.lit (Value.int IntKind.i64 0))))))))))) else
          ((1 = 1 ∧ ∀ (y_1 : D), y_1 ∈ seqD (cellOf y 7) → FitN y_1) ∧
          (bif namesE (seqD (cellOf y 7)) (intOf (cellOf y 0) == 4) != 0 then
           p (V.d (D.lit (Value.int IntKind.i64 (namesE (seqD (cellOf y 7)) (intOf (cellOf y 0) == 4))))) else
           (bif bif decide (intOf (cellOf y 9) < 0) then true else decide (intOf (cellOf y 9) > 2) then
            p (V.d (D.lit (Value.int IntKind.i64 8))) else
            ((4 = 4 ∧ ∀ (y_1 : D), y_1 ∈ seqD (cellOf y 10) → FitG y_1) ∧
            (bif stagesE (seqD (cellOf y 10)) != 0 then
             p (V.d (D.lit (Value.int IntKind.i64 (stagesE (seqD (cellOf y 10)))))) else
             (bif textB false (intOf (D.lit (Value.int IntKind.i64 (intOf (cellOf y 0)))))
  (intOf (D.lit (Value.int IntKind.i64 (intOf (cellOf y 1))))) then
              (FitE (eV y) ∧
              p (V.d (D.lit (Value.int IntKind.i64 (textE (eV y)))))) else
              p (V.d (D.lit (Value.int IntKind.i64 0)))))))))))))))))) else
     (bif intOf (cellOf y 0) == 4 then
      (FitE (eV y) ∧
      (FitE (eV y) ∧
      (True ∧
      (bif bif
    !(butB (presB (eV y) 0) false == false &&
        (butB (presB (eV y) 1) false == false &&
          (butB (presB (eV y) 2)
                (numB false (intOf (D.lit (Value.int IntKind.i64 (intOf (cellOf y 0)))))
                  (intOf (D.lit (Value.int IntKind.i64 (intOf (cellOf y 1)))))) ==
              false &&
            (butB (presB (eV y) 3)
                  (textB false (intOf (D.lit (Value.int IntKind.i64 (intOf (cellOf y 0)))))
                    (intOf (D.lit (Value.int IntKind.i64 (intOf (cellOf y 1)))))) ==
                false &&
              (butB (presB (eV y) 4) false == false &&
                (butB (presB (eV y) 5) true == false &&
                  (butB (presB (eV y) 6) false == false &&
                    (butB (presB (eV y) 7) true == false &&
                      (butB (presB (eV y) 8) true == false &&
                        (butB (presB (eV y) 9) false == false && true)))))))))) then
  true
else (↑(seqD (cellOf y 15)).length : Int) != 0 then
       p (V.d (D.lit (Value.int IntKind.i64 1))) else
       (bif bif true then
  bif
      bif bif decide (intOf (cellOf y 3) < 1) then true else decide (intOf (cellOf y 3) > 1099511627776) then true
      else decide (intOf (cellOf y 4) < 0) then
    true
  else decide (intOf (cellOf y 4) > 1099511627776)
else false then
        p (V.d (D.lit (Value.int IntKind.i64 2))) else
        (bif numB false (intOf (D.lit (Value.int IntKind.i64 (intOf (cellOf y 0)))))
  (intOf (D.lit (Value.int IntKind.i64 (intOf (cellOf y 1))))) then
         (FitE (eV y) ∧
         (bif numberE (eV y) != 0 then
          p (V.d (D.lit (Value.int IntKind.i64 (numberE (eV y))))) else
          ((1 = 1 ∧ ∀ (y_1 : D), y_1 ∈ seqD (cellOf y 7) → FitN y_1) ∧
          (bif namesE (seqD (cellOf y 7)) (intOf (cellOf y 0) == 4) != 0 then
           p (V.d (D.lit (Value.int IntKind.i64 (namesE (seqD (cellOf y 7)) (intOf (cellOf y 0) == 4))))) else
           (bif bif decide (intOf (cellOf y 9) < 0) then true else decide (intOf (cellOf y 9) > 2) then
            p (V.d (D.lit (Value.int IntKind.i64 8))) else
            ((4 = 4 ∧ ∀ (y_1 : D), y_1 ∈ seqD (cellOf y 10) → FitG y_1) ∧
            (bif stagesE (seqD (cellOf y 10)) != 0 then
             p (V.d (D.lit (Value.int IntKind.i64 (stagesE (seqD (cellOf y 10)))))) else
             (FitP (paV y) ∧
             (bif patCheckE (paV y) != 0 then
              p (V.d (D.lit (Value.int IntKind.i64 (patCheckE (paV y))))) else
              (bif textB false (intOf (D.lit (Value.int IntKind.i64 (intOf (cellOf y 0)))))
  (intOf (D.lit (Value.int IntKind.i64 (intOf (cellOf y 1))))) then
               (FitE (eV y) ∧
               p (V.d (D.lit (Value.int IntKind.i64 (textE (eV y)))))) else
               p (V.d (D.lit (Value.int IntKind.i64 0))))))))))))) else
         ((1 = 1 ∧ ∀ (y_1 : D), y_1 ∈ seqD (cellOf y 7) → FitN y_1) ∧
         (bif namesE (seqD (cellOf y 7)) (intOf (cellOf y 0) == 4) != 0 then
          p (V.d (D.lit (Value.int IntKind.i64 (namesE (seqD (cellOf y 7)) (intOf (cellOf y 0) == 4))))) else
          (bif bif decide (intOf (cellOf y 9) < 0) then true else decide (intOf (cellOf y 9) > 2) then
           p (V.d (D.lit (Value.int IntKind.i64 8))) else
           ((4 = 4 ∧ ∀ (y_1 : D), y_1 ∈ seqD (cellOf y 10) → FitG y_1) ∧
           (bif stagesE (seqD (cellOf y 10)) != 0 then
            p (V.d (D.lit (Value.int IntKind.i64 (stagesE (seqD (cellOf y 10)))))) else
            (FitP (paV y) ∧
            (bif patCheckE (paV y) != 0 then
             p (V.d (D.lit (Value.int IntKind.i64 (patCheckE (paV y))))) else
             (bif textB false (intOf (D.lit (Value.int IntKind.i64 (intOf (cellOf y 0)))))
  (intOf (D.lit (Value.int IntKind.i64 (intOf (cellOf y 1))))) then
              (FitE (eV y) ∧
              p (V.d (D.lit (Value.int IntKind.i64 (textE (eV y)))))) else
              p (V.d (D.lit (Value.int IntKind.i64 0))))))))))))))))) else
      (bif intOf (cellOf y 0) == 5 then
       (FitE (eV y) ∧
       (FitE (eV y) ∧
       (True ∧
       (bif bif
    !(butB (presB (eV y) 0) false == false &&
        (butB (presB (eV y) 1) false == false &&
          (butB (presB (eV y) 2)
                (numB false (intOf (D.lit (Value.int IntKind.i64 (intOf (cellOf y 0)))))
                  (intOf (D.lit (Value.int IntKind.i64 (intOf (cellOf y 1)))))) ==
              false &&
            (butB (presB (eV y) 3)
                  (textB true (intOf (D.lit (Value.int IntKind.i64 (intOf (cellOf y 0)))))
                    (intOf (D.lit (Value.int IntKind.i64 (intOf (cellOf y 1)))))) ==
                false &&
              (butB (presB (eV y) 4) true == false &&
                (butB (presB (eV y) 5) false == false &&
                  (butB (presB (eV y) 6) false == false &&
                    (butB (presB (eV y) 7) true == false &&
                      (butB (presB (eV y) 8) true == false &&
                        (butB (presB (eV y) 9) true == false && true)))))))))) then
  true
else (↑(seqD (cellOf y 15)).length : Int) != 0 then
        p (V.d (D.lit (Value.int IntKind.i64 1))) else
        ((3 = 3 ∧ ∀ (y_1 : D), y_1 ∈ seqD (cellOf y 2) → FitM y_1) ∧
        (bif matchersE (seqD (cellOf y 2)) != 0 then
         p (V.d (D.lit (Value.int IntKind.i64 (matchersE (seqD (cellOf y 2)))))) else
         (bif bif true then
  bif
      bif bif decide (intOf (cellOf y 3) < 1) then true else decide (intOf (cellOf y 3) > 1099511627776) then true
      else decide (intOf (cellOf y 4) < 0) then
    true
  else decide (intOf (cellOf y 4) > 1099511627776)
else false then
          p (V.d (D.lit (Value.int IntKind.i64 2))) else
          (bif numB false (intOf (D.lit (Value.int IntKind.i64 (intOf (cellOf y 0)))))
  (intOf (D.lit (Value.int IntKind.i64 (intOf (cellOf y 1))))) then
           (FitE (eV y) ∧
           (bif numberE (eV y) != 0 then
            p (V.d (D.lit (Value.int IntKind.i64 (numberE (eV y))))) else
            ((1 = 1 ∧ ∀ (y_1 : D), y_1 ∈ seqD (cellOf y 7) → FitN y_1) ∧
            (bif namesE (seqD (cellOf y 7)) (intOf (cellOf y 0) == 4) != 0 then
             p (V.d (D.lit (Value.int IntKind.i64 (namesE (seqD (cellOf y 7)) (intOf (cellOf y 0) == 4))))) else
             (bif bif decide (intOf (cellOf y 9) < 0) then true else decide (intOf (cellOf y 9) > 2) then
              p (V.d (D.lit (Value.int IntKind.i64 8))) else
              ((4 = 4 ∧ ∀ (y_1 : D), y_1 ∈ seqD (cellOf y 10) → FitG y_1) ∧
              (bif stagesE (seqD (cellOf y 10)) != 0 then
               p (V.d (D.lit (Value.int IntKind.i64 (stagesE (seqD (cellOf y 10)))))) else
               (bif textB true (intOf (D.lit (Value.int IntKind.i64 (intOf (cellOf y 0)))))
  (intOf (D.lit (Value.int IntKind.i64 (intOf (cellOf y 1))))) then
                (FitE (eV y) ∧
                p (V.d (D.lit (Value.int IntKind.i64 (textE (eV y)))))) else
                p (V.d (D.lit (Value.int IntKind.i64 0))))))))))) else
           ((1 = 1 ∧ ∀ (y_1 : D), y_1 ∈ seqD (cellOf y 7) → FitN y_1) ∧
           (bif namesE (seqD (cellOf y 7)) (intOf (cellOf y 0) == 4) != 0 then
            p (V.d (D.lit (Value.int IntKind.i64 (namesE (seqD (cellOf y 7)) (intOf (cellOf y 0) == 4))))) else
            (bif bif decide (intOf (cellOf y 9) < 0) then true else decide (intOf (cellOf y 9) > 2) then
             p (V.d (D.lit (Value.int IntKind.i64 8))) else
             ((4 = 4 ∧ ∀ (y_1 : D), y_1 ∈ seqD (cellOf y 10) → FitG y_1) ∧
             (bif stagesE (seqD (cellOf y 10)) != 0 then
              p (V.d (D.lit (Value.int IntKind.i64 (stagesE (seqD (cellOf y 10)))))) else
              (bif textB true (intOf (D.lit (Value.int IntKind.i64 (intOf (cellOf y 0)))))
  (intOf (D.lit (Value.int IntKind.i64 (intOf (cellOf y 1))))) then
               (FitE (eV y) ∧
               p (V.d (D.lit (Value.int IntKind.i64 (textE (eV y)))))) else
               p (V.d (D.lit (Value.int IntKind.i64 0))))))))))))))))) else
       (bif intOf (cellOf y 0) == 6 then
        (bif bif true then bif decide (intOf (cellOf y 1) < 1) then true else decide (intOf (cellOf y 1) > (↑9 : Int)) else false then
         p (V.d (D.lit (Value.int IntKind.i64 8))) else
         (FitE (eV y) ∧
         (FitE (eV y) ∧
         (True ∧
         (bif bif
    !(butB (presB (eV y) 0) true == false &&
        (butB (presB (eV y) 1) false == false &&
          (butB (presB (eV y) 2)
                (numB false (intOf (D.lit (Value.int IntKind.i64 (intOf (cellOf y 0)))))
                  (intOf (D.lit (Value.int IntKind.i64 (intOf (cellOf y 1)))))) ==
              false &&
            (butB (presB (eV y) 3)
                  (textB false (intOf (D.lit (Value.int IntKind.i64 (intOf (cellOf y 0)))))
                    (intOf (D.lit (Value.int IntKind.i64 (intOf (cellOf y 1)))))) ==
                false &&
              (butB (presB (eV y) 4) false == false &&
                (butB (presB (eV y) 5) false == false &&
                  (butB (presB (eV y) 6) false == false &&
                    (butB (presB (eV y) 7) false == false &&
                      (butB (presB (eV y) 8) true == false &&
                        (butB (presB (eV y) 9) true == false && true)))))))))) then
  true
else (↑(seqD (cellOf y 15)).length : Int) != 1 then
          p (V.d (D.lit (Value.int IntKind.i64 1))) else
          (bif numB false (intOf (D.lit (Value.int IntKind.i64 (intOf (cellOf y 0)))))
  (intOf (D.lit (Value.int IntKind.i64 (intOf (cellOf y 1))))) then
           (FitE (eV y) ∧
           (bif numberE (eV y) != 0 then
            p (V.d (D.lit (Value.int IntKind.i64 (numberE (eV y))))) else
            ((1 = 1 ∧ ∀ (y_1 : D), y_1 ∈ seqD (cellOf y 7) → FitN y_1) ∧
            (bif namesE (seqD (cellOf y 7)) (intOf (cellOf y 0) == 4) != 0 then
             p (V.d (D.lit (Value.int IntKind.i64 (namesE (seqD (cellOf y 7)) (intOf (cellOf y 0) == 4))))) else
             (bif bif decide (intOf (cellOf y 9) < 0) then true else decide (intOf (cellOf y 9) > 2) then
              p (V.d (D.lit (Value.int IntKind.i64 8))) else
              ((4 = 4 ∧ ∀ (y_1 : D), y_1 ∈ seqD (cellOf y 10) → FitG y_1) ∧
              (bif stagesE (seqD (cellOf y 10)) != 0 then
               p (V.d (D.lit (Value.int IntKind.i64 (stagesE (seqD (cellOf y 10)))))) else
               (bif textB false (intOf (D.lit (Value.int IntKind.i64 (intOf (cellOf y 0)))))
  (intOf (D.lit (Value.int IntKind.i64 (intOf (cellOf y 1))))) then
                (FitE (eV y) ∧
                p (V.d (D.lit (Value.int IntKind.i64 (textE (eV y)))))) else
                p (V.d (D.lit (Value.int IntKind.i64 0))))))))))) else
           ((1 = 1 ∧ ∀ (y_1 : D), y_1 ∈ seqD (cellOf y 7) → FitN y_1) ∧
           (bif namesE (seqD (cellOf y 7)) (intOf (cellOf y 0) == 4) != 0 then
            p (V.d (D.lit (Value.int IntKind.i64 (namesE (seqD (cellOf y 7)) (intOf (cellOf y 0) == 4))))) else
            (bif bif decide (intOf (cellOf y 9) < 0) then true else decide (intOf (cellOf y 9) > 2) then
             p (V.d (D.lit (Value.int IntKind.i64 8))) else
             ((4 = 4 ∧ ∀ (y_1 : D), y_1 ∈ seqD (cellOf y 10) → FitG y_1) ∧
             (bif stagesE (seqD (cellOf y 10)) != 0 then
              p (V.d (D.lit (Value.int IntKind.i64 (stagesE (seqD (cellOf y 10)))))) else
              (bif textB false (intOf (D.lit (Value.int IntKind.i64 (intOf (cellOf y 0)))))
  (intOf (D.lit (Value.int IntKind.i64 (intOf (cellOf y 1))))) then
               (FitE (eV y) ∧
               p (V.d (D.lit (Value.int IntKind.i64 (textE (eV y)))))) else
               p (V.d (D.lit (Value.int IntKind.i64 0))))))))))))))) else
        (bif intOf (cellOf y 0) == 7 then
         (bif bif true then bif decide (intOf (cellOf y 1) < 1) then true else decide (intOf (cellOf y 1) > (↑10 : Int)) else false then
          p (V.d (D.lit (Value.int IntKind.i64 8))) else
          (FitE (eV y) ∧
          (FitE (eV y) ∧
          (True ∧
          (bif bif
    !(butB (presB (eV y) 0) true == false &&
        (butB (presB (eV y) 1) true == false &&
          (butB (presB (eV y) 2)
                (numB false (intOf (D.lit (Value.int IntKind.i64 (intOf (cellOf y 0)))))
                  (intOf (D.lit (Value.int IntKind.i64 (intOf (cellOf y 1)))))) ==
              false &&
            (butB (presB (eV y) 3)
                  (textB false (intOf (D.lit (Value.int IntKind.i64 (intOf (cellOf y 0)))))
                    (intOf (D.lit (Value.int IntKind.i64 (intOf (cellOf y 1)))))) ==
                false &&
              (butB (presB (eV y) 4) false == false &&
                (butB (presB (eV y) 5) false == false &&
                  (butB (presB (eV y) 6) false == false &&
                    (butB (presB (eV y) 7) false == false &&
                      (butB (presB (eV y) 8) true == false &&
                        (butB (presB (eV y) 9) true == false && true)))))))))) then
  true
else (↑(seqD (cellOf y 15)).length : Int) != 2 then
           p (V.d (D.lit (Value.int IntKind.i64 1))) else
           (bif numB false (intOf (D.lit (Value.int IntKind.i64 (intOf (cellOf y 0)))))
  (intOf (D.lit (Value.int IntKind.i64 (intOf (cellOf y 1))))) then
            (FitE (eV y) ∧
            (bif numberE (eV y) != 0 then
             p (V.d (D.lit (Value.int IntKind.i64 (numberE (eV y))))) else
             ((1 = 1 ∧ ∀ (y_1 : D), y_1 ∈ seqD (cellOf y 7) → FitN y_1) ∧
             (bif namesE (seqD (cellOf y 7)) (intOf (cellOf y 0) == 4) != 0 then
              p (V.d (D.lit (Value.int IntKind.i64 (namesE (seqD (cellOf y 7)) (intOf (cellOf y 0) == 4))))) else
              (bif bif decide (intOf (cellOf y 9) < 0) then true else decide (intOf (cellOf y 9) > 2) then
               p (V.d (D.lit (Value.int IntKind.i64 8))) else
               ((4 = 4 ∧ ∀ (y_1 : D), y_1 ∈ seqD (cellOf y 10) → FitG y_1) ∧
               (bif stagesE (seqD (cellOf y 10)) != 0 then
                p (V.d (D.lit (Value.int IntKind.i64 (stagesE (seqD (cellOf y 10)))))) else
                (bif textB false (intOf (D.lit (Value.int IntKind.i64 (intOf (cellOf y 0)))))
  (intOf (D.lit (Value.int IntKind.i64 (intOf (cellOf y 1))))) then
                 (FitE (eV y) ∧
                 p (V.d (D.lit (Value.int IntKind.i64 (textE (eV y)))))) else
                 p (V.d (D.lit (Value.int IntKind.i64 0))))))))))) else
            ((1 = 1 ∧ ∀ (y_1 : D), y_1 ∈ seqD (cellOf y 7) → FitN y_1) ∧
            (bif namesE (seqD (cellOf y 7)) (intOf (cellOf y 0) == 4) != 0 then
             p (V.d (D.lit (Value.int IntKind.i64 (namesE (seqD (cellOf y 7)) (intOf (cellOf y 0) == 4))))) else
             (bif bif decide (intOf (cellOf y 9) < 0) then true else decide (intOf (cellOf y 9) > 2) then
              p (V.d (D.lit (Value.int IntKind.i64 8))) else
              ((4 = 4 ∧ ∀ (y_1 : D), y_1 ∈ seqD (cellOf y 10) → FitG y_1) ∧
              (bif stagesE (seqD (cellOf y 10)) != 0 then
               p (V.d (D.lit (Value.int IntKind.i64 (stagesE (seqD (cellOf y 10)))))) else
               (bif textB false (intOf (D.lit (Value.int IntKind.i64 (intOf (cellOf y 0)))))
  (intOf (D.lit (Value.int IntKind.i64 (intOf (cellOf y 1))))) then
                (FitE (eV y) ∧
                p (V.d (D.lit (Value.int IntKind.i64 (textE (eV y)))))) else
                p (V.d (D.lit (Value.int IntKind.i64 0))))))))))))))) else
         (bif intOf (cellOf y 0) == 8 then
          (FitE (eV y) ∧
          (FitE (eV y) ∧
          (True ∧
          (bif bif
    !(butB (presB (eV y) 0) false == false &&
        (butB (presB (eV y) 1) false == false &&
          (butB (presB (eV y) 2)
                (numB false (intOf (D.lit (Value.int IntKind.i64 (intOf (cellOf y 0)))))
                  (intOf (D.lit (Value.int IntKind.i64 (intOf (cellOf y 1)))))) ==
              false &&
            (butB (presB (eV y) 3)
                  (textB false (intOf (D.lit (Value.int IntKind.i64 (intOf (cellOf y 0)))))
                    (intOf (D.lit (Value.int IntKind.i64 (intOf (cellOf y 1)))))) ==
                false &&
              (butB (presB (eV y) 4) true == false &&
                (butB (presB (eV y) 5) false == false &&
                  (butB (presB (eV y) 6) true == false &&
                    (butB (presB (eV y) 7) true == false &&
                      (butB (presB (eV y) 8) false == false &&
                        (butB (presB (eV y) 9) false == false && true)))))))))) then
  true
else (↑(seqD (cellOf y 15)).length : Int) != 0 then
           p (V.d (D.lit (Value.int IntKind.i64 1))) else
           ((3 = 3 ∧ ∀ (y_1 : D), y_1 ∈ seqD (cellOf y 2) → FitM y_1) ∧
           (bif matchersE (seqD (cellOf y 2)) != 0 then
            p (V.d (D.lit (Value.int IntKind.i64 (matchersE (seqD (cellOf y 2)))))) else
            (bif bif true then
  bif
      bif bif decide (intOf (cellOf y 3) < 1) then true else decide (intOf (cellOf y 3) > 1099511627776) then true
      else decide (intOf (cellOf y 4) < 0) then
    true
  else decide (intOf (cellOf y 4) > 1099511627776)
else false then
             p (V.d (D.lit (Value.int IntKind.i64 2))) else
             (bif numB false (intOf (D.lit (Value.int IntKind.i64 (intOf (cellOf y 0)))))
  (intOf (D.lit (Value.int IntKind.i64 (intOf (cellOf y 1))))) then
              (FitE (eV y) ∧
              (bif numberE (eV y) != 0 then
               p (V.d (D.lit (Value.int IntKind.i64 (numberE (eV y))))) else
               ((1 = 1 ∧ ∀ (y_1 : D), y_1 ∈ seqD (cellOf y 7) → FitN y_1) ∧
               (bif namesE (seqD (cellOf y 7)) (intOf (cellOf y 0) == 4) != 0 then
                p (V.d (D.lit (Value.int IntKind.i64 (namesE (seqD (cellOf y 7)) (intOf (cellOf y 0) == 4))))) else
                (bif bif decide (intOf (cellOf y 9) < 0) then true else decide (intOf (cellOf y 9) > 2) then
                 p (V.d (D.lit (Value.int IntKind.i64 8))) else
                 ((4 = 4 ∧ ∀ (y_1 : D), y_1 ∈ seqD (cellOf y 10) → FitG y_1) ∧
                 (bif stagesE (seqD (cellOf y 10)) != 0 then
                  p (V.d (D.lit (Value.int IntKind.i64 (stagesE (seqD (cellOf y 10)))))) else
                  (bif textB false (intOf (D.lit (Value.int IntKind.i64 (intOf (cellOf y 0)))))
  (intOf (D.lit (Value.int IntKind.i64 (intOf (cellOf y 1))))) then
                   (FitE (eV y) ∧
                   p (V.d (D.lit (Value.int IntKind.i64 (textE (eV y)))))) else
                   p (V.d (D.lit (Value.int IntKind.i64 0))))))))))) else
              ((1 = 1 ∧ ∀ (y_1 : D), y_1 ∈ seqD (cellOf y 7) → FitN y_1) ∧
              (bif namesE (seqD (cellOf y 7)) (intOf (cellOf y 0) == 4) != 0 then
               p (V.d (D.lit (Value.int IntKind.i64 (namesE (seqD (cellOf y 7)) (intOf (cellOf y 0) == 4))))) else
               (bif bif decide (intOf (cellOf y 9) < 0) then true else decide (intOf (cellOf y 9) > 2) then
                p (V.d (D.lit (Value.int IntKind.i64 8))) else
                ((4 = 4 ∧ ∀ (y_1 : D), y_1 ∈ seqD (cellOf y 10) → FitG y_1) ∧
                (bif stagesE (seqD (cellOf y 10)) != 0 then
                 p (V.d (D.lit (Value.int IntKind.i64 (stagesE (seqD (cellOf y 10)))))) else
                 (bif textB false (intOf (D.lit (Value.int IntKind.i64 (intOf (cellOf y 0)))))
  (intOf (D.lit (Value.int IntKind.i64 (intOf (cellOf y 1))))) then
                  (FitE (eV y) ∧
                  p (V.d (D.lit (Value.int IntKind.i64 (textE (eV y)))))) else
                  p (V.d (D.lit (Value.int IntKind.i64 0))))))))))))))))) else
          (bif intOf (cellOf y 0) == 9 then
           (FitE (eV y) ∧
           (FitE (eV y) ∧
           (True ∧
           (bif bif
    !(butB (presB (eV y) 0) false == false &&
        (butB (presB (eV y) 1) false == false &&
          (butB (presB (eV y) 2)
                (numB false (intOf (D.lit (Value.int IntKind.i64 (intOf (cellOf y 0)))))
                  (intOf (D.lit (Value.int IntKind.i64 (intOf (cellOf y 1)))))) ==
              false &&
            (butB (presB (eV y) 3)
                  (textB false (intOf (D.lit (Value.int IntKind.i64 (intOf (cellOf y 0)))))
                    (intOf (D.lit (Value.int IntKind.i64 (intOf (cellOf y 1)))))) ==
                false &&
              (butB (presB (eV y) 4) false == false &&
                (butB (presB (eV y) 5) true == false &&
                  (butB (presB (eV y) 6) false == false &&
                    (butB (presB (eV y) 7) true == false &&
                      (butB (presB (eV y) 8) false == false &&
                        (butB (presB (eV y) 9) false == false && true)))))))))) then
  true
else (↑(seqD (cellOf y 15)).length : Int) != 0 then
            p (V.d (D.lit (Value.int IntKind.i64 1))) else
            (bif bif true then
  bif
      bif bif decide (intOf (cellOf y 3) < 1) then true else decide (intOf (cellOf y 3) > 1099511627776) then true
      else decide (intOf (cellOf y 4) < 0) then
    true
  else decide (intOf (cellOf y 4) > 1099511627776)
else false then
             p (V.d (D.lit (Value.int IntKind.i64 2))) else
             (bif numB false (intOf (D.lit (Value.int IntKind.i64 (intOf (cellOf y 0)))))
  (intOf (D.lit (Value.int IntKind.i64 (intOf (cellOf y 1))))) then
              (FitE (eV y) ∧
              (bif numberE (eV y) != 0 then
               p (V.d (D.lit (Value.int IntKind.i64 (numberE (eV y))))) else
               ((1 = 1 ∧ ∀ (y_1 : D), y_1 ∈ seqD (cellOf y 7) → FitN y_1) ∧
               (bif namesE (seqD (cellOf y 7)) (intOf (cellOf y 0) == 4) != 0 then
                p (V.d (D.lit (Value.int IntKind.i64 (namesE (seqD (cellOf y 7)) (intOf (cellOf y 0) == 4))))) else
                (bif bif decide (intOf (cellOf y 9) < 0) then true else decide (intOf (cellOf y 9) > 2) then
                 p (V.d (D.lit (Value.int IntKind.i64 8))) else
                 ((4 = 4 ∧ ∀ (y_1 : D), y_1 ∈ seqD (cellOf y 10) → FitG y_1) ∧
                 (bif stagesE (seqD (cellOf y 10)) != 0 then
                  p (V.d (D.lit (Value.int IntKind.i64 (stagesE (seqD (cellOf y 10)))))) else
                  (FitP (paV y) ∧
                  (bif patCheckE (paV y) != 0 then
                   p (V.d (D.lit (Value.int IntKind.i64 (patCheckE (paV y))))) else
                   (bif textB false (intOf (D.lit (Value.int IntKind.i64 (intOf (cellOf y 0)))))
  (intOf (D.lit (Value.int IntKind.i64 (intOf (cellOf y 1))))) then
                    (FitE (eV y) ∧
                    p (V.d (D.lit (Value.int IntKind.i64 (textE (eV y)))))) else
                    p (V.d (D.lit (Value.int IntKind.i64 0))))))))))))) else
              ((1 = 1 ∧ ∀ (y_1 : D), y_1 ∈ seqD (cellOf y 7) → FitN y_1) ∧
              (bif namesE (seqD (cellOf y 7)) (intOf (cellOf y 0) == 4) != 0 then
               p (V.d (D.lit (Value.int IntKind.i64 (namesE (seqD (cellOf y 7)) (intOf (cellOf y 0) == 4))))) else
               (bif bif decide (intOf (cellOf y 9) < 0) then true else decide (intOf (cellOf y 9) > 2) then
                p (V.d (D.lit (Value.int IntKind.i64 8))) else
                ((4 = 4 ∧ ∀ (y_1 : D), y_1 ∈ seqD (cellOf y 10) → FitG y_1) ∧
                (bif stagesE (seqD (cellOf y 10)) != 0 then
                 p (V.d (D.lit (Value.int IntKind.i64 (stagesE (seqD (cellOf y 10)))))) else
                 (FitP (paV y) ∧
                 (bif patCheckE (paV y) != 0 then
                  p (V.d (D.lit (Value.int IntKind.i64 (patCheckE (paV y))))) else
                  (bif textB false (intOf (D.lit (Value.int IntKind.i64 (intOf (cellOf y 0)))))
  (intOf (D.lit (Value.int IntKind.i64 (intOf (cellOf y 1))))) then
                   (FitE (eV y) ∧
                   p (V.d (D.lit (Value.int IntKind.i64 (textE (eV y)))))) else
                   p (V.d (D.lit (Value.int IntKind.i64 0))))))))))))))))) else
           (bif intOf (cellOf y 0) == 10 then
            (FitE (eV y) ∧
            (FitE (eV y) ∧
            (True ∧
            (bif bif
    !(butB (presB (eV y) 0) false == false &&
        (butB (presB (eV y) 1) false == false &&
          (butB (presB (eV y) 2)
                (numB false (intOf (D.lit (Value.int IntKind.i64 (intOf (cellOf y 0)))))
                  (intOf (D.lit (Value.int IntKind.i64 (intOf (cellOf y 1)))))) ==
              false &&
            (butB (presB (eV y) 3)
                  (textB false (intOf (D.lit (Value.int IntKind.i64 (intOf (cellOf y 0)))))
                    (intOf (D.lit (Value.int IntKind.i64 (intOf (cellOf y 1)))))) ==
                false &&
              (butB (presB (eV y) 4) true == false &&
                (butB (presB (eV y) 5) false == false &&
                  (butB (presB (eV y) 6) false == false &&
                    (butB (presB (eV y) 7) true == false &&
                      (butB (presB (eV y) 8) false == false &&
                        (butB (presB (eV y) 9) false == false && true)))))))))) then
  true
else (↑(seqD (cellOf y 15)).length : Int) != 0 then
             p (V.d (D.lit (Value.int IntKind.i64 1))) else
             ((3 = 3 ∧ ∀ (y_1 : D), y_1 ∈ seqD (cellOf y 2) → FitM y_1) ∧
             (bif matchersE (seqD (cellOf y 2)) != 0 then
              p (V.d (D.lit (Value.int IntKind.i64 (matchersE (seqD (cellOf y 2)))))) else
              (bif bif true then
  bif
      bif bif decide (intOf (cellOf y 3) < 1) then true else decide (intOf (cellOf y 3) > 1099511627776) then true
      else decide (intOf (cellOf y 4) < 0) then
    true
  else decide (intOf (cellOf y 4) > 1099511627776)
else false then
               p (V.d (D.lit (Value.int IntKind.i64 2))) else
               (bif numB false (intOf (D.lit (Value.int IntKind.i64 (intOf (cellOf y 0)))))
  (intOf (D.lit (Value.int IntKind.i64 (intOf (cellOf y 1))))) then
                (FitE (eV y) ∧
                (bif numberE (eV y) != 0 then
                 p (V.d (D.lit (Value.int IntKind.i64 (numberE (eV y))))) else
                 ((1 = 1 ∧ ∀ (y_1 : D), y_1 ∈ seqD (cellOf y 7) → FitN y_1) ∧
                 (bif namesE (seqD (cellOf y 7)) (intOf (cellOf y 0) == 4) != 0 then
                  p (V.d (D.lit (Value.int IntKind.i64 (namesE (seqD (cellOf y 7)) (intOf (cellOf y 0) == 4))))) else
                  (bif bif decide (intOf (cellOf y 9) < 0) then true else decide (intOf (cellOf y 9) > 2) then
                   p (V.d (D.lit (Value.int IntKind.i64 8))) else
                   ((4 = 4 ∧ ∀ (y_1 : D), y_1 ∈ seqD (cellOf y 10) → FitG y_1) ∧
                   (bif stagesE (seqD (cellOf y 10)) != 0 then
                    p (V.d (D.lit (Value.int IntKind.i64 (stagesE (seqD (cellOf y 10)))))) else
                    (bif textB false (intOf (D.lit (Value.int IntKind.i64 (intOf (cellOf y 0)))))
  (intOf (D.lit (Value.int IntKind.i64 (intOf (cellOf y 1))))) then
                     (FitE (eV y) ∧
                     p (V.d (D.lit (Value.int IntKind.i64 (textE (eV y)))))) else
                     p (V.d (D.lit (Value.int IntKind.i64 0))))))))))) else
                ((1 = 1 ∧ ∀ (y_1 : D), y_1 ∈ seqD (cellOf y 7) → FitN y_1) ∧
                (bif namesE (seqD (cellOf y 7)) (intOf (cellOf y 0) == 4) != 0 then
                 p (V.d (D.lit (Value.int IntKind.i64 (namesE (seqD (cellOf y 7)) (intOf (cellOf y 0) == 4))))) else
                 (bif bif decide (intOf (cellOf y 9) < 0) then true else decide (intOf (cellOf y 9) > 2) then
                  p (V.d (D.lit (Value.int IntKind.i64 8))) else
                  ((4 = 4 ∧ ∀ (y_1 : D), y_1 ∈ seqD (cellOf y 10) → FitG y_1) ∧
                  (bif stagesE (seqD (cellOf y 10)) != 0 then
                   p (V.d (D.lit (Value.int IntKind.i64 (stagesE (seqD (cellOf y 10)))))) else
                   (bif textB false (intOf (D.lit (Value.int IntKind.i64 (intOf (cellOf y 0)))))
  (intOf (D.lit (Value.int IntKind.i64 (intOf (cellOf y 1))))) then
                    (FitE (eV y) ∧
                    p (V.d (D.lit (Value.int IntKind.i64 (textE (eV y)))))) else
                    p (V.d (D.lit (Value.int IntKind.i64 0))))))))))))))))) else
            (bif intOf (cellOf y 0) == 11 then
             (FitE (eV y) ∧
             (FitE (eV y) ∧
             (True ∧
             (bif bif
    !(butB (presB (eV y) 0) false == false &&
        (butB (presB (eV y) 1) false == false &&
          (butB (presB (eV y) 2)
                (numB false (intOf (D.lit (Value.int IntKind.i64 (intOf (cellOf y 0)))))
                  (intOf (D.lit (Value.int IntKind.i64 (intOf (cellOf y 1)))))) ==
              false &&
            (butB (presB (eV y) 3)
                  (textB false (intOf (D.lit (Value.int IntKind.i64 (intOf (cellOf y 0)))))
                    (intOf (D.lit (Value.int IntKind.i64 (intOf (cellOf y 1)))))) ==
                false &&
              (butB (presB (eV y) 4) true == false &&
                (butB (presB (eV y) 5) false == false &&
                  (butB (presB (eV y) 6) false == false &&
                    (butB (presB (eV y) 7) true == false &&
                      (butB (presB (eV y) 8) false == false &&
                        (butB (presB (eV y) 9) false == false && true)))))))))) then
  true
else (↑(seqD (cellOf y 15)).length : Int) != 0 then
              p (V.d (D.lit (Value.int IntKind.i64 1))) else
              ((3 = 3 ∧ ∀ (y_1 : D), y_1 ∈ seqD (cellOf y 2) → FitM y_1) ∧
              (bif matchersE (seqD (cellOf y 2)) != 0 then
               p (V.d (D.lit (Value.int IntKind.i64 (matchersE (seqD (cellOf y 2)))))) else
               (bif bif true then
  bif
      bif bif decide (intOf (cellOf y 3) < 1) then true else decide (intOf (cellOf y 3) > 1099511627776) then true
      else decide (intOf (cellOf y 4) < 0) then
    true
  else decide (intOf (cellOf y 4) > 1099511627776)
else false then
                p (V.d (D.lit (Value.int IntKind.i64 2))) else
                (bif numB false (intOf (D.lit (Value.int IntKind.i64 (intOf (cellOf y 0)))))
  (intOf (D.lit (Value.int IntKind.i64 (intOf (cellOf y 1))))) then
                 (FitE (eV y) ∧
                 (bif numberE (eV y) != 0 then
                  p (V.d (D.lit (Value.int IntKind.i64 (numberE (eV y))))) else
                  ((1 = 1 ∧ ∀ (y_1 : D), y_1 ∈ seqD (cellOf y 7) → FitN y_1) ∧
                  (bif namesE (seqD (cellOf y 7)) (intOf (cellOf y 0) == 4) != 0 then
                   p (V.d (D.lit (Value.int IntKind.i64 (namesE (seqD (cellOf y 7)) (intOf (cellOf y 0) == 4))))) else
                   (bif bif decide (intOf (cellOf y 9) < 0) then true else decide (intOf (cellOf y 9) > 2) then
                    p (V.d (D.lit (Value.int IntKind.i64 8))) else
                    ((4 = 4 ∧ ∀ (y_1 : D), y_1 ∈ seqD (cellOf y 10) → FitG y_1) ∧
                    (bif stagesE (seqD (cellOf y 10)) != 0 then
                     p (V.d (D.lit (Value.int IntKind.i64 (stagesE (seqD (cellOf y 10)))))) else
                     (bif textB false (intOf (D.lit (Value.int IntKind.i64 (intOf (cellOf y 0)))))
  (intOf (D.lit (Value.int IntKind.i64 (intOf (cellOf y 1))))) then
                      (FitE (eV y) ∧
                      p (V.d (D.lit (Value.int IntKind.i64 (textE (eV y)))))) else
                      p (V.d (D.lit (Value.int IntKind.i64 0))))))))))) else
                 ((1 = 1 ∧ ∀ (y_1 : D), y_1 ∈ seqD (cellOf y 7) → FitN y_1) ∧
                 (bif namesE (seqD (cellOf y 7)) (intOf (cellOf y 0) == 4) != 0 then
                  p (V.d (D.lit (Value.int IntKind.i64 (namesE (seqD (cellOf y 7)) (intOf (cellOf y 0) == 4))))) else
                  (bif bif decide (intOf (cellOf y 9) < 0) then true else decide (intOf (cellOf y 9) > 2) then
                   p (V.d (D.lit (Value.int IntKind.i64 8))) else
                   ((4 = 4 ∧ ∀ (y_1 : D), y_1 ∈ seqD (cellOf y 10) → FitG y_1) ∧
                   (bif stagesE (seqD (cellOf y 10)) != 0 then
                    p (V.d (D.lit (Value.int IntKind.i64 (stagesE (seqD (cellOf y 10)))))) else
                    (bif textB false (intOf (D.lit (Value.int IntKind.i64 (intOf (cellOf y 0)))))
  (intOf (D.lit (Value.int IntKind.i64 (intOf (cellOf y 1))))) then
                     (FitE (eV y) ∧
                     p (V.d (D.lit (Value.int IntKind.i64 (textE (eV y)))))) else
                     p (V.d (D.lit (Value.int IntKind.i64 0))))))))))))))))) else
             (bif intOf (cellOf y 0) == 12 then
              (FitE (eV y) ∧
              (FitE (eV y) ∧
              (True ∧
              (bif bif
    !(butB (presB (eV y) 0) false == false &&
        (butB (presB (eV y) 1) false == false &&
          (butB (presB (eV y) 2)
                (numB false (intOf (D.lit (Value.int IntKind.i64 (intOf (cellOf y 0)))))
                  (intOf (D.lit (Value.int IntKind.i64 (intOf (cellOf y 1)))))) ==
              false &&
            (butB (presB (eV y) 3)
                  (textB false (intOf (D.lit (Value.int IntKind.i64 (intOf (cellOf y 0)))))
                    (intOf (D.lit (Value.int IntKind.i64 (intOf (cellOf y 1)))))) ==
                false &&
              (butB (presB (eV y) 4) true == false &&
                (butB (presB (eV y) 5) false == false &&
                  (butB (presB (eV y) 6) true == false &&
                    (butB (presB (eV y) 7) true == false &&
                      (butB (presB (eV y) 8) false == false &&
                        (butB (presB (eV y) 9) false == false && true)))))))))) then
  true
else (↑(seqD (cellOf y 15)).length : Int) != 1 then
               p (V.d (D.lit (Value.int IntKind.i64 1))) else
               ((3 = 3 ∧ ∀ (y_1 : D), y_1 ∈ seqD (cellOf y 2) → FitM y_1) ∧
               (bif matchersE (seqD (cellOf y 2)) != 0 then
                p (V.d (D.lit (Value.int IntKind.i64 (matchersE (seqD (cellOf y 2)))))) else
                (bif bif true then
  bif
      bif bif decide (intOf (cellOf y 3) < 1) then true else decide (intOf (cellOf y 3) > 1099511627776) then true
      else decide (intOf (cellOf y 4) < 0) then
    true
  else decide (intOf (cellOf y 4) > 1099511627776)
else false then
                 p (V.d (D.lit (Value.int IntKind.i64 2))) else
                 (bif numB false (intOf (D.lit (Value.int IntKind.i64 (intOf (cellOf y 0)))))
  (intOf (D.lit (Value.int IntKind.i64 (intOf (cellOf y 1))))) then
                  (FitE (eV y) ∧
                  (bif numberE (eV y) != 0 then
                   p (V.d (D.lit (Value.int IntKind.i64 (numberE (eV y))))) else
                   ((1 = 1 ∧ ∀ (y_1 : D), y_1 ∈ seqD (cellOf y 7) → FitN y_1) ∧
                   (bif namesE (seqD (cellOf y 7)) (intOf (cellOf y 0) == 4) != 0 then
                    p (V.d (D.lit (Value.int IntKind.i64 (namesE (seqD (cellOf y 7)) (intOf (cellOf y 0) == 4))))) else
                    (bif bif decide (intOf (cellOf y 9) < 0) then true else decide (intOf (cellOf y 9) > 2) then
                     p (V.d (D.lit (Value.int IntKind.i64 8))) else
                     ((4 = 4 ∧ ∀ (y_1 : D), y_1 ∈ seqD (cellOf y 10) → FitG y_1) ∧
                     (bif stagesE (seqD (cellOf y 10)) != 0 then
                      p (V.d (D.lit (Value.int IntKind.i64 (stagesE (seqD (cellOf y 10)))))) else
                      (bif textB false (intOf (D.lit (Value.int IntKind.i64 (intOf (cellOf y 0)))))
  (intOf (D.lit (Value.int IntKind.i64 (intOf (cellOf y 1))))) then
                       (FitE (eV y) ∧
                       p (V.d (D.lit (Value.int IntKind.i64 (textE (eV y)))))) else
                       p (V.d (D.lit (Value.int IntKind.i64 0))))))))))) else
                  ((1 = 1 ∧ ∀ (y_1 : D), y_1 ∈ seqD (cellOf y 7) → FitN y_1) ∧
                  (bif namesE (seqD (cellOf y 7)) (intOf (cellOf y 0) == 4) != 0 then
                   p (V.d (D.lit (Value.int IntKind.i64 (namesE (seqD (cellOf y 7)) (intOf (cellOf y 0) == 4))))) else
                   (bif bif decide (intOf (cellOf y 9) < 0) then true else decide (intOf (cellOf y 9) > 2) then
                    p (V.d (D.lit (Value.int IntKind.i64 8))) else
                    ((4 = 4 ∧ ∀ (y_1 : D), y_1 ∈ seqD (cellOf y 10) → FitG y_1) ∧
                    (bif stagesE (seqD (cellOf y 10)) != 0 then
                     p (V.d (D.lit (Value.int IntKind.i64 (stagesE (seqD (cellOf y 10)))))) else
                     (bif textB false (intOf (D.lit (Value.int IntKind.i64 (intOf (cellOf y 0)))))
  (intOf (D.lit (Value.int IntKind.i64 (intOf (cellOf y 1))))) then
                      (FitE (eV y) ∧
                      p (V.d (D.lit (Value.int IntKind.i64 (textE (eV y)))))) else
                      p (V.d (D.lit (Value.int IntKind.i64 0))))))))))))))))) else
              (bif intOf (cellOf y 0) == 13 then
               (FitE (eV y) ∧
               (FitE (eV y) ∧
               (True ∧
               (bif bif
    !(butB (presB (eV y) 0) false == false &&
        (butB (presB (eV y) 1) false == false &&
          (butB (presB (eV y) 2)
                (numB false (intOf (D.lit (Value.int IntKind.i64 (intOf (cellOf y 0)))))
                  (intOf (D.lit (Value.int IntKind.i64 (intOf (cellOf y 1)))))) ==
              false &&
            (butB (presB (eV y) 3)
                  (textB true (intOf (D.lit (Value.int IntKind.i64 (intOf (cellOf y 0)))))
                    (intOf (D.lit (Value.int IntKind.i64 (intOf (cellOf y 1)))))) ==
                false &&
              (butB (presB (eV y) 4) false == false &&
                (butB (presB (eV y) 5) false == false &&
                  (butB (presB (eV y) 6) false == false &&
                    (butB (presB (eV y) 7) false == false &&
                      (butB (presB (eV y) 8) false == false &&
                        (butB (presB (eV y) 9) false == false && true)))))))))) then
  true
else (↑(seqD (cellOf y 15)).length : Int) != 0 then
                p (V.d (D.lit (Value.int IntKind.i64 1))) else
                (bif numB false (intOf (D.lit (Value.int IntKind.i64 (intOf (cellOf y 0)))))
  (intOf (D.lit (Value.int IntKind.i64 (intOf (cellOf y 1))))) then
                 (FitE (eV y) ∧
                 (bif numberE (eV y) != 0 then
                  p (V.d (D.lit (Value.int IntKind.i64 (numberE (eV y))))) else
                  ((1 = 1 ∧ ∀ (y_1 : D), y_1 ∈ seqD (cellOf y 7) → FitN y_1) ∧
                  (bif namesE (seqD (cellOf y 7)) (intOf (cellOf y 0) == 4) != 0 then
                   p (V.d (D.lit (Value.int IntKind.i64 (namesE (seqD (cellOf y 7)) (intOf (cellOf y 0) == 4))))) else
                   (bif bif decide (intOf (cellOf y 9) < 0) then true else decide (intOf (cellOf y 9) > 2) then
                    p (V.d (D.lit (Value.int IntKind.i64 8))) else
                    ((4 = 4 ∧ ∀ (y_1 : D), y_1 ∈ seqD (cellOf y 10) → FitG y_1) ∧
                    (bif stagesE (seqD (cellOf y 10)) != 0 then
                     p (V.d (D.lit (Value.int IntKind.i64 (stagesE (seqD (cellOf y 10)))))) else
                     (bif textB true (intOf (D.lit (Value.int IntKind.i64 (intOf (cellOf y 0)))))
  (intOf (D.lit (Value.int IntKind.i64 (intOf (cellOf y 1))))) then
                      (FitE (eV y) ∧
                      p (V.d (D.lit (Value.int IntKind.i64 (textE (eV y)))))) else
                      p (V.d (D.lit (Value.int IntKind.i64 0))))))))))) else
                 ((1 = 1 ∧ ∀ (y_1 : D), y_1 ∈ seqD (cellOf y 7) → FitN y_1) ∧
                 (bif namesE (seqD (cellOf y 7)) (intOf (cellOf y 0) == 4) != 0 then
                  p (V.d (D.lit (Value.int IntKind.i64 (namesE (seqD (cellOf y 7)) (intOf (cellOf y 0) == 4))))) else
                  (bif bif decide (intOf (cellOf y 9) < 0) then true else decide (intOf (cellOf y 9) > 2) then
                   p (V.d (D.lit (Value.int IntKind.i64 8))) else
                   ((4 = 4 ∧ ∀ (y_1 : D), y_1 ∈ seqD (cellOf y 10) → FitG y_1) ∧
                   (bif stagesE (seqD (cellOf y 10)) != 0 then
                    p (V.d (D.lit (Value.int IntKind.i64 (stagesE (seqD (cellOf y 10)))))) else
                    (bif textB true (intOf (D.lit (Value.int IntKind.i64 (intOf (cellOf y 0)))))
  (intOf (D.lit (Value.int IntKind.i64 (intOf (cellOf y 1))))) then
                     (FitE (eV y) ∧
                     p (V.d (D.lit (Value.int IntKind.i64 (textE (eV y)))))) else
                     p (V.d (D.lit (Value.int IntKind.i64 0)))))))))))))) else
               p (V.d (D.lit (Value.int IntKind.i64 8)))))))))))))))) := by kernel_rfl
noncomputable def exprE (y : D) : Int :=
  (bif intOf (cellOf y 0) == 1 then
 (bif bif
    !(butB (presB (eV y) 0) false == false &&
        (butB (presB (eV y) 1) false == false &&
          (butB (presB (eV y) 2)
                (numB true (intOf (D.lit (Value.int IntKind.i64 (intOf (cellOf y 0)))))
                  (intOf (D.lit (Value.int IntKind.i64 (intOf (cellOf y 1)))))) ==
              false &&
            (butB (presB (eV y) 3)
                  (textB false (intOf (D.lit (Value.int IntKind.i64 (intOf (cellOf y 0)))))
                    (intOf (D.lit (Value.int IntKind.i64 (intOf (cellOf y 1)))))) ==
                false &&
              (butB (presB (eV y) 4) false == false &&
                (butB (presB (eV y) 5) false == false &&
                  (butB (presB (eV y) 6) false == false &&
                    (butB (presB (eV y) 7) false == false &&
                      (butB (presB (eV y) 8) false == false &&
                        (butB (presB (eV y) 9) false == false && true)))))))))) then
  true
else (↑(seqD (cellOf y 15)).length : Int) != 0 then
 1 else
 (bif numB true (intOf (D.lit (Value.int IntKind.i64 (intOf (cellOf y 0)))))
  (intOf (D.lit (Value.int IntKind.i64 (intOf (cellOf y 1))))) then
 (bif numberE (eV y) != 0 then
 (numberE (eV y)) else
 (bif namesE (seqD (cellOf y 7)) (intOf (cellOf y 0) == 4) != 0 then
 (namesE (seqD (cellOf y 7)) (intOf (cellOf y 0) == 4)) else
 (bif bif decide (intOf (cellOf y 9) < 0) then true else decide (intOf (cellOf y 9) > 2) then
 8 else
 (bif stagesE (seqD (cellOf y 10)) != 0 then
 (stagesE (seqD (cellOf y 10))) else
 (bif textB false (intOf (D.lit (Value.int IntKind.i64 (intOf (cellOf y 0)))))
  (intOf (D.lit (Value.int IntKind.i64 (intOf (cellOf y 1))))) then
 (textE (eV y)) else
 0))))) else
 (bif namesE (seqD (cellOf y 7)) (intOf (cellOf y 0) == 4) != 0 then
 (namesE (seqD (cellOf y 7)) (intOf (cellOf y 0) == 4)) else
 (bif bif decide (intOf (cellOf y 9) < 0) then true else decide (intOf (cellOf y 9) > 2) then
 8 else
 (bif stagesE (seqD (cellOf y 10)) != 0 then
 (stagesE (seqD (cellOf y 10))) else
 (bif textB false (intOf (D.lit (Value.int IntKind.i64 (intOf (cellOf y 0)))))
  (intOf (D.lit (Value.int IntKind.i64 (intOf (cellOf y 1))))) then
 (textE (eV y)) else
 0)))))) else
 (bif intOf (cellOf y 0) == 2 then
 (bif bif true then bif decide (intOf (cellOf y 1) < 1) then true else decide (intOf (cellOf y 1) > (↑11 : Int)) else false then
 8 else
 (bif bif
    !(butB (presB (eV y) 0) true == false &&
        (butB (presB (eV y) 1) false == false &&
          (butB (presB (eV y) 2)
                (numB false (intOf (D.lit (Value.int IntKind.i64 (intOf (cellOf y 0)))))
                  (intOf (D.lit (Value.int IntKind.i64 (intOf (cellOf y 1)))))) ==
              false &&
            (butB (presB (eV y) 3)
                  (textB false (intOf (D.lit (Value.int IntKind.i64 (intOf (cellOf y 0)))))
                    (intOf (D.lit (Value.int IntKind.i64 (intOf (cellOf y 1)))))) ==
                false &&
              (butB (presB (eV y) 4) true == false &&
                (butB (presB (eV y) 5) false == false &&
                  (butB (presB (eV y) 6) false == false &&
                    (butB (presB (eV y) 7) true == false &&
                      (butB (presB (eV y) 8) false == false &&
                        (butB (presB (eV y) 9) false == false && true)))))))))) then
  true
else (↑(seqD (cellOf y 15)).length : Int) != 0 then
 1 else
 (bif matchersE (seqD (cellOf y 2)) != 0 then
 (matchersE (seqD (cellOf y 2))) else
 (bif bif true then
  bif
      bif bif decide (intOf (cellOf y 3) < 1) then true else decide (intOf (cellOf y 3) > 1099511627776) then true
      else decide (intOf (cellOf y 4) < 0) then
    true
  else decide (intOf (cellOf y 4) > 1099511627776)
else false then
 2 else
 (bif numB false (intOf (D.lit (Value.int IntKind.i64 (intOf (cellOf y 0)))))
  (intOf (D.lit (Value.int IntKind.i64 (intOf (cellOf y 1))))) then
 (bif numberE (eV y) != 0 then
 (numberE (eV y)) else
 (bif namesE (seqD (cellOf y 7)) (intOf (cellOf y 0) == 4) != 0 then
 (namesE (seqD (cellOf y 7)) (intOf (cellOf y 0) == 4)) else
 (bif bif decide (intOf (cellOf y 9) < 0) then true else decide (intOf (cellOf y 9) > 2) then
 8 else
 (bif stagesE (seqD (cellOf y 10)) != 0 then
 (stagesE (seqD (cellOf y 10))) else
 (bif textB false (intOf (D.lit (Value.int IntKind.i64 (intOf (cellOf y 0)))))
  (intOf (D.lit (Value.int IntKind.i64 (intOf (cellOf y 1))))) then
 (textE (eV y)) else
 0))))) else
 (bif namesE (seqD (cellOf y 7)) (intOf (cellOf y 0) == 4) != 0 then
 (namesE (seqD (cellOf y 7)) (intOf (cellOf y 0) == 4)) else
 (bif bif decide (intOf (cellOf y 9) < 0) then true else decide (intOf (cellOf y 9) > 2) then
 8 else
 (bif stagesE (seqD (cellOf y 10)) != 0 then
 (stagesE (seqD (cellOf y 10))) else
 (bif textB false (intOf (D.lit (Value.int IntKind.i64 (intOf (cellOf y 0)))))
  (intOf (D.lit (Value.int IntKind.i64 (intOf (cellOf y 1))))) then
 (textE (eV y)) else
 0))))))))) else
 (bif intOf (cellOf y 0) == 3 then
 (bif bif true then bif decide (intOf (cellOf y 1) < 1) then true else decide (intOf (cellOf y 1) > (↑3 : Int)) else false then
 8 else
 (bif bif
    !(butB (presB (eV y) 0) true == false &&
        (butB (presB (eV y) 1) false == false &&
          (butB (presB (eV y) 2)
                (numB false (intOf (D.lit (Value.int IntKind.i64 (intOf (cellOf y 0)))))
                  (intOf (D.lit (Value.int IntKind.i64 (intOf (cellOf y 1)))))) ==
              false &&
            (butB (presB (eV y) 3)
                  (textB false (intOf (D.lit (Value.int IntKind.i64 (intOf (cellOf y 0)))))
                    (intOf (D.lit (Value.int IntKind.i64 (intOf (cellOf y 1)))))) ==
                false &&
              (butB (presB (eV y) 4) true == false &&
                (butB (presB (eV y) 5) false == false &&
                  (butB (presB (eV y) 6) true == false &&
                    (butB (presB (eV y) 7) true == false &&
                      (butB (presB (eV y) 8) true == false &&
                        (butB (presB (eV y) 9) true == false && true)))))))))) then
  true
else (↑(seqD (cellOf y 15)).length : Int) != 0 then
 1 else
 (bif matchersE (seqD (cellOf y 2)) != 0 then
 (matchersE (seqD (cellOf y 2))) else
 (bif bif true then
  bif
      bif bif decide (intOf (cellOf y 3) < 1) then true else decide (intOf (cellOf y 3) > 1099511627776) then true
      else decide (intOf (cellOf y 4) < 0) then
    true
  else decide (intOf (cellOf y 4) > 1099511627776)
else false then
 2 else
 (bif numB false (intOf (D.lit (Value.int IntKind.i64 (intOf (cellOf y 0)))))
  (intOf (D.lit (Value.int IntKind.i64 (intOf (cellOf y 1))))) then
 (bif numberE (eV y) != 0 then
 (numberE (eV y)) else
 (bif namesE (seqD (cellOf y 7)) (intOf (cellOf y 0) == 4) != 0 then
 (namesE (seqD (cellOf y 7)) (intOf (cellOf y 0) == 4)) else
 (bif bif decide (intOf (cellOf y 9) < 0) then true else decide (intOf (cellOf y 9) > 2) then
 8 else
 (bif stagesE (seqD (cellOf y 10)) != 0 then
 (stagesE (seqD (cellOf y 10))) else
 (bif textB false (intOf (D.lit (Value.int IntKind.i64 (intOf (cellOf y 0)))))
  (intOf (D.lit (Value.int IntKind.i64 (intOf (cellOf y 1))))) then
 (textE (eV y)) else
 0))))) else
 (bif namesE (seqD (cellOf y 7)) (intOf (cellOf y 0) == 4) != 0 then
 (namesE (seqD (cellOf y 7)) (intOf (cellOf y 0) == 4)) else
 (bif bif decide (intOf (cellOf y 9) < 0) then true else decide (intOf (cellOf y 9) > 2) then
 8 else
 (bif stagesE (seqD (cellOf y 10)) != 0 then
 (stagesE (seqD (cellOf y 10))) else
 (bif textB false (intOf (D.lit (Value.int IntKind.i64 (intOf (cellOf y 0)))))
  (intOf (D.lit (Value.int IntKind.i64 (intOf (cellOf y 1))))) then
 (textE (eV y)) else
 0))))))))) else
 (bif intOf (cellOf y 0) == 4 then
 (bif bif
    !(butB (presB (eV y) 0) false == false &&
        (butB (presB (eV y) 1) false == false &&
          (butB (presB (eV y) 2)
                (numB false (intOf (D.lit (Value.int IntKind.i64 (intOf (cellOf y 0)))))
                  (intOf (D.lit (Value.int IntKind.i64 (intOf (cellOf y 1)))))) ==
              false &&
            (butB (presB (eV y) 3)
                  (textB false (intOf (D.lit (Value.int IntKind.i64 (intOf (cellOf y 0)))))
                    (intOf (D.lit (Value.int IntKind.i64 (intOf (cellOf y 1)))))) ==
                false &&
              (butB (presB (eV y) 4) false == false &&
                (butB (presB (eV y) 5) true == false &&
                  (butB (presB (eV y) 6) false == false &&
                    (butB (presB (eV y) 7) true == false &&
                      (butB (presB (eV y) 8) true == false &&
                        (butB (presB (eV y) 9) false == false && true)))))))))) then
  true
else (↑(seqD (cellOf y 15)).length : Int) != 0 then
 1 else
 (bif bif true then
  bif
      bif bif decide (intOf (cellOf y 3) < 1) then true else decide (intOf (cellOf y 3) > 1099511627776) then true
      else decide (intOf (cellOf y 4) < 0) then
    true
  else decide (intOf (cellOf y 4) > 1099511627776)
else false then
 2 else
 (bif numB false (intOf (D.lit (Value.int IntKind.i64 (intOf (cellOf y 0)))))
  (intOf (D.lit (Value.int IntKind.i64 (intOf (cellOf y 1))))) then
 (bif numberE (eV y) != 0 then
 (numberE (eV y)) else
 (bif namesE (seqD (cellOf y 7)) (intOf (cellOf y 0) == 4) != 0 then
 (namesE (seqD (cellOf y 7)) (intOf (cellOf y 0) == 4)) else
 (bif bif decide (intOf (cellOf y 9) < 0) then true else decide (intOf (cellOf y 9) > 2) then
 8 else
 (bif stagesE (seqD (cellOf y 10)) != 0 then
 (stagesE (seqD (cellOf y 10))) else
 (bif patCheckE (paV y) != 0 then
 (patCheckE (paV y)) else
 (bif textB false (intOf (D.lit (Value.int IntKind.i64 (intOf (cellOf y 0)))))
  (intOf (D.lit (Value.int IntKind.i64 (intOf (cellOf y 1))))) then
 (textE (eV y)) else
 0)))))) else
 (bif namesE (seqD (cellOf y 7)) (intOf (cellOf y 0) == 4) != 0 then
 (namesE (seqD (cellOf y 7)) (intOf (cellOf y 0) == 4)) else
 (bif bif decide (intOf (cellOf y 9) < 0) then true else decide (intOf (cellOf y 9) > 2) then
 8 else
 (bif stagesE (seqD (cellOf y 10)) != 0 then
 (stagesE (seqD (cellOf y 10))) else
 (bif patCheckE (paV y) != 0 then
 (patCheckE (paV y)) else
 (bif textB false (intOf (D.lit (Value.int IntKind.i64 (intOf (cellOf y 0)))))
  (intOf (D.lit (Value.int IntKind.i64 (intOf (cellOf y 1))))) then
 (textE (eV y)) else
 0)))))))) else
 (bif intOf (cellOf y 0) == 5 then
 (bif bif
    !(butB (presB (eV y) 0) false == false &&
        (butB (presB (eV y) 1) false == false &&
          (butB (presB (eV y) 2)
                (numB false (intOf (D.lit (Value.int IntKind.i64 (intOf (cellOf y 0)))))
                  (intOf (D.lit (Value.int IntKind.i64 (intOf (cellOf y 1)))))) ==
              false &&
            (butB (presB (eV y) 3)
                  (textB true (intOf (D.lit (Value.int IntKind.i64 (intOf (cellOf y 0)))))
                    (intOf (D.lit (Value.int IntKind.i64 (intOf (cellOf y 1)))))) ==
                false &&
              (butB (presB (eV y) 4) true == false &&
                (butB (presB (eV y) 5) false == false &&
                  (butB (presB (eV y) 6) false == false &&
                    (butB (presB (eV y) 7) true == false &&
                      (butB (presB (eV y) 8) true == false &&
                        (butB (presB (eV y) 9) true == false && true)))))))))) then
  true
else (↑(seqD (cellOf y 15)).length : Int) != 0 then
 1 else
 (bif matchersE (seqD (cellOf y 2)) != 0 then
 (matchersE (seqD (cellOf y 2))) else
 (bif bif true then
  bif
      bif bif decide (intOf (cellOf y 3) < 1) then true else decide (intOf (cellOf y 3) > 1099511627776) then true
      else decide (intOf (cellOf y 4) < 0) then
    true
  else decide (intOf (cellOf y 4) > 1099511627776)
else false then
 2 else
 (bif numB false (intOf (D.lit (Value.int IntKind.i64 (intOf (cellOf y 0)))))
  (intOf (D.lit (Value.int IntKind.i64 (intOf (cellOf y 1))))) then
 (bif numberE (eV y) != 0 then
 (numberE (eV y)) else
 (bif namesE (seqD (cellOf y 7)) (intOf (cellOf y 0) == 4) != 0 then
 (namesE (seqD (cellOf y 7)) (intOf (cellOf y 0) == 4)) else
 (bif bif decide (intOf (cellOf y 9) < 0) then true else decide (intOf (cellOf y 9) > 2) then
 8 else
 (bif stagesE (seqD (cellOf y 10)) != 0 then
 (stagesE (seqD (cellOf y 10))) else
 (bif textB true (intOf (D.lit (Value.int IntKind.i64 (intOf (cellOf y 0)))))
  (intOf (D.lit (Value.int IntKind.i64 (intOf (cellOf y 1))))) then
 (textE (eV y)) else
 0))))) else
 (bif namesE (seqD (cellOf y 7)) (intOf (cellOf y 0) == 4) != 0 then
 (namesE (seqD (cellOf y 7)) (intOf (cellOf y 0) == 4)) else
 (bif bif decide (intOf (cellOf y 9) < 0) then true else decide (intOf (cellOf y 9) > 2) then
 8 else
 (bif stagesE (seqD (cellOf y 10)) != 0 then
 (stagesE (seqD (cellOf y 10))) else
 (bif textB true (intOf (D.lit (Value.int IntKind.i64 (intOf (cellOf y 0)))))
  (intOf (D.lit (Value.int IntKind.i64 (intOf (cellOf y 1))))) then
 (textE (eV y)) else
 0)))))))) else
 (bif intOf (cellOf y 0) == 6 then
 (bif bif true then bif decide (intOf (cellOf y 1) < 1) then true else decide (intOf (cellOf y 1) > (↑9 : Int)) else false then
 8 else
 (bif bif
    !(butB (presB (eV y) 0) true == false &&
        (butB (presB (eV y) 1) false == false &&
          (butB (presB (eV y) 2)
                (numB false (intOf (D.lit (Value.int IntKind.i64 (intOf (cellOf y 0)))))
                  (intOf (D.lit (Value.int IntKind.i64 (intOf (cellOf y 1)))))) ==
              false &&
            (butB (presB (eV y) 3)
                  (textB false (intOf (D.lit (Value.int IntKind.i64 (intOf (cellOf y 0)))))
                    (intOf (D.lit (Value.int IntKind.i64 (intOf (cellOf y 1)))))) ==
                false &&
              (butB (presB (eV y) 4) false == false &&
                (butB (presB (eV y) 5) false == false &&
                  (butB (presB (eV y) 6) false == false &&
                    (butB (presB (eV y) 7) false == false &&
                      (butB (presB (eV y) 8) true == false &&
                        (butB (presB (eV y) 9) true == false && true)))))))))) then
  true
else (↑(seqD (cellOf y 15)).length : Int) != 1 then
 1 else
 (bif numB false (intOf (D.lit (Value.int IntKind.i64 (intOf (cellOf y 0)))))
  (intOf (D.lit (Value.int IntKind.i64 (intOf (cellOf y 1))))) then
 (bif numberE (eV y) != 0 then
 (numberE (eV y)) else
 (bif namesE (seqD (cellOf y 7)) (intOf (cellOf y 0) == 4) != 0 then
 (namesE (seqD (cellOf y 7)) (intOf (cellOf y 0) == 4)) else
 (bif bif decide (intOf (cellOf y 9) < 0) then true else decide (intOf (cellOf y 9) > 2) then
 8 else
 (bif stagesE (seqD (cellOf y 10)) != 0 then
 (stagesE (seqD (cellOf y 10))) else
 (bif textB false (intOf (D.lit (Value.int IntKind.i64 (intOf (cellOf y 0)))))
  (intOf (D.lit (Value.int IntKind.i64 (intOf (cellOf y 1))))) then
 (textE (eV y)) else
 0))))) else
 (bif namesE (seqD (cellOf y 7)) (intOf (cellOf y 0) == 4) != 0 then
 (namesE (seqD (cellOf y 7)) (intOf (cellOf y 0) == 4)) else
 (bif bif decide (intOf (cellOf y 9) < 0) then true else decide (intOf (cellOf y 9) > 2) then
 8 else
 (bif stagesE (seqD (cellOf y 10)) != 0 then
 (stagesE (seqD (cellOf y 10))) else
 (bif textB false (intOf (D.lit (Value.int IntKind.i64 (intOf (cellOf y 0)))))
  (intOf (D.lit (Value.int IntKind.i64 (intOf (cellOf y 1))))) then
 (textE (eV y)) else
 0))))))) else
 (bif intOf (cellOf y 0) == 7 then
 (bif bif true then bif decide (intOf (cellOf y 1) < 1) then true else decide (intOf (cellOf y 1) > (↑10 : Int)) else false then
 8 else
 (bif bif
    !(butB (presB (eV y) 0) true == false &&
        (butB (presB (eV y) 1) true == false &&
          (butB (presB (eV y) 2)
                (numB false (intOf (D.lit (Value.int IntKind.i64 (intOf (cellOf y 0)))))
                  (intOf (D.lit (Value.int IntKind.i64 (intOf (cellOf y 1)))))) ==
              false &&
            (butB (presB (eV y) 3)
                  (textB false (intOf (D.lit (Value.int IntKind.i64 (intOf (cellOf y 0)))))
                    (intOf (D.lit (Value.int IntKind.i64 (intOf (cellOf y 1)))))) ==
                false &&
              (butB (presB (eV y) 4) false == false &&
                (butB (presB (eV y) 5) false == false &&
                  (butB (presB (eV y) 6) false == false &&
                    (butB (presB (eV y) 7) false == false &&
                      (butB (presB (eV y) 8) true == false &&
                        (butB (presB (eV y) 9) true == false && true)))))))))) then
  true
else (↑(seqD (cellOf y 15)).length : Int) != 2 then
 1 else
 (bif numB false (intOf (D.lit (Value.int IntKind.i64 (intOf (cellOf y 0)))))
  (intOf (D.lit (Value.int IntKind.i64 (intOf (cellOf y 1))))) then
 (bif numberE (eV y) != 0 then
 (numberE (eV y)) else
 (bif namesE (seqD (cellOf y 7)) (intOf (cellOf y 0) == 4) != 0 then
 (namesE (seqD (cellOf y 7)) (intOf (cellOf y 0) == 4)) else
 (bif bif decide (intOf (cellOf y 9) < 0) then true else decide (intOf (cellOf y 9) > 2) then
 8 else
 (bif stagesE (seqD (cellOf y 10)) != 0 then
 (stagesE (seqD (cellOf y 10))) else
 (bif textB false (intOf (D.lit (Value.int IntKind.i64 (intOf (cellOf y 0)))))
  (intOf (D.lit (Value.int IntKind.i64 (intOf (cellOf y 1))))) then
 (textE (eV y)) else
 0))))) else
 (bif namesE (seqD (cellOf y 7)) (intOf (cellOf y 0) == 4) != 0 then
 (namesE (seqD (cellOf y 7)) (intOf (cellOf y 0) == 4)) else
 (bif bif decide (intOf (cellOf y 9) < 0) then true else decide (intOf (cellOf y 9) > 2) then
 8 else
 (bif stagesE (seqD (cellOf y 10)) != 0 then
 (stagesE (seqD (cellOf y 10))) else
 (bif textB false (intOf (D.lit (Value.int IntKind.i64 (intOf (cellOf y 0)))))
  (intOf (D.lit (Value.int IntKind.i64 (intOf (cellOf y 1))))) then
 (textE (eV y)) else
 0))))))) else
 (bif intOf (cellOf y 0) == 8 then
 (bif bif
    !(butB (presB (eV y) 0) false == false &&
        (butB (presB (eV y) 1) false == false &&
          (butB (presB (eV y) 2)
                (numB false (intOf (D.lit (Value.int IntKind.i64 (intOf (cellOf y 0)))))
                  (intOf (D.lit (Value.int IntKind.i64 (intOf (cellOf y 1)))))) ==
              false &&
            (butB (presB (eV y) 3)
                  (textB false (intOf (D.lit (Value.int IntKind.i64 (intOf (cellOf y 0)))))
                    (intOf (D.lit (Value.int IntKind.i64 (intOf (cellOf y 1)))))) ==
                false &&
              (butB (presB (eV y) 4) true == false &&
                (butB (presB (eV y) 5) false == false &&
                  (butB (presB (eV y) 6) true == false &&
                    (butB (presB (eV y) 7) true == false &&
                      (butB (presB (eV y) 8) false == false &&
                        (butB (presB (eV y) 9) false == false && true)))))))))) then
  true
else (↑(seqD (cellOf y 15)).length : Int) != 0 then
 1 else
 (bif matchersE (seqD (cellOf y 2)) != 0 then
 (matchersE (seqD (cellOf y 2))) else
 (bif bif true then
  bif
      bif bif decide (intOf (cellOf y 3) < 1) then true else decide (intOf (cellOf y 3) > 1099511627776) then true
      else decide (intOf (cellOf y 4) < 0) then
    true
  else decide (intOf (cellOf y 4) > 1099511627776)
else false then
 2 else
 (bif numB false (intOf (D.lit (Value.int IntKind.i64 (intOf (cellOf y 0)))))
  (intOf (D.lit (Value.int IntKind.i64 (intOf (cellOf y 1))))) then
 (bif numberE (eV y) != 0 then
 (numberE (eV y)) else
 (bif namesE (seqD (cellOf y 7)) (intOf (cellOf y 0) == 4) != 0 then
 (namesE (seqD (cellOf y 7)) (intOf (cellOf y 0) == 4)) else
 (bif bif decide (intOf (cellOf y 9) < 0) then true else decide (intOf (cellOf y 9) > 2) then
 8 else
 (bif stagesE (seqD (cellOf y 10)) != 0 then
 (stagesE (seqD (cellOf y 10))) else
 (bif textB false (intOf (D.lit (Value.int IntKind.i64 (intOf (cellOf y 0)))))
  (intOf (D.lit (Value.int IntKind.i64 (intOf (cellOf y 1))))) then
 (textE (eV y)) else
 0))))) else
 (bif namesE (seqD (cellOf y 7)) (intOf (cellOf y 0) == 4) != 0 then
 (namesE (seqD (cellOf y 7)) (intOf (cellOf y 0) == 4)) else
 (bif bif decide (intOf (cellOf y 9) < 0) then true else decide (intOf (cellOf y 9) > 2) then
 8 else
 (bif stagesE (seqD (cellOf y 10)) != 0 then
 (stagesE (seqD (cellOf y 10))) else
 (bif textB false (intOf (D.lit (Value.int IntKind.i64 (intOf (cellOf y 0)))))
  (intOf (D.lit (Value.int IntKind.i64 (intOf (cellOf y 1))))) then
 (textE (eV y)) else
 0)))))))) else
 (bif intOf (cellOf y 0) == 9 then
 (bif bif
    !(butB (presB (eV y) 0) false == false &&
        (butB (presB (eV y) 1) false == false &&
          (butB (presB (eV y) 2)
                (numB false (intOf (D.lit (Value.int IntKind.i64 (intOf (cellOf y 0)))))
                  (intOf (D.lit (Value.int IntKind.i64 (intOf (cellOf y 1)))))) ==
              false &&
            (butB (presB (eV y) 3)
                  (textB false (intOf (D.lit (Value.int IntKind.i64 (intOf (cellOf y 0)))))
                    (intOf (D.lit (Value.int IntKind.i64 (intOf (cellOf y 1)))))) ==
                false &&
              (butB (presB (eV y) 4) false == false &&
                (butB (presB (eV y) 5) true == false &&
                  (butB (presB (eV y) 6) false == false &&
                    (butB (presB (eV y) 7) true == false &&
                      (butB (presB (eV y) 8) false == false &&
                        (butB (presB (eV y) 9) false == false && true)))))))))) then
  true
else (↑(seqD (cellOf y 15)).length : Int) != 0 then
 1 else
 (bif bif true then
  bif
      bif bif decide (intOf (cellOf y 3) < 1) then true else decide (intOf (cellOf y 3) > 1099511627776) then true
      else decide (intOf (cellOf y 4) < 0) then
    true
  else decide (intOf (cellOf y 4) > 1099511627776)
else false then
 2 else
 (bif numB false (intOf (D.lit (Value.int IntKind.i64 (intOf (cellOf y 0)))))
  (intOf (D.lit (Value.int IntKind.i64 (intOf (cellOf y 1))))) then
 (bif numberE (eV y) != 0 then
 (numberE (eV y)) else
 (bif namesE (seqD (cellOf y 7)) (intOf (cellOf y 0) == 4) != 0 then
 (namesE (seqD (cellOf y 7)) (intOf (cellOf y 0) == 4)) else
 (bif bif decide (intOf (cellOf y 9) < 0) then true else decide (intOf (cellOf y 9) > 2) then
 8 else
 (bif stagesE (seqD (cellOf y 10)) != 0 then
 (stagesE (seqD (cellOf y 10))) else
 (bif patCheckE (paV y) != 0 then
 (patCheckE (paV y)) else
 (bif textB false (intOf (D.lit (Value.int IntKind.i64 (intOf (cellOf y 0)))))
  (intOf (D.lit (Value.int IntKind.i64 (intOf (cellOf y 1))))) then
 (textE (eV y)) else
 0)))))) else
 (bif namesE (seqD (cellOf y 7)) (intOf (cellOf y 0) == 4) != 0 then
 (namesE (seqD (cellOf y 7)) (intOf (cellOf y 0) == 4)) else
 (bif bif decide (intOf (cellOf y 9) < 0) then true else decide (intOf (cellOf y 9) > 2) then
 8 else
 (bif stagesE (seqD (cellOf y 10)) != 0 then
 (stagesE (seqD (cellOf y 10))) else
 (bif patCheckE (paV y) != 0 then
 (patCheckE (paV y)) else
 (bif textB false (intOf (D.lit (Value.int IntKind.i64 (intOf (cellOf y 0)))))
  (intOf (D.lit (Value.int IntKind.i64 (intOf (cellOf y 1))))) then
 (textE (eV y)) else
 0)))))))) else
 (bif intOf (cellOf y 0) == 10 then
 (bif bif
    !(butB (presB (eV y) 0) false == false &&
        (butB (presB (eV y) 1) false == false &&
          (butB (presB (eV y) 2)
                (numB false (intOf (D.lit (Value.int IntKind.i64 (intOf (cellOf y 0)))))
                  (intOf (D.lit (Value.int IntKind.i64 (intOf (cellOf y 1)))))) ==
              false &&
            (butB (presB (eV y) 3)
                  (textB false (intOf (D.lit (Value.int IntKind.i64 (intOf (cellOf y 0)))))
                    (intOf (D.lit (Value.int IntKind.i64 (intOf (cellOf y 1)))))) ==
                false &&
              (butB (presB (eV y) 4) true == false &&
                (butB (presB (eV y) 5) false == false &&
                  (butB (presB (eV y) 6) false == false &&
                    (butB (presB (eV y) 7) true == false &&
                      (butB (presB (eV y) 8) false == false &&
                        (butB (presB (eV y) 9) false == false && true)))))))))) then
  true
else (↑(seqD (cellOf y 15)).length : Int) != 0 then
 1 else
 (bif matchersE (seqD (cellOf y 2)) != 0 then
 (matchersE (seqD (cellOf y 2))) else
 (bif bif true then
  bif
      bif bif decide (intOf (cellOf y 3) < 1) then true else decide (intOf (cellOf y 3) > 1099511627776) then true
      else decide (intOf (cellOf y 4) < 0) then
    true
  else decide (intOf (cellOf y 4) > 1099511627776)
else false then
 2 else
 (bif numB false (intOf (D.lit (Value.int IntKind.i64 (intOf (cellOf y 0)))))
  (intOf (D.lit (Value.int IntKind.i64 (intOf (cellOf y 1))))) then
 (bif numberE (eV y) != 0 then
 (numberE (eV y)) else
 (bif namesE (seqD (cellOf y 7)) (intOf (cellOf y 0) == 4) != 0 then
 (namesE (seqD (cellOf y 7)) (intOf (cellOf y 0) == 4)) else
 (bif bif decide (intOf (cellOf y 9) < 0) then true else decide (intOf (cellOf y 9) > 2) then
 8 else
 (bif stagesE (seqD (cellOf y 10)) != 0 then
 (stagesE (seqD (cellOf y 10))) else
 (bif textB false (intOf (D.lit (Value.int IntKind.i64 (intOf (cellOf y 0)))))
  (intOf (D.lit (Value.int IntKind.i64 (intOf (cellOf y 1))))) then
 (textE (eV y)) else
 0))))) else
 (bif namesE (seqD (cellOf y 7)) (intOf (cellOf y 0) == 4) != 0 then
 (namesE (seqD (cellOf y 7)) (intOf (cellOf y 0) == 4)) else
 (bif bif decide (intOf (cellOf y 9) < 0) then true else decide (intOf (cellOf y 9) > 2) then
 8 else
 (bif stagesE (seqD (cellOf y 10)) != 0 then
 (stagesE (seqD (cellOf y 10))) else
 (bif textB false (intOf (D.lit (Value.int IntKind.i64 (intOf (cellOf y 0)))))
  (intOf (D.lit (Value.int IntKind.i64 (intOf (cellOf y 1))))) then
 (textE (eV y)) else
 0)))))))) else
 (bif intOf (cellOf y 0) == 11 then
 (bif bif
    !(butB (presB (eV y) 0) false == false &&
        (butB (presB (eV y) 1) false == false &&
          (butB (presB (eV y) 2)
                (numB false (intOf (D.lit (Value.int IntKind.i64 (intOf (cellOf y 0)))))
                  (intOf (D.lit (Value.int IntKind.i64 (intOf (cellOf y 1)))))) ==
              false &&
            (butB (presB (eV y) 3)
                  (textB false (intOf (D.lit (Value.int IntKind.i64 (intOf (cellOf y 0)))))
                    (intOf (D.lit (Value.int IntKind.i64 (intOf (cellOf y 1)))))) ==
                false &&
              (butB (presB (eV y) 4) true == false &&
                (butB (presB (eV y) 5) false == false &&
                  (butB (presB (eV y) 6) false == false &&
                    (butB (presB (eV y) 7) true == false &&
                      (butB (presB (eV y) 8) false == false &&
                        (butB (presB (eV y) 9) false == false && true)))))))))) then
  true
else (↑(seqD (cellOf y 15)).length : Int) != 0 then
 1 else
 (bif matchersE (seqD (cellOf y 2)) != 0 then
 (matchersE (seqD (cellOf y 2))) else
 (bif bif true then
  bif
      bif bif decide (intOf (cellOf y 3) < 1) then true else decide (intOf (cellOf y 3) > 1099511627776) then true
      else decide (intOf (cellOf y 4) < 0) then
    true
  else decide (intOf (cellOf y 4) > 1099511627776)
else false then
 2 else
 (bif numB false (intOf (D.lit (Value.int IntKind.i64 (intOf (cellOf y 0)))))
  (intOf (D.lit (Value.int IntKind.i64 (intOf (cellOf y 1))))) then
 (bif numberE (eV y) != 0 then
 (numberE (eV y)) else
 (bif namesE (seqD (cellOf y 7)) (intOf (cellOf y 0) == 4) != 0 then
 (namesE (seqD (cellOf y 7)) (intOf (cellOf y 0) == 4)) else
 (bif bif decide (intOf (cellOf y 9) < 0) then true else decide (intOf (cellOf y 9) > 2) then
 8 else
 (bif stagesE (seqD (cellOf y 10)) != 0 then
 (stagesE (seqD (cellOf y 10))) else
 (bif textB false (intOf (D.lit (Value.int IntKind.i64 (intOf (cellOf y 0)))))
  (intOf (D.lit (Value.int IntKind.i64 (intOf (cellOf y 1))))) then
 (textE (eV y)) else
 0))))) else
 (bif namesE (seqD (cellOf y 7)) (intOf (cellOf y 0) == 4) != 0 then
 (namesE (seqD (cellOf y 7)) (intOf (cellOf y 0) == 4)) else
 (bif bif decide (intOf (cellOf y 9) < 0) then true else decide (intOf (cellOf y 9) > 2) then
 8 else
 (bif stagesE (seqD (cellOf y 10)) != 0 then
 (stagesE (seqD (cellOf y 10))) else
 (bif textB false (intOf (D.lit (Value.int IntKind.i64 (intOf (cellOf y 0)))))
  (intOf (D.lit (Value.int IntKind.i64 (intOf (cellOf y 1))))) then
 (textE (eV y)) else
 0)))))))) else
 (bif intOf (cellOf y 0) == 12 then
 (bif bif
    !(butB (presB (eV y) 0) false == false &&
        (butB (presB (eV y) 1) false == false &&
          (butB (presB (eV y) 2)
                (numB false (intOf (D.lit (Value.int IntKind.i64 (intOf (cellOf y 0)))))
                  (intOf (D.lit (Value.int IntKind.i64 (intOf (cellOf y 1)))))) ==
              false &&
            (butB (presB (eV y) 3)
                  (textB false (intOf (D.lit (Value.int IntKind.i64 (intOf (cellOf y 0)))))
                    (intOf (D.lit (Value.int IntKind.i64 (intOf (cellOf y 1)))))) ==
                false &&
              (butB (presB (eV y) 4) true == false &&
                (butB (presB (eV y) 5) false == false &&
                  (butB (presB (eV y) 6) true == false &&
                    (butB (presB (eV y) 7) true == false &&
                      (butB (presB (eV y) 8) false == false &&
                        (butB (presB (eV y) 9) false == false && true)))))))))) then
  true
else (↑(seqD (cellOf y 15)).length : Int) != 1 then
 1 else
 (bif matchersE (seqD (cellOf y 2)) != 0 then
 (matchersE (seqD (cellOf y 2))) else
 (bif bif true then
  bif
      bif bif decide (intOf (cellOf y 3) < 1) then true else decide (intOf (cellOf y 3) > 1099511627776) then true
      else decide (intOf (cellOf y 4) < 0) then
    true
  else decide (intOf (cellOf y 4) > 1099511627776)
else false then
 2 else
 (bif numB false (intOf (D.lit (Value.int IntKind.i64 (intOf (cellOf y 0)))))
  (intOf (D.lit (Value.int IntKind.i64 (intOf (cellOf y 1))))) then
 (bif numberE (eV y) != 0 then
 (numberE (eV y)) else
 (bif namesE (seqD (cellOf y 7)) (intOf (cellOf y 0) == 4) != 0 then
 (namesE (seqD (cellOf y 7)) (intOf (cellOf y 0) == 4)) else
 (bif bif decide (intOf (cellOf y 9) < 0) then true else decide (intOf (cellOf y 9) > 2) then
 8 else
 (bif stagesE (seqD (cellOf y 10)) != 0 then
 (stagesE (seqD (cellOf y 10))) else
 (bif textB false (intOf (D.lit (Value.int IntKind.i64 (intOf (cellOf y 0)))))
  (intOf (D.lit (Value.int IntKind.i64 (intOf (cellOf y 1))))) then
 (textE (eV y)) else
 0))))) else
 (bif namesE (seqD (cellOf y 7)) (intOf (cellOf y 0) == 4) != 0 then
 (namesE (seqD (cellOf y 7)) (intOf (cellOf y 0) == 4)) else
 (bif bif decide (intOf (cellOf y 9) < 0) then true else decide (intOf (cellOf y 9) > 2) then
 8 else
 (bif stagesE (seqD (cellOf y 10)) != 0 then
 (stagesE (seqD (cellOf y 10))) else
 (bif textB false (intOf (D.lit (Value.int IntKind.i64 (intOf (cellOf y 0)))))
  (intOf (D.lit (Value.int IntKind.i64 (intOf (cellOf y 1))))) then
 (textE (eV y)) else
 0)))))))) else
 (bif intOf (cellOf y 0) == 13 then
 (bif bif
    !(butB (presB (eV y) 0) false == false &&
        (butB (presB (eV y) 1) false == false &&
          (butB (presB (eV y) 2)
                (numB false (intOf (D.lit (Value.int IntKind.i64 (intOf (cellOf y 0)))))
                  (intOf (D.lit (Value.int IntKind.i64 (intOf (cellOf y 1)))))) ==
              false &&
            (butB (presB (eV y) 3)
                  (textB true (intOf (D.lit (Value.int IntKind.i64 (intOf (cellOf y 0)))))
                    (intOf (D.lit (Value.int IntKind.i64 (intOf (cellOf y 1)))))) ==
                false &&
              (butB (presB (eV y) 4) false == false &&
                (butB (presB (eV y) 5) false == false &&
                  (butB (presB (eV y) 6) false == false &&
                    (butB (presB (eV y) 7) false == false &&
                      (butB (presB (eV y) 8) false == false &&
                        (butB (presB (eV y) 9) false == false && true)))))))))) then
  true
else (↑(seqD (cellOf y 15)).length : Int) != 0 then
 1 else
 (bif numB false (intOf (D.lit (Value.int IntKind.i64 (intOf (cellOf y 0)))))
  (intOf (D.lit (Value.int IntKind.i64 (intOf (cellOf y 1))))) then
 (bif numberE (eV y) != 0 then
 (numberE (eV y)) else
 (bif namesE (seqD (cellOf y 7)) (intOf (cellOf y 0) == 4) != 0 then
 (namesE (seqD (cellOf y 7)) (intOf (cellOf y 0) == 4)) else
 (bif bif decide (intOf (cellOf y 9) < 0) then true else decide (intOf (cellOf y 9) > 2) then
 8 else
 (bif stagesE (seqD (cellOf y 10)) != 0 then
 (stagesE (seqD (cellOf y 10))) else
 (bif textB true (intOf (D.lit (Value.int IntKind.i64 (intOf (cellOf y 0)))))
  (intOf (D.lit (Value.int IntKind.i64 (intOf (cellOf y 1))))) then
 (textE (eV y)) else
 0))))) else
 (bif namesE (seqD (cellOf y 7)) (intOf (cellOf y 0) == 4) != 0 then
 (namesE (seqD (cellOf y 7)) (intOf (cellOf y 0) == 4)) else
 (bif bif decide (intOf (cellOf y 9) < 0) then true else decide (intOf (cellOf y 9) > 2) then
 8 else
 (bif stagesE (seqD (cellOf y 10)) != 0 then
 (stagesE (seqD (cellOf y 10))) else
 (bif textB true (intOf (D.lit (Value.int IntKind.i64 (intOf (cellOf y 0)))))
  (intOf (D.lit (Value.int IntKind.i64 (intOf (cellOf y 1))))) then
 (textE (eV y)) else
 0)))))) else
 8)))))))))))))
noncomputable def c72 : Ct := ⟨fun | [x, .map es] => FitE x ∧ IsKinds es | _ => False, fun | [x, .map es] => some (.lit (.int .i64 (exprE x))) | _ => none⟩
noncomputable def T72 : Tab := T135.add 72 c72
theorem k134 : TabOk B T134 := by
  refine add_body base k83 (fn := Tryz.f134) (cd := bodyOf Tryz.f134) (sp := noSp) (hn := noHn) Tryz.func134 (by kernel_rfl) (by kernel_rfl) noSp_ok fun ds r hp hr => ?_
  unfold c134 at hp hr
  simp only [] at hr hp
  split at hr
  · rename_i x
    cases hr
    rw [arg1 (FitE.v hp)]
    refine keep (w134 x fun v => v = _) ?_
    rw [FitE.v hp]
    exact ⟨hp, rfl⟩
  · cases hr
theorem k135 : TabOk B T135 := by
  refine add_body base k134 (fn := Tryz.f135) (cd := bodyOf Tryz.f135) (sp := noSp) (hn := noHn) Tryz.func135 (by kernel_rfl) (by kernel_rfl) noSp_ok fun ds r hp hr => ?_
  unfold c135 at hp hr
  simp only [] at hr hp
  split at hr
  · cases hr
    refine keep (w135 _ _ _ _ _ _ _ _ _ _ _ _ _ _ _ _ _ _ _ _ fun v => v = _) ?_
    rfl
  · cases hr
theorem k72 : TabOk B T72 := by
  refine add_body base k135 (fn := Tryz.f72) (cd := bodyOf Tryz.f72) (sp := noSp) (hn := noHn) Tryz.func72 (by kernel_rfl) (by kernel_rfl) noSp_ok fun ds r hp hr => ?_
  unfold c72 at hp hr
  simp only [] at hr hp
  split at hr
  · rename_i x es
    cases hr
    obtain ⟨hf, he⟩ := hp
    rw [show es = kindsEs from he, arg2 hf.v]
    refine keep (w72 x fun v => v = _) ?_
    unfold exprE
    rw [hf.v]
    have hm : ∀ y ∈ seqD (cellOf x 2), FitM y := hf.m
    have hn : ∀ y ∈ seqD (cellOf x 7), FitN y := hf.n
    have hs : ∀ y ∈ seqD (cellOf x 10), FitG y := hf.s
    (repeat' (first | with_reducible rfl | (refine cond_split (fun hcw => ?_) (fun hcw => ?_) <;> simp only [hcw, cond_true, cond_false]) | refine and_i ?_ ?_))
    all_goals first | trivial | assumption | exact hf.p
  · cases hr
end Go.Ev.R2
end
