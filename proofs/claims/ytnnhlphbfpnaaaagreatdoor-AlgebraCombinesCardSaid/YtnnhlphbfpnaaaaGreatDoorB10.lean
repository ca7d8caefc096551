/- What the proofs of the lexer's laws share, part 10 of 13. -/
import Derived.Test.YtnnhlphbfpnaaaaGreatDoorB6
set_option linter.unusedVariables false
set_option linter.unusedSimpArgs false
section
namespace Go.Ev.R2
open Go Go.Ev Go.Proofs
set_option maxRecDepth 100000
set_option linter.unusedVariables false
set_option linter.unusedSimpArgs false
noncomputable def bothD (f : Int) (x y : D) : D := .agg [.lit (.int .i64 7), .lit (.int .i64 f), .slice true 0 [], .lit (.int .i64 0), .lit (.int .i64 0), .lit (.int .i64 0), .lit (.int .i64 0), .slice true 0 [], .lit (.bool false), .lit (.int .i64 0), .slice true 0 [], .lit (.int .i64 0), .slice true 0 [], .slice true 0 [], .lit (.string ⟨#[]⟩), .slice false 16 [x, y]]
noncomputable def sumD (x : D) : D := .agg [.lit (.int .i64 6), .lit (.int .i64 1), .slice true 0 [], .lit (.int .i64 0), .lit (.int .i64 0), .lit (.int .i64 0), .lit (.int .i64 0), .slice true 0 [], .lit (.bool false), .lit (.int .i64 0), .slice true 0 [], .lit (.int .i64 0), .slice true 0 [], .slice true 0 [], .lit (.string ⟨#[]⟩), .slice false 16 [x]]
def opF (op : Int) : Int := IntKind.i64.wrap (1 + (IntKind.i64.wrap op).tmod 10)
noncomputable def nE (x : D) : D := eV x
def SameRep (x y : D) : Prop := ∀ (w : World) (lim : Nat → Nat) (v : Value), RepD w lim x v → RepD w lim y v
noncomputable def c17r : Ct := ⟨fun | [x] => FitE (nE x) ∧ SameRep x (nE x) | _ => False, fun | [x] => some (.lit (.int .i64 (checkE (nE x)))) | _ => none⟩
noncomputable def c15r : Ct := ⟨fun | [x] => FitE (nE x) ∧ SameRep x (nE x) | _ => False, fun | [x] => some (.tup [intD (bif checkE (nE x) != 0 then 0 else typeE (nE x)), intD (bif checkE (nE x) != 0 then checkE (nE x) else bif typeE (nE x) == 0 then 15 else 0)]) | _ => none⟩
noncomputable def T14r : Tab := (T14.add 17 c17r).add 15 c15r
theorem w10 (x : D) (y : D) (op : Int) (p : V → Prop) : (evBodyT (Cn T14r) T14r noCS 0 noSp noHn 10 [V.d (eV x), V.d (eV y), V.d (D.lit (Value.int IntKind.u8 op))] Heap.empty
  fun v H => p (freezeR H v)) =
  (FitE (eV x) ∧
  (((!greatB (eV x) && true) = true → FitE (eV y)) ∧
  (bif bif greatB (eV x) then true else greatB (eV y) then
   (True ∧
   p (V.d (D.lit (Value.bool true)))) else
   ((FitE (nE (eV x)) ∧ SameRep (eV x) (nE (eV x))) ∧
   ((FitE (nE (eV y)) ∧ SameRep (eV y) (nE (eV y))) ∧
   (bif bif (bif checkE (nE (eV x)) != 0 then checkE (nE (eV x)) else bif typeE (nE (eV x)) == 0 then 15 else 0) != 0 then true
else (bif checkE (nE (eV y)) != 0 then checkE (nE (eV y)) else bif typeE (nE (eV y)) == 0 then 15 else 0) != 0 then
    (True ∧
    p (V.d (D.lit (Value.bool true)))) else
    ((IntKind.i64 = IntKind.i64 ∧ (10 : Int) ≠ 0) ∧
    ((FitE
  (nE
    (sumD (eV x))) ∧ SameRep
  (sumD (eV x))
  (nE
    (sumD (eV x)))) ∧
    ((FitE
  (nE
    (bothD (opF op) (eV x) (eV y))) ∧ SameRep
  (bothD (opF op) (eV x) (eV y))
  (nE
    (bothD (opF op) (eV x) (eV y)))) ∧
    (bif bif
    bif
        bif (bif checkE (nE (eV x)) != 0 then 0 else typeE (nE (eV x))) == 1 then true
        else (bif checkE (nE (eV x)) != 0 then 0 else typeE (nE (eV x))) == 2 then
      bif (bif checkE (nE (eV y)) != 0 then 0 else typeE (nE (eV y))) == 1 then true
      else (bif checkE (nE (eV y)) != 0 then 0 else typeE (nE (eV y))) == 2
    else false then
  bif (bif checkE (nE (eV x)) != 0 then 0 else typeE (nE (eV x))) == 2 then true
  else (bif checkE (nE (eV y)) != 0 then 0 else typeE (nE (eV y))) == 2
else false then
     ((FitE
  (nE
    (bothD (opF op) (eV x) (eV y))) ∧ SameRep
  (bothD (opF op) (eV x) (eV y))
  (nE
    (bothD (opF op) (eV x) (eV y)))) ∧
     (bif bif
    bif
        checkE
            (nE
              (bothD (opF op) (eV x) (eV y))) ==
          0 then
      bif
          (bif
                checkE
                    (nE
                      (bothD (opF op) (eV x) (eV y))) !=
                  0 then
              0
            else
              typeE
                (nE
                  (bothD (opF op) (eV x) (eV y)))) !=
            2 then
        true
      else
        (bif
              checkE
                  (nE
                    (bothD (opF op) (eV x) (eV y))) !=
                0 then
            checkE
              (nE
                (bothD (opF op) (eV x) (eV y)))
          else
            bif
                typeE
                    (nE
                      (bothD (opF op) (eV x) (eV y))) ==
                  0 then
              15
            else 0) !=
          0
    else false then
  true
else
  bif
      bif
          checkE
              (nE
                (bothD (opF op) (eV x) (eV y))) !=
            0 then
        checkE
            (nE
              (bothD (opF op) (eV x) (eV y))) !=
          4
      else false then
    checkE
        (nE
          (bothD (opF op) (eV x) (eV y))) !=
      30
  else false then
      p (V.d (D.lit (Value.bool false))) else
      ((FitE
  (nE
    (sumD (eV x))) ∧ SameRep
  (sumD (eV x))
  (nE
    (sumD (eV x)))) ∧
      (bif checkE
    (nE
      (sumD (eV x))) !=
  0 then
       ((((bif
        checkE
            (nE
              (sumD (eV x))) ==
          4 then
      true
    else
      checkE
          (nE
            (sumD (eV x))) ==
        30) &&
    true) =
  true → True) ∧
       p
  (V.d
    (D.lit
      (Value.bool
        (bif
            bif
                checkE
                    (nE
                      (sumD (eV x))) ==
                  4 then
              true
            else
              checkE
                  (nE
                    (sumD (eV x))) ==
                30 then
          true
        else false))))) else
       ((((bif
        ((bif
                checkE
                    (nE
                      (sumD (eV x))) !=
                  0 then
              0
            else
              typeE
                (nE
                  (sumD (eV x)))) ==
            2) ==
          ((bif checkE (nE (eV x)) != 0 then 0 else typeE (nE (eV x))) == 2) then
      ((bif
              checkE
                  (nE
                    (sumD (eV x))) !=
                0 then
            checkE
              (nE
                (sumD (eV x)))
          else
            bif
                typeE
                    (nE
                      (sumD (eV x))) ==
                  0 then
              15
            else 0) ==
          0) ==
        ((bif checkE (nE (eV x)) != 0 then 0 else typeE (nE (eV x))) == 2)
    else false) &&
    true) =
  true → True) ∧
       p
  (V.d
    (D.lit
      (Value.bool
        (bif
            bif
                ((bif
                        checkE
                            (nE
                              (sumD (eV x))) !=
                          0 then
                      0
                    else
                      typeE
                        (nE
                          (sumD (eV x)))) ==
                    2) ==
                  ((bif checkE (nE (eV x)) != 0 then 0 else typeE (nE (eV x))) == 2) then
              ((bif
                      checkE
                          (nE
                            (sumD (eV x))) !=
                        0 then
                    checkE
                      (nE
                        (sumD (eV x)))
                  else
                    bif
                        typeE
                            (nE
                              (sumD (eV x))) ==
                          0 then
                      15
                    else 0) ==
                  0) ==
                ((bif checkE (nE (eV x)) != 0 then 0 else typeE (nE (eV x))) == 2)
            else false then
          true
        else false))))))))) else
     (bif bif
    bif
        bif (bif checkE (nE (eV x)) != 0 then 0 else typeE (nE (eV x))) == 1 then true
        else (bif checkE (nE (eV x)) != 0 then 0 else typeE (nE (eV x))) == 2 then
      bif (bif checkE (nE (eV y)) != 0 then 0 else typeE (nE (eV y))) == 1 then true
      else (bif checkE (nE (eV y)) != 0 then 0 else typeE (nE (eV y))) == 2
    else false then
  decide (opF op ≤ 4)
else false then
      ((FitE
  (nE
    (bothD (opF op) (eV x) (eV y))) ∧ SameRep
  (bothD (opF op) (eV x) (eV y))
  (nE
    (bothD (opF op) (eV x) (eV y)))) ∧
      (bif bif
    bif
        checkE
            (nE
              (bothD (opF op) (eV x) (eV y))) ==
          0 then
      bif
          (bif
                checkE
                    (nE
                      (bothD (opF op) (eV x) (eV y))) !=
                  0 then
              0
            else
              typeE
                (nE
                  (bothD (opF op) (eV x) (eV y)))) !=
            1 then
        true
      else
        (bif
              checkE
                  (nE
                    (bothD (opF op) (eV x) (eV y))) !=
                0 then
            checkE
              (nE
                (bothD (opF op) (eV x) (eV y)))
          else
            bif
                typeE
                    (nE
                      (bothD (opF op) (eV x) (eV y))) ==
                  0 then
              15
            else 0) !=
          0
    else false then
  true
else
  bif
      bif
          checkE
              (nE
                (bothD (opF op) (eV x) (eV y))) !=
            0 then
        checkE
            (nE
              (bothD (opF op) (eV x) (eV y))) !=
          4
      else false then
    checkE
        (nE
          (bothD (opF op) (eV x) (eV y))) !=
      30
  else false then
       p (V.d (D.lit (Value.bool false))) else
       ((FitE
  (nE
    (sumD (eV x))) ∧ SameRep
  (sumD (eV x))
  (nE
    (sumD (eV x)))) ∧
       (bif checkE
    (nE
      (sumD (eV x))) !=
  0 then
        ((((bif
        checkE
            (nE
              (sumD (eV x))) ==
          4 then
      true
    else
      checkE
          (nE
            (sumD (eV x))) ==
        30) &&
    true) =
  true → True) ∧
        p
  (V.d
    (D.lit
      (Value.bool
        (bif
            bif
                checkE
                    (nE
                      (sumD (eV x))) ==
                  4 then
              true
            else
              checkE
                  (nE
                    (sumD (eV x))) ==
                30 then
          true
        else false))))) else
        ((((bif
        ((bif
                checkE
                    (nE
                      (sumD (eV x))) !=
                  0 then
              0
            else
              typeE
                (nE
                  (sumD (eV x)))) ==
            2) ==
          ((bif checkE (nE (eV x)) != 0 then 0 else typeE (nE (eV x))) == 2) then
      ((bif
              checkE
                  (nE
                    (sumD (eV x))) !=
                0 then
            checkE
              (nE
                (sumD (eV x)))
          else
            bif
                typeE
                    (nE
                      (sumD (eV x))) ==
                  0 then
              15
            else 0) ==
          0) ==
        ((bif checkE (nE (eV x)) != 0 then 0 else typeE (nE (eV x))) == 2)
    else false) &&
    true) =
  true → True) ∧
        p
  (V.d
    (D.lit
      (Value.bool
        (bif
            bif
                ((bif
                        checkE
                            (nE
                              (sumD (eV x))) !=
                          0 then
                      0
                    else
                      typeE
                        (nE
                          (sumD (eV x)))) ==
                    2) ==
                  ((bif checkE (nE (eV x)) != 0 then 0 else typeE (nE (eV x))) == 2) then
              ((bif
                      checkE
                          (nE
                            (sumD (eV x))) !=
                        0 then
                    checkE
                      (nE
                        (sumD (eV x)))
                  else
                    bif
                        typeE
                            (nE
                              (sumD (eV x))) ==
                          0 then
                      15
                    else 0) ==
                  0) ==
                ((bif checkE (nE (eV x)) != 0 then 0 else typeE (nE (eV x))) == 2)
            else false then
          true
        else false))))))))) else
      ((FitE
  (nE
    (bothD (opF op) (eV x) (eV y))) ∧ SameRep
  (bothD (opF op) (eV x) (eV y))
  (nE
    (bothD (opF op) (eV x) (eV y)))) ∧
      (bif bif
    bif
        checkE
            (nE
              (bothD (opF op) (eV x) (eV y))) ==
          0 then
      bif
          (bif
                checkE
                    (nE
                      (bothD (opF op) (eV x) (eV y))) !=
                  0 then
              0
            else
              typeE
                (nE
                  (bothD (opF op) (eV x) (eV y)))) !=
            0 then
        true
      else
        (bif
              checkE
                  (nE
                    (bothD (opF op) (eV x) (eV y))) !=
                0 then
            checkE
              (nE
                (bothD (opF op) (eV x) (eV y)))
          else
            bif
                typeE
                    (nE
                      (bothD (opF op) (eV x) (eV y))) ==
                  0 then
              15
            else 0) !=
          15
    else false then
  true
else
  bif
      bif
          checkE
              (nE
                (bothD (opF op) (eV x) (eV y))) !=
            0 then
        checkE
            (nE
              (bothD (opF op) (eV x) (eV y))) !=
          4
      else false then
    checkE
        (nE
          (bothD (opF op) (eV x) (eV y))) !=
      30
  else false then
       p (V.d (D.lit (Value.bool false))) else
       ((FitE
  (nE
    (sumD (eV x))) ∧ SameRep
  (sumD (eV x))
  (nE
    (sumD (eV x)))) ∧
       (bif checkE
    (nE
      (sumD (eV x))) !=
  0 then
        ((((bif
        checkE
            (nE
              (sumD (eV x))) ==
          4 then
      true
    else
      checkE
          (nE
            (sumD (eV x))) ==
        30) &&
    true) =
  true → True) ∧
        p
  (V.d
    (D.lit
      (Value.bool
        (bif
            bif
                checkE
                    (nE
                      (sumD (eV x))) ==
                  4 then
              true
            else
              checkE
                  (nE
                    (sumD (eV x))) ==
                30 then
          true
        else false))))) else
        ((((bif
        ((bif
                checkE
                    (nE
                      (sumD (eV x))) !=
                  0 then
              0
            else
              typeE
                (nE
                  (sumD (eV x)))) ==
            2) ==
          ((bif checkE (nE (eV x)) != 0 then 0 else typeE (nE (eV x))) == 2) then
      ((bif
              checkE
                  (nE
                    (sumD (eV x))) !=
                0 then
            checkE
              (nE
                (sumD (eV x)))
          else
            bif
                typeE
                    (nE
                      (sumD (eV x))) ==
                  0 then
              15
            else 0) ==
          0) ==
        ((bif checkE (nE (eV x)) != 0 then 0 else typeE (nE (eV x))) == 2)
    else false) &&
    true) =
  true → True) ∧
        p
  (V.d
    (D.lit
      (Value.bool
        (bif
            bif
                ((bif
                        checkE
                            (nE
                              (sumD (eV x))) !=
                          0 then
                      0
                    else
                      typeE
                        (nE
                          (sumD (eV x)))) ==
                    2) ==
                  ((bif checkE (nE (eV x)) != 0 then 0 else typeE (nE (eV x))) == 2) then
              ((bif
                      checkE
                          (nE
                            (sumD (eV x))) !=
                        0 then
                    checkE
                      (nE
                        (sumD (eV x)))
                  else
                    bif
                        typeE
                            (nE
                              (sumD (eV x))) ==
                          0 then
                      15
                    else 0) ==
                  0) ==
                ((bif checkE (nE (eV x)) != 0 then 0 else typeE (nE (eV x))) == 2)
            else false then
          true
        else false)))))))))))))))))))) := by kernel_rfl
theorem opF_eq {op : Int} (h0 : 0 ≤ op) (h1 : op < 256) : 1 ≤ opF op ∧ opF op ≤ 10 := by
  unfold opF
  rw [Go.IntWalk.i64_in op (by omega)]
  have h2 : op.tmod 10 = op % 10 := Int.tmod_eq_emod_of_nonneg h0
  rw [h2, Go.IntWalk.i64_in _ (by omega)]
  omega
def bT (f a b : Int) : Int := bif bif bif a != 1 then a != 2 else false then true else bif b != 1 then b != 2 else false then 0 else bif bif a == 2 then b == 2 else false then 2 else bif bif a == 2 then true else b == 2 then 2 else bif decide (f ≥ 5) then 0 else 1
theorem both_exprs (x y : D) : exprE (nE (bothD 1 x y)) = 0 ∧ exprE (nE (bothD 2 x y)) = 0 ∧ exprE (nE (bothD 3 x y)) = 0 ∧ exprE (nE (bothD 4 x y)) = 0 ∧ exprE (nE (bothD 5 x y)) = 0 ∧ exprE (nE (bothD 6 x y)) = 0 ∧ exprE (nE (bothD 7 x y)) = 0 ∧ exprE (nE (bothD 8 x y)) = 0 ∧ exprE (nE (bothD 9 x y)) = 0 ∧ exprE (nE (bothD 10 x y)) = 0 := ⟨(by kernel_rfl), (by kernel_rfl), (by kernel_rfl), (by kernel_rfl), (by kernel_rfl), (by kernel_rfl), (by kernel_rfl), (by kernel_rfl), (by kernel_rfl), (by kernel_rfl)⟩
theorem both_expr {f : Int} {x y : D} (h1 : 1 ≤ f) (h2 : f ≤ 10) : exprE (nE (bothD f x y)) = 0 := by
  have : f = 1 ∨ f = 2 ∨ f = 3 ∨ f = 4 ∨ f = 5 ∨ f = 6 ∨ f = 7 ∨ f = 8 ∨ f = 9 ∨ f = 10 := by omega
  obtain ⟨k1, k2, k3, k4, k5, k6, k7, k8, k9, k10⟩ := both_exprs x y
  rcases this with rfl | rfl | rfl | rfl | rfl | rfl | rfl | rfl | rfl | rfl
  · exact k1
  · exact k2
  · exact k3
  · exact k4
  · exact k5
  · exact k6
  · exact k7
  · exact k8
  · exact k9
  · exact k10
theorem both_types (r : D → Int) (x y : D) : typeT r (nE (bothD 1 x y)) = bT 1 (r x) (r y) ∧ typeT r (nE (bothD 2 x y)) = bT 2 (r x) (r y) ∧ typeT r (nE (bothD 3 x y)) = bT 3 (r x) (r y) ∧ typeT r (nE (bothD 4 x y)) = bT 4 (r x) (r y) ∧ typeT r (nE (bothD 5 x y)) = bT 5 (r x) (r y) ∧ typeT r (nE (bothD 6 x y)) = bT 6 (r x) (r y) ∧ typeT r (nE (bothD 7 x y)) = bT 7 (r x) (r y) ∧ typeT r (nE (bothD 8 x y)) = bT 8 (r x) (r y) ∧ typeT r (nE (bothD 9 x y)) = bT 9 (r x) (r y) ∧ typeT r (nE (bothD 10 x y)) = bT 10 (r x) (r y) := ⟨(by kernel_rfl), (by kernel_rfl), (by kernel_rfl), (by kernel_rfl), (by kernel_rfl), (by kernel_rfl), (by kernel_rfl), (by kernel_rfl), (by kernel_rfl), (by kernel_rfl)⟩
theorem both_type {f : Int} {x y : D} (h1 : 1 ≤ f) (h2 : f ≤ 10) : typeE (nE (bothD f x y)) = bT f (typeE x) (typeE y) := by
  rw [typeE_eq]
  have : f = 1 ∨ f = 2 ∨ f = 3 ∨ f = 4 ∨ f = 5 ∨ f = 6 ∨ f = 7 ∨ f = 8 ∨ f = 9 ∨ f = 10 := by omega
  obtain ⟨k1, k2, k3, k4, k5, k6, k7, k8, k9, k10⟩ := both_types typeE x y
  rcases this with rfl | rfl | rfl | rfl | rfl | rfl | rfl | rfl | rfl | rfl
  · exact k1
  · exact k2
  · exact k3
  · exact k4
  · exact k5
  · exact k6
  · exact k7
  · exact k8
  · exact k9
  · exact k10
theorem sum_expr {x : D} : exprE (nE (sumD x)) = 0 := by kernel_rfl
theorem sum_type {x : D} : typeE (nE (sumD x)) = bif typeE x != 2 then 0 else 2 := by
  rw [typeE_eq]
  kernel_rfl
theorem search_none {f : D → Int} {xs : List D} (h : ∀ a ∈ xs, f a = 0) : search (firstF f xs) xs.length = none := by
  have key : ∀ n i, i + n = xs.length → rounds (fun i _ => ofOpt (firstF f xs i)) n i () = .inl () := by
    intro n
    induction n with
    | zero => intro i _; rfl
    | succ n ih =>
      intro i hi
      unfold rounds
      have h1 : firstF f xs i = none := by
        unfold firstF
        rw [h _ (getD_mem (xs := xs) (i := i) (by omega))]
        rfl
      simp only [h1, ofOpt]
      exact ih (i + 1) (by omega)
  unfold search
  rw [key xs.length 0 (by omega)]
theorem partsE_mk {b : D} (hv : eV b = b) (he : exprE b = 0) (ha : ∀ a ∈ subs b 15, partsE a = 0) : partsE b = 0 := by
  rw [partsE_eq]
  unfold partsT
  rw [hv, he, search_none ha]
  rfl
theorem checkE_3 {b : D} (hv : eV b = b) (h : partsE b = 0) : checkE b = 0 ∨ checkE b = 4 ∨ checkE b = 30 := by
  unfold checkE
  rw [hv, h]
  cases decide ((↑(cap (etot b)) : Int) > 100) with
  | true => exact .inr (.inl rfl)
  | false => cases decide ((↑(edep b) : Int) > 12) with
    | true => exact .inr (.inr rfl)
    | false => exact .inl rfl
theorem both_v {f : Int} {x y : D} : eV (nE (bothD f x y)) = nE (bothD f x y) := by kernel_rfl
theorem sum_v {x : D} : eV (nE (sumD x)) = nE (sumD x) := by kernel_rfl
theorem fit0 : FitP (.agg [.lit (.int .i64 0), .slice true 4 [], .slice true 3 []]) :=
  FitP.mk (y := .agg [.lit (.int .i64 0), .slice true 4 [], .slice true 3 []]) rfl ⟨Nat.zero_le _, Nat.zero_le _⟩ (by intro c hc; cases hc) (by intro c hc; cases hc)
theorem both_fit {f : Int} {x y : D} (hx : FitE x) (hy : FitE y) : FitE (nE (bothD f x y)) := by
  refine FitE.mk both_v ⟨⟨Nat.zero_le _, Nat.zero_le _⟩, Nat.zero_le _, ?_⟩ (by intro c hc; cases hc) (by intro c hc; cases hc) (by intro c hc; cases hc) fit0 ?_
  · show [x, y].length ≤ _
    simp
  · intro a ha
    have ha : a ∈ [x, y] := ha
    simp only [List.mem_cons, List.not_mem_nil, or_false] at ha
    rcases ha with rfl | rfl
    · exact hx
    · exact hy
theorem sum_fit {x : D} (hx : FitE x) : FitE (nE (sumD x)) := by
  refine FitE.mk sum_v ⟨⟨Nat.zero_le _, Nat.zero_le _⟩, Nat.zero_le _, ?_⟩ (by intro c hc; cases hc) (by intro c hc; cases hc) (by intro c hc; cases hc) fit0 ?_
  · show [x].length ≤ _
    simp
  · intro a ha
    have ha : a ∈ [x] := ha
    simp only [List.mem_cons, List.not_mem_nil, or_false] at ha
    subst ha; exact hx
def SubL : List D → List D → Prop
  | [], [] => True
  | a :: l, b :: m => (b = a ∨ ∃ z z', a = .slice true z [] ∧ b = .slice true z' []) ∧ SubL l m
  | _, _ => False
theorem SubL.rep {w : World} {lim : Nat → Nat} : ∀ {l m : List D} {vs : List Value}, SubL l m → RepDs w lim l vs → RepDs w lim m vs
  | [], [], _, _, h => h
  | [], b :: m, _, h, _ => h.elim
  | a :: l, [], _, h, _ => h.elim
  | a :: l, b :: m, _, ⟨h1, h2⟩, .cons h t => by
    refine .cons ?_ (h2.rep t)
    rcases h1 with rfl | ⟨z, z', rfl, rfl⟩
    · exact h
    · cases h; exact .nils
theorem same_agg {l m : List D} (h : SubL l m) : SameRep (.agg l) (.agg m) := fun w lim v hr => by
  cases hr with
  | agg h1 h2 => exact .agg (h.rep h1) h2
theorem same_refl (x : D) : SameRep x x := fun _ _ _ h => h
theorem both_same {f : Int} {x y : D} : SameRep (bothD f x y) (nE (bothD f x y)) :=
  same_agg ⟨.inl rfl, .inl rfl, .inr ⟨_, _, rfl, rfl⟩, .inl rfl, .inl rfl, .inl rfl, .inl rfl, .inr ⟨_, _, rfl, rfl⟩, .inl rfl, .inl rfl, .inr ⟨_, _, rfl, rfl⟩, .inl rfl, .inr ⟨_, _, rfl, rfl⟩, .inr ⟨_, _, rfl, rfl⟩, .inl rfl, .inl rfl, trivial⟩
theorem sum_same {x : D} : SameRep (sumD x) (nE (sumD x)) :=
  same_agg ⟨.inl rfl, .inl rfl, .inr ⟨_, _, rfl, rfl⟩, .inl rfl, .inl rfl, .inl rfl, .inl rfl, .inr ⟨_, _, rfl, rfl⟩, .inl rfl, .inl rfl, .inr ⟨_, _, rfl, rfl⟩, .inl rfl, .inr ⟨_, _, rfl, rfl⟩, .inr ⟨_, _, rfl, rfl⟩, .inl rfl, .inl rfl, trivial⟩
theorem ext_same {K : FuncId} {x y r : D} (hs : SameRep x y) (h : ExtOk B K [y] r) : ExtOk B K [x] r :=
  ⟨h.1, fun w lim vs a b c => h.2 w lim vs a b (by
    obtain ⟨vs⟩ := vs
    cases c with
    | cons h1 t => exact .cons (hs w lim _ h1) t)⟩
theorem k14r (hk : TabOk B T14) : TabOk B T14r := by
  have k17r : TabOk B (T14.add 17 c17r) := add_ok hk fun ds r hp hr => by
    unfold c17r at hp hr
    simp only [] at hr hp
    split at hr
    · rename_i x
      cases hr
      exact ext_same hp.2 (hk 17 c17 [nE x] _ (by kernel_rfl) hp.1 rfl)
    · cases hr
  refine add_ok k17r fun ds r hp hr => ?_
  unfold c15r at hp hr
  simp only [] at hr hp
  split at hr
  · rename_i x
    cases hr
    exact ext_same hp.2 (hk 15 c15 [nE x] _ (by kernel_rfl) hp.1 rfl)
  · cases hr
theorem ce_of {c t : Int} (h : ((bif c != 0 then c else bif t == 0 then 15 else 0) != 0) = false) : c = 0 ∧ t ≠ 0 := by
  by_cases hc : c = 0
  · subst hc
    refine ⟨rfl, fun ht => ?_⟩
    subst ht
    simp at h
  · have : (c != 0) = true := by simpa using hc
    rw [this] at h
    simp at h
    exact absurd h hc
noncomputable def c10 : Ct := ⟨fun | [x, y, .lit (.int .u8 op)] => FitE x ∧ FitE y ∧ 0 ≤ op ∧ op < 256 | _ => False, fun | [x, y, .lit (.int .u8 op)] => some (.lit (.bool true)) | _ => none⟩
theorem arg3b {x y z a b : D} (h : a = x) (h2 : b = y) : [x, y, z].map V.d = [V.d a, V.d b, V.d z] := by rw [h, h2]; rfl
theorem k10 (hk : TabOk B T14) : TabOk B (T14r.add 10 c10) := by
  refine add_body base (k14r hk) (fn := Tryz.f10) (cd := bodyOf Tryz.f10) (sp := noSp) (hn := noHn) Tryz.func10 (by kernel_rfl) (by kernel_rfl) noSp_ok fun ds r hp hr => ?_
  unfold c10 at hp hr
  simp only [] at hr hp
  split at hr
  · rename_i x y op
    cases hr
    obtain ⟨hfx, hfy, h0, h1⟩ := hp
    rw [arg3b (FitE.v hfx) (FitE.v hfy)]
    refine keep (w10 x y op fun v => v = _) ?_
    rw [FitE.v hfx, FitE.v hfy]
    have nx : nE x = x := FitE.v hfx
    have ny : nE y = y := FitE.v hfy
    rw [nx, ny]
    obtain ⟨hf1, hf2⟩ := opF_eq h0 h1
    generalize opF op = f at hf1 hf2 ⊢
    have hbf := both_fit (f := f) hfx hfy
    have hsf := sum_fit hfx
    have hbs := both_same (f := f) (x := x) (y := y)
    have hss := sum_same (x := x)
    refine ⟨hfx, fun _ => hfy, cond_split (fun h => ⟨trivial, rfl⟩) (fun h => ⟨⟨hfx, same_refl x⟩, ⟨hfy, same_refl y⟩, cond_split (fun h => ⟨trivial, rfl⟩) (fun h2 => ⟨⟨rfl, by decide⟩, ⟨hsf, hss⟩, ⟨hbf, hbs⟩, ?_⟩)⟩)⟩
    have hxy := or_f h2
    obtain ⟨cx, tx⟩ := ce_of hxy.1
    obtain ⟨cy, ty⟩ := ce_of hxy.2
    have px := (k15w cx hfx.v).2.2
    have py := (k15w cy hfy.v).2.2
    have hb3 := checkE_3 (b := nE (bothD f x y)) both_v (partsE_mk both_v (both_expr hf1 hf2) (fun a ha => by
      have ha : a ∈ [x, y] := ha
      simp only [List.mem_cons, List.not_mem_nil, or_false] at ha
      rcases ha with rfl | rfl
      · exact px
      · exact py))
    have hs3 := checkE_3 (b := nE (sumD x)) sum_v (partsE_mk sum_v sum_expr (fun a ha => by
      have ha : a ∈ [x] := ha
      simp only [List.mem_cons, List.not_mem_nil, or_false] at ha
      subst ha; exact px))
    have tb := both_type (x := x) (y := y) hf1 hf2
    have ts := sum_type (x := x)
    rw [tb, ts, cx, cy]
    have P1 : (FitE (nE (bothD f x y)) ∧ SameRep (bothD f x y) (nE (bothD f x y))) = True := by simp [hbf, hbs]
    have P2 : (FitE (nE (sumD x)) ∧ SameRep (sumD x) (nE (sumD x))) = True := by simp [hsf, hss]
    rw [P1, P2]
    have f5 : decide (f ≥ 5) = !decide (f ≤ 4) := by
      by_cases h : f ≤ 4
      · have : ¬ f ≥ 5 := by omega
        simp [h, this]
      · have : f ≥ 5 := by omega
        simp [h, this]
    unfold bT
    rw [f5]
    generalize checkE (nE (bothD f x y)) = c at hb3 ⊢
    generalize checkE (nE (sumD x)) = d at hs3 ⊢
    generalize typeE x = a
    generalize typeE y = b
    generalize decide (f ≤ 4) = q
    clear hbf hsf hbs hss hxy h2 P1 P2 tb ts
    have e0 : ((0 : Int) != 0) = false := rfl
    simp only [e0, cond_false, bne]
    generalize hp1 : (a == 1) = p1
    generalize hp2 : (a == 2) = p2
    generalize hq1 : (b == 1) = q1
    generalize hq2 : (b == 2) = q2
    rcases hb3 with rfl | rfl | rfl <;> rcases hs3 with rfl | rfl | rfl <;> cases p1 <;> cases p2 <;> cases q1 <;> cases q2 <;> cases q <;> simp_all
  · cases hr
end Go.Ev.R2
end
