/- What the proofs of the lexer's laws share, part 7 of 7. -/
import Derived.Lib.IndexLaws
import Derived.Test.YteokilkcchdeiaaGreatDoorU6
import Derived.Test.YteokilkcchdeiaaGreatDoorU1
import Derived.Test.YteokilkcchdeiaaGreatDoorU4
set_option linter.unusedVariables false
set_option linter.unusedSimpArgs false
section
namespace Go.Proofs.YteokilkcchdeiaaGreatDoor.X
open Go.RowKit Go.Shelf Go.Proofs.YteokilkcchdeiaaGreatDoor Go.Proofs.YteokilkcchdeiaaGreatDoorW.PrintWords Go.Proofs.YteokilkcchdeiaaGreatDoorW.PrintLast Go.Proofs.YteokilkcchdeiaaGreatDoorW.PrintMore Go.Proofs.YteokilkcchdeiaaGreatDoor.Q
set_option linter.unusedVariables false
theorem td (a b : Nat) : Int.tdiv (a : Int) (b : Int) = ((a / b : Nat) : Int) := by
  rw [Int.tdiv_eq_ediv_of_nonneg (Int.natCast_nonneg _)]; rfl
theorem tm (a b : Nat) : Int.tmod (a : Int) (b : Int) = ((a % b : Nat) : Int) := by
  rw [Int.tmod_eq_emod_of_nonneg (Int.natCast_nonneg _)]; rfl
def checkP (num den : Int) : Int := if den < 1 ∨ 1152921504606846976 < den ∨ num < -1152921504606846976 ∨ 1152921504606846976 < num then 1 else if Nat.gcd num.natAbs den.toNat = 1 then 0 else 1
theorem magnitude_abs (n : Int) (h : -1152921504606846976 ≤ n) (h2 : n ≤ 1152921504606846976) : ratio_magnitude.f n = some ((n.natAbs : Nat) : Int) := by
  unfold ratio_magnitude.f
  split
  · congr 1
    simp [IntKind.wrap, IntKind.bits]
    omega
  · congr 1
    simp [IntKind.wrap, IntKind.bits]
    omega
theorem u64_wrap {n : Int} (h : 0 ≤ n) (h2 : n ≤ 1152921504606846976) : IntKind.u64.wrap n = n := by
  simp [IntKind.wrap, IntKind.bits]
  omega
theorem check_f (num den : Int) (k : Nat) (hk : den.toNat + 3 ≤ k) : ratio_Check.f k num den = some (checkP num den) := by
  obtain ⟨k, rfl⟩ : ∃ m, k = m + 2 := ⟨k - 2, by omega⟩
  have hj1 : ∀ b : Bool, (b = true → checkP num den = 1) → (b = false → 1 ≤ den ∧ den ≤ 1152921504606846976 ∧ -1152921504606846976 ≤ num ∧ num ≤ 1152921504606846976) → ratio_Check.j1 (k + 1) b num den = some (checkP num den) := by
    intro b h1 h2
    unfold ratio_Check.j1
    (try dsimp only)
    cases b with
    | true => rw [if_pos rfl, h1 rfl]
    | false =>
      obtain ⟨g1, g2, g3, g4⟩ := h2 rfl
      rw [if_neg Bool.false_ne_true, magnitude_abs num g3 g4, Option.bind_some, u64_wrap (by omega) g2]
      unfold ratio_divisor.f
      have h := divisor_gcd den.toNat num.natAbs k (by omega)
      rw [show ((den.toNat : Nat) : Int) = den by omega] at h
      rw [h, Option.bind_some]
      have hp : checkP num den = if Nat.gcd num.natAbs den.toNat = 1 then 0 else 1 := by unfold checkP; rw [if_neg (by omega)]
      rw [hp]
      by_cases hg : Nat.gcd num.natAbs den.toNat = 1
      · have hg2 : ((Nat.gcd num.natAbs den.toNat : Nat) : Int) = 1 := by rw [hg]; rfl
        rw [if_pos hg2, if_pos hg]
      · have hg2 : ¬ ((Nat.gcd num.natAbs den.toNat : Nat) : Int) = 1 := fun h => hg (Int.ofNat_inj.1 h)
        rw [if_neg hg2, if_neg hg]
  have hj0 : ∀ b : Bool, (b = true → checkP num den = 1) → (b = false → 1 ≤ den ∧ den ≤ 1152921504606846976) → ratio_Check.j0 (k + 2) b num den = some (checkP num den) := by
    intro b h1 h2
    unfold ratio_Check.j0
    (try dsimp only)
    cases b with
    | true => rw [if_pos rfl, h1 rfl]
    | false =>
      obtain ⟨g1, g2⟩ := h2 rfl
      rw [if_neg Bool.false_ne_true]
      by_cases hn : num < -1152921504606846976
      · rw [if_pos hn]
        exact hj1 true (fun _ => by unfold checkP; rw [if_pos (by omega)]) (fun h => by cases h)
      · rw [if_neg hn]
        refine hj1 _ (fun h => ?_) (fun h => ?_)
        · have := of_decide_eq_true h
          unfold checkP; rw [if_pos (by omega)]
        · have := of_decide_eq_false h
          omega
  unfold ratio_Check.f
  by_cases hd : den < 1
  · rw [if_pos hd]
    exact hj0 true (fun _ => by unfold checkP; rw [if_pos (by omega)]) (fun h => by cases h)
  · rw [if_neg hd]
    refine hj0 _ (fun h => ?_) (fun h => ?_)
    · have := of_decide_eq_true h
      unfold checkP; rw [if_pos (by omega)]
    · have := of_decide_eq_false h
      omega
theorem check_ok {num den : Int} (h : checkP num den = 0) : 1 ≤ den ∧ den ≤ 1152921504606846976 ∧ -1152921504606846976 ≤ num ∧ num ≤ 1152921504606846976 ∧ Nat.gcd num.natAbs den.toNat = 1 := by
  unfold checkP at h
  split at h
  · cases h
  · split at h
    · rename_i hg; exact ⟨by omega, by omega, by omega, by omega, hg⟩
    · cases h
def formatP (num den : Int) : List UInt8 := if den = 1 then Lib.itoa num else Lib.itoa num ++ 47 :: Lib.itoa den
theorem format_f (num den : Int) (k : Nat) (hk : den.toNat + 3 ≤ k) (h : checkP num den = 0) : ratio_Format.f k num den = some ⟨(formatP num den).toArray⟩ := by
  obtain ⟨h1, h2, h3, h4, h5⟩ := check_ok h
  unfold ratio_Format.f
  rw [check_f num den k hk, Option.bind_some, if_pos h]
  unfold strconv_Itoa.f
  rw [if_pos (by omega), Option.bind_some]
  unfold formatP
  by_cases hd : den = 1
  · rw [if_pos hd, if_pos hd]
  · have l1 := Lib.itoa_length_le num (by omega) (by omega)
    have l2 := Lib.itoa_length_le den (by omega) (by omega)
    have z : ∀ l : List UInt8, (⟨l.toArray⟩ : ByteArray).size = l.length := fun l => by simp [ByteArray.size]
    rw [if_neg hd, if_neg hd, if_pos (by omega), Option.bind_some, z, if_pos (by omega)]
    have e : (⟨#[47]⟩ : ByteArray) ++ ⟨(Lib.itoa den).toArray⟩ = ⟨(47 :: Lib.itoa den).toArray⟩ := by
      apply ByteArray.ext; simp
    rw [e, z, z, if_pos (by simp only [List.length_cons]; omega)]
    congr 1
def pl (den : Nat) : Nat → Nat → Nat
  | 0, i => i
  | m + 1, i => if 10 ^ i % den = 0 then i else pl den m (i + 1)
theorem pl_le (den : Nat) : ∀ m i, i ≤ pl den m i ∧ pl den m i ≤ i + m
  | 0, i => by simp [pl]
  | m + 1, i => by
    unfold pl
    split
    · omega
    · have := pl_le den m (i + 1); omega
def numT (minus : List UInt8) (a den : Nat) (fm : List UInt8) : List UInt8 :=
  if 10 ^ (pl den 18 0) % den = 0 ∧ (Lib.decDigits (a / den)).length + pl den 18 0 ≤ 18 then
    (if pl den 18 0 = 0 then minus ++ Lib.decDigits (a / den)
     else minus ++ (Lib.decDigits (a / den) ++ 46 :: (List.replicate (pl den 18 0 - (Lib.decDigits (a % den * (10 ^ (pl den 18 0) / den))).length) 48 ++ Lib.decDigits (a % den * (10 ^ (pl den 18 0) / den)))))
  else fm
theorem p10_le {i : Nat} (h : i ≤ 18) : 1 ≤ 10 ^ i ∧ 10 ^ i ≤ 1000000000000000000 := by
  have h1 : (10 : Nat) ^ i ≤ 10 ^ 18 := Nat.pow_le_pow_right (by decide) h
  have h2 : (10 : Nat) ^ 18 = 1000000000000000000 := by decide
  have h3 : 1 ≤ (10 : Nat) ^ i := Nat.pos_of_ne_zero (by simp)
  omega
theorem rest_lt {a den i : Nat} (hd : 1 ≤ den) : a % den * (10 ^ i / den) < 10 ^ i := by
  have h1 := Nat.mod_lt a (show 0 < den by omega)
  have h3 : 1 ≤ (10 : Nat) ^ i := Nat.pos_of_ne_zero (by simp)
  by_cases hq : 10 ^ i / den = 0
  · rw [hq]; omega
  · have h2 : den * (10 ^ i / den) ≤ 10 ^ i := Nat.mul_div_le _ _
    have h4 : a % den * (10 ^ i / den) < den * (10 ^ i / den) := Nat.mul_lt_mul_of_pos_right h1 (Nat.pos_of_ne_zero hq)
    omega
theorem rest_len {a den i : Nat} (hd : 1 ≤ den) (hi : 1 ≤ i) : (Lib.decDigits (a % den * (10 ^ i / den))).length ≤ i := by
  obtain ⟨j, rfl⟩ : ∃ j, i = j + 1 := ⟨i - 1, by omega⟩
  exact dd_len j _ (rest_lt hd)
theorem num_j3' (minus : List UInt8) (hmin : minus.length ≤ 1) (a den : Nat) (num : Int) (i k : Nat) (b : Bool) (hi : i = pl den 18 0) (ha : a ≤ 1152921504606846976) (hd : 1 ≤ den) (hd2 : den ≤ 1152921504606846976) (hk : den + 4 ≤ k) (hc : checkP num den = 0)
    (hb : b = false ↔ (10 ^ i % den = 0 ∧ (Lib.decDigits (a / den)).length + i ≤ 18)) :
    lexer_Number.j3 k ⟨minus.toArray⟩ a ⟨(Lib.decDigits (a / den)).toArray⟩ i ((10 ^ i : Nat) : Int) b num den = some ⟨(numT minus a den (formatP num den)).toArray⟩ := by
  obtain ⟨k, rfl⟩ : ∃ m, k = m + 1 := ⟨k - 1, by omega⟩
  have z : ∀ l : List UInt8, (⟨l.toArray⟩ : ByteArray).size = l.length := fun l => by simp [ByteArray.size]
  have app : ∀ l m : List UInt8, (⟨l.toArray⟩ : ByteArray) ++ ⟨m.toArray⟩ = ⟨(l ++ m).toArray⟩ := fun l m => by apply ByteArray.ext; simp
  obtain ⟨hi0, hi18⟩ := pl_le den 18 0
  unfold lexer_Number.j3 numT
  (try dsimp only)
  rw [← hi] at hi18 ⊢
  cases b with
  | true =>
    rw [if_pos rfl, format_f num den k (by omega) hc, Option.bind_some, if_neg (by intro h; exact absurd (hb.2 h) (by decide))]
  | false =>
    have hc2 := hb.1 rfl
    obtain ⟨p1, p2⟩ := p10_le (show i ≤ 18 by omega)
    have hw : (Lib.decDigits (a / den)).length ≤ 18 := by omega
    rw [if_neg Bool.false_ne_true, if_pos hc2]
    by_cases h0 : i = 0
    · rw [if_pos (by omega), if_pos h0, z, z, if_pos (by omega), app]
    · have hr := rest_len (a := a) hd (show 1 ≤ i by omega)
      have hlt := rest_lt (a := a) (i := i) hd
      have hq : 10 ^ i / den ≤ 10 ^ i := Nat.div_le_self _ _
      rw [if_neg (by omega), if_neg h0, if_neg (by omega)]
      have e1 : wrap64 (Int.tdiv ((10 ^ i : Nat) : Int) (den : Int)) = ((10 ^ i / den : Nat) : Int) := by
        rw [td]
        generalize 10 ^ i / den = q at hq
        exact w64 (by omega) (by omega)
      have e2 : Int.tmod (a : Int) (den : Int) = ((a % den : Nat) : Int) := tm _ _
      have e3 : wrap64 (((a % den : Nat) : Int) * ((10 ^ i / den : Nat) : Int)) = ((a % den * (10 ^ i / den) : Nat) : Int) := by
        rw [show (((a % den : Nat) : Int) * ((10 ^ i / den : Nat) : Int)) = ((a % den * (10 ^ i / den) : Nat) : Int) from (Int.natCast_mul _ _).symm]
        generalize a % den * (10 ^ i / den) = r at hlt
        exact w64 (by omega) (by omega)
      rw [e1, e2, e3]
      generalize a % den * (10 ^ i / den) = r at hr hlt ⊢
      unfold strconv_Itoa.f
      rw [if_pos (by omega), Option.bind_some, Lib.itoa_nonneg]
      simp only [z, app]
      rw [if_pos (by omega), if_pos (by simp only [List.length_append]; omega)]
      rw [w64 (n := (i : Int) - ((Lib.decDigits r).length : Int)) (by omega) (by omega)]
      rw [show ((i : Int) - ((Lib.decDigits r).length : Int)) = ((i - (Lib.decDigits r).length : Nat) : Int) from by omega]
      unfold strings_Repeat.f
      rw [z, if_pos ⟨by omega, by omega, by simp only [List.length_cons, List.length_nil, Int.toNat_natCast]; omega⟩, Option.bind_some]
      have hrep : Lib.repeatL (⟨#[48]⟩ : ByteArray).data.toList ((i - (Lib.decDigits r).length : Nat) : Int).toNat = List.replicate (i - (Lib.decDigits r).length) 48 := by
        rw [Int.toNat_natCast]
        generalize i - (Lib.decDigits r).length = n
        show Lib.repeatL [48] n = _
        induction n with
        | zero => rfl
        | succ n ih => rw [Lib.repeatL, ih, List.replicate_succ]; rfl
      rw [hrep]
      simp only [z, app]
      rw [if_pos (by simp only [List.length_append, List.length_replicate, List.length_cons, List.length_nil]; omega), if_pos (by simp only [List.length_append, List.length_replicate, List.length_cons, List.length_nil]; omega)]
      congr 3
      simp
theorem num_j2' (minus : List UInt8) (hmin : minus.length ≤ 1) (a den : Nat) (num : Int) (i k : Nat) (hi : i = pl den 18 0) (ha : a ≤ 1152921504606846976) (hd : 1 ≤ den) (hd2 : den ≤ 1152921504606846976) (hk : den + 5 ≤ k) (hc : checkP num den = 0) :
    lexer_Number.j2 k ⟨minus.toArray⟩ a ⟨(Lib.decDigits (a / den)).toArray⟩ i ((10 ^ i : Nat) : Int) num den = some ⟨(numT minus a den (formatP num den)).toArray⟩ := by
  obtain ⟨k, rfl⟩ : ∃ m, k = m + 1 := ⟨k - 1, by omega⟩
  have z : ∀ l : List UInt8, (⟨l.toArray⟩ : ByteArray).size = l.length := fun l => by simp [ByteArray.size]
  obtain ⟨hi0, hi18⟩ := pl_le den 18 0
  have hw : (Lib.decDigits (a / den)).length ≤ 20 := dd_len 19 _ (by
    have h1 : a / den ≤ a := Nat.div_le_self _ _
    have h2 : (10 : Nat) ^ (19 + 1) = 100000000000000000000 := by decide
    omega)
  unfold lexer_Number.j2
  (try dsimp only)
  rw [if_neg (by omega)]
  have e2 : Int.tmod ((10 ^ i : Nat) : Int) (den : Int) = ((10 ^ i % den : Nat) : Int) := tm _ _
  rw [e2, z, w64 (n := ((Lib.decDigits (a / den)).length : Int) + (i : Int)) (by omega) (by omega)]
  by_cases hm : 10 ^ i % den = 0
  · rw [if_pos (by omega)]
    refine num_j3' minus hmin a den num i k _ hi ha hd hd2 (by omega) hc ?_
    rw [decide_eq_false_iff_not]
    constructor
    · intro h; exact ⟨hm, by omega⟩
    · rintro ⟨_, h⟩; omega
  · rw [if_neg (by omega)]
    exact num_j3' minus hmin a den num i k true hi ha hd hd2 (by omega) hc ⟨fun h => (by cases h), fun h => absurd h.1 hm⟩
theorem num_l0 (minus : List UInt8) (hmin : minus.length ≤ 1) (a den : Nat) (num : Int) (ha : a ≤ 1152921504606846976) (hd : 1 ≤ den) (hd2 : den ≤ 1152921504606846976) (hc : checkP num den = 0) : ∀ (m i k : Nat), i + m = 18 → pl den m i = pl den 18 0 → den + 6 + m ≤ k →
    lexer_Number.l0 k ⟨minus.toArray⟩ a ⟨(Lib.decDigits (a / den)).toArray⟩ i ((10 ^ i : Nat) : Int) num den = some ⟨(numT minus a den (formatP num den)).toArray⟩ := by
  intro m
  induction m with
  | zero =>
    intro i k him hp hk
    obtain ⟨k, rfl⟩ : ∃ m, k = m + 1 := ⟨k - 1, by omega⟩
    unfold lexer_Number.l0
    (try dsimp only)
    rw [if_neg (by omega)]
    exact num_j2' minus hmin a den num i k hp ha hd hd2 (by omega) hc
  | succ m ih =>
    intro i k him hp hk
    obtain ⟨k, rfl⟩ : ∃ m, k = m + 1 := ⟨k - 1, by omega⟩
    obtain ⟨p1, p2⟩ := p10_le (show i ≤ 18 by omega)
    obtain ⟨p3, p4⟩ := p10_le (show i + 1 ≤ 18 by omega)
    unfold lexer_Number.l0
    (try dsimp only)
    have e2 : Int.tmod ((10 ^ i : Nat) : Int) (den : Int) = ((10 ^ i % den : Nat) : Int) := tm _ _
    rw [if_pos (by omega), if_neg (by omega), e2]
    unfold pl at hp
    by_cases hm : 10 ^ i % den = 0
    · rw [if_pos hm] at hp
      rw [if_pos (by omega)]
      exact num_j2' minus hmin a den num i k hp ha hd hd2 (by omega) hc
    · rw [if_neg hm] at hp
      rw [if_neg (by omega)]
      have e3 : (((10 ^ i : Nat) : Int) * 10) = ((10 ^ (i + 1) : Nat) : Int) := by rw [Nat.pow_succ]; omega
      rw [w64 (n := (i : Int) + 1) (by omega) (by omega), e3, w64 (by omega) (by omega)]
      exact ih (i + 1) k (by omega) hp (by omega)
theorem number_f (num den : Int) (k : Nat) (hk : den.toNat + 30 ≤ k) (hc : checkP num den = 0) :
    lexer_Number.f k num den = some ⟨(numT (if num < 0 then [45] else []) num.natAbs den.toNat (formatP num den)).toArray⟩ := by
  obtain ⟨h1, h2, h3, h4, h5⟩ := check_ok hc
  obtain ⟨den, rfl⟩ : ∃ d : Nat, den = d := ⟨den.toNat, by omega⟩
  rw [Int.toNat_natCast] at h5 hk
  have hj0 : ∀ (minus : List UInt8) (a : Nat), minus.length ≤ 1 → a ≤ 1152921504606846976 → lexer_Number.j0 k ⟨minus.toArray⟩ a num den = some ⟨(numT minus a den (formatP num den)).toArray⟩ := by
    intro minus a hmin ha
    obtain ⟨k, rfl⟩ : ∃ m, k = m + 1 := ⟨k - 1, by omega⟩
    unfold lexer_Number.j0
    (try dsimp only)
    rw [if_neg (by omega)]
    have e1 : wrap64 (Int.tdiv (a : Int) (den : Int)) = ((a / den : Nat) : Int) := by
      rw [td]
      have : a / den ≤ a := Nat.div_le_self _ _
      generalize a / den = q at this
      exact w64 (by omega) (by omega)
    have hle : a / den ≤ a := Nat.div_le_self _ _
    have hi : strconv_Itoa.f ((a / den : Nat) : Int) = some ⟨(Lib.decDigits (a / den)).toArray⟩ := by
      generalize a / den = q at hle
      unfold strconv_Itoa.f
      rw [if_pos (by omega), Lib.itoa_nonneg]
    rw [e1, hi, Option.bind_some]
    exact num_l0 minus hmin a den num ha (by omega) (by omega) hc 18 0 k rfl rfl (by omega)
  unfold lexer_Number.f
  rw [check_f num den k (by omega), Option.bind_some, if_pos hc, Int.toNat_natCast]
  by_cases hn : num < 0
  · rw [if_pos hn, if_pos hn, w64 (n := -num) (by omega) (by omega), show -num = ((num.natAbs : Nat) : Int) by omega]
    exact hj0 [45] _ (by decide) (by omega)
  · rw [if_neg hn, if_neg hn]
    have := hj0 [] num.natAbs (by decide) (by omega)
    rw [show ((num.natAbs : Nat) : Int) = num by omega] at this
    exact this
theorem ref_gcd (b : Nat) : ∀ (a k : Nat), b < k → lookoutref03_gcd.l0 k a b = some ((Nat.gcd a b : Nat) : Int) := by
  induction b using Nat.strongRecOn with
  | _ b ih =>
    intro a k hk
    obtain ⟨k, rfl⟩ : ∃ m, k = m + 1 := ⟨k - 1, by omega⟩
    simp only [lookoutref03_gcd.l0]
    by_cases hb : b = 0
    · subst hb; simp
    · have h1 : ¬ ((b : Int) = 0) := by omega
      have h2 : (Int.tmod (a : Int) (b : Int)) = ((a % b : Nat) : Int) := by
        rw [Int.tmod_eq_emod_of_nonneg (by omega)]; rfl
      have h3 := ih (a % b) (Nat.mod_lt _ (by omega)) b k (by have := Nat.mod_lt a (show 0 < b by omega); omega)
      have h4 : (b : Int) > 0 := by omega
      simp only [h1, h4, if_false, if_true, h2]
      rw [h3, Nat.gcd_comm a b, Nat.gcd_rec b a, Nat.gcd_comm]
theorem ref_check (num den : Int) (k : Nat) (hk : den.toNat < k) (h : checkP num den = 0) : lookoutref03_Check.f k num den = some 0 := by
  obtain ⟨h1, h2, h3, h4, h5⟩ := check_ok h
  unfold lookoutref03_Check.f
  rw [if_neg (by omega), if_neg (by omega), if_neg (by omega), if_neg (by omega)]
  have ha : lookoutref03_abs.f num = some ((num.natAbs : Nat) : Int) := by
    unfold lookoutref03_abs.f
    split
    · rw [w64 (by omega) (by omega)]; congr 1; omega
    · congr 1; omega
  rw [ha, Option.bind_some]
  unfold lookoutref03_gcd.f
  have hg := ref_gcd den.toNat num.natAbs k hk
  rw [show ((den.toNat : Nat) : Int) = den by omega, h5] at hg
  rw [hg, Option.bind_some, if_pos (by decide)]
attribute [local irreducible] numV runN G
attribute [local irreducible] unitP
end Go.Proofs.YteokilkcchdeiaaGreatDoor.X
end
section
namespace Go.Proofs.YteokilkcchdeiaaGreatDoor.Q
open Go.Proofs.YteokilkcchdeiaaGreatDoor
open Go.Proofs.YteokilkcchdeiaaGreatDoor.X
open Go.RowKit Go.Proofs.YteokilkcchdeiaaGreatDoorW.PrintWords Go.Proofs.YteokilkcchdeiaaGreatDoorW.PrintLast Go.Proofs.YteokilkcchdeiaaGreatDoorW.PrintMore
attribute [local go_sem] max2_int min2_int max_two min_two max_three min_three max_four min_four   -- for this text's walks alone
end Go.Proofs.YteokilkcchdeiaaGreatDoor.Q
end
section
namespace Go.Proofs.YteokilkcchdeiaaGreatDoor.X
open Go.RowKit Go.Shelf Go.Proofs.YteokilkcchdeiaaGreatDoor Go.Proofs.YteokilkcchdeiaaGreatDoorW.PrintWords Go.Proofs.YteokilkcchdeiaaGreatDoorW.PrintLast Go.Proofs.YteokilkcchdeiaaGreatDoorW.PrintMore Go.Proofs.YteokilkcchdeiaaGreatDoor.Q
theorem last_eq (s : ByteArray) : ∀ k, k ≤ s.size → Lib.lastIdx s 10 k = Lib.lastOcc s.data.toList [10] k
  | 0, _ => rfl
  | k + 1, h => by
    have ih := last_eq s k (by omega)
    have hg : s.data[k]! = s.data.toList.getD k 0 := by
      rw [List.getD_eq_getElem?_getD, Array.getElem?_toList]
      simp [Array.getElem!_eq_getD, Array.getD_eq_getD_getElem?]
      rfl
    have ho : Lib.occAt s.data.toList [10] k = (s.data.toList.getD k 0 == 10) := by
      unfold Lib.occAt
      have hk : k < s.data.toList.length := by rw [tl_size]; omega
      rw [List.drop_eq_getElem_cons hk, List.getD_eq_getElem?_getD, List.getElem?_eq_getElem hk]
      simp only [List.isPrefixOf, Bool.and_true, Option.getD_some]
      exact Bool.beq_comm
    unfold Lib.lastIdx Lib.lastOcc
    rw [ho, ih, hg]
    by_cases hc : s.data.toList.getD k 0 = 10
    · rw [hc]; rfl
    · have h1 : ((s.data.toList.getD k 0).toNat : Int) ≠ 10 := fun e => hc (UInt8.toNat_inj.1 (by simpa using (by omega : (s.data.toList.getD k 0).toNat = 10)))
      rw [if_neg h1, if_neg (by simpa using hc)]
theorem line_f (k : Nat) (s : ByteArray) (i : Nat) (hi : i ≤ s.size) (hs : s.size ≤ 600) : lexer_Line.f (k + 1) s i = some (((Lib.countByte (s.extract 0 i).data.toList 10 : Nat) : Int) + 1, (i : Int) - Lib.lastIndexByte (s.extract 0 i) 10) := by
  have hz : (s.extract 0 i).size = i := by rw [Lib.extract_upto, ← tl_size]; show (s.data.toList.take i).length = i; rw [List.length_take, tl_size]; omega
  have hb : -1 ≤ Lib.lastIndexByte (s.extract 0 i) 10 ∧ Lib.lastIndexByte (s.extract 0 i) 10 < 1000 := by
    rcases Lib.lastIndexByte_spec (s.extract 0 i) 10 with ⟨h, _⟩ | ⟨j, hj, h, _⟩
    · rw [h]; omega
    · rw [h]; omega
  have hc : Lib.countByte (s.extract 0 i).data.toList 10 ≤ 600 := by
    have := List.count_le_length (a := (10 : UInt8)) (l := (s.extract 0 i).data.toList)
    rw [tl_size, hz] at this
    exact Nat.le_trans this (by omega)
  unfold lexer_Line.f
  rw [if_neg (by omega), show decide ((i : Int) > (s.size : Int)) = false from decide_eq_false (by omega)]
  unfold lexer_Line.j0
  dsimp only
  rw [if_neg Bool.false_ne_true, if_pos (show (0 : Int) ≤ i by omega), if_pos (show (i : Int) ≤ s.size by omega), Int.toNat_natCast]
  unfold strings_Count.f strings_LastIndexByte.f
  rw [show (⟨#[10]⟩ : ByteArray).data.toList = [10] from rfl]
  dsimp only
  rw [if_pos (by omega), Option.bind_some, Option.bind_some]
  rw [w64 (by omega) (by omega), w64 (by omega) (by omega)]
theorem line_far (k : Nat) (s : ByteArray) (i : Int) (hi : i < 0 ∨ (s.size : Int) < i) : lexer_Line.f (k + 1) s i = some (0, 0) := by
  unfold lexer_Line.f
  by_cases h : i < 0
  · rw [if_pos h]; rfl
  · rw [if_neg h, show decide (i > (s.size : Int)) = true from decide_eq_true (by omega)]; rfl
theorem ba_size (l : List UInt8) : (⟨l.toArray⟩ : ByteArray).size = l.length := by simp [ByteArray.size]
theorem ba_app (l m : List UInt8) : (⟨l.toArray⟩ : ByteArray) ++ ⟨m.toArray⟩ = ⟨(l ++ m).toArray⟩ := by apply ByteArray.ext; simp
theorem ba_list (l : List UInt8) : (⟨l.toArray⟩ : ByteArray).toList = l := by rw [Lib.toList_data]
theorem str_nums (l : List UInt8) : strOfNums (l.map fun c => (c.toNat : Int)) = ⟨l.toArray⟩ := by
  unfold strOfNums
  rw [List.map_map]
  congr 2
  induction l with
  | nil => rfl
  | cons c l ih => rw [List.map_cons, ih]; simp
theorem str_dig (d : Nat) (h : d < 10) : strOfNums [(wrap64 (48 + (d : Int))) % 256] = ⟨#[UInt8.ofNat (48 + d)]⟩ := by
  have e : (wrap64 (48 + (d : Int))) % 256 = ((48 + d : Nat) : Int) := by rw [w64 (by omega) (by omega)]; omega
  rw [e]; rfl
theorem dec42 : ∀ (m u k : Nat), u < 10 ^ m → m < k → u ≤ 9223372036854775807 → m ≤ 1000 → lookoutref42_decimal.f k u = some ⟨(Lib.decDigits u).toArray⟩
  | 0, u, k, h, hk, h2, h3 => by
    obtain ⟨k, rfl⟩ : ∃ q, k = q + 1 := ⟨k - 1, by omega⟩
    have hu : u = 0 := by simpa using h
    subst hu
    unfold lookoutref42_decimal.f
    rw [if_pos (by decide), str_dig 0 (by decide), Lib.decDigits_one (by decide)]
  | m + 1, u, k, h, hk, h2, h3 => by
    obtain ⟨k, rfl⟩ : ∃ q, k = q + 1 := ⟨k - 1, by omega⟩
    unfold lookoutref42_decimal.f
    by_cases hu : u < 10
    · rw [if_pos (by omega), str_dig u hu, Lib.decDigits_one hu]
    · have ht : Int.tdiv (u : Int) 10 = ((u / 10 : Nat) : Int) := td u 10
      have hm : Int.tmod (u : Int) 10 = ((u % 10 : Nat) : Int) := tm u 10
      have hq : u / 10 < 10 ^ m := by rw [Nat.pow_succ] at h; omega
      have hlen := dd_len m (u / 10) (by rw [Nat.pow_succ]; omega)
      rw [if_neg (by omega), ht, hm, w64 (n := ((u / 10 : Nat) : Int)) (by omega) (by omega), dec42 m (u / 10) k hq (by omega) (by omega) (by omega), Option.bind_some, Option.bind_some, str_dig (u % 10) (by omega)]
      conv => rhs; rw [Lib.decDigits, dif_neg hu]
      have e1 : (⟨#[UInt8.ofNat (48 + u % 10)]⟩ : ByteArray) = ⟨([UInt8.ofNat (48 + u % 10)] : List UInt8).toArray⟩ := rfl
      rw [e1, ba_size, ba_size, if_pos (by simp only [List.length_cons, List.length_nil]; omega), ba_app]
theorem dec03 : ∀ (m u k : Nat), u < 10 ^ m → m < k → u ≤ 9223372036854775807 → m ≤ 1000 → lookoutref03_decimal.f k u = some ⟨(Lib.decDigits u).toArray⟩
  | 0, u, k, h, hk, h2, h3 => by
    obtain ⟨k, rfl⟩ : ∃ q, k = q + 1 := ⟨k - 1, by omega⟩
    have hu : u = 0 := by simpa using h
    subst hu
    unfold lookoutref03_decimal.f
    rw [if_pos (by decide), str_dig 0 (by decide), Lib.decDigits_one (by decide)]
  | m + 1, u, k, h, hk, h2, h3 => by
    obtain ⟨k, rfl⟩ : ∃ q, k = q + 1 := ⟨k - 1, by omega⟩
    unfold lookoutref03_decimal.f
    by_cases hu : u < 10
    · rw [if_pos (by omega), str_dig u hu, Lib.decDigits_one hu]
    · have ht : Int.tdiv (u : Int) 10 = ((u / 10 : Nat) : Int) := td u 10
      have hm : Int.tmod (u : Int) 10 = ((u % 10 : Nat) : Int) := tm u 10
      have hq : u / 10 < 10 ^ m := by rw [Nat.pow_succ] at h; omega
      have hlen := dd_len m (u / 10) (by rw [Nat.pow_succ]; omega)
      rw [if_neg (by omega), ht, hm, w64 (n := ((u / 10 : Nat) : Int)) (by omega) (by omega), dec03 m (u / 10) k hq (by omega) (by omega) (by omega), Option.bind_some, Option.bind_some, str_dig (u % 10) (by omega)]
      conv => rhs; rw [Lib.decDigits, dif_neg hu]
      have e1 : (⟨#[UInt8.ofNat (48 + u % 10)]⟩ : ByteArray) = ⟨([UInt8.ofNat (48 + u % 10)] : List UInt8).toArray⟩ := rfl
      rw [e1, ba_size, ba_size, if_pos (by simp only [List.length_cons, List.length_nil]; omega), ba_app]
theorem lt20 {u : Nat} (h : u ≤ 9223372036854775807) : u < 10 ^ 20 := by
  have h2 : (10 : Nat) ^ 20 = 100000000000000000000 := by decide
  omega
theorem dur_step (k i L ms : Nat) (name acc : List UInt8) (hL1 : 1 ≤ L) (hL : rd [86400000, 3600000, 60000, 1000, 1] i = L) (hn : rdOf ByteArray.empty [(⟨#[100]⟩ : ByteArray), (⟨#[104]⟩ : ByteArray), (⟨#[109]⟩ : ByteArray), (⟨#[115]⟩ : ByteArray), (⟨#[109, 115]⟩ : ByteArray)] i = ⟨name.toArray⟩) (hi : i < 5) (hk : 30 ≤ k) (hms : ms ≤ 1099511627776) (hacc : acc.length ≤ 1000) (hnl : name.length ≤ 2) :
    lookoutref42_Duration.l0 (k + 1) ms [(⟨#[100]⟩ : ByteArray), (⟨#[104]⟩ : ByteArray), (⟨#[109]⟩ : ByteArray), (⟨#[115]⟩ : ByteArray), (⟨#[109, 115]⟩ : ByteArray)] [86400000, 3600000, 60000, 1000, 1] ⟨acc.toArray⟩ i =
    lookoutref42_Duration.l0 k ((ms % L : Nat) : Int) [(⟨#[100]⟩ : ByteArray), (⟨#[104]⟩ : ByteArray), (⟨#[109]⟩ : ByteArray), (⟨#[115]⟩ : ByteArray), (⟨#[109, 115]⟩ : ByteArray)] [86400000, 3600000, 60000, 1000, 1] ⟨(acc ++ (if 0 < ms / L then Lib.decDigits (ms / L) ++ name else [])).toArray⟩ ((i + 1 : Nat) : Int) := by
  conv => lhs; unfold lookoutref42_Duration.l0
  have hw : wrap64 ((i : Int) + 1) = ((i + 1 : Nat) : Int) := by rw [w64 (by omega) (by omega)]; omega
  have hx5 : (([86400000, 3600000, 60000, 1000, 1] : List Int).length : Int) = 5 := rfl
  have hx4 : (([(⟨#[100]⟩ : ByteArray), (⟨#[104]⟩ : ByteArray), (⟨#[109]⟩ : ByteArray), (⟨#[115]⟩ : ByteArray), (⟨#[109, 115]⟩ : ByteArray)] : List ByteArray).length : Int) = 5 := rfl
  rw [hx5, hx4, hL, hn, hw, if_pos (by omega), if_pos (by omega), if_pos (by omega)]
  have hmod := Nat.div_add_mod ms L
  by_cases hge : L ≤ ms
  · have hq : 0 < ms / L := Nat.div_pos hge (by omega)
    have hle : ms / L ≤ ms := Nat.div_le_self _ _
    rw [if_pos (by omega), if_neg (by omega), if_pos hq, td, tm, w64 (n := ((ms / L : Nat) : Int)) (by generalize ms / L = q at hle; omega) (by generalize ms / L = q at hle; omega)]
    have hdl : (Lib.decDigits (ms / L)).length ≤ 12 + 1 := dd_len 12 _ (by
      have h2 : (10 : Nat) ^ (12 + 1) = 10000000000000 := by decide
      generalize ms / L = q at hle; omega)
    rw [dec42 20 (ms / L) k (by have h2 : (10 : Nat) ^ 20 = 100000000000000000000 := by decide
                                generalize ms / L = q at hle; omega) (by omega) (by generalize ms / L = q at hle; omega) (by omega), Option.bind_some, ba_size, ba_size, ba_app, ba_size, ba_size, if_pos (by omega), if_pos (by omega), if_pos (by rw [List.length_append]; omega), ba_app, List.append_assoc]
  · have hq : ms / L = 0 := Nat.div_eq_of_lt (by omega)
    rw [if_neg (by omega), hq, if_neg (by omega), List.append_nil, Nat.mod_eq_of_lt (by omega)]
theorem textU_cons (u : List UInt8 × Nat × Int) (us : List (List UInt8 × Nat × Int)) (ms : Nat) : textU (u :: us) ms = (if 0 < ms / u.2.1 then Lib.decDigits (ms / u.2.1) ++ u.1 else []) ++ textU us (ms % u.2.1) := by
  conv => lhs; unfold textU
  split
  · rw [List.append_assoc]
  · rfl
theorem part_len (ms L : Nat) (name : List UInt8) (h : ms ≤ 1099511627776) (hn : name.length ≤ 2) : ((if 0 < ms / L then Lib.decDigits (ms / L) ++ name else []) : List UInt8).length ≤ 15 := by
  have hle : ms / L ≤ ms := Nat.div_le_self _ _
  have hdl : (Lib.decDigits (ms / L)).length ≤ 12 + 1 := dd_len 12 _ (by
    have h2 : (10 : Nat) ^ (12 + 1) = 10000000000000 := by decide
    generalize ms / L = q at hle; omega)
  split
  · rw [List.length_append]; omega
  · simp
theorem dur_ref (ms : Int) (k : Nat) (hk : 100 ≤ k) : lookoutref42_Duration.f k ms = lexer_Duration.f ms := by
  obtain ⟨k, rfl⟩ : ∃ q, k = q + 7 := ⟨k - 7, by omega⟩
  unfold lookoutref42_Duration.f lexer_Duration.f
  by_cases hr : ms < 0 ∨ 1099511627776 < ms
  · have hj : lookoutref42_Duration.j0 (k + 7) ms true = some (⟨#[]⟩, 2) := by
      unfold lookoutref42_Duration.j0
      (try dsimp only)
      rw [if_pos rfl]
    rw [if_pos hr]
    by_cases hn : ms < 0
    · rw [if_pos hn]; exact hj
    · rw [if_neg hn, show decide (ms > 1099511627776) = true from decide_eq_true (by omega)]; exact hj
  · rw [if_neg hr, if_neg (by omega), show decide (ms > 1099511627776) = false from decide_eq_false (by omega)]
    unfold lookoutref42_Duration.j0
    (try dsimp only)
    rw [if_neg Bool.false_ne_true]
    by_cases hz : ms = 0
    · rw [if_pos hz, if_pos hz]
    · rw [if_neg hz, if_neg hz]
      obtain ⟨m, rfl⟩ : ∃ m : Nat, ms = m := ⟨ms.toNat, by omega⟩
      rw [durN_text]
      have m1 : m % 86400000 ≤ m := Nat.mod_le _ _
      have m2 : m % 86400000 % 3600000 ≤ m % 86400000 := Nat.mod_le _ _
      have m3 : m % 86400000 % 3600000 % 60000 ≤ m % 86400000 % 3600000 := Nat.mod_le _ _
      have m4 : m % 86400000 % 3600000 % 60000 % 1000 ≤ m % 86400000 % 3600000 % 60000 := Nat.mod_le _ _
      have l1 := part_len m 86400000 [100] (by omega) (by decide)
      have l2 := part_len (m % 86400000) 3600000 [104] (by omega) (by decide)
      have l3 := part_len (m % 86400000 % 3600000) 60000 [109] (by omega) (by decide)
      have l4 := part_len (m % 86400000 % 3600000 % 60000) 1000 [115] (by omega) (by decide)
      have hT : textU unitsD m = ((((([] ++ (if 0 < m / 86400000 then Lib.decDigits (m / 86400000) ++ [100] else [])) ++ (if 0 < m % 86400000 / 3600000 then Lib.decDigits (m % 86400000 / 3600000) ++ [104] else [])) ++ (if 0 < m % 86400000 % 3600000 / 60000 then Lib.decDigits (m % 86400000 % 3600000 / 60000) ++ [109] else [])) ++ (if 0 < m % 86400000 % 3600000 % 60000 / 1000 then Lib.decDigits (m % 86400000 % 3600000 % 60000 / 1000) ++ [115] else [])) ++ (if 0 < m % 86400000 % 3600000 % 60000 % 1000 / 1 then Lib.decDigits (m % 86400000 % 3600000 % 60000 % 1000 / 1) ++ [109, 115] else [])) := by
        unfold unitsD
        rw [textU_cons, textU_cons, textU_cons, textU_cons, textU_cons]
        simp only [textU, List.append_nil, List.nil_append, List.append_assoc]
      rw [hT]
      rw [show (0 : Int) = ((0 : Nat) : Int) from rfl, show (⟨#[]⟩ : ByteArray) = ⟨([] : List UInt8).toArray⟩ from rfl]
      rw [dur_step (k + 5) 0 86400000 m [100] [] (by decide) rfl rfl (by decide) (by omega) (by omega) (by decide) (by decide)]
      generalize hp1 : ([] ++ (if 0 < m / 86400000 then Lib.decDigits (m / 86400000) ++ [100] else []) : List UInt8) = p1 at *
      have q1 : p1.length ≤ 15 := by rw [← hp1, List.nil_append]; exact l1
      rw [dur_step (k + 4) 1 3600000 (m % 86400000) [104] p1 (by decide) rfl rfl (by decide) (by omega) (by omega) (by omega) (by decide)]
      generalize hp2 : (p1 ++ (if 0 < m % 86400000 / 3600000 then Lib.decDigits (m % 86400000 / 3600000) ++ [104] else []) : List UInt8) = p2 at *
      have q2 : p2.length ≤ 30 := by rw [← hp2, List.length_append]; omega
      rw [dur_step (k + 3) 2 60000 (m % 86400000 % 3600000) [109] p2 (by decide) rfl rfl (by decide) (by omega) (by omega) (by omega) (by decide)]
      generalize hp3 : (p2 ++ (if 0 < m % 86400000 % 3600000 / 60000 then Lib.decDigits (m % 86400000 % 3600000 / 60000) ++ [109] else []) : List UInt8) = p3 at *
      have q3 : p3.length ≤ 45 := by rw [← hp3, List.length_append]; omega
      rw [dur_step (k + 2) 3 1000 (m % 86400000 % 3600000 % 60000) [115] p3 (by decide) rfl rfl (by decide) (by omega) (by omega) (by omega) (by decide)]
      generalize hp4 : (p3 ++ (if 0 < m % 86400000 % 3600000 % 60000 / 1000 then Lib.decDigits (m % 86400000 % 3600000 % 60000 / 1000) ++ [115] else []) : List UInt8) = p4 at *
      have q4 : p4.length ≤ 60 := by rw [← hp4, List.length_append]; omega
      rw [dur_step (k + 1) 4 1 (m % 86400000 % 3600000 % 60000 % 1000) [109, 115] p4 (by decide) rfl rfl (by decide) (by omega) (by omega) (by omega) (by decide)]
      unfold lookoutref42_Duration.l0
      rw [if_neg (by decide)]
      rfl
def lastQ (l : List UInt8) : Nat → Int
  | 0 => -1
  | j + 1 => if l.getD j 0 = 10 then (j : Int) else lastQ l j
theorem lastQ_b (l : List UInt8) : ∀ j, -1 ≤ lastQ l j ∧ lastQ l j < j
  | 0 => by simp [lastQ]
  | j + 1 => by
    have := lastQ_b l j
    unfold lastQ
    split <;> omega
theorem last_q (s : ByteArray) (i : Nat) (hi : i ≤ s.size) : ∀ k, k ≤ i → Lib.lastIdx (s.extract 0 i) 10 k = lastQ s.data.toList k
  | 0, _ => rfl
  | k + 1, h => by
    have ih := last_q s i hi k (by omega)
    have hg : (s.extract 0 i).data[k]! = s.data.toList.getD k 0 := by
      have h1 : (s.extract 0 i).data[k]! = (s.extract 0 i).data.toList.getD k 0 := by
        rw [List.getD_eq_getElem?_getD, Array.getElem?_toList]
        simp [Array.getElem!_eq_getD, Array.getD_eq_getD_getElem?]
        rfl
      rw [h1, Lib.extract_upto]
      show (s.data.toList.take i).getD k 0 = _
      rw [List.getD_eq_getElem?_getD, List.getD_eq_getElem?_getD, List.getElem?_take, if_pos (by omega)]
    unfold Lib.lastIdx lastQ
    rw [ih, hg]
    by_cases hc : s.data.toList.getD k 0 = 10
    · rw [hc]; rfl
    · have h1 : ((s.data.toList.getD k 0).toNat : Int) ≠ 10 := fun e => hc (UInt8.toNat_inj.1 (by simpa using (by omega : (s.data.toList.getD k 0).toNat = 10)))
      rw [if_neg h1, if_neg hc]
def cntQ (l : List UInt8) (j : Nat) : Nat := (l.take j).count 10
theorem cntQ_le (l : List UInt8) (j : Nat) : cntQ l j ≤ j := by
  have h := List.count_le_length (a := (10 : UInt8)) (l := l.take j)
  unfold cntQ
  rw [List.length_take] at h
  omega
theorem cntQ_succ (l : List UInt8) (j : Nat) (h : j < l.length) : cntQ l (j + 1) = cntQ l j + (if l.getD j 0 = 10 then 1 else 0) := by
  unfold cntQ
  rw [List.take_succ_eq_append_getElem h, List.count_append, List.getD_eq_getElem?_getD, List.getElem?_eq_getElem h, Option.getD_some]
  congr 1
  by_cases hc : l[j] = 10
  · rw [if_pos hc, hc]; rfl
  · rw [if_neg hc, List.count_singleton, if_neg (by simpa using hc)]
theorem refline_l (s : ByteArray) (hs : s.size ≤ 600) (i : Nat) (hi : i ≤ s.size) : ∀ (m j k : Nat), i - j ≤ m → j ≤ i → m < k → lookoutref42_Line.l0 k s i (1 + cntQ s.data.toList j) ((j : Int) - lastQ s.data.toList j) j = some ((1 + cntQ s.data.toList i : Int), (i : Int) - lastQ s.data.toList i) := by
  intro m
  induction m with
  | zero =>
    intro j k h1 h2 h3
    obtain ⟨k, rfl⟩ : ∃ q, k = q + 1 := ⟨k - 1, by omega⟩
    obtain rfl : j = i := by omega
    unfold lookoutref42_Line.l0
    rw [if_neg (by omega)]
  | succ m ih =>
    intro j k h1 h2 h3
    obtain ⟨k, rfl⟩ : ∃ q, k = q + 1 := ⟨k - 1, by omega⟩
    unfold lookoutref42_Line.l0
    by_cases hj : j < i
    · have hb := bt_get s j (by omega)
      have hc := cntQ_le s.data.toList j
      have hl := lastQ_b s.data.toList j
      have hcs := cntQ_succ s.data.toList j (by rw [tl_size]; omega)
      have hls : lastQ s.data.toList (j + 1) = if s.data.toList.getD j 0 = 10 then (j : Int) else lastQ s.data.toList j := rfl
      have ih2 := ih (j + 1) k (by omega) (by omega) (by omega)
      rw [if_pos (by omega), if_pos (by omega), if_pos (by omega), hb, w64 (n := (j : Int) + 1) (by omega) (by omega), show ((j : Int) + 1) = ((j + 1 : Nat) : Int) from by omega]
      by_cases h10 : s.data.toList.getD j 0 = 10
      · rw [if_pos h10] at hcs hls
        rw [if_pos (by rw [h10]; rfl), w64 (n := (1 + (cntQ s.data.toList j : Int)) + 1) (by omega) (by omega)]
        rw [hcs, hls, show ((j + 1 : Nat) : Int) - (j : Int) = 1 from by omega] at ih2
        rw [show (1 + (cntQ s.data.toList j : Int)) + 1 = 1 + ((cntQ s.data.toList j + 1 : Nat) : Int) from by omega]
        exact ih2
      · rw [if_neg h10] at hcs hls
        have hne : ¬ ((s.data.toList.getD j 0).toNat : Int) = 10 := fun e => h10 ((u8_int 10 (by omega)).1 e)
        rw [if_neg hne, w64 (n := ((j : Int) - lastQ s.data.toList j) + 1) (by omega) (by omega)]
        rw [hcs, hls, Nat.add_zero] at ih2
        rw [show ((j : Int) - lastQ s.data.toList j) + 1 = ((j + 1 : Nat) : Int) - lastQ s.data.toList j from by omega]
        exact ih2
    · obtain rfl : j = i := by omega
      rw [if_neg (by omega)]
theorem line_ref (s : ByteArray) (hs : s.size ≤ 600) (at_ : Int) (k : Nat) (hk : 1000 ≤ k) : lookoutref42_Line.f k s at_ = lexer_Line.f k s at_ := by
  obtain ⟨k, rfl⟩ : ∃ q, k = q + 1 := ⟨k - 1, by omega⟩
  by_cases hr : at_ < 0 ∨ (s.size : Int) < at_
  · rw [line_far k s at_ hr]
    unfold lookoutref42_Line.f
    have hj : lookoutref42_Line.j0 (k + 1) s at_ true = some (0, 0) := by
      unfold lookoutref42_Line.j0
      (try dsimp only)
      rw [if_pos rfl]
    by_cases h : at_ < 0
    · rw [if_pos h]; exact hj
    · rw [if_neg h, show decide (at_ > (s.size : Int)) = true from decide_eq_true (by omega)]; exact hj
  · obtain ⟨i, rfl⟩ : ∃ i : Nat, at_ = i := ⟨at_.toNat, by omega⟩
    rw [line_f k s i (by omega) hs]
    unfold lookoutref42_Line.f
    rw [if_neg (by omega), show decide ((i : Int) > (s.size : Int)) = false from decide_eq_false (by omega)]
    unfold lookoutref42_Line.j0
    (try dsimp only)
    rw [if_neg Bool.false_ne_true]
    have h := refline_l s hs i (by omega) i 0 k (by omega) (by omega) (by omega)
    have hz : (s.extract 0 i).size = i := by rw [Lib.extract_upto, ← tl_size]; show (s.data.toList.take i).length = i; rw [List.length_take, tl_size]; omega
    have hc : Lib.countByte (s.extract 0 i).data.toList 10 = cntQ s.data.toList i := by
      rw [Lib.extract_upto]; rfl
    have hl : Lib.lastIndexByte (s.extract 0 i) 10 = lastQ s.data.toList i := by
      unfold Lib.lastIndexByte
      rw [hz]; exact last_q s i (by omega) i (Nat.le_refl _)
    rw [hc, hl]
    rw [show (1 : Int) + (cntQ s.data.toList 0 : Int) = 1 from rfl, show ((0 : Nat) : Int) - lastQ s.data.toList 0 = 1 from rfl] at h
    rw [show ((0 : Int)) = ((0 : Nat) : Int) from rfl, h]
    congr 2
    omega
theorem quote_l (s : ByteArray) (hs : s.size ≤ 600) : ∀ (m i k : Nat) (acc : List UInt8), s.size - i ≤ m → i ≤ s.size → 2 * m + 1 < k → acc.length ≤ 2 * i + 1 → lookoutref42_Quote.l0 k s (acc.map fun c => (c.toNat : Int)) i = some ⟨(acc ++ (quoL (s.data.toList.drop i) ++ [34])).toArray⟩ := by
  intro m
  induction m with
  | zero =>
    intro i k acc h1 h2 h3 h4
    obtain ⟨k, rfl⟩ : ∃ q, k = q + 1 := ⟨k - 1, by omega⟩
    have hd : s.data.toList.drop i = [] := List.drop_eq_nil_of_le (by rw [tl_size]; omega)
    unfold lookoutref42_Quote.l0
    rw [if_neg (by omega), if_pos (by rw [List.length_map]; omega), hd]
    have := str_nums (acc ++ [34])
    rw [List.map_append] at this
    exact congrArg some this
  | succ m ih =>
    intro i k acc h1 h2 h3 h4
    obtain ⟨k, rfl⟩ : ∃ q, k = q + 2 := ⟨k - 2, by omega⟩
    by_cases hi : i < s.size
    · obtain ⟨c, hc⟩ : ∃ c, s.data.toList.getD i 0 = c := ⟨_, rfl⟩
      have hb := bt_get s i hi
      rw [hc] at hb
      have hd : s.data.toList.drop i = c :: s.data.toList.drop (i + 1) := by
        rw [List.drop_eq_getElem_cons (by rw [tl_size]; exact hi)]
        congr 1
        rw [← hc, List.getD_eq_getElem?_getD, List.getElem?_eq_getElem (by rw [tl_size]; exact hi)]; rfl
      have hw : wrap64 ((i : Int) + 1) = ((i + 1 : Nat) : Int) := by rw [w64 (by omega) (by omega)]; omega
      have hq : quoL (s.data.toList.drop i) = quo1 c ++ quoL (s.data.toList.drop (i + 1)) := by rw [hd]; simp [quoL]
      have ih1 : ∀ q : List UInt8, quo1 c = q → q.length ≤ 2 → lookoutref42_Quote.l0 k s ((acc ++ q).map fun c => (c.toNat : Int)) ((i + 1 : Nat) : Int) = some ⟨(acc ++ (quoL (s.data.toList.drop i) ++ [34])).toArray⟩ := by
        intro q e hl
        rw [ih (i + 1) k (acc ++ q) (by omega) (by omega) (by omega) (by rw [List.length_append]; omega), hq, e]
        congr 3
        simp
      unfold lookoutref42_Quote.l0
      rw [if_pos (by omega), if_pos (by omega), hb]
      have c34 : ((c.toNat : Int) = 34) ↔ c = 34 := u8_int 34 (by omega)
      have c92 : ((c.toNat : Int) = 92) ↔ c = 92 := u8_int 92 (by omega)
      have c10 : ((c.toNat : Int) = 10) ↔ c = 10 := u8_int 10 (by omega)
      have hj : lookoutref42_Quote.j1 (k + 1) s (acc.map fun c => (c.toNat : Int)) i c.toNat (decide (c = 92 ∨ c = 34 ∨ c = 10)) = some ⟨(acc ++ (quoL (s.data.toList.drop i) ++ [34])).toArray⟩ := by
        unfold lookoutref42_Quote.j1
        (try dsimp only)
        have hal : (acc.map fun c : UInt8 => (c.toNat : Int)).length < 140737488355328 := by rw [List.length_map]; omega
        by_cases h10 : c = 10
        · have e : quo1 c = [92, 110] := by subst h10; rfl
          rw [decide_eq_true (.inr (.inr h10)), if_pos rfl, if_pos hal, Option.bind_some, if_pos (c10.2 h10), if_pos (by rw [List.length_append, List.length_map]; simp; omega), hw]
          have := ih1 _ e (by decide)
          rw [List.map_append] at this
          simpa using this
        · by_cases hs2 : c = 92 ∨ c = 34
          · have e : quo1 c = [92, c] := by unfold quo1; rw [if_pos hs2]
            rw [decide_eq_true (by rcases hs2 with h | h; exact .inl h; exact .inr (.inl h)), if_pos rfl, if_pos hal, Option.bind_some, if_neg (fun h => h10 (c10.1 h)), if_pos (by rw [List.length_append, List.length_map]; simp; omega), hw]
            have := ih1 _ e (by simp)
            rw [List.map_append] at this
            simpa using this
          · have e : quo1 c = [c] := by unfold quo1; rw [if_neg hs2, if_neg h10]
            rw [decide_eq_false (by rintro (h | h | h); exact hs2 (.inl h); exact hs2 (.inr h); exact h10 h), if_neg Bool.false_ne_true, if_neg (fun h => h10 (c10.1 h)), if_pos hal, hw]
            have := ih1 _ e (by simp)
            rw [List.map_append] at this
            exact this
      by_cases h92 : c = 92
      · rw [if_pos (c92.2 h92)]
        rw [decide_eq_true (.inl h92)] at hj
        exact hj
      · rw [if_neg (fun h => h92 (c92.1 h))]
        by_cases h34 : c = 34
        · rw [if_pos (c34.2 h34)]
          rw [decide_eq_true (.inr (.inl h34))] at hj
          exact hj
        · rw [if_neg (fun h => h34 (c34.1 h))]
          have e : ((c.toNat : Int) == 10) = decide (c = 92 ∨ c = 34 ∨ c = 10) := by
            by_cases h10 : c = 10
            · rw [decide_eq_true (.inr (.inr h10)), beq_iff_eq.2 (c10.2 h10)]
            · rw [decide_eq_false (by rintro (h | h | h); exact h92 h; exact h34 h; exact h10 h), beq_eq_false_iff_ne.2 (fun h => h10 (c10.1 h))]
          rw [e]
          exact hj
    · exact ih i (k + 2) acc (by omega) h2 (by omega) h4
theorem quote_ref (s : ByteArray) (hs : s.size ≤ 600) (k : Nat) (hk : 2000 ≤ k) : lookoutref42_Quote.f k s = some ⟨(34 :: (quoL s.data.toList ++ [34])).toArray⟩ := by
  have := quote_l s hs s.size 0 k [34] (by omega) (by omega) (by omega) (by decide)
  rw [List.drop_zero] at this
  exact this
theorem fmt_ref (num den : Int) (k : Nat) (hk : den.toNat + 100 ≤ k) (hc : checkP num den = 0) : lookoutref03_Format.f k num den = some ⟨(formatP num den).toArray⟩ := by
  obtain ⟨h1, h2, h3, h4, h5⟩ := check_ok hc
  obtain ⟨d, rfl⟩ : ∃ d : Nat, den = d := ⟨den.toNat, by omega⟩
  have ha : lookoutref03_abs.f num = some ((num.natAbs : Nat) : Int) := by
    unfold lookoutref03_abs.f
    split
    · rw [w64 (by omega) (by omega)]; congr 1; omega
    · congr 1; omega
  have l1 : (Lib.decDigits num.natAbs).length ≤ 19 + 1 := dd_len 19 _ (lt20 (by omega))
  have l2 : (Lib.decDigits d).length ≤ 19 + 1 := dd_len 19 _ (lt20 (by omega))
  unfold lookoutref03_Format.f
  rw [ref_check num d k (by omega) hc, Option.bind_some, if_pos rfl, ha, Option.bind_some, dec03 20 num.natAbs k (lt20 (by omega)) (by omega) (by omega) (by omega), Option.bind_some]
  have e45 : (⟨#[45]⟩ : ByteArray) = ⟨([45] : List UInt8).toArray⟩ := rfl
  have e47 : (⟨#[47]⟩ : ByteArray) = ⟨([47] : List UInt8).toArray⟩ := rfl
  unfold formatP
  by_cases hn : num < 0
  · have hi : Lib.itoa num = 45 :: Lib.decDigits num.natAbs := by unfold Lib.itoa; rw [if_pos hn]
    rw [if_pos hn, hi, ba_size, if_pos (by omega), e45, ba_app]
    by_cases hd : (d : Int) = 1
    · rw [if_neg (by omega), if_pos hd]; rfl
    · rw [if_pos (by omega), if_neg hd, ba_size, if_pos (by rw [List.length_append]; simp only [List.length_cons, List.length_nil]; omega), dec03 20 d k (lt20 (by omega)) (by omega) (by omega) (by omega), Option.bind_some, e47, ba_app, ba_size, ba_size, if_pos (by rw [List.length_append, List.length_append]; simp only [List.length_cons, List.length_nil]; omega), ba_app, Lib.itoa_nonneg]
      congr 2
      simp
  · have hi : Lib.itoa num = Lib.decDigits num.natAbs := by unfold Lib.itoa; rw [if_neg hn]; congr 1; omega
    rw [if_neg hn, hi]
    by_cases hd : (d : Int) = 1
    · rw [if_neg (by omega), if_pos hd]
    · rw [if_pos (by omega), if_neg hd, ba_size, if_pos (by omega), dec03 20 d k (lt20 (by omega)) (by omega) (by omega) (by omega), Option.bind_some, e47, ba_app, ba_size, ba_size, if_pos (by rw [List.length_append]; simp only [List.length_cons, List.length_nil]; omega), ba_app, Lib.itoa_nonneg]
      congr 2
      simp
def pad : Nat → Nat → List UInt8
  | 0, _ => []
  | i + 1, F => pad i (F / 10) ++ [UInt8.ofNat (48 + F % 10)]
theorem pad_len : ∀ i F, (pad i F).length = i
  | 0, _ => rfl
  | i + 1, F => by unfold pad; rw [List.length_append, pad_len i]; rfl
theorem pad_eq : ∀ (i F : Nat), F < 10 ^ (i + 1) → pad (i + 1) F = List.replicate (i + 1 - (Lib.decDigits F).length) 48 ++ Lib.decDigits F
  | 0, F, h => by
    have hF : F < 10 := by simpa using h
    rw [Lib.decDigits_one hF]
    unfold pad
    rw [Nat.mod_eq_of_lt hF]; rfl
  | i + 1, F, h => by
    have hq : F / 10 < 10 ^ (i + 1) := by rw [Nat.pow_succ] at h; omega
    have ih := pad_eq i (F / 10) hq
    conv => lhs; unfold pad
    rw [ih]
    by_cases hF : F < 10
    · rw [Nat.div_eq_of_lt hF, Lib.decDigits_one (show 0 < 10 by decide), Lib.decDigits_one hF, Nat.mod_eq_of_lt hF]
      simp only [List.length_cons, List.length_nil]
      rw [show i + 1 - (0 + 1) = i by omega, show i + 1 + 1 - (0 + 1) = i + 1 by omega, List.replicate_succ']
      rfl
    · conv => rhs; rw [Lib.decDigits, dif_neg hF]
      rw [List.length_append, List.append_assoc]
      simp only [List.length_cons, List.length_nil]
      rw [show i + 1 + 1 - ((Lib.decDigits (F / 10)).length + (0 + 1)) = i + 1 - (Lib.decDigits (F / 10)).length by omega]
theorem pl_yes (den : Nat) : ∀ (m i j : Nat), i ≤ j → j ≤ i + m → 10 ^ j % den = 0 → 10 ^ (pl den m i) % den = 0 ∧ pl den m i ≤ j
  | 0, i, j, h, h2, h3 => by
    obtain rfl : i = j := by omega
    exact ⟨h3, Nat.le_refl _⟩
  | m + 1, i, j, h, h2, h3 => by
    unfold pl
    split
    · rename_i he; exact ⟨he, h⟩
    · rename_i hne
      by_cases e : i = j
      · subst e; exact absurd h3 hne
      · exact pl_yes den m (i + 1) j (by omega) (by omega) h3
theorem ten_l (minus text frac : List UInt8) (num : Int) (den r : Nat) (hr : r < den) (hd : den ≤ 1152921504606846976) : ∀ (m t k dg sm : Nat), t + m = 10 → t * r = dg * den + sm → sm < den →
    lookoutref42_Number.l1 (k + m) ⟨minus.toArray⟩ ⟨text.toArray⟩ r ⟨frac.toArray⟩ dg sm t num den = lookoutref42_Number.l1 k ⟨minus.toArray⟩ ⟨text.toArray⟩ r ⟨frac.toArray⟩ ((10 * r / den : Nat) : Int) ((10 * r % den : Nat) : Int) 10 num den
  | 0, t, k, dg, sm, ht, he, hs => by
    obtain rfl : t = 10 := by omega
    have h1 : 10 * r / den = dg := by
      rw [he, Nat.mul_comm dg den, Nat.mul_add_div (by omega), Nat.div_eq_of_lt hs, Nat.add_zero]
    have h2 : 10 * r % den = sm := by
      rw [he, Nat.mul_comm dg den, Nat.mul_add_mod, Nat.mod_eq_of_lt hs]
    rw [h1, h2]; rfl
  | m + 1, t, k, dg, sm, ht, he, hs => by
    rw [show k + (m + 1) = (k + m) + 1 by omega]
    conv => lhs; unfold lookoutref42_Number.l1
    have hdg : dg ≤ 10 := by
      by_cases hgt : 11 ≤ dg
      · exfalso
        have h1 : 11 * den ≤ dg * den := Nat.mul_le_mul_right _ hgt
        have h2 : t * r ≤ 10 * r := Nat.mul_le_mul_right _ (by omega)
        omega
      · omega
    rw [if_pos (by omega), w64 (n := (sm : Int) + r) (by omega) (by omega), w64 (n := (t : Int) + 1) (by omega) (by omega)]
    by_cases hge : den ≤ sm + r
    · rw [if_pos (by omega), w64 (n := (dg : Int) + 1) (by omega) (by omega), w64 (n := (sm : Int) + r - den) (by omega) (by omega)]
      rw [show (dg : Int) + 1 = ((dg + 1 : Nat) : Int) by omega, show (sm : Int) + r - den = ((sm + r - den : Nat) : Int) by omega, show (t : Int) + 1 = ((t + 1 : Nat) : Int) by omega]
      exact ten_l minus text frac num den r hr hd m (t + 1) k (dg + 1) (sm + r - den) (by omega) (by rw [Nat.add_mul, Nat.add_mul, he]; omega) (by omega)
    · rw [if_neg (by omega)]
      rw [show (sm : Int) + r = ((sm + r : Nat) : Int) by omega, show (t : Int) + 1 = ((t + 1 : Nat) : Int) by omega]
      exact ten_l minus text frac num den r hr hd m (t + 1) k dg (sm + r) (by omega) (by rw [Nat.add_mul, he]; omega) (by omega)
theorem frac_step (X den : Nat) (hd : 0 < den) : 10 * X / den = 10 * (X / den) + 10 * (X % den) / den ∧ 10 * X % den = 10 * (X % den) % den ∧ 10 * (X % den) / den < 10 := by
  have h := Nat.div_add_mod X den
  have e : 10 * X = den * (10 * (X / den)) + 10 * (X % den) := by
    rw [Nat.mul_left_comm]; omega
  have hr := Nat.mod_lt X hd
  refine ⟨?_, ?_, ?_⟩
  · rw [e, Nat.mul_add_div hd]
  · rw [e, Nat.mul_add_mod]
  · exact Nat.div_lt_of_lt_mul (by omega)
theorem ref_step (minus : List UInt8) (a den : Nat) (num : Int) (hd : 1 ≤ den) (hd2 : den ≤ 1152921504606846976) (i K : Nat) (hK : 2 ≤ K) (hl : (Lib.decDigits (a / den)).length + i ≤ 18) (hr : a % den * 10 ^ i % den ≠ 0) :
    lookoutref42_Number.l0 (K + 13) ⟨minus.toArray⟩ ⟨(Lib.decDigits (a / den)).toArray⟩ ((a % den * 10 ^ i % den : Nat) : Int) ⟨(pad i (a % den * 10 ^ i / den)).toArray⟩ num den =
    lookoutref42_Number.l0 K ⟨minus.toArray⟩ ⟨(Lib.decDigits (a / den)).toArray⟩ ((a % den * 10 ^ (i + 1) % den : Nat) : Int) ⟨(pad (i + 1) (a % den * 10 ^ (i + 1) / den)).toArray⟩ num den := by
  have hX : a % den * 10 ^ (i + 1) = 10 * (a % den * 10 ^ i) := by rw [Nat.pow_succ, ← Nat.mul_assoc, Nat.mul_comm 10]
  have hpl := pad_len i (a % den * 10 ^ i / den)
  obtain ⟨f1, f2, f3⟩ := frac_step (a % den * 10 ^ i) den (by omega)
  have hrl := Nat.mod_lt (a % den * 10 ^ i) (show 0 < den by omega)
  rw [hX]
  generalize a % den * 10 ^ i = X at hr hpl f1 f2 f3 hrl ⊢
  have hp : pad (i + 1) (10 * X / den) = pad i (X / den) ++ [UInt8.ofNat (48 + 10 * (X % den) / den)] := by
    show pad i (10 * X / den / 10) ++ [UInt8.ofNat (48 + 10 * X / den % 10)] = _
    have e10 : ∀ q d : Nat, d < 10 → (10 * q + d) / 10 = q ∧ (10 * q + d) % 10 = d := fun q d h => by omega
    rw [f1, (e10 (X / den) (10 * (X % den) / den) f3).1, (e10 (X / den) (10 * (X % den) / den) f3).2]
  rw [hp, f2]
  generalize X % den = r at hr f3 hrl ⊢
  generalize X / den = F at hpl ⊢
  generalize hT : Lib.decDigits (a / den) = T at hl ⊢
  conv => lhs; unfold lookoutref42_Number.l0
  rw [if_pos (by omega), ba_size, ba_size, w64 (n := (T.length : Int) + ((pad i F).length : Int)) (by omega) (by omega), decide_eq_true (by omega)]
  unfold lookoutref42_Number.j2
  (try dsimp only)
  rw [if_pos rfl]
  have ht := ten_l minus T (pad i F) num den r hrl hd2 10 0 (K + 1) 0 0 (by omega) (by omega) (by omega)
  rw [show K + 11 = K + 1 + 10 from by omega]
  rw [show (0 : Int) = ((0 : Nat) : Int) from rfl, ht]
  unfold lookoutref42_Number.l1
  rw [if_neg (by decide), dec42 1 (10 * r / den) K (by omega) (by omega) (by omega) (by omega), Option.bind_some, Lib.decDigits_one f3, ba_size, ba_size, if_pos (by rw [hpl]; simp only [List.length_cons, List.length_nil]; omega), ba_app]
theorem ref_end (minus : List UInt8) (hmin : minus.length ≤ 1) (a den : Nat) (num : Int) (ha : a ≤ 1152921504606846976) (hd : 1 ≤ den) (i K : Nat) (hl : (Lib.decDigits (a / den)).length + i ≤ 18) (hr : a % den * 10 ^ i % den = 0) :
    lookoutref42_Number.l0 (K + 3) ⟨minus.toArray⟩ ⟨(Lib.decDigits (a / den)).toArray⟩ ((a % den * 10 ^ i % den : Nat) : Int) ⟨(pad i (a % den * 10 ^ i / den)).toArray⟩ num den =
    some ⟨(minus ++ (Lib.decDigits (a / den) ++ (if i = 0 then [] else 46 :: pad i (a % den * 10 ^ i / den)))).toArray⟩ := by
  have hpl := pad_len i (a % den * 10 ^ i / den)
  rw [hr]
  generalize a % den * 10 ^ i / den = F at hpl ⊢
  generalize hT : Lib.decDigits (a / den) = T at hl ⊢
  unfold lookoutref42_Number.l0
  rw [if_neg (by decide)]
  unfold lookoutref42_Number.j2
  (try dsimp only)
  rw [if_neg Bool.false_ne_true, ba_size, ba_size, w64 (n := (T.length : Int) + ((pad i F).length : Int)) (by omega) (by omega), if_neg (by omega), decide_eq_false (by decide)]
  unfold lookoutref42_Number.j4
  (try dsimp only)
  rw [if_neg Bool.false_ne_true, ba_list, ba_size, ba_size]
  have e46 : (⟨#[46]⟩ : ByteArray) = ⟨([46] : List UInt8).toArray⟩ := rfl
  by_cases h0 : i = 0
  · subst h0
    have hp : pad 0 F = [] := rfl
    rw [hp, if_pos rfl, if_pos (by omega), if_pos rfl, ba_app, List.append_nil]
  · have hne : ¬ pad i F = [] := by intro h; rw [h] at hpl; simp at hpl; omega
    rw [if_neg hne, if_pos (by omega), ba_app, ba_size, if_pos (by rw [List.length_append]; omega), e46, ba_app, ba_size, ba_size, if_pos (by rw [List.length_append, List.length_append]; simp only [List.length_cons, List.length_nil]; omega), ba_app, if_neg h0]
    congr 2
    simp
theorem ref_long (minus : List UInt8) (a den : Nat) (num : Int) (hc : checkP num den = 0) (hd : 1 ≤ den) (i K : Nat) (hK : den + 200 ≤ K) (hl : 18 < (Lib.decDigits (a / den)).length + i) (hlb : (Lib.decDigits (a / den)).length + i ≤ 100) :
    lookoutref42_Number.l0 (K + 3) ⟨minus.toArray⟩ ⟨(Lib.decDigits (a / den)).toArray⟩ ((a % den * 10 ^ i % den : Nat) : Int) ⟨(pad i (a % den * 10 ^ i / den)).toArray⟩ num den = some ⟨(formatP num den).toArray⟩ := by
  have hpl := pad_len i (a % den * 10 ^ i / den)
  generalize a % den * 10 ^ i % den = r
  generalize a % den * 10 ^ i / den = F at hpl ⊢
  generalize hT : Lib.decDigits (a / den) = T at hl hlb ⊢
  have hj2 : lookoutref42_Number.j2 (K + 2) ⟨minus.toArray⟩ ⟨T.toArray⟩ r ⟨(pad i F).toArray⟩ false num den = some ⟨(formatP num den).toArray⟩ := by
    unfold lookoutref42_Number.j2
    (try dsimp only)
    rw [if_neg Bool.false_ne_true, ba_size, ba_size, w64 (n := (T.length : Int) + ((pad i F).length : Int)) (by omega) (by omega), if_pos (by omega)]
    unfold lookoutref42_Number.j4
    (try dsimp only)
    rw [if_pos rfl, fmt_ref num den K (by omega) hc]; rfl
  unfold lookoutref42_Number.l0
  rw [ba_size, ba_size, w64 (n := (T.length : Int) + ((pad i F).length : Int)) (by omega) (by omega), decide_eq_false (by omega)]
  split <;> exact hj2
theorem rest_zero (a den i : Nat) (hg : Nat.gcd a den = 1) : a % den * 10 ^ i % den = 0 ↔ 10 ^ i % den = 0 := by
  constructor
  · intro h
    have h1 : den ∣ a % den * 10 ^ i := Nat.dvd_of_mod_eq_zero h
    have h2 : Nat.Coprime den (a % den) := by
      show Nat.gcd den (a % den) = 1
      rw [Nat.gcd_comm, ← Nat.gcd_rec, Nat.gcd_comm]; exact hg
    exact Nat.mod_eq_zero_of_dvd (h2.dvd_of_dvd_mul_left h1)
  · intro h
    exact Nat.mod_eq_zero_of_dvd (Nat.dvd_trans (Nat.dvd_of_mod_eq_zero h) (Nat.dvd_mul_left _ _))
theorem ref_main (minus : List UInt8) (hmin : minus.length ≤ 1) (a den : Nat) (num : Int) (ha : a ≤ 1152921504606846976) (hd : 1 ≤ den) (hd2 : den ≤ 1152921504606846976) (hg : Nat.gcd a den = 1) (hc : checkP num den = 0) :
    ∀ (m i K : Nat), m + i = 40 → i ≤ 19 → (i ≤ pl den 18 0 ∨ ¬ (10 ^ (pl den 18 0) % den = 0 ∧ (Lib.decDigits (a / den)).length + pl den 18 0 ≤ 18)) → (i = 0 ∨ (Lib.decDigits (a / den)).length + i ≤ 19) → den + 300 + 13 * m ≤ K →
    lookoutref42_Number.l0 K ⟨minus.toArray⟩ ⟨(Lib.decDigits (a / den)).toArray⟩ ((a % den * 10 ^ i % den : Nat) : Int) ⟨(pad i (a % den * 10 ^ i / den)).toArray⟩ num den = some ⟨(numT minus a den (formatP num den)).toArray⟩ := by
  have hT20 : (Lib.decDigits (a / den)).length ≤ 19 + 1 := dd_len 19 _ (lt20 (by
    have h1 : a / den ≤ a := Nat.div_le_self _ _
    generalize a / den = q at h1; omega))
  intro m
  induction m with
  | zero => intro i K h1 h2; omega
  | succ m ih =>
    intro i K h1 h2 h3 h4 h5
    obtain ⟨hp0, hp18⟩ := pl_le den 18 0
    by_cases hlong : 18 < (Lib.decDigits (a / den)).length + i
    · obtain ⟨K, rfl⟩ : ∃ q, K = q + 3 := ⟨K - 3, by omega⟩
      rw [ref_long minus a den num hc hd i K (by omega) hlong (by omega)]
      have hnm : ¬ (10 ^ (pl den 18 0) % den = 0 ∧ (Lib.decDigits (a / den)).length + pl den 18 0 ≤ 18) := by
        rcases h3 with h3 | h3
        · rintro ⟨_, h⟩; omega
        · exact h3
      unfold numT
      rw [if_neg hnm]
    · by_cases hz : 10 ^ i % den = 0
      · obtain ⟨y1, y2⟩ := pl_yes den 18 0 i (by omega) (by omega) hz
        have hm : 10 ^ (pl den 18 0) % den = 0 ∧ (Lib.decDigits (a / den)).length + pl den 18 0 ≤ 18 := ⟨y1, by omega⟩
        have hi : i = pl den 18 0 := by
          rcases h3 with h3 | h3
          · omega
          · exact absurd hm h3
        obtain ⟨K, rfl⟩ : ∃ q, K = q + 3 := ⟨K - 3, by omega⟩
        rw [ref_end minus hmin a den num ha hd i K (by omega) ((rest_zero a den i hg).2 hz)]
        unfold numT
        rw [if_pos hm, ← hi]
        by_cases h0 : i = 0
        · rw [if_pos h0, if_pos h0, List.append_nil]
        · rw [if_neg h0, if_neg h0]
          have hF : a % den * 10 ^ i / den = a % den * (10 ^ i / den) := Nat.mul_div_assoc _ (Nat.dvd_of_mod_eq_zero hz)
          obtain ⟨j, rfl⟩ : ∃ j, i = j + 1 := ⟨i - 1, by omega⟩
          rw [hF, pad_eq j _ (rest_lt hd)]
      · have hrn : a % den * 10 ^ i % den ≠ 0 := fun h => hz ((rest_zero a den i hg).1 h)
        obtain ⟨K, rfl⟩ : ∃ q, K = q + 13 := ⟨K - 13, by omega⟩
        rw [ref_step minus a den num hd hd2 i K (by omega) (by omega) hrn]
        refine ih (i + 1) K (by omega) (by omega) ?_ (.inr (by omega)) (by omega)
        rcases h3 with h3 | h3
        · by_cases hm : 10 ^ (pl den 18 0) % den = 0 ∧ (Lib.decDigits (a / den)).length + pl den 18 0 ≤ 18
          · refine .inl ?_
            by_cases e : i = pl den 18 0
            · rw [e] at hz; exact absurd hm.1 hz
            · omega
          · exact .inr hm
        · exact .inr h3
theorem ref_check_any (num den : Int) (k : Nat) (hk : den.toNat < k) : lookoutref03_Check.f k num den = some (checkP num den) := by
  by_cases hc : checkP num den = 0
  · rw [ref_check num den k hk hc, hc]
  · have h1 : checkP num den = 1 := by
      unfold checkP at hc ⊢
      split
      · rfl
      · rename_i h
        rw [if_neg h] at hc
        split
        · rename_i h2; rw [if_pos h2] at hc; exact absurd rfl hc
        · rfl
    rw [h1]
    unfold lookoutref03_Check.f
    by_cases g1 : den < 1
    · rw [if_pos g1]
    · rw [if_neg g1]
      by_cases g2 : den > 1152921504606846976
      · rw [if_pos g2]
      · rw [if_neg g2]
        by_cases g3 : num < -1152921504606846976
        · rw [if_pos g3]
        · rw [if_neg g3]
          by_cases g4 : num > 1152921504606846976
          · rw [if_pos g4]
          · rw [if_neg g4]
            have ha : lookoutref03_abs.f num = some ((num.natAbs : Nat) : Int) := by
              unfold lookoutref03_abs.f
              split
              · rw [w64 (by omega) (by omega)]; congr 1; omega
              · congr 1; omega
            rw [ha, Option.bind_some]
            unfold lookoutref03_gcd.f
            have hg := ref_gcd den.toNat num.natAbs k hk
            rw [show ((den.toNat : Nat) : Int) = den by omega] at hg
            rw [hg, Option.bind_some]
            have hne : ¬ Nat.gcd num.natAbs den.toNat = 1 := by
              intro h
              refine hc ?_
              unfold checkP
              rw [if_neg (by omega), if_pos h]
            have hne2 : ¬ ((Nat.gcd num.natAbs den.toNat : Nat) : Int) = 1 := fun h => hne (Int.ofNat_inj.1 h)
            rw [if_neg hne2]
theorem number_ref (num den : Int) (k : Nat) (hk : den.toNat + 1000 ≤ k) : ∃ t, lookoutref42_Number.f k num den = some t ∧ lexer_Number.f k num den = some t := by
  by_cases hc : checkP num den = 0
  · refine ⟨_, ?_, number_f num den k (by omega) hc⟩
    obtain ⟨h1, h2, h3, h4, h5⟩ := check_ok hc
    obtain ⟨d, rfl⟩ : ∃ d : Nat, den = d := ⟨den.toNat, by omega⟩
    rw [Int.toNat_natCast] at hk h5 ⊢
    have hj0 : ∀ (minus : List UInt8) (a : Nat), minus.length ≤ 1 → a ≤ 1152921504606846976 → Nat.gcd a d = 1 → lookoutref42_Number.j0 k ⟨minus.toArray⟩ a num d = some ⟨(numT minus a d (formatP num d)).toArray⟩ := by
      intro minus a hmin ha hg
      obtain ⟨k, rfl⟩ : ∃ q, k = q + 1 := ⟨k - 1, by omega⟩
      unfold lookoutref42_Number.j0
      (try dsimp only)
      have hle : a / d ≤ a := Nat.div_le_self _ _
      have hdec : lookoutref42_decimal.f k (wrap64 (Int.tdiv (a : Int) (d : Int))) = some ⟨(Lib.decDigits (a / d)).toArray⟩ := by
        rw [td]
        generalize a / d = q at hle
        rw [w64 (by omega) (by omega)]
        exact dec42 20 q k (lt20 (by omega)) (by omega) (by omega) (by omega)
      rw [if_neg (by omega), hdec, Option.bind_some, tm]
      have := ref_main minus hmin a d num ha (by omega) (by omega) hg hc 40 0 k (by omega) (by omega) (.inl (by omega)) (.inl rfl) (by omega)
      rw [Nat.pow_zero, Nat.mul_one, Nat.mod_mod] at this
      exact this
    unfold lookoutref42_Number.f
    rw [ref_check num d k (by omega) hc, Option.bind_some, if_pos rfl]
    by_cases hn : num < 0
    · rw [if_pos hn, if_pos hn, w64 (n := -num) (by omega) (by omega), show -num = ((num.natAbs : Nat) : Int) by omega]
      exact hj0 [45] _ (by decide) (by omega) h5
    · rw [if_neg hn, if_neg hn]
      have := hj0 [] num.natAbs (by decide) (by omega) h5
      rw [show ((num.natAbs : Nat) : Int) = num by omega] at this
      exact this
  · refine ⟨⟨#[]⟩, ?_, ?_⟩
    · unfold lookoutref42_Number.f
      rw [ref_check_any num den k (by omega), Option.bind_some, if_neg hc]
    · unfold lexer_Number.f
      rw [check_f num den k (by omega), Option.bind_some, if_neg hc]
theorem texts_t (s : ByteArray) (ms num den at_ : Int) : lookoutlaw42_LexerTexts.f (den.toNat + 3000) s ms num den at_ = some true := by
  have hA : lookoutlaw42_awake.f (den.toNat + 3000) = some true := by rw [show den.toNat + 3000 = 60 + (den.toNat + 2940) by omega]; exact awake_k _
  unfold lookoutlaw42_LexerTexts.f
  by_cases hs : (s.size : Int) > 600
  · rw [if_pos hs, hA]; rfl
  · obtain ⟨v, hv⟩ : ∃ v, lexer_Line.f (den.toNat + 3000) s at_ = some v := by
      by_cases hr : at_ < 0 ∨ (s.size : Int) < at_
      · exact ⟨_, line_far (den.toNat + 2999) s at_ hr⟩
      · obtain ⟨i, rfl⟩ : ∃ i : Nat, at_ = i := ⟨at_.toNat, by omega⟩
        exact ⟨_, line_f (den.toNat + 2999) s i (by omega) (by omega)⟩
    obtain ⟨u, hu⟩ : ∃ u, lexer_Duration.f ms = some u := by
      unfold lexer_Duration.f
      split
      · exact ⟨_, rfl⟩
      · split <;> exact ⟨_, rfl⟩
    obtain ⟨t, t1, t2⟩ := number_ref num den (den.toNat + 3000) (by omega)
    have hq : lexer_Quote.f s = some ⟨(34 :: (quoL s.data.toList ++ [34])).toArray⟩ := by
      unfold lexer_Quote.f
      rw [if_pos (by omega)]
    rw [if_neg hs, dur_ref ms _ (by omega), hu, Option.bind_some, Option.bind_some, line_ref s (by omega) at_ _ (by omega), hv, Option.bind_some, Option.bind_some, hq, quote_ref s (by omega) _ (by omega), Option.bind_some, Option.bind_some, if_pos rfl, if_pos rfl, if_pos rfl, t2, t1, Option.bind_some, Option.bind_some, if_pos rfl, if_pos rfl, if_pos rfl, hA]
    rfl
end Go.Proofs.YteokilkcchdeiaaGreatDoor.X
end
