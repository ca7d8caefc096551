/- What the proofs of the lexer's laws share, part 2 of 7. -/
import Derived.Test.YteokilkcchdeiaaGreatDoorM1
import Derived.BigCall
import Derived.Lib.ItoaLen
set_option linter.unusedVariables false
set_option linter.unusedSimpArgs false
section
namespace Go.Proofs.YteokilkcchdeiaaGreatDoor.Q
open Go.Proofs.YteokilkcchdeiaaGreatDoor
open Go.Proofs.YteokilkcchdeiaaGreatDoor.X
open Go.RowKit Go.Proofs.YteokilkcchdeiaaGreatDoorW.PrintWords Go.Proofs.YteokilkcchdeiaaGreatDoorW.PrintLast Go.Proofs.YteokilkcchdeiaaGreatDoorW.PrintMore
attribute [local go_sem] max2_int min2_int max_two min_two max_three min_three max_four min_four   -- for this text's walks alone
set_option linter.unusedVariables false
set_option linter.unusedSimpArgs false
mutual
def lexer_Number.j0 : Nat → ByteArray → Int → Int → Int → Option (ByteArray)
  | 0, _, _, _, _ => none
  | k + 1, x3, x4, x109000, x109001 => if x109001 = 0 then (none) else ((strconv_Itoa.f (wrap64 (Int.tdiv x4 x109001))).bind fun t110 => (lexer_Number.l0 k x3 x4 t110 0 1 x109000 x109001))
def lexer_Number.j2 : Nat → ByteArray → Int → ByteArray → Int → Int → Int → Int → Option (ByteArray)
  | 0, _, _, _, _, _, _, _ => none
  | k + 1, x3, x4, x5, x6, x7, x109000, x109001 => if x109001 = 0 then (none) else (if (Int.tmod x7 x109001) = 0 then (lexer_Number.j3 k x3 x4 x5 x6 x7 (decide ((wrap64 ((x5.size : Int) + x6)) > 18)) x109000 x109001) else (lexer_Number.j3 k x3 x4 x5 x6 x7 true x109000 x109001))
def lexer_Number.j3 : Nat → ByteArray → Int → ByteArray → Int → Int → Bool → Int → Int → Option (ByteArray)
  | 0, _, _, _, _, _, _, _, _ => none
  | k + 1, x3, x4, x5, x6, x7, x47, x109000, x109001 => if x47 = true then ((ratio_Format.f k x109000 x109001).bind fun t111 => (some t111)) else (if x6 = 0 then (if x3.size + x5.size ≤ 9223372036854775807 then (some (x3 ++ x5)) else (none)) else (if x109001 = 0 then (none) else ((strconv_Itoa.f (wrap64 ((Int.tmod x4 x109001) * (wrap64 (Int.tdiv x7 x109001))))).bind fun t112 => (if x3.size + x5.size ≤ 9223372036854775807 then (if (x3 ++ x5).size + 1 ≤ 9223372036854775807 then ((strings_Repeat.f (⟨#[48]⟩ : ByteArray) (wrap64 (x6 - (t112.size : Int)))).bind fun t113 => (if ((x3 ++ x5) ++ (⟨#[46]⟩ : ByteArray)).size + t113.size ≤ 9223372036854775807 then (if (((x3 ++ x5) ++ (⟨#[46]⟩ : ByteArray)) ++ t113).size + t112.size ≤ 9223372036854775807 then (some ((((x3 ++ x5) ++ (⟨#[46]⟩ : ByteArray)) ++ t113) ++ t112)) else (none)) else (none))) else (none)) else (none)))))
def lexer_Number.l0 : Nat → ByteArray → Int → ByteArray → Int → Int → Int → Int → Option (ByteArray)
  | 0, _, _, _, _, _, _, _ => none
  | k + 1, x3, x4, x5, x6, x7, x109000, x109001 => if x6 < 18 then (if x109001 = 0 then (none) else (if (Int.tmod x7 x109001) = 0 then (lexer_Number.j2 k x3 x4 x5 x6 x7 x109000 x109001) else (lexer_Number.l0 k x3 x4 x5 (wrap64 (x6 + 1)) (wrap64 (x7 * 10)) x109000 x109001))) else (lexer_Number.j2 k x3 x4 x5 x6 x7 x109000 x109001)
end
def lexer_Number.f (k : Nat) (a0_0 : Int) (a0_1 : Int) : Option (ByteArray) := (ratio_Check.f k a0_0 a0_1).bind fun t109 => (if t109 = 0 then (if a0_0 < 0 then (lexer_Number.j0 k (⟨#[45]⟩ : ByteArray) (wrap64 (-a0_0)) a0_0 a0_1) else (lexer_Number.j0 k (⟨#[]⟩ : ByteArray) a0_0 a0_0 a0_1)) else (some (⟨#[]⟩ : ByteArray)))
theorem lexer_Number.mono_l : ∀ k, (∀ y0 y1 y2 y3, LeO (lexer_Number.j0 k y0 y1 y2 y3) (lexer_Number.j0 (k + 1) y0 y1 y2 y3)) ∧ (∀ y0 y1 y2 y3 y4 y5 y6, LeO (lexer_Number.j2 k y0 y1 y2 y3 y4 y5 y6) (lexer_Number.j2 (k + 1) y0 y1 y2 y3 y4 y5 y6)) ∧ (∀ y0 y1 y2 y3 y4 y5 y6 y7, LeO (lexer_Number.j3 k y0 y1 y2 y3 y4 y5 y6 y7) (lexer_Number.j3 (k + 1) y0 y1 y2 y3 y4 y5 y6 y7)) ∧ (∀ y0 y1 y2 y3 y4 y5 y6, LeO (lexer_Number.l0 k y0 y1 y2 y3 y4 y5 y6) (lexer_Number.l0 (k + 1) y0 y1 y2 y3 y4 y5 y6))
  | 0 => ⟨fun _ _ _ _ r h => by simp [lexer_Number.j0] at h, fun _ _ _ _ _ _ _ r h => by simp [lexer_Number.j2] at h, fun _ _ _ _ _ _ _ _ r h => by simp [lexer_Number.j3] at h, fun _ _ _ _ _ _ _ r h => by simp [lexer_Number.l0] at h⟩
  | k + 1 => by
    obtain ⟨ih0, ih1, ih2, ih3⟩ := lexer_Number.mono_l k
    refine ⟨?_, ?_, ?_, ?_⟩
    · intro y0 y1 y2 y3
      unfold lexer_Number.j0
      repeat' first
      | (with_reducible exact ih0 _ _ _ _)
      | (with_reducible exact ih1 _ _ _ _ _ _ _)
      | (with_reducible exact ih2 _ _ _ _ _ _ _ _)
      | (with_reducible exact ih3 _ _ _ _ _ _ _)
      | (with_reducible exact ratio_Check.mono _ _ _)
      | (with_reducible exact ratio_Format.mono _ _ _)
      | (with_reducible exact LeO.refl _)
      | (with_reducible exact LeO.none _)
      | (with_reducible refine LeO.ite ?_ ?_)
      | (with_reducible refine LeO.bind ?_ (fun _ => ?_))
      | exact ih0 _ _ _ _
      | exact ih1 _ _ _ _ _ _ _
      | exact ih2 _ _ _ _ _ _ _ _
      | exact ih3 _ _ _ _ _ _ _
      | exact ratio_Check.mono _ _ _
      | exact ratio_Format.mono _ _ _
      | exact LeO.none _
      | refine LeO.ite ?_ ?_
      | refine LeO.bind ?_ (fun _ => ?_)
    · intro y0 y1 y2 y3 y4 y5 y6
      unfold lexer_Number.j2
      repeat' first
      | (with_reducible exact ih0 _ _ _ _)
      | (with_reducible exact ih1 _ _ _ _ _ _ _)
      | (with_reducible exact ih2 _ _ _ _ _ _ _ _)
      | (with_reducible exact ih3 _ _ _ _ _ _ _)
      | (with_reducible exact ratio_Check.mono _ _ _)
      | (with_reducible exact ratio_Format.mono _ _ _)
      | (with_reducible exact LeO.refl _)
      | (with_reducible exact LeO.none _)
      | (with_reducible refine LeO.ite ?_ ?_)
      | (with_reducible refine LeO.bind ?_ (fun _ => ?_))
      | exact ih0 _ _ _ _
      | exact ih1 _ _ _ _ _ _ _
      | exact ih2 _ _ _ _ _ _ _ _
      | exact ih3 _ _ _ _ _ _ _
      | exact ratio_Check.mono _ _ _
      | exact ratio_Format.mono _ _ _
      | exact LeO.none _
      | refine LeO.ite ?_ ?_
      | refine LeO.bind ?_ (fun _ => ?_)
    · intro y0 y1 y2 y3 y4 y5 y6 y7
      unfold lexer_Number.j3
      repeat' first
      | (with_reducible exact ih0 _ _ _ _)
      | (with_reducible exact ih1 _ _ _ _ _ _ _)
      | (with_reducible exact ih2 _ _ _ _ _ _ _ _)
      | (with_reducible exact ih3 _ _ _ _ _ _ _)
      | (with_reducible exact ratio_Check.mono _ _ _)
      | (with_reducible exact ratio_Format.mono _ _ _)
      | (with_reducible exact LeO.refl _)
      | (with_reducible exact LeO.none _)
      | (with_reducible refine LeO.ite ?_ ?_)
      | (with_reducible refine LeO.bind ?_ (fun _ => ?_))
      | exact ih0 _ _ _ _
      | exact ih1 _ _ _ _ _ _ _
      | exact ih2 _ _ _ _ _ _ _ _
      | exact ih3 _ _ _ _ _ _ _
      | exact ratio_Check.mono _ _ _
      | exact ratio_Format.mono _ _ _
      | exact LeO.none _
      | refine LeO.ite ?_ ?_
      | refine LeO.bind ?_ (fun _ => ?_)
    · intro y0 y1 y2 y3 y4 y5 y6
      unfold lexer_Number.l0
      repeat' first
      | (with_reducible exact ih0 _ _ _ _)
      | (with_reducible exact ih1 _ _ _ _ _ _ _)
      | (with_reducible exact ih2 _ _ _ _ _ _ _ _)
      | (with_reducible exact ih3 _ _ _ _ _ _ _)
      | (with_reducible exact ratio_Check.mono _ _ _)
      | (with_reducible exact ratio_Format.mono _ _ _)
      | (with_reducible exact LeO.refl _)
      | (with_reducible exact LeO.none _)
      | (with_reducible refine LeO.ite ?_ ?_)
      | (with_reducible refine LeO.bind ?_ (fun _ => ?_))
      | exact ih0 _ _ _ _
      | exact ih1 _ _ _ _ _ _ _
      | exact ih2 _ _ _ _ _ _ _ _
      | exact ih3 _ _ _ _ _ _ _
      | exact ratio_Check.mono _ _ _
      | exact ratio_Format.mono _ _ _
      | exact LeO.none _
      | refine LeO.ite ?_ ?_
      | refine LeO.bind ?_ (fun _ => ?_)
theorem lexer_Number.mono : ∀ a0 a1 k, LeO (lexer_Number.f k a0 a1) (lexer_Number.f (k + 1) a0 a1) := by
  intro a0 a1 k
  obtain ⟨ih0, ih1, ih2, ih3⟩ := lexer_Number.mono_l k
  unfold lexer_Number.f
  repeat' first
      | (with_reducible exact ih0 _ _ _ _)
      | (with_reducible exact ih1 _ _ _ _ _ _ _)
      | (with_reducible exact ih2 _ _ _ _ _ _ _ _)
      | (with_reducible exact ih3 _ _ _ _ _ _ _)
      | (with_reducible exact ratio_Check.mono _ _ _)
      | (with_reducible exact ratio_Format.mono _ _ _)
      | (with_reducible exact LeO.refl _)
      | (with_reducible exact LeO.none _)
      | (with_reducible refine LeO.ite ?_ ?_)
      | (with_reducible refine LeO.bind ?_ (fun _ => ?_))
      | exact ih0 _ _ _ _
      | exact ih1 _ _ _ _ _ _ _
      | exact ih2 _ _ _ _ _ _ _ _
      | exact ih3 _ _ _ _ _ _ _
      | exact ratio_Check.mono _ _ _
      | exact ratio_Format.mono _ _ _
      | exact LeO.none _
      | refine LeO.ite ?_ ?_
      | refine LeO.bind ?_ (fun _ => ?_)
def lexer_Number.T15 : Bool × List (List Nat × List Nat) := (true, [([], []), ([], []), ([1], [1]), ([0, 2], [0, 2]), ([], []), ([], []), ([5], [5]), ([4, 6], [4, 6]), ([3, 7], [3, 7]), ([8], [8]), ([9, 9, 0, 1, 2, 3, 4, 5, 6, 7, 8, 9], [9])])
def lexer_Number.B15 : List Nat := [0, 0, 2, 7, 0, 0, 32, 112, 255, 511, 1023]
theorem lexer_Number.tab15 : rtab .any (opsOf Tryz.f13 15) = lexer_Number.T15 := by kernel_rfl
theorem lexer_Number.bits15 : waitsOk lexer_Number.T15.2 lexer_Number.B15 = true := by kernel_rfl
set_option maxHeartbeats 8000000 in
set_option maxRecDepth 100000 in
theorem lexer_Number.calls (k : Nat) (a0_0 : Int) (a0_1 : Int) (r : ByteArray) (w : World) (hT : Tabs w) (h : lexer_Number.f k a0_0 a0_1 = some r) :
    Calls Tryz.prog 13 #[.agg #[.int .i64 a0_0, .int .i64 a0_1]] w fun e w' => e = .returned (.string r) ∧ Below w.heap.size w w' := by
  have hu27 := Tryz.underlying27
  have HT := Aside0.mk hT
  clear hT
  have HB := Aside0.mk (Below.refl w.heap.size w)
  have H : ((ratio_Check.f k a0_0 a0_1).bind fun t109 => (if t109 = 0 then (if a0_0 < 0 then (lexer_Number.j0 k (⟨#[45]⟩ : ByteArray) (wrap64 (-a0_0)) a0_0 a0_1) else (lexer_Number.j0 k (⟨#[]⟩ : ByteArray) a0_0 a0_0 a0_1)) else (some (⟨#[]⟩ : ByteArray)))) = some r := h
  clear h
  replace H := Option.bind_eq_some_iff.mp H
  obtain ⟨t109, A20, H⟩ := H
  replace H : (if t109 = 0 then (if a0_0 < 0 then (lexer_Number.j0 k (⟨#[45]⟩ : ByteArray) (wrap64 (-a0_0)) a0_0 a0_1) else (lexer_Number.j0 k (⟨#[]⟩ : ByteArray) a0_0 a0_0 a0_1)) else (some (⟨#[]⟩ : ByteArray))) = some r := H
  have A2 := Aside0.mk A20
  clear A20
  by_cases c3 : t109 = 0
  · rw [if_pos c3] at H
    have c3b0 : (t109 == 0) = true := beq_iff_eq.mpr c3
    have c3b1 : (t109 != 0) = false := bne_eq_false_iff_eq.mpr c3
    clear c3
    have HC4 := Aside0.mk H
    clear H
    go_enter Tryz.func13, Tryz.ntmps13
    try go_wp2_with (first | ((with_reducible refine gate_dst (N := 1) rfl ?_); (try (refine gate_guard (by rfl) ?_; dsimp only)); refine box_event ?hg (N := 1) ?hd (cs := #[.int .i64 a0_0, .int .i64 a0_1]) (t := 27) ?hr ?_; (case hd => rfl); (case hg => rfl); (case hr => first | (go_simp; done) | (go_simp; rfl)); intro gb108 hg w5 hbox hb; have n0_ := Aside0.mk (below_step (by repeat (first | (with_reducible first | exact HB.out | apply below_alloc | apply pw_below_drewN | apply below_drew1) | exact HB.out)) hb); have n1_ := Aside0.mk (hbox); have n2_ := Aside0.mk ((by rw [hg]; exact (below_size (by repeat (first | (with_reducible first | exact HB.out | apply below_alloc | apply pw_below_drewN | apply below_drew1) | exact HB.out))) : w.heap.size ≤ gb108)); have n3_ := Aside0.mk ((by rw [hg]; exact (below_size (by repeat (first | (with_reducible first | exact HB.out | apply below_alloc | apply pw_below_drewN | apply below_drew1) | exact HB.out))) : w.heap.size ≤ gb108)); clear HB; have HB := n0_; have BK108 := n1_; have GW108 := n2_; have GE108 := n3_; clear n0_ n1_ n2_ n3_; clear hb hbox hg; have hcz6_0 : w5.cell? ⟨gb108, 0, none⟩ = some (.int .i64 a0_0) := (blk_cell BK108.out 0).trans rfl; have hcz6_1 : w5.cell? ⟨gb108, 1, none⟩ = some (.int .i64 a0_1) := (blk_cell BK108.out 1).trans rfl; have hfz6_0 := blk_frozen BK108.out 0; have hfz6_1 := blk_frozen BK108.out 1) | ((with_reducible refine gate_callee (f := 14) rfl ?_); refine goesL_ (some 10) rfl rfl Tryz.func14 (by kernel_rfl) rfl #[.agg #[.int .i64 a0_0, .int .i64 a0_1]] rfl (by (try simp only [List.map_toArray, List.map_cons, List.map_nil]); first | done | rfl | (simp only [List.length_drop, List.length_take]; rfl)) ?_; (with_reducible refine (ratio_Check.calls k a0_0 a0_1 t109 _ A2.out).mono ?_); rintro e w7 ⟨rfl, hb⟩; refine ⟨_, rfl, ?_⟩; have n0_ := Aside0.mk (blk_below (g := gb108) (o := .cells #[.int .i64 a0_0, .int .i64 a0_1] 27 (0, 0)) (by (with_reducible repeat (first | refine blk_drewN ?_ _ | refine blk_drew ?_ | refine blk_alloc ?_ _)); exact BK108.out) hb); have n1_ := Aside0.mk (below_step (by repeat (first | (with_reducible first | exact HB.out | apply below_alloc | apply pw_below_drewN | apply below_drew1 | refine below_set ?_ GE108.out) | exact HB.out)) hb); clear BK108; clear HB; have BK108 := n0_; have HB := n1_; clear n0_ n1_; (try clear hb); (try clear hb2); (try clear hk); (try clear hi)))
    have n0_ := Aside0.mk (blk_drew BK108.out)
    have n1_ := Aside0.mk (below_drew1 HB.out)
    clear BK108
    clear HB
    have BK108 := n0_
    have HB := n1_
    clear n0_ n1_
    refine start_ (n := 4) (S := fun w' => w'.cell? ⟨gb108, 0, none⟩ = some (.int .i64 a0_0) ∧ w'.cell? ⟨gb108, 1, none⟩ = some (.int .i64 a0_1)) (ds := []) #[false, false, false, false] (by kernel_rfl) rfl rfl ⟨(blk_cell BK108.out 0).trans rfl, (blk_cell BK108.out 1).trans rfl⟩ (fun hHeld => ?_)
    generalize w7.drew = w8 at BK108 HB hHeld ⊢
    refine pure_ (i := 0) (N := some 12) (v := ?_) (a' := ?_) #[true, false, false, false] rfl rfl (by kernel_rfl) (fun _ _ _ h => h) (Or.inl ⟨by rfl, ?_⟩) ?_ ?_
    rotate_left
    · intro w'
      go_simp
      with_reducible rfl
    rotate_left
    · simp only [Act.put, List.setIfInBounds_toArray, List.set_cons_zero, List.set_cons_succ, i64_w, i32_w]
      rfl
    refine pure_ (i := 2) (N := some 3) (v := ?_) (a' := ?_) #[true, false, true, false] rfl rfl (by kernel_rfl) (fun _ _ _ h => h) (Or.inl ⟨by rfl, ?_⟩) ?_ ?_
    rotate_left
    · intro w'
      go_simp
      with_reducible rfl
    rotate_left
    · simp only [Act.put, List.setIfInBounds_toArray, List.set_cons_zero, List.set_cons_succ, i64_w, i32_w]
      rfl
    refine take_ (i := 1) (N := some 13) (v := ?_) (a' := ?_) #[true, true, true, false] rfl rfl (by kernel_rfl) (fun _ _ _ h => h) (Or.inl ⟨by rfl, ?_⟩) hHeld ?_ ?_
    rotate_left
    · rintro w' ⟨s0, s1⟩
      go_simp
      with_reducible rfl
    rotate_left
    · simp only [Act.put, List.setIfInBounds_toArray, List.set_cons_zero, List.set_cons_succ, i64_w, i32_w]
      rfl
    refine pure_ (i := 3) (N := some 4) (v := ?_) (a' := ?_) #[true, true, true, true] rfl rfl (by kernel_rfl) (fun _ _ _ h => h) (Or.inl ⟨by rfl, ?_⟩) ?_ ?_
    rotate_left
    · intro w'
      go_simp
      with_reducible rfl
    rotate_left
    · simp only [Act.put, List.setIfInBounds_toArray, List.set_cons_zero, List.set_cons_succ, i64_w, i32_w]
      rfl
    refine done_ (by kernel_rfl) ?_
    go_upto_if 15 with (fail)
    go_cut [3, 4] (fun v3 v4 wc => ∃ (kq : Nat) (x3_3 : ByteArray) (x4_3 : Int), v3 = .string x3_3 ∧ v4 = .int .i64 x4_3 ∧ Aside0 (lexer_Number.j0 kq x3_3 x4_3 a0_0 a0_1 = some r) ∧ Aside0 (kq ≤ k) ∧ Aside0 (wc.heap[gb108]? = some (.cells #[.int .i64 a0_0, .int .i64 a0_1] 27 (0, 0))) ∧ Aside0 (Below w.heap.size w wc))
    case first =>
      have H := HC4.out
      clear HC4
      by_cases c9 : a0_0 < 0
      · rw [if_pos c9] at H
        have c9b0 : decide (a0_0 < 0) = true := decide_eq_true c9
        clear c9
        (first | rw [c9b0] | (simp only [i64_w, i32_w]; rw [c9b0]) | skip)
        have H' := Aside0.mk H
        clear H
        go_wp2
        go_meet
        case rel => exact ⟨_, ((⟨#[45]⟩ : ByteArray)), (wrap64 (-a0_0)), (by first | rfl | (simp; done) | (simp [*]; done)), (by first | rfl | (simp; done) | (simp [*]; done)), H', ⟨by first | omega | exact Nat.le_refl _⟩, ⟨by (with_reducible repeat (first | refine blk_drewN ?_ _ | refine blk_drew ?_ | refine blk_alloc ?_ _)); exact BK108.out⟩, ⟨by repeat (first | (with_reducible first | exact HB.out | apply below_alloc | apply pw_below_drewN | apply below_drew1 | refine below_set ?_ GE108.out) | exact HB.out)⟩⟩
      · rw [if_neg c9] at H
        have c9b0 : decide (a0_0 < 0) = false := decide_eq_false c9
        clear c9
        (first | rw [c9b0] | (simp only [i64_w, i32_w]; rw [c9b0]) | skip)
        have H' := Aside0.mk H
        clear H
        go_wp2
        go_meet
        case rel => exact ⟨_, ((⟨#[]⟩ : ByteArray)), (a0_0), (by first | rfl | (simp; done) | (simp [*]; done)), (by first | rfl | (simp; done) | (simp [*]; done)), H', ⟨by first | omega | exact Nat.le_refl _⟩, ⟨by (with_reducible repeat (first | refine blk_drewN ?_ _ | refine blk_drew ?_ | refine blk_alloc ?_ _)); exact BK108.out⟩, ⟨by repeat (first | (with_reducible first | exact HB.out | apply below_alloc | apply pw_below_drewN | apply below_drew1 | refine below_set ?_ GE108.out) | exact HB.out)⟩⟩
    case rest =>
      clear HC4
      try clear c1
      try clear p2
      try clear c3
      try clear c3b0
      try clear c3b1
      try clear p6
      try clear c9
      try clear c9b0
      try clear hcz6_0
      try clear hcz6_1
      try clear hfz6_0
      try clear hfz6_1
      obtain ⟨kq, x3_3, x4_3, rfl, rfl, HA, HJ3, BK108, HB⟩ := hcut
      cases kq with
      | zero => exact absurd HA.out (by simp [lexer_Number.j0])
      | succ kj3 =>
        have H := HA.out
        clear HA
        simp only [lexer_Number.j0] at H
        by_cases c10 : a0_1 = 0
        · rw [if_pos c10] at H
          exact absurd H (by simp)
        · rw [if_neg c10] at H
          have c10b0 : (a0_1 == 0) = false := beq_eq_false_iff_ne.mpr c10
          have c10b1 : (a0_1 != 0) = true := bne_iff_ne.mpr c10
          replace H := Option.bind_eq_some_iff.mp H
          obtain ⟨t110, A110, H⟩ := H
          replace H : (lexer_Number.l0 kj3 x3_3 x4_3 t110 0 1 a0_0 a0_1) = some r := H
          have A11 := Aside0.mk A110
          clear A110
          have HC12 := Aside0.mk H
          clear H
          have hcz13_0 : wc.cell? ⟨gb108, 0, none⟩ = some (.int .i64 a0_0) := (blk_cell BK108.out 0).trans rfl
          have hcz13_1 : wc.cell? ⟨gb108, 1, none⟩ = some (.int .i64 a0_1) := (blk_cell BK108.out 1).trans rfl
          have hfz13_0 := blk_frozen BK108.out 0
          have hfz13_1 := blk_frozen BK108.out 1
          go_upto_block 0 with (first | ((with_reducible refine gate_callee (f := 33) rfl ?_); refine goesL_ (some 22) rfl rfl Tryz.func33 (by kernel_rfl) rfl #[.int .i64 (wrap64 (Int.tdiv x4_3 a0_1))] rfl (by (try simp only [List.map_toArray, List.map_cons, List.map_nil]); first | done | rfl | (simp only [List.length_drop, List.length_take]; rfl)) ?_; (with_reducible refine (strconv_Itoa.calls (wrap64 (Int.tdiv x4_3 a0_1)) t110 _ ?side1 A11.out).mono ?_); (case side1 => exact Tabs.below HT.out (by repeat (first | (with_reducible first | exact HB.out | apply below_alloc | apply pw_below_drewN | apply below_drew1 | refine below_set ?_ GE108.out) | exact HB.out))); rintro e w14 ⟨rfl, hb⟩; refine ⟨_, rfl, ?_⟩; have n0_ := Aside0.mk (blk_below (g := gb108) (o := .cells #[.int .i64 a0_0, .int .i64 a0_1] 27 (0, 0)) (by (with_reducible repeat (first | refine blk_drewN ?_ _ | refine blk_drew ?_ | refine blk_alloc ?_ _)); exact BK108.out) hb); have n1_ := Aside0.mk (below_step (by repeat (first | (with_reducible first | exact HB.out | apply below_alloc | apply pw_below_drewN | apply below_drew1 | refine below_set ?_ GE108.out) | exact HB.out)) hb); clear BK108; clear HB; have BK108 := n0_; have HB := n1_; clear n0_ n1_; (try clear hb); (try clear hb2); (try clear hk); (try clear hi)))
          (try simp only [Act.put, List.setIfInBounds_toArray, List.set_cons_zero, List.set_cons_succ])
          go_cut [6, 7] (fun v6 v7 wc => ∃ (kq : Nat) (x6_11 : Int) (x7_11 : Int), v6 = .int .i64 x6_11 ∧ v7 = .int .i64 x7_11 ∧ Aside0 (lexer_Number.j2 kq x3_3 x4_3 t110 x6_11 x7_11 a0_0 a0_1 = some r) ∧ Aside0 (kq ≤ kj3) ∧ Aside0 (wc.heap[gb108]? = some (.cells #[.int .i64 a0_0, .int .i64 a0_1] 27 (0, 0))) ∧ Aside0 (Below w.heap.size w wc))
          case first =>
            have H := HC12.out
            clear HC12
            have H' := Aside0.mk H
            clear H
            go_wp2
            go_loopg [6, 7] kj3 (fun kq v6 v7 w' => ∃ (x6_2 : Int) (x7_2 : Int), v6 = .int .i64 x6_2 ∧ v7 = .int .i64 x7_2 ∧ Aside0 (lexer_Number.l0 kq x3_3 x4_3 t110 x6_2 x7_2 a0_0 a0_1 = some r) ∧ Aside0 (kq ≤ kj3) ∧ Aside0 (w'.heap[gb108]? = some (.cells #[.int .i64 a0_0, .int .i64 a0_1] 27 (0, 0))) ∧ Aside0 (Below w.heap.size w w'))
            case atStart => exact ⟨(0), (1), (by first | rfl | (simp; done) | (simp [*]; done)), (by first | rfl | (simp; done) | (simp [*]; done)), H', ⟨Nat.le_refl _⟩, ⟨by (with_reducible repeat (first | refine blk_drewN ?_ _ | refine blk_drew ?_ | refine blk_alloc ?_ _)); exact BK108.out⟩, ⟨by repeat (first | (with_reducible first | exact HB.out | apply below_alloc | apply pw_below_drewN | apply below_drew1 | refine below_set ?_ GE108.out) | exact HB.out)⟩⟩
            case round =>
              clear H'
              try clear c1
              try clear p2
              try clear c3
              try clear c3b0
              try clear c3b1
              try clear p6
              try clear c9
              try clear c9b0
              try clear c10
              try clear c10b0
              try clear c10b1
              try clear c13
              try clear c14
              try clear hcz13_0
              try clear hcz13_1
              try clear hcz6_0
              try clear hcz6_1
              try clear hfz13_0
              try clear hfz13_1
              try clear hfz6_0
              try clear hfz6_1
              try clear p2
              try clear p6
              obtain ⟨x6_2, x7_2, rfl, rfl, HA, HK2, BK108, HB⟩ := hrel
              cases gk with
              | zero => exact absurd HA.out (by simp [lexer_Number.l0])
              | succ k2 =>
                have H := HA.out
                clear HA
                simp only [lexer_Number.l0] at H
                by_cases c15 : x6_2 < 18
                · rw [if_pos c15] at H
                  have c15b0 : decide (x6_2 < 18) = true := decide_eq_true c15
                  clear c15
                  (first | rw [c15b0] | (simp only [i64_w, i32_w]; rw [c15b0]) | skip)
                  by_cases c16 : a0_1 = 0
                  · rw [if_pos c16] at H
                    exact absurd H (by simp)
                  · rw [if_neg c16] at H
                    have c16b0 : (a0_1 == 0) = false := beq_eq_false_iff_ne.mpr c16
                    have c16b1 : (a0_1 != 0) = true := bne_iff_ne.mpr c16
                    by_cases c17 : (Int.tmod x7_2 a0_1) = 0
                    · rw [if_pos c17] at H
                      have c17b0 : ((Int.tmod x7_2 a0_1) == 0) = true := beq_iff_eq.mpr c17
                      have c17b1 : ((Int.tmod x7_2 a0_1) != 0) = false := bne_eq_false_iff_eq.mpr c17
                      clear c17
                      have H' := Aside0.mk H
                      clear H
                      have hcz18_0 : wr.cell? ⟨gb108, 0, none⟩ = some (.int .i64 a0_0) := (blk_cell BK108.out 0).trans rfl
                      have hcz18_1 : wr.cell? ⟨gb108, 1, none⟩ = some (.int .i64 a0_1) := (blk_cell BK108.out 1).trans rfl
                      have hfz18_0 := blk_frozen BK108.out 0
                      have hfz18_1 := blk_frozen BK108.out 1
                      go_wp2
                      go_meet
                      case rel => exact ⟨_, (x6_2), (x7_2), (by first | rfl | (simp; done) | (simp [*]; done)), (by first | rfl | (simp; done) | (simp [*]; done)), H', ⟨by have := HJ3.out; have := HK2.out; first | omega | exact Nat.le_refl _⟩, ⟨by (with_reducible repeat (first | refine blk_drewN ?_ _ | refine blk_drew ?_ | refine blk_alloc ?_ _)); exact BK108.out⟩, ⟨by repeat (first | (with_reducible first | exact HB.out | apply below_alloc | apply pw_below_drewN | apply below_drew1 | refine below_set ?_ GE108.out) | exact HB.out)⟩⟩
                    · rw [if_neg c17] at H
                      have c17b0 : ((Int.tmod x7_2 a0_1) == 0) = false := beq_eq_false_iff_ne.mpr c17
                      have c17b1 : ((Int.tmod x7_2 a0_1) != 0) = true := bne_iff_ne.mpr c17
                      have H' := Aside0.mk H
                      clear H
                      have hcz19_0 : wr.cell? ⟨gb108, 0, none⟩ = some (.int .i64 a0_0) := (blk_cell BK108.out 0).trans rfl
                      have hcz19_1 : wr.cell? ⟨gb108, 1, none⟩ = some (.int .i64 a0_1) := (blk_cell BK108.out 1).trans rfl
                      have hfz19_0 := blk_frozen BK108.out 0
                      have hfz19_1 := blk_frozen BK108.out 1
                      go_wp2
                      go_roundg k2
                      case measure => have := HJ3.out; have := HK2.out; omega
                      case rel => exact ⟨(wrap64 (x6_2 + 1)), (wrap64 (x7_2 * 10)), (by first | rfl | (simp; done) | (simp [*]; done)), (by first | rfl | (simp; done) | (simp [*]; done)), H', ⟨by have := HJ3.out; have := HK2.out; omega⟩, ⟨by (with_reducible repeat (first | refine blk_drewN ?_ _ | refine blk_drew ?_ | refine blk_alloc ?_ _)); exact BK108.out⟩, ⟨by repeat (first | (with_reducible first | exact HB.out | apply below_alloc | apply pw_below_drewN | apply below_drew1 | refine below_set ?_ GE108.out) | exact HB.out)⟩⟩
                · rw [if_neg c15] at H
                  have c15b0 : decide (x6_2 < 18) = false := decide_eq_false c15
                  clear c15
                  (first | rw [c15b0] | (simp only [i64_w, i32_w]; rw [c15b0]) | skip)
                  have H' := Aside0.mk H
                  clear H
                  go_wp2
                  go_meet
                  case rel => exact ⟨_, (x6_2), (x7_2), (by first | rfl | (simp; done) | (simp [*]; done)), (by first | rfl | (simp; done) | (simp [*]; done)), H', ⟨by have := HJ3.out; have := HK2.out; first | omega | exact Nat.le_refl _⟩, ⟨by (with_reducible repeat (first | refine blk_drewN ?_ _ | refine blk_drew ?_ | refine blk_alloc ?_ _)); exact BK108.out⟩, ⟨by repeat (first | (with_reducible first | exact HB.out | apply below_alloc | apply pw_below_drewN | apply below_drew1 | refine below_set ?_ GE108.out) | exact HB.out)⟩⟩
          case rest =>
            clear HC12
            try clear c1
            try clear p2
            try clear c3
            try clear c3b0
            try clear c3b1
            try clear p6
            try clear c9
            try clear c9b0
            try clear c10
            try clear c10b0
            try clear c10b1
            try clear c13
            try clear c14
            try clear c15
            try clear c15b0
            try clear c16
            try clear c16b0
            try clear c16b1
            try clear c17
            try clear c17b0
            try clear c17b1
            try clear hcz13_0
            try clear hcz13_1
            try clear hcz18_0
            try clear hcz18_1
            try clear hcz19_0
            try clear hcz19_1
            try clear hcz6_0
            try clear hcz6_1
            try clear hfz13_0
            try clear hfz13_1
            try clear hfz18_0
            try clear hfz18_1
            try clear hfz19_0
            try clear hfz19_1
            try clear hfz6_0
            try clear hfz6_1
            try clear p2
            try clear p6
            obtain ⟨kq, x6_11, x7_11, rfl, rfl, HA, HJ11, BK108, HB⟩ := hcut
            cases kq with
            | zero => exact absurd HA.out (by simp [lexer_Number.j2])
            | succ kj11 =>
              have H := HA.out
              clear HA
              simp only [lexer_Number.j2] at H
              have HC20 := Aside0.mk H
              clear H
              go_upto_region 11 with (fail)
              go_cut [47] (fun v47 wc => ∃ (kq : Nat) (x47_19 : Bool), v47 = .bool x47_19 ∧ Aside0 (lexer_Number.j3 kq x3_3 x4_3 t110 x6_11 x7_11 x47_19 a0_0 a0_1 = some r) ∧ Aside0 (kq ≤ kj11) ∧ Aside0 (wc.heap[gb108]? = some (.cells #[.int .i64 a0_0, .int .i64 a0_1] 27 (0, 0))) ∧ Aside0 (Below w.heap.size w wc))
              case first =>
                have H := HC20.out
                clear HC20
                by_cases c21 : a0_1 = 0
                · rw [if_pos c21] at H
                  exact absurd H (by simp)
                · rw [if_neg c21] at H
                  have c21b0 : (a0_1 == 0) = false := beq_eq_false_iff_ne.mpr c21
                  have c21b1 : (a0_1 != 0) = true := bne_iff_ne.mpr c21
                  (first | rw [c21b0] | (simp only [i64_w, i32_w]; rw [c21b0]) | skip)
                  by_cases c22 : (Int.tmod x7_11 a0_1) = 0
                  · rw [if_pos c22] at H
                    have c22b0 : ((Int.tmod x7_11 a0_1) == 0) = true := beq_iff_eq.mpr c22
                    have c22b1 : ((Int.tmod x7_11 a0_1) != 0) = false := bne_eq_false_iff_eq.mpr c22
                    clear c22
                    have H' := Aside0.mk H
                    clear H
                    have hcz23_0 : wc.cell? ⟨gb108, 0, none⟩ = some (.int .i64 a0_0) := (blk_cell BK108.out 0).trans rfl
                    have hcz23_1 : wc.cell? ⟨gb108, 1, none⟩ = some (.int .i64 a0_1) := (blk_cell BK108.out 1).trans rfl
                    have hfz23_0 := blk_frozen BK108.out 0
                    have hfz23_1 := blk_frozen BK108.out 1
                    go_wp2
                    go_meet
                    case rel => exact ⟨_, (decide ((wrap64 ((t110.size : Int) + x6_11)) > 18)), (by first | rfl | (simp; done) | (simp [*]; done)), H', ⟨by have := HJ3.out; have := HJ11.out; first | omega | exact Nat.le_refl _⟩, ⟨by (with_reducible repeat (first | refine blk_drewN ?_ _ | refine blk_drew ?_ | refine blk_alloc ?_ _)); exact BK108.out⟩, ⟨by repeat (first | (with_reducible first | exact HB.out | apply below_alloc | apply pw_below_drewN | apply below_drew1 | refine below_set ?_ GE108.out) | exact HB.out)⟩⟩
                  · rw [if_neg c22] at H
                    have c22b0 : ((Int.tmod x7_11 a0_1) == 0) = false := beq_eq_false_iff_ne.mpr c22
                    have c22b1 : ((Int.tmod x7_11 a0_1) != 0) = true := bne_iff_ne.mpr c22
                    have H' := Aside0.mk H
                    clear H
                    have hcz24_0 : wc.cell? ⟨gb108, 0, none⟩ = some (.int .i64 a0_0) := (blk_cell BK108.out 0).trans rfl
                    have hcz24_1 : wc.cell? ⟨gb108, 1, none⟩ = some (.int .i64 a0_1) := (blk_cell BK108.out 1).trans rfl
                    have hfz24_0 := blk_frozen BK108.out 0
                    have hfz24_1 := blk_frozen BK108.out 1
                    go_wp2
                    go_meet
                    case rel => exact ⟨_, (true), (by first | rfl | (simp; done) | (simp [*]; done)), H', ⟨by have := HJ3.out; have := HJ11.out; first | omega | exact Nat.le_refl _⟩, ⟨by (with_reducible repeat (first | refine blk_drewN ?_ _ | refine blk_drew ?_ | refine blk_alloc ?_ _)); exact BK108.out⟩, ⟨by repeat (first | (with_reducible first | exact HB.out | apply below_alloc | apply pw_below_drewN | apply below_drew1 | refine below_set ?_ GE108.out) | exact HB.out)⟩⟩
              case rest =>
                clear HC20
                try clear c1
                try clear c2
                try clear p2
                try clear c3
                try clear c3b0
                try clear c3b1
                try clear p6
                try clear c9
                try clear c9b0
                try clear c10
                try clear c10b0
                try clear c10b1
                try clear c13
                try clear c14
                try clear c15
                try clear c15b0
                try clear c16
                try clear c16b0
                try clear c16b1
                try clear c17
                try clear c17b0
                try clear c17b1
                try clear c21
                try clear c21b0
                try clear c21b1
                try clear c22
                try clear c22b0
                try clear c22b1
                try clear hcz13_0
                try clear hcz13_1
                try clear hcz18_0
                try clear hcz18_1
                try clear hcz19_0
                try clear hcz19_1
                try clear hcz23_0
                try clear hcz23_1
                try clear hcz24_0
                try clear hcz24_1
                try clear hcz6_0
                try clear hcz6_1
                try clear hfz13_0
                try clear hfz13_1
                try clear hfz18_0
                try clear hfz18_1
                try clear hfz19_0
                try clear hfz19_1
                try clear hfz23_0
                try clear hfz23_1
                try clear hfz24_0
                try clear hfz24_1
                try clear hfz6_0
                try clear hfz6_1
                try clear p2
                try clear p6
                obtain ⟨kq, x47_19, rfl, HA, HJ19, BK108, HB⟩ := hcut
                cases kq with
                | zero => exact absurd HA.out (by simp [lexer_Number.j3])
                | succ kj19 =>
                  have H := HA.out
                  clear HA
                  simp only [lexer_Number.j3] at H
                  by_cases c25 : x47_19 = true
                  · subst c25
                    have H1 : ((ratio_Format.f kj19 a0_0 a0_1).bind fun t111 => (some t111)) = some r := by rw [if_pos rfl] at H; exact H
                    clear H
                    have H := H1
                    clear H1
                    replace H := Option.bind_eq_some_iff.mp H
                    obtain ⟨t111, A260, H⟩ := H
                    replace H : (some t111) = some r := H
                    have A26 := Aside0.mk A260
                    clear A260
                    obtain rfl := Option.some.inj H
                    have hcz27_0 : wc.cell? ⟨gb108, 0, none⟩ = some (.int .i64 a0_0) := (blk_cell BK108.out 0).trans rfl
                    have hcz27_1 : wc.cell? ⟨gb108, 1, none⟩ = some (.int .i64 a0_1) := (blk_cell BK108.out 1).trans rfl
                    have hfz27_0 := blk_frozen BK108.out 0
                    have hfz27_1 := blk_frozen BK108.out 1
                    go_wp2_with (first | ((with_reducible refine gate_callee (f := 35) rfl ?_); refine goesL_ (some 49) rfl rfl Tryz.func35 (by kernel_rfl) rfl #[.agg #[.int .i64 a0_0, .int .i64 a0_1]] rfl (by (try simp only [List.map_toArray, List.map_cons, List.map_nil]); first | done | rfl | (simp only [List.length_drop, List.length_take]; rfl)) ?_; (with_reducible refine (ratio_Format.calls kj19 a0_0 a0_1 t111 _ ?side1 A26.out).mono ?_); (case side1 => exact Tabs.below HT.out (by repeat (first | (with_reducible first | exact HB.out | apply below_alloc | apply pw_below_drewN | apply below_drew1 | refine below_set ?_ GE108.out) | exact HB.out))); rintro e w28 ⟨rfl, hb⟩; refine ⟨_, rfl, ?_⟩; have n0_ := Aside0.mk (blk_below (g := gb108) (o := .cells #[.int .i64 a0_0, .int .i64 a0_1] 27 (0, 0)) (by (with_reducible repeat (first | refine blk_drewN ?_ _ | refine blk_drew ?_ | refine blk_alloc ?_ _)); exact BK108.out) hb); have n1_ := Aside0.mk (below_step (by repeat (first | (with_reducible first | exact HB.out | apply below_alloc | apply pw_below_drewN | apply below_drew1 | refine below_set ?_ GE108.out) | exact HB.out)) hb); clear BK108; clear HB; have BK108 := n0_; have HB := n1_; clear n0_ n1_; (try clear hb); (try clear hb2); (try clear hk); (try clear hi)))
                    go_ret
                    exact ⟨by first | rfl | (simp [errW_none, errW_some] <;> rfl) | (simp [*, errW_none, errW_some] <;> rfl), by repeat (first | (with_reducible first | exact HB.out | apply below_alloc | apply pw_below_drewN | apply below_drew1 | refine below_set ?_ GE108.out) | exact HB.out)⟩
                  · replace c25 := Bool.eq_false_iff.mpr c25
                    subst c25
                    have H1 : (if x6_11 = 0 then (if x3_3.size + t110.size ≤ 9223372036854775807 then (some (x3_3 ++ t110)) else (none)) else (if a0_1 = 0 then (none) else ((strconv_Itoa.f (wrap64 ((Int.tmod x4_3 a0_1) * (wrap64 (Int.tdiv x7_11 a0_1))))).bind fun t112 => (if x3_3.size + t110.size ≤ 9223372036854775807 then (if (x3_3 ++ t110).size + 1 ≤ 9223372036854775807 then ((strings_Repeat.f (⟨#[48]⟩ : ByteArray) (wrap64 (x6_11 - (t112.size : Int)))).bind fun t113 => (if ((x3_3 ++ t110) ++ (⟨#[46]⟩ : ByteArray)).size + t113.size ≤ 9223372036854775807 then (if (((x3_3 ++ t110) ++ (⟨#[46]⟩ : ByteArray)) ++ t113).size + t112.size ≤ 9223372036854775807 then (some ((((x3_3 ++ t110) ++ (⟨#[46]⟩ : ByteArray)) ++ t113) ++ t112)) else (none)) else (none))) else (none)) else (none))))) = some r := by rw [if_neg (show ¬ (false = true) by decide)] at H; exact H
                    clear H
                    have H := H1
                    clear H1
                    by_cases c29 : x6_11 = 0
                    · rw [if_pos c29] at H
                      have c29b0 : (x6_11 == 0) = true := beq_iff_eq.mpr c29
                      have c29b1 : (x6_11 != 0) = false := bne_eq_false_iff_eq.mpr c29
                      clear c29
                      by_cases c30 : x3_3.size + t110.size ≤ 9223372036854775807
                      · rw [if_pos c30] at H
                        have c30b0 := eq_true c30
                        have c30b1 : decide (x3_3.size + t110.size ≤ 9223372036854775807) = true := decide_eq_true c30
                        try have c30b2 : (9223372036854775807 < x3_3.size + t110.size) = False := eq_false (Nat.not_lt.2 c30)
                        obtain rfl := Option.some.inj H
                        go_wp2
                        go_ret
                        exact ⟨by first | rfl | (simp [errW_none, errW_some] <;> rfl) | (simp [*, errW_none, errW_some] <;> rfl), by repeat (first | (with_reducible first | exact HB.out | apply below_alloc | apply pw_below_drewN | apply below_drew1 | refine below_set ?_ GE108.out) | exact HB.out)⟩
                      · rw [if_neg c30] at H
                        exact absurd H (by simp)
                    · rw [if_neg c29] at H
                      have c29b0 : (x6_11 == 0) = false := beq_eq_false_iff_ne.mpr c29
                      have c29b1 : (x6_11 != 0) = true := bne_iff_ne.mpr c29
                      by_cases c31 : a0_1 = 0
                      · rw [if_pos c31] at H
                        exact absurd H (by simp)
                      · rw [if_neg c31] at H
                        have c31b0 : (a0_1 == 0) = false := beq_eq_false_iff_ne.mpr c31
                        have c31b1 : (a0_1 != 0) = true := bne_iff_ne.mpr c31
                        replace H := Option.bind_eq_some_iff.mp H
                        obtain ⟨t112, A320, H⟩ := H
                        replace H : (if x3_3.size + t110.size ≤ 9223372036854775807 then (if (x3_3 ++ t110).size + 1 ≤ 9223372036854775807 then ((strings_Repeat.f (⟨#[48]⟩ : ByteArray) (wrap64 (x6_11 - (t112.size : Int)))).bind fun t113 => (if ((x3_3 ++ t110) ++ (⟨#[46]⟩ : ByteArray)).size + t113.size ≤ 9223372036854775807 then (if (((x3_3 ++ t110) ++ (⟨#[46]⟩ : ByteArray)) ++ t113).size + t112.size ≤ 9223372036854775807 then (some ((((x3_3 ++ t110) ++ (⟨#[46]⟩ : ByteArray)) ++ t113) ++ t112)) else (none)) else (none))) else (none)) else (none)) = some r := H
                        have A32 := Aside0.mk A320
                        clear A320
                        by_cases c33 : x3_3.size + t110.size ≤ 9223372036854775807
                        · rw [if_pos c33] at H
                          have c33b0 := eq_true c33
                          have c33b1 : decide (x3_3.size + t110.size ≤ 9223372036854775807) = true := decide_eq_true c33
                          try have c33b2 : (9223372036854775807 < x3_3.size + t110.size) = False := eq_false (Nat.not_lt.2 c33)
                          by_cases c34 : (x3_3 ++ t110).size + 1 ≤ 9223372036854775807
                          · rw [if_pos c34] at H
                            have c34b0 := eq_true c34
                            have c34b1 : decide ((x3_3 ++ t110).size + 1 ≤ 9223372036854775807) = true := decide_eq_true c34
                            try have c34b3 : (9223372036854775807 < x3_3.size + t110.size + 1) = False := eq_false (Nat.not_lt.2 (by have z_ := c34; simp only [ByteArray.size_append'] at z_; exact z_))
                            try have c34b2 : (9223372036854775807 < (x3_3 ++ t110).size + 1) = False := eq_false (Nat.not_lt.2 c34)
                            replace H := Option.bind_eq_some_iff.mp H
                            obtain ⟨t113, A350, H⟩ := H
                            replace H : (if ((x3_3 ++ t110) ++ (⟨#[46]⟩ : ByteArray)).size + t113.size ≤ 9223372036854775807 then (if (((x3_3 ++ t110) ++ (⟨#[46]⟩ : ByteArray)) ++ t113).size + t112.size ≤ 9223372036854775807 then (some ((((x3_3 ++ t110) ++ (⟨#[46]⟩ : ByteArray)) ++ t113) ++ t112)) else (none)) else (none)) = some r := H
                            have A35 := Aside0.mk A350
                            clear A350
                            by_cases c36 : ((x3_3 ++ t110) ++ (⟨#[46]⟩ : ByteArray)).size + t113.size ≤ 9223372036854775807
                            · rw [if_pos c36] at H
                              have c36b0 := eq_true c36
                              have c36b1 : decide (((x3_3 ++ t110) ++ (⟨#[46]⟩ : ByteArray)).size + t113.size ≤ 9223372036854775807) = true := decide_eq_true c36
                              try have c36b3 : (9223372036854775807 < x3_3.size + t110.size + 1 + t113.size) = False := eq_false (Nat.not_lt.2 (by have z_ := c36; simp only [ByteArray.size_append'] at z_; exact z_))
                              try have c36b2 : (9223372036854775807 < ((x3_3 ++ t110) ++ (⟨#[46]⟩ : ByteArray)).size + t113.size) = False := eq_false (Nat.not_lt.2 c36)
                              by_cases c37 : (((x3_3 ++ t110) ++ (⟨#[46]⟩ : ByteArray)) ++ t113).size + t112.size ≤ 9223372036854775807
                              · rw [if_pos c37] at H
                                have c37b0 := eq_true c37
                                have c37b1 : decide ((((x3_3 ++ t110) ++ (⟨#[46]⟩ : ByteArray)) ++ t113).size + t112.size ≤ 9223372036854775807) = true := decide_eq_true c37
                                try have c37b3 : (9223372036854775807 < x3_3.size + t110.size + 1 + t113.size + t112.size) = False := eq_false (Nat.not_lt.2 (by have z_ := c37; simp only [ByteArray.size_append'] at z_; exact z_))
                                try have c37b2 : (9223372036854775807 < (((x3_3 ++ t110) ++ (⟨#[46]⟩ : ByteArray)) ++ t113).size + t112.size) = False := eq_false (Nat.not_lt.2 c37)
                                obtain rfl := Option.some.inj H
                                try go_wp2
                                have n0_ := Aside0.mk (blk_drew BK108.out)
                                have n1_ := Aside0.mk (below_drew1 HB.out)
                                clear BK108
                                clear HB
                                have BK108 := n0_
                                have HB := n1_
                                clear n0_ n1_
                                refine start_ (n := 11) (S := fun w' => w'.cell? ⟨gb108, 0, none⟩ = some (.int .i64 a0_0) ∧ w'.cell? ⟨gb108, 1, none⟩ = some (.int .i64 a0_1)) (ds := []) #[false, false, false, false, false, false, false, false, false, false, false] (by kernel_rfl) rfl rfl ⟨(blk_cell BK108.out 0).trans rfl, (blk_cell BK108.out 1).trans rfl⟩ (fun hHeld => ?_); refine with_tabW lexer_Number.tab15 lexer_Number.bits15 (fun HT_ HW_ => ?_)
                                generalize wc.drew = w38 at BK108 HB hHeld ⊢
                                refine pure_ (i := 0) (N := some 55) (v := ?_) (a' := ?_) #[true, false, false, false, false, false, false, false, false, false, false] rfl rfl (any_of HT_.out (by kernel_rfl)) (fun _ _ _ h => h) (Or.inl ⟨by rfl, ?_⟩) ?_ ?_
                                rotate_left
                                · intro w'
                                  go_simp
                                  with_reducible rfl
                                rotate_left
                                · simp only [Act.put, List.setIfInBounds_toArray, List.set_cons_zero, List.set_cons_succ, i64_w, i32_w]
                                  rfl
                                refine pure_ (i := 1) (N := some 56) (v := ?_) (a' := ?_) #[true, true, false, false, false, false, false, false, false, false, false] rfl rfl (any_of HT_.out (by kernel_rfl)) (fun _ _ _ h => h) (Or.inl ⟨by rfl, ?_⟩) ?_ ?_
                                rotate_left
                                · intro w'
                                  go_simp
                                  with_reducible rfl
                                rotate_left
                                · simp only [Act.put, List.setIfInBounds_toArray, List.set_cons_zero, List.set_cons_succ, i64_w, i32_w]
                                  rfl
                                refine pure_ (i := 4) (N := some 59) (v := ?_) (a' := ?_) #[true, true, false, false, true, false, false, false, false, false, false] rfl rfl (any_of HT_.out (by kernel_rfl)) (fun _ _ _ h => h) (Or.inl ⟨by rfl, ?_⟩) ?_ ?_
                                rotate_left
                                · intro w'
                                  go_simp
                                  with_reducible rfl
                                rotate_left
                                · simp only [Act.put, List.setIfInBounds_toArray, List.set_cons_zero, List.set_cons_succ, i64_w, i32_w]
                                  rfl
                                refine pure_ (i := 5) (N := some 60) (v := ?_) (a' := ?_) #[true, true, false, false, true, true, false, false, false, false, false] rfl rfl (any_of HT_.out (by kernel_rfl)) (fun _ _ _ h => h) (Or.inl ⟨by rfl, ?_⟩) ?_ ?_
                                rotate_left
                                · intro w'
                                  go_simp
                                  with_reducible rfl
                                rotate_left
                                · simp only [Act.put, List.setIfInBounds_toArray, List.set_cons_zero, List.set_cons_succ, i64_w, i32_w]
                                  rfl
                                refine take_ (i := 2) (N := some 57) (v := ?_) (a' := ?_) #[true, true, true, false, true, true, false, false, false, false, false] rfl rfl (take_ofW HT_.out HW_.out (by kernel_rfl)) (fun _ _ _ h => h) (Or.inl ⟨by rfl, ?_⟩) hHeld ?_ ?_
                                rotate_left
                                · rintro w' ⟨s0, s1⟩
                                  go_simp
                                  with_reducible rfl
                                rotate_left
                                · simp only [Act.put, List.setIfInBounds_toArray, List.set_cons_zero, List.set_cons_succ, i64_w, i32_w]
                                  rfl
                                refine pure_ (i := 3) (N := some 58) (v := ?_) (a' := ?_) #[true, true, true, true, true, true, false, false, false, false, false] rfl rfl (any_of HT_.out (by kernel_rfl)) (fun _ _ _ h => h) (Or.inl ⟨by rfl, ?_⟩) ?_ ?_
                                rotate_left
                                · intro w'
                                  go_simp
                                  with_reducible rfl
                                rotate_left
                                · simp only [Act.put, List.setIfInBounds_toArray, List.set_cons_zero, List.set_cons_succ, i64_w, i32_w]
                                  rfl
                                refine take_ (i := 6) (N := some 61) (v := ?_) (a' := ?_) #[true, true, true, true, true, true, true, false, false, false, false] rfl rfl (take_ofW HT_.out HW_.out (by kernel_rfl)) (fun _ _ _ h => h) (Or.inl ⟨by rfl, ?_⟩) hHeld ?_ ?_
                                rotate_left
                                · rintro w' ⟨s0, s1⟩
                                  go_simp
                                  with_reducible rfl
                                rotate_left
                                · simp only [Act.put, List.setIfInBounds_toArray, List.set_cons_zero, List.set_cons_succ, i64_w, i32_w]
                                  rfl
                                refine pure_ (i := 7) (N := some 62) (v := ?_) (a' := ?_) #[true, true, true, true, true, true, true, true, false, false, false] rfl rfl (any_of HT_.out (by kernel_rfl)) (fun _ _ _ h => h) (Or.inl ⟨by rfl, ?_⟩) ?_ ?_
                                rotate_left
                                · intro w'
                                  go_simp
                                  with_reducible rfl
                                rotate_left
                                · simp only [Act.put, List.setIfInBounds_toArray, List.set_cons_zero, List.set_cons_succ, i64_w, i32_w]
                                  rfl
                                refine pure_ (i := 8) (N := some 63) (v := ?_) (a' := ?_) #[true, true, true, true, true, true, true, true, true, false, false] rfl rfl (any_of HT_.out (by kernel_rfl)) (fun _ _ _ h => h) (Or.inl ⟨by rfl, ?_⟩) ?_ ?_
                                rotate_left
                                · intro w'
                                  go_simp
                                  with_reducible rfl
                                rotate_left
                                · simp only [Act.put, List.setIfInBounds_toArray, List.set_cons_zero, List.set_cons_succ, i64_w, i32_w]
                                  rfl
                                refine one_ (i := 9) (N := some 64) #[true, true, true, true, true, true, true, true, true, true, false] rfl rfl (one_of HT_.out (by kernel_rfl)) (by decide) (fun K hK => ?_)
                                refine goes_ Tryz.func33 (by kernel_rfl) rfl #[.int .i64 (wrap64 ((Int.tmod x4_3 a0_1) * (wrap64 (Int.tdiv x7_11 a0_1))))] (by rfl) rfl rfl (by (try simp only [List.map_toArray, List.map_cons, List.map_nil]); first | done | rfl | (simp only [List.length_drop, List.length_take]; rfl)) ?_
                                with_reducible refine (strconv_Itoa.calls (wrap64 ((Int.tmod x4_3 a0_1) * (wrap64 (Int.tdiv x7_11 a0_1)))) t112 _ ?side1 A32.out).mono ?_
                                (case side1 => exact Tabs.below HT.out (by repeat (first | (with_reducible first | exact HB.out | apply below_alloc | apply pw_below_drewN | apply below_drew1 | refine below_set ?_ GE108.out) | exact HB.out)))
                                rintro e w39 ⟨rfl, hb⟩
                                refine ⟨_, rfl, ?_⟩
                                have n0_ := Aside0.mk (blk_below (g := gb108) (o := .cells #[.int .i64 a0_0, .int .i64 a0_1] 27 (0, 0)) (by (with_reducible repeat (first | refine blk_drewN ?_ _ | refine blk_drew ?_ | refine blk_alloc ?_ _)); exact BK108.out) hb)
                                have n1_ := Aside0.mk (below_step (by repeat (first | (with_reducible first | exact HB.out | apply below_alloc | apply pw_below_drewN | apply below_drew1 | refine below_set ?_ GE108.out) | exact HB.out)) hb)
                                clear BK108
                                clear HB
                                have BK108 := n0_
                                have HB := n1_
                                clear n0_ n1_
                                (try clear hb)
                                (try clear hb2)
                                (try clear hk)
                                (try clear hi)
                                refine hK.out _ _ ⟨(blk_cell BK108.out 0).trans rfl, (blk_cell BK108.out 1).trans rfl⟩ (fun hHeld => ?_)
                                clear hK K
                                refine norm_ (a' := ?_) ?_ ?_
                                rotate_left
                                · show Act.put _ (some 64) _ = _
                                  simp only [Act.put, List.setIfInBounds_toArray, List.set_cons_zero, List.set_cons_succ, i64_w, i32_w]
                                  rfl
                                refine pure_ (i := 10) (N := some 8) (v := ?_) (a' := ?_) #[true, true, true, true, true, true, true, true, true, true, true] rfl rfl (any_of HT_.out (by kernel_rfl)) (fun _ _ _ h => h) (Or.inl ⟨by rfl, ?_⟩) ?_ ?_
                                rotate_left
                                · intro w'
                                  go_simp
                                  with_reducible rfl
                                rotate_left
                                · simp only [Act.put, List.setIfInBounds_toArray, List.set_cons_zero, List.set_cons_succ, i64_w, i32_w]
                                  rfl
                                refine done_ (done_of HT_.out (by kernel_rfl)) ?_
                                try go_wp2_with (first | ((with_reducible refine gate_callee (f := 36) rfl ?_); refine goesL_ (some 73) rfl rfl Tryz.func36 (by kernel_rfl) rfl #[.string (⟨#[48]⟩ : ByteArray), .int .i64 (wrap64 (x6_11 - (t112.size : Int)))] rfl (by (try simp only [List.map_toArray, List.map_cons, List.map_nil]); first | done | rfl | (simp only [List.length_drop, List.length_take]; rfl)) ?_; (with_reducible refine (strings_Repeat.calls (⟨#[48]⟩ : ByteArray) (wrap64 (x6_11 - (t112.size : Int))) t113 _ A35.out).mono ?_); rintro e w40 ⟨rfl, hb⟩; refine ⟨_, rfl, ?_⟩; have n0_ := Aside0.mk (blk_below (g := gb108) (o := .cells #[.int .i64 a0_0, .int .i64 a0_1] 27 (0, 0)) (by (with_reducible repeat (first | refine blk_drewN ?_ _ | refine blk_drew ?_ | refine blk_alloc ?_ _)); exact BK108.out) hb); have n1_ := Aside0.mk (below_step (by repeat (first | (with_reducible first | exact HB.out | apply below_alloc | apply pw_below_drewN | apply below_drew1 | refine below_set ?_ GE108.out) | exact HB.out)) hb); clear BK108; clear HB; have BK108 := n0_; have HB := n1_; clear n0_ n1_; (try clear hb); (try clear hb2); (try clear hk); (try clear hi)))
                                go_ret
                                exact ⟨by first | rfl | (simp [errW_none, errW_some] <;> rfl) | (simp [*, errW_none, errW_some] <;> rfl), by repeat (first | (with_reducible first | exact HB.out | apply below_alloc | apply pw_below_drewN | apply below_drew1 | refine below_set ?_ GE108.out) | exact HB.out)⟩
                              · rw [if_neg c37] at H
                                exact absurd H (by simp)
                            · rw [if_neg c36] at H
                              exact absurd H (by simp)
                          · rw [if_neg c34] at H
                            exact absurd H (by simp)
                        · rw [if_neg c33] at H
                          exact absurd H (by simp)
  · rw [if_neg c3] at H
    have c3b0 : (t109 == 0) = false := beq_eq_false_iff_ne.mpr c3
    have c3b1 : (t109 != 0) = true := bne_iff_ne.mpr c3
    obtain rfl := Option.some.inj H
    go_enter Tryz.func13, Tryz.ntmps13
    go_wp2_with (first | ((with_reducible refine gate_dst (N := 1) rfl ?_); (try (refine gate_guard (by rfl) ?_; dsimp only)); refine box_event ?hg (N := 1) ?hd (cs := #[.int .i64 a0_0, .int .i64 a0_1]) (t := 27) ?hr ?_; (case hd => rfl); (case hg => rfl); (case hr => first | (go_simp; done) | (go_simp; rfl)); intro gb108 hg w41 hbox hb; have n0_ := Aside0.mk (below_step (by repeat (first | (with_reducible first | exact HB.out | apply below_alloc | apply pw_below_drewN | apply below_drew1) | exact HB.out)) hb); have n1_ := Aside0.mk (hbox); have n2_ := Aside0.mk ((by rw [hg]; exact (below_size (by repeat (first | (with_reducible first | exact HB.out | apply below_alloc | apply pw_below_drewN | apply below_drew1) | exact HB.out))) : w.heap.size ≤ gb108)); have n3_ := Aside0.mk ((by rw [hg]; exact (below_size (by repeat (first | (with_reducible first | exact HB.out | apply below_alloc | apply pw_below_drewN | apply below_drew1) | exact HB.out))) : w.heap.size ≤ gb108)); clear HB; have HB := n0_; have BK108 := n1_; have GW108 := n2_; have GE108 := n3_; clear n0_ n1_ n2_ n3_; clear hb hbox hg; have hcz42_0 : w41.cell? ⟨gb108, 0, none⟩ = some (.int .i64 a0_0) := (blk_cell BK108.out 0).trans rfl; have hcz42_1 : w41.cell? ⟨gb108, 1, none⟩ = some (.int .i64 a0_1) := (blk_cell BK108.out 1).trans rfl; have hfz42_0 := blk_frozen BK108.out 0; have hfz42_1 := blk_frozen BK108.out 1) | ((with_reducible refine gate_callee (f := 14) rfl ?_); refine goesL_ (some 10) rfl rfl Tryz.func14 (by kernel_rfl) rfl #[.agg #[.int .i64 a0_0, .int .i64 a0_1]] rfl (by (try simp only [List.map_toArray, List.map_cons, List.map_nil]); first | done | rfl | (simp only [List.length_drop, List.length_take]; rfl)) ?_; (with_reducible refine (ratio_Check.calls k a0_0 a0_1 t109 _ A2.out).mono ?_); rintro e w43 ⟨rfl, hb⟩; refine ⟨_, rfl, ?_⟩; have n0_ := Aside0.mk (blk_below (g := gb108) (o := .cells #[.int .i64 a0_0, .int .i64 a0_1] 27 (0, 0)) (by (with_reducible repeat (first | refine blk_drewN ?_ _ | refine blk_drew ?_ | refine blk_alloc ?_ _)); exact BK108.out) hb); have n1_ := Aside0.mk (below_step (by repeat (first | (with_reducible first | exact HB.out | apply below_alloc | apply pw_below_drewN | apply below_drew1 | refine below_set ?_ GE108.out) | exact HB.out)) hb); clear BK108; clear HB; have BK108 := n0_; have HB := n1_; clear n0_ n1_; (try clear hb); (try clear hb2); (try clear hk); (try clear hi)))
    go_ret
    exact ⟨by first | rfl | (simp [errW_none, errW_some] <;> rfl) | (simp [*, errW_none, errW_some] <;> rfl), by repeat (first | (with_reducible first | exact HB.out | apply below_alloc | apply pw_below_drewN | apply below_drew1 | refine below_set ?_ GE108.out) | exact HB.out)⟩
end Go.Proofs.YteokilkcchdeiaaGreatDoor.Q
end
section
namespace Go.Proofs.YteokilkcchdeiaaGreatDoor.X
open Go.RowKit Go.Proofs.YteokilkcchdeiaaGreatDoor Go.Proofs.YteokilkcchdeiaaGreatDoorW.PrintWords Go.Proofs.YteokilkcchdeiaaGreatDoorW.PrintLast Go.Proofs.YteokilkcchdeiaaGreatDoorW.PrintMore Go.Proofs.YteokilkcchdeiaaGreatDoor.Q
set_option linter.unusedVariables false
theorem tl_size (s : ByteArray) : s.data.toList.length = s.size := Array.length_toList
theorem tl_get (s : ByteArray) (k : Nat) (h : k < s.size) : (s[k].toNat : Int) = ((s.data.toList.getD k 0).toNat : Int) := by
  have h2 : k < s.data.toList.length := by rw [tl_size]; exact h
  rw [List.getD_eq_getElem?_getD, List.getElem?_eq_getElem h2]
  rfl
def lexer_run_isDigit.f (s : ByteArray) : Option Int := if s.size ≤ 9223372036854775806 then some (runN digB s.data.toList) else none
set_option maxHeartbeats 1000000 in
theorem lexer_run_isDigit.calls (a0 : ByteArray) (r : Int) (w : World) (h : lexer_run_isDigit.f a0 = some r) :
    Calls Tryz.prog 97 #[.string a0, .func (.func 98) #[] #[]] w fun e w' => e = .returned (.int .i64 r) ∧ Drawn0 w w' := by
  unfold lexer_run_isDigit.f at h
  split at h
  · rename_i hs
    obtain rfl := Option.some.inj h
    clear h
    have HX := isDigit_any
    go_enter Tryz.func97, Tryz.ntmps97
    go_wp2
    go_loopw [5] (fun i wr => ∃ k : Nat, k ≤ a0.size ∧ i = .int .i64 k ∧ Aside0 (∀ j, j < k → digB ((a0.data.toList.getD j 0).toNat) = true) ∧ Drawn0 w wr) (fun i _ => a0.size - (intOf i).toNat)
    case atStart => exact ⟨0, Nat.zero_le _, rfl, ⟨fun j hj => by omega⟩, by repeat (first | exact Drawn0.refl _ | apply Drawn0.step)⟩
    case round =>
      obtain ⟨k, hk, rfl, HJ, HD⟩ := hrel
      by_cases hlt : k < a0.size
      · have hb : (a0[k].toNat : Int) = ((a0.data.toList.getD k 0).toNat : Int) := tl_get a0 k hlt
        cases hd : digB (a0[k].toNat : Int)
        · have H1 : ∀ W, Calls Tryz.prog 98 #[.int .u8 (a0[k].toNat : Int)] W fun e w' => e = .returned (.bool false) ∧ Drawn0 W w' := fun W => hd ▸ HX _ W
          have HE := Aside0.mk hd
          have HB := Aside0.mk hb
          clear hd hb HX
          go_wp2_with (first | (go_at_call 98; (with_reducible refine (H1 _).mono ?_); rintro e w' ⟨rfl, ⟨nd, rfl⟩⟩))
          go_ret
          refine ⟨?_, ?_⟩
          · rw [runN_stop digB a0.data.toList k (by rw [tl_size]; exact hk) HJ.out (.inr (by rw [← HB.out]; exact HE.out))]
            rfl
          · repeat (first | exact HD | exact Drawn0.refl _ | apply Drawn0.step)
        · have H1 : ∀ W, Calls Tryz.prog 98 #[.int .u8 (a0[k].toNat : Int)] W fun e w' => e = .returned (.bool true) ∧ Drawn0 W w' := fun W => hd ▸ HX _ W
          have HE := Aside0.mk hd
          have HB := Aside0.mk hb
          clear hd hb HX
          go_wp2_with (first | (go_at_call 98; (with_reducible refine (H1 _).mono ?_); rintro e w' ⟨rfl, ⟨nd, rfl⟩⟩))
          go_roundw
          case rel => exact ⟨k + 1, by omega, by go_num, ⟨fun j hj => by
            rcases Nat.lt_or_ge j k with h1 | h1
            · exact HJ.out j h1
            · obtain rfl : j = k := by omega
              rw [← HB.out]; exact HE.out⟩, by repeat (first | exact HD | exact Drawn0.refl _ | apply Drawn0.step)⟩
          case measure => simp [intOf]; omega
      · clear HX
        go_wp2
        go_ret
        refine ⟨?_, ?_⟩
        · rw [runN_stop digB a0.data.toList k (by rw [tl_size]; exact hk) HJ.out (.inl (by rw [tl_size]; omega))]
          rfl
        · repeat (first | exact HD | exact Drawn0.refl _ | apply Drawn0.step)
  · cases h
def lexer_run_part.f (s : ByteArray) : Option Int := if s.size ≤ 9223372036854775806 then some (runN wordB s.data.toList) else none
set_option maxHeartbeats 1000000 in
theorem lexer_run_part.calls (a0 : ByteArray) (r : Int) (w : World) (h : lexer_run_part.f a0 = some r) :
    Calls Tryz.prog 97 #[.string a0, .func (.func 121) #[] #[]] w fun e w' => e = .returned (.int .i64 r) ∧ Drawn0 w w' := by
  unfold lexer_run_part.f at h
  split at h
  · rename_i hs
    obtain rfl := Option.some.inj h
    clear h
    have HX := part1_any
    go_enter Tryz.func97, Tryz.ntmps97
    go_wp2
    go_loopw [5] (fun i wr => ∃ k : Nat, k ≤ a0.size ∧ i = .int .i64 k ∧ Aside0 (∀ j, j < k → wordB ((a0.data.toList.getD j 0).toNat) = true) ∧ Drawn0 w wr) (fun i _ => a0.size - (intOf i).toNat)
    case atStart => exact ⟨0, Nat.zero_le _, rfl, ⟨fun j hj => by omega⟩, by repeat (first | exact Drawn0.refl _ | apply Drawn0.step)⟩
    case round =>
      obtain ⟨k, hk, rfl, HJ, HD⟩ := hrel
      by_cases hlt : k < a0.size
      · have hb : (a0[k].toNat : Int) = ((a0.data.toList.getD k 0).toNat : Int) := tl_get a0 k hlt
        cases hd : wordB (a0[k].toNat : Int)
        · have H1 : ∀ W, Calls Tryz.prog 121 #[.int .u8 (a0[k].toNat : Int)] W fun e w' => e = .returned (.bool false) ∧ Drawn0 W w' := fun W => hd ▸ HX _ W
          have HE := Aside0.mk hd
          have HB := Aside0.mk hb
          clear hd hb HX
          go_wp2_with (first | (go_at_call 121; (with_reducible refine (H1 _).mono ?_); rintro e w' ⟨rfl, ⟨nd, rfl⟩⟩))
          go_ret
          refine ⟨?_, ?_⟩
          · rw [runN_stop wordB a0.data.toList k (by rw [tl_size]; exact hk) HJ.out (.inr (by rw [← HB.out]; exact HE.out))]
            rfl
          · repeat (first | exact HD | exact Drawn0.refl _ | apply Drawn0.step)
        · have H1 : ∀ W, Calls Tryz.prog 121 #[.int .u8 (a0[k].toNat : Int)] W fun e w' => e = .returned (.bool true) ∧ Drawn0 W w' := fun W => hd ▸ HX _ W
          have HE := Aside0.mk hd
          have HB := Aside0.mk hb
          clear hd hb HX
          go_wp2_with (first | (go_at_call 121; (with_reducible refine (H1 _).mono ?_); rintro e w' ⟨rfl, ⟨nd, rfl⟩⟩))
          go_roundw
          case rel => exact ⟨k + 1, by omega, by go_num, ⟨fun j hj => by
            rcases Nat.lt_or_ge j k with h1 | h1
            · exact HJ.out j h1
            · obtain rfl : j = k := by omega
              rw [← HB.out]; exact HE.out⟩, by repeat (first | exact HD | exact Drawn0.refl _ | apply Drawn0.step)⟩
          case measure => simp [intOf]; omega
      · clear HX
        go_wp2
        go_ret
        refine ⟨?_, ?_⟩
        · rw [runN_stop wordB a0.data.toList k (by rw [tl_size]; exact hk) HJ.out (.inl (by rw [tl_size]; omega))]
          rfl
        · repeat (first | exact HD | exact Drawn0.refl _ | apply Drawn0.step)
  · cases h
end Go.Proofs.YteokilkcchdeiaaGreatDoor.X
end
section
namespace Go.Proofs.YteokilkcchdeiaaGreatDoor.X
open Go.RowKit Go.Proofs.YteokilkcchdeiaaGreatDoor Go.Proofs.YteokilkcchdeiaaGreatDoorW.PrintWords Go.Proofs.YteokilkcchdeiaaGreatDoorW.PrintLast Go.Proofs.YteokilkcchdeiaaGreatDoorW.PrintMore Go.Proofs.YteokilkcchdeiaaGreatDoor.Q
set_option linter.unusedVariables false
def quo1 (c : UInt8) : List UInt8 := if c = 92 ∨ c = 34 then [92, c] else if c = 10 then [92, 110] else [c]
def quoL (l : List UInt8) : List UInt8 := l.flatMap quo1
theorem quoL_snoc (l : List UInt8) (c : UInt8) : quoL (l ++ [c]) = quoL l ++ quo1 c := by simp [quoL]
theorem quo1_len (c : UInt8) : (quo1 c).length ≤ 2 := by unfold quo1; split <;> (try split) <;> simp
theorem quoL_len (l : List UInt8) : (quoL l).length ≤ 2 * l.length := by
  induction l with
  | nil => simp [quoL]
  | cons c l ih => have h := quo1_len c; simp only [quoL, List.flatMap_cons, List.length_append, List.length_cons] at ih ⊢; omega
theorem take_snoc (s : ByteArray) (k : Nat) (h : k < s.size) : s.data.toList.take (k + 1) = s.data.toList.take k ++ [s[k]] := by
  rw [List.take_succ_eq_append_getElem (by rw [tl_size]; exact h)]; rfl
theorem quo_take (s : ByteArray) (k : Nat) (h : k < s.size) : quoL (s.data.toList.take (k + 1)) = quoL (s.data.toList.take k) ++ quo1 s[k] := by
  rw [take_snoc s k h, quoL_snoc]
theorem quo_take_len (s : ByteArray) (k : Nat) (hk : k ≤ s.size) : (quoL (s.data.toList.take k)).length ≤ 2 * k := by
  have h := quoL_len (s.data.toList.take k)
  rw [List.length_take, tl_size] at h
  omega
theorem u8_of {c : UInt8} {n : Nat} (h : c.toNat = n) (hn : n < 256) : c = UInt8.ofNat n := by
  rw [← h]; exact (UInt8.ofNat_toNat).symm
def lexer_Quote.f (s : ByteArray) : Option ByteArray := if s.size ≤ 60000000000000 then some ⟨(34 :: (quoL s.data.toList ++ [34])).toArray⟩ else none
abbrev Bu (B b : Nat) (l : List UInt8) (w : World) : Prop := Lib.IsBuilder 54 5 B b (Lib.byteCells l) w
theorem bu_at {B b : Nat} {p : Value} {bs : List Value} {w : World} {l : List UInt8} (h : Lib.BuilderAt 54 5 B b (.pointer (some ⟨b, 0, none⟩)) bs w) (e : bs = Lib.byteCells l) : Bu B b l w := by
  subst e; exact Or.inr h
theorem bc_len (l : List UInt8) : (Lib.byteCells l).length = l.length := Lib.byteCells_length l
theorem wbyte (B b : Nat) (l : List UInt8) (c : UInt8) (n : Int) (hn : (c.toNat : Int) = n) (w : World) (h : Bu B b l w) (hl : l.length + 1 ≤ 140737488355328) (hB : B ≤ w.heap.size) :
    Calls Tryz.prog 44 #[.pointer (some ⟨b, 0, none⟩), .int .u8 n] w fun e w' => e = .returned .nilIface ∧ Bu B b (l ++ [c]) w' ∧ Below B w w' := by
  subst hn
  refine (Tryz.Builder_WriteByte B b (Lib.byteCells l) (c.toNat : Int) w h (by rw [bc_len]; exact hl) hB).mono ?_
  rintro e w' ⟨rfl, h1, h2⟩
  exact ⟨rfl, bu_at (p := .nilIface) h1 (by rw [Lib.byteCells_append]; rfl), h2⟩
theorem wstr (B b : Nat) (l : List UInt8) (s : ByteArray) (w : World) (h : Bu B b l w) (hl : l.length + s.size ≤ 140737488355328) (hB : B ≤ w.heap.size) :
    Calls Tryz.prog 32 #[.pointer (some ⟨b, 0, none⟩), .string s] w fun e w' => e = .returned (.tuple #[.int .i64 s.size, .nilIface]) ∧ Bu B b (l ++ s.data.toList) w' ∧ Below B w w' := by
  refine (Tryz.Builder_WriteString B b (Lib.byteCells l) s w h (by rw [bc_len]; exact hl) hB).mono ?_
  rintro e w' ⟨rfl, h1, h2⟩
  exact ⟨rfl, bu_at (p := .nilIface) h1 (by rw [Lib.byteCells_append]; rfl), h2⟩
theorem bstr (B b : Nat) (l : List UInt8) (w : World) (h : Bu B b l w) (hB : B ≤ w.heap.size) :
    Calls Tryz.prog 34 #[.pointer (some ⟨b, 0, none⟩)] w fun e w' => e = .returned (.string ⟨l.toArray⟩) ∧ Below B w w' := Tryz.Builder_String_any B b l w h hB
set_option maxHeartbeats 1000000 in
set_option maxRecDepth 100000 in
theorem lexer_Quote.calls (a0 : ByteArray) (r : ByteArray) (w : World) (h : lexer_Quote.f a0 = some r) :
    Calls Tryz.prog 20 #[.string a0] w fun e w' => e = .returned (.string r) ∧ Below w.heap.size w w' := by
  unfold lexer_Quote.f at h
  split at h
  · rename_i hs
    obtain rfl := Option.some.inj h
    clear h
    have hfr := Lib.fresh_isBuilder 54 5 w
    have W1 := wbyte w.heap.size w.heap.size [] 34 34 rfl _ hfr (by simp) (by simp)
    have hb0 := (Below.refl w.heap.size w).alloc (Nat.le_refl _) (.cells #[.pointer none, .slice none 0 0] 54)
    go_enter Tryz.func20, Tryz.ntmps20
    go_wp2_with (first | (go_at_call 44; (with_reducible refine (W1).mono ?_); rintro e w1 ⟨rfl, hI1, hB1⟩))
    clear W1
    have HF := Aside0.mk hI1
    have HB := Aside0.mk (hb0.trans hB1)
    clear hI1 hB1 hfr hb0
    go_loopw [4] (fun i wr => ∃ k : Nat, k ≤ a0.size ∧ i = .int .i64 k ∧ Aside0 (Bu w.heap.size w.heap.size (34 :: quoL (a0.data.toList.take k)) wr) ∧ Aside0 (Below w.heap.size w wr)) (fun i _ => a0.size - (intOf i).toNat)
    case atStart => exact ⟨0, Nat.zero_le _, rfl, HF, HB⟩
    case round =>
      clear HF HB
      obtain ⟨k, hk, rfl, HF, HB⟩ := hrel
      by_cases hlt : k < a0.size
      · have hsz := HB.out.size
        have hql := quo_take_len a0 k hk
        have hqt := Aside0.mk (quo_take a0 k hlt)
        have WB := fun (c : UInt8) (n : Int) (hn : (c.toNat : Int) = n) (l : List UInt8) (hl : l.length ≤ 2 * k + 2) W (h : Bu w.heap.size w.heap.size l W) (hb : Below w.heap.size w W) => wbyte w.heap.size w.heap.size l c n hn W h (by omega) hb.size
        have WS := fun (l : List UInt8) (hl : l.length ≤ 2 * k + 2) W (h : Bu w.heap.size w.heap.size l W) (hb : Below w.heap.size w W) => wstr w.heap.size w.heap.size l ⟨#[92, 110]⟩ W h (by show _ + 2 ≤ _; omega) hb.size
        have hl0 : (34 :: quoL (a0.data.toList.take k)).length ≤ 2 * k + 2 := by simp; omega
        have hl1 : ((34 :: quoL (a0.data.toList.take k)) ++ [92]).length ≤ 2 * k + 2 := by simp; omega
        have W0 := Aside0.mk WB
        have W2 := Aside0.mk WS
        have HL0 := Aside0.mk hl0
        have HL1 := Aside0.mk hl1
        clear WB WS hl0 hl1 hql
        by_cases h92 : a0[k].toNat = 92
        · have ev := Aside0.mk (u8_of h92 (by decide))
          have b92 : ((a0[k].toNat : Int) == 92) = true := by rw [h92]; rfl
          have b34 : ((a0[k].toNat : Int) == 34) = false := by rw [h92]; rfl
          have b10 : ((a0[k].toNat : Int) == 10) = false := by rw [h92]; rfl
          have nv := Aside0.mk (show (a0[k].toNat : Int) = 92 by rw [h92]; rfl)
          clear h92
          go_wp2_with fail
          refine (W0.out 92 92 rfl _ HL0.out _ HF.out HB.out).mono ?_
          rintro e w2 ⟨rfl, hI, hB⟩
          have HI2 := Aside0.mk hI
          have HB2 := Aside0.mk (HB.out.trans hB)
          have hsz2 := HB2.out.size
          clear hI hB
          go_wp2_with fail
          refine (W0.out a0[k] _ rfl _ HL1.out _ HI2.out HB2.out).mono ?_
          rintro e w3 ⟨rfl, hI, hB⟩
          have HI3 := Aside0.mk hI
          have HB3 := Aside0.mk (HB2.out.trans hB)
          have hsz3 := HB3.out.size
          clear hI hB
          have HN : Aside0 (Bu w.heap.size w.heap.size (34 :: quoL (a0.data.toList.take (k + 1))) w3) := ⟨by rw [hqt.out, (show quo1 a0[k] = [92, a0[k]] by rw [ev.out]; rfl)]; simpa using HI3.out⟩
          go_wp2
          go_roundw
          case rel => exact ⟨k + 1, by omega, by go_num, HN, HB3⟩
          case measure => simp [intOf]; omega
        by_cases h34 : a0[k].toNat = 34
        · have ev := Aside0.mk (u8_of h34 (by decide))
          have b92 : ((a0[k].toNat : Int) == 92) = false := by rw [h34]; rfl
          have b34 : ((a0[k].toNat : Int) == 34) = true := by rw [h34]; rfl
          have b10 : ((a0[k].toNat : Int) == 10) = false := by rw [h34]; rfl
          have nv := Aside0.mk (show (a0[k].toNat : Int) = 34 by rw [h34]; rfl)
          clear h34
          go_wp2_with fail
          refine (W0.out 92 92 rfl _ HL0.out _ HF.out HB.out).mono ?_
          rintro e w2 ⟨rfl, hI, hB⟩
          have HI2 := Aside0.mk hI
          have HB2 := Aside0.mk (HB.out.trans hB)
          have hsz2 := HB2.out.size
          clear hI hB
          go_wp2_with fail
          refine (W0.out a0[k] _ rfl _ HL1.out _ HI2.out HB2.out).mono ?_
          rintro e w3 ⟨rfl, hI, hB⟩
          have HI3 := Aside0.mk hI
          have HB3 := Aside0.mk (HB2.out.trans hB)
          have hsz3 := HB3.out.size
          clear hI hB
          have HN : Aside0 (Bu w.heap.size w.heap.size (34 :: quoL (a0.data.toList.take (k + 1))) w3) := ⟨by rw [hqt.out, (show quo1 a0[k] = [92, a0[k]] by rw [ev.out]; rfl)]; simpa using HI3.out⟩
          go_wp2
          go_roundw
          case rel => exact ⟨k + 1, by omega, by go_num, HN, HB3⟩
          case measure => simp [intOf]; omega
        by_cases h10 : a0[k].toNat = 10
        · have ev := Aside0.mk (u8_of h10 (by decide))
          have b92 : ((a0[k].toNat : Int) == 92) = false := by rw [h10]; rfl
          have b34 : ((a0[k].toNat : Int) == 34) = false := by rw [h10]; rfl
          have b10 : ((a0[k].toNat : Int) == 10) = true := by rw [h10]; rfl
          have nv := Aside0.mk (show (a0[k].toNat : Int) = 10 by rw [h10]; rfl)
          clear h10
          go_wp2_with fail
          refine (W2.out _ HL0.out _ HF.out HB.out).mono ?_
          rintro e w2 ⟨rfl, hI, hB⟩
          have HI2 := Aside0.mk hI
          have HB2 := Aside0.mk (HB.out.trans hB)
          have hsz2 := HB2.out.size
          clear hI hB
          have HN : Aside0 (Bu w.heap.size w.heap.size (34 :: quoL (a0.data.toList.take (k + 1))) w2) := ⟨by rw [hqt.out, (show quo1 a0[k] = [92, 110] by rw [ev.out]; rfl)]; simpa using HI2.out⟩
          go_wp2
          go_roundw
          case rel => exact ⟨k + 1, by omega, by go_num, HN, HB2⟩
          case measure => simp [intOf]; omega
        have b92 : ((a0[k].toNat : Int) == 92) = false := beq_eq_false_iff_ne.2 (fun h => h92 (by omega))
        have b34 : ((a0[k].toNat : Int) == 34) = false := beq_eq_false_iff_ne.2 (fun h => h34 (by omega))
        have b10 : ((a0[k].toNat : Int) == 10) = false := beq_eq_false_iff_ne.2 (fun h => h10 (by omega))
        have ev : Aside0 (quo1 a0[k] = [a0[k]]) := ⟨by
          unfold quo1
          rw [if_neg, if_neg]
          · intro h; rw [h] at h10; exact h10 rfl
          · rintro (h | h)
            · rw [h] at h92; exact h92 rfl
            · rw [h] at h34; exact h34 rfl⟩
        clear h92 h34 h10
        go_wp2_with fail
        refine (W0.out a0[k] _ rfl _ HL0.out _ HF.out HB.out).mono ?_
        rintro e w2 ⟨rfl, hI, hB⟩
        have HI2 := Aside0.mk hI
        have HB2 := Aside0.mk (HB.out.trans hB)
        have hsz2 := HB2.out.size
        clear hI hB
        have HN : Aside0 (Bu w.heap.size w.heap.size (34 :: quoL (a0.data.toList.take (k + 1))) w2) := ⟨by rw [hqt.out, ev.out]; simpa using HI2.out⟩
        go_wp2
        go_roundw
        case rel => exact ⟨k + 1, by omega, by go_num, HN, HB2⟩
        case measure => simp [intOf]; omega
      · obtain rfl : k = a0.size := by omega
        have hk : a0.size ≤ a0.size := Nat.le_refl _
        have WE := fun W (h : Bu w.heap.size w.heap.size (34 :: quoL (a0.data.toList.take a0.size)) W) (hb : Below w.heap.size w W) => wbyte w.heap.size w.heap.size (34 :: quoL (a0.data.toList.take a0.size)) 34 34 rfl W h (by have := quo_take_len a0 a0.size hk; simp; omega) hb.size
        have hsz := HB.out.size
        go_wp2_with (first | (go_at_call 44; (refine (WE _ HF.out HB.out).mono ?_); rintro e w2 ⟨rfl, hI2, hB2⟩; have HI2 := Aside0.mk hI2; have HB2 := Aside0.mk (HB.out.trans hB2); clear hI2 hB2) | (go_at_call 34; (refine (bstr w.heap.size w.heap.size _ _ HI2.out HB2.out.size).mono ?_); rintro e w3 ⟨rfl, hB3⟩; have HB3 := Aside0.mk (HB2.out.trans hB3); clear hB3))
        go_ret
        refine ⟨?_, HB3.out⟩
        rw [show a0.data.toList.take a0.size = a0.data.toList from List.take_of_length_le (by rw [tl_size]; omega)]
        rfl
  · cases h
end Go.Proofs.YteokilkcchdeiaaGreatDoor.X
end
section
namespace Go.Proofs.YteokilkcchdeiaaGreatDoor.Q
open Go.RowKit Go.Proofs.YteokilkcchdeiaaGreatDoorW.PrintWords Go.Proofs.YteokilkcchdeiaaGreatDoorW.PrintLast Go.Proofs.YteokilkcchdeiaaGreatDoorW.PrintMore
attribute [local go_sem] max2_int min2_int max_two min_two max_three min_three max_four min_four   -- for this text's walks alone
set_option linter.unusedVariables false
set_option linter.unusedSimpArgs false
def lexer_length.f (a0 : ByteArray) : Option (Int) := if a0.toList = ([100] : List UInt8) then (some 86400000) else (if a0.toList = ([104] : List UInt8) then (some 3600000) else (if a0.toList = ([109] : List UInt8) then (some 60000) else (if a0.toList = ([115] : List UInt8) then (some 1000) else (some 1))))
set_option maxHeartbeats 8000000 in
set_option maxRecDepth 100000 in
theorem lexer_length.calls (a0 : ByteArray) (r : Int) (w : World) (h : lexer_length.f a0 = some r) :
    Calls Tryz.prog 31 #[.string a0] w fun e w' => e = .returned (.int .i64 r) ∧ Drawn0 w w' := by
  have H : (if a0.toList = ([100] : List UInt8) then (some 86400000) else (if a0.toList = ([104] : List UInt8) then (some 3600000) else (if a0.toList = ([109] : List UInt8) then (some 60000) else (if a0.toList = ([115] : List UInt8) then (some 1000) else (some 1))))) = some r := h
  clear h
  by_cases c2 : a0.toList = ([100] : List UInt8)
  · rw [if_pos c2] at H
    have c2b0 : (a0.toList == ([100] : List UInt8)) = true := beq_iff_eq.mpr c2
    have c2b1 : (a0.toList != ([100] : List UInt8)) = false := bne_eq_false_iff_eq.mpr c2
    clear c2
    obtain rfl := Option.some.inj H
    go_enter Tryz.func31, Tryz.ntmps31
    go_wp2
    go_ret
    exact ⟨by first | rfl | (simp; done) | (simp [*]; done), by repeat (first | exact Drawn0.refl _ | apply Drawn0.step)⟩
  · rw [if_neg c2] at H
    have c2b0 : (a0.toList == ([100] : List UInt8)) = false := beq_eq_false_iff_ne.mpr c2
    have c2b1 : (a0.toList != ([100] : List UInt8)) = true := bne_iff_ne.mpr c2
    by_cases c3 : a0.toList = ([104] : List UInt8)
    · rw [if_pos c3] at H
      have c3b0 : (a0.toList == ([104] : List UInt8)) = true := beq_iff_eq.mpr c3
      have c3b1 : (a0.toList != ([104] : List UInt8)) = false := bne_eq_false_iff_eq.mpr c3
      clear c3
      obtain rfl := Option.some.inj H
      go_enter Tryz.func31, Tryz.ntmps31
      go_wp2
      go_ret
      exact ⟨by first | rfl | (simp; done) | (simp [*]; done), by repeat (first | exact Drawn0.refl _ | apply Drawn0.step)⟩
    · rw [if_neg c3] at H
      have c3b0 : (a0.toList == ([104] : List UInt8)) = false := beq_eq_false_iff_ne.mpr c3
      have c3b1 : (a0.toList != ([104] : List UInt8)) = true := bne_iff_ne.mpr c3
      by_cases c4 : a0.toList = ([109] : List UInt8)
      · rw [if_pos c4] at H
        have c4b0 : (a0.toList == ([109] : List UInt8)) = true := beq_iff_eq.mpr c4
        have c4b1 : (a0.toList != ([109] : List UInt8)) = false := bne_eq_false_iff_eq.mpr c4
        clear c4
        obtain rfl := Option.some.inj H
        go_enter Tryz.func31, Tryz.ntmps31
        go_wp2
        go_ret
        exact ⟨by first | rfl | (simp; done) | (simp [*]; done), by repeat (first | exact Drawn0.refl _ | apply Drawn0.step)⟩
      · rw [if_neg c4] at H
        have c4b0 : (a0.toList == ([109] : List UInt8)) = false := beq_eq_false_iff_ne.mpr c4
        have c4b1 : (a0.toList != ([109] : List UInt8)) = true := bne_iff_ne.mpr c4
        by_cases c5 : a0.toList = ([115] : List UInt8)
        · rw [if_pos c5] at H
          have c5b0 : (a0.toList == ([115] : List UInt8)) = true := beq_iff_eq.mpr c5
          have c5b1 : (a0.toList != ([115] : List UInt8)) = false := bne_eq_false_iff_eq.mpr c5
          clear c5
          obtain rfl := Option.some.inj H
          go_enter Tryz.func31, Tryz.ntmps31
          go_wp2
          go_ret
          exact ⟨by first | rfl | (simp; done) | (simp [*]; done), by repeat (first | exact Drawn0.refl _ | apply Drawn0.step)⟩
        · rw [if_neg c5] at H
          have c5b0 : (a0.toList == ([115] : List UInt8)) = false := beq_eq_false_iff_ne.mpr c5
          have c5b1 : (a0.toList != ([115] : List UInt8)) = true := bne_iff_ne.mpr c5
          obtain rfl := Option.some.inj H
          go_enter Tryz.func31, Tryz.ntmps31
          go_wp2
          go_ret
          exact ⟨by first | rfl | (simp; done) | (simp [*]; done), by repeat (first | exact Drawn0.refl _ | apply Drawn0.step)⟩
end Go.Proofs.YteokilkcchdeiaaGreatDoor.Q
end
section
namespace Go.Proofs.YteokilkcchdeiaaGreatDoor.X
open Go.RowKit Go.Proofs.YteokilkcchdeiaaGreatDoor Go.Proofs.YteokilkcchdeiaaGreatDoorW.PrintWords Go.Proofs.YteokilkcchdeiaaGreatDoorW.PrintLast Go.Proofs.YteokilkcchdeiaaGreatDoorW.PrintMore Go.Proofs.YteokilkcchdeiaaGreatDoor.Q
set_option linter.unusedVariables false
def unitsL : List (List UInt8 × Int) := [([100], 86400000), ([104], 3600000), ([109], 60000), ([115], 1000), ([109, 115], 1)]
def durStep (p : List UInt8 × Int) (u : List UInt8 × Int) : List UInt8 × Int := if 0 < p.2 / u.2 then (p.1 ++ Lib.itoa (p.2 / u.2) ++ u.1, p.2 % u.2) else p
def durN (ms : Int) (j : Nat) : List UInt8 × Int := (unitsL.take j).foldl durStep ([], ms)
theorem durN_succ (ms : Int) (j : Nat) (h : j < 5) : durN ms (j + 1) = durStep (durN ms j) (unitsL.getD j ([], 0)) := by
  unfold durN
  rw [List.take_succ_eq_append_getElem (by simpa [unitsL] using h), List.foldl_append]
  simp [List.getD_eq_getElem?_getD, show j < unitsL.length by simpa [unitsL] using h]
def lexer_Duration.f (ms : Int) : Option (ByteArray × Int) :=
  if ms < 0 ∨ 1099511627776 < ms then some (⟨#[]⟩, 2) else if ms = 0 then some (⟨#[48, 115]⟩, 0) else some (⟨(durN ms 5).1.toArray⟩, 0)
theorem fields_units : Lib.fields [100, 32, 104, 32, 109, 32, 115, 32, 109, 115] = [[100], [104], [109], [115], [109, 115]] := by decide +kernel
theorem itoa_len (n : Int) (h0 : 0 ≤ n) (h1 : n ≤ 1099511627776) : (Lib.itoa n).length ≤ 21 := Lib.itoa_length_le n (by omega) (by omega)
abbrev BuF (B b : Nat) (l : List UInt8) (w : World) : Prop := Lib.IsBuilderF 54 5 B b (Lib.byteCells l) w
theorem rowF_below {w w1 : World} {base : Nat} {e : TypeId} {size : Nat} {v : Value} {n : Nat} {xs : List Value} (h : w.ownsRowF base e size v n xs) (hb : Below w.heap.size w w1) : w1.ownsRowF base e size v n xs := by
  obtain ⟨h1, h2⟩ := h
  refine ⟨h1, ?_⟩
  rcases h2 with h2 | ⟨g, cap, cur, fz, rfl, hg, hh, r⟩
  · exact .inl h2
  · exact .inr ⟨g, cap, cur, fz, rfl, hg, (hb.block g (Array.getElem?_eq_some_iff.1 hh).1).trans hh, r⟩
theorem bufAt_below {B b : Nat} {p : Value} {bs : List Value} {w w1 : World} (h : Lib.BuilderAtF 54 5 B b p bs w) (hb : Below w.heap.size w w1) : Lib.BuilderAtF 54 5 B b p bs w1 := by
  obtain ⟨h0, v, h1, h2, h3⟩ := h
  exact ⟨h0, v, (hb.block b (Array.getElem?_eq_some_iff.1 h1).1).trans h1, rowF_below h2 hb, h3⟩
theorem buf_below {B b : Nat} {l : List UInt8} {w w1 : World} (h : BuF B b l w) (hb : Below w.heap.size w w1) : BuF B b l w1 := h.imp (fun z => bufAt_below z hb) (fun z => bufAt_below z hb)
theorem wstrF (B b : Nat) (l : List UInt8) (s : ByteArray) (w : World) (h : BuF B b l w) (hl : l.length + s.size ≤ 140737488355328) (hB : B ≤ w.heap.size) :
    Calls Tryz.prog 32 #[.pointer (some ⟨b, 0, none⟩), .string s] w fun e w' => e = .returned (.tuple #[.int .i64 s.size, .nilIface]) ∧ BuF B b (l ++ s.data.toList) w' ∧ Below B w w' ∧ Lib.OthersKept 5 (some b) w w' := by
  refine (Tryz.Builder_WriteString_k B b (Lib.byteCells l) s w h (by rw [bc_len]; exact hl) hB).mono ?_
  rintro e w' ⟨rfl, h1, h2, h3⟩
  have h4 : Lib.BuilderAtF 54 5 B b (.pointer (some ⟨b, 0, none⟩)) (Lib.byteCells (l ++ s.data.toList)) w' := by rw [Lib.byteCells_append]; exact h1
  exact ⟨rfl, Or.inr h4, h2, h3⟩
theorem bstrF (B b : Nat) (l : List UInt8) (w : World) (h : BuF B b l w) (hB : B ≤ w.heap.size) :
    Calls Tryz.prog 34 #[.pointer (some ⟨b, 0, none⟩)] w fun e w' => e = .returned (.string ⟨l.toArray⟩) ∧ Below B w w' := by
  refine (Tryz.Builder_String_any_k B b l w h hB).mono ?_
  rintro e w' ⟨rfl, _, h2, _⟩
  exact ⟨rfl, h2⟩
def uRow : Obj := .cells #[.string ⟨#[100]⟩, .string ⟨#[104]⟩, .string ⟨#[109]⟩, .string ⟨#[115]⟩, .string ⟨#[109, 115]⟩] 9 (0, 0)
theorem uRow_cell {w : World} {k : Nat} (h : w.heap[k]? = some uRow) (j : Nat) (hj : j < 5) : w.cell? ⟨k, j, none⟩ = some (.string ⟨(unitsL.getD j ([], 0)).1.toArray⟩) := by
  match j, hj with
  | 0, _ => simp [World.cell?, h, uRow, unitsL]
  | 1, _ => simp [World.cell?, h, uRow, unitsL]
  | 2, _ => simp [World.cell?, h, uRow, unitsL]
  | 3, _ => simp [World.cell?, h, uRow, unitsL]
  | 4, _ => simp [World.cell?, h, uRow, unitsL]
theorem uRow_kept {w w1 : World} {k b : Nat} (h : w.heap[k]? = some uRow) (hk : Lib.OthersKept 5 (some b) w w1) (hb : k ≠ b) : w1.heap[k]? = some uRow := hk k _ h (by simpa using hb) (by intro c fz; simp [uRow])
theorem unit_len (u : ByteArray) (L : Int) (w : World) (h : lexer_length.f u = some L) : Calls Tryz.prog 31 #[.string u] w fun e w' => e = .returned (.int .i64 L) ∧ Drawn0 w w' := lexer_length.calls u L w h
theorem unit_at (j : Nat) (h : j < 5) : lexer_length.f ⟨(unitsL.getD j ([], 0)).1.toArray⟩ = some (unitsL.getD j ([], 0)).2 ∧ 1 ≤ (unitsL.getD j ([], 0)).2 ∧ (unitsL.getD j ([], 0)).2 ≤ 86400000 ∧ (unitsL.getD j ([], 0)).1.length ≤ 2 := by
  match j, h with
  | 0, _ => exact ⟨by decide +kernel, by decide, by decide, by decide⟩
  | 1, _ => exact ⟨by decide +kernel, by decide, by decide, by decide⟩
  | 2, _ => exact ⟨by decide +kernel, by decide, by decide, by decide⟩
  | 3, _ => exact ⟨by decide +kernel, by decide, by decide, by decide⟩
  | 4, _ => exact ⟨by decide +kernel, by decide, by decide, by decide⟩
theorem durN_bound (ms : Int) (h0 : 0 ≤ ms) (h1 : ms ≤ 1099511627776) (j : Nat) (hj : j ≤ 5) : 0 ≤ (durN ms j).2 ∧ (durN ms j).2 ≤ 1099511627776 ∧ (durN ms j).1.length ≤ 23 * j := by
  induction j with
  | zero => exact ⟨h0, h1, by simp [durN]⟩
  | succ j ih =>
    obtain ⟨i0, i1, i2⟩ := ih (by omega)
    obtain ⟨_, u1, u2, u3⟩ := unit_at j (by omega)
    rw [durN_succ ms j (by omega)]
    unfold durStep
    split
    · refine ⟨Int.emod_nonneg _ (by omega), ?_, ?_⟩
      · have := Int.emod_lt_of_pos (durN ms j).2 (show 0 < (unitsL.getD j ([], 0)).2 by omega)
        simp only
        omega
      · have hq0 : 0 ≤ (durN ms j).2 / (unitsL.getD j ([], 0)).2 := Int.ediv_nonneg i0 (by omega)
        have hq1 : (durN ms j).2 / (unitsL.getD j ([], 0)).2 ≤ 1099511627776 := by
          refine Int.le_trans (Int.ediv_le_self _ i0) i1
        have := itoa_len _ hq0 hq1
        simp only [List.length_append]
        omega
    · exact ⟨i0, i1, by omega⟩
set_option maxHeartbeats 1000000 in
set_option maxRecDepth 100000 in
theorem lexer_Duration.calls (a0 : Int) (r1 : ByteArray) (r2 : Int) (w : World) (hT : Tabs w) (h : lexer_Duration.f a0 = some (r1, r2)) :
    Calls Tryz.prog 10 #[.int .i64 a0] w fun e w' => e = .returned (.tuple #[.string r1, .int .i64 r2]) ∧ Below w.heap.size w w' := by
  unfold lexer_Duration.f at h
  by_cases hn : a0 < 0
  · rw [if_pos (.inl hn)] at h
    have h1 := Option.some.inj h
    simp only [Prod.mk.injEq] at h1
    obtain ⟨rfl, rfl⟩ := h1
    have hd : decide (a0 < 0) = true := by simpa using hn
    clear h
    go_enter Tryz.func10, Tryz.ntmps10
    go_wp2
    go_ret2
    exact ⟨rfl, by repeat (first | exact Below.refl _ _ | apply below_drew1 | apply pw_below_drewN)⟩
  have hd : decide (a0 < 0) = false := by simpa using hn
  by_cases hg : 1099511627776 < a0
  · rw [if_pos (.inr hg)] at h
    have h1 := Option.some.inj h
    simp only [Prod.mk.injEq] at h1
    obtain ⟨rfl, rfl⟩ := h1
    clear h
    go_enter Tryz.func10, Tryz.ntmps10
    go_wp2
    go_ret2
    exact ⟨rfl, by repeat (first | exact Below.refl _ _ | apply below_drew1 | apply pw_below_drewN)⟩
  have hd2 : decide (1099511627776 < a0) = false := by simpa using hg
  rw [if_neg (by omega)] at h
  by_cases hz : a0 = 0
  · rw [if_pos hz] at h
    subst hz
    have h1 := Option.some.inj h
    simp only [Prod.mk.injEq] at h1
    obtain ⟨rfl, rfl⟩ := h1
    clear h hd hd2 hn hg
    go_enter Tryz.func10, Tryz.ntmps10
    go_wp2
    go_ret2
    exact ⟨rfl, by repeat (first | exact Below.refl _ _ | apply below_drew1 | apply pw_below_drewN)⟩
  rw [if_neg hz] at h
  have h1 := Option.some.inj h
  simp only [Prod.mk.injEq] at h1
  obtain ⟨rfl, rfl⟩ := h1
  clear h
  have h0 : (a0 == 0) = false := beq_eq_false_iff_ne.2 hz
  have hlo : 0 ≤ a0 := by omega
  have hhi : a0 ≤ 1099511627776 := by omega
  clear hn hg hz
  have HT := Aside0.mk hT
  have hfr := Lib.fresh_isBuilder 54 5 w
  have hb0 := (Below.refl w.heap.size w).alloc (Nat.le_refl _) (.cells #[.pointer none, .slice none 0 0] 54)
  have HFi := Tryz.strings_Fields_laid ⟨#[100, 32, 104, 32, 109, 32, 115, 32, 109, 115]⟩ (w.alloc (.cells #[.pointer none, .slice none 0 0] 54)) (by decide) (fun j b hb => of_decide_eq_true (List.all_eq_true.1 (show List.all [100, 32, 104, 32, 109, 32, 115, 32, 109, 115] (fun b : UInt8 => decide (b.toNat < 128)) = true by decide) b (List.mem_of_getElem? hb))) (hT.below hb0).1
  rw [show (⟨#[100, 32, 104, 32, 109, 32, 115, 32, 109, 115]⟩ : ByteArray).data.toList = [100, 32, 104, 32, 109, 32, 115, 32, 109, 115] from rfl, fields_units] at HFi
  clear hT
  have HF0 := Aside0.mk (show BuF w.heap.size w.heap.size [] ((w.alloc (.cells #[.pointer none, .slice none 0 0] 54)).alloc uRow) from (Lib.IsBuilderF.of hfr).alloc uRow)
  have HB0 := Aside0.mk (hb0.alloc (by simp) uRow)
  have HU0 := Aside0.mk (show ((w.alloc (.cells #[.pointer none, .slice none 0 0] 54)).alloc uRow).heap[w.heap.size + 1]? = some uRow from by
    have h_ := heap_alloc_new (w.alloc (.cells #[.pointer none, .slice none 0 0] 54)) uRow
    rw [World.size_alloc] at h_
    exact h_)
  clear hfr hb0
  go_enter Tryz.func10, Tryz.ntmps10
  go_wp2_with fail
  refine HFi.mono ?_
  rintro e w1 ⟨rfl, hw1⟩
  have hw2 : w1 = (w.alloc (.cells #[.pointer none, .slice none 0 0] 54)).alloc uRow := hw1
  rw [← hw2] at HF0 HB0 HU0
  clear HFi hw1 hw2
  go_wp2
  go_loopw [0, 18] (fun m i wr => ∃ j : Nat, j ≤ 5 ∧ i = .int .i64 j ∧ m = .int .i64 (durN a0 j).2 ∧ Aside0 (BuF w.heap.size w.heap.size (durN a0 j).1 wr) ∧ Aside0 (Below w.heap.size w wr) ∧ Aside0 (wr.heap[w.heap.size + 1]? = some uRow)) (fun _ i _ => 5 - (intOf i).toNat)
  case atStart => exact ⟨0, by omega, rfl, rfl, HF0, HB0, HU0⟩
  case round =>
    clear HF0 HB0 HU0
    obtain ⟨j, hj, rfl, rfl, HF, HB, HU⟩ := hrel
    have hsz := HB.out.size
    have hbd := durN_bound a0 hlo hhi j hj
    by_cases hlt : j < 5
    · obtain ⟨hL, hL1, hL2, hL3⟩ := unit_at j hlt
      have hcell := uRow_cell HU.out j hlt
      have HS := Aside0.mk (durN_succ a0 j hlt)
      generalize hu : (⟨(unitsL.getD j ([], 0)).1.toArray⟩ : ByteArray) = u at hL hcell
      generalize hv : (unitsL.getD j ([], 0)).2 = L at hL hL1 hL2
      generalize hm : (durN a0 j).2 = m at hbd
      have HSt : Aside0 (durStep (durN a0 j) (unitsL.getD j ([], 0)) = if 0 < m / L then ((durN a0 j).1 ++ Lib.itoa (m / L) ++ u.data.toList, m % L) else durN a0 j) := ⟨by unfold durStep; rw [hm, hv, ← hu]⟩
      have HM := Aside0.mk hm
      have husz : u.size ≤ 2 := by rw [← hu]; exact hL3
      clear hu hv hm hL3
      obtain ⟨hb1, hb2, hb3⟩ := hbd
      have HLen := fun W => unit_len u L W hL
      have HLen' := Aside0.mk HLen
      clear hL HLen
      by_cases hq : 0 < m / L
      · have HI := Aside0.mk (fun W hT => strconv_Itoa.calls (m / L) ⟨(Lib.itoa (m / L)).toArray⟩ W hT (by unfold strconv_Itoa.f; rw [if_pos ⟨by omega, Int.le_trans (Int.ediv_le_self _ hb1) (by omega)⟩]))
        have hil := itoa_len (m / L) (by omega) (Int.le_trans (Int.ediv_le_self _ hb1) hb2)
        have HQ : Aside0 (durN a0 (j + 1) = ((durN a0 j).1 ++ Lib.itoa (m / L) ++ u.data.toList, m % L)) := ⟨by rw [HS.out, HSt.out, if_pos hq]⟩
        go_wp2_with (first | (go_at_call 31; (with_reducible refine (HLen'.out _).mono ?_); rintro e w2 ⟨rfl, ⟨nd, rfl⟩⟩))
        refine (HI.out _ (HT.out.below (pw_below_drewN HB.out _))).mono ?_
        rintro e w2 ⟨rfl, hB2⟩
        have HB2 := Aside0.mk ((pw_below_drewN HB.out nd).trans (hB2.mono (show w.heap.size ≤ (wr.drewN nd).heap.size from (pw_below_drewN HB.out nd).size)))
        have HF2 := Aside0.mk (buf_below (buf_below HF.out (pw_below_drewN (Below.refl _ _) nd)) hB2)
        have HU2 : Aside0 (w2.heap[w.heap.size + 1]? = some uRow) := ⟨(hB2.block _ (Array.getElem?_eq_some_iff.1 HU.out).1).trans HU.out⟩
        have hsz2 := HB2.out.size
        clear hB2 hcell
        go_wp2_with fail
        refine (wstrF w.heap.size w.heap.size _ ⟨(Lib.itoa (m / L)).toArray⟩ _ HF2.out (by show _ + (Lib.itoa (m / L)).length ≤ _; omega) HB2.out.size).mono ?_
        rintro e w3 ⟨rfl, hF3, hB3, hK3⟩
        have HF3 := Aside0.mk hF3
        have HB3 := Aside0.mk (HB2.out.trans hB3)
        have HU3 := Aside0.mk (uRow_kept HU2.out hK3 (by omega))
        have hsz3 := HB3.out.size
        clear hF3 hB3 hK3
        go_wp2_with fail
        refine (wstrF w.heap.size w.heap.size _ u _ HF3.out (by rw [List.length_append]; show _ + (Lib.itoa (m / L)).length + _ ≤ _; omega) HB3.out.size).mono ?_
        rintro e w4 ⟨rfl, hF4, hB4, hK4⟩
        have HF4 := Aside0.mk hF4
        have HB4 := Aside0.mk (HB3.out.trans hB4)
        have HU4 := Aside0.mk (uRow_kept HU3.out hK4 (by omega))
        have hsz4 := HB4.out.size
        clear hF4 hB4 hK4
        go_wp2_with (first | (go_at_call 31; (with_reducible refine (HLen'.out _).mono ?_); rintro e w2 ⟨rfl, ⟨nd2, rfl⟩⟩))
        go_roundw
        case rel => exact ⟨j + 1, by omega, by go_num, by rw [HQ.out], ⟨by rw [HQ.out]; exact buf_below HF4.out (pw_below_drewN (Below.refl _ _) _)⟩, ⟨pw_below_drewN HB4.out _⟩, HU4⟩
        case measure => simp [intOf]; omega
      · have HQ : Aside0 (durN a0 (j + 1) = durN a0 j) := ⟨by rw [HS.out, HSt.out, if_neg hq]⟩
        go_wp2_with (first | (go_at_call 31; (with_reducible refine (HLen'.out _).mono ?_); rintro e w2 ⟨rfl, ⟨nd, rfl⟩⟩))
        go_roundw
        case rel => exact ⟨j + 1, by omega, by go_num, by rw [HQ.out, HM.out], ⟨by rw [HQ.out]; exact buf_below HF.out (pw_below_drewN (Below.refl _ _) _)⟩, ⟨pw_below_drewN HB.out _⟩, HU⟩
        case measure => simp [intOf]; omega
    · obtain rfl : j = 5 := by omega
      have HR := fun W (h : BuF w.heap.size w.heap.size (durN a0 5).1 W) hb => bstrF w.heap.size w.heap.size (durN a0 5).1 W h hb
      go_wp2_with (first | (go_at_call 34; (refine (HR _ HF.out HB.out.size).mono ?_); rintro e w3 ⟨rfl, hB3⟩; have HB3 := Aside0.mk (HB.out.trans hB3); clear hB3))
      go_ret2
      exact ⟨rfl, HB3.out⟩
end Go.Proofs.YteokilkcchdeiaaGreatDoor.X
end
section
namespace Go.Proofs.YteokilkcchdeiaaGreatDoor.Q
open Go.RowKit Go.Proofs.YteokilkcchdeiaaGreatDoorW.PrintWords Go.Proofs.YteokilkcchdeiaaGreatDoorW.PrintLast Go.Proofs.YteokilkcchdeiaaGreatDoorW.PrintMore
attribute [local go_sem] max2_int min2_int max_two min_two max_three min_three max_four min_four   -- for this text's walks alone
set_option linter.unusedVariables false
set_option linter.unusedSimpArgs false
def lexer_continues.f (a0 : ByteArray) : Option (Bool) := if a0.toList = ([] : List UInt8) then (some false) else (if 0 < (a0.size : Int) then ((lexer_isLetter.f (bt a0 0)).bind fun t351 => (if t351 = true then (some true) else ((lexer_isDigit.f (bt a0 0)).bind fun t352 => (some t352)))) else (none))
set_option maxHeartbeats 8000000 in
set_option maxRecDepth 100000 in
theorem lexer_continues.calls (a0 : ByteArray) (r : Bool) (w : World) (h : lexer_continues.f a0 = some r) :
    Calls Tryz.prog 101 #[.string a0] w fun e w' => e = .returned (.bool r) ∧ Drawn0 w w' := by
  have H : (if a0.toList = ([] : List UInt8) then (some false) else (if 0 < (a0.size : Int) then ((lexer_isLetter.f (bt a0 0)).bind fun t351 => (if t351 = true then (some true) else ((lexer_isDigit.f (bt a0 0)).bind fun t352 => (some t352)))) else (none))) = some r := h
  clear h
  by_cases c2 : a0.toList = ([] : List UInt8)
  · rw [if_pos c2] at H
    have c2b0 : (a0.toList == ([] : List UInt8)) = true := beq_iff_eq.mpr c2
    have c2b1 : (a0.toList != ([] : List UInt8)) = false := bne_eq_false_iff_eq.mpr c2
    clear c2
    obtain rfl := Option.some.inj H
    go_enter Tryz.func101, Tryz.ntmps101
    go_wp2
    go_ret
    exact ⟨by first | rfl | (simp; done) | (simp [*]; done), by repeat (first | exact Drawn0.refl _ | apply Drawn0.step)⟩
  · rw [if_neg c2] at H
    have c2b0 : (a0.toList == ([] : List UInt8)) = false := beq_eq_false_iff_ne.mpr c2
    have c2b1 : (a0.toList != ([] : List UInt8)) = true := bne_iff_ne.mpr c2
    by_cases c3 : 0 < (a0.size : Int)
    · rw [if_pos c3] at H
      have c3b0 : decide (0 < (a0.size : Int)) = true := decide_eq_true c3
      have c3b1 : decide (0 < a0.size) = true := decide_eq_true (by omega)
      clear c3
      replace H := Option.bind_eq_some_iff.mp H
      obtain ⟨t351, A50, H⟩ := H
      replace H : (if t351 = true then (some true) else ((lexer_isDigit.f (bt a0 0)).bind fun t352 => (some t352))) = some r := H
      have A5 := Aside0.mk A50
      clear A50
      by_cases c6 : t351 = true
      · subst c6
        have H1 : (some true) = some r := by rw [if_pos rfl] at H; exact H
        clear H
        have H := H1
        clear H1
        obtain rfl := Option.some.inj H
        have p4 : 0 ≤ (0 : Int) := (by omega)
        have q4 : 0 < a0.size := (by have : (0 : Int) < (a0.size : Int) := of_decide_eq_true (by first | (with_reducible assumption) | assumption); omega)
        have hx4 : ∀ h : 0 < a0.size, ((a0[0]'h).toNat : Int) = bt a0 0 := bt_at a0 0
        clear p4
        have qi4 : (0 < (a0.size : Int)) = True := eq_true (of_decide_eq_true (by first | (with_reducible assumption) | assumption))
        replace q4 := eq_true q4
        go_enter Tryz.func101, Tryz.ntmps101
        go_wp2_with (first | (go_at_call 120; (with_reducible refine (lexer_isLetter.calls (bt a0 0) true _ A5.out).mono ?_); rintro e w' ⟨rfl, ⟨nd, rfl⟩⟩))
        go_ret
        exact ⟨by first | rfl | (simp; done) | (simp [*]; done), by repeat (first | exact Drawn0.refl _ | apply Drawn0.step)⟩
      · replace c6 := Bool.eq_false_iff.mpr c6
        subst c6
        have H1 : ((lexer_isDigit.f (bt a0 0)).bind fun t352 => (some t352)) = some r := by rw [if_neg (show ¬ (false = true) by decide)] at H; exact H
        clear H
        have H := H1
        clear H1
        replace H := Option.bind_eq_some_iff.mp H
        obtain ⟨t352, A80, H⟩ := H
        replace H : (some t352) = some r := H
        have A8 := Aside0.mk A80
        clear A80
        obtain rfl := Option.some.inj H
        have p4 : 0 ≤ (0 : Int) := (by omega)
        have q4 : 0 < a0.size := (by have : (0 : Int) < (a0.size : Int) := of_decide_eq_true (by first | (with_reducible assumption) | assumption); omega)
        have hx4 : ∀ h : 0 < a0.size, ((a0[0]'h).toNat : Int) = bt a0 0 := bt_at a0 0
        clear p4
        have qi4 : (0 < (a0.size : Int)) = True := eq_true (of_decide_eq_true (by first | (with_reducible assumption) | assumption))
        replace q4 := eq_true q4
        go_enter Tryz.func101, Tryz.ntmps101
        go_wp2_with (first | (go_at_call 120; (with_reducible refine (lexer_isLetter.calls (bt a0 0) false _ A5.out).mono ?_); rintro e w' ⟨rfl, ⟨nd, rfl⟩⟩; have p7 : 0 ≤ (0 : Int) := (by omega); have q7 : 0 < a0.size := (by have : (0 : Int) < (a0.size : Int) := of_decide_eq_true (by first | (with_reducible assumption) | assumption); omega); have hx7 : ∀ h : 0 < a0.size, ((a0[0]'h).toNat : Int) = bt a0 0 := bt_at a0 0; clear p7; have qi7 : (0 < (a0.size : Int)) = True := eq_true (of_decide_eq_true (by first | (with_reducible assumption) | assumption)); replace q7 := eq_true q7) | (go_at_call 98; (with_reducible refine (lexer_isDigit.calls (bt a0 0) t352 _ A8.out).mono ?_); rintro e w' ⟨rfl, ⟨nd, rfl⟩⟩))
        go_ret
        exact ⟨by first | rfl | (simp; done) | (simp [*]; done), by repeat (first | exact Drawn0.refl _ | apply Drawn0.step)⟩
    · rw [if_neg c3] at H
      exact absurd H (by simp)
end Go.Proofs.YteokilkcchdeiaaGreatDoor.Q
end
section
namespace Go.Proofs.YteokilkcchdeiaaGreatDoor.Q
open Go.RowKit Go.Proofs.YteokilkcchdeiaaGreatDoorW.PrintWords Go.Proofs.YteokilkcchdeiaaGreatDoorW.PrintLast Go.Proofs.YteokilkcchdeiaaGreatDoorW.PrintMore
attribute [local go_sem] max2_int min2_int max_two min_two max_three min_three max_four min_four   -- for this text's walks alone
set_option linter.unusedVariables false
set_option linter.unusedSimpArgs false
def stringslite_HasPrefix.f (a0 : ByteArray) (a1 : ByteArray) : Option (Bool) := if (a0.size : Int) ≥ (a1.size : Int) then (if 0 ≤ (a1.size : Int) then (if (a1.size : Int) ≤ (a0.size : Int) then (some ((a0.extract 0 ((a1.size : Int) : Int).toNat).toList == a1.toList)) else (none)) else (none)) else (some false)
set_option maxHeartbeats 8000000 in
set_option maxRecDepth 100000 in
theorem stringslite_HasPrefix.calls (a0 : ByteArray) (a1 : ByteArray) (r : Bool) (w : World) (h : stringslite_HasPrefix.f a0 a1 = some r) :
    Calls Tryz.prog 52 #[.string a0, .string a1] w fun e w' => e = .returned (.bool r) ∧ Drawn0 w w' := by
  have H : (if (a0.size : Int) ≥ (a1.size : Int) then (if 0 ≤ (a1.size : Int) then (if (a1.size : Int) ≤ (a0.size : Int) then (some ((a0.extract 0 ((a1.size : Int) : Int).toNat).toList == a1.toList)) else (none)) else (none)) else (some false)) = some r := h
  clear h
  by_cases c3 : (a0.size : Int) ≥ (a1.size : Int)
  · rw [if_pos c3] at H
    have c3b0 : decide ((a1.size : Int) ≤ (a0.size : Int)) = true := decide_eq_true c3
    have c3b1 : decide (a1.size ≤ a0.size) = true := decide_eq_true (Int.ofNat_le.mp c3)
    clear c3
    by_cases c4 : 0 ≤ (a1.size : Int)
    · rw [if_pos c4] at H
      have c4b0 := eq_true c4
      have c4b1 : decide (0 ≤ (a1.size : Int)) = true := decide_eq_true c4
      clear c4
      by_cases c5 : (a1.size : Int) ≤ (a0.size : Int)
      · rw [if_pos c5] at H
        have c5b0 := eq_true c5
        have c5b1 : decide ((a1.size : Int) ≤ (a0.size : Int)) = true := decide_eq_true c5
        clear c5
        obtain rfl := Option.some.inj H
        go_enter Tryz.func52, Tryz.ntmps52
        go_wp2
        go_ret
        exact ⟨by first | rfl | (simp; done) | (simp [*]; done), by repeat (first | exact Drawn0.refl _ | apply Drawn0.step)⟩
      · rw [if_neg c5] at H
        exact absurd H (by simp)
    · rw [if_neg c4] at H
      exact absurd H (by simp)
  · rw [if_neg c3] at H
    have c3b0 : decide ((a1.size : Int) ≤ (a0.size : Int)) = false := decide_eq_false c3
    have c3b1 : decide (a1.size ≤ a0.size) = false := decide_eq_false (fun h => c3 (Int.ofNat_le.mpr h))
    clear c3
    obtain rfl := Option.some.inj H
    go_enter Tryz.func52, Tryz.ntmps52
    go_wp2
    go_ret
    exact ⟨by first | rfl | (simp; done) | (simp [*]; done), by repeat (first | exact Drawn0.refl _ | apply Drawn0.step)⟩
end Go.Proofs.YteokilkcchdeiaaGreatDoor.Q
end
section
namespace Go.Proofs.YteokilkcchdeiaaGreatDoor.Q
open Go.RowKit Go.Proofs.YteokilkcchdeiaaGreatDoorW.PrintWords Go.Proofs.YteokilkcchdeiaaGreatDoorW.PrintLast Go.Proofs.YteokilkcchdeiaaGreatDoorW.PrintMore
attribute [local go_sem] max2_int min2_int max_two min_two max_three min_three max_four min_four   -- for this text's walks alone
set_option linter.unusedVariables false
set_option linter.unusedSimpArgs false
def strings_HasPrefix.f (a0 : ByteArray) (a1 : ByteArray) : Option (Bool) := (stringslite_HasPrefix.f a0 a1).bind fun t318 => (some t318)
set_option maxHeartbeats 8000000 in
set_option maxRecDepth 100000 in
theorem strings_HasPrefix.calls (a0 : ByteArray) (a1 : ByteArray) (r : Bool) (w : World) (h : strings_HasPrefix.f a0 a1 = some r) :
    Calls Tryz.prog 28 #[.string a0, .string a1] w fun e w' => e = .returned (.bool r) ∧ Drawn0 w w' := by
  have H : ((stringslite_HasPrefix.f a0 a1).bind fun t318 => (some t318)) = some r := h
  clear h
  replace H := Option.bind_eq_some_iff.mp H
  obtain ⟨t318, A30, H⟩ := H
  replace H : (some t318) = some r := H
  have A3 := Aside0.mk A30
  clear A30
  obtain rfl := Option.some.inj H
  go_enter Tryz.func28, Tryz.ntmps28
  go_wp2_with (first | ((with_reducible refine gate_callee (f := 52) rfl ?_); refine goesL_ (some 7) rfl rfl Tryz.func52 (by kernel_rfl) rfl #[.string a0, .string a1] rfl (by (try simp only [List.map_toArray, List.map_cons, List.map_nil]); first | done | rfl | (simp only [List.length_drop, List.length_take]; rfl)) ?_; (with_reducible refine (stringslite_HasPrefix.calls a0 a1 t318 _ A3.out).mono ?_); rintro e w' ⟨rfl, ⟨nd, rfl⟩⟩; refine ⟨_, rfl, ?_⟩))
  go_ret
  exact ⟨by first | rfl | (simp; done) | (simp [*]; done), by repeat (first | exact Drawn0.refl _ | apply Drawn0.step)⟩
end Go.Proofs.YteokilkcchdeiaaGreatDoor.Q
end
section
namespace Go.Proofs.YteokilkcchdeiaaGreatDoor.Q
open Go.Proofs.YteokilkcchdeiaaGreatDoor
open Go.Proofs.YteokilkcchdeiaaGreatDoor.X
open Go.RowKit Go.Proofs.YteokilkcchdeiaaGreatDoorW.PrintWords Go.Proofs.YteokilkcchdeiaaGreatDoorW.PrintLast Go.Proofs.YteokilkcchdeiaaGreatDoorW.PrintMore
attribute [local go_sem] max2_int min2_int max_two min_two max_three min_three max_four min_four   -- for this text's walks alone
set_option linter.unusedVariables false
set_option linter.unusedSimpArgs false
def lexer_unit.l0 : Nat → ByteArray → List ByteArray → Int → Int → Option (ByteArray × Int)
  | 0, _, _, _, _ => none
  | k + 1, x0, x6, x7, x8 => if x8 < x7 then (if 0 ≤ x8 then (if x8 < (x6.length : Int) then ((strings_HasPrefix.f x0 (rdOf ByteArray.empty x6 x8)).bind fun t349 => (if t349 = true then ((strings_Index.f (⟨#[100, 32, 104, 32, 109, 32, 115, 32, 109, 115]⟩ : ByteArray) (rdOf ByteArray.empty x6 x8)).bind fun t350 => (some (rdOf ByteArray.empty x6 x8, t350))) else (lexer_unit.l0 k x0 x6 x7 (wrap64 (x8 + 1))))) else (none)) else (none)) else (some ((⟨#[]⟩ : ByteArray), (-1)))
def lexer_unit.f (k : Nat) (a0 : ByteArray) : Option (ByteArray × Int) := (some (([(⟨#[109, 115]⟩ : ByteArray), (⟨#[100]⟩ : ByteArray), (⟨#[104]⟩ : ByteArray), (⟨#[109]⟩ : ByteArray), (⟨#[115]⟩ : ByteArray)] : List ByteArray) : List ByteArray)).bind fun y345 => (lexer_unit.l0 k a0 y345 (y345.length : Int) 0)
set_option maxHeartbeats 8000000 in
set_option maxRecDepth 100000 in
theorem lexer_unit.calls (k : Nat) (a0 : ByteArray) (r1 : ByteArray) (r2 : Int) (w : World) (hT : Tabs w) (h : lexer_unit.f k a0 = some (r1, r2)) :
    Calls Tryz.prog 99 #[.string a0] w fun e w' => e = .returned (.tuple #[.string r1, .int .i64 r2]) ∧ Below w.heap.size w w' := by
  have HT := Aside0.mk hT
  clear hT
  have HB := Aside0.mk (Below.refl w.heap.size w)
  have H : ((some (([(⟨#[109, 115]⟩ : ByteArray), (⟨#[100]⟩ : ByteArray), (⟨#[104]⟩ : ByteArray), (⟨#[109]⟩ : ByteArray), (⟨#[115]⟩ : ByteArray)] : List ByteArray) : List ByteArray)).bind fun y345 => (lexer_unit.l0 k a0 y345 (y345.length : Int) 0)) = some (r1, r2) := h
  clear h
  obtain ⟨y345, hy345⟩ : ∃ y_ : List ByteArray, y_ = (([(⟨#[109, 115]⟩ : ByteArray), (⟨#[100]⟩ : ByteArray), (⟨#[104]⟩ : ByteArray), (⟨#[109]⟩ : ByteArray), (⟨#[115]⟩ : ByteArray)] : List ByteArray)) := ⟨_, rfl⟩
  replace H : (lexer_unit.l0 k a0 y345 (y345.length : Int) 0) = some (r1, r2) := by first | (rw [hy345]; with_reducible exact H) | (have H2_ := (Option.bind_some _ _).symm.trans H; rw [hy345]; with_reducible exact H2_) | (have H2_ := (Option.bind_some _ _).symm.trans H; with_reducible exact H2_) | with_reducible exact H | (rw [hy345]; exact H) | exact H
  have Ny345 := Aside0.mk hy345
  clear hy345
  have H' := Aside0.mk H
  clear H
  go_enter Tryz.func99, Tryz.ntmps99
  go_wp2_with (first | ((with_reducible refine gate_dst (N := 6) rfl ?_); refine Kd.R_lit Kd.string _ 9 ?hg (N := 6) ?hd (xs := ([(⟨#[109, 115]⟩ : ByteArray), (⟨#[100]⟩ : ByteArray), (⟨#[104]⟩ : ByteArray), (⟨#[109]⟩ : ByteArray), (⟨#[115]⟩ : ByteArray)] : List ByteArray)) (inner := [.string (⟨#[109, 115]⟩ : ByteArray), .string (⟨#[100]⟩ : ByteArray), .string (⟨#[104]⟩ : ByteArray), .string (⟨#[109]⟩ : ByteArray), .string (⟨#[115]⟩ : ByteArray)]) (ok := fun _ => True) (okp := fun _ => True) ?hr ?hp (fun _ hk => hk) trivial (Below.refl _ _) (Nat.le_refl _) (by simp) ?_; (case hd => rfl); (case hg => rfl); (case hr => first | (go_simp; done) | (go_simp; rfl)); (case hp => exact (Reps.one (show Kd.M Kd.string _ _ _ (⟨#[109, 115]⟩ : ByteArray) [.string (⟨#[109, 115]⟩ : ByteArray)] from rfl) (Reps.one (show Kd.M Kd.string _ _ _ (⟨#[100]⟩ : ByteArray) [.string (⟨#[100]⟩ : ByteArray)] from rfl) (Reps.one (show Kd.M Kd.string _ _ _ (⟨#[104]⟩ : ByteArray) [.string (⟨#[104]⟩ : ByteArray)] from rfl) (Reps.one (show Kd.M Kd.string _ _ _ (⟨#[109]⟩ : ByteArray) [.string (⟨#[109]⟩ : ByteArray)] from rfl) (Reps.one (show Kd.M Kd.string _ _ _ (⟨#[115]⟩ : ByteArray) [.string (⟨#[115]⟩ : ByteArray)] from rfl) (Reps.none _ _))))))); intro v346 w2 ho3 hb hg_ hnew_; clear hg_ hnew_; (first | rw [← Ny345.out] at ho3 | (simp only [Int.reduceToNat] at ho3; rw [← Ny345.out] at ho3)); have n0_ := Aside0.mk (Kd.R_lower ho3 (below_size (by repeat (first | (with_reducible first | exact HB.out | apply below_alloc | apply pw_below_drewN | apply below_drew1) | exact HB.out)))); have n1_ := Aside0.mk (below_step (by repeat (first | (with_reducible first | exact HB.out | apply below_alloc | apply pw_below_drewN | apply below_drew1) | exact HB.out)) hb); clear HB; have HO347 := n0_; have HB := n1_; clear n0_ n1_; clear hb ho3; obtain ⟨Ao4, co4, eo4⟩ := Kd.R_slice HO347.out; subst eo4))
  go_loopg [8] k (fun kq v8 w' => ∃ (x8_1 : Int), v8 = .int .i64 x8_1 ∧ Aside0 (lexer_unit.l0 kq a0 y345 (y345.length : Int) x8_1 = some (r1, r2)) ∧ Aside0 (kq ≤ k) ∧ Aside0 (Kd.R Kd.string 9 w' w.heap.size (fun _ => True) (.slice Ao4 y345.length co4) y345) ∧ Aside0 (Below w.heap.size w w'))
  case atStart => exact ⟨(0), (by first | rfl | (simp; done) | (simp [*]; done)), H', ⟨Nat.le_refl _⟩, ⟨by (with_reducible repeat (first | apply Kd.R_alloc | apply Kd.R_drewN | apply Kd.R_drew)); exact HO347.out⟩, ⟨by repeat (first | (with_reducible first | exact HB.out | apply below_alloc | apply pw_below_drewN | apply below_drew1) | exact HB.out)⟩⟩
  case round =>
    clear H'
    try clear p2
    obtain ⟨x8_1, rfl, HA, HK1, HO_6, HB⟩ := hrel
    cases gk with
    | zero => exact absurd HA.out (by simp [lexer_unit.l0])
    | succ k1 =>
      have H := HA.out
      clear HA
      simp only [lexer_unit.l0] at H
      by_cases c5 : x8_1 < (y345.length : Int)
      · rw [if_pos c5] at H
        have c5b0 : decide (x8_1 < (y345.length : Int)) = true := decide_eq_true c5
        clear c5
        by_cases c6 : 0 ≤ x8_1
        · rw [if_pos c6] at H
          have c6b0 : decide (0 ≤ x8_1) = true := decide_eq_true c6
          clear c6
          by_cases c7 : x8_1 < (y345.length : Int)
          · rw [if_pos c7] at H
            have c7b0 : decide (x8_1 < (y345.length : Int)) = true := decide_eq_true c7
            clear c7
            replace H := Option.bind_eq_some_iff.mp H
            obtain ⟨t349, A80, H⟩ := H
            replace H : (if t349 = true then ((strings_Index.f (⟨#[100, 32, 104, 32, 109, 32, 115, 32, 109, 115]⟩ : ByteArray) (rdOf ByteArray.empty y345 x8_1)).bind fun t350 => (some (rdOf ByteArray.empty y345 x8_1, t350))) else (lexer_unit.l0 k1 a0 y345 (y345.length : Int) (wrap64 (x8_1 + 1)))) = some (r1, r2) := H
            have A8 := Aside0.mk A80
            clear A80
            by_cases c9 : t349 = true
            · subst c9
              have H1 : ((strings_Index.f (⟨#[100, 32, 104, 32, 109, 32, 115, 32, 109, 115]⟩ : ByteArray) (rdOf ByteArray.empty y345 x8_1)).bind fun t350 => (some (rdOf ByteArray.empty y345 x8_1, t350))) = some (r1, r2) := by rw [if_pos rfl] at H; exact H
              clear H
              have H := H1
              clear H1
              replace H := Option.bind_eq_some_iff.mp H
              obtain ⟨t350, A100, H⟩ := H
              replace H : (some (rdOf ByteArray.empty y345 x8_1, t350)) = some (r1, r2) := H
              have A10 := Aside0.mk A100
              clear A100
              simp only [Option.some.injEq, Prod.mk.injEq] at H
              obtain ⟨rfl, rfl⟩ := H
              have p348 : 0 ≤ (x8_1 : Int) := of_decide_eq_true (by first | (with_reducible assumption) | assumption)
              have q348 : x8_1 < (y345.length : Int) := of_decide_eq_true (by first | (with_reducible assumption) | assumption)
              obtain ⟨ad348, e348, hx348_0⟩ := Kd.at_string (Kd.R_reads' HO_6.out).2.2 x8_1 p348 q348
              cases e348
              replace p348 := eq_true p348
              replace q348 := eq_true q348
              go_wp2_with (first | ((with_reducible refine gate_callee (f := 28) rfl ?_); refine goesL_ (some 14) rfl rfl Tryz.func28 (by kernel_rfl) rfl #[.string a0, .string (rdOf ByteArray.empty y345 x8_1)] rfl (by (try simp only [List.map_toArray, List.map_cons, List.map_nil]); first | done | rfl | (simp only [List.length_drop, List.length_take]; rfl)) ?_; (with_reducible refine (strings_HasPrefix.calls a0 (rdOf ByteArray.empty y345 x8_1) true _ A8.out).mono ?_); rintro e w' ⟨rfl, ⟨nd, rfl⟩⟩; refine ⟨_, rfl, ?_⟩) | ((with_reducible refine gate_callee (f := 39) rfl ?_); refine goesL_ (some 17) rfl rfl Tryz.func39 (by kernel_rfl) rfl #[.string (⟨#[100, 32, 104, 32, 109, 32, 115, 32, 109, 115]⟩ : ByteArray), .string (rdOf ByteArray.empty y345 x8_1)] rfl (by (try simp only [List.map_toArray, List.map_cons, List.map_nil]); first | done | rfl | (simp only [List.length_drop, List.length_take]; rfl)) ?_; (with_reducible refine (strings_Index.calls (⟨#[100, 32, 104, 32, 109, 32, 115, 32, 109, 115]⟩ : ByteArray) (rdOf ByteArray.empty y345 x8_1) t350 _ ?side1 A10.out).mono ?_); (case side1 => exact Tabs.below HT.out (by repeat (first | (with_reducible first | exact HB.out | apply below_alloc | apply pw_below_drewN | apply below_drew1) | exact HB.out))); rintro e w' ⟨rfl, ⟨nd, rfl⟩⟩; refine ⟨_, rfl, ?_⟩))
              go_ret2
              exact ⟨by first | rfl | (simp [errW_none, errW_some] <;> rfl) | (simp [*, errW_none, errW_some] <;> rfl), by repeat (first | (with_reducible first | exact HB.out | apply below_alloc | apply pw_below_drewN | apply below_drew1) | exact HB.out)⟩
            · replace c9 := Bool.eq_false_iff.mpr c9
              subst c9
              have H1 : (lexer_unit.l0 k1 a0 y345 (y345.length : Int) (wrap64 (x8_1 + 1))) = some (r1, r2) := by rw [if_neg (show ¬ (false = true) by decide)] at H; exact H
              clear H
              have H := H1
              clear H1
              have H' := Aside0.mk H
              clear H
              have p348 : 0 ≤ (x8_1 : Int) := of_decide_eq_true (by first | (with_reducible assumption) | assumption)
              have q348 : x8_1 < (y345.length : Int) := of_decide_eq_true (by first | (with_reducible assumption) | assumption)
              obtain ⟨ad348, e348, hx348_0⟩ := Kd.at_string (Kd.R_reads' HO_6.out).2.2 x8_1 p348 q348
              cases e348
              replace p348 := eq_true p348
              replace q348 := eq_true q348
              go_wp2_with (first | ((with_reducible refine gate_callee (f := 28) rfl ?_); refine goesL_ (some 14) rfl rfl Tryz.func28 (by kernel_rfl) rfl #[.string a0, .string (rdOf ByteArray.empty y345 x8_1)] rfl (by (try simp only [List.map_toArray, List.map_cons, List.map_nil]); first | done | rfl | (simp only [List.length_drop, List.length_take]; rfl)) ?_; (with_reducible refine (strings_HasPrefix.calls a0 (rdOf ByteArray.empty y345 x8_1) false _ A8.out).mono ?_); rintro e w' ⟨rfl, ⟨nd, rfl⟩⟩; refine ⟨_, rfl, ?_⟩))
              go_roundg k1
              case measure => have := HK1.out; omega
              case rel => exact ⟨(wrap64 (x8_1 + 1)), (by first | rfl | (simp; done) | (simp [*]; done)), H', ⟨by have := HK1.out; omega⟩, ⟨by (with_reducible repeat (first | apply Kd.R_alloc | apply Kd.R_drewN | apply Kd.R_drew)); exact HO_6.out⟩, ⟨by repeat (first | (with_reducible first | exact HB.out | apply below_alloc | apply pw_below_drewN | apply below_drew1) | exact HB.out)⟩⟩
          · rw [if_neg c7] at H
            exact absurd H (by simp)
        · rw [if_neg c6] at H
          exact absurd H (by simp)
      · rw [if_neg c5] at H
        have c5b0 : decide (x8_1 < (y345.length : Int)) = false := decide_eq_false c5
        clear c5
        simp only [Option.some.injEq, Prod.mk.injEq] at H
        obtain ⟨rfl, rfl⟩ := H
        go_wp2
        go_ret2
        exact ⟨by first | rfl | (simp [errW_none, errW_some] <;> rfl) | (simp [*, errW_none, errW_some] <;> rfl), by repeat (first | (with_reducible first | exact HB.out | apply below_alloc | apply pw_below_drewN | apply below_drew1) | exact HB.out)⟩
end Go.Proofs.YteokilkcchdeiaaGreatDoor.Q
end
section
namespace Go.Proofs.YteokilkcchdeiaaGreatDoor.Q
open Go.Proofs.YteokilkcchdeiaaGreatDoor
open Go.Proofs.YteokilkcchdeiaaGreatDoor.X
open Go.RowKit Go.Proofs.YteokilkcchdeiaaGreatDoorW.PrintWords Go.Proofs.YteokilkcchdeiaaGreatDoorW.PrintLast Go.Proofs.YteokilkcchdeiaaGreatDoorW.PrintMore
attribute [local go_sem] max2_int min2_int max_two min_two max_three min_three max_four min_four   -- for this text's walks alone
set_option linter.unusedVariables false
set_option linter.unusedSimpArgs false
mutual
def lexer_duration.l0 : Nat → ByteArray → Int → Int → Int → Bool → Bool → Bool → Option (Int × ByteArray × Int × Int × Int × Int × Int)
  | 0, _, _, _, _, _, _, _ => none
  | k + 1, x0, x5, x6, x7, x8, x9, x10 => if 0 ≤ x5 then (if x5 ≤ (x0.size : Int) then ((lexer_run_isDigit.f (x0.extract (x5 : Int).toNat x0.size)).bind fun t354 => (if 0 ≤ (wrap64 (x5 + t354)) then (if (wrap64 (x5 + t354)) ≤ (x0.size : Int) then ((lexer_unit.f k (x0.extract ((wrap64 (x5 + t354)) : Int).toNat x0.size)).bind fun bt355 => (if t354 = 0 then (lexer_duration.j1 k x0 x5 x6 x7 x8 x9 x10 t354 bt355.1 bt355.2 true) else (lexer_duration.j1 k x0 x5 x6 x7 x8 x9 x10 t354 bt355.1 bt355.2 (decide (bt355.2 < 0))))) else (none)) else (none))) else (none)) else (none)
def lexer_duration.j1 : Nat → ByteArray → Int → Int → Int → Bool → Bool → Bool → Int → ByteArray → Int → Bool → Option (Int × ByteArray × Int × Int × Int × Int × Int)
  | 0, _, _, _, _, _, _, _, _, _, _, _ => none
  | k + 1, x0, x5, x6, x7, x8, x9, x10, x11, x12, x13, x34 => if x34 = true then (if x8 = true then (some (0, (⟨#[]⟩ : ByteArray), 0, 0, 0, x5, 4)) else (if x9 = true then (lexer_duration.j2 k x0 x5 x6 x10 true) else (if 0 ≤ x5 then (if x5 ≤ (x0.size : Int) then ((lexer_continues.f (x0.extract (x5 : Int).toNat x0.size)).bind fun t362 => (lexer_duration.j2 k x0 x5 x6 x10 t362)) else (none)) else (none)))) else (if x11 > 18 then (if x9 = true then (if x10 = true then (lexer_duration.l0 k x0 (wrap64 (x5 + (wrap64 (x11 + (x12.size : Int))))) (mn x6 1099511627776) x13 true true true) else (lexer_duration.l0 k x0 (wrap64 (x5 + (wrap64 (x11 + (x12.size : Int))))) (mn x6 1099511627776) x13 true true (decide (x6 > 1099511627776)))) else (if x10 = true then (lexer_duration.l0 k x0 (wrap64 (x5 + (wrap64 (x11 + (x12.size : Int))))) (mn x6 1099511627776) x13 true (decide (x13 ≤ x7)) true) else (lexer_duration.l0 k x0 (wrap64 (x5 + (wrap64 (x11 + (x12.size : Int))))) (mn x6 1099511627776) x13 true (decide (x13 ≤ x7)) (decide (x6 > 1099511627776))))) else (if 0 ≤ x5 then (if x5 ≤ (wrap64 (x5 + x11)) then (if (wrap64 (x5 + x11)) ≤ (x0.size : Int) then ((strconv_Atoi.f (x0.extract (x5 : Int).toNat ((wrap64 (x5 + x11)) : Int).toNat)).bind fun bt357 => (if bt357.2.isNone = true then ((lexer_length.f x12).bind fun t360 => (if t360 = 0 then (none) else (if bt357.1 > (wrap64 (Int.tdiv (1099511627776 : Int) t360)) then (if x9 = true then (lexer_duration.l0 k x0 (wrap64 (x5 + (wrap64 (x11 + (x12.size : Int))))) (mn x6 1099511627776) x13 x8 true true) else (lexer_duration.l0 k x0 (wrap64 (x5 + (wrap64 (x11 + (x12.size : Int))))) (mn x6 1099511627776) x13 x8 (decide (x13 ≤ x7)) true)) else ((lexer_length.f x12).bind fun t361 => (if x9 = true then (if x10 = true then (lexer_duration.l0 k x0 (wrap64 (x5 + (wrap64 (x11 + (x12.size : Int))))) (mn (wrap64 (x6 + (wrap64 (bt357.1 * t361)))) 1099511627776) x13 x8 true true) else (lexer_duration.l0 k x0 (wrap64 (x5 + (wrap64 (x11 + (x12.size : Int))))) (mn (wrap64 (x6 + (wrap64 (bt357.1 * t361)))) 1099511627776) x13 x8 true (decide ((wrap64 (x6 + (wrap64 (bt357.1 * t361)))) > 1099511627776)))) else (if x10 = true then (lexer_duration.l0 k x0 (wrap64 (x5 + (wrap64 (x11 + (x12.size : Int))))) (mn (wrap64 (x6 + (wrap64 (bt357.1 * t361)))) 1099511627776) x13 x8 (decide (x13 ≤ x7)) true) else (lexer_duration.l0 k x0 (wrap64 (x5 + (wrap64 (x11 + (x12.size : Int))))) (mn (wrap64 (x6 + (wrap64 (bt357.1 * t361)))) 1099511627776) x13 x8 (decide (x13 ≤ x7)) (decide ((wrap64 (x6 + (wrap64 (bt357.1 * t361)))) > 1099511627776))))))))) else (if x9 = true then (lexer_duration.l0 k x0 (wrap64 (x5 + (wrap64 (x11 + (x12.size : Int))))) (mn x6 1099511627776) x13 x8 true true) else (lexer_duration.l0 k x0 (wrap64 (x5 + (wrap64 (x11 + (x12.size : Int))))) (mn x6 1099511627776) x13 x8 (decide (x13 ≤ x7)) true)))) else (none)) else (none)) else (none)))
def lexer_duration.j2 : Nat → ByteArray → Int → Int → Bool → Bool → Option (Int × ByteArray × Int × Int × Int × Int × Int)
  | 0, _, _, _, _, _ => none
  | k + 1, x0, x5, x6, x10, x86 => if x86 = true then (some (0, (⟨#[]⟩ : ByteArray), 0, 0, 0, x5, 3)) else (if x10 = true then (some (0, (⟨#[]⟩ : ByteArray), 0, 0, 0, x5, 2)) else (if 0 ≤ x5 then (if x5 ≤ (x0.size : Int) then (some (3, x0.extract 0 (x5 : Int).toNat, x6, 1, 0, x5, 0)) else (none)) else (none)))
end
def lexer_duration.f (k : Nat) (a0 : ByteArray) : Option (Int × ByteArray × Int × Int × Int × Int × Int) := lexer_duration.l0 k a0 0 0 (-1) false false false
set_option maxHeartbeats 8000000 in
set_option maxRecDepth 100000 in
theorem lexer_duration.calls (k : Nat) (a0 : ByteArray) (r1 : Int) (r2 : ByteArray) (r3 : Int) (r4 : Int) (r5 : Int) (r6 : Int) (r7 : Int) (w : World) (hT : Tabs w) (h : lexer_duration.f k a0 = some (r1, r2, r3, r4, r5, r6, r7)) :
    Calls Tryz.prog 69 #[.string a0] w fun e w' => e = .returned (.tuple #[.agg #[.int .i64 r1, .string r2, .int .i64 r3, .int .i64 r4, .int .i64 r5], .int .i64 r6, .int .i64 r7]) ∧ Below w.heap.size w w' := by
  have hu29 := Tryz.underlying29
  have hu27 := Tryz.underlying27
  have hu59 := Tryz.underlying59
  have HT := Aside0.mk hT
  clear hT
  have HB := Aside0.mk (Below.refl w.heap.size w)
  have H : (lexer_duration.l0 k a0 0 0 (-1) false false false) = some (r1, r2, r3, r4, r5, r6, r7) := h
  clear h
  have H' := Aside0.mk H
  clear H
  go_enter Tryz.func69, Tryz.ntmps69
  go_wp2_with (first | ((with_reducible refine gate_dst (N := 2) rfl ?_); refine box_event ?hg (N := 2) ?hd (cs := #[.int .i64 0, .string (⟨#[]⟩ : ByteArray), .int .i64 0, .int .i64 0, .int .i64 0]) (t := 29) ?hr ?_; (case hd => rfl); (case hg => rfl); (case hr => first | (go_simp; done) | (go_simp; rfl)); intro gb353 hg w2 hbox hb; have n0_ := Aside0.mk (below_step (by repeat (first | (with_reducible first | exact HB.out | apply below_alloc | apply pw_below_drewN | apply below_drew1) | exact HB.out)) hb); have n1_ := Aside0.mk (hbox); have n2_ := Aside0.mk ((by rw [hg]; exact (below_size (by repeat (first | (with_reducible first | exact HB.out | apply below_alloc | apply pw_below_drewN | apply below_drew1) | exact HB.out))) : w.heap.size ≤ gb353)); have n3_ := Aside0.mk ((by rw [hg]; exact (below_size (by repeat (first | (with_reducible first | exact HB.out | apply below_alloc | apply pw_below_drewN | apply below_drew1) | exact HB.out))) : w.heap.size ≤ gb353)); clear HB; have HB := n0_; have BK353 := n1_; have GW353 := n2_; have GE353 := n3_; clear n0_ n1_ n2_ n3_; clear hb hbox hg))
  go_loopg [5, 6, 7, 8, 9, 10] k (fun kq v5 v6 v7 v8 v9 v10 w' => ∃ (x5_1 : Int) (x6_1 : Int) (x7_1 : Int) (x8_1 : Bool) (x9_1 : Bool) (x10_1 : Bool), v5 = .int .i64 x5_1 ∧ v6 = .int .i64 x6_1 ∧ v7 = .int .i64 x7_1 ∧ v8 = .bool x8_1 ∧ v9 = .bool x9_1 ∧ v10 = .bool x10_1 ∧ Aside0 (lexer_duration.l0 kq a0 x5_1 x6_1 x7_1 x8_1 x9_1 x10_1 = some (r1, r2, r3, r4, r5, r6, r7)) ∧ Aside0 (kq ≤ k) ∧ Aside0 (w'.heap[gb353]? = some (.cells #[.int .i64 0, .string (⟨#[]⟩ : ByteArray), .int .i64 0, .int .i64 0, .int .i64 0] 29 (0, 0))) ∧ Aside0 (Below w.heap.size w w'))
  case atStart => exact ⟨(0), (0), ((-1)), (false), (false), (false), (by first | rfl | (simp; done) | (simp [*]; done)), (by first | rfl | (simp; done) | (simp [*]; done)), (by first | rfl | (simp; done) | (simp [*]; done)), (by first | rfl | (simp; done) | (simp [*]; done)), (by first | rfl | (simp; done) | (simp [*]; done)), (by first | rfl | (simp; done) | (simp [*]; done)), H', ⟨Nat.le_refl _⟩, ⟨by (with_reducible repeat (first | refine blk_drewN ?_ _ | refine blk_drew ?_ | refine blk_alloc ?_ _)); exact BK353.out⟩, ⟨by repeat (first | (with_reducible first | exact HB.out | apply below_alloc | apply pw_below_drewN | apply below_drew1 | refine below_set ?_ GE353.out) | exact HB.out)⟩⟩
  case round =>
    clear H'
    try clear p2
    obtain ⟨x5_1, x6_1, x7_1, x8_1, x9_1, x10_1, rfl, rfl, rfl, rfl, rfl, rfl, HA, HK1, BK353, HB⟩ := hrel
    cases gk with
    | zero => exact absurd HA.out (by simp [lexer_duration.l0])
    | succ k1 =>
      have H := HA.out
      clear HA
      simp only [lexer_duration.l0] at H
      by_cases c3 : 0 ≤ x5_1
      · rw [if_pos c3] at H
        have c3b0 := eq_true c3
        have c3b1 : decide (0 ≤ x5_1) = true := decide_eq_true c3
        clear c3
        by_cases c4 : x5_1 ≤ (a0.size : Int)
        · rw [if_pos c4] at H
          have c4b0 := eq_true c4
          have c4b1 : decide (x5_1 ≤ (a0.size : Int)) = true := decide_eq_true c4
          clear c4
          replace H := Option.bind_eq_some_iff.mp H
          obtain ⟨t354, A50, H⟩ := H
          replace H : (if 0 ≤ (wrap64 (x5_1 + t354)) then (if (wrap64 (x5_1 + t354)) ≤ (a0.size : Int) then ((lexer_unit.f k1 (a0.extract ((wrap64 (x5_1 + t354)) : Int).toNat a0.size)).bind fun bt355 => (if t354 = 0 then (lexer_duration.j1 k1 a0 x5_1 x6_1 x7_1 x8_1 x9_1 x10_1 t354 bt355.1 bt355.2 true) else (lexer_duration.j1 k1 a0 x5_1 x6_1 x7_1 x8_1 x9_1 x10_1 t354 bt355.1 bt355.2 (decide (bt355.2 < 0))))) else (none)) else (none)) = some (r1, r2, r3, r4, r5, r6, r7) := H
          have A5 := Aside0.mk A50
          clear A50
          obtain ⟨ji6, hji6⟩ : ∃ j_ : Int, (wrap64 (x5_1 + t354)) = j_ := ⟨_, rfl⟩
          replace H : (if 0 ≤ (ji6) then (if (ji6) ≤ (a0.size : Int) then ((lexer_unit.f k1 (a0.extract ((ji6) : Int).toNat a0.size)).bind fun bt355 => (if t354 = 0 then (lexer_duration.j1 k1 a0 x5_1 x6_1 x7_1 x8_1 x9_1 x10_1 t354 bt355.1 bt355.2 true) else (lexer_duration.j1 k1 a0 x5_1 x6_1 x7_1 x8_1 x9_1 x10_1 t354 bt355.1 bt355.2 (decide (bt355.2 < 0))))) else (none)) else (none)) = some (r1, r2, r3, r4, r5, r6, r7) := by first | (rw [hji6] at H; exact H) | (simp only [hji6] at H ⊢; exact H)
          (try rw [hji6] at A5)
          have hji6w : (IntKind.i64.wrap (x5_1 + t354)) = ji6 := (i64_w _).trans hji6
          by_cases c7 : 0 ≤ (ji6)
          · rw [if_pos c7] at H
            have c7b0 := eq_true c7
            have c7b1 : decide (0 ≤ (ji6)) = true := decide_eq_true c7
            clear c7
            by_cases c8 : (ji6) ≤ (a0.size : Int)
            · rw [if_pos c8] at H
              have c8b0 := eq_true c8
              have c8b1 : decide ((ji6) ≤ (a0.size : Int)) = true := decide_eq_true c8
              clear c8
              replace H := Option.bind_eq_some_iff.mp H
              obtain ⟨⟨t355, t356⟩, A90, H⟩ := H
              replace H : (if t354 = 0 then (lexer_duration.j1 k1 a0 x5_1 x6_1 x7_1 x8_1 x9_1 x10_1 t354 t355 t356 true) else (lexer_duration.j1 k1 a0 x5_1 x6_1 x7_1 x8_1 x9_1 x10_1 t354 t355 t356 (decide (t356 < 0)))) = some (r1, r2, r3, r4, r5, r6, r7) := H
              have A9 := Aside0.mk A90
              clear A90
              have HC10 := Aside0.mk H
              clear H
              go_upto_region 5 with (first | ((with_reducible refine gate_callee (f := 97) rfl ?_); refine goesL_ (some 19) rfl rfl Tryz.func97 (by kernel_rfl) rfl #[.string (a0.extract (x5_1 : Int).toNat a0.size), .func (.func 98) #[] #[]] rfl (by (try simp only [List.map_toArray, List.map_cons, List.map_nil]); first | done | rfl | (simp only [List.length_drop, List.length_take]; rfl)) ?_; (with_reducible refine (lexer_run_isDigit.calls (a0.extract (x5_1 : Int).toNat a0.size) t354 _ A5.out).mono ?_); rintro e w' ⟨rfl, ⟨nd, rfl⟩⟩; refine ⟨_, rfl, ?_⟩) | ((with_reducible refine gate_callee (f := 99) rfl ?_); refine goesL_ (some 26) rfl rfl Tryz.func99 (by kernel_rfl) rfl #[.string (a0.extract ((ji6) : Int).toNat a0.size)] rfl (by (try simp only [List.map_toArray, List.map_cons, List.map_nil]); first | done | (simp only [hji6]; rfl) | rfl | (simp only [List.length_drop, List.length_take]; rfl)) ?_; (with_reducible refine (lexer_unit.calls k1 (a0.extract ((ji6) : Int).toNat a0.size) t355 t356 _ ?side1 A9.out).mono ?_); (case side1 => exact Tabs.below HT.out (by repeat (first | (with_reducible first | exact HB.out | apply below_alloc | apply pw_below_drewN | apply below_drew1 | refine below_set ?_ GE353.out) | exact HB.out))); rintro e w11 ⟨rfl, hb⟩; refine ⟨_, rfl, ?_⟩; have n0_ := Aside0.mk (blk_below (g := gb353) (o := .cells #[.int .i64 0, .string (⟨#[]⟩ : ByteArray), .int .i64 0, .int .i64 0, .int .i64 0] 29 (0, 0)) (by (with_reducible repeat (first | refine blk_drewN ?_ _ | refine blk_drew ?_ | refine blk_alloc ?_ _)); exact BK353.out) hb); have n1_ := Aside0.mk (below_step (by repeat (first | (with_reducible first | exact HB.out | apply below_alloc | apply pw_below_drewN | apply below_drew1 | refine below_set ?_ GE353.out) | exact HB.out)) hb); clear BK353; clear HB; have BK353 := n0_; have HB := n1_; clear n0_ n1_; (try clear hb); (try clear hb2); (try clear hk); (try clear hi)))
              (try simp only [Act.put, List.setIfInBounds_toArray, List.set_cons_zero, List.set_cons_succ])
              go_cut [34] (fun v34 wc => ∃ (kq : Nat) (x34_9 : Bool), v34 = .bool x34_9 ∧ Aside0 (lexer_duration.j1 kq a0 x5_1 x6_1 x7_1 x8_1 x9_1 x10_1 t354 t355 t356 x34_9 = some (r1, r2, r3, r4, r5, r6, r7)) ∧ Aside0 (kq ≤ k1) ∧ Aside0 (wc.heap[gb353]? = some (.cells #[.int .i64 0, .string (⟨#[]⟩ : ByteArray), .int .i64 0, .int .i64 0, .int .i64 0] 29 (0, 0))) ∧ Aside0 (Below w.heap.size w wc))
              case first =>
                have H := HC10.out
                clear HC10
                by_cases c12 : t354 = 0
                · rw [if_pos c12] at H
                  have c12b0 : (t354 == 0) = true := beq_iff_eq.mpr c12
                  have c12b1 : (t354 != 0) = false := bne_eq_false_iff_eq.mpr c12
                  clear c12
                  (first | rw [c12b0] | (simp only [i64_w, i32_w]; rw [c12b0]) | skip)
                  have H' := Aside0.mk H
                  clear H
                  go_wp2
                  go_meet
                  case rel => exact ⟨_, (true), (by first | rfl | (simp; done) | (simp [*]; done)), H', ⟨by have := HK1.out; first | omega | exact Nat.le_refl _⟩, ⟨by (with_reducible repeat (first | refine blk_drewN ?_ _ | refine blk_drew ?_ | refine blk_alloc ?_ _)); exact BK353.out⟩, ⟨by repeat (first | (with_reducible first | exact HB.out | apply below_alloc | apply pw_below_drewN | apply below_drew1 | refine below_set ?_ GE353.out) | exact HB.out)⟩⟩
                · rw [if_neg c12] at H
                  have c12b0 : (t354 == 0) = false := beq_eq_false_iff_ne.mpr c12
                  have c12b1 : (t354 != 0) = true := bne_iff_ne.mpr c12
                  (first | rw [c12b0] | (simp only [i64_w, i32_w]; rw [c12b0]) | skip)
                  have H' := Aside0.mk H
                  clear H
                  go_wp2
                  go_meet
                  case rel => exact ⟨_, (decide (t356 < 0)), (by first | rfl | (simp; done) | (simp [*]; done)), H', ⟨by have := HK1.out; first | omega | exact Nat.le_refl _⟩, ⟨by (with_reducible repeat (first | refine blk_drewN ?_ _ | refine blk_drew ?_ | refine blk_alloc ?_ _)); exact BK353.out⟩, ⟨by repeat (first | (with_reducible first | exact HB.out | apply below_alloc | apply pw_below_drewN | apply below_drew1 | refine below_set ?_ GE353.out) | exact HB.out)⟩⟩
              case rest =>
                (try clear hji6w)
                (try clear hji6)
                clear HC10
                try clear c1
                try clear p2
                try clear c3
                try clear c3b0
                try clear c3b1
                try clear c4
                try clear c4b0
                try clear c4b1
                try clear c6
                try clear p6
                try clear c7
                try clear c7b0
                try clear c7b1
                try clear c8
                try clear c8b0
                try clear c8b1
                try clear c9
                try clear c12
                try clear c12b0
                try clear c12b1
                try clear p2
                obtain ⟨kq, x34_9, rfl, HA, HJ9, BK353, HB⟩ := hcut
                cases kq with
                | zero => exact absurd HA.out (by simp [lexer_duration.j1])
                | succ kj9 =>
                  have H := HA.out
                  clear HA
                  simp only [lexer_duration.j1] at H
                  by_cases c13 : x34_9 = true
                  · subst c13
                    have H1 : (if x8_1 = true then (some (0, (⟨#[]⟩ : ByteArray), 0, 0, 0, x5_1, 4)) else (if x9_1 = true then (lexer_duration.j2 kj9 a0 x5_1 x6_1 x10_1 true) else (if 0 ≤ x5_1 then (if x5_1 ≤ (a0.size : Int) then ((lexer_continues.f (a0.extract (x5_1 : Int).toNat a0.size)).bind fun t362 => (lexer_duration.j2 kj9 a0 x5_1 x6_1 x10_1 t362)) else (none)) else (none)))) = some (r1, r2, r3, r4, r5, r6, r7) := by rw [if_pos rfl] at H; exact H
                    clear H
                    have H := H1
                    clear H1
                    by_cases c14 : x8_1 = true
                    · subst c14
                      have H1 : (some (0, (⟨#[]⟩ : ByteArray), 0, 0, 0, x5_1, 4)) = some (r1, r2, r3, r4, r5, r6, r7) := by rw [if_pos rfl] at H; exact H
                      clear H
                      have H := H1
                      clear H1
                      simp only [Option.some.injEq, Prod.mk.injEq] at H
                      obtain ⟨rfl, rfl, rfl, rfl, rfl, rfl, rfl⟩ := H
                      have hcz15_0 : wc.cell? ⟨gb353, 0, none⟩ = some (.int .i64 0) := (blk_cell BK353.out 0).trans rfl
                      have hcz15_1 : wc.cell? ⟨gb353, 1, none⟩ = some (.string (⟨#[]⟩ : ByteArray)) := (blk_cell BK353.out 1).trans rfl
                      have hcz15_2 : wc.cell? ⟨gb353, 2, none⟩ = some (.int .i64 0) := (blk_cell BK353.out 2).trans rfl
                      have hcz15_3 : wc.cell? ⟨gb353, 3, none⟩ = some (.int .i64 0) := (blk_cell BK353.out 3).trans rfl
                      have hcz15_4 : wc.cell? ⟨gb353, 4, none⟩ = some (.int .i64 0) := (blk_cell BK353.out 4).trans rfl
                      have hfz15_0 := blk_frozen BK353.out 0
                      have hfz15_1 := blk_frozen BK353.out 1
                      have hfz15_2 := blk_frozen BK353.out 2
                      have hfz15_3 := blk_frozen BK353.out 3
                      have hfz15_4 := blk_frozen BK353.out 4
                      go_wp2
                      refine bodyPost_ret (results_ctt rfl _ _ gb353 29 #[.int .i64 0, .string (⟨#[]⟩ : ByteArray), .int .i64 0, .int .i64 0, .int .i64 0] (0, 0) _ rfl (by (with_reducible repeat (first | refine blk_drewN ?_ _ | refine blk_drew ?_ | refine blk_alloc ?_ _)); refine blk_put (cs := #[.int .i64 0, .string (⟨#[]⟩ : ByteArray), .int .i64 0, .int .i64 0, .int .i64 0]) ?_ 4 _ rfl; (with_reducible repeat (first | refine blk_drewN ?_ _ | refine blk_drew ?_ | refine blk_alloc ?_ _)); refine blk_put (cs := #[.int .i64 0, .string (⟨#[]⟩ : ByteArray), .int .i64 0, .int .i64 0, .int .i64 0]) ?_ 3 _ rfl; (with_reducible repeat (first | refine blk_drewN ?_ _ | refine blk_drew ?_ | refine blk_alloc ?_ _)); refine blk_put (cs := #[.int .i64 0, .string (⟨#[]⟩ : ByteArray), .int .i64 0, .int .i64 0, .int .i64 0]) ?_ 2 _ rfl; (with_reducible repeat (first | refine blk_drewN ?_ _ | refine blk_drew ?_ | refine blk_alloc ?_ _)); refine blk_put (cs := #[.int .i64 0, .string (⟨#[]⟩ : ByteArray), .int .i64 0, .int .i64 0, .int .i64 0]) ?_ 1 _ rfl; (with_reducible repeat (first | refine blk_drewN ?_ _ | refine blk_drew ?_ | refine blk_alloc ?_ _)); refine blk_put (cs := #[.int .i64 0, .string (⟨#[]⟩ : ByteArray), .int .i64 0, .int .i64 0, .int .i64 0]) ?_ 0 _ rfl; (with_reducible repeat (first | refine blk_drewN ?_ _ | refine blk_drew ?_ | refine blk_alloc ?_ _)); exact BK353.out) Tryz.underlying29 rfl (by kernel_rfl)) rfl ?_
                      exact ⟨by first | rfl | (simp [errW_none, errW_some] <;> rfl) | (simp only [← hji6]; first | rfl | (simp [errW_none, errW_some] <;> rfl)) | (simp [*, errW_none, errW_some] <;> rfl), by repeat (first | (with_reducible first | exact HB.out | apply below_alloc | apply pw_below_drewN | apply below_drew1 | refine below_set ?_ GE353.out) | exact HB.out)⟩
                    · replace c14 := Bool.eq_false_iff.mpr c14
                      subst c14
                      have H1 : (if x9_1 = true then (lexer_duration.j2 kj9 a0 x5_1 x6_1 x10_1 true) else (if 0 ≤ x5_1 then (if x5_1 ≤ (a0.size : Int) then ((lexer_continues.f (a0.extract (x5_1 : Int).toNat a0.size)).bind fun t362 => (lexer_duration.j2 kj9 a0 x5_1 x6_1 x10_1 t362)) else (none)) else (none))) = some (r1, r2, r3, r4, r5, r6, r7) := by rw [if_neg (show ¬ (false = true) by decide)] at H; exact H
                      clear H
                      have H := H1
                      clear H1
                      have HC16 := Aside0.mk H
                      clear H
                      go_upto_region 19 with (fail)
                      go_cut [86] (fun v86 wc => ∃ (kq : Nat) (x86_15 : Bool), v86 = .bool x86_15 ∧ Aside0 (lexer_duration.j2 kq a0 x5_1 x6_1 x10_1 x86_15 = some (r1, r2, r3, r4, r5, r6, r7)) ∧ Aside0 (kq ≤ kj9) ∧ Aside0 (wc.heap[gb353]? = some (.cells #[.int .i64 0, .string (⟨#[]⟩ : ByteArray), .int .i64 0, .int .i64 0, .int .i64 0] 29 (0, 0))) ∧ Aside0 (Below w.heap.size w wc))
                      case first =>
                        have H := HC16.out
                        clear HC16
                        by_cases c17 : x9_1 = true
                        · subst c17
                          have H1 : (lexer_duration.j2 kj9 a0 x5_1 x6_1 x10_1 true) = some (r1, r2, r3, r4, r5, r6, r7) := by rw [if_pos rfl] at H; exact H
                          clear H
                          have H := H1
                          clear H1
                          have H' := Aside0.mk H
                          clear H
                          go_wp2
                          go_meet
                          case rel => exact ⟨_, (true), (by first | rfl | (simp; done) | (simp [*]; done)), H', ⟨by have := HK1.out; have := HJ9.out; first | omega | exact Nat.le_refl _⟩, ⟨by (with_reducible repeat (first | refine blk_drewN ?_ _ | refine blk_drew ?_ | refine blk_alloc ?_ _)); exact BK353.out⟩, ⟨by repeat (first | (with_reducible first | exact HB.out | apply below_alloc | apply pw_below_drewN | apply below_drew1 | refine below_set ?_ GE353.out) | exact HB.out)⟩⟩
                        · replace c17 := Bool.eq_false_iff.mpr c17
                          subst c17
                          have H1 : (if 0 ≤ x5_1 then (if x5_1 ≤ (a0.size : Int) then ((lexer_continues.f (a0.extract (x5_1 : Int).toNat a0.size)).bind fun t362 => (lexer_duration.j2 kj9 a0 x5_1 x6_1 x10_1 t362)) else (none)) else (none)) = some (r1, r2, r3, r4, r5, r6, r7) := by rw [if_neg (show ¬ (false = true) by decide)] at H; exact H
                          clear H
                          have H := H1
                          clear H1
                          by_cases c18 : 0 ≤ x5_1
                          · rw [if_pos c18] at H
                            have c18b0 := eq_true c18
                            have c18b1 : decide (0 ≤ x5_1) = true := decide_eq_true c18
                            clear c18
                            by_cases c19 : x5_1 ≤ (a0.size : Int)
                            · rw [if_pos c19] at H
                              have c19b0 := eq_true c19
                              have c19b1 : decide (x5_1 ≤ (a0.size : Int)) = true := decide_eq_true c19
                              clear c19
                              replace H := Option.bind_eq_some_iff.mp H
                              obtain ⟨t362, A200, H⟩ := H
                              replace H : (lexer_duration.j2 kj9 a0 x5_1 x6_1 x10_1 t362) = some (r1, r2, r3, r4, r5, r6, r7) := H
                              have A20 := Aside0.mk A200
                              clear A200
                              have H' := Aside0.mk H
                              clear H
                              go_wp2_with (first | (go_at_call 101; (with_reducible refine (lexer_continues.calls (a0.extract (x5_1 : Int).toNat a0.size) t362 _ A20.out).mono ?_); rintro e w' ⟨rfl, ⟨nd, rfl⟩⟩))
                              go_meet
                              case rel => exact ⟨_, (t362), (by first | rfl | (simp; done) | (simp [*]; done)), H', ⟨by have := HK1.out; have := HJ9.out; first | omega | exact Nat.le_refl _⟩, ⟨by (with_reducible repeat (first | refine blk_drewN ?_ _ | refine blk_drew ?_ | refine blk_alloc ?_ _)); exact BK353.out⟩, ⟨by repeat (first | (with_reducible first | exact HB.out | apply below_alloc | apply pw_below_drewN | apply below_drew1 | refine below_set ?_ GE353.out) | exact HB.out)⟩⟩
                            · rw [if_neg c19] at H
                              exact absurd H (by simp)
                          · rw [if_neg c18] at H
                            exact absurd H (by simp)
                      case rest =>
                        (try clear hji6w)
                        (try clear hji6)
                        clear HC16
                        try clear c1
                        try clear p2
                        try clear c3
                        try clear c3b0
                        try clear c3b1
                        try clear c4
                        try clear c4b0
                        try clear c4b1
                        try clear c6
                        try clear p6
                        try clear c7
                        try clear c7b0
                        try clear c7b1
                        try clear c8
                        try clear c8b0
                        try clear c8b1
                        try clear c9
                        try clear c12
                        try clear c12b0
                        try clear c12b1
                        try clear c13
                        try clear c14
                        try clear c17
                        try clear c18
                        try clear c18b0
                        try clear c18b1
                        try clear c19
                        try clear c19b0
                        try clear c19b1
                        try clear hcz15_0
                        try clear hcz15_1
                        try clear hcz15_2
                        try clear hcz15_3
                        try clear hcz15_4
                        try clear hfz15_0
                        try clear hfz15_1
                        try clear hfz15_2
                        try clear hfz15_3
                        try clear hfz15_4
                        try clear p2
                        try clear p6
                        obtain ⟨kq, x86_15, rfl, HA, HJ15, BK353, HB⟩ := hcut
                        cases kq with
                        | zero => exact absurd HA.out (by simp [lexer_duration.j2])
                        | succ kj15 =>
                          have H := HA.out
                          clear HA
                          simp only [lexer_duration.j2] at H
                          by_cases c21 : x86_15 = true
                          · subst c21
                            have H1 : (some (0, (⟨#[]⟩ : ByteArray), 0, 0, 0, x5_1, 3)) = some (r1, r2, r3, r4, r5, r6, r7) := by rw [if_pos rfl] at H; exact H
                            clear H
                            have H := H1
                            clear H1
                            simp only [Option.some.injEq, Prod.mk.injEq] at H
                            obtain ⟨rfl, rfl, rfl, rfl, rfl, rfl, rfl⟩ := H
                            have hcz22_0 : wc.cell? ⟨gb353, 0, none⟩ = some (.int .i64 0) := (blk_cell BK353.out 0).trans rfl
                            have hcz22_1 : wc.cell? ⟨gb353, 1, none⟩ = some (.string (⟨#[]⟩ : ByteArray)) := (blk_cell BK353.out 1).trans rfl
                            have hcz22_2 : wc.cell? ⟨gb353, 2, none⟩ = some (.int .i64 0) := (blk_cell BK353.out 2).trans rfl
                            have hcz22_3 : wc.cell? ⟨gb353, 3, none⟩ = some (.int .i64 0) := (blk_cell BK353.out 3).trans rfl
                            have hcz22_4 : wc.cell? ⟨gb353, 4, none⟩ = some (.int .i64 0) := (blk_cell BK353.out 4).trans rfl
                            have hfz22_0 := blk_frozen BK353.out 0
                            have hfz22_1 := blk_frozen BK353.out 1
                            have hfz22_2 := blk_frozen BK353.out 2
                            have hfz22_3 := blk_frozen BK353.out 3
                            have hfz22_4 := blk_frozen BK353.out 4
                            go_wp2
                            refine bodyPost_ret (results_ctt rfl _ _ gb353 29 #[.int .i64 0, .string (⟨#[]⟩ : ByteArray), .int .i64 0, .int .i64 0, .int .i64 0] (0, 0) _ rfl (by (with_reducible repeat (first | refine blk_drewN ?_ _ | refine blk_drew ?_ | refine blk_alloc ?_ _)); refine blk_put (cs := #[.int .i64 0, .string (⟨#[]⟩ : ByteArray), .int .i64 0, .int .i64 0, .int .i64 0]) ?_ 4 _ rfl; (with_reducible repeat (first | refine blk_drewN ?_ _ | refine blk_drew ?_ | refine blk_alloc ?_ _)); refine blk_put (cs := #[.int .i64 0, .string (⟨#[]⟩ : ByteArray), .int .i64 0, .int .i64 0, .int .i64 0]) ?_ 3 _ rfl; (with_reducible repeat (first | refine blk_drewN ?_ _ | refine blk_drew ?_ | refine blk_alloc ?_ _)); refine blk_put (cs := #[.int .i64 0, .string (⟨#[]⟩ : ByteArray), .int .i64 0, .int .i64 0, .int .i64 0]) ?_ 2 _ rfl; (with_reducible repeat (first | refine blk_drewN ?_ _ | refine blk_drew ?_ | refine blk_alloc ?_ _)); refine blk_put (cs := #[.int .i64 0, .string (⟨#[]⟩ : ByteArray), .int .i64 0, .int .i64 0, .int .i64 0]) ?_ 1 _ rfl; (with_reducible repeat (first | refine blk_drewN ?_ _ | refine blk_drew ?_ | refine blk_alloc ?_ _)); refine blk_put (cs := #[.int .i64 0, .string (⟨#[]⟩ : ByteArray), .int .i64 0, .int .i64 0, .int .i64 0]) ?_ 0 _ rfl; (with_reducible repeat (first | refine blk_drewN ?_ _ | refine blk_drew ?_ | refine blk_alloc ?_ _)); exact BK353.out) Tryz.underlying29 rfl (by kernel_rfl)) rfl ?_
                            exact ⟨by first | rfl | (simp [errW_none, errW_some] <;> rfl) | (simp only [← hji6]; first | rfl | (simp [errW_none, errW_some] <;> rfl)) | (simp [*, errW_none, errW_some] <;> rfl), by repeat (first | (with_reducible first | exact HB.out | apply below_alloc | apply pw_below_drewN | apply below_drew1 | refine below_set ?_ GE353.out) | exact HB.out)⟩
                          · replace c21 := Bool.eq_false_iff.mpr c21
                            subst c21
                            have H1 : (if x10_1 = true then (some (0, (⟨#[]⟩ : ByteArray), 0, 0, 0, x5_1, 2)) else (if 0 ≤ x5_1 then (if x5_1 ≤ (a0.size : Int) then (some (3, a0.extract 0 (x5_1 : Int).toNat, x6_1, 1, 0, x5_1, 0)) else (none)) else (none))) = some (r1, r2, r3, r4, r5, r6, r7) := by rw [if_neg (show ¬ (false = true) by decide)] at H; exact H
                            clear H
                            have H := H1
                            clear H1
                            by_cases c23 : x10_1 = true
                            · subst c23
                              have H1 : (some (0, (⟨#[]⟩ : ByteArray), 0, 0, 0, x5_1, 2)) = some (r1, r2, r3, r4, r5, r6, r7) := by rw [if_pos rfl] at H; exact H
                              clear H
                              have H := H1
                              clear H1
                              simp only [Option.some.injEq, Prod.mk.injEq] at H
                              obtain ⟨rfl, rfl, rfl, rfl, rfl, rfl, rfl⟩ := H
                              have hcz24_0 : wc.cell? ⟨gb353, 0, none⟩ = some (.int .i64 0) := (blk_cell BK353.out 0).trans rfl
                              have hcz24_1 : wc.cell? ⟨gb353, 1, none⟩ = some (.string (⟨#[]⟩ : ByteArray)) := (blk_cell BK353.out 1).trans rfl
                              have hcz24_2 : wc.cell? ⟨gb353, 2, none⟩ = some (.int .i64 0) := (blk_cell BK353.out 2).trans rfl
                              have hcz24_3 : wc.cell? ⟨gb353, 3, none⟩ = some (.int .i64 0) := (blk_cell BK353.out 3).trans rfl
                              have hcz24_4 : wc.cell? ⟨gb353, 4, none⟩ = some (.int .i64 0) := (blk_cell BK353.out 4).trans rfl
                              have hfz24_0 := blk_frozen BK353.out 0
                              have hfz24_1 := blk_frozen BK353.out 1
                              have hfz24_2 := blk_frozen BK353.out 2
                              have hfz24_3 := blk_frozen BK353.out 3
                              have hfz24_4 := blk_frozen BK353.out 4
                              go_wp2
                              refine bodyPost_ret (results_ctt rfl _ _ gb353 29 #[.int .i64 0, .string (⟨#[]⟩ : ByteArray), .int .i64 0, .int .i64 0, .int .i64 0] (0, 0) _ rfl (by (with_reducible repeat (first | refine blk_drewN ?_ _ | refine blk_drew ?_ | refine blk_alloc ?_ _)); refine blk_put (cs := #[.int .i64 0, .string (⟨#[]⟩ : ByteArray), .int .i64 0, .int .i64 0, .int .i64 0]) ?_ 4 _ rfl; (with_reducible repeat (first | refine blk_drewN ?_ _ | refine blk_drew ?_ | refine blk_alloc ?_ _)); refine blk_put (cs := #[.int .i64 0, .string (⟨#[]⟩ : ByteArray), .int .i64 0, .int .i64 0, .int .i64 0]) ?_ 3 _ rfl; (with_reducible repeat (first | refine blk_drewN ?_ _ | refine blk_drew ?_ | refine blk_alloc ?_ _)); refine blk_put (cs := #[.int .i64 0, .string (⟨#[]⟩ : ByteArray), .int .i64 0, .int .i64 0, .int .i64 0]) ?_ 2 _ rfl; (with_reducible repeat (first | refine blk_drewN ?_ _ | refine blk_drew ?_ | refine blk_alloc ?_ _)); refine blk_put (cs := #[.int .i64 0, .string (⟨#[]⟩ : ByteArray), .int .i64 0, .int .i64 0, .int .i64 0]) ?_ 1 _ rfl; (with_reducible repeat (first | refine blk_drewN ?_ _ | refine blk_drew ?_ | refine blk_alloc ?_ _)); refine blk_put (cs := #[.int .i64 0, .string (⟨#[]⟩ : ByteArray), .int .i64 0, .int .i64 0, .int .i64 0]) ?_ 0 _ rfl; (with_reducible repeat (first | refine blk_drewN ?_ _ | refine blk_drew ?_ | refine blk_alloc ?_ _)); exact BK353.out) Tryz.underlying29 rfl (by kernel_rfl)) rfl ?_
                              exact ⟨by first | rfl | (simp [errW_none, errW_some] <;> rfl) | (simp only [← hji6]; first | rfl | (simp [errW_none, errW_some] <;> rfl)) | (simp [*, errW_none, errW_some] <;> rfl), by repeat (first | (with_reducible first | exact HB.out | apply below_alloc | apply pw_below_drewN | apply below_drew1 | refine below_set ?_ GE353.out) | exact HB.out)⟩
                            · replace c23 := Bool.eq_false_iff.mpr c23
                              subst c23
                              have H1 : (if 0 ≤ x5_1 then (if x5_1 ≤ (a0.size : Int) then (some (3, a0.extract 0 (x5_1 : Int).toNat, x6_1, 1, 0, x5_1, 0)) else (none)) else (none)) = some (r1, r2, r3, r4, r5, r6, r7) := by rw [if_neg (show ¬ (false = true) by decide)] at H; exact H
                              clear H
                              have H := H1
                              clear H1
                              by_cases c25 : 0 ≤ x5_1
                              · rw [if_pos c25] at H
                                have c25b0 := eq_true c25
                                have c25b1 : decide (0 ≤ x5_1) = true := decide_eq_true c25
                                clear c25
                                by_cases c26 : x5_1 ≤ (a0.size : Int)
                                · rw [if_pos c26] at H
                                  have c26b0 := eq_true c26
                                  have c26b1 : decide (x5_1 ≤ (a0.size : Int)) = true := decide_eq_true c26
                                  clear c26
                                  simp only [Option.some.injEq, Prod.mk.injEq] at H
                                  obtain ⟨rfl, rfl, rfl, rfl, rfl, rfl, rfl⟩ := H
                                  have hcz27_0 : wc.cell? ⟨gb353, 0, none⟩ = some (.int .i64 0) := (blk_cell BK353.out 0).trans rfl
                                  have hcz27_1 : wc.cell? ⟨gb353, 1, none⟩ = some (.string (⟨#[]⟩ : ByteArray)) := (blk_cell BK353.out 1).trans rfl
                                  have hcz27_2 : wc.cell? ⟨gb353, 2, none⟩ = some (.int .i64 0) := (blk_cell BK353.out 2).trans rfl
                                  have hcz27_3 : wc.cell? ⟨gb353, 3, none⟩ = some (.int .i64 0) := (blk_cell BK353.out 3).trans rfl
                                  have hcz27_4 : wc.cell? ⟨gb353, 4, none⟩ = some (.int .i64 0) := (blk_cell BK353.out 4).trans rfl
                                  have hfz27_0 := blk_frozen BK353.out 0
                                  have hfz27_1 := blk_frozen BK353.out 1
                                  have hfz27_2 := blk_frozen BK353.out 2
                                  have hfz27_3 := blk_frozen BK353.out 3
                                  have hfz27_4 := blk_frozen BK353.out 4
                                  go_wp2
                                  refine bodyPost_ret (results_ctt rfl _ _ gb353 29 #[.int .i64 3, .string (a0.extract 0 (x5_1 : Int).toNat), .int .i64 x6_1, .int .i64 1, .int .i64 0] (0, 0) _ rfl (by (with_reducible repeat (first | refine blk_drewN ?_ _ | refine blk_drew ?_ | refine blk_alloc ?_ _)); refine blk_put (cs := #[.int .i64 3, .string (a0.extract 0 (x5_1 : Int).toNat), .int .i64 x6_1, .int .i64 1, .int .i64 0]) ?_ 4 _ rfl; (with_reducible repeat (first | refine blk_drewN ?_ _ | refine blk_drew ?_ | refine blk_alloc ?_ _)); refine blk_put (cs := #[.int .i64 3, .string (a0.extract 0 (x5_1 : Int).toNat), .int .i64 x6_1, .int .i64 0, .int .i64 0]) ?_ 3 _ rfl; (with_reducible repeat (first | refine blk_drewN ?_ _ | refine blk_drew ?_ | refine blk_alloc ?_ _)); refine blk_put (cs := #[.int .i64 3, .string (a0.extract 0 (x5_1 : Int).toNat), .int .i64 0, .int .i64 0, .int .i64 0]) ?_ 2 _ rfl; (with_reducible repeat (first | refine blk_drewN ?_ _ | refine blk_drew ?_ | refine blk_alloc ?_ _)); refine blk_put (cs := #[.int .i64 3, .string (⟨#[]⟩ : ByteArray), .int .i64 0, .int .i64 0, .int .i64 0]) ?_ 1 _ rfl; (with_reducible repeat (first | refine blk_drewN ?_ _ | refine blk_drew ?_ | refine blk_alloc ?_ _)); refine blk_put (cs := #[.int .i64 0, .string (⟨#[]⟩ : ByteArray), .int .i64 0, .int .i64 0, .int .i64 0]) ?_ 0 _ rfl; (with_reducible repeat (first | refine blk_drewN ?_ _ | refine blk_drew ?_ | refine blk_alloc ?_ _)); exact BK353.out) Tryz.underlying29 rfl (by kernel_rfl)) rfl ?_
                                  exact ⟨by first | rfl | (simp [errW_none, errW_some] <;> rfl) | (simp only [← hji6]; first | rfl | (simp [errW_none, errW_some] <;> rfl)) | (simp [*, errW_none, errW_some] <;> rfl), by repeat (first | (with_reducible first | exact HB.out | apply below_alloc | apply pw_below_drewN | apply below_drew1 | refine below_set ?_ GE353.out) | exact HB.out)⟩
                                · rw [if_neg c26] at H
                                  exact absurd H (by simp)
                              · rw [if_neg c25] at H
                                exact absurd H (by simp)
                  · replace c13 := Bool.eq_false_iff.mpr c13
                    subst c13
                    have H1 : (if t354 > 18 then (if x9_1 = true then (if x10_1 = true then (lexer_duration.l0 kj9 a0 (wrap64 (x5_1 + (wrap64 (t354 + (t355.size : Int))))) (mn x6_1 1099511627776) t356 true true true) else (lexer_duration.l0 kj9 a0 (wrap64 (x5_1 + (wrap64 (t354 + (t355.size : Int))))) (mn x6_1 1099511627776) t356 true true (decide (x6_1 > 1099511627776)))) else (if x10_1 = true then (lexer_duration.l0 kj9 a0 (wrap64 (x5_1 + (wrap64 (t354 + (t355.size : Int))))) (mn x6_1 1099511627776) t356 true (decide (t356 ≤ x7_1)) true) else (lexer_duration.l0 kj9 a0 (wrap64 (x5_1 + (wrap64 (t354 + (t355.size : Int))))) (mn x6_1 1099511627776) t356 true (decide (t356 ≤ x7_1)) (decide (x6_1 > 1099511627776))))) else (if 0 ≤ x5_1 then (if x5_1 ≤ (wrap64 (x5_1 + t354)) then (if (wrap64 (x5_1 + t354)) ≤ (a0.size : Int) then ((strconv_Atoi.f (a0.extract (x5_1 : Int).toNat ((wrap64 (x5_1 + t354)) : Int).toNat)).bind fun bt357 => (if bt357.2.isNone = true then ((lexer_length.f t355).bind fun t360 => (if t360 = 0 then (none) else (if bt357.1 > (wrap64 (Int.tdiv (1099511627776 : Int) t360)) then (if x9_1 = true then (lexer_duration.l0 kj9 a0 (wrap64 (x5_1 + (wrap64 (t354 + (t355.size : Int))))) (mn x6_1 1099511627776) t356 x8_1 true true) else (lexer_duration.l0 kj9 a0 (wrap64 (x5_1 + (wrap64 (t354 + (t355.size : Int))))) (mn x6_1 1099511627776) t356 x8_1 (decide (t356 ≤ x7_1)) true)) else ((lexer_length.f t355).bind fun t361 => (if x9_1 = true then (if x10_1 = true then (lexer_duration.l0 kj9 a0 (wrap64 (x5_1 + (wrap64 (t354 + (t355.size : Int))))) (mn (wrap64 (x6_1 + (wrap64 (bt357.1 * t361)))) 1099511627776) t356 x8_1 true true) else (lexer_duration.l0 kj9 a0 (wrap64 (x5_1 + (wrap64 (t354 + (t355.size : Int))))) (mn (wrap64 (x6_1 + (wrap64 (bt357.1 * t361)))) 1099511627776) t356 x8_1 true (decide ((wrap64 (x6_1 + (wrap64 (bt357.1 * t361)))) > 1099511627776)))) else (if x10_1 = true then (lexer_duration.l0 kj9 a0 (wrap64 (x5_1 + (wrap64 (t354 + (t355.size : Int))))) (mn (wrap64 (x6_1 + (wrap64 (bt357.1 * t361)))) 1099511627776) t356 x8_1 (decide (t356 ≤ x7_1)) true) else (lexer_duration.l0 kj9 a0 (wrap64 (x5_1 + (wrap64 (t354 + (t355.size : Int))))) (mn (wrap64 (x6_1 + (wrap64 (bt357.1 * t361)))) 1099511627776) t356 x8_1 (decide (t356 ≤ x7_1)) (decide ((wrap64 (x6_1 + (wrap64 (bt357.1 * t361)))) > 1099511627776))))))))) else (if x9_1 = true then (lexer_duration.l0 kj9 a0 (wrap64 (x5_1 + (wrap64 (t354 + (t355.size : Int))))) (mn x6_1 1099511627776) t356 x8_1 true true) else (lexer_duration.l0 kj9 a0 (wrap64 (x5_1 + (wrap64 (t354 + (t355.size : Int))))) (mn x6_1 1099511627776) t356 x8_1 (decide (t356 ≤ x7_1)) true)))) else (none)) else (none)) else (none))) = some (r1, r2, r3, r4, r5, r6, r7) := by rw [if_neg (show ¬ (false = true) by decide)] at H; exact H
                    clear H
                    have H := H1
                    clear H1
                    by_cases c28 : t354 > 18
                    · rw [if_pos c28] at H
                      have c28b0 : decide (18 < t354) = true := decide_eq_true c28
                      clear c28
                      by_cases c29 : x9_1 = true
                      · subst c29
                        have H1 : (if x10_1 = true then (lexer_duration.l0 kj9 a0 (wrap64 (x5_1 + (wrap64 (t354 + (t355.size : Int))))) (mn x6_1 1099511627776) t356 true true true) else (lexer_duration.l0 kj9 a0 (wrap64 (x5_1 + (wrap64 (t354 + (t355.size : Int))))) (mn x6_1 1099511627776) t356 true true (decide (x6_1 > 1099511627776)))) = some (r1, r2, r3, r4, r5, r6, r7) := by rw [if_pos rfl] at H; exact H
                        clear H
                        have H := H1
                        clear H1
                        by_cases c30 : x10_1 = true
                        · subst c30
                          have H1 : (lexer_duration.l0 kj9 a0 (wrap64 (x5_1 + (wrap64 (t354 + (t355.size : Int))))) (mn x6_1 1099511627776) t356 true true true) = some (r1, r2, r3, r4, r5, r6, r7) := by rw [if_pos rfl] at H; exact H
                          clear H
                          have H := H1
                          clear H1
                          obtain ⟨ji31, hji31⟩ : ∃ j_ : Int, (mn x6_1 1099511627776) = j_ := ⟨_, rfl⟩
                          replace H : (lexer_duration.l0 kj9 a0 (wrap64 (x5_1 + (wrap64 (t354 + (t355.size : Int))))) ji31 t356 true true true) = some (r1, r2, r3, r4, r5, r6, r7) := by first | (rw [hji31] at H; exact H) | (simp only [hji31] at H ⊢; exact H)
                          have hji31_ : (if 1099511627776 < x6_1 then 1099511627776 else x6_1) = ji31 := hji31
                          have H' := Aside0.mk H
                          clear H
                          go_wp2
                          go_roundg kj9
                          case measure => have := HK1.out; have := HJ9.out; omega
                          case rel => exact ⟨(wrap64 (x5_1 + (wrap64 (t354 + (t355.size : Int))))), (ji31), (t356), (true), (true), (true), (by first | rfl | (simp; done) | (simp [*]; done)), (by first | rfl | (simp; done) | (simp only [← hji31] <;> (first | rfl | simp)) | (simp [*]; done)), (by first | rfl | (simp; done) | (simp [*]; done)), (by first | rfl | (simp; done) | (simp [*]; done)), (by first | rfl | (simp; done) | (simp [*]; done)), (by first | rfl | (simp; done) | (simp [*]; done)), H', ⟨by have := HK1.out; have := HJ9.out; omega⟩, ⟨by (with_reducible repeat (first | refine blk_drewN ?_ _ | refine blk_drew ?_ | refine blk_alloc ?_ _)); exact BK353.out⟩, ⟨by repeat (first | (with_reducible first | exact HB.out | apply below_alloc | apply pw_below_drewN | apply below_drew1 | refine below_set ?_ GE353.out) | exact HB.out)⟩⟩
                        · replace c30 := Bool.eq_false_iff.mpr c30
                          subst c30
                          have H1 : (lexer_duration.l0 kj9 a0 (wrap64 (x5_1 + (wrap64 (t354 + (t355.size : Int))))) (mn x6_1 1099511627776) t356 true true (decide (x6_1 > 1099511627776))) = some (r1, r2, r3, r4, r5, r6, r7) := by rw [if_neg (show ¬ (false = true) by decide)] at H; exact H
                          clear H
                          have H := H1
                          clear H1
                          obtain ⟨ji32, hji32⟩ : ∃ j_ : Int, (mn x6_1 1099511627776) = j_ := ⟨_, rfl⟩
                          replace H : (lexer_duration.l0 kj9 a0 (wrap64 (x5_1 + (wrap64 (t354 + (t355.size : Int))))) ji32 t356 true true (decide (x6_1 > 1099511627776))) = some (r1, r2, r3, r4, r5, r6, r7) := by first | (rw [hji32] at H; exact H) | (simp only [hji32] at H ⊢; exact H)
                          have hji32_ : (if 1099511627776 < x6_1 then 1099511627776 else x6_1) = ji32 := hji32
                          have H' := Aside0.mk H
                          clear H
                          go_wp2
                          go_roundg kj9
                          case measure => have := HK1.out; have := HJ9.out; omega
                          case rel => exact ⟨(wrap64 (x5_1 + (wrap64 (t354 + (t355.size : Int))))), (ji32), (t356), (true), (true), (decide (x6_1 > 1099511627776)), (by first | rfl | (simp; done) | (simp [*]; done)), (by first | rfl | (simp; done) | (simp only [← hji32] <;> (first | rfl | simp)) | (simp [*]; done)), (by first | rfl | (simp; done) | (simp [*]; done)), (by first | rfl | (simp; done) | (simp [*]; done)), (by first | rfl | (simp; done) | (simp [*]; done)), (by first | rfl | (simp; done) | (simp [*]; done)), H', ⟨by have := HK1.out; have := HJ9.out; omega⟩, ⟨by (with_reducible repeat (first | refine blk_drewN ?_ _ | refine blk_drew ?_ | refine blk_alloc ?_ _)); exact BK353.out⟩, ⟨by repeat (first | (with_reducible first | exact HB.out | apply below_alloc | apply pw_below_drewN | apply below_drew1 | refine below_set ?_ GE353.out) | exact HB.out)⟩⟩
                      · replace c29 := Bool.eq_false_iff.mpr c29
                        subst c29
                        have H1 : (if x10_1 = true then (lexer_duration.l0 kj9 a0 (wrap64 (x5_1 + (wrap64 (t354 + (t355.size : Int))))) (mn x6_1 1099511627776) t356 true (decide (t356 ≤ x7_1)) true) else (lexer_duration.l0 kj9 a0 (wrap64 (x5_1 + (wrap64 (t354 + (t355.size : Int))))) (mn x6_1 1099511627776) t356 true (decide (t356 ≤ x7_1)) (decide (x6_1 > 1099511627776)))) = some (r1, r2, r3, r4, r5, r6, r7) := by rw [if_neg (show ¬ (false = true) by decide)] at H; exact H
                        clear H
                        have H := H1
                        clear H1
                        by_cases c33 : x10_1 = true
                        · subst c33
                          have H1 : (lexer_duration.l0 kj9 a0 (wrap64 (x5_1 + (wrap64 (t354 + (t355.size : Int))))) (mn x6_1 1099511627776) t356 true (decide (t356 ≤ x7_1)) true) = some (r1, r2, r3, r4, r5, r6, r7) := by rw [if_pos rfl] at H; exact H
                          clear H
                          have H := H1
                          clear H1
                          obtain ⟨ji34, hji34⟩ : ∃ j_ : Int, (mn x6_1 1099511627776) = j_ := ⟨_, rfl⟩
                          replace H : (lexer_duration.l0 kj9 a0 (wrap64 (x5_1 + (wrap64 (t354 + (t355.size : Int))))) ji34 t356 true (decide (t356 ≤ x7_1)) true) = some (r1, r2, r3, r4, r5, r6, r7) := by first | (rw [hji34] at H; exact H) | (simp only [hji34] at H ⊢; exact H)
                          have hji34_ : (if 1099511627776 < x6_1 then 1099511627776 else x6_1) = ji34 := hji34
                          have H' := Aside0.mk H
                          clear H
                          go_wp2
                          go_roundg kj9
                          case measure => have := HK1.out; have := HJ9.out; omega
                          case rel => exact ⟨(wrap64 (x5_1 + (wrap64 (t354 + (t355.size : Int))))), (ji34), (t356), (true), (decide (t356 ≤ x7_1)), (true), (by first | rfl | (simp; done) | (simp [*]; done)), (by first | rfl | (simp; done) | (simp only [← hji34] <;> (first | rfl | simp)) | (simp [*]; done)), (by first | rfl | (simp; done) | (simp [*]; done)), (by first | rfl | (simp; done) | (simp [*]; done)), (by first | rfl | (simp; done) | (simp [*]; done)), (by first | rfl | (simp; done) | (simp [*]; done)), H', ⟨by have := HK1.out; have := HJ9.out; omega⟩, ⟨by (with_reducible repeat (first | refine blk_drewN ?_ _ | refine blk_drew ?_ | refine blk_alloc ?_ _)); exact BK353.out⟩, ⟨by repeat (first | (with_reducible first | exact HB.out | apply below_alloc | apply pw_below_drewN | apply below_drew1 | refine below_set ?_ GE353.out) | exact HB.out)⟩⟩
                        · replace c33 := Bool.eq_false_iff.mpr c33
                          subst c33
                          have H1 : (lexer_duration.l0 kj9 a0 (wrap64 (x5_1 + (wrap64 (t354 + (t355.size : Int))))) (mn x6_1 1099511627776) t356 true (decide (t356 ≤ x7_1)) (decide (x6_1 > 1099511627776))) = some (r1, r2, r3, r4, r5, r6, r7) := by rw [if_neg (show ¬ (false = true) by decide)] at H; exact H
                          clear H
                          have H := H1
                          clear H1
                          obtain ⟨ji35, hji35⟩ : ∃ j_ : Int, (mn x6_1 1099511627776) = j_ := ⟨_, rfl⟩
                          replace H : (lexer_duration.l0 kj9 a0 (wrap64 (x5_1 + (wrap64 (t354 + (t355.size : Int))))) ji35 t356 true (decide (t356 ≤ x7_1)) (decide (x6_1 > 1099511627776))) = some (r1, r2, r3, r4, r5, r6, r7) := by first | (rw [hji35] at H; exact H) | (simp only [hji35] at H ⊢; exact H)
                          have hji35_ : (if 1099511627776 < x6_1 then 1099511627776 else x6_1) = ji35 := hji35
                          have H' := Aside0.mk H
                          clear H
                          go_wp2
                          go_roundg kj9
                          case measure => have := HK1.out; have := HJ9.out; omega
                          case rel => exact ⟨(wrap64 (x5_1 + (wrap64 (t354 + (t355.size : Int))))), (ji35), (t356), (true), (decide (t356 ≤ x7_1)), (decide (x6_1 > 1099511627776)), (by first | rfl | (simp; done) | (simp [*]; done)), (by first | rfl | (simp; done) | (simp only [← hji35] <;> (first | rfl | simp)) | (simp [*]; done)), (by first | rfl | (simp; done) | (simp [*]; done)), (by first | rfl | (simp; done) | (simp [*]; done)), (by first | rfl | (simp; done) | (simp [*]; done)), (by first | rfl | (simp; done) | (simp [*]; done)), H', ⟨by have := HK1.out; have := HJ9.out; omega⟩, ⟨by (with_reducible repeat (first | refine blk_drewN ?_ _ | refine blk_drew ?_ | refine blk_alloc ?_ _)); exact BK353.out⟩, ⟨by repeat (first | (with_reducible first | exact HB.out | apply below_alloc | apply pw_below_drewN | apply below_drew1 | refine below_set ?_ GE353.out) | exact HB.out)⟩⟩
                    · rw [if_neg c28] at H
                      have c28b0 : decide (18 < t354) = false := decide_eq_false c28
                      clear c28
                      by_cases c36 : 0 ≤ x5_1
                      · rw [if_pos c36] at H
                        have c36b0 := eq_true c36
                        have c36b1 : decide (0 ≤ x5_1) = true := decide_eq_true c36
                        clear c36
                        by_cases c37 : x5_1 ≤ (wrap64 (x5_1 + t354))
                        · rw [if_pos c37] at H
                          have c37b0 := eq_true c37
                          have c37b1 : decide (x5_1 ≤ (wrap64 (x5_1 + t354))) = true := decide_eq_true c37
                          by_cases c38 : (wrap64 (x5_1 + t354)) ≤ (a0.size : Int)
                          · rw [if_pos c38] at H
                            have c38b0 := eq_true c38
                            have c38b1 : decide ((wrap64 (x5_1 + t354)) ≤ (a0.size : Int)) = true := decide_eq_true c38
                            replace H := Option.bind_eq_some_iff.mp H
                            obtain ⟨⟨t357, t358⟩, A390, H⟩ := H
                            replace H : (if t358.isNone = true then ((lexer_length.f t355).bind fun t360 => (if t360 = 0 then (none) else (if t357 > (wrap64 (Int.tdiv (1099511627776 : Int) t360)) then (if x9_1 = true then (lexer_duration.l0 kj9 a0 (wrap64 (x5_1 + (wrap64 (t354 + (t355.size : Int))))) (mn x6_1 1099511627776) t356 x8_1 true true) else (lexer_duration.l0 kj9 a0 (wrap64 (x5_1 + (wrap64 (t354 + (t355.size : Int))))) (mn x6_1 1099511627776) t356 x8_1 (decide (t356 ≤ x7_1)) true)) else ((lexer_length.f t355).bind fun t361 => (if x9_1 = true then (if x10_1 = true then (lexer_duration.l0 kj9 a0 (wrap64 (x5_1 + (wrap64 (t354 + (t355.size : Int))))) (mn (wrap64 (x6_1 + (wrap64 (t357 * t361)))) 1099511627776) t356 x8_1 true true) else (lexer_duration.l0 kj9 a0 (wrap64 (x5_1 + (wrap64 (t354 + (t355.size : Int))))) (mn (wrap64 (x6_1 + (wrap64 (t357 * t361)))) 1099511627776) t356 x8_1 true (decide ((wrap64 (x6_1 + (wrap64 (t357 * t361)))) > 1099511627776)))) else (if x10_1 = true then (lexer_duration.l0 kj9 a0 (wrap64 (x5_1 + (wrap64 (t354 + (t355.size : Int))))) (mn (wrap64 (x6_1 + (wrap64 (t357 * t361)))) 1099511627776) t356 x8_1 (decide (t356 ≤ x7_1)) true) else (lexer_duration.l0 kj9 a0 (wrap64 (x5_1 + (wrap64 (t354 + (t355.size : Int))))) (mn (wrap64 (x6_1 + (wrap64 (t357 * t361)))) 1099511627776) t356 x8_1 (decide (t356 ≤ x7_1)) (decide ((wrap64 (x6_1 + (wrap64 (t357 * t361)))) > 1099511627776))))))))) else (if x9_1 = true then (lexer_duration.l0 kj9 a0 (wrap64 (x5_1 + (wrap64 (t354 + (t355.size : Int))))) (mn x6_1 1099511627776) t356 x8_1 true true) else (lexer_duration.l0 kj9 a0 (wrap64 (x5_1 + (wrap64 (t354 + (t355.size : Int))))) (mn x6_1 1099511627776) t356 x8_1 (decide (t356 ≤ x7_1)) true))) = some (r1, r2, r3, r4, r5, r6, r7) := H
                            have A39 := Aside0.mk A390
                            clear A390
                            rcases t358 with _ | q359
                            · have H1 : ((lexer_length.f t355).bind fun t360 => (if t360 = 0 then (none) else (if t357 > (wrap64 (Int.tdiv (1099511627776 : Int) t360)) then (if x9_1 = true then (lexer_duration.l0 kj9 a0 (wrap64 (x5_1 + (wrap64 (t354 + (t355.size : Int))))) (mn x6_1 1099511627776) t356 x8_1 true true) else (lexer_duration.l0 kj9 a0 (wrap64 (x5_1 + (wrap64 (t354 + (t355.size : Int))))) (mn x6_1 1099511627776) t356 x8_1 (decide (t356 ≤ x7_1)) true)) else ((lexer_length.f t355).bind fun t361 => (if x9_1 = true then (if x10_1 = true then (lexer_duration.l0 kj9 a0 (wrap64 (x5_1 + (wrap64 (t354 + (t355.size : Int))))) (mn (wrap64 (x6_1 + (wrap64 (t357 * t361)))) 1099511627776) t356 x8_1 true true) else (lexer_duration.l0 kj9 a0 (wrap64 (x5_1 + (wrap64 (t354 + (t355.size : Int))))) (mn (wrap64 (x6_1 + (wrap64 (t357 * t361)))) 1099511627776) t356 x8_1 true (decide ((wrap64 (x6_1 + (wrap64 (t357 * t361)))) > 1099511627776)))) else (if x10_1 = true then (lexer_duration.l0 kj9 a0 (wrap64 (x5_1 + (wrap64 (t354 + (t355.size : Int))))) (mn (wrap64 (x6_1 + (wrap64 (t357 * t361)))) 1099511627776) t356 x8_1 (decide (t356 ≤ x7_1)) true) else (lexer_duration.l0 kj9 a0 (wrap64 (x5_1 + (wrap64 (t354 + (t355.size : Int))))) (mn (wrap64 (x6_1 + (wrap64 (t357 * t361)))) 1099511627776) t356 x8_1 (decide (t356 ≤ x7_1)) (decide ((wrap64 (x6_1 + (wrap64 (t357 * t361)))) > 1099511627776))))))))) = some (r1, r2, r3, r4, r5, r6, r7) := by rw [if_pos (show (none : Option Int).isNone = true by rfl)] at H; exact H
                              clear H
                              have H := H1
                              clear H1
                              try simp only [errW_none, errW_some]
                              replace H := Option.bind_eq_some_iff.mp H
                              obtain ⟨t360, A400, H⟩ := H
                              replace H : (if t360 = 0 then (none) else (if t357 > (wrap64 (Int.tdiv (1099511627776 : Int) t360)) then (if x9_1 = true then (lexer_duration.l0 kj9 a0 (wrap64 (x5_1 + (wrap64 (t354 + (t355.size : Int))))) (mn x6_1 1099511627776) t356 x8_1 true true) else (lexer_duration.l0 kj9 a0 (wrap64 (x5_1 + (wrap64 (t354 + (t355.size : Int))))) (mn x6_1 1099511627776) t356 x8_1 (decide (t356 ≤ x7_1)) true)) else ((lexer_length.f t355).bind fun t361 => (if x9_1 = true then (if x10_1 = true then (lexer_duration.l0 kj9 a0 (wrap64 (x5_1 + (wrap64 (t354 + (t355.size : Int))))) (mn (wrap64 (x6_1 + (wrap64 (t357 * t361)))) 1099511627776) t356 x8_1 true true) else (lexer_duration.l0 kj9 a0 (wrap64 (x5_1 + (wrap64 (t354 + (t355.size : Int))))) (mn (wrap64 (x6_1 + (wrap64 (t357 * t361)))) 1099511627776) t356 x8_1 true (decide ((wrap64 (x6_1 + (wrap64 (t357 * t361)))) > 1099511627776)))) else (if x10_1 = true then (lexer_duration.l0 kj9 a0 (wrap64 (x5_1 + (wrap64 (t354 + (t355.size : Int))))) (mn (wrap64 (x6_1 + (wrap64 (t357 * t361)))) 1099511627776) t356 x8_1 (decide (t356 ≤ x7_1)) true) else (lexer_duration.l0 kj9 a0 (wrap64 (x5_1 + (wrap64 (t354 + (t355.size : Int))))) (mn (wrap64 (x6_1 + (wrap64 (t357 * t361)))) 1099511627776) t356 x8_1 (decide (t356 ≤ x7_1)) (decide ((wrap64 (x6_1 + (wrap64 (t357 * t361)))) > 1099511627776)))))))) = some (r1, r2, r3, r4, r5, r6, r7) := H
                              have A40 := Aside0.mk A400
                              clear A400
                              by_cases c41 : t360 = 0
                              · rw [if_pos c41] at H
                                exact absurd H (by simp)
                              · rw [if_neg c41] at H
                                have c41b0 : (t360 == 0) = false := beq_eq_false_iff_ne.mpr c41
                                have c41b1 : (t360 != 0) = true := bne_iff_ne.mpr c41
                                by_cases c42 : t357 > (wrap64 (Int.tdiv (1099511627776 : Int) t360))
                                · rw [if_pos c42] at H
                                  have c42b0 : decide ((wrap64 (Int.tdiv (1099511627776 : Int) t360)) < t357) = true := decide_eq_true c42
                                  clear c42
                                  by_cases c43 : x9_1 = true
                                  · subst c43
                                    have H1 : (lexer_duration.l0 kj9 a0 (wrap64 (x5_1 + (wrap64 (t354 + (t355.size : Int))))) (mn x6_1 1099511627776) t356 x8_1 true true) = some (r1, r2, r3, r4, r5, r6, r7) := by rw [if_pos rfl] at H; exact H
                                    clear H
                                    have H := H1
                                    clear H1
                                    obtain ⟨ji44, hji44⟩ : ∃ j_ : Int, (mn x6_1 1099511627776) = j_ := ⟨_, rfl⟩
                                    replace H : (lexer_duration.l0 kj9 a0 (wrap64 (x5_1 + (wrap64 (t354 + (t355.size : Int))))) ji44 t356 x8_1 true true) = some (r1, r2, r3, r4, r5, r6, r7) := by first | (rw [hji44] at H; exact H) | (simp only [hji44] at H ⊢; exact H)
                                    (try rw [hji44] at A39)
                                    (try rw [hji44] at A40)
                                    have hji44_ : (if 1099511627776 < x6_1 then 1099511627776 else x6_1) = ji44 := hji44
                                    have H' := Aside0.mk H
                                    clear H
                                    go_wp2_with (first | ((with_reducible refine gate_callee (f := 100) rfl ?_); refine goesL_ (some 44) rfl rfl Tryz.func100 (by kernel_rfl) rfl #[.string (a0.extract (x5_1 : Int).toNat ((wrap64 (x5_1 + t354)) : Int).toNat)] rfl (by (try simp only [List.map_toArray, List.map_cons, List.map_nil]); first | done | rfl | (simp only [List.length_drop, List.length_take]; rfl)) ?_; (with_reducible refine (strconv_Atoi.calls (a0.extract (x5_1 : Int).toNat ((wrap64 (x5_1 + t354)) : Int).toNat) t357 none _ ?side1 A39.out).mono ?_); (case side1 => exact Tabs.below HT.out (by repeat (first | (with_reducible first | exact HB.out | apply below_alloc | apply pw_below_drewN | apply below_drew1 | refine below_set ?_ GE353.out) | exact HB.out))); rintro e w45 ⟨rfl, hb⟩; refine ⟨_, rfl, ?_⟩; have n0_ := Aside0.mk (blk_below (g := gb353) (o := .cells #[.int .i64 0, .string (⟨#[]⟩ : ByteArray), .int .i64 0, .int .i64 0, .int .i64 0] 29 (0, 0)) (by (with_reducible repeat (first | refine blk_drewN ?_ _ | refine blk_drew ?_ | refine blk_alloc ?_ _)); exact BK353.out) hb); have n1_ := Aside0.mk (below_step (by repeat (first | (with_reducible first | exact HB.out | apply below_alloc | apply pw_below_drewN | apply below_drew1 | refine below_set ?_ GE353.out) | exact HB.out)) hb); clear BK353; clear HB; have BK353 := n0_; have HB := n1_; clear n0_ n1_; (try clear hb); (try clear hb2); (try clear hk); (try clear hi); (try simp only [errW_none, errW_some])) | (go_at_call 31; (with_reducible refine (lexer_length.calls t355 t360 _ A40.out).mono ?_); rintro e w' ⟨rfl, ⟨nd, rfl⟩⟩))
                                    go_roundg kj9
                                    case measure => have := HK1.out; have := HJ9.out; omega
                                    case rel => exact ⟨(wrap64 (x5_1 + (wrap64 (t354 + (t355.size : Int))))), (ji44), (t356), (x8_1), (true), (true), (by first | rfl | (simp; done) | (simp [*]; done)), (by first | rfl | (simp; done) | (simp only [← hji44] <;> (first | rfl | simp)) | (simp [*]; done)), (by first | rfl | (simp; done) | (simp [*]; done)), (by first | rfl | (simp; done) | (simp [*]; done)), (by first | rfl | (simp; done) | (simp [*]; done)), (by first | rfl | (simp; done) | (simp [*]; done)), H', ⟨by have := HK1.out; have := HJ9.out; omega⟩, ⟨by (with_reducible repeat (first | refine blk_drewN ?_ _ | refine blk_drew ?_ | refine blk_alloc ?_ _)); exact BK353.out⟩, ⟨by repeat (first | (with_reducible first | exact HB.out | apply below_alloc | apply pw_below_drewN | apply below_drew1 | refine below_set ?_ GE353.out) | exact HB.out)⟩⟩
                                  · replace c43 := Bool.eq_false_iff.mpr c43
                                    subst c43
                                    have H1 : (lexer_duration.l0 kj9 a0 (wrap64 (x5_1 + (wrap64 (t354 + (t355.size : Int))))) (mn x6_1 1099511627776) t356 x8_1 (decide (t356 ≤ x7_1)) true) = some (r1, r2, r3, r4, r5, r6, r7) := by rw [if_neg (show ¬ (false = true) by decide)] at H; exact H
                                    clear H
                                    have H := H1
                                    clear H1
                                    obtain ⟨ji46, hji46⟩ : ∃ j_ : Int, (mn x6_1 1099511627776) = j_ := ⟨_, rfl⟩
                                    replace H : (lexer_duration.l0 kj9 a0 (wrap64 (x5_1 + (wrap64 (t354 + (t355.size : Int))))) ji46 t356 x8_1 (decide (t356 ≤ x7_1)) true) = some (r1, r2, r3, r4, r5, r6, r7) := by first | (rw [hji46] at H; exact H) | (simp only [hji46] at H ⊢; exact H)
                                    (try rw [hji46] at A39)
                                    (try rw [hji46] at A40)
                                    have hji46_ : (if 1099511627776 < x6_1 then 1099511627776 else x6_1) = ji46 := hji46
                                    have H' := Aside0.mk H
                                    clear H
                                    go_wp2_with (first | ((with_reducible refine gate_callee (f := 100) rfl ?_); refine goesL_ (some 44) rfl rfl Tryz.func100 (by kernel_rfl) rfl #[.string (a0.extract (x5_1 : Int).toNat ((wrap64 (x5_1 + t354)) : Int).toNat)] rfl (by (try simp only [List.map_toArray, List.map_cons, List.map_nil]); first | done | rfl | (simp only [List.length_drop, List.length_take]; rfl)) ?_; (with_reducible refine (strconv_Atoi.calls (a0.extract (x5_1 : Int).toNat ((wrap64 (x5_1 + t354)) : Int).toNat) t357 none _ ?side1 A39.out).mono ?_); (case side1 => exact Tabs.below HT.out (by repeat (first | (with_reducible first | exact HB.out | apply below_alloc | apply pw_below_drewN | apply below_drew1 | refine below_set ?_ GE353.out) | exact HB.out))); rintro e w47 ⟨rfl, hb⟩; refine ⟨_, rfl, ?_⟩; have n0_ := Aside0.mk (blk_below (g := gb353) (o := .cells #[.int .i64 0, .string (⟨#[]⟩ : ByteArray), .int .i64 0, .int .i64 0, .int .i64 0] 29 (0, 0)) (by (with_reducible repeat (first | refine blk_drewN ?_ _ | refine blk_drew ?_ | refine blk_alloc ?_ _)); exact BK353.out) hb); have n1_ := Aside0.mk (below_step (by repeat (first | (with_reducible first | exact HB.out | apply below_alloc | apply pw_below_drewN | apply below_drew1 | refine below_set ?_ GE353.out) | exact HB.out)) hb); clear BK353; clear HB; have BK353 := n0_; have HB := n1_; clear n0_ n1_; (try clear hb); (try clear hb2); (try clear hk); (try clear hi); (try simp only [errW_none, errW_some])) | (go_at_call 31; (with_reducible refine (lexer_length.calls t355 t360 _ A40.out).mono ?_); rintro e w' ⟨rfl, ⟨nd, rfl⟩⟩))
                                    go_roundg kj9
                                    case measure => have := HK1.out; have := HJ9.out; omega
                                    case rel => exact ⟨(wrap64 (x5_1 + (wrap64 (t354 + (t355.size : Int))))), (ji46), (t356), (x8_1), (decide (t356 ≤ x7_1)), (true), (by first | rfl | (simp; done) | (simp [*]; done)), (by first | rfl | (simp; done) | (simp only [← hji46] <;> (first | rfl | simp)) | (simp [*]; done)), (by first | rfl | (simp; done) | (simp [*]; done)), (by first | rfl | (simp; done) | (simp [*]; done)), (by first | rfl | (simp; done) | (simp [*]; done)), (by first | rfl | (simp; done) | (simp [*]; done)), H', ⟨by have := HK1.out; have := HJ9.out; omega⟩, ⟨by (with_reducible repeat (first | refine blk_drewN ?_ _ | refine blk_drew ?_ | refine blk_alloc ?_ _)); exact BK353.out⟩, ⟨by repeat (first | (with_reducible first | exact HB.out | apply below_alloc | apply pw_below_drewN | apply below_drew1 | refine below_set ?_ GE353.out) | exact HB.out)⟩⟩
                                · rw [if_neg c42] at H
                                  have c42b0 : decide ((wrap64 (Int.tdiv (1099511627776 : Int) t360)) < t357) = false := decide_eq_false c42
                                  clear c42
                                  replace H := Option.bind_eq_some_iff.mp H
                                  obtain ⟨t361, A480, H⟩ := H
                                  replace H : (if x9_1 = true then (if x10_1 = true then (lexer_duration.l0 kj9 a0 (wrap64 (x5_1 + (wrap64 (t354 + (t355.size : Int))))) (mn (wrap64 (x6_1 + (wrap64 (t357 * t361)))) 1099511627776) t356 x8_1 true true) else (lexer_duration.l0 kj9 a0 (wrap64 (x5_1 + (wrap64 (t354 + (t355.size : Int))))) (mn (wrap64 (x6_1 + (wrap64 (t357 * t361)))) 1099511627776) t356 x8_1 true (decide ((wrap64 (x6_1 + (wrap64 (t357 * t361)))) > 1099511627776)))) else (if x10_1 = true then (lexer_duration.l0 kj9 a0 (wrap64 (x5_1 + (wrap64 (t354 + (t355.size : Int))))) (mn (wrap64 (x6_1 + (wrap64 (t357 * t361)))) 1099511627776) t356 x8_1 (decide (t356 ≤ x7_1)) true) else (lexer_duration.l0 kj9 a0 (wrap64 (x5_1 + (wrap64 (t354 + (t355.size : Int))))) (mn (wrap64 (x6_1 + (wrap64 (t357 * t361)))) 1099511627776) t356 x8_1 (decide (t356 ≤ x7_1)) (decide ((wrap64 (x6_1 + (wrap64 (t357 * t361)))) > 1099511627776))))) = some (r1, r2, r3, r4, r5, r6, r7) := H
                                  have A48 := Aside0.mk A480
                                  clear A480
                                  by_cases c49 : x9_1 = true
                                  · subst c49
                                    have H1 : (if x10_1 = true then (lexer_duration.l0 kj9 a0 (wrap64 (x5_1 + (wrap64 (t354 + (t355.size : Int))))) (mn (wrap64 (x6_1 + (wrap64 (t357 * t361)))) 1099511627776) t356 x8_1 true true) else (lexer_duration.l0 kj9 a0 (wrap64 (x5_1 + (wrap64 (t354 + (t355.size : Int))))) (mn (wrap64 (x6_1 + (wrap64 (t357 * t361)))) 1099511627776) t356 x8_1 true (decide ((wrap64 (x6_1 + (wrap64 (t357 * t361)))) > 1099511627776)))) = some (r1, r2, r3, r4, r5, r6, r7) := by rw [if_pos rfl] at H; exact H
                                    clear H
                                    have H := H1
                                    clear H1
                                    by_cases c50 : x10_1 = true
                                    · subst c50
                                      have H1 : (lexer_duration.l0 kj9 a0 (wrap64 (x5_1 + (wrap64 (t354 + (t355.size : Int))))) (mn (wrap64 (x6_1 + (wrap64 (t357 * t361)))) 1099511627776) t356 x8_1 true true) = some (r1, r2, r3, r4, r5, r6, r7) := by rw [if_pos rfl] at H; exact H
                                      clear H
                                      have H := H1
                                      clear H1
                                      obtain ⟨ji51, hji51⟩ : ∃ j_ : Int, (mn (wrap64 (x6_1 + (wrap64 (t357 * t361)))) 1099511627776) = j_ := ⟨_, rfl⟩
                                      replace H : (lexer_duration.l0 kj9 a0 (wrap64 (x5_1 + (wrap64 (t354 + (t355.size : Int))))) ji51 t356 x8_1 true true) = some (r1, r2, r3, r4, r5, r6, r7) := by first | (rw [hji51] at H; exact H) | (simp only [hji51] at H ⊢; exact H)
                                      (try rw [hji51] at A39)
                                      (try rw [hji51] at A40)
                                      (try rw [hji51] at A48)
                                      have hji51_ : (if 1099511627776 < (wrap64 (x6_1 + (wrap64 (t357 * t361)))) then 1099511627776 else (wrap64 (x6_1 + (wrap64 (t357 * t361))))) = ji51 := hji51
                                      have H' := Aside0.mk H
                                      clear H
                                      go_wp2_with (first | ((with_reducible refine gate_callee (f := 100) rfl ?_); refine goesL_ (some 44) rfl rfl Tryz.func100 (by kernel_rfl) rfl #[.string (a0.extract (x5_1 : Int).toNat ((wrap64 (x5_1 + t354)) : Int).toNat)] rfl (by (try simp only [List.map_toArray, List.map_cons, List.map_nil]); first | done | rfl | (simp only [List.length_drop, List.length_take]; rfl)) ?_; (with_reducible refine (strconv_Atoi.calls (a0.extract (x5_1 : Int).toNat ((wrap64 (x5_1 + t354)) : Int).toNat) t357 none _ ?side1 A39.out).mono ?_); (case side1 => exact Tabs.below HT.out (by repeat (first | (with_reducible first | exact HB.out | apply below_alloc | apply pw_below_drewN | apply below_drew1 | refine below_set ?_ GE353.out) | exact HB.out))); rintro e w52 ⟨rfl, hb⟩; refine ⟨_, rfl, ?_⟩; have n0_ := Aside0.mk (blk_below (g := gb353) (o := .cells #[.int .i64 0, .string (⟨#[]⟩ : ByteArray), .int .i64 0, .int .i64 0, .int .i64 0] 29 (0, 0)) (by (with_reducible repeat (first | refine blk_drewN ?_ _ | refine blk_drew ?_ | refine blk_alloc ?_ _)); exact BK353.out) hb); have n1_ := Aside0.mk (below_step (by repeat (first | (with_reducible first | exact HB.out | apply below_alloc | apply pw_below_drewN | apply below_drew1 | refine below_set ?_ GE353.out) | exact HB.out)) hb); clear BK353; clear HB; have BK353 := n0_; have HB := n1_; clear n0_ n1_; (try clear hb); (try clear hb2); (try clear hk); (try clear hi); (try simp only [errW_none, errW_some])) | (go_at_call 31; (with_reducible refine (lexer_length.calls t355 t360 _ A40.out).mono ?_); rintro e w' ⟨rfl, ⟨nd, rfl⟩⟩) | ((with_reducible refine gate_callee (f := 31) rfl ?_); refine goesL_ (some 59) rfl rfl Tryz.func31 (by kernel_rfl) rfl #[.string t355] rfl (by (try simp only [List.map_toArray, List.map_cons, List.map_nil]); first | done | rfl | (simp only [List.length_drop, List.length_take]; rfl)) ?_; (with_reducible refine (lexer_length.calls t355 t361 _ A48.out).mono ?_); rintro e w' ⟨rfl, ⟨nd, rfl⟩⟩; refine ⟨_, rfl, ?_⟩))
                                      go_roundg kj9
                                      case measure => have := HK1.out; have := HJ9.out; omega
                                      case rel => exact ⟨(wrap64 (x5_1 + (wrap64 (t354 + (t355.size : Int))))), (ji51), (t356), (x8_1), (true), (true), (by first | rfl | (simp; done) | (simp [*]; done)), (by first | rfl | (simp; done) | (simp only [← hji51] <;> (first | rfl | simp)) | (simp [*]; done)), (by first | rfl | (simp; done) | (simp [*]; done)), (by first | rfl | (simp; done) | (simp [*]; done)), (by first | rfl | (simp; done) | (simp [*]; done)), (by first | rfl | (simp; done) | (simp [*]; done)), H', ⟨by have := HK1.out; have := HJ9.out; omega⟩, ⟨by (with_reducible repeat (first | refine blk_drewN ?_ _ | refine blk_drew ?_ | refine blk_alloc ?_ _)); exact BK353.out⟩, ⟨by repeat (first | (with_reducible first | exact HB.out | apply below_alloc | apply pw_below_drewN | apply below_drew1 | refine below_set ?_ GE353.out) | exact HB.out)⟩⟩
                                    · replace c50 := Bool.eq_false_iff.mpr c50
                                      subst c50
                                      have H1 : (lexer_duration.l0 kj9 a0 (wrap64 (x5_1 + (wrap64 (t354 + (t355.size : Int))))) (mn (wrap64 (x6_1 + (wrap64 (t357 * t361)))) 1099511627776) t356 x8_1 true (decide ((wrap64 (x6_1 + (wrap64 (t357 * t361)))) > 1099511627776))) = some (r1, r2, r3, r4, r5, r6, r7) := by rw [if_neg (show ¬ (false = true) by decide)] at H; exact H
                                      clear H
                                      have H := H1
                                      clear H1
                                      obtain ⟨ji53, hji53⟩ : ∃ j_ : Int, (mn (wrap64 (x6_1 + (wrap64 (t357 * t361)))) 1099511627776) = j_ := ⟨_, rfl⟩
                                      replace H : (lexer_duration.l0 kj9 a0 (wrap64 (x5_1 + (wrap64 (t354 + (t355.size : Int))))) ji53 t356 x8_1 true (decide ((wrap64 (x6_1 + (wrap64 (t357 * t361)))) > 1099511627776))) = some (r1, r2, r3, r4, r5, r6, r7) := by first | (rw [hji53] at H; exact H) | (simp only [hji53] at H ⊢; exact H)
                                      (try rw [hji53] at A39)
                                      (try rw [hji53] at A40)
                                      (try rw [hji53] at A48)
                                      have hji53_ : (if 1099511627776 < (wrap64 (x6_1 + (wrap64 (t357 * t361)))) then 1099511627776 else (wrap64 (x6_1 + (wrap64 (t357 * t361))))) = ji53 := hji53
                                      have H' := Aside0.mk H
                                      clear H
                                      go_wp2_with (first | ((with_reducible refine gate_callee (f := 100) rfl ?_); refine goesL_ (some 44) rfl rfl Tryz.func100 (by kernel_rfl) rfl #[.string (a0.extract (x5_1 : Int).toNat ((wrap64 (x5_1 + t354)) : Int).toNat)] rfl (by (try simp only [List.map_toArray, List.map_cons, List.map_nil]); first | done | rfl | (simp only [List.length_drop, List.length_take]; rfl)) ?_; (with_reducible refine (strconv_Atoi.calls (a0.extract (x5_1 : Int).toNat ((wrap64 (x5_1 + t354)) : Int).toNat) t357 none _ ?side1 A39.out).mono ?_); (case side1 => exact Tabs.below HT.out (by repeat (first | (with_reducible first | exact HB.out | apply below_alloc | apply pw_below_drewN | apply below_drew1 | refine below_set ?_ GE353.out) | exact HB.out))); rintro e w54 ⟨rfl, hb⟩; refine ⟨_, rfl, ?_⟩; have n0_ := Aside0.mk (blk_below (g := gb353) (o := .cells #[.int .i64 0, .string (⟨#[]⟩ : ByteArray), .int .i64 0, .int .i64 0, .int .i64 0] 29 (0, 0)) (by (with_reducible repeat (first | refine blk_drewN ?_ _ | refine blk_drew ?_ | refine blk_alloc ?_ _)); exact BK353.out) hb); have n1_ := Aside0.mk (below_step (by repeat (first | (with_reducible first | exact HB.out | apply below_alloc | apply pw_below_drewN | apply below_drew1 | refine below_set ?_ GE353.out) | exact HB.out)) hb); clear BK353; clear HB; have BK353 := n0_; have HB := n1_; clear n0_ n1_; (try clear hb); (try clear hb2); (try clear hk); (try clear hi); (try simp only [errW_none, errW_some])) | (go_at_call 31; (with_reducible refine (lexer_length.calls t355 t360 _ A40.out).mono ?_); rintro e w' ⟨rfl, ⟨nd, rfl⟩⟩) | ((with_reducible refine gate_callee (f := 31) rfl ?_); refine goesL_ (some 59) rfl rfl Tryz.func31 (by kernel_rfl) rfl #[.string t355] rfl (by (try simp only [List.map_toArray, List.map_cons, List.map_nil]); first | done | rfl | (simp only [List.length_drop, List.length_take]; rfl)) ?_; (with_reducible refine (lexer_length.calls t355 t361 _ A48.out).mono ?_); rintro e w' ⟨rfl, ⟨nd, rfl⟩⟩; refine ⟨_, rfl, ?_⟩))
                                      go_roundg kj9
                                      case measure => have := HK1.out; have := HJ9.out; omega
                                      case rel => exact ⟨(wrap64 (x5_1 + (wrap64 (t354 + (t355.size : Int))))), (ji53), (t356), (x8_1), (true), (decide ((wrap64 (x6_1 + (wrap64 (t357 * t361)))) > 1099511627776)), (by first | rfl | (simp; done) | (simp [*]; done)), (by first | rfl | (simp; done) | (simp only [← hji53] <;> (first | rfl | simp)) | (simp [*]; done)), (by first | rfl | (simp; done) | (simp [*]; done)), (by first | rfl | (simp; done) | (simp [*]; done)), (by first | rfl | (simp; done) | (simp [*]; done)), (by first | rfl | (simp; done) | (simp [*]; done)), H', ⟨by have := HK1.out; have := HJ9.out; omega⟩, ⟨by (with_reducible repeat (first | refine blk_drewN ?_ _ | refine blk_drew ?_ | refine blk_alloc ?_ _)); exact BK353.out⟩, ⟨by repeat (first | (with_reducible first | exact HB.out | apply below_alloc | apply pw_below_drewN | apply below_drew1 | refine below_set ?_ GE353.out) | exact HB.out)⟩⟩
                                  · replace c49 := Bool.eq_false_iff.mpr c49
                                    subst c49
                                    have H1 : (if x10_1 = true then (lexer_duration.l0 kj9 a0 (wrap64 (x5_1 + (wrap64 (t354 + (t355.size : Int))))) (mn (wrap64 (x6_1 + (wrap64 (t357 * t361)))) 1099511627776) t356 x8_1 (decide (t356 ≤ x7_1)) true) else (lexer_duration.l0 kj9 a0 (wrap64 (x5_1 + (wrap64 (t354 + (t355.size : Int))))) (mn (wrap64 (x6_1 + (wrap64 (t357 * t361)))) 1099511627776) t356 x8_1 (decide (t356 ≤ x7_1)) (decide ((wrap64 (x6_1 + (wrap64 (t357 * t361)))) > 1099511627776)))) = some (r1, r2, r3, r4, r5, r6, r7) := by rw [if_neg (show ¬ (false = true) by decide)] at H; exact H
                                    clear H
                                    have H := H1
                                    clear H1
                                    by_cases c55 : x10_1 = true
                                    · subst c55
                                      have H1 : (lexer_duration.l0 kj9 a0 (wrap64 (x5_1 + (wrap64 (t354 + (t355.size : Int))))) (mn (wrap64 (x6_1 + (wrap64 (t357 * t361)))) 1099511627776) t356 x8_1 (decide (t356 ≤ x7_1)) true) = some (r1, r2, r3, r4, r5, r6, r7) := by rw [if_pos rfl] at H; exact H
                                      clear H
                                      have H := H1
                                      clear H1
                                      obtain ⟨ji56, hji56⟩ : ∃ j_ : Int, (mn (wrap64 (x6_1 + (wrap64 (t357 * t361)))) 1099511627776) = j_ := ⟨_, rfl⟩
                                      replace H : (lexer_duration.l0 kj9 a0 (wrap64 (x5_1 + (wrap64 (t354 + (t355.size : Int))))) ji56 t356 x8_1 (decide (t356 ≤ x7_1)) true) = some (r1, r2, r3, r4, r5, r6, r7) := by first | (rw [hji56] at H; exact H) | (simp only [hji56] at H ⊢; exact H)
                                      (try rw [hji56] at A39)
                                      (try rw [hji56] at A40)
                                      (try rw [hji56] at A48)
                                      have hji56_ : (if 1099511627776 < (wrap64 (x6_1 + (wrap64 (t357 * t361)))) then 1099511627776 else (wrap64 (x6_1 + (wrap64 (t357 * t361))))) = ji56 := hji56
                                      have H' := Aside0.mk H
                                      clear H
                                      go_wp2_with (first | ((with_reducible refine gate_callee (f := 100) rfl ?_); refine goesL_ (some 44) rfl rfl Tryz.func100 (by kernel_rfl) rfl #[.string (a0.extract (x5_1 : Int).toNat ((wrap64 (x5_1 + t354)) : Int).toNat)] rfl (by (try simp only [List.map_toArray, List.map_cons, List.map_nil]); first | done | rfl | (simp only [List.length_drop, List.length_take]; rfl)) ?_; (with_reducible refine (strconv_Atoi.calls (a0.extract (x5_1 : Int).toNat ((wrap64 (x5_1 + t354)) : Int).toNat) t357 none _ ?side1 A39.out).mono ?_); (case side1 => exact Tabs.below HT.out (by repeat (first | (with_reducible first | exact HB.out | apply below_alloc | apply pw_below_drewN | apply below_drew1 | refine below_set ?_ GE353.out) | exact HB.out))); rintro e w57 ⟨rfl, hb⟩; refine ⟨_, rfl, ?_⟩; have n0_ := Aside0.mk (blk_below (g := gb353) (o := .cells #[.int .i64 0, .string (⟨#[]⟩ : ByteArray), .int .i64 0, .int .i64 0, .int .i64 0] 29 (0, 0)) (by (with_reducible repeat (first | refine blk_drewN ?_ _ | refine blk_drew ?_ | refine blk_alloc ?_ _)); exact BK353.out) hb); have n1_ := Aside0.mk (below_step (by repeat (first | (with_reducible first | exact HB.out | apply below_alloc | apply pw_below_drewN | apply below_drew1 | refine below_set ?_ GE353.out) | exact HB.out)) hb); clear BK353; clear HB; have BK353 := n0_; have HB := n1_; clear n0_ n1_; (try clear hb); (try clear hb2); (try clear hk); (try clear hi); (try simp only [errW_none, errW_some])) | (go_at_call 31; (with_reducible refine (lexer_length.calls t355 t360 _ A40.out).mono ?_); rintro e w' ⟨rfl, ⟨nd, rfl⟩⟩) | ((with_reducible refine gate_callee (f := 31) rfl ?_); refine goesL_ (some 59) rfl rfl Tryz.func31 (by kernel_rfl) rfl #[.string t355] rfl (by (try simp only [List.map_toArray, List.map_cons, List.map_nil]); first | done | rfl | (simp only [List.length_drop, List.length_take]; rfl)) ?_; (with_reducible refine (lexer_length.calls t355 t361 _ A48.out).mono ?_); rintro e w' ⟨rfl, ⟨nd, rfl⟩⟩; refine ⟨_, rfl, ?_⟩))
                                      go_roundg kj9
                                      case measure => have := HK1.out; have := HJ9.out; omega
                                      case rel => exact ⟨(wrap64 (x5_1 + (wrap64 (t354 + (t355.size : Int))))), (ji56), (t356), (x8_1), (decide (t356 ≤ x7_1)), (true), (by first | rfl | (simp; done) | (simp [*]; done)), (by first | rfl | (simp; done) | (simp only [← hji56] <;> (first | rfl | simp)) | (simp [*]; done)), (by first | rfl | (simp; done) | (simp [*]; done)), (by first | rfl | (simp; done) | (simp [*]; done)), (by first | rfl | (simp; done) | (simp [*]; done)), (by first | rfl | (simp; done) | (simp [*]; done)), H', ⟨by have := HK1.out; have := HJ9.out; omega⟩, ⟨by (with_reducible repeat (first | refine blk_drewN ?_ _ | refine blk_drew ?_ | refine blk_alloc ?_ _)); exact BK353.out⟩, ⟨by repeat (first | (with_reducible first | exact HB.out | apply below_alloc | apply pw_below_drewN | apply below_drew1 | refine below_set ?_ GE353.out) | exact HB.out)⟩⟩
                                    · replace c55 := Bool.eq_false_iff.mpr c55
                                      subst c55
                                      have H1 : (lexer_duration.l0 kj9 a0 (wrap64 (x5_1 + (wrap64 (t354 + (t355.size : Int))))) (mn (wrap64 (x6_1 + (wrap64 (t357 * t361)))) 1099511627776) t356 x8_1 (decide (t356 ≤ x7_1)) (decide ((wrap64 (x6_1 + (wrap64 (t357 * t361)))) > 1099511627776))) = some (r1, r2, r3, r4, r5, r6, r7) := by rw [if_neg (show ¬ (false = true) by decide)] at H; exact H
                                      clear H
                                      have H := H1
                                      clear H1
                                      obtain ⟨ji58, hji58⟩ : ∃ j_ : Int, (mn (wrap64 (x6_1 + (wrap64 (t357 * t361)))) 1099511627776) = j_ := ⟨_, rfl⟩
                                      replace H : (lexer_duration.l0 kj9 a0 (wrap64 (x5_1 + (wrap64 (t354 + (t355.size : Int))))) ji58 t356 x8_1 (decide (t356 ≤ x7_1)) (decide ((wrap64 (x6_1 + (wrap64 (t357 * t361)))) > 1099511627776))) = some (r1, r2, r3, r4, r5, r6, r7) := by first | (rw [hji58] at H; exact H) | (simp only [hji58] at H ⊢; exact H)
                                      (try rw [hji58] at A39)
                                      (try rw [hji58] at A40)
                                      (try rw [hji58] at A48)
                                      have hji58_ : (if 1099511627776 < (wrap64 (x6_1 + (wrap64 (t357 * t361)))) then 1099511627776 else (wrap64 (x6_1 + (wrap64 (t357 * t361))))) = ji58 := hji58
                                      have H' := Aside0.mk H
                                      clear H
                                      go_wp2_with (first | ((with_reducible refine gate_callee (f := 100) rfl ?_); refine goesL_ (some 44) rfl rfl Tryz.func100 (by kernel_rfl) rfl #[.string (a0.extract (x5_1 : Int).toNat ((wrap64 (x5_1 + t354)) : Int).toNat)] rfl (by (try simp only [List.map_toArray, List.map_cons, List.map_nil]); first | done | rfl | (simp only [List.length_drop, List.length_take]; rfl)) ?_; (with_reducible refine (strconv_Atoi.calls (a0.extract (x5_1 : Int).toNat ((wrap64 (x5_1 + t354)) : Int).toNat) t357 none _ ?side1 A39.out).mono ?_); (case side1 => exact Tabs.below HT.out (by repeat (first | (with_reducible first | exact HB.out | apply below_alloc | apply pw_below_drewN | apply below_drew1 | refine below_set ?_ GE353.out) | exact HB.out))); rintro e w59 ⟨rfl, hb⟩; refine ⟨_, rfl, ?_⟩; have n0_ := Aside0.mk (blk_below (g := gb353) (o := .cells #[.int .i64 0, .string (⟨#[]⟩ : ByteArray), .int .i64 0, .int .i64 0, .int .i64 0] 29 (0, 0)) (by (with_reducible repeat (first | refine blk_drewN ?_ _ | refine blk_drew ?_ | refine blk_alloc ?_ _)); exact BK353.out) hb); have n1_ := Aside0.mk (below_step (by repeat (first | (with_reducible first | exact HB.out | apply below_alloc | apply pw_below_drewN | apply below_drew1 | refine below_set ?_ GE353.out) | exact HB.out)) hb); clear BK353; clear HB; have BK353 := n0_; have HB := n1_; clear n0_ n1_; (try clear hb); (try clear hb2); (try clear hk); (try clear hi); (try simp only [errW_none, errW_some])) | (go_at_call 31; (with_reducible refine (lexer_length.calls t355 t360 _ A40.out).mono ?_); rintro e w' ⟨rfl, ⟨nd, rfl⟩⟩) | ((with_reducible refine gate_callee (f := 31) rfl ?_); refine goesL_ (some 59) rfl rfl Tryz.func31 (by kernel_rfl) rfl #[.string t355] rfl (by (try simp only [List.map_toArray, List.map_cons, List.map_nil]); first | done | rfl | (simp only [List.length_drop, List.length_take]; rfl)) ?_; (with_reducible refine (lexer_length.calls t355 t361 _ A48.out).mono ?_); rintro e w' ⟨rfl, ⟨nd, rfl⟩⟩; refine ⟨_, rfl, ?_⟩))
                                      go_roundg kj9
                                      case measure => have := HK1.out; have := HJ9.out; omega
                                      case rel => exact ⟨(wrap64 (x5_1 + (wrap64 (t354 + (t355.size : Int))))), (ji58), (t356), (x8_1), (decide (t356 ≤ x7_1)), (decide ((wrap64 (x6_1 + (wrap64 (t357 * t361)))) > 1099511627776)), (by first | rfl | (simp; done) | (simp [*]; done)), (by first | rfl | (simp; done) | (simp only [← hji58] <;> (first | rfl | simp)) | (simp [*]; done)), (by first | rfl | (simp; done) | (simp [*]; done)), (by first | rfl | (simp; done) | (simp [*]; done)), (by first | rfl | (simp; done) | (simp [*]; done)), (by first | rfl | (simp; done) | (simp [*]; done)), H', ⟨by have := HK1.out; have := HJ9.out; omega⟩, ⟨by (with_reducible repeat (first | refine blk_drewN ?_ _ | refine blk_drew ?_ | refine blk_alloc ?_ _)); exact BK353.out⟩, ⟨by repeat (first | (with_reducible first | exact HB.out | apply below_alloc | apply pw_below_drewN | apply below_drew1 | refine below_set ?_ GE353.out) | exact HB.out)⟩⟩
                            · have H1 : (if x9_1 = true then (lexer_duration.l0 kj9 a0 (wrap64 (x5_1 + (wrap64 (t354 + (t355.size : Int))))) (mn x6_1 1099511627776) t356 x8_1 true true) else (lexer_duration.l0 kj9 a0 (wrap64 (x5_1 + (wrap64 (t354 + (t355.size : Int))))) (mn x6_1 1099511627776) t356 x8_1 (decide (t356 ≤ x7_1)) true)) = some (r1, r2, r3, r4, r5, r6, r7) := by rw [if_neg (show ¬ (some q359).isNone = true by simp)] at H; exact H
                              clear H
                              have H := H1
                              clear H1
                              try simp only [errW_none, errW_some]
                              by_cases c60 : x9_1 = true
                              · subst c60
                                have H1 : (lexer_duration.l0 kj9 a0 (wrap64 (x5_1 + (wrap64 (t354 + (t355.size : Int))))) (mn x6_1 1099511627776) t356 x8_1 true true) = some (r1, r2, r3, r4, r5, r6, r7) := by rw [if_pos rfl] at H; exact H
                                clear H
                                have H := H1
                                clear H1
                                obtain ⟨ji61, hji61⟩ : ∃ j_ : Int, (mn x6_1 1099511627776) = j_ := ⟨_, rfl⟩
                                replace H : (lexer_duration.l0 kj9 a0 (wrap64 (x5_1 + (wrap64 (t354 + (t355.size : Int))))) ji61 t356 x8_1 true true) = some (r1, r2, r3, r4, r5, r6, r7) := by first | (rw [hji61] at H; exact H) | (simp only [hji61] at H ⊢; exact H)
                                (try rw [hji61] at A39)
                                have hji61_ : (if 1099511627776 < x6_1 then 1099511627776 else x6_1) = ji61 := hji61
                                have H' := Aside0.mk H
                                clear H
                                go_wp2_with (first | ((with_reducible refine gate_callee (f := 100) rfl ?_); refine goesL_ (some 44) rfl rfl Tryz.func100 (by kernel_rfl) rfl #[.string (a0.extract (x5_1 : Int).toNat ((wrap64 (x5_1 + t354)) : Int).toNat)] rfl (by (try simp only [List.map_toArray, List.map_cons, List.map_nil]); first | done | rfl | (simp only [List.length_drop, List.length_take]; rfl)) ?_; (with_reducible refine (strconv_Atoi.calls (a0.extract (x5_1 : Int).toNat ((wrap64 (x5_1 + t354)) : Int).toNat) t357 (some q359) _ ?side1 A39.out).mono ?_); (case side1 => exact Tabs.below HT.out (by repeat (first | (with_reducible first | exact HB.out | apply below_alloc | apply pw_below_drewN | apply below_drew1 | refine below_set ?_ GE353.out) | exact HB.out))); rintro e w62 ⟨rfl, hb⟩; refine ⟨_, rfl, ?_⟩; have n0_ := Aside0.mk (blk_below (g := gb353) (o := .cells #[.int .i64 0, .string (⟨#[]⟩ : ByteArray), .int .i64 0, .int .i64 0, .int .i64 0] 29 (0, 0)) (by (with_reducible repeat (first | refine blk_drewN ?_ _ | refine blk_drew ?_ | refine blk_alloc ?_ _)); exact BK353.out) hb); have n1_ := Aside0.mk (below_step (by repeat (first | (with_reducible first | exact HB.out | apply below_alloc | apply pw_below_drewN | apply below_drew1 | refine below_set ?_ GE353.out) | exact HB.out)) hb); clear BK353; clear HB; have BK353 := n0_; have HB := n1_; clear n0_ n1_; (try clear hb); (try clear hb2); (try clear hk); (try clear hi); (try simp only [errW_none, errW_some])))
                                go_roundg kj9
                                case measure => have := HK1.out; have := HJ9.out; omega
                                case rel => exact ⟨(wrap64 (x5_1 + (wrap64 (t354 + (t355.size : Int))))), (ji61), (t356), (x8_1), (true), (true), (by first | rfl | (simp; done) | (simp [*]; done)), (by first | rfl | (simp; done) | (simp only [← hji61] <;> (first | rfl | simp)) | (simp [*]; done)), (by first | rfl | (simp; done) | (simp [*]; done)), (by first | rfl | (simp; done) | (simp [*]; done)), (by first | rfl | (simp; done) | (simp [*]; done)), (by first | rfl | (simp; done) | (simp [*]; done)), H', ⟨by have := HK1.out; have := HJ9.out; omega⟩, ⟨by (with_reducible repeat (first | refine blk_drewN ?_ _ | refine blk_drew ?_ | refine blk_alloc ?_ _)); exact BK353.out⟩, ⟨by repeat (first | (with_reducible first | exact HB.out | apply below_alloc | apply pw_below_drewN | apply below_drew1 | refine below_set ?_ GE353.out) | exact HB.out)⟩⟩
                              · replace c60 := Bool.eq_false_iff.mpr c60
                                subst c60
                                have H1 : (lexer_duration.l0 kj9 a0 (wrap64 (x5_1 + (wrap64 (t354 + (t355.size : Int))))) (mn x6_1 1099511627776) t356 x8_1 (decide (t356 ≤ x7_1)) true) = some (r1, r2, r3, r4, r5, r6, r7) := by rw [if_neg (show ¬ (false = true) by decide)] at H; exact H
                                clear H
                                have H := H1
                                clear H1
                                obtain ⟨ji63, hji63⟩ : ∃ j_ : Int, (mn x6_1 1099511627776) = j_ := ⟨_, rfl⟩
                                replace H : (lexer_duration.l0 kj9 a0 (wrap64 (x5_1 + (wrap64 (t354 + (t355.size : Int))))) ji63 t356 x8_1 (decide (t356 ≤ x7_1)) true) = some (r1, r2, r3, r4, r5, r6, r7) := by first | (rw [hji63] at H; exact H) | (simp only [hji63] at H ⊢; exact H)
                                (try rw [hji63] at A39)
                                have hji63_ : (if 1099511627776 < x6_1 then 1099511627776 else x6_1) = ji63 := hji63
                                have H' := Aside0.mk H
                                clear H
                                go_wp2_with (first | ((with_reducible refine gate_callee (f := 100) rfl ?_); refine goesL_ (some 44) rfl rfl Tryz.func100 (by kernel_rfl) rfl #[.string (a0.extract (x5_1 : Int).toNat ((wrap64 (x5_1 + t354)) : Int).toNat)] rfl (by (try simp only [List.map_toArray, List.map_cons, List.map_nil]); first | done | rfl | (simp only [List.length_drop, List.length_take]; rfl)) ?_; (with_reducible refine (strconv_Atoi.calls (a0.extract (x5_1 : Int).toNat ((wrap64 (x5_1 + t354)) : Int).toNat) t357 (some q359) _ ?side1 A39.out).mono ?_); (case side1 => exact Tabs.below HT.out (by repeat (first | (with_reducible first | exact HB.out | apply below_alloc | apply pw_below_drewN | apply below_drew1 | refine below_set ?_ GE353.out) | exact HB.out))); rintro e w64 ⟨rfl, hb⟩; refine ⟨_, rfl, ?_⟩; have n0_ := Aside0.mk (blk_below (g := gb353) (o := .cells #[.int .i64 0, .string (⟨#[]⟩ : ByteArray), .int .i64 0, .int .i64 0, .int .i64 0] 29 (0, 0)) (by (with_reducible repeat (first | refine blk_drewN ?_ _ | refine blk_drew ?_ | refine blk_alloc ?_ _)); exact BK353.out) hb); have n1_ := Aside0.mk (below_step (by repeat (first | (with_reducible first | exact HB.out | apply below_alloc | apply pw_below_drewN | apply below_drew1 | refine below_set ?_ GE353.out) | exact HB.out)) hb); clear BK353; clear HB; have BK353 := n0_; have HB := n1_; clear n0_ n1_; (try clear hb); (try clear hb2); (try clear hk); (try clear hi); (try simp only [errW_none, errW_some])))
                                go_roundg kj9
                                case measure => have := HK1.out; have := HJ9.out; omega
                                case rel => exact ⟨(wrap64 (x5_1 + (wrap64 (t354 + (t355.size : Int))))), (ji63), (t356), (x8_1), (decide (t356 ≤ x7_1)), (true), (by first | rfl | (simp; done) | (simp [*]; done)), (by first | rfl | (simp; done) | (simp only [← hji63] <;> (first | rfl | simp)) | (simp [*]; done)), (by first | rfl | (simp; done) | (simp [*]; done)), (by first | rfl | (simp; done) | (simp [*]; done)), (by first | rfl | (simp; done) | (simp [*]; done)), (by first | rfl | (simp; done) | (simp [*]; done)), H', ⟨by have := HK1.out; have := HJ9.out; omega⟩, ⟨by (with_reducible repeat (first | refine blk_drewN ?_ _ | refine blk_drew ?_ | refine blk_alloc ?_ _)); exact BK353.out⟩, ⟨by repeat (first | (with_reducible first | exact HB.out | apply below_alloc | apply pw_below_drewN | apply below_drew1 | refine below_set ?_ GE353.out) | exact HB.out)⟩⟩
                          · rw [if_neg c38] at H
                            exact absurd H (by simp)
                        · rw [if_neg c37] at H
                          exact absurd H (by simp)
                      · rw [if_neg c36] at H
                        exact absurd H (by simp)
            · rw [if_neg c8] at H
              exact absurd H (by simp)
          · rw [if_neg c7] at H
            exact absurd H (by simp)
        · rw [if_neg c4] at H
          exact absurd H (by simp)
      · rw [if_neg c3] at H
        exact absurd H (by simp)
end Go.Proofs.YteokilkcchdeiaaGreatDoor.Q
end
section
namespace Go.Proofs.YteokilkcchdeiaaGreatDoor.X
open Go.RowKit Go.Proofs.YteokilkcchdeiaaGreatDoor Go.Proofs.YteokilkcchdeiaaGreatDoorW.PrintWords Go.Proofs.YteokilkcchdeiaaGreatDoorW.PrintLast Go.Proofs.YteokilkcchdeiaaGreatDoorW.PrintMore Go.Proofs.YteokilkcchdeiaaGreatDoor.Q
set_option linter.unusedVariables false
def ratio_wide_fit.f (hi lo : Int) : Option Int := if hi = 0 ∧ 0 ≤ lo ∧ lo ≤ 1152921504606846976 then some lo else none
theorem ratio_wide_fit.calls (a0_0 a0_1 : Int) (r : Int) (w : World) (h : ratio_wide_fit.f a0_0 a0_1 = some r) :
    Calls Tryz.prog 141 #[.agg #[.int .u64 a0_0, .int .u64 a0_1]] w fun e w' => e = .returned (.int .i64 r) ∧ Below w.heap.size w w' := by
  have hu := Tryz.underlying154
  unfold ratio_wide_fit.f at h
  split at h
  · rename_i hc
    obtain ⟨rfl, h0, h1⟩ := hc
    obtain rfl := Option.some.inj h
    have hd : decide (1152921504606846976 < a0_1) = false := decide_eq_false (by omega)
    clear h
    go_enter Tryz.func141, Tryz.ntmps141
    go_wp2
    go_ret
    exact ⟨rfl, by repeat (first | exact Below.refl _ _ | apply below_alloc | apply below_drew1 | apply pw_below_drewN)⟩
  · cases h
end Go.Proofs.YteokilkcchdeiaaGreatDoor.X
end
