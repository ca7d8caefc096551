/- What the proofs of the lexer's laws share, part 4 of 7. -/
import Derived.Test.YteokilkcchdeiaaGreatDoorU1
import Derived.Test.YteokilkcchdeiaaGreatDoorU2
import Derived.RangeFuncNested
import Derived.RangeFuncBound
import Derived.RangeFuncCalls
import Derived.RangeFuncLeaves
import Derived.Shelf.Abstract
import Derived.OwnWalkIn
import Derived.TacticsInMore
import Derived.LoopNIn
import Derived.LoopIn
import Derived.Maps.AppendAt
import Derived.RegionIn
import Derived.Lib.PathFns
import Derived.Lib.IndexEntry
import Derived.Test.YteokilkcchdeiaaGreatDoorU3
import Derived.Lib.AtoiBound
import Derived.Lib.Replace
import Derived.Lib.ReplaceLaws
import Derived.Lib.SplitLaws
set_option linter.unusedVariables false
set_option linter.unusedSimpArgs false
section
namespace Go.Proofs.YteokilkcchdeiaaGreatDoor.Q
open Go.Proofs.YteokilkcchdeiaaGreatDoor
open Go.Proofs.YteokilkcchdeiaaGreatDoor.X
open Go.RowKit Go.Proofs.YteokilkcchdeiaaGreatDoorW.PrintWords Go.Proofs.YteokilkcchdeiaaGreatDoorW.PrintLast Go.Proofs.YteokilkcchdeiaaGreatDoorW.PrintMore
attribute [local go_sem] max2_int min2_int max_two min_two max_three min_three max_four min_four   -- for this text's walks alone
def lexer_sign.l0 : Nat → ByteArray → List ByteArray → Int → Int → Option (Int × ByteArray × Int × Int × Int × Int × Int)
 | 0, _, _, _, _ => none
 | k + 1, x0, x9, x10, x11 => if x11 < x10 then (if 0 ≤ x11 then (if x11 < (x9.length : Int) then ((strings_HasPrefix.f x0 (rdOf ByteArray.empty x9 x11)).bind fun t381 => (if t381 = true then (some (5, rdOf ByteArray.empty x9 x11, 0, 0, 0, ((rdOf ByteArray.empty x9 x11).size : Int), 0)) else (lexer_sign.l0 k x0 x9 x10 (wrap64 (x11 + 1))))) else (none)) else (none)) else (some (0, (⟨#[]⟩ : ByteArray), 0, 0, 0, 0, 0))
def lexer_sign.f (k : Nat) (a0 : ByteArray) : Option (Int × ByteArray × Int × Int × Int × Int × Int) := (strings_Fields.f (⟨#[61, 61, 32, 33, 61, 32, 60, 61, 32, 62, 61, 32, 61, 126, 32, 33, 126, 32, 38, 38, 32, 124, 124, 32, 62, 62, 32, 124, 61, 32, 124, 126, 32, 45, 62, 32, 61, 62, 32, 40, 32, 41, 32, 123, 32, 125, 32, 91, 32, 93, 32, 44, 32, 46, 32, 58, 32, 59, 32, 43, 32, 45, 32, 42, 32, 47, 32, 37, 32, 60, 32, 62, 32, 61, 32, 33, 32, 124, 32, 38, 32, 126, 32, 64, 32, 94, 32, 63]⟩ : ByteArray)).bind fun t377 => (lexer_sign.l0 k a0 t377 (t377.length : Int) 0)
set_option maxHeartbeats 8000000 in
set_option maxRecDepth 100000 in
theorem lexer_sign.calls (k : Nat) (a0 : ByteArray) (r1 : Int) (r2 : ByteArray) (r3 : Int) (r4 : Int) (r5 : Int) (r6 : Int) (r7 : Int) (w : World) (hT : Tabs w) (h : lexer_sign.f k a0 = some (r1, r2, r3, r4, r5, r6, r7)) :
  Calls Tryz.prog 72 #[.string a0] w fun e w' => e = .returned (.tuple #[.agg #[.int .i64 r1, .string r2, .int .i64 r3, .int .i64 r4, .int .i64 r5], .int .i64 r6, .int .i64 r7]) ∧ Below w.heap.size w w' := by
 have hu29 := Tryz.underlying29
 have HT := Aside0.mk hT
 clear hT
 have HB := Aside0.mk (Below.refl w.heap.size w)
 have H : ((strings_Fields.f (⟨#[61, 61, 32, 33, 61, 32, 60, 61, 32, 62, 61, 32, 61, 126, 32, 33, 126, 32, 38, 38, 32, 124, 124, 32, 62, 62, 32, 124, 61, 32, 124, 126, 32, 45, 62, 32, 61, 62, 32, 40, 32, 41, 32, 123, 32, 125, 32, 91, 32, 93, 32, 44, 32, 46, 32, 58, 32, 59, 32, 43, 32, 45, 32, 42, 32, 47, 32, 37, 32, 60, 32, 62, 32, 61, 32, 33, 32, 124, 32, 38, 32, 126, 32, 64, 32, 94, 32, 63]⟩ : ByteArray)).bind fun t377 => (lexer_sign.l0 k a0 t377 (t377.length : Int) 0)) = some (r1, r2, r3, r4, r5, r6, r7) := h
 clear h
 replace H := Option.bind_eq_some_iff.mp H
 obtain ⟨t377, A20, H⟩ := H
 replace H : (lexer_sign.l0 k a0 t377 (t377.length : Int) 0) = some (r1, r2, r3, r4, r5, r6, r7) := H
 have A2 := Aside0.mk A20
 clear A20
 have H' := Aside0.mk H
 clear H
 go_enter Tryz.func72, Tryz.ntmps72
 go_wp2_with (first | ((with_reducible refine gate_dst (N := 2) rfl ?_); refine box_event ?hg (N := 2) ?hd (cs := #[.int .i64 0, .string (⟨#[]⟩ : ByteArray), .int .i64 0, .int .i64 0, .int .i64 0]) (t := 29) ?hr ?_; (case hd => rfl); (case hg => rfl); (case hr => first | (go_simp; done) | (go_simp; rfl)); intro gb376 hg w3 hbox hb; have n0_ := Aside0.mk (below_step (by repeat (first | (with_reducible first | exact HB.out | apply below_alloc | apply pw_below_drewN | apply below_drew1) | exact HB.out)) hb); have n1_ := Aside0.mk (hbox); have n2_ := Aside0.mk ((by rw [hg]; exact (below_size (by repeat (first | (with_reducible first | exact HB.out | apply below_alloc | apply pw_below_drewN | apply below_drew1) | exact HB.out))) : w.heap.size ≤ gb376)); have n3_ := Aside0.mk ((by rw [hg]; exact (below_size (by repeat (first | (with_reducible first | exact HB.out | apply below_alloc | apply pw_below_drewN | apply below_drew1) | exact HB.out))) : w.heap.size ≤ gb376)); clear HB; have HB := n0_; have BK376 := n1_; have GW376 := n2_; have GE376 := n3_; clear n0_ n1_ n2_ n3_; clear hb hbox hg) | ((with_reducible refine gate_callee (f := 30) rfl ?_); refine goesL_ (some 9) rfl rfl Tryz.func30 (by kernel_rfl) rfl #[.string (⟨#[61, 61, 32, 33, 61, 32, 60, 61, 32, 62, 61, 32, 61, 126, 32, 33, 126, 32, 38, 38, 32, 124, 124, 32, 62, 62, 32, 124, 61, 32, 124, 126, 32, 45, 62, 32, 61, 62, 32, 40, 32, 41, 32, 123, 32, 125, 32, 91, 32, 93, 32, 44, 32, 46, 32, 58, 32, 59, 32, 43, 32, 45, 32, 42, 32, 47, 32, 37, 32, 60, 32, 62, 32, 61, 32, 33, 32, 124, 32, 38, 32, 126, 32, 64, 32, 94, 32, 63]⟩ : ByteArray)] rfl (by (try simp only [List.map_toArray, List.map_cons, List.map_nil]); first | done | rfl | (simp only [List.length_drop, List.length_take]; rfl)) ?_; (with_reducible refine (strings_Fields.calls (⟨#[61, 61, 32, 33, 61, 32, 60, 61, 32, 62, 61, 32, 61, 126, 32, 33, 126, 32, 38, 38, 32, 124, 124, 32, 62, 62, 32, 124, 61, 32, 124, 126, 32, 45, 62, 32, 61, 62, 32, 40, 32, 41, 32, 123, 32, 125, 32, 91, 32, 93, 32, 44, 32, 46, 32, 58, 32, 59, 32, 43, 32, 45, 32, 42, 32, 47, 32, 37, 32, 60, 32, 62, 32, 61, 32, 33, 32, 124, 32, 38, 32, 126, 32, 64, 32, 94, 32, 63]⟩ : ByteArray) t377 _ ?side1 A2.out).mono ?_); (case side1 => exact Tabs.below HT.out (by repeat (first | (with_reducible first | exact HB.out | apply below_alloc | apply pw_below_drewN | apply below_drew1 | refine below_set ?_ GE376.out) | exact HB.out))); rintro e w4 ⟨v378, rfl, ho0, hb⟩; refine ⟨_, rfl, ?_⟩; have n0_ := Aside0.mk (Kd.R_lower ho0 (below_size (by repeat (first | (with_reducible first | exact HB.out | apply below_alloc | apply pw_below_drewN | apply below_drew1 | refine below_set ?_ GE376.out) | exact HB.out)))); have n1_ := Aside0.mk (blk_below (g := gb376) (o := .cells #[.int .i64 0, .string (⟨#[]⟩ : ByteArray), .int .i64 0, .int .i64 0, .int .i64 0] 29 (0, 0)) (by (with_reducible repeat (first | refine blk_drewN ?_ _ | refine blk_drew ?_ | refine blk_alloc ?_ _)); exact BK376.out) hb); have n2_ := Aside0.mk (below_step (by repeat (first | (with_reducible first | exact HB.out | apply below_alloc | apply pw_below_drewN | apply below_drew1 | refine below_set ?_ GE376.out) | exact HB.out)) hb); clear BK376; clear HB; have HO379 := n0_; have BK376 := n1_; have HB := n2_; clear n0_ n1_ n2_; (try clear hb); (try clear hb2); (try clear hk); (try clear hi); (try clear ho0); obtain ⟨Ao5, co5, eo5⟩ := Kd.R_slice HO379.out; subst eo5))
 go_loopg [11] k (fun kq v11 w' => ∃ (x11_1 : Int) (x377000_1 : Int) (x377001_1 : ByteArray) (x377002_1 : Int) (x377003_1 : Int) (x377004_1 : Int), v11 = .int .i64 x11_1 ∧ Aside0 (lexer_sign.l0 kq a0 t377 (t377.length : Int) x11_1 = some (r1, r2, r3, r4, r5, r6, r7)) ∧ Aside0 (kq ≤ k) ∧ Aside0 (Kd.R Kd.string 9 w' w.heap.size (fun _ => True) (.slice Ao5 t377.length co5) t377) ∧ Aside0 (w'.heap[gb376]? = some (.cells #[.int .i64 x377000_1, .string x377001_1, .int .i64 x377002_1, .int .i64 x377003_1, .int .i64 x377004_1] 29 (0, 0))) ∧ Aside0 (Below w.heap.size w w'))
 case atStart => exact ⟨(0), (0), ((⟨#[]⟩ : ByteArray)), (0), (0), (0), (by first | rfl | (simp; done) | (simp [*]; done)), H', ⟨Nat.le_refl _⟩, ⟨by (with_reducible repeat (first | apply Kd.R_alloc | apply Kd.R_drewN | apply Kd.R_drew)); exact HO379.out⟩, ⟨by (with_reducible repeat (first | refine blk_drewN ?_ _ | refine blk_drew ?_ | refine blk_alloc ?_ _)); exact BK376.out⟩, ⟨by repeat (first | (with_reducible first | exact HB.out | apply below_alloc | apply pw_below_drewN | apply below_drew1 | refine below_set ?_ GE376.out) | exact HB.out)⟩⟩
 case round =>
  clear H'; (try clear p2); (try clear c3)
  obtain ⟨x11_1, x377000_1, x377001_1, x377002_1, x377003_1, x377004_1, rfl, HA, HK1, HO_9, BK376, HB⟩ := hrel
  cases gk with
  | zero => exact absurd HA.out (by simp [lexer_sign.l0])
  | succ k1 =>
   have H := HA.out
   clear HA
   simp only [lexer_sign.l0] at H
   by_cases c6 : x11_1 < (t377.length : Int)
   ·
    rw [if_pos c6] at H
    have c6b0 : decide (x11_1 < (t377.length : Int)) = true := decide_eq_true c6
    clear c6
    by_cases c7 : 0 ≤ x11_1
    ·
     rw [if_pos c7] at H
     have c7b0 : decide (0 ≤ x11_1) = true := decide_eq_true c7
     clear c7
     by_cases c8 : x11_1 < (t377.length : Int)
     ·
      rw [if_pos c8] at H
      have c8b0 : decide (x11_1 < (t377.length : Int)) = true := decide_eq_true c8
      clear c8
      replace H := Option.bind_eq_some_iff.mp H
      obtain ⟨t381, A90, H⟩ := H
      replace H : (if t381 = true then (some (5, rdOf ByteArray.empty t377 x11_1, 0, 0, 0, ((rdOf ByteArray.empty t377 x11_1).size : Int), 0)) else (lexer_sign.l0 k1 a0 t377 (t377.length : Int) (wrap64 (x11_1 + 1)))) = some (r1, r2, r3, r4, r5, r6, r7) := H
      have A9 := Aside0.mk A90
      clear A90
      by_cases c10 : t381 = true
      ·
       subst c10
       have H1 : (some (5, rdOf ByteArray.empty t377 x11_1, 0, 0, 0, ((rdOf ByteArray.empty t377 x11_1).size : Int), 0)) = some (r1, r2, r3, r4, r5, r6, r7) := by rw [if_pos rfl] at H; exact H
       clear H
       have H := H1
       clear H1
       simp only [Option.some.injEq, Prod.mk.injEq] at H
       obtain ⟨rfl, rfl, rfl, rfl, rfl, rfl, rfl⟩ := H
       have p380 : 0 ≤ (x11_1 : Int) := of_decide_eq_true (by first | (with_reducible assumption) | assumption)
       have q380 : x11_1 < (t377.length : Int) := of_decide_eq_true (by first | (with_reducible assumption) | assumption)
       obtain ⟨ad380, e380, hx380_0⟩ := Kd.at_string (Kd.R_reads' HO_9.out).2.2 x11_1 p380 q380
       cases e380
       replace p380 := eq_true p380
       replace q380 := eq_true q380
       go_wp2_with (first | ((with_reducible refine gate_callee (f := 28) rfl ?_); refine goesL_ (some 17) rfl rfl Tryz.func28 (by kernel_rfl) rfl #[.string a0, .string (rdOf ByteArray.empty t377 x11_1)] rfl (by (try simp only [List.map_toArray, List.map_cons, List.map_nil]); first | done | rfl | (simp only [List.length_drop, List.length_take]; rfl)) ?_; (with_reducible refine (strings_HasPrefix.calls a0 (rdOf ByteArray.empty t377 x11_1) true _ A9.out).mono ?_); rintro e w' ⟨rfl, ⟨nd, rfl⟩⟩; refine ⟨_, rfl, ?_⟩; (try (rw [drewN_self wr]; generalize hq_ : World.drewN wr _ = wr; have n0_ : Aside0 (Kd.R Kd.string 9 wr w.heap.size (fun _ => True) (.slice (some ad380) t377.length co5) t377) := ⟨by rw [← hq_]; exact (by (with_reducible repeat (first | apply Kd.R_alloc | apply Kd.R_drewN | apply Kd.R_drew)); exact HO_9.out)⟩; have n1_ : Aside0 (wr.heap[gb376]? = some (.cells #[.int .i64 x377000_1, .string x377001_1, .int .i64 x377002_1, .int .i64 x377003_1, .int .i64 x377004_1] 29 (0, 0))) := ⟨by rw [← hq_]; exact (by (with_reducible repeat (first | refine blk_drewN ?_ _ | refine blk_drew ?_ | refine blk_alloc ?_ _)); exact BK376.out)⟩; have n2_ : Aside0 (Below w.heap.size w wr) := ⟨by rw [← hq_]; exact (by repeat (first | (with_reducible first | exact HB.out | apply below_alloc | apply pw_below_drewN | apply below_drew1 | refine below_set ?_ GE376.out) | exact HB.out))⟩; clear HO_9 BK376 HB hq_; have HO_9 := n0_; have BK376 := n1_; have HB := n2_; clear n0_ n1_ n2_)); have hcz11_0 : wr.cell? ⟨gb376, 0, none⟩ = some (.int .i64 x377000_1) := (blk_cell BK376.out 0).trans rfl; have hcz11_1 : wr.cell? ⟨gb376, 1, none⟩ = some (.string x377001_1) := (blk_cell BK376.out 1).trans rfl; have hcz11_2 : wr.cell? ⟨gb376, 2, none⟩ = some (.int .i64 x377002_1) := (blk_cell BK376.out 2).trans rfl; have hcz11_3 : wr.cell? ⟨gb376, 3, none⟩ = some (.int .i64 x377003_1) := (blk_cell BK376.out 3).trans rfl; have hcz11_4 : wr.cell? ⟨gb376, 4, none⟩ = some (.int .i64 x377004_1) := (blk_cell BK376.out 4).trans rfl; have hfz11_0 := blk_frozen BK376.out 0; have hfz11_1 := blk_frozen BK376.out 1; have hfz11_2 := blk_frozen BK376.out 2; have hfz11_3 := blk_frozen BK376.out 3; have hfz11_4 := blk_frozen BK376.out 4))
       refine bodyPost_ret (results_ctt rfl _ _ gb376 29 #[.int .i64 5, .string (rdOf ByteArray.empty t377 x11_1), .int .i64 0, .int .i64 0, .int .i64 0] (0, 0) _ rfl (by (with_reducible repeat (first | refine blk_drewN ?_ _ | refine blk_drew ?_ | refine blk_alloc ?_ _)); refine blk_put (cs := #[.int .i64 5, .string (rdOf ByteArray.empty t377 x11_1), .int .i64 0, .int .i64 0, .int .i64 x377004_1]) ?_ 4 _ rfl; (with_reducible repeat (first | refine blk_drewN ?_ _ | refine blk_drew ?_ | refine blk_alloc ?_ _)); refine blk_put (cs := #[.int .i64 5, .string (rdOf ByteArray.empty t377 x11_1), .int .i64 0, .int .i64 x377003_1, .int .i64 x377004_1]) ?_ 3 _ rfl; (with_reducible repeat (first | refine blk_drewN ?_ _ | refine blk_drew ?_ | refine blk_alloc ?_ _)); refine blk_put (cs := #[.int .i64 5, .string (rdOf ByteArray.empty t377 x11_1), .int .i64 x377002_1, .int .i64 x377003_1, .int .i64 x377004_1]) ?_ 2 _ rfl; (with_reducible repeat (first | refine blk_drewN ?_ _ | refine blk_drew ?_ | refine blk_alloc ?_ _)); refine blk_put (cs := #[.int .i64 5, .string x377001_1, .int .i64 x377002_1, .int .i64 x377003_1, .int .i64 x377004_1]) ?_ 1 _ rfl; (with_reducible repeat (first | refine blk_drewN ?_ _ | refine blk_drew ?_ | refine blk_alloc ?_ _)); refine blk_put (cs := #[.int .i64 x377000_1, .string x377001_1, .int .i64 x377002_1, .int .i64 x377003_1, .int .i64 x377004_1]) ?_ 0 _ rfl; (with_reducible repeat (first | refine blk_drewN ?_ _ | refine blk_drew ?_ | refine blk_alloc ?_ _)); exact BK376.out) Tryz.underlying29 rfl (by kernel_rfl)) rfl ?_
       exact ⟨by first | rfl | (simp [errW_none, errW_some] <;> rfl) | (simp [*, errW_none, errW_some] <;> rfl), by repeat (first | (with_reducible first | exact HB.out | apply below_alloc | apply pw_below_drewN | apply below_drew1 | refine below_set ?_ GE376.out) | exact HB.out)⟩
      ·
       replace c10 := Bool.eq_false_iff.mpr c10
       subst c10
       have H1 : (lexer_sign.l0 k1 a0 t377 (t377.length : Int) (wrap64 (x11_1 + 1))) = some (r1, r2, r3, r4, r5, r6, r7) := by rw [if_neg (show ¬ (false = true) by decide)] at H; exact H
       clear H
       have H := H1
       clear H1
       have H' := Aside0.mk H
       clear H
       have p380 : 0 ≤ (x11_1 : Int) := of_decide_eq_true (by first | (with_reducible assumption) | assumption)
       have q380 : x11_1 < (t377.length : Int) := of_decide_eq_true (by first | (with_reducible assumption) | assumption)
       obtain ⟨ad380, e380, hx380_0⟩ := Kd.at_string (Kd.R_reads' HO_9.out).2.2 x11_1 p380 q380
       cases e380
       replace p380 := eq_true p380
       replace q380 := eq_true q380
       go_wp2_with (first | ((with_reducible refine gate_callee (f := 28) rfl ?_); refine goesL_ (some 17) rfl rfl Tryz.func28 (by kernel_rfl) rfl #[.string a0, .string (rdOf ByteArray.empty t377 x11_1)] rfl (by (try simp only [List.map_toArray, List.map_cons, List.map_nil]); first | done | rfl | (simp only [List.length_drop, List.length_take]; rfl)) ?_; (with_reducible refine (strings_HasPrefix.calls a0 (rdOf ByteArray.empty t377 x11_1) false _ A9.out).mono ?_); rintro e w' ⟨rfl, ⟨nd, rfl⟩⟩; refine ⟨_, rfl, ?_⟩))
       go_roundg k1
       case measure => have := HK1.out; omega
       case rel => exact ⟨(wrap64 (x11_1 + 1)), (x377000_1), (x377001_1), (x377002_1), (x377003_1), (x377004_1), (by first | rfl | (simp; done) | (simp [*]; done)), H', ⟨by have := HK1.out; omega⟩, ⟨by (with_reducible repeat (first | apply Kd.R_alloc | apply Kd.R_drewN | apply Kd.R_drew)); exact HO_9.out⟩, ⟨by (with_reducible repeat (first | refine blk_drewN ?_ _ | refine blk_drew ?_ | refine blk_alloc ?_ _)); exact BK376.out⟩, ⟨by repeat (first | (with_reducible first | exact HB.out | apply below_alloc | apply pw_below_drewN | apply below_drew1 | refine below_set ?_ GE376.out) | exact HB.out)⟩⟩
     ·
      rw [if_neg c8] at H
      exact absurd H (by simp)
    ·
     rw [if_neg c7] at H
     exact absurd H (by simp)
   ·
    rw [if_neg c6] at H
    have c6b0 : decide (x11_1 < (t377.length : Int)) = false := decide_eq_false c6
    clear c6
    simp only [Option.some.injEq, Prod.mk.injEq] at H
    obtain ⟨rfl, rfl, rfl, rfl, rfl, rfl, rfl⟩ := H
    have hcz12_0 : wr.cell? ⟨gb376, 0, none⟩ = some (.int .i64 x377000_1) := (blk_cell BK376.out 0).trans rfl
    have hcz12_1 : wr.cell? ⟨gb376, 1, none⟩ = some (.string x377001_1) := (blk_cell BK376.out 1).trans rfl
    have hcz12_2 : wr.cell? ⟨gb376, 2, none⟩ = some (.int .i64 x377002_1) := (blk_cell BK376.out 2).trans rfl
    have hcz12_3 : wr.cell? ⟨gb376, 3, none⟩ = some (.int .i64 x377003_1) := (blk_cell BK376.out 3).trans rfl
    have hcz12_4 : wr.cell? ⟨gb376, 4, none⟩ = some (.int .i64 x377004_1) := (blk_cell BK376.out 4).trans rfl
    have hfz12_0 := blk_frozen BK376.out 0
    have hfz12_1 := blk_frozen BK376.out 1
    have hfz12_2 := blk_frozen BK376.out 2
    have hfz12_3 := blk_frozen BK376.out 3
    have hfz12_4 := blk_frozen BK376.out 4
    go_wp2
    refine bodyPost_ret (results_ctt rfl _ _ gb376 29 #[.int .i64 0, .string (⟨#[]⟩ : ByteArray), .int .i64 0, .int .i64 0, .int .i64 0] (0, 0) _ rfl (by (with_reducible repeat (first | refine blk_drewN ?_ _ | refine blk_drew ?_ | refine blk_alloc ?_ _)); refine blk_put (cs := #[.int .i64 0, .string (⟨#[]⟩ : ByteArray), .int .i64 0, .int .i64 0, .int .i64 x377004_1]) ?_ 4 _ rfl; (with_reducible repeat (first | refine blk_drewN ?_ _ | refine blk_drew ?_ | refine blk_alloc ?_ _)); refine blk_put (cs := #[.int .i64 0, .string (⟨#[]⟩ : ByteArray), .int .i64 0, .int .i64 x377003_1, .int .i64 x377004_1]) ?_ 3 _ rfl; (with_reducible repeat (first | refine blk_drewN ?_ _ | refine blk_drew ?_ | refine blk_alloc ?_ _)); refine blk_put (cs := #[.int .i64 0, .string (⟨#[]⟩ : ByteArray), .int .i64 x377002_1, .int .i64 x377003_1, .int .i64 x377004_1]) ?_ 2 _ rfl; (with_reducible repeat (first | refine blk_drewN ?_ _ | refine blk_drew ?_ | refine blk_alloc ?_ _)); refine blk_put (cs := #[.int .i64 0, .string x377001_1, .int .i64 x377002_1, .int .i64 x377003_1, .int .i64 x377004_1]) ?_ 1 _ rfl; (with_reducible repeat (first | refine blk_drewN ?_ _ | refine blk_drew ?_ | refine blk_alloc ?_ _)); refine blk_put (cs := #[.int .i64 x377000_1, .string x377001_1, .int .i64 x377002_1, .int .i64 x377003_1, .int .i64 x377004_1]) ?_ 0 _ rfl; (with_reducible repeat (first | refine blk_drewN ?_ _ | refine blk_drew ?_ | refine blk_alloc ?_ _)); exact BK376.out) Tryz.underlying29 rfl (by kernel_rfl)) rfl ?_
    exact ⟨by first | rfl | (simp [errW_none, errW_some] <;> rfl) | (simp [*, errW_none, errW_some] <;> rfl), by repeat (first | (with_reducible first | exact HB.out | apply below_alloc | apply pw_below_drewN | apply below_drew1 | refine below_set ?_ GE376.out) | exact HB.out)⟩
end Go.Proofs.YteokilkcchdeiaaGreatDoor.Q
end
section
namespace Go.Proofs.YteokilkcchdeiaaGreatDoor.X
open Go.RowKit Go.Proofs.YteokilkcchdeiaaGreatDoor Go.Proofs.YteokilkcchdeiaaGreatDoorW.PrintWords Go.Proofs.YteokilkcchdeiaaGreatDoorW.PrintLast Go.Proofs.YteokilkcchdeiaaGreatDoorW.PrintMore Go.Proofs.YteokilkcchdeiaaGreatDoor.Q
def textGo : List UInt8 → Int → List UInt8 → List UInt8 × Int × Int
  | [], i, _ => ([], i, 3)
  | [c], i, acc => if c = 34 then (acc, i + 1, 0) else if c = 10 then ([], i, 3) else if c = 92 then ([], i + 1, 3) else ([], i + 1, 3)
  | c :: d :: l, i, acc => if c = 34 then (acc, i + 1, 0) else if c = 10 then ([], i, 3)
      else if c = 92 then (if d = 110 then textGo l (i + 2) (acc ++ [10]) else if d = 92 ∨ d = 34 then textGo l (i + 2) (acc ++ [d]) else ([], i + 1, 3))
      else textGo (d :: l) (i + 1) (acc ++ [c])
theorem textGo_quote (l : List UInt8) (i : Int) (acc : List UInt8) : textGo (34 :: l) i acc = (acc, i + 1, 0) := by
  cases l <;> simp [textGo]
theorem textGo_line (l : List UInt8) (i : Int) (acc : List UInt8) : textGo (10 :: l) i acc = ([], i, 3) := by
  cases l <;> simp [textGo]
theorem textGo_other (c : UInt8) (l : List UInt8) (i : Int) (acc : List UInt8) (h1 : c ≠ 34) (h2 : c ≠ 10) (h3 : c ≠ 92) : textGo (c :: l) i acc = textGo l (i + 1) (acc ++ [c]) := by
  cases l <;> simp [textGo, h1, h2, h3]
theorem textGo_n (l : List UInt8) (i : Int) (acc : List UInt8) : textGo (92 :: 110 :: l) i acc = textGo l (i + 2) (acc ++ [10]) := by simp [textGo]
theorem textGo_esc (d : UInt8) (l : List UInt8) (i : Int) (acc : List UInt8) (h : d = 92 ∨ d = 34) : textGo (92 :: d :: l) i acc = textGo l (i + 2) (acc ++ [d]) := by
  rcases h with rfl | rfl <;> simp [textGo]
theorem textGo_bad (d : UInt8) (l : List UInt8) (i : Int) (acc : List UInt8) (h1 : d ≠ 110) (h2 : d ≠ 92) (h3 : d ≠ 34) : textGo (92 :: d :: l) i acc = ([], i + 1, 3) := by simp [textGo, h1, h2, h3]
theorem textGo_bad_end (i : Int) (acc : List UInt8) : textGo [92] i acc = ([], i + 1, 3) := by simp [textGo]
def textR (p : List UInt8 × Int × Int) : Int × ByteArray × Int × Int × Int × Int × Int := if p.2.2 = 0 then (4, ⟨p.1.toArray⟩, 0, 0, 0, p.2.1, 0) else (0, ⟨#[]⟩, 0, 0, 0, p.2.1, p.2.2)
theorem textR_bad (i : Int) : textR ([], i, 3) = (0, ⟨#[]⟩, 0, 0, 0, i, 3) := rfl
theorem textR_ok (l : List UInt8) (i : Int) : textR (l, i, 0) = (4, ⟨l.toArray⟩, 0, 0, 0, i, 0) := rfl
def lexer_text.f (s : ByteArray) : Option (Int × ByteArray × Int × Int × Int × Int × Int) :=
  if s.size ≤ 60000000000000 then some (if s.data.toList.headD 0 = 34 then textR (textGo (s.data.toList.drop 1) 1 []) else (0, ⟨#[]⟩, 0, 0, 0, 0, 0)) else none
theorem drop_cons (s : ByteArray) (k : Nat) (h : k < s.size) : s.data.toList.drop k = s[k] :: s.data.toList.drop (k + 1) := by
  rw [List.drop_eq_getElem_cons (by rw [tl_size]; exact h)]; rfl
theorem drop_end (s : ByteArray) (k : Nat) (h : s.size ≤ k) : s.data.toList.drop k = [] := List.drop_eq_nil_of_le (by rw [tl_size]; exact h)
theorem box_put5 {w : World} {g : Nat} {t : TypeId} {a b c d e : Value} (h : w.heap[g]? = some (.cells #[a, b, c, d, e] t (0, 0))) (a' b' c' d' e' : Value) :
    (((((w.setCell ⟨g, 0, none⟩ a').setCell ⟨g, 1, none⟩ b').setCell ⟨g, 2, none⟩ c').setCell ⟨g, 3, none⟩ d').setCell ⟨g, 4, none⟩ e').heap[g]? = some (.cells #[a', b', c', d', e'] t (0, 0)) :=
  blk_put (blk_put (blk_put (blk_put (blk_put h 0 a' rfl) 1 b' rfl) 2 c' rfl) 3 d' rfl) 4 e' rfl
theorem box_cells5 {w : World} {g : Nat} {t : TypeId} {a b c d e : Value} (h : w.heap[g]? = some (.cells #[a, b, c, d, e] t (0, 0))) :
    (w.cell? ⟨g, 0, none⟩ = some a ∧ w.cell? ⟨g, 1, none⟩ = some b ∧ w.cell? ⟨g, 2, none⟩ = some c ∧ w.cell? ⟨g, 3, none⟩ = some d ∧ w.cell? ⟨g, 4, none⟩ = some e) ∧
    (w.frozen? ⟨g, 0, none⟩ = false ∧ w.frozen? ⟨g, 1, none⟩ = false ∧ w.frozen? ⟨g, 2, none⟩ = false ∧ w.frozen? ⟨g, 3, none⟩ = false ∧ w.frozen? ⟨g, 4, none⟩ = false) := by
  refine ⟨⟨(blk_cell h 0).trans rfl, (blk_cell h 1).trans rfl, (blk_cell h 2).trans rfl, (blk_cell h 3).trans rfl, (blk_cell h 4).trans rfl⟩, ?_⟩
  exact ⟨blk_frozen h 0, blk_frozen h 1, blk_frozen h 2, blk_frozen h 3, blk_frozen h 4⟩
theorem bu_fresh {B g : Nat} {w : World} (h : w.heap[g]? = some (.cells #[.pointer none, .slice none 0 0] 54 (0, 0))) (hB : B ≤ g) : Bu B g [] w :=
  Or.inl ⟨hB, .slice none 0 0, h, World.ownsRow_nil _ _ _ _, by simp [Value.ownBlock]⟩
theorem byte_eq {c d : UInt8} (h : c = d) : ((c.toNat : Int) == (d.toNat : Int)) = true := by rw [h]; exact beq_self_eq_true _
theorem byte_ne {c d : UInt8} (h : ¬ c = d) : ((c.toNat : Int) == (d.toNat : Int)) = false := beq_eq_false_iff_ne.2 (fun e => h (UInt8.toNat_inj.1 (by omega)))
theorem head_at (s : ByteArray) (h : 0 < s.size) : s.data.toList.headD 0 = s[0] := by
  have h2 := drop_cons s 0 h
  rw [List.drop_zero] at h2
  rw [h2]; rfl
abbrev zTok : Obj := .cells #[.int .i64 0, .string ⟨#[]⟩, .int .i64 0, .int .i64 0, .int .i64 0] 29 (0, 0)
theorem below_put5 {B : Nat} {w0 w : World} (h : Below B w0 w) {g : Nat} (hg : B ≤ g) (a' b' c' d' e' : Value) :
    Below B w0 (((((w.setCell ⟨g, 0, none⟩ a').setCell ⟨g, 1, none⟩ b').setCell ⟨g, 2, none⟩ c').setCell ⟨g, 3, none⟩ d').setCell ⟨g, 4, none⟩ e') :=
  ((((h.setCell hg _).setCell hg _).setCell hg _).setCell hg _).setCell hg _
set_option maxHeartbeats 4000000 in
set_option maxRecDepth 100000 in
theorem lexer_text.calls (a0 : ByteArray) (r1 : Int) (r2 : ByteArray) (r3 r4 r5 r6 r7 : Int) (w : World) (h : lexer_text.f a0 = some (r1, r2, r3, r4, r5, r6, r7)) :
    Calls Tryz.prog 71 #[.string a0] w fun e w' => e = .returned (.tuple #[.agg #[.int .i64 r1, .string r2, .int .i64 r3, .int .i64 r4, .int .i64 r5], .int .i64 r6, .int .i64 r7]) ∧ Below w.heap.size w w' := by
  have hu := Tryz.underlying29
  unfold lexer_text.f at h
  split at h
  · rename_i hs
    have h := Option.some.inj h
    by_cases he : a0.size = 0
    · -- nothing
      have hl : a0.data.toList = [] := List.eq_nil_of_length_eq_zero (by rw [tl_size]; exact he)
      rw [if_neg (by rw [hl]; decide)] at h
      simp only [Prod.mk.injEq] at h
      obtain ⟨rfl, rfl, rfl, rfl, rfl, rfl, rfl⟩ := h
      have hb : a0.toList = [] := by rw [Lib.toList_data]; exact hl
      have hb2 : (!a0.toList.isEmpty) = false := by rw [hb]; rfl
      clear hl he
      go_enter Tryz.func71, Tryz.ntmps71
      go_wp2_with (first | ((with_reducible refine gate_dst (N := 2) rfl ?_); refine box_event ?hg (N := 2) ?hd (cs := #[.int .i64 0, .string (⟨#[]⟩ : ByteArray), .int .i64 0, .int .i64 0, .int .i64 0]) (t := 29) ?hr ?_; (case hd => rfl); (case hg => rfl); (case hr => first | (go_simp; done) | (go_simp; rfl)); intro g1 hg1 w3 hbox hb; have HX := Aside0.mk hbox; have HB := Aside0.mk hb; have HG := Aside0.mk hg1; have hsz := blk_lt hbox; obtain ⟨⟨z0, z1, z2, z3, z4⟩, y0, y1, y2, y3, y4⟩ := box_cells5 hbox; clear hbox hb hg1))
      refine bodyPost_ret (results_ctt rfl _ _ g1 29 #[.int .i64 0, .string ⟨#[]⟩, .int .i64 0, .int .i64 0, .int .i64 0] (0, 0) _ rfl (box_put5 HX.out _ _ _ _ _) Tryz.underlying29 rfl (by kernel_rfl)) rfl ?_
      exact ⟨rfl, below_put5 HB.out (by have h_ := HG.out; omega) _ _ _ _ _⟩
    have hb : a0.toList.isEmpty = false := by
      rw [Lib.toList_data]
      cases hq : a0.data.toList with
      | nil => exact absurd (by rw [← tl_size, hq]; rfl) he
      | cons c l => rfl
    have hb3 : ¬ a0.toList = [] := fun e => by rw [e] at hb; cases hb
    cases hq : a0.data.toList.headD 0 == 34
    · -- it begins otherwise
      have hq2 : ¬ a0.data.toList.headD 0 = 34 := by simpa using hq
      rw [if_neg hq2] at h
      simp only [Prod.mk.injEq] at h
      obtain ⟨rfl, rfl, rfl, rfl, rfl, rfl, rfl⟩ := h
      have hpos : 0 < a0.size := by omega
      have hb0 : ((a0[0].toNat : Int) == 34) = false := byte_ne (fun e => hq2 ((head_at a0 hpos).trans e))
      have hb1 : ((a0[0].toNat : Int) != 34) = true := by rw [bne, hb0]; rfl
      clear hq hq2 he
      go_enter Tryz.func71, Tryz.ntmps71
      go_wp2_with (first | ((with_reducible refine gate_dst (N := 2) rfl ?_); refine box_event ?hg (N := 2) ?hd (cs := #[.int .i64 0, .string (⟨#[]⟩ : ByteArray), .int .i64 0, .int .i64 0, .int .i64 0]) (t := 29) ?hr ?_; (case hd => rfl); (case hg => rfl); (case hr => first | (go_simp; done) | (go_simp; rfl)); intro g1 hg1 w3 hbox hb; have HX := Aside0.mk hbox; have HB := Aside0.mk hb; have HG := Aside0.mk hg1; have hsz := blk_lt hbox; obtain ⟨⟨z0, z1, z2, z3, z4⟩, y0, y1, y2, y3, y4⟩ := box_cells5 hbox; clear hbox hb hg1))
      refine bodyPost_ret (results_ctt rfl _ _ g1 29 #[.int .i64 0, .string ⟨#[]⟩, .int .i64 0, .int .i64 0, .int .i64 0] (0, 0) _ rfl (box_put5 HX.out _ _ _ _ _) Tryz.underlying29 rfl (by kernel_rfl)) rfl ?_
      exact ⟨rfl, below_put5 HB.out (by have h_ := HG.out; omega) _ _ _ _ _⟩
    have hq2 : a0.data.toList.headD 0 = 34 := by simpa using hq
    rw [if_pos hq2] at h
    have hpos : 0 < a0.size := by omega
    have hb0 : ((a0[0].toNat : Int) == 34) = true := byte_eq ((head_at a0 hpos).symm.trans hq2)
    have hb1 : ((a0[0].toNat : Int) != 34) = false := by rw [bne, hb0]; rfl
    have H := Aside0.mk h
    clear h hq hq2 he
    go_enter Tryz.func71, Tryz.ntmps71
    go_wp2_with (first | ((with_reducible refine gate_dst (N := 2) rfl ?_); refine box_event ?hg (N := 2) ?hd (cs := #[.int .i64 0, .string (⟨#[]⟩ : ByteArray), .int .i64 0, .int .i64 0, .int .i64 0]) (t := 29) ?hr ?_; (case hd => rfl); (case hg => rfl); (case hr => first | (go_simp; done) | (go_simp; rfl)); intro g1 hg1 w3 hbox hb; have HX := Aside0.mk hbox; have HB := Aside0.mk hb; have HG := Aside0.mk hg1; have hsz := blk_lt hbox; clear hbox hb hg1) | ((with_reducible refine gate_dst (N := 5) rfl ?_); refine box_event ?hg (N := 5) ?hd (cs := #[.pointer none, .slice none 0 0]) (t := 54) ?hr ?_; (case hd => rfl); (case hg => rfl); (case hr => first | (go_simp; done) | (go_simp; rfl)); intro g2 hg2 w5 hbox hb; have HF0 := Aside0.mk (bu_fresh (B := g1 + 1) hbox (by omega)); have HX0 := Aside0.mk (blk_below HX.out hb); have HB0 := Aside0.mk (below_step HB.out hb); have hsz0 := hb.size; clear hbox hb hg2 HX HB))
    clear hb0 hb1 hb hb3
    go_loopw [6] (fun i wr => ∃ (k : Nat) (acc : List UInt8), 1 ≤ k ∧ k ≤ a0.size ∧ acc.length ≤ k ∧ i = .int .i64 k ∧ Aside0 (textR (textGo (a0.data.toList.drop k) k acc) = (r1, r2, r3, r4, r5, r6, r7)) ∧ Aside0 (Bu (g1 + 1) g2 acc wr) ∧ Aside0 (Below w.heap.size w wr) ∧ Aside0 (wr.heap[g1]? = some zTok) ∧ g1 + 1 ≤ wr.heap.size) (fun i _ => a0.size - (intOf i).toNat)
    case atStart => exact ⟨1, [], by omega, by omega, by simp, rfl, H, HF0, HB0, HX0, by omega⟩
    case round =>
      clear HF0 HB0 HX0 H hsz0
      clear hsz
      obtain ⟨k, acc, hk1, hk, hacc, rfl, H, HF, HB, HX, hsz⟩ := hrel
      by_cases hlt : k < a0.size
      · have HD := Aside0.mk (drop_cons a0 k hlt)
        by_cases h34 : a0[k] = 34
        · -- the end
          have b34 : ((a0[k].toNat : Int) == 34) = true := byte_eq h34
          have h := H.out
          rw [HD.out, h34, textGo_quote, textR_ok] at h
          simp only [Prod.mk.injEq] at h
          obtain ⟨rfl, rfl, rfl, rfl, rfl, rfl, rfl⟩ := h
          clear H h34
          have HR := fun W (h : Bu (g1 + 1) g2 acc W) hb => bstr (g1 + 1) g2 acc W h hb
          go_wp2_with fail
          refine (HR _ HF.out hsz).mono ?_
          rintro e w4 ⟨rfl, hB⟩
          have HX4 := Aside0.mk ((hB.block g1 (by omega)).trans HX.out)
          have HB4 := Aside0.mk (HB.out.trans (hB.mono (by rw [HG.out]; omega)))
          clear hB HR
          obtain ⟨⟨z0, z1, z2, z3, z4⟩, y0, y1, y2, y3, y4⟩ := box_cells5 HX4.out
          go_wp2
          refine bodyPost_ret (results_ctt rfl _ _ g1 29 #[.int .i64 4, .string ⟨acc.toArray⟩, .int .i64 0, .int .i64 0, .int .i64 0] (0, 0) _ rfl (box_put5 HX4.out _ _ _ _ _) Tryz.underlying29 rfl (by kernel_rfl)) rfl ?_
          exact ⟨rfl, below_put5 HB4.out (by have h_ := HG.out; omega) _ _ _ _ _⟩
        have b34 : ((a0[k].toNat : Int) == 34) = false := byte_ne h34
        by_cases h10 : a0[k] = 10
        · have b10 : ((a0[k].toNat : Int) == 10) = true := byte_eq h10
          have h := H.out
          rw [HD.out, h10, textGo_line, textR_bad] at h
          simp only [Prod.mk.injEq] at h
          obtain ⟨rfl, rfl, rfl, rfl, rfl, rfl, rfl⟩ := h
          clear H h34 h10
          obtain ⟨⟨z0, z1, z2, z3, z4⟩, y0, y1, y2, y3, y4⟩ := box_cells5 HX.out
          go_wp2
          refine bodyPost_ret (results_ctt rfl _ _ g1 29 #[.int .i64 0, .string ⟨#[]⟩, .int .i64 0, .int .i64 0, .int .i64 0] (0, 0) _ rfl (box_put5 HX.out _ _ _ _ _) Tryz.underlying29 rfl (by kernel_rfl)) rfl ?_
          exact ⟨rfl, below_put5 HB.out (by have h_ := HG.out; omega) _ _ _ _ _⟩
        have b10 : ((a0[k].toNat : Int) == 10) = false := byte_ne h10
        by_cases h92 : a0[k] = 92
        · have b92 : ((a0[k].toNat : Int) == 92) = true := byte_eq h92
          by_cases hl2 : k + 1 < a0.size
          · have HD2 := Aside0.mk (drop_cons a0 (k + 1) hl2)
            have gl2 : decide ((k : Int) + 1 < (a0.size : Int)) = true := decide_eq_true (by omega)
            by_cases h110 : a0[k + 1] = 110
            · have c110 : ((a0[k + 1].toNat : Int) == 110) = true := byte_eq h110
              have H2 : Aside0 (textR (textGo (a0.data.toList.drop (k + 2)) ((k + 2 : Nat) : Int) (acc ++ [10])) = (r1, r2, r3, r4, r5, r6, r7)) := ⟨by rw [← H.out, HD.out, h92, HD2.out, h110, textGo_n]; rfl⟩
              clear h34 h10 h92 h110
              go_wp2_with fail
              refine (wbyte (g1 + 1) g2 acc (10) _ rfl _ HF.out (by omega) hsz).mono ?_
              rintro e w2 ⟨rfl, hF, hB⟩
              have HF2 := Aside0.mk hF
              have HX2 := Aside0.mk ((hB.block g1 (by omega)).trans HX.out)
              have HB2 := Aside0.mk (HB.out.trans (hB.mono (by rw [HG.out]; omega)))
              have hsz2 : g1 + 1 ≤ w2.heap.size := Nat.le_trans hsz hB.size
              clear hF hB
              go_wp2
              go_roundw
              case rel => exact ⟨k + 2, _, by omega, by omega, by rw [List.length_append]; simp; omega, by go_num, H2, HF2, HB2, HX2, hsz2⟩
              case measure => simp [intOf]; omega
            have c110 : ((a0[k + 1].toNat : Int) == 110) = false := byte_ne h110
            by_cases hesc : a0[k + 1] = 92 ∨ a0[k + 1] = 34
            · have H2 : Aside0 (textR (textGo (a0.data.toList.drop (k + 2)) ((k + 2 : Nat) : Int) (acc ++ [a0[k + 1]])) = (r1, r2, r3, r4, r5, r6, r7)) := ⟨by rw [← H.out, HD.out, h92, HD2.out, textGo_esc _ _ _ _ hesc]; rfl⟩
              clear h34 h10 h92 h110
              by_cases e92 : a0[k + 1] = 92
              · have c92 : ((a0[k + 1].toNat : Int) == 92) = true := byte_eq e92
                have HE := Aside0.mk e92
                clear e92 hesc
                go_wp2_with fail
                refine (wbyte (g1 + 1) g2 acc (a0[k + 1]) _ rfl _ HF.out (by omega) hsz).mono ?_
                rintro e w2 ⟨rfl, hF, hB⟩
                have HF2 := Aside0.mk hF
                have HX2 := Aside0.mk ((hB.block g1 (by omega)).trans HX.out)
                have HB2 := Aside0.mk (HB.out.trans (hB.mono (by rw [HG.out]; omega)))
                have hsz2 : g1 + 1 ≤ w2.heap.size := Nat.le_trans hsz hB.size
                clear hF hB
                go_wp2
                go_roundw
                case rel => exact ⟨k + 2, _, by omega, by omega, by rw [List.length_append]; simp; omega, by go_num, H2, HF2, HB2, HX2, hsz2⟩
                case measure => simp [intOf]; omega
              · have c92 : ((a0[k + 1].toNat : Int) == 92) = false := byte_ne e92
                have c34 : ((a0[k + 1].toNat : Int) == 34) = true := byte_eq (hesc.resolve_left e92)
                clear e92 hesc
                go_wp2_with fail
                refine (wbyte (g1 + 1) g2 acc (a0[k + 1]) _ rfl _ HF.out (by omega) hsz).mono ?_
                rintro e w2 ⟨rfl, hF, hB⟩
                have HF2 := Aside0.mk hF
                have HX2 := Aside0.mk ((hB.block g1 (by omega)).trans HX.out)
                have HB2 := Aside0.mk (HB.out.trans (hB.mono (by rw [HG.out]; omega)))
                have hsz2 : g1 + 1 ≤ w2.heap.size := Nat.le_trans hsz hB.size
                clear hF hB
                go_wp2
                go_roundw
                case rel => exact ⟨k + 2, _, by omega, by omega, by rw [List.length_append]; simp; omega, by go_num, H2, HF2, HB2, HX2, hsz2⟩
                case measure => simp [intOf]; omega
            · have c92 : ((a0[k + 1].toNat : Int) == 92) = false := byte_ne (fun e => hesc (.inl e))
              have c34 : ((a0[k + 1].toNat : Int) == 34) = false := byte_ne (fun e => hesc (.inr e))
              have h := H.out
              rw [HD.out, h92, HD2.out, textGo_bad _ _ _ _ h110 (fun e => hesc (.inl e)) (fun e => hesc (.inr e)), textR_bad] at h
              simp only [Prod.mk.injEq] at h
              obtain ⟨rfl, rfl, rfl, rfl, rfl, rfl, rfl⟩ := h
              clear H h34 h10 h92 h110 hesc
              obtain ⟨⟨z0, z1, z2, z3, z4⟩, y0, y1, y2, y3, y4⟩ := box_cells5 HX.out
              go_wp2
              refine bodyPost_ret (results_ctt rfl _ _ g1 29 #[.int .i64 0, .string ⟨#[]⟩, .int .i64 0, .int .i64 0, .int .i64 0] (0, 0) _ rfl (box_put5 HX.out _ _ _ _ _) Tryz.underlying29 rfl (by kernel_rfl)) rfl ?_
              exact ⟨rfl, below_put5 HB.out (by have h_ := HG.out; omega) _ _ _ _ _⟩
          · have HD2 := Aside0.mk (drop_end a0 (k + 1) (by omega))
            have gl2 : decide ((k : Int) + 1 < (a0.size : Int)) = false := decide_eq_false (by omega)
            have h := H.out
            rw [HD.out, h92, HD2.out, textGo_bad_end, textR_bad] at h
            simp only [Prod.mk.injEq] at h
            obtain ⟨rfl, rfl, rfl, rfl, rfl, rfl, rfl⟩ := h
            clear H h34 h10 h92
            obtain ⟨⟨z0, z1, z2, z3, z4⟩, y0, y1, y2, y3, y4⟩ := box_cells5 HX.out
            go_wp2
            refine bodyPost_ret (results_ctt rfl _ _ g1 29 #[.int .i64 0, .string ⟨#[]⟩, .int .i64 0, .int .i64 0, .int .i64 0] (0, 0) _ rfl (box_put5 HX.out _ _ _ _ _) Tryz.underlying29 rfl (by kernel_rfl)) rfl ?_
            exact ⟨rfl, below_put5 HB.out (by have h_ := HG.out; omega) _ _ _ _ _⟩
        have b92 : ((a0[k].toNat : Int) == 92) = false := byte_ne h92
        have H2 : Aside0 (textR (textGo (a0.data.toList.drop (k + 1)) ((k + 1 : Nat) : Int) (acc ++ [a0[k]])) = (r1, r2, r3, r4, r5, r6, r7)) := ⟨by rw [← H.out, HD.out, textGo_other _ _ _ _ h34 h10 h92]; rfl⟩
        clear h34 h10 h92
        go_wp2_with fail
        refine (wbyte (g1 + 1) g2 acc (a0[k]) _ rfl _ HF.out (by omega) hsz).mono ?_
        rintro e w2 ⟨rfl, hF, hB⟩
        have HF2 := Aside0.mk hF
        have HX2 := Aside0.mk ((hB.block g1 (by omega)).trans HX.out)
        have HB2 := Aside0.mk (HB.out.trans (hB.mono (by rw [HG.out]; omega)))
        have hsz2 : g1 + 1 ≤ w2.heap.size := Nat.le_trans hsz hB.size
        clear hF hB
        go_wp2
        go_roundw
        case rel => exact ⟨k + 1, _, by omega, by omega, by rw [List.length_append]; simp; omega, by go_num, H2, HF2, HB2, HX2, hsz2⟩
        case measure => simp [intOf]; omega
      · obtain rfl : k = a0.size := by omega
        have h := H.out
        rw [drop_end a0 a0.size (Nat.le_refl _)] at h
        simp only [textGo, textR_bad, Prod.mk.injEq] at h
        obtain ⟨rfl, rfl, rfl, rfl, rfl, rfl, rfl⟩ := h
        clear H
        obtain ⟨⟨z0, z1, z2, z3, z4⟩, y0, y1, y2, y3, y4⟩ := box_cells5 HX.out
        go_wp2
        refine bodyPost_ret (results_ctt rfl _ _ g1 29 #[.int .i64 0, .string ⟨#[]⟩, .int .i64 0, .int .i64 0, .int .i64 0] (0, 0) _ rfl (box_put5 HX.out _ _ _ _ _) Tryz.underlying29 rfl (by kernel_rfl)) rfl ?_
        exact ⟨rfl, below_put5 HB.out (by have h_ := HG.out; omega) _ _ _ _ _⟩
  · cases h
end Go.Proofs.YteokilkcchdeiaaGreatDoor.X
end
section
namespace Go.Proofs.YteokilkcchdeiaaGreatDoor.X
open Go.RowKit Go.Proofs.YteokilkcchdeiaaGreatDoor Go.Proofs.YteokilkcchdeiaaGreatDoorW.PrintWords Go.Proofs.YteokilkcchdeiaaGreatDoorW.PrintLast Go.Proofs.YteokilkcchdeiaaGreatDoorW.PrintMore Go.Proofs.YteokilkcchdeiaaGreatDoor.Q
structure Rd where
  kind : Int
  text : ByteArray
  num : Int
  den : Int
  at_ : Int
  size : Int
  err : Int
def Rd.val (r : Rd) : Value := .tuple #[.agg #[.int .i64 r.kind, .string r.text, .int .i64 r.num, .int .i64 r.den, .int .i64 r.at_], .int .i64 r.size, .int .i64 r.err]
def zRd (n e : Int) : Rd := ⟨0, ⟨#[]⟩, 0, 0, 0, n, e⟩
def pick (r : Rd) : Rd := if r.err = 0 then r else zRd r.size r.err
def firstOf (r0 r1 r2 r3 r4 : Rd) : Rd := if 0 < r0.size then pick r0 else if 0 < r1.size then pick r1 else if 0 < r2.size then pick r2 else if 0 < r3.size then pick r3 else if 0 < r4.size then pick r4 else zRd 0 3
abbrev readersRow : Obj := .cells #[.func (.func 68) #[] #[], .func (.func 69) #[] #[], .func (.func 70) #[] #[], .func (.func 71) #[] #[], .func (.func 72) #[] #[]] 129 (0, 0)
theorem row_cell {w : World} {rb : Nat} (h : w.heap[rb]? = some readersRow) : w.cell? ⟨rb, 0, none⟩ = some (.func (.func 68) #[] #[]) ∧ w.cell? ⟨rb, 1, none⟩ = some (.func (.func 69) #[] #[]) ∧ w.cell? ⟨rb, 2, none⟩ = some (.func (.func 70) #[] #[]) ∧ w.cell? ⟨rb, 3, none⟩ = some (.func (.func 71) #[] #[]) ∧ w.cell? ⟨rb, 4, none⟩ = some (.func (.func 72) #[] #[]) := by
  refine ⟨(blk_cell h 0).trans rfl, (blk_cell h 1).trans rfl, (blk_cell h 2).trans rfl, (blk_cell h 3).trans rfl, (blk_cell h 4).trans rfl⟩
def RdAt (f : Nat) (s : ByteArray) (r : Rd) : Prop := ∀ W, Tabs W → Calls Tryz.prog f #[.string s] W fun e w' => e = .returned (.tuple #[.agg #[.int .i64 r.kind, .string r.text, .int .i64 r.num, .int .i64 r.den, .int .i64 r.at_], .int .i64 r.size, .int .i64 r.err]) ∧ Below W.heap.size W w'
set_option maxHeartbeats 4000000 in
set_option maxRecDepth 100000 in
theorem first_any (rb : Nat) (s : ByteArray) (r0 r1 r2 r3 r4 : Rd) (H0 : RdAt 68 s r0) (H1 : RdAt 69 s r1) (H2 : RdAt 70 s r2) (H3 : RdAt 71 s r3) (H4 : RdAt 72 s r4) (w : World) (hT : Tabs w) (hrow : w.heap[rb]? = some readersRow) :
    Calls Tryz.prog 74 #[.slice (some ⟨rb, 0, none⟩) 5 5, .string s] w fun e w' => e = .returned (Rd.val (firstOf r0 r1 r2 r3 r4)) ∧ Below w.heap.size w w' := by
  have hu := Tryz.underlying29
  have HT := Aside0.mk hT
  clear hT
  have hrb : rb < w.heap.size := blk_lt hrow
  have HROW := Aside0.mk hrow
  clear hrow
  obtain ⟨rr, hrr⟩ : ∃ r, r = firstOf r0 r1 r2 r3 r4 := ⟨_, rfl⟩
  rw [← hrr]
  have HR := Aside0.mk hrr
  clear hrr
  go_enter Tryz.func74, Tryz.ntmps74
  go_wp2_with (first | ((with_reducible refine gate_dst (N := 4) rfl ?_); refine box_event ?hg (N := 4) ?hd (cs := #[.int .i64 0, .string (⟨#[]⟩ : ByteArray), .int .i64 0, .int .i64 0, .int .i64 0]) (t := 29) ?hr ?_; (case hd => rfl); (case hg => rfl); (case hr => first | (go_simp; done) | (go_simp; rfl)); intro g1 hg1 w3 hbox hb; have HX := Aside0.mk hbox; have HB := Aside0.mk hb; have HG := Aside0.mk hg1; clear hbox hb hg1))
  go_loopw [14] (fun i wr => ∃ j : Nat, j ≤ 5 ∧ i = .int .i64 j ∧ Aside0 (rr = (match j with | 0 => firstOf r0 r1 r2 r3 r4 | 1 => (if 0 < r1.size then pick r1 else if 0 < r2.size then pick r2 else if 0 < r3.size then pick r3 else if 0 < r4.size then pick r4 else zRd 0 3) | 2 => (if 0 < r2.size then pick r2 else if 0 < r3.size then pick r3 else if 0 < r4.size then pick r4 else zRd 0 3) | 3 => (if 0 < r3.size then pick r3 else if 0 < r4.size then pick r4 else zRd 0 3) | 4 => (if 0 < r4.size then pick r4 else zRd 0 3) | _ => zRd 0 3)) ∧ Aside0 (Below w.heap.size w wr) ∧ Aside0 (wr.heap[g1]? = some zTok)) (fun i _ => 5 - (intOf i).toNat)
  case atStart => exact ⟨0, by omega, rfl, HR, HB, HX⟩
  case round =>
    clear HR HB HX
    obtain ⟨j, hj, rfl, HR, HB, HX⟩ := hrel
    have HROWr := Aside0.mk ((HB.out.block rb hrb).trans HROW.out)
    obtain ⟨k0, k1, k2, k3, k4⟩ := row_cell HROWr.out
    have HTr := Aside0.mk (HT.out.below HB.out)
    match j, hj with
    | 0, _ =>
      clear k1 k2 k3 k4
      by_cases hs : 0 < r0.size
      · by_cases he : r0.err = 0
        · have b1 : (r0.err != 0) = false := by simpa using he
          have b2 : decide (0 < r0.size) = true := decide_eq_true hs
          have HE := Aside0.mk (show rr = r0 from by rw [HR.out]; simp only [firstOf]; rw [if_pos hs, pick, if_pos he])
          have HZ := Aside0.mk he
          clear hs he HR
          go_wp2_with fail
          refine (H0 _ HTr.out).mono ?_
          rintro e w4 ⟨rfl, hB⟩
          have HX4 := Aside0.mk (blk_below HX.out hB)
          have HB4 := Aside0.mk (below_step HB.out hB)
          have hsz : g1 < w4.heap.size := blk_lt HX4.out
          clear hB
          obtain ⟨⟨z0, z1, z2, z3, z4⟩, y0, y1, y2, y3, y4⟩ := box_cells5 HX4.out
          go_wp2
          rw [HE.out]
          refine bodyPost_ret (results_ctt rfl _ _ g1 29 #[.int .i64 r0.kind, .string r0.text, .int .i64 r0.num, .int .i64 r0.den, .int .i64 r0.at_] (0, 0) _ rfl (blk_alloc (box_put5 HX4.out _ _ _ _ _) _) Tryz.underlying29 rfl (by kernel_rfl)) rfl ?_
          exact ⟨by rw [Rd.val, HZ.out]; rfl, below_alloc (below_put5 HB4.out (by have h_ := HG.out; omega) _ _ _ _ _) _⟩
        · have b1 : (r0.err != 0) = true := by simpa using he
          have b2 : decide (0 < r0.size) = true := decide_eq_true hs
          have HE := Aside0.mk (show rr = zRd r0.size r0.err from by rw [HR.out]; simp only [firstOf]; rw [if_pos hs, pick, if_neg he])
          clear hs he HR
          go_wp2_with fail
          refine (H0 _ HTr.out).mono ?_
          rintro e w4 ⟨rfl, hB⟩
          have HX4 := Aside0.mk (blk_below HX.out hB)
          have HB4 := Aside0.mk (below_step HB.out hB)
          have hsz : g1 < w4.heap.size := blk_lt HX4.out
          clear hB
          obtain ⟨⟨z0, z1, z2, z3, z4⟩, y0, y1, y2, y3, y4⟩ := box_cells5 HX4.out
          go_wp2
          rw [HE.out]
          refine bodyPost_ret (results_ctt rfl _ _ g1 29 #[.int .i64 0, .string ⟨#[]⟩, .int .i64 0, .int .i64 0, .int .i64 0] (0, 0) _ rfl (blk_alloc (box_put5 HX4.out _ _ _ _ _) _) Tryz.underlying29 rfl (by kernel_rfl)) rfl ?_
          exact ⟨rfl, below_alloc (below_put5 HB4.out (by have h_ := HG.out; omega) _ _ _ _ _) _⟩
      · have b2 : decide (0 < r0.size) = false := decide_eq_false hs
        have HE : Aside0 (rr = (if 0 < r1.size then pick r1 else if 0 < r2.size then pick r2 else if 0 < r3.size then pick r3 else if 0 < r4.size then pick r4 else zRd 0 3)) := ⟨by rw [HR.out]; simp only [firstOf]; rw [if_neg hs]⟩
        clear hs HR
        go_wp2_with fail
        refine (H0 _ HTr.out).mono ?_
        rintro e w4 ⟨rfl, hB⟩
        have HX4 := Aside0.mk (blk_below HX.out hB)
        have HB4 := Aside0.mk (below_step HB.out hB)
        have hsz : g1 < w4.heap.size := blk_lt HX4.out
        clear hB
        obtain ⟨⟨z0, z1, z2, z3, z4⟩, y0, y1, y2, y3, y4⟩ := box_cells5 HX4.out
        go_wp2
        go_roundw
        case rel => exact ⟨1, by omega, by go_num, HE, ⟨below_alloc HB4.out _⟩, ⟨blk_alloc HX4.out _⟩⟩
        case measure => simp [intOf]
    | 1, _ =>
      clear k0 k2 k3 k4
      by_cases hs : 0 < r1.size
      · by_cases he : r1.err = 0
        · have b1 : (r1.err != 0) = false := by simpa using he
          have b2 : decide (0 < r1.size) = true := decide_eq_true hs
          have HE := Aside0.mk (show rr = r1 from by rw [HR.out]; simp only [firstOf]; rw [if_pos hs, pick, if_pos he])
          have HZ := Aside0.mk he
          clear hs he HR
          go_wp2_with fail
          refine (H1 _ HTr.out).mono ?_
          rintro e w4 ⟨rfl, hB⟩
          have HX4 := Aside0.mk (blk_below HX.out hB)
          have HB4 := Aside0.mk (below_step HB.out hB)
          have hsz : g1 < w4.heap.size := blk_lt HX4.out
          clear hB
          obtain ⟨⟨z0, z1, z2, z3, z4⟩, y0, y1, y2, y3, y4⟩ := box_cells5 HX4.out
          go_wp2
          rw [HE.out]
          refine bodyPost_ret (results_ctt rfl _ _ g1 29 #[.int .i64 r1.kind, .string r1.text, .int .i64 r1.num, .int .i64 r1.den, .int .i64 r1.at_] (0, 0) _ rfl (blk_alloc (box_put5 HX4.out _ _ _ _ _) _) Tryz.underlying29 rfl (by kernel_rfl)) rfl ?_
          exact ⟨by rw [Rd.val, HZ.out]; rfl, below_alloc (below_put5 HB4.out (by have h_ := HG.out; omega) _ _ _ _ _) _⟩
        · have b1 : (r1.err != 0) = true := by simpa using he
          have b2 : decide (0 < r1.size) = true := decide_eq_true hs
          have HE := Aside0.mk (show rr = zRd r1.size r1.err from by rw [HR.out]; simp only [firstOf]; rw [if_pos hs, pick, if_neg he])
          clear hs he HR
          go_wp2_with fail
          refine (H1 _ HTr.out).mono ?_
          rintro e w4 ⟨rfl, hB⟩
          have HX4 := Aside0.mk (blk_below HX.out hB)
          have HB4 := Aside0.mk (below_step HB.out hB)
          have hsz : g1 < w4.heap.size := blk_lt HX4.out
          clear hB
          obtain ⟨⟨z0, z1, z2, z3, z4⟩, y0, y1, y2, y3, y4⟩ := box_cells5 HX4.out
          go_wp2
          rw [HE.out]
          refine bodyPost_ret (results_ctt rfl _ _ g1 29 #[.int .i64 0, .string ⟨#[]⟩, .int .i64 0, .int .i64 0, .int .i64 0] (0, 0) _ rfl (blk_alloc (box_put5 HX4.out _ _ _ _ _) _) Tryz.underlying29 rfl (by kernel_rfl)) rfl ?_
          exact ⟨rfl, below_alloc (below_put5 HB4.out (by have h_ := HG.out; omega) _ _ _ _ _) _⟩
      · have b2 : decide (0 < r1.size) = false := decide_eq_false hs
        have HE : Aside0 (rr = (if 0 < r2.size then pick r2 else if 0 < r3.size then pick r3 else if 0 < r4.size then pick r4 else zRd 0 3)) := ⟨by rw [HR.out]; simp only [firstOf]; rw [if_neg hs]⟩
        clear hs HR
        go_wp2_with fail
        refine (H1 _ HTr.out).mono ?_
        rintro e w4 ⟨rfl, hB⟩
        have HX4 := Aside0.mk (blk_below HX.out hB)
        have HB4 := Aside0.mk (below_step HB.out hB)
        have hsz : g1 < w4.heap.size := blk_lt HX4.out
        clear hB
        obtain ⟨⟨z0, z1, z2, z3, z4⟩, y0, y1, y2, y3, y4⟩ := box_cells5 HX4.out
        go_wp2
        go_roundw
        case rel => exact ⟨2, by omega, by go_num, HE, ⟨below_alloc HB4.out _⟩, ⟨blk_alloc HX4.out _⟩⟩
        case measure => simp [intOf]
    | 2, _ =>
      clear k0 k1 k3 k4
      by_cases hs : 0 < r2.size
      · by_cases he : r2.err = 0
        · have b1 : (r2.err != 0) = false := by simpa using he
          have b2 : decide (0 < r2.size) = true := decide_eq_true hs
          have HE := Aside0.mk (show rr = r2 from by rw [HR.out]; simp only [firstOf]; rw [if_pos hs, pick, if_pos he])
          have HZ := Aside0.mk he
          clear hs he HR
          go_wp2_with fail
          refine (H2 _ HTr.out).mono ?_
          rintro e w4 ⟨rfl, hB⟩
          have HX4 := Aside0.mk (blk_below HX.out hB)
          have HB4 := Aside0.mk (below_step HB.out hB)
          have hsz : g1 < w4.heap.size := blk_lt HX4.out
          clear hB
          obtain ⟨⟨z0, z1, z2, z3, z4⟩, y0, y1, y2, y3, y4⟩ := box_cells5 HX4.out
          go_wp2
          rw [HE.out]
          refine bodyPost_ret (results_ctt rfl _ _ g1 29 #[.int .i64 r2.kind, .string r2.text, .int .i64 r2.num, .int .i64 r2.den, .int .i64 r2.at_] (0, 0) _ rfl (blk_alloc (box_put5 HX4.out _ _ _ _ _) _) Tryz.underlying29 rfl (by kernel_rfl)) rfl ?_
          exact ⟨by rw [Rd.val, HZ.out]; rfl, below_alloc (below_put5 HB4.out (by have h_ := HG.out; omega) _ _ _ _ _) _⟩
        · have b1 : (r2.err != 0) = true := by simpa using he
          have b2 : decide (0 < r2.size) = true := decide_eq_true hs
          have HE := Aside0.mk (show rr = zRd r2.size r2.err from by rw [HR.out]; simp only [firstOf]; rw [if_pos hs, pick, if_neg he])
          clear hs he HR
          go_wp2_with fail
          refine (H2 _ HTr.out).mono ?_
          rintro e w4 ⟨rfl, hB⟩
          have HX4 := Aside0.mk (blk_below HX.out hB)
          have HB4 := Aside0.mk (below_step HB.out hB)
          have hsz : g1 < w4.heap.size := blk_lt HX4.out
          clear hB
          obtain ⟨⟨z0, z1, z2, z3, z4⟩, y0, y1, y2, y3, y4⟩ := box_cells5 HX4.out
          go_wp2
          rw [HE.out]
          refine bodyPost_ret (results_ctt rfl _ _ g1 29 #[.int .i64 0, .string ⟨#[]⟩, .int .i64 0, .int .i64 0, .int .i64 0] (0, 0) _ rfl (blk_alloc (box_put5 HX4.out _ _ _ _ _) _) Tryz.underlying29 rfl (by kernel_rfl)) rfl ?_
          exact ⟨rfl, below_alloc (below_put5 HB4.out (by have h_ := HG.out; omega) _ _ _ _ _) _⟩
      · have b2 : decide (0 < r2.size) = false := decide_eq_false hs
        have HE : Aside0 (rr = (if 0 < r3.size then pick r3 else if 0 < r4.size then pick r4 else zRd 0 3)) := ⟨by rw [HR.out]; simp only [firstOf]; rw [if_neg hs]⟩
        clear hs HR
        go_wp2_with fail
        refine (H2 _ HTr.out).mono ?_
        rintro e w4 ⟨rfl, hB⟩
        have HX4 := Aside0.mk (blk_below HX.out hB)
        have HB4 := Aside0.mk (below_step HB.out hB)
        have hsz : g1 < w4.heap.size := blk_lt HX4.out
        clear hB
        obtain ⟨⟨z0, z1, z2, z3, z4⟩, y0, y1, y2, y3, y4⟩ := box_cells5 HX4.out
        go_wp2
        go_roundw
        case rel => exact ⟨3, by omega, by go_num, HE, ⟨below_alloc HB4.out _⟩, ⟨blk_alloc HX4.out _⟩⟩
        case measure => simp [intOf]
    | 3, _ =>
      clear k0 k1 k2 k4
      by_cases hs : 0 < r3.size
      · by_cases he : r3.err = 0
        · have b1 : (r3.err != 0) = false := by simpa using he
          have b2 : decide (0 < r3.size) = true := decide_eq_true hs
          have HE := Aside0.mk (show rr = r3 from by rw [HR.out]; simp only [firstOf]; rw [if_pos hs, pick, if_pos he])
          have HZ := Aside0.mk he
          clear hs he HR
          go_wp2_with fail
          refine (H3 _ HTr.out).mono ?_
          rintro e w4 ⟨rfl, hB⟩
          have HX4 := Aside0.mk (blk_below HX.out hB)
          have HB4 := Aside0.mk (below_step HB.out hB)
          have hsz : g1 < w4.heap.size := blk_lt HX4.out
          clear hB
          obtain ⟨⟨z0, z1, z2, z3, z4⟩, y0, y1, y2, y3, y4⟩ := box_cells5 HX4.out
          go_wp2
          rw [HE.out]
          refine bodyPost_ret (results_ctt rfl _ _ g1 29 #[.int .i64 r3.kind, .string r3.text, .int .i64 r3.num, .int .i64 r3.den, .int .i64 r3.at_] (0, 0) _ rfl (blk_alloc (box_put5 HX4.out _ _ _ _ _) _) Tryz.underlying29 rfl (by kernel_rfl)) rfl ?_
          exact ⟨by rw [Rd.val, HZ.out]; rfl, below_alloc (below_put5 HB4.out (by have h_ := HG.out; omega) _ _ _ _ _) _⟩
        · have b1 : (r3.err != 0) = true := by simpa using he
          have b2 : decide (0 < r3.size) = true := decide_eq_true hs
          have HE := Aside0.mk (show rr = zRd r3.size r3.err from by rw [HR.out]; simp only [firstOf]; rw [if_pos hs, pick, if_neg he])
          clear hs he HR
          go_wp2_with fail
          refine (H3 _ HTr.out).mono ?_
          rintro e w4 ⟨rfl, hB⟩
          have HX4 := Aside0.mk (blk_below HX.out hB)
          have HB4 := Aside0.mk (below_step HB.out hB)
          have hsz : g1 < w4.heap.size := blk_lt HX4.out
          clear hB
          obtain ⟨⟨z0, z1, z2, z3, z4⟩, y0, y1, y2, y3, y4⟩ := box_cells5 HX4.out
          go_wp2
          rw [HE.out]
          refine bodyPost_ret (results_ctt rfl _ _ g1 29 #[.int .i64 0, .string ⟨#[]⟩, .int .i64 0, .int .i64 0, .int .i64 0] (0, 0) _ rfl (blk_alloc (box_put5 HX4.out _ _ _ _ _) _) Tryz.underlying29 rfl (by kernel_rfl)) rfl ?_
          exact ⟨rfl, below_alloc (below_put5 HB4.out (by have h_ := HG.out; omega) _ _ _ _ _) _⟩
      · have b2 : decide (0 < r3.size) = false := decide_eq_false hs
        have HE : Aside0 (rr = (if 0 < r4.size then pick r4 else zRd 0 3)) := ⟨by rw [HR.out]; simp only [firstOf]; rw [if_neg hs]⟩
        clear hs HR
        go_wp2_with fail
        refine (H3 _ HTr.out).mono ?_
        rintro e w4 ⟨rfl, hB⟩
        have HX4 := Aside0.mk (blk_below HX.out hB)
        have HB4 := Aside0.mk (below_step HB.out hB)
        have hsz : g1 < w4.heap.size := blk_lt HX4.out
        clear hB
        obtain ⟨⟨z0, z1, z2, z3, z4⟩, y0, y1, y2, y3, y4⟩ := box_cells5 HX4.out
        go_wp2
        go_roundw
        case rel => exact ⟨4, by omega, by go_num, HE, ⟨below_alloc HB4.out _⟩, ⟨blk_alloc HX4.out _⟩⟩
        case measure => simp [intOf]
    | 4, _ =>
      clear k0 k1 k2 k3
      by_cases hs : 0 < r4.size
      · by_cases he : r4.err = 0
        · have b1 : (r4.err != 0) = false := by simpa using he
          have b2 : decide (0 < r4.size) = true := decide_eq_true hs
          have HE := Aside0.mk (show rr = r4 from by rw [HR.out]; simp only [firstOf]; rw [if_pos hs, pick, if_pos he])
          have HZ := Aside0.mk he
          clear hs he HR
          go_wp2_with fail
          refine (H4 _ HTr.out).mono ?_
          rintro e w4 ⟨rfl, hB⟩
          have HX4 := Aside0.mk (blk_below HX.out hB)
          have HB4 := Aside0.mk (below_step HB.out hB)
          have hsz : g1 < w4.heap.size := blk_lt HX4.out
          clear hB
          obtain ⟨⟨z0, z1, z2, z3, z4⟩, y0, y1, y2, y3, y4⟩ := box_cells5 HX4.out
          go_wp2
          rw [HE.out]
          refine bodyPost_ret (results_ctt rfl _ _ g1 29 #[.int .i64 r4.kind, .string r4.text, .int .i64 r4.num, .int .i64 r4.den, .int .i64 r4.at_] (0, 0) _ rfl (blk_alloc (box_put5 HX4.out _ _ _ _ _) _) Tryz.underlying29 rfl (by kernel_rfl)) rfl ?_
          exact ⟨by rw [Rd.val, HZ.out]; rfl, below_alloc (below_put5 HB4.out (by have h_ := HG.out; omega) _ _ _ _ _) _⟩
        · have b1 : (r4.err != 0) = true := by simpa using he
          have b2 : decide (0 < r4.size) = true := decide_eq_true hs
          have HE := Aside0.mk (show rr = zRd r4.size r4.err from by rw [HR.out]; simp only [firstOf]; rw [if_pos hs, pick, if_neg he])
          clear hs he HR
          go_wp2_with fail
          refine (H4 _ HTr.out).mono ?_
          rintro e w4 ⟨rfl, hB⟩
          have HX4 := Aside0.mk (blk_below HX.out hB)
          have HB4 := Aside0.mk (below_step HB.out hB)
          have hsz : g1 < w4.heap.size := blk_lt HX4.out
          clear hB
          obtain ⟨⟨z0, z1, z2, z3, z4⟩, y0, y1, y2, y3, y4⟩ := box_cells5 HX4.out
          go_wp2
          rw [HE.out]
          refine bodyPost_ret (results_ctt rfl _ _ g1 29 #[.int .i64 0, .string ⟨#[]⟩, .int .i64 0, .int .i64 0, .int .i64 0] (0, 0) _ rfl (blk_alloc (box_put5 HX4.out _ _ _ _ _) _) Tryz.underlying29 rfl (by kernel_rfl)) rfl ?_
          exact ⟨rfl, below_alloc (below_put5 HB4.out (by have h_ := HG.out; omega) _ _ _ _ _) _⟩
      · have b2 : decide (0 < r4.size) = false := decide_eq_false hs
        have HE : Aside0 (rr = (zRd 0 3)) := ⟨by rw [HR.out]; simp only [firstOf]; rw [if_neg hs]⟩
        clear hs HR
        go_wp2_with fail
        refine (H4 _ HTr.out).mono ?_
        rintro e w4 ⟨rfl, hB⟩
        have HX4 := Aside0.mk (blk_below HX.out hB)
        have HB4 := Aside0.mk (below_step HB.out hB)
        have hsz : g1 < w4.heap.size := blk_lt HX4.out
        clear hB
        obtain ⟨⟨z0, z1, z2, z3, z4⟩, y0, y1, y2, y3, y4⟩ := box_cells5 HX4.out
        go_wp2
        go_roundw
        case rel => exact ⟨5, by omega, by go_num, HE, ⟨below_alloc HB4.out _⟩, ⟨blk_alloc HX4.out _⟩⟩
        case measure => simp [intOf]
    | 5, _ =>
      have HE := Aside0.mk (show rr = zRd 0 3 from HR.out)
      obtain ⟨⟨z0, z1, z2, z3, z4⟩, y0, y1, y2, y3, y4⟩ := box_cells5 HX.out
      clear HR k0 k1 k2 k3 k4
      go_wp2
      rw [HE.out]
      refine bodyPost_ret (results_ctt rfl _ _ g1 29 #[.int .i64 0, .string ⟨#[]⟩, .int .i64 0, .int .i64 0, .int .i64 0] (0, 0) _ rfl (box_put5 HX.out _ _ _ _ _) Tryz.underlying29 rfl (by kernel_rfl)) rfl ?_
      exact ⟨rfl, below_put5 HB.out (by have h_ := HG.out; omega) _ _ _ _ _⟩
    | j + 6, h => omega
end Go.Proofs.YteokilkcchdeiaaGreatDoor.X
end
section
namespace Go.Proofs.YteokilkcchdeiaaGreatDoor.X
open Go.RowKit Go.Shelf Go.Proofs.YteokilkcchdeiaaGreatDoor Go.Proofs.YteokilkcchdeiaaGreatDoorW.PrintWords Go.Proofs.YteokilkcchdeiaaGreatDoorW.PrintLast Go.Proofs.YteokilkcchdeiaaGreatDoorW.PrintMore Go.Proofs.YteokilkcchdeiaaGreatDoor.Q
attribute [local go_sem] Oper.semAt_some
structure Lex where
  F : List UInt8 → Rd
  B : List UInt8 → Nat
  hB : ∀ l, B l ≤ l.length
  hF : ∀ l, l ≠ [] → l.length ≤ 4000 → (F l).err = 0 → 0 < (F l).size ∧ (F l).size ≤ l.length
  reads : ∀ s : ByteArray, s.size ≤ 4000 → 0 < s.size → ∃ r0 r1 r2 r3 r4, RdAt 68 s r0 ∧ RdAt 69 s r1 ∧ RdAt 70 s r2 ∧ RdAt 71 s r3 ∧ RdAt 72 s r4 ∧ firstOf r0 r1 r2 r3 r4 = F s.data.toList
  blanks : ∀ (s : ByteArray) (i : Nat), s.size ≤ 4000 → i ≤ s.size → ∀ w, Calls Tryz.prog 73 #[.string s, .int .i64 i] w fun e w' => e = .returned (.int .i64 ((i + B (s.data.toList.drop i) : Nat) : Int)) ∧ Drawn0 w w'
def seqT (X : Lex) : Nat → List UInt8 → Nat → List Rd
  | 0, _, _ => []
  | k + 1, l, i => if l = [] then [] else
      let r := X.F l
      let n := r.size.toNat + X.B (l.drop r.size.toNat)
      { r with at_ := i } :: (if r.err = 0 then seqT X k (l.drop n) (i + n) else [])
def encT (r : Rd) : Array Value := #[.agg #[.int .i64 r.kind, .string r.text, .int .i64 r.num, .int .i64 r.den, .int .i64 r.at_], .int .i64 r.err]
theorem seqT_len (X : Lex) : ∀ k l i, (seqT X k l i).length ≤ k
  | 0, _, _ => by simp [seqT]
  | k + 1, l, i => by
    unfold seqT
    split
    · simp
    · simp only [List.length_cons]
      split
      · have := seqT_len X k (l.drop ((X.F l).size.toNat + X.B (l.drop (X.F l).size.toNat))) (i + ((X.F l).size.toNat + X.B (l.drop (X.F l).size.toNat))); omega
      · simp
theorem seqT_nil (X : Lex) (k i : Nat) : seqT X k [] i = [] := by cases k <;> simp [seqT]
theorem seqT_bad (X : Lex) (k : Nat) (l : List UInt8) (i : Nat) (r : Rd) (hr : X.F l = r) (h : l ≠ []) (he : ¬ r.err = 0) : seqT X (k + 1) l i = [{ r with at_ := i }] := by
  subst hr; unfold seqT; rw [if_neg h]; simp only [if_neg he]
theorem seqT_ok (X : Lex) (k : Nat) (l : List UInt8) (i : Nat) (r : Rd) (hr : X.F l = r) (h : l ≠ []) (he : r.err = 0) : seqT X (k + 1) l i = { r with at_ := i } :: seqT X k (l.drop (r.size.toNat + X.B (l.drop r.size.toNat))) (i + (r.size.toNat + X.B (l.drop r.size.toNat))) := by
  subst hr
  conv => lhs; unfold seqT
  rw [if_neg h]; simp only [if_pos he]
def Kt (n0 : Nat) (W W' : World) : Prop := Below n0 W W' ∧ ∀ (k : Nat) (c : Array Value) (t : TypeId), t ≠ 38 → t ≠ 29 → W.heap[k]? = some (.cells c t (0, 0)) → W'.heap[k]? = some (.cells c t (0, 0))
theorem Kt.trans {n0 : Nat} {A B C : World} (h : Kt n0 A B) (k : Kt n0 B C) : Kt n0 A C := ⟨h.1.trans k.1, fun j c t h1 h2 hj => k.2 j c t h1 h2 (h.2 j c t h1 h2 hj)⟩
theorem Kt.keep {n0 : Nat} {A B : World} (h : Kt n0 A B) {k : Nat} {c : Array Value} {t : TypeId} (hk : A.heap[k]? = some (.cells c t (0, 0))) (h1 : t ≠ 38) (h2 : t ≠ 29) : B.heap[k]? = some (.cells c t (0, 0)) := h.2 k c t h1 h2 hk
theorem grown_of_below {W W' : World} (h : Below W.heap.size W W') : W.grownBy W' none := ⟨h.os, h.tape, h.output, h.size, fun k hk _ => h.block k hk⟩
set_option maxHeartbeats 2000000 in
set_option maxRecDepth 100000 in
theorem scan1_in (X : Lex) (n : Nat) (hn : 1 ≤ n) (l sb : Nat) (s : ByteArray) (hs : s.size ≤ 4000) (w0 w1 : World) (J Jx : List Rd → World → Prop)
    (hJ : AbidesFrom w1.heap.size J) (hJx : AbidesFrom w1.heap.size Jx)
    (hY : ∀ pre x W1, J pre W1 → pre.length < 4001 → YieldAt Fence.wide (n - 1) Tryz.prog l (encT x) W1 fun e W' =>
      (e = .returned (.bool true) ∧ J (pre ++ [x]) W' ∧ Kt w0.heap.size W1 W') ∨ (e = .returned (.bool false) ∧ Jx (pre ++ [x]) W'))
    (hT : Tabs w0) (hB : Below w0.heap.size w0 w1) (hsb : w1.heap[sb]? = some (.cells #[.string s] 9 (0, 0))) (h0 : J [] w1) (xs : List Rd)
    (hxs : xs = seqT X 4001 (s.data.toList.drop (X.B s.data.toList)) (X.B s.data.toList)) :
    CallsIn Fence.wide n Tryz.prog 67 #[.func (.yield l) #[] #[], .pointer (some ⟨sb, 0, none⟩)] w1 fun e W' => (∃ v, e = .returned v) ∧
      ((∃ ys, ys = xs ∧ J ys W') ∨ (∃ pre, pre <+: xs ∧ Jx pre W')) := by
  have hu := Tryz.underlying29
  have HT := Aside0.mk hT
  have HB := Aside0.mk hB
  have HSB := Aside0.mk hsb
  have hsbl : sb < w1.heap.size := blk_lt hsb
  have hsc : w1.cell? ⟨sb, 0, none⟩ = some (.string s) := (blk_cell hsb 0).trans rfl
  have HX := Aside0.mk hxs
  have HY := Aside0.mk hY
  have HJ := Aside0.mk hJ
  have HJx := Aside0.mk hJx
  have H0 := Aside0.mk h0
  clear hT hB hsb hxs hY hJ hJx h0
  refine callsIn_of_wp Tryz.func67 rfl trivial ?_ rfl
  simp only [Tryz.ntmps67, List.size_toArray, List.length_cons, List.length_nil, Nat.reduceAdd, Nat.reduceSub, Array.replicate_succ, Array.replicate_zero, List.push_toArray, List.append_toArray, List.nil_append, List.cons_append]
  have HB0 := fun W => X.blanks s 0 hs (Nat.zero_le _) W
  rw [List.drop_zero] at HB0
  simp only [Nat.zero_add, Int.ofNat_zero] at HB0
  have hB0 : ∀ W, Calls Tryz.prog 73 #[.string s, .int .i64 0] W fun e w' => e = .returned (.int .i64 ((X.B s.data.toList : Nat) : Int)) ∧ Drawn0 W w' := HB0
  clear HB0
  have hrow : (w1.alloc readersRow).cell? ⟨sb, 0, none⟩ = some (.string s) := ((below_alloc (Below.refl _ w1) readersRow).cell (p := ⟨sb, 0, none⟩) hsbl).trans hsc
  gi_wp2_with (first | (refine ⟨trivial, ?_⟩; gi_at_call 73; refine (callsIn_wide.2 (hB0 _)).mono ?_; rintro e w2 ⟨rfl, ⟨nd, rfl⟩⟩))
  clear hrow hB0 hsc
  have hlen0 : X.B s.data.toList ≤ s.size := by have := X.hB s.data.toList; rw [tl_size] at this; exact this
  have hbel0 : Below w1.heap.size w1 ((w1.alloc readersRow).drewN nd) := pw_below_drewN (below_alloc (Below.refl _ w1) readersRow) nd
  have HJ0 := Aside0.mk (HJ.out _ _ _ none H0.out (grown_of_below hbel0) (fun r e => by cases e))
  have HBE0 := Aside0.mk (below_step HB.out hbel0)
  have HS0 := Aside0.mk (blk_below HSB.out hbel0)
  have HR0 : Aside0 (((w1.alloc readersRow).drewN nd).heap[w1.heap.size]? = some readersRow) := ⟨blk_drewN (blk_new w1 readersRow) nd⟩
  have hw1 : w1.heap.size ≤ ((w1.alloc readersRow).drewN nd).heap.size := hbel0.size
  clear hbel0 H0
  gi_loopw [4] (fun p wr => ∃ (i k : Nat) (pre : List Rd), p = .int .i64 i ∧ i ≤ s.size ∧ pre.length + k ≤ 4001 ∧ s.size < i + k ∧ Aside0 (pre ++ seqT X k (s.data.toList.drop i) i = xs) ∧ Aside0 (J pre wr) ∧ Aside0 (Below w0.heap.size w0 wr) ∧ Aside0 (wr.heap[sb]? = some (.cells #[.string s] 9 (0, 0))) ∧ Aside0 (wr.heap[w1.heap.size]? = some readersRow) ∧ w1.heap.size ≤ wr.heap.size) (fun p _ => s.size - (intOf p).toNat)
  case atStart => exact ⟨X.B s.data.toList, 4001, [], rfl, hlen0, by simp, by omega, ⟨HX.out.symm⟩, HJ0, HBE0, HS0, HR0, hw1⟩
  case round =>
    clear HJ0 HBE0 HS0 HR0 hw1 HX
    obtain ⟨i, k, pre, rfl, hi, hk1, hk2, HX, HJr, HBr, HSr, HRr, hwr⟩ := hrel
    have hsc : wr.cell? ⟨sb, 0, none⟩ = some (.string s) := (blk_cell HSr.out 0).trans rfl
    by_cases hlt : i < s.size
    · obtain ⟨k, rfl⟩ : ∃ m, k = m + 1 := ⟨k - 1, by omega⟩
      have hne : s.data.toList.drop i ≠ [] := by rw [drop_cons s i hlt]; simp
      have hll : (s.data.toList.drop i).length ≤ 4000 := by rw [List.length_drop, tl_size]; omega
      have hx := HX.out
      have HF := Aside0.mk (X.hF _ hne hll)
      obtain ⟨r0, r1, r2, r3, r4, g0, g1, g2, g3, g4, hfirst⟩ := X.reads (s.extract i s.size) (by rw [ByteArray.size_extract]; omega) (by rw [ByteArray.size_extract]; omega)
      rw [show (s.extract i s.size).data.toList = s.data.toList.drop i from by rw [Lib.extract_data, List.take_of_length_le (by rw [List.length_drop, tl_size]; omega)]] at hfirst
      have HFi := fun W hT hrow => hfirst ▸ first_any w1.heap.size (s.extract i s.size) r0 r1 r2 r3 r4 g0 g1 g2 g3 g4 W hT hrow
      have HFI := Aside0.mk HFi
      clear HFi hfirst g0 g1 g2 g3 g4 r0 r1 r2 r3 r4
      clear HX
      generalize hr : X.F (s.data.toList.drop i) = r at *
      have HR := Aside0.mk hr
      clear hr
      have HFv : ∀ W, Tabs W → W.heap[w1.heap.size]? = some readersRow → Calls Tryz.prog 74 #[.slice (some ⟨w1.heap.size, 0, none⟩) 5 5, .string (s.extract i s.size)] W fun e w' => e = .returned (.tuple #[.agg #[.int .i64 r.kind, .string r.text, .int .i64 r.num, .int .i64 r.den, .int .i64 r.at_], .int .i64 r.size, .int .i64 r.err]) ∧ Below W.heap.size W w' := fun W hT hrow => HFI.out W hT hrow
      have HFV := Aside0.mk HFv
      clear HFv HFI
      by_cases he : r.err = 0
      · have hb : (r.err != 0) = false := by simpa using he
        rw [seqT_ok X k _ i r HR.out hne he] at hx
        have HX := Aside0.mk hx
        obtain ⟨hsz1, hsz2⟩ := HF.out he
        have hdr : (s.data.toList.drop i).length = s.size - i := by rw [List.length_drop, tl_size]
        have hbb := X.hB ((s.data.toList.drop i).drop r.size.toNat)
        rw [List.length_drop, hdr] at hbb
        rw [hdr] at hsz2
        obtain ⟨m, hm⟩ : ∃ m : Nat, r.size = m := ⟨r.size.toNat, by omega⟩
        have HM := Aside0.mk hm
        have hmt : r.size.toNat = m := by omega
        rw [hmt] at hbb hx
        have HX := Aside0.mk hx
        have HBL := fun W => X.blanks s (i + m) hs (by omega) W
        rw [← List.drop_drop] at HBL
        generalize hq : X.B ((s.data.toList.drop i).drop m) = q at *
        have HBLa := Aside0.mk HBL
        have hmb : 1 ≤ m ∧ i + m ≤ s.size ∧ i + m + q ≤ s.size := by omega
        obtain ⟨hm1, hm2, hm3⟩ := hmb
        have E1 : Aside0 (wrap64 ((i : Int) + r.size) = ((i + m : Nat) : Int)) := ⟨by rw [hm]; unfold wrap64; omega⟩
        clear hx HBL hsz1 hsz2 hdr hbb hq hmt he HF hm
        gi_wp2_with (first | (refine ⟨trivial, ?_⟩; gi_at_call 74; refine (callsIn_wide.2 (HFV.out _ (HT.out.below HBr.out) HRr.out)).mono ?_; rintro e w2 ⟨rfl, hB2⟩; have hbel : Below wr.heap.size wr (w2.alloc (.cells #[.int .i64 r.kind, .string r.text, .int .i64 r.num, .int .i64 r.den, .int .i64 i] 29)) := below_alloc hB2 _; have hJ1 := HJ.out _ _ _ none HJr.out (grown_of_below hbel) (fun r e => by cases e); obtain ⟨fn, tmps, assign, body, hy, hRnd⟩ := HY.out pre { r with at_ := i } _ hJ1 (by omega); have HBel := Aside0.mk hbel; have HRnd := Aside0.mk hRnd; clear hbel hJ1 hRnd hB2; dsimp only [encT] at hy))
        refine HRnd.out.mono ?_
        rintro e W' (⟨rfl, hJ', hk⟩ | ⟨rfl, hJx'⟩)
        · have HJ' := Aside0.mk hJ'
          have HK' := Aside0.mk hk
          have hw3 : w1.heap.size ≤ W'.heap.size := Nat.le_trans hwr (Nat.le_trans HBel.out.size hk.1.size)
          have HS' := Aside0.mk (hk.keep (blk_below HSr.out HBel.out) (by decide) (by decide))
          have HR' := Aside0.mk (hk.keep (blk_below HRr.out HBel.out) (by decide) (by decide))
          have HB' := Aside0.mk ((below_step HBr.out HBel.out).trans hk.1)
          have hsc' : W'.cell? ⟨sb, 0, none⟩ = some (.string s) := (blk_cell HS'.out 0).trans rfl
          clear hJ' hk hy
          gi_wp2_with (first | (refine ⟨trivial, ?_⟩; gi_at_call 73; rw [E1.out]; refine (callsIn_wide.2 (HBLa.out _)).mono ?_; rintro e w5 ⟨rfl, ⟨nd5, rfl⟩⟩))
          have hbel5 : Below W'.heap.size W' (W'.drewN nd5) := pw_below_drewN (Below.refl _ _) nd5
          exact ⟨⟨i + m + q, k, pre ++ [{ r with at_ := i }], by simp, hm3, by simp; omega, by omega, ⟨by rw [← HX.out]; simp [List.drop_drop, Nat.add_assoc]⟩, ⟨HJ.out _ _ _ none HJ'.out (grown_of_below hbel5) (fun r e => by cases e)⟩, ⟨below_step HB'.out hbel5⟩, ⟨blk_below HS'.out hbel5⟩, ⟨blk_below HR'.out hbel5⟩, by have := hbel5.size; omega⟩, by simp [intOf]; omega⟩
        · have HJx' := Aside0.mk hJx'
          clear hJx'
          gi_wp2
          refine bodyPost_ret (results_none rfl _ _ _) rfl ?_
          exact ⟨⟨_, rfl⟩, .inr ⟨_, ⟨_, by rw [List.append_assoc]; exact HX.out⟩, HJx'.out⟩⟩
      · have hb : (r.err != 0) = true := by simpa using he
        rw [seqT_bad X k _ i r HR.out hne he] at hx
        have HX := Aside0.mk hx
        clear hx
        gi_wp2_with (first | (refine ⟨trivial, ?_⟩; gi_at_call 74; refine (callsIn_wide.2 (HFV.out _ (HT.out.below HBr.out) HRr.out)).mono ?_; rintro e w2 ⟨rfl, hB2⟩; have hbel : Below wr.heap.size wr (w2.alloc (.cells #[.int .i64 r.kind, .string r.text, .int .i64 r.num, .int .i64 r.den, .int .i64 i] 29)) := below_alloc hB2 _; have hJ1 := HJ.out _ _ _ none HJr.out (grown_of_below hbel) (fun r e => by cases e); obtain ⟨fn, tmps, assign, body, hy, hRnd⟩ := HY.out pre { r with at_ := i } _ hJ1 (by omega); have HBel := Aside0.mk hbel; have HRnd := Aside0.mk hRnd; clear hbel hJ1 hRnd hB2; dsimp only [encT] at hy))
        refine HRnd.out.mono ?_
        rintro e W' (⟨rfl, hJ', hk⟩ | ⟨rfl, hJx'⟩)
        · have HJ' := Aside0.mk hJ'
          clear hJ' hk
          gi_wp2
          refine bodyPost_ret (results_none rfl _ _ _) rfl ?_
          exact ⟨⟨_, rfl⟩, .inl ⟨_, HX.out, HJ'.out⟩⟩
        · have HJx' := Aside0.mk hJx'
          clear hJx'
          gi_wp2
          refine bodyPost_ret (results_none rfl _ _ _) rfl ?_
          exact ⟨⟨_, rfl⟩, .inr ⟨_, ⟨[], by rw [List.append_nil]; exact HX.out⟩, HJx'.out⟩⟩
    · obtain rfl : i = s.size := by omega
      have hx := HX.out
      rw [drop_end s s.size (Nat.le_refl _), seqT_nil, List.append_nil] at hx
      have HX' := Aside0.mk hx
      clear hx HX
      gi_wp2
      go_end0
      exact ⟨⟨_, rfl⟩, .inl ⟨_, HX'.out, HJr.out⟩⟩
end Go.Proofs.YteokilkcchdeiaaGreatDoor.X
end
section
namespace Go.Proofs.YteokilkcchdeiaaGreatDoor.X
open Go.RowKit Go.Shelf Go.Proofs.YteokilkcchdeiaaGreatDoor Go.Proofs.YteokilkcchdeiaaGreatDoorW.PrintWords Go.Proofs.YteokilkcchdeiaaGreatDoorW.PrintLast Go.Proofs.YteokilkcchdeiaaGreatDoorW.PrintMore Go.Proofs.YteokilkcchdeiaaGreatDoor.Q
attribute [local go_sem] Oper.semAt_some
def tokS (r : Rd) : S29 := ⟨r.kind, r.text, ⟨r.num, r.den⟩, r.at_⟩
def cellsS (x : S29) : List Value := [.int .i64 x.f0, .string x.f1, .int .i64 x.f2.f0, .int .i64 x.f2.f1, .int .i64 x.f3]
theorem reps_cells (w : World) (base : Nat) (ok : Nat → Prop) (xs : List S29) : Reps (k29.M w base ok) 5 xs (xs.flatMap cellsS) := by
  induction xs with
  | nil => exact Reps.none _ _
  | cons x xs ih =>
    refine ⟨by rw [List.flatMap_cons, List.length_append, ih.1]; simp [cellsS]; omega, fun j p hj => ?_⟩
    cases j with
    | zero =>
      obtain rfl : x = p := by simpa using hj
      simpa [cellsS] using k29_mkM w base ok x
    | succ j =>
      have h2 := ih.2 j p (by simpa using hj)
      rw [List.flatMap_cons, show (j + 1) * 5 = 5 + j * 5 by omega, ← List.drop_drop, show List.drop 5 (cellsS x ++ xs.flatMap cellsS) = xs.flatMap cellsS from by simp [cellsS]]
      exact h2
theorem row_R {w : World} {base : Nat} {v : Value} {xs : List S29} (h : w.ownsRow base 29 5 v xs.length (xs.flatMap cellsS)) : Kd.R k29 29 w base (fun _ => True) v xs :=
  ⟨fun _ _ => trivial, _, h, reps_cells _ _ _ _⟩
def tokR (ys : List Rd) (n : Nat) : List S29 × Int × Int :=
  match ys.getLast? with
  | some r => if r.err = 0 then (ys.map tokS ++ [⟨0, ⟨#[]⟩, ⟨0, 0⟩, n⟩], 0, 0) else ([], r.at_, r.err)
  | none => ([⟨0, ⟨#[]⟩, ⟨0, 0⟩, n⟩], 0, 0)
def tokensOf (X : Lex) (s : ByteArray) : List S29 × Int × Int :=
  if 4000 < s.size then ([], 0, 4) else tokR (seqT X 4001 (s.data.toList.drop (X.B s.data.toList)) (X.B s.data.toList)) s.size
theorem scan1_stops (X : Lex) (n : Nat) (hn : 1 ≤ n) (sb : Nat) (s : ByteArray) (hs : s.size ≤ 4000) (w0 w : World) (hT : Tabs w0) (hB : Below w0.heap.size w0 w) (hsb : w.heap[sb]? = some (.cells #[.string s] 9 (0, 0))) :
    SeqStopsK Fence.wide n Tryz.prog 67 #[.pointer (some ⟨sb, 0, none⟩)] encT (Kt w0.heap.size) (fun ys => ys = seqT X 4001 (s.data.toList.drop (X.B s.data.toList)) (X.B s.data.toList)) (fun pre => pre <+: seqT X 4001 (s.data.toList.drop (X.B s.data.toList)) (X.B s.data.toList)) 4001 w :=
  fun l J Jx W hW hJ hJx hY h0 => scan1_in X n hn l sb s hs w0 W J Jx hJ hJx hY hT (below_step hB hW) (blk_below hsb hW) h0 _ rfl
theorem scan_any (s : ByteArray) (w : World) : Calls Tryz.prog 43 #[.string s] w fun e w' => e = .returned (.func (.func 67) #[] #[.pointer (some ⟨w.heap.size, 0, none⟩)]) ∧ w' = w.alloc (.cells #[.string s] 9) := by
  have hmf : ∀ (fn : Fn) (first cap : Array Value) (w : World), (Instr.makeFunc fn first cap).run Tryz.prog w = .ok (.func fn first cap) w := fun _ _ _ _ => rfl
  go_enter Tryz.func43, Tryz.ntmps43
  go_wp2
  go_ret
  exact ⟨rfl, rfl⟩
theorem blk_at {w : World} {o : Obj} {k : Nat} (h : w.heap.size = k) : (w.alloc o).heap[k]? = some o := by subst h; exact blk_new w o
theorem res3 {w : World} {tmps : Array Value} {a b c : Nat} {v0 v1 v2 : Value} (h0 : tmps.getD 2 undef = .pointer (some ⟨a, 0, none⟩)) (h1 : tmps.getD 3 undef = .pointer (some ⟨b, 0, none⟩)) (h2 : tmps.getD 4 undef = .pointer (some ⟨c, 0, none⟩))
    (c0 : w.heap[a]? = some (.cells #[v0] 38 (0, 0))) (c1 : w.heap[b]? = some (.cells #[v1] 3 (0, 0))) (c2 : w.heap[c]? = some (.cells #[v2] 22 (0, 0))) :
    (results Tryz.f17 tmps).run Tryz.prog w = .ok (.tuple #[v0, v1, v2]) w := by
  have k0 : w.cell? ⟨a, 0, none⟩ = some v0 := (blk_cell c0 0).trans rfl
  have k1 : w.cell? ⟨b, 0, none⟩ = some v1 := (blk_cell c1 0).trans rfl
  have k2 : w.cell? ⟨c, 0, none⟩ = some v2 := (blk_cell c2 0).trans rfl
  have e0 : tmps[2]?.getD undef = .pointer (some ⟨a, 0, none⟩) := by simpa using h0
  have e1 : tmps[3]?.getD undef = .pointer (some ⟨b, 0, none⟩) := by simpa using h1
  have e2 : tmps[4]?.getD undef = .pointer (some ⟨c, 0, none⟩) := by simpa using h2
  simp [results, Tryz.results17, asAddr, e0, e1, e2, go_sem, k0, k1, k2]
set_option maxHeartbeats 1000000 in
set_option maxRecDepth 100000 in
theorem tokens_long (s : ByteArray) (hs : 4000 < s.size) (w : World) :
    Calls Tryz.prog 17 #[.string s] w fun e w' => e = .returned (.tuple #[.slice none 0 0, .int .i64 0, .int .i64 4]) ∧ Below w.heap.size w w' := by
  have hd : decide (4000 < (s.size : Int)) = true := decide_eq_true (by omega)
  have hd2 : decide (4000 < s.size) = true := decide_eq_true (by omega)
  go_enter Tryz.func17, Tryz.ntmps17
  go_wp2
  refine bodyPost_ret (res3 (v0 := .slice none 0 0) (v1 := .int .i64 0) (v2 := .int .i64 4) rfl rfl rfl (blk_alloc (blk_alloc (blk_new w _) _) _) (blk_alloc (blk_at (by rw [World.size_alloc])) _) (blk_at (by rw [World.size_alloc, World.size_alloc]))) rfl ?_
  exact ⟨rfl, ((Below.refl _ w).alloc (Nat.le_refl _) _).alloc (by simp) _ |>.alloc (by simp; omega) _⟩
theorem info_parts29 : ∃ i0, Tryz.prog.info? 29 = some i0 ∧ i0.zero = some (.agg #[.int .i64 0, .string ⟨#[]⟩, .int .i64 0, .int .i64 0, .int .i64 0]) ∧ i0.size = 5 ∧ i0.bytes = 48 := info_parts info29
theorem Kt_put {n0 B : Nat} (hn : n0 ≤ B) (W : World) (l : Nat) (o o' : Obj) (hl : B ≤ l) (h : W.heap[l]? = some o) (hc : o.isCells = false) (hw : o.isWalk = false) : Kt n0 W (W.putObj l o') :=
  ⟨(Below.refl n0 W).grown (grownBy_putObj' W l o') (by have := (Array.getElem?_eq_some_iff.1 h).1; omega) (fun k e => by cases e; omega), fun k c t _ _ hk => ((grownBy_putObj' W l o').block k (Array.getElem?_eq_some_iff.1 hk).1 (fun e => by cases e; rw [h] at hk; cases hk; cases hc)).trans hk⟩
theorem Kt_alloc {n0 : Nat} (W : World) (hn : n0 ≤ W.heap.size) (o : Obj) : Kt n0 W (W.alloc o) := ⟨(Below.refl n0 W).alloc hn o, fun _ _ _ _ _ h => blk_alloc h o⟩
theorem Kt_set {n0 : Nat} {W : World} {b : Nat} {c : Array Value} {t : TypeId} (h : W.heap[b]? = some (.cells c t (0, 0))) (hb : n0 ≤ b) (ht : t = 38 ∨ t = 29) (i : Nat) (v : Value) : Kt n0 W (W.setCell ⟨b, i, none⟩ v) :=
  ⟨(Below.refl n0 W).setCell (p := ⟨b, i, none⟩) hb v, fun k c' t' h1 h2 hk => blk_far hk (p := ⟨b, i, none⟩) (blk_ne hk h (by rintro rfl; rcases ht with h' | h' <;> simp_all)) v⟩
theorem Kt_row {n0 : Nat} {W w1 : World} {v : Value} {k : Nat} {xs : List Value} (hrow : W.ownsRow n0 29 5 v k xs) (hn : n0 ≤ W.heap.size) (hgrow : W.grownBy w1 v.ownBlock) : Kt n0 W w1 := by
  refine ⟨(Below.refl n0 W).grown hgrow hn fun j ej => ?_, fun j c t h1 h2 hj => (hgrow.block j (blk_lt hj) fun ej => ?_).trans hj⟩
  · rcases hrow.2 with ⟨rfl, _⟩ | ⟨g, cap, cur, rfl, hb, _, _⟩
    · simp [Value.ownBlock] at ej
    · obtain rfl : g = j := by simpa [Value.ownBlock] using ej
      exact hb
  · rcases hrow.2 with ⟨rfl, _⟩ | ⟨g, cap, cur, rfl, hb, hg, _⟩
    · simp [Value.ownBlock] at ej
    · obtain rfl : j = g := by simpa [Value.ownBlock] using ej
      rw [hj] at hg; cases hg; exact h2 rfl
theorem five_new (W : World) (a b c d e : Value) (t : TypeId) : ∀ (j : Nat) (u : Value), [a, b, c, d, e][j]? = some u → (W.alloc (.cells #[a, b, c, d, e] t)).cell? ((⟨W.heap.size, 0, none⟩ : Addr).add j) = some u := by
  intro j u h
  have e1 : ((⟨W.heap.size, 0, none⟩ : Addr).add j) = ⟨W.heap.size, j, none⟩ := by simp only [Addr.add]; split <;> simp_all
  rw [e1]
  refine (blk_cell (blk_new W (.cells #[a, b, c, d, e] t)) j).trans ?_
  simpa using h
theorem tokR_ok {ys : List Rd} {n : Nat} (h : ∀ x ∈ ys, x.err = 0) : tokR ys n = (ys.map tokS ++ [⟨0, ⟨#[]⟩, ⟨0, 0⟩, n⟩], 0, 0) := by
  unfold tokR
  cases hl : ys.getLast? with
  | none => rw [List.getLast?_eq_none_iff.1 hl]; rfl
  | some r => simp only [if_pos (h r (List.mem_of_getLast? hl))]
theorem tokR_bad {ys : List Rd} {n : Nat} {x : Rd} (h : ys.getLast? = some x) (he : ¬ x.err = 0) : tokR ys n = ([], x.at_, x.err) := by
  unfold tokR
  rw [h]; simp only [if_neg he]
theorem seqT_stop (X : Lex) {x : Rd} (hx : ¬ x.err = 0) : ∀ (k : Nat) (l : List UInt8) (i : Nat) (pre : List Rd), pre <+: seqT X k l i → pre.getLast? = some x → seqT X k l i = pre
  | 0, l, i, pre, hp, hl => by
    have : pre = [] := by simpa [seqT] using hp
    subst this; simp at hl
  | k + 1, l, i, pre, hp, hl => by
    cases pre with
    | nil => simp at hl
    | cons y pre =>
      by_cases hne : l = []
      · subst hne; rw [seqT_nil] at hp; simp at hp
      · by_cases he : (X.F l).err = 0
        · rw [seqT_ok X k l i _ rfl hne he] at hp ⊢
          obtain ⟨rfl, hp2⟩ := List.cons_prefix_cons.1 hp
          cases pre with
          | nil =>
            simp at hl; subst hl
            exact absurd he hx
          | cons z pre =>
            rw [seqT_stop X hx k _ _ (z :: pre) hp2 (by simpa [List.getLast?_cons_cons] using hl)]
        · rw [seqT_bad X k l i _ rfl hne he] at hp ⊢
          obtain ⟨rfl, hp2⟩ := List.cons_prefix_cons.1 hp
          have : pre = [] := by simpa using hp2
          rw [this]
def TokI (w : World) (pre : List Rd) (W : World) : Prop :=
  ((∃ v, Boxed W (w.heap.size + 1 + 1 + 1) 38 v ∧ W.ownsRow w.heap.size 29 5 v pre.length ((pre.map tokS).flatMap cellsS) ∧ (∀ x ∈ pre, x.err = 0)) ∧ (Boxed W w.heap.size 38 (.slice none 0 0) ∧ Boxed W (w.heap.size + 1) 3 (.int .i64 0) ∧ Boxed W (w.heap.size + 1 + 1) 22 (.int .i64 0))) ∧ Below w.heap.size w W
def TokX (w : World) (c : Code) (pre : List Rd) (W : World) : Prop :=
  (c = .ret ∧ ∃ x, pre.getLast? = some x ∧ ¬ x.err = 0 ∧ (Boxed W w.heap.size 38 (.slice none 0 0) ∧ Boxed W (w.heap.size + 1) 3 (.int .i64 x.at_) ∧ Boxed W (w.heap.size + 1 + 1) 22 (.int .i64 x.err))) ∧ Below w.heap.size w W
theorem TokI_own {w : World} {B : Nat} (hB : w.heap.size ≤ B) : OwnFrom B (TokI w) :=
  OwnFrom.and (OwnFrom.and (Own.from (holdsRow_own w.heap.size (w.heap.size + 1 + 1 + 1) 38 29 5 (fun pre : List Rd => pre.length) (fun pre => (pre.map tokS).flatMap cellsS) (fun pre _ => ∀ x ∈ pre, x.err = 0)) _)
    (OwnFrom.and (Own.from (boxed_own _ _ (fun _ => .slice none 0 0)) _) (OwnFrom.and (Own.from (boxed_own _ _ (fun _ => .int .i64 0)) _) (Own.from (boxed_own _ _ (fun _ => .int .i64 0)) _)))) (ownFrom_below (Nat.le_refl _) hB)
theorem TokX_own {w : World} {B : Nat} (hB : w.heap.size ≤ B) (c : Code) : OwnFrom B (TokX w c) := by
  rintro pre X Y row ⟨⟨rfl, x, hx, he, b0, b1, b2⟩, hb⟩ hg hr
  have hne : ∀ {b t v}, Boxed X b t v → some b ≠ row := fun hv e' => by
    obtain ⟨_, o, ho, hc⟩ := hr _ e'.symm
    rw [show X.heap[_]? = _ from hv] at ho; cases ho; cases hc
  exact ⟨⟨rfl, x, hx, he, b0.kept hg (hne b0), b1.kept hg (hne b1), b2.kept hg (hne b2)⟩, ownFrom_below (β := Unit) (Nat.le_refl _) hB () X Y row hb hg hr⟩
set_option maxHeartbeats 2000000 in
set_option maxRecDepth 100000 in
theorem tokens_in (X : Lex) (s : ByteArray) (hs : s.size ≤ 4000) (w : World) (hT : Tabs w) :
    CallsIn Fence.wide 10 Tryz.prog 17 #[.string s] w fun e w' => ∃ v0_ : Value, e = .returned (.tuple #[v0_, .int .i64 (tokensOf X s).2.1, .int .i64 (tokensOf X s).2.2]) ∧ Kd.R k29 29 w' w.heap.size (fun _ => True) v0_ (tokensOf X s).1 ∧ Below w.heap.size w w' := by
  have hd : decide (4000 < (s.size : Int)) = false := decide_eq_false (by omega)
  have hd2 : decide (4000 < s.size) = false := decide_eq_false (by omega)
  obtain ⟨i0, hi, hz0, hz1, hz2⟩ := info_parts29
  have HT := Aside0.mk hT
  have HI := Aside0.mk hi
  have HZ0 := Aside0.mk hz0
  have HZ1 := Aside0.mk hz1
  have HZ2 := Aside0.mk hz2
  clear hT hi hz0 hz1 hz2
  refine callsIn_of_wp_marks Tryz.func17 rfl trivial ?_ rfl
  simp only [Tryz.ntmps17, List.size_toArray, List.length_cons, List.length_nil, Nat.reduceAdd, Nat.reduceSub, Array.replicate_succ, Array.replicate_zero, List.push_toArray, List.append_toArray, List.nil_append, List.cons_append]
  gi_wp2_with (first | (refine ⟨trivial, ?_⟩; gi_at_call 43; refine (callsIn_wide.2 (scan_any s _)).mono ?_; rintro e w2 ⟨rfl, rfl⟩))
  have hB0 : Below w.heap.size w (((((w.alloc (.cells #[.slice none 0 0] 38)).alloc (.cells #[.int .i64 0] 3)).alloc (.cells #[.int .i64 0] 22)).alloc (.cells #[.slice none 0 0] 38)).alloc (.cells #[.string s] 9)) :=
    ((((Below.refl _ w).alloc (Nat.le_refl _) _).alloc (by simp) _).alloc (by simp; omega) _).alloc (by simp; omega) _ |>.alloc (by simp; omega) _
  have bR := ((((Boxed.new w 38 (.slice none 0 0)).alloc (.cells #[.int .i64 0] 3)).alloc (.cells #[.int .i64 0] 22)).alloc (.cells #[.slice none 0 0] 38)).alloc (.cells #[.string s] 9)
  have bA := (((Boxed.new (w.alloc (.cells #[.slice none 0 0] 38)) 3 (.int .i64 0)).alloc (.cells #[.int .i64 0] 22)).alloc (.cells #[.slice none 0 0] 38)).alloc (.cells #[.string s] 9)
  have bE := ((Boxed.new ((w.alloc (.cells #[.slice none 0 0] 38)).alloc (.cells #[.int .i64 0] 3)) 22 (.int .i64 0)).alloc (.cells #[.slice none 0 0] 38)).alloc (.cells #[.string s] 9)
  have bL := (Boxed.new (((w.alloc (.cells #[.slice none 0 0] 38)).alloc (.cells #[.int .i64 0] 3)).alloc (.cells #[.int .i64 0] 22)) 38 (.slice none 0 0)).alloc (.cells #[.string s] 9)
  have bS := Boxed.new ((((w.alloc (.cells #[.slice none 0 0] 38)).alloc (.cells #[.int .i64 0] 3)).alloc (.cells #[.int .i64 0] 22)).alloc (.cells #[.slice none 0 0] 38)) 9 (.string s)
  have hsz : (((((w.alloc (.cells #[.slice none 0 0] 38)).alloc (.cells #[.int .i64 0] 3)).alloc (.cells #[.int .i64 0] 22)).alloc (.cells #[.slice none 0 0] 38)).alloc (.cells #[.string s] 9)).heap.size = w.heap.size + 5 := by simp
  simp only [World.size_alloc] at bA bE bL bS
  obtain ⟨W0, hW0⟩ : ∃ W0, ((((w.alloc (.cells #[.slice none 0 0] 38)).alloc (.cells #[.int .i64 0] 3)).alloc (.cells #[.int .i64 0] 22)).alloc (.cells #[.slice none 0 0] 38)).alloc (.cells #[.string s] 9) = W0 := ⟨_, rfl⟩
  rw [hW0] at bR bA bE bL bS hB0 hsz ⊢
  clear hW0
  have hle : w.heap.size ≤ W0.heap.size := by omega
  refine wpIn_rangeFunc_ownH rfl (by omega) (gf := 67) (lb := #[.pointer (some ⟨w.heap.size + 1 + 1 + 1 + 1, 0, none⟩)]) rfl trivial (enters_of Tryz.func67 (by kernel_rfl) rfl)
    (scan1_stops X 9 (by omega) (w.heap.size + 1 + 1 + 1 + 1) s hs w W0 HT.out hB0 bS) Kt.trans (fun W l o o' h1 h2 h3 h4 => Kt_put hle W l o o' h1 h2 h3 h4) (Below.refl _ _) (fun _ => rfl)
    (TokI w) (TokX w) (TokI_own hle) (TokX_own hle) ⟨⟨⟨_, bL, World.ownsRow_nil _ _ _ _, by simp⟩, bR, bA, bE⟩, hB0⟩
    (fun x a' W => ∃ Bx, w.heap.size ≤ Bx ∧ W.heap[Bx]? = some (.cells #[.int .i64 x.kind, .string x.text, .int .i64 x.num, .int .i64 x.den, .int .i64 x.at_] 29 (0, 0)) ∧
      a' = { tmps := #[.string s, undef, .pointer (some ⟨w.heap.size, 0, none⟩), .pointer (some ⟨w.heap.size + 1, 0, none⟩), .pointer (some ⟨w.heap.size + 1 + 1, 0, none⟩), .pointer (some ⟨w.heap.size + 1 + 1 + 1, 0, none⟩), .pointer (some ⟨Bx, 0, none⟩), .int .i64 x.err, .string s, .int .i64 s.size, .bool false, .string s,
        .func (.func 67) #[] #[.pointer (some ⟨w.heap.size + 1 + 1 + 1 + 1, 0, none⟩)], .agg #[.int .i64 x.kind, .string x.text, .int .i64 x.num, .int .i64 x.den, .int .i64 x.at_], .int .i64 x.err, undef, undef, undef, undef, undef, undef, undef, undef, undef, undef, undef, undef, undef, undef, undef], defers := [] })
    (fun x a' _ X Y row hs hg hr => by
      obtain ⟨Bx, h1, h2, h3⟩ := hs
      exact ⟨Bx, h1, (hg.block Bx (Array.getElem?_eq_some_iff.1 h2).1 (fun e' => by obtain ⟨_, o, ho, hc⟩ := hr _ e'.symm; rw [h2] at ho; cases ho; cases hc)).trans h2, h3⟩)
    ?assign ?body ?done ?stop
  case assign =>
    rintro l pre x W K hI hK
    simp only [encT]
    gi_wp2
    have hWs := hI.2.size
    obtain ⟨⟨⟨v, hv, hrow, hok⟩, hR, hA, hE⟩, hB⟩ := hI
    exact hK _ _ ((KeepsOthers.alloc _ _).from _) (Kt_alloc W hWs _) ⟨⟨⟨v, hv.alloc _, hrow.alloc _, hok⟩, hR.alloc _, hA.alloc _, hE.alloc _⟩, hB.alloc hWs _⟩ ⟨W.heap.size, hWs, blk_new W _, rfl⟩
  case body =>
    rintro l pre x a' W hl hr ⟨⟨⟨v, hv, hrow, hok⟩, hR, hA, hE⟩, hB⟩ ⟨Bx, hBx, hX, rfl⟩ hlt
    have hWs := hB.size
    obtain ⟨⟨x0, x1, x2, x3, x4⟩, y0, y1, y2, y3, y4⟩ := box_cells5 hX
    by_cases hx : x.err = 0
    · have hxb : (x.err != 0) = false := by simp [hx]
      have hc := hv.cell
      have hf := hv.frozen
      have hvlt := hv.lt
      gi_wp2_with (gi_at_builtin; refine wpListIn_append_own _ rfl _ _ 38 rfl w.heap.size 29 i0 (.agg #[.int .i64 0, .string ⟨#[]⟩, .int .i64 0, .int .i64 0, .int .i64 0]) 5 48 Tryz.underlying38 HI.out HZ0.out HZ1.out HZ2.out rfl (by decide) _ _ _ rfl (hrow.alloc _) ⟨W.heap.size, 0, none⟩ 1 1 (cellsS (tokS x)) rfl rfl (five_new _ _ _ _ _ _ _) (by simp [Value.oneCell', cellsS]) (by simp only [maxLen]; omega) (by omega) (by simp; omega) ?_; intro v' w1 hown' hgrow _; obtain ⟨g', cap', rfl⟩ := ownsRow_succ hown'; obtain ⟨hv1, hv2, hr2, hk2, hb2⟩ := hv.appended (by decide) hrow hWs (by omega) hown' hgrow; have hc1 := hv1.cell; have hf1 := hv1.frozen; have HG := Aside0.mk hgrow; have HR2 := Aside0.mk hr2; have HK2 := Aside0.mk hk2; have HB2 := Aside0.mk hb2; have HV2 := Aside0.mk hv2; have HV1 := Aside0.mk hv1; clear hgrow hr2 hk2 hb2 hv2 hown' hv1)
      have hg := HG.out
      have hvn := HV1.out
      have kt : Kt w.heap.size W (w1.setCell ⟨w.heap.size + 1 + 1 + 1, 0, none⟩ (.slice (some ⟨g', 0, none⟩) (pre.length + 1) cap')) := ((Kt_alloc W hWs _).trans (Kt_row (hrow.alloc _) (by simp; omega) hg)).trans (Kt_set (c := #[v]) hvn (by omega) (.inl rfl) 0 _)
      refine ⟨HK2.out.from _, kt, ⟨⟨⟨_, HV2.out, by simpa using HR2.out, ?_⟩, ((hR.alloc _).kept hg (hR.not_row (by decide) hrow)).other (by omega) _, ((hA.alloc _).kept hg (hA.not_row (by decide) hrow)).other (by omega) _, ((hE.alloc _).kept hg (hE.not_row (by decide) hrow)).other (by omega) _⟩, hB.trans HB2.out⟩⟩
      intro y hy
      rcases List.mem_append.1 hy with hy | hy
      · exact hok y hy
      · rw [List.mem_singleton.1 hy]; exact hx
    · have hxb : (x.err != 0) = true := by simp [hx]
      have hcR := hR.cell
      have hcA := hA.cell
      have hcE := hE.cell
      have hfR := hR.frozen
      have hfA := hA.frozen
      have hfE := hE.frozen
      gi_wp2
      gi_region
      all_goals gi_wp2
      all_goals
        refine ⟨((((KeepsOthers.setCell _ _ _).trans (KeepsOthers.setCell _ _ _)).trans (KeepsOthers.setCell _ _ _)).trans (KeepsOthers.drew _)).from _, ⟨⟨rfl, x, by simp, hx, ?_, ?_, ?_⟩, ?_⟩⟩
        · exact (((hR.set _).other (by omega) _).other (by omega) _)
        · exact (((hA.other (by omega) _).set _).other (by omega) _)
        · exact (((hE.other (by omega) _).other (by omega) _).set _)
        · exact (((hB.setCell (p := ⟨w.heap.size, 0, none⟩) (Nat.le_refl _) _).setCell (p := ⟨w.heap.size + 1, 0, none⟩) (by simp) _).setCell (p := ⟨w.heap.size + 1 + 1, 0, none⟩) (by simp; omega) _).drew
  case done =>
    rintro D ys W hD hys ⟨⟨⟨v, hv, hrow, hok⟩, hR, hA, hE⟩, hB⟩ hK
    have hlt : ys.length ≤ 4001 := by rw [hys]; exact seqT_len _ _ _ _
    have hWs := hB.size
    have hc := hv.cell
    gi_wp2_with (gi_at_builtin; refine wpListIn_append_own _ rfl _ _ 38 rfl w.heap.size 29 i0 (.agg #[.int .i64 0, .string ⟨#[]⟩, .int .i64 0, .int .i64 0, .int .i64 0]) 5 48 Tryz.underlying38 HI.out HZ0.out HZ1.out HZ2.out rfl (by decide) _ _ _ rfl (hrow.alloc _) ⟨W.heap.size, 0, none⟩ 1 1 (cellsS ⟨0, ⟨#[]⟩, ⟨0, 0⟩, s.size⟩) rfl rfl (five_new _ _ _ _ _ _ _) (by simp [Value.oneCell', cellsS]) (by simp only [maxLen]; omega) (by omega) (by simp; omega) ?_; intro v' w1 hown' hgrow _; obtain ⟨g', cap', rfl⟩ := ownsRow_succ hown'; have hR1 := (hR.alloc (.cells #[.int .i64 0, .string ⟨#[]⟩, .int .i64 0, .int .i64 0, .int .i64 s.size] 29)).kept hgrow (hR.not_row (by decide) hrow); have hA1 := (hA.alloc (.cells #[.int .i64 0, .string ⟨#[]⟩, .int .i64 0, .int .i64 0, .int .i64 s.size] 29)).kept hgrow (hA.not_row (by decide) hrow); have hE1 := (hE.alloc (.cells #[.int .i64 0, .string ⟨#[]⟩, .int .i64 0, .int .i64 0, .int .i64 s.size] 29)).kept hgrow (hE.not_row (by decide) hrow); have cR1 := hR1.cell; have cA1 := hA1.cell; have cE1 := hE1.cell; have fR1 := hR1.frozen; have fA1 := hA1.frozen; have fE1 := hE1.frozen; have HG := Aside0.mk hgrow; have HO := Aside0.mk hown'; have HR1 := Aside0.mk hR1; have HA1 := Aside0.mk hA1; have HE1 := Aside0.mk hE1; clear hgrow hown' hR1 hA1 hE1)
    have hg : (W.alloc (.cells #[.int .i64 0, .string ⟨#[]⟩, .int .i64 0, .int .i64 0, .int .i64 s.size] 29)).grownBy w1 v.ownBlock := HG.out
    have hown := HO.out
    have b0 := ((HR1.out.set (.slice (some ⟨g', 0, none⟩) (ys.length + 1) cap')).other (B' := w.heap.size + 1) (by omega) (.int .i64 0)).other (B' := w.heap.size + 1 + 1) (by omega) (.int .i64 0)
    have b1 := ((HA1.out.other (B' := w.heap.size) (by omega) (.slice (some ⟨g', 0, none⟩) (ys.length + 1) cap')).set (.int .i64 0)).other (B' := w.heap.size + 1 + 1) (by omega) (.int .i64 0)
    have b2 := ((HE1.out.other (B' := w.heap.size) (by omega) (.slice (some ⟨g', 0, none⟩) (ys.length + 1) cap')).other (B' := w.heap.size + 1) (by omega) (.int .i64 0)).set (.int .i64 0)
    have hKO := ((((KeepsOthers.alloc W _).trans (KeepsOthers.of_grownBy hg fun j o ej hj => by
      rcases (hrow.alloc (.cells #[.int .i64 0, .string ⟨#[]⟩, .int .i64 0, .int .i64 0, .int .i64 s.size] 29)).2 with ⟨rfl, _⟩ | ⟨g, cap, cur, rfl, _, hgb, _⟩
      · simp [Value.ownBlock] at ej
      · obtain rfl : g = j := by simpa [Value.ownBlock] using ej
        rw [hgb] at hj; cases hj; rfl)).trans (KeepsOthers.setCell _ ⟨w.heap.size, 0, none⟩ (.slice (some ⟨g', 0, none⟩) (ys.length + 1) cap'))).trans (KeepsOthers.setCell _ ⟨w.heap.size + 1, 0, none⟩ (.int .i64 0))).trans (KeepsOthers.setCell _ ⟨w.heap.size + 1 + 1, 0, none⟩ (.int .i64 0))
    have hK3 := hKO.same D _ hK rfl
    have hbel := ((((hB.alloc hWs (.cells #[.int .i64 0, .string ⟨#[]⟩, .int .i64 0, .int .i64 0, .int .i64 s.size] 29)).trans (Kt_row (hrow.alloc _) (by simp; omega) hg).1).setCell (p := ⟨w.heap.size, 0, none⟩) (Nat.le_refl _) (.slice (some ⟨g', 0, none⟩) (ys.length + 1) cap')).setCell (p := ⟨w.heap.size + 1, 0, none⟩) (by simp) (.int .i64 0)).setCell (p := ⟨w.heap.size + 1 + 1, 0, none⟩) (by simp; omega) (.int .i64 0)
    have r1 := hown.kept (grownBy_setCell' w1 w.heap.size (.slice (some ⟨g', 0, none⟩) (ys.length + 1) cap')) (.inr (HR1.out.not_row (by decide) hown).symm)
    have r2 := r1.kept (grownBy_setCell' _ (w.heap.size + 1) (.int .i64 0)) (.inr ((HA1.out.other (B' := w.heap.size) (by omega) _).not_row (by decide) r1).symm)
    have r3 := r2.kept (grownBy_setCell' _ (w.heap.size + 1 + 1) (.int .i64 0)) (.inr (((HE1.out.other (B' := w.heap.size) (by omega) _).other (B' := w.heap.size + 1) (by omega) _).not_row (by decide) r2).symm)
    subst hys
    refine ⟨by simp, .inl ⟨_, _, rfl, run_takeDeferred hK3, ?_⟩⟩
    have hnD : ∀ b, b < w.heap.size + 5 → some b ≠ some D := fun b hb e => by cases e; omega
    rw [(show tokensOf X s = tokR (seqT X 4001 (s.data.toList.drop (X.B s.data.toList)) (X.B s.data.toList)) s.size from by unfold tokensOf; rw [if_neg (by omega)]), tokR_ok hok]
    refine ⟨_, res3 rfl rfl rfl (b0.kept (grownBy_putObj' _ D _) (hnD _ (by omega))) (b1.kept (grownBy_putObj' _ D _) (hnD _ (by omega))) (b2.kept (grownBy_putObj' _ D _) (hnD _ (by omega))), _, rfl, row_R (ownsRow_putObj (by simpa using r3) _ hK3 rfl), hbel.trans (Kt_put hle _ D _ _ hD hK3 rfl rfl).1⟩
  case stop =>
    rintro D c pre W hD hpre ⟨⟨rfl, x, hx, he, hR, hA, hE⟩, hB⟩ hK
    have hnD : ∀ b, b < w.heap.size + 5 → some b ≠ some D := fun b hb e => by cases e; omega
    gi_wp2
    refine ⟨by simp, .inl ⟨_, _, rfl, run_takeDeferred hK, ?_⟩⟩
    rw [(show tokensOf X s = tokR (seqT X 4001 (s.data.toList.drop (X.B s.data.toList)) (X.B s.data.toList)) s.size from by unfold tokensOf; rw [if_neg (by omega)]), seqT_stop X he _ _ _ _ hpre hx, tokR_bad hx he]
    refine ⟨_, res3 rfl rfl rfl (hR.kept (grownBy_putObj' _ D _) (hnD _ (by omega))) (hA.kept (grownBy_putObj' _ D _) (hnD _ (by omega))) (hE.kept (grownBy_putObj' _ D _) (hnD _ (by omega))), _, rfl, row_R (World.ownsRow_nil _ _ _ _), hB.trans (Kt_put hle _ D _ _ hD hK rfl rfl).1⟩
end Go.Proofs.YteokilkcchdeiaaGreatDoor.X
end
section
namespace Go.Proofs.YteokilkcchdeiaaGreatDoor.X
open Go.RowKit Go.Shelf Go.Proofs.YteokilkcchdeiaaGreatDoor Go.Proofs.YteokilkcchdeiaaGreatDoorW.PrintWords Go.Proofs.YteokilkcchdeiaaGreatDoorW.PrintLast Go.Proofs.YteokilkcchdeiaaGreatDoorW.PrintMore Go.Proofs.YteokilkcchdeiaaGreatDoor.Q
theorem bt_get (s : ByteArray) (i : Nat) (h : i < s.size) : bt s i = ((s.data.toList.getD i 0).toNat : Int) := by
  unfold bt; rw [dif_pos (by simpa using h)]
  exact tl_get s i h
theorem ext_l (s : ByteArray) (i : Nat) : (s.extract i s.size).data.toList = s.data.toList.drop i := Lib.extract_to_end s i
theorem ext_size (s : ByteArray) (i : Nat) : (s.extract i s.size).size = s.size - i := by
  rw [← tl_size, ext_l, List.length_drop, tl_size]
theorem w64 {n : Int} (h0 : -9223372036854775808 ≤ n) (h1 : n ≤ 9223372036854775807) : wrap64 n = n := by unfold wrap64; omega
theorem get_drop (l : List UInt8) (n : Nat) (c : UInt8) (r : List UInt8) (h : l.drop n = c :: r) : l.getD n 0 = c ∧ l.drop (n + 1) = r ∧ n < l.length := by
  have hn : n < l.length := by
    by_cases hn : n < l.length
    · exact hn
    · rw [List.drop_eq_nil_of_le (by omega)] at h; cases h
  rw [List.drop_eq_getElem_cons hn] at h
  injection h with h1 h2
  exact ⟨by rw [List.getD_eq_getElem?_getD, List.getElem?_eq_getElem hn]; exact h1, h2, hn⟩
def blankG : Bool → List UInt8 → Nat
  | _, [] => 0
  | false, c :: l => if c = 32 ∨ c = 9 ∨ c = 10 then 1 + blankG false l else if c = 35 then 1 + blankG true l else 0
  | true, c :: l => if c = 10 then 1 + blankG false l else 1 + blankG true l
theorem blankG_le : ∀ (b : Bool) (l : List UInt8), blankG b l ≤ l.length
  | _, [] => by simp [blankG]
  | false, c :: l => by
    have h1 := blankG_le false l
    have h2 := blankG_le true l
    unfold blankG; split
    · simp only [List.length_cons]; omega
    · split <;> simp only [List.length_cons] <;> omega
  | true, c :: l => by
    have h1 := blankG_le false l
    have h2 := blankG_le true l
    unfold blankG; split <;> simp only [List.length_cons] <;> omega
theorem blankG_true : ∀ l : List UInt8, (Lib.indexByte l 10 < 0 → blankG true l = l.length) ∧ (0 ≤ Lib.indexByte l 10 → blankG true l = (Lib.indexByte l 10).toNat + blankG false (l.drop (Lib.indexByte l 10).toNat) ∧ (Lib.indexByte l 10).toNat < l.length)
  | [] => by constructor <;> intro h <;> simp_all [Lib.indexByte, blankG]
  | c :: l => by
    obtain ⟨h1, h2⟩ := blankG_true l
    have hge := Lib.indexByte_ge l 10
    by_cases hc : c = 10
    · subst hc
      have e : Lib.indexByte (10 :: l) 10 = 0 := by simp [Lib.indexByte]
      rw [e]
      exact ⟨fun h => absurd h (by decide), fun _ => ⟨by simp [blankG], by simp⟩⟩
    · have hb : blankG true (c :: l) = 1 + blankG true l := by simp [blankG, hc]
      by_cases hi : Lib.indexByte l 10 = -1
      · have e : Lib.indexByte (c :: l) 10 = -1 := by simp [Lib.indexByte, hc, hi]
        rw [e, hb]
        exact ⟨fun _ => by rw [h1 (by omega), List.length_cons]; omega, fun h => absurd h (by decide)⟩
      · have e : Lib.indexByte (c :: l) 10 = Lib.indexByte l 10 + 1 := by simp [Lib.indexByte, hc, hi]
        have e2 : (Lib.indexByte l 10 + 1).toNat = (Lib.indexByte l 10).toNat + 1 := by omega
        rw [e, hb, e2]
        refine ⟨fun h => absurd h (by omega), fun _ => ?_⟩
        obtain ⟨h3, h4⟩ := h2 (by omega)
        rw [h3, List.drop_succ_cons, List.length_cons]
        omega
theorem bt_nat {s : ByteArray} {i : Nat} {c : UInt8} {r : List UInt8} (h : s.data.toList.drop i = c :: r) : bt s i = (c.toNat : Int) := by
  obtain ⟨h1, h2, h3⟩ := get_drop _ _ _ _ h
  rw [bt_get s i (by rw [← tl_size]; exact h3), h1]
theorem u8_int {c : UInt8} (n : Nat) (hn : n < 256) : ((c.toNat : Int) = (n : Int)) ↔ c = UInt8.ofNat n := by
  constructor
  · intro h; exact u8_of (by omega) hn
  · rintro rfl; simp; omega
theorem blank_f (s : ByteArray) (hs : s.size ≤ 4000000) : ∀ (m i k : Nat), s.size - i ≤ m → i ≤ s.size → 2 * m + 3 ≤ k → lexer_blank.l0 k s i = some ((i + blankG false (s.data.toList.drop i) : Nat) : Int) := by
  intro m
  induction m using Nat.strongRecOn with
  | _ m ih =>
    intro i k hm hi hk
    obtain ⟨k, rfl⟩ : ∃ k', k = k' + 2 := ⟨k - 2, by omega⟩
    cases hd : s.data.toList.drop i with
    | nil =>
      have : s.data.toList.length ≤ i := List.drop_eq_nil_iff.1 hd
      rw [tl_size] at this
      unfold lexer_blank.l0
      rw [if_neg (by omega)]
      simp [blankG]
    | cons c r =>
      obtain ⟨h1, h2, h3⟩ := get_drop _ _ _ _ hd
      rw [tl_size] at h3
      have hb := bt_nat hd
      unfold lexer_blank.l0
      rw [if_pos (by omega), if_pos (by omega), hb]
      have hstep : ∀ k', 2 * (m - 1) + 3 ≤ k' → lexer_blank.l0 k' s (wrap64 ((i : Int) + 1)) = some ((i + (1 + blankG false r) : Nat) : Int) := by
        intro k' hk'
        rw [w64 (by omega) (by omega), show ((i : Int) + 1) = ((i + 1 : Nat) : Int) from by omega]
        rw [ih (m - 1) (by omega) (i + 1) k' (by omega) (by omega) hk', h2]
        congr 2; omega
      by_cases hw : c = 32 ∨ c = 9 ∨ c = 10
      · have hg : blankG false (c :: r) = 1 + blankG false r := by simp [blankG, hw]
        rw [hg]
        rcases hw with rfl | rfl | rfl
        · rw [if_pos (by decide)]; unfold lexer_blank.j1; rw [if_pos (by decide)]; exact hstep k (by omega)
        · rw [if_neg (by decide), if_pos (by decide)]; unfold lexer_blank.j1; rw [if_pos (by decide)]; exact hstep k (by omega)
        · rw [if_neg (by decide), if_neg (by decide)]; unfold lexer_blank.j1; rw [if_pos (by decide)]; exact hstep k (by omega)
      · have n32 : ¬ ((c.toNat : Int) = 32) := fun e => hw (.inl ((u8_int 32 (by omega)).1 e))
        have n9 : ¬ ((c.toNat : Int) = 9) := fun e => hw (.inr (.inl ((u8_int 9 (by omega)).1 e)))
        have n10 : ¬ ((c.toNat : Int) = 10) := fun e => hw (.inr (.inr ((u8_int 10 (by omega)).1 e)))
        rw [if_neg n32, if_neg n9]
        unfold lexer_blank.j1
        rw [if_neg (by simpa using n10)]
        by_cases h35 : c = 35
        · subst h35
          have hg : blankG false (35 :: r) = blankG true (35 :: r) := by simp [blankG]
          rw [if_pos (by decide), if_pos (by omega), if_pos (by omega)]
          unfold strings_IndexByte.f
          rw [show ((i : Int).toNat) = i from rfl, ext_l, hd, Option.bind_some]
          obtain ⟨g1, g2⟩ := blankG_true (35 :: r)
          rw [show (Int.toNat 10).toUInt8 = 10 from rfl, hg]
          have hl : (35 :: r : List UInt8).length = s.size - i := by rw [← hd, List.length_drop, tl_size]
          by_cases hn : Lib.indexByte (35 :: r) 10 < 0
          · rw [if_pos hn, g1 hn, hl]
            congr 2; omega
          · rw [if_neg hn]
            obtain ⟨g3, g4⟩ := g2 (by omega)
            have hpos : 0 < (Lib.indexByte (35 :: r) 10).toNat := by
              have : Lib.indexByte (35 :: r) 10 ≠ 0 := by
                simp only [Lib.indexByte]; have := Lib.indexByte_ge r 10; split
                · rename_i h; cases h
                · split
                  · decide
                  · rename_i h; simp at h; omega
              omega
            obtain ⟨e, he⟩ : ∃ e : Nat, Lib.indexByte (35 :: r) 10 = (e : Int) := ⟨(Lib.indexByte (35 :: r) 10).toNat, by omega⟩
            rw [he] at hpos g3 g4 ⊢
            simp only [Int.toNat_natCast] at hpos g3 g4
            rw [w64 (by omega) (by omega), show ((i : Int) + (e : Int)) = ((i + e : Nat) : Int) from by omega]
            rw [ih (m - 1) (by omega) (i + e) k (by omega) (by omega) (by omega), g3, ← hd, List.drop_drop]
            congr 2; omega
        · rw [if_neg (by intro e; exact h35 ((u8_int 35 (by omega)).1 e))]
          have hg : blankG false (c :: r) = 0 := by simp [blankG, hw, h35]
          rw [hg]; simp
def partN (l : List UInt8) : Nat := if letB ((l.headD 0).toNat : Int) then runN wordB l else 0
theorem partN_le (l : List UInt8) : partN l ≤ l.length := by unfold partN; split; exact runN_le _ _; omega
theorem part_f (s : ByteArray) (hs : s.size ≤ 4000000) : lexer_part.f s = some ((partN s.data.toList : Nat) : Int) := by
  unfold lexer_part.f
  rw [Lib.toList_data]
  cases hd : s.data.toList with
  | nil => rw [if_pos rfl]; rfl
  | cons c r =>
    have hsz : 0 < s.size := by rw [← tl_size, hd]; simp
    rw [if_neg (by simp), if_pos (by omega)]
    rw [show bt s 0 = (c.toNat : Int) from bt_nat (i := 0) (by simpa using hd), isLetter_f, Option.bind_some]
    by_cases hl : letB (c.toNat : Int) = true
    · rw [if_pos hl, show partN (c :: r) = runN wordB (c :: r) from if_pos hl]
      unfold lexer_run_part.f
      rw [if_pos (by omega), Option.bind_some, hd]
    · rw [if_neg hl, show partN (c :: r) = 0 from if_neg hl]; rfl
def nameN : Nat → List UInt8 → Nat → Nat
  | 0, _, n => n
  | k + 1, l, n => if 0 < n ∧ n < l.length ∧ l.getD n 0 = 46 ∧ partN (l.drop (n + 1)) ≠ 0 then nameN k l (n + 1 + partN (l.drop (n + 1))) else n
theorem nameN_le (l : List UInt8) : ∀ (k n : Nat), n ≤ l.length → n ≤ nameN k l n ∧ nameN k l n ≤ l.length
  | 0, n, h => by simp [nameN, h]
  | k + 1, n, h => by
    unfold nameN
    split
    · rename_i hc
      have hp := partN_le (l.drop (n + 1))
      rw [List.length_drop] at hp
      have := nameN_le l k (n + 1 + partN (l.drop (n + 1))) (by omega)
      omega
    · exact ⟨Nat.le_refl _, h⟩
def Rd.tup (r : Rd) : Int × ByteArray × Int × Int × Int × Int × Int := (r.kind, r.text, r.num, r.den, r.at_, r.size, r.err)
def nameF (l : List UInt8) (n : Nat) : Rd := if 100 < n then zRd n 4 else ⟨1, ⟨(l.take n).toArray⟩, 0, 0, 0, n, 0⟩
def nameR (l : List UInt8) : Rd := nameF l (nameN (l.length + 1) l (partN l))
theorem name_end (s : ByteArray) (n : Nat) (h : n ≤ s.size) (hs : s.size ≤ 4000000) :
    (if (n : Int) > 100 then (some (0, (⟨#[]⟩ : ByteArray), 0, 0, 0, (n : Int), 4)) else (if 0 ≤ (n : Int) then (if (n : Int) ≤ (s.size : Int) then (some (1, s.extract 0 ((n : Int)).toNat, 0, 0, 0, (n : Int), 0)) else (none)) else (none))) = some (nameF s.data.toList n).tup := by
  unfold nameF
  by_cases hn : 100 < n
  · rw [if_pos (by omega), if_pos hn]; rfl
  · rw [if_neg (by omega), if_neg hn, if_pos (by omega), if_pos (by omega), Int.toNat_natCast, Lib.extract_upto]; rfl
theorem name_l (s : ByteArray) (hs : s.size ≤ 4000000) : ∀ (j n k : Nat), n ≤ s.size → s.size < n + j → 2 * j + 1 ≤ k → lexer_name.l0 k s n = some (nameF s.data.toList (nameN j s.data.toList n)).tup := by
  intro j
  induction j with
  | zero => intro n k h1 h2; omega
  | succ j ih =>
    intro n k h1 h2 hk
    obtain ⟨k, rfl⟩ : ∃ k', k = k' + 2 := ⟨k - 2, by omega⟩
    unfold nameN
    have hj1 : ∀ k', lexer_name.j1 (k' + 1) s n false = some (nameF s.data.toList n).tup := by
      intro k'; unfold lexer_name.j1; rw [if_neg (by decide)]; exact name_end s n h1 hs
    unfold lexer_name.l0
    by_cases hn0 : 0 < n
    · rw [if_pos (by omega)]
      by_cases hn1 : n < s.size
      · rw [if_pos (by omega), if_pos (by omega)]
        have hb := bt_get s n hn1
        by_cases h46 : s.data.toList.getD n 0 = 46
        · rw [show bt s n = 46 from by rw [hb, h46]; rfl, show ((46 : Int) == 46) = true from rfl]
          unfold lexer_name.j1
          rw [if_pos rfl, w64 (by omega) (by omega), if_pos (by omega), if_pos (by omega), show ((n : Int) + 1).toNat = n + 1 from by omega]
          rw [part_f _ (by rw [ext_size]; omega), ext_l, Option.bind_some]
          have hp := partN_le (s.data.toList.drop (n + 1))
          rw [List.length_drop, tl_size] at hp
          by_cases hz : partN (s.data.toList.drop (n + 1)) = 0
          · rw [if_pos (show ((partN (s.data.toList.drop (n + 1)) : Nat) : Int) = 0 from by omega), if_neg (c := 0 < n ∧ n < s.data.toList.length ∧ s.data.toList.getD n 0 = 46 ∧ partN (s.data.toList.drop (n + 1)) ≠ 0) (fun h => h.2.2.2 hz)]
            exact name_end s n h1 hs
          · rw [if_neg (by omega), if_pos ⟨hn0, by rw [tl_size]; exact hn1, h46, hz⟩]
            rw [w64 (n := 1 + _) (by omega) (by omega), w64 (by omega) (by omega), show ((n : Int) + (1 + ((partN (s.data.toList.drop (n + 1)) : Nat) : Int))) = ((n + 1 + partN (s.data.toList.drop (n + 1)) : Nat) : Int) from by omega]
            exact ih _ k (by omega) (by omega) (by omega)
        · rw [if_neg (fun h => h46 h.2.2.1)]
          rw [hb, show (((s.data.toList.getD n 0).toNat : Int) == 46) = false from by
            rw [beq_eq_false_iff_ne]; intro e; exact h46 ((u8_int 46 (by omega)).1 e)]
          exact hj1 k
      · rw [if_neg (by omega), if_neg (fun h => hn1 (by have := h.2.1; rwa [tl_size] at this))]
        exact hj1 k
    · rw [if_neg (by omega), if_neg (fun h => hn0 h.1)]
      exact hj1 k
theorem name_f (s : ByteArray) (hs : s.size ≤ 4000000) : lexer_name.f (2 * (s.size + 1) + 1) s = some (nameR s.data.toList).tup := by
  unfold lexer_name.f nameR
  rw [part_f s hs, Option.bind_some, tl_size]
  exact name_l s hs _ _ _ (by have := partN_le s.data.toList; rwa [tl_size] at this) (by omega) (Nat.le_refl _)
def contB (l : List UInt8) : Bool := wordB ((l.headD 0).toNat : Int)
theorem continues_f (s : ByteArray) : lexer_continues.f s = some (contB s.data.toList) := by
  unfold lexer_continues.f
  rw [Lib.toList_data]
  cases hd : s.data.toList with
  | nil => rw [if_pos rfl]; rfl
  | cons c r =>
    have hsz : 0 < s.size := by rw [← tl_size, hd]; simp
    rw [if_neg (by simp), if_pos (by omega)]
    rw [show bt s 0 = (c.toNat : Int) from bt_nat (i := 0) (by simpa using hd), isLetter_f, Option.bind_some, isDigit_f, Option.bind_some]
    unfold contB wordB
    simp only [List.headD_cons]
    cases letB (c.toNat : Int) <;> simp
theorem prefix_f (s x : ByteArray) : strings_HasPrefix.f s x = some (x.data.toList.isPrefixOf s.data.toList) := by
  unfold strings_HasPrefix.f stringslite_HasPrefix.f
  by_cases h : (x.size : Int) ≤ s.size
  · rw [if_pos (by omega), if_pos (by omega), if_pos h, Option.bind_some, Int.toNat_natCast]
    have := Lib.occ_of_piece s x 0 (by omega)
    unfold Lib.occAt at this
    simp only [Nat.zero_add, List.drop_zero] at this
    rw [this]
  · rw [if_neg (by omega), Option.bind_some]
    congr 1
    symm
    rw [Bool.eq_false_iff]
    intro hp
    have := (List.isPrefixOf_iff_prefix.1 hp).length_le
    rw [tl_size, tl_size] at this
    omega
def unitsP : List (List UInt8 × Int) := [([109, 115], 8), ([100], 0), ([104], 2), ([109], 4), ([115], 6)]
def unitP (l : List UInt8) : List UInt8 × Int := (unitsP.find? (fun u => u.1.isPrefixOf l)).getD ([], -1)
theorem unit_f (s : ByteArray) (k : Nat) (hk : 6 ≤ k) : lexer_unit.f k s = some (⟨(unitP s.data.toList).1.toArray⟩, (unitP s.data.toList).2) := by
  obtain ⟨k, rfl⟩ : ∃ k', k = k' + 6 := ⟨k - 6, by omega⟩
  unfold lexer_unit.f
  rw [Option.bind_some]
  have hx : ∀ (c : List ByteArray) (i : Int), rdOf ByteArray.empty c i = c.getD i.toNat ByteArray.empty := fun _ _ => rfl
  have w1 : wrap64 (0 + 1) = 1 := by decide +kernel
  have w2 : wrap64 (1 + 1) = 2 := by decide +kernel
  have w3 : wrap64 (2 + 1) = 3 := by decide +kernel
  have w4 : wrap64 (3 + 1) = 4 := by decide +kernel
  have w5 : wrap64 (4 + 1) = 5 := by decide +kernel
  have i0 : strings_Index.f (⟨#[100, 32, 104, 32, 109, 32, 115, 32, 109, 115]⟩ : ByteArray) ⟨#[109, 115]⟩ = some 8 := by decide +kernel
  have i1 : strings_Index.f (⟨#[100, 32, 104, 32, 109, 32, 115, 32, 109, 115]⟩ : ByteArray) ⟨#[100]⟩ = some 0 := by decide +kernel
  have i2 : strings_Index.f (⟨#[100, 32, 104, 32, 109, 32, 115, 32, 109, 115]⟩ : ByteArray) ⟨#[104]⟩ = some 2 := by decide +kernel
  have i3 : strings_Index.f (⟨#[100, 32, 104, 32, 109, 32, 115, 32, 109, 115]⟩ : ByteArray) ⟨#[109]⟩ = some 4 := by decide +kernel
  have i4 : strings_Index.f (⟨#[100, 32, 104, 32, 109, 32, 115, 32, 109, 115]⟩ : ByteArray) ⟨#[115]⟩ = some 6 := by decide +kernel
  unfold unitP unitsP
  unfold lexer_unit.l0
  simp only [List.length_cons, List.length_nil, hx, prefix_f, Option.bind_some, List.find?_cons, List.find?_nil]
  rw [if_pos (by decide), if_pos (by decide), if_pos (by decide)]
  simp only [Int.toNat_zero, List.getD_cons_zero, i0, Option.bind_some, w1]
  cases hp0 : List.isPrefixOf [109, 115] s.data.toList
  · simp only [Bool.false_eq_true, if_false]
    unfold lexer_unit.l0
    simp only [List.length_cons, List.length_nil, hx, prefix_f, Option.bind_some]
    rw [if_pos (by decide), if_pos (by decide), if_pos (by decide)]
    simp only [show Int.toNat 1 = 1 from rfl, List.getD_cons_succ, List.getD_cons_zero, i1, Option.bind_some, w2]
    cases hp1 : List.isPrefixOf [100] s.data.toList
    · simp only [Bool.false_eq_true, if_false]
      unfold lexer_unit.l0
      simp only [List.length_cons, List.length_nil, hx, prefix_f, Option.bind_some]
      rw [if_pos (by decide), if_pos (by decide), if_pos (by decide)]
      simp only [show Int.toNat 2 = 2 from rfl, List.getD_cons_succ, List.getD_cons_zero, i2, Option.bind_some, w3]
      cases hp2 : List.isPrefixOf [104] s.data.toList
      · simp only [Bool.false_eq_true, if_false]
        unfold lexer_unit.l0
        simp only [List.length_cons, List.length_nil, hx, prefix_f, Option.bind_some]
        rw [if_pos (by decide), if_pos (by decide), if_pos (by decide)]
        simp only [show Int.toNat 3 = 3 from rfl, List.getD_cons_succ, List.getD_cons_zero, i3, Option.bind_some, w4]
        cases hp3 : List.isPrefixOf [109] s.data.toList
        · simp only [Bool.false_eq_true, if_false]
          unfold lexer_unit.l0
          simp only [List.length_cons, List.length_nil, hx, prefix_f, Option.bind_some]
          rw [if_pos (by decide), if_pos (by decide), if_pos (by decide)]
          simp only [show Int.toNat 4 = 4 from rfl, List.getD_cons_succ, List.getD_cons_zero, i4, Option.bind_some, w5]
          cases hp4 : List.isPrefixOf [115] s.data.toList
          · simp only [Bool.false_eq_true, if_false]
            unfold lexer_unit.l0
            rw [if_neg (by decide)]
            rfl
          · simp
        · simp
      · simp
    · simp
  · simp
theorem power_l (j : Nat) : ∀ (i k : Nat) (x : Nat), i ≤ 18 → 18 < i + j → j ≤ k → ∀ n : Nat, n ≤ 18 → i ≤ n → x = 10 ^ i → lexer_power.l0 k x n i = some ((10 ^ n : Nat) : Int) := by
  induction j with
  | zero => intro i k x h1 h2; omega
  | succ j ih =>
    intro i k x h1 h2 hk n hn hin hx
    obtain ⟨k, rfl⟩ : ∃ k', k = k' + 1 := ⟨k - 1, by omega⟩
    unfold lexer_power.l0
    by_cases h : i < n
    · rw [if_pos (by omega)]
      have hb : (10 : Nat) ^ (i + 1) ≤ 10 ^ 18 := Nat.pow_le_pow_right (by decide) (by omega)
      have hx2 : x * 10 = 10 ^ (i + 1) := by rw [hx, Nat.pow_succ]
      have h18 : (10 : Nat) ^ 18 = 1000000000000000000 := by decide
      rw [w64 (n := (x : Int) * 10) (by omega) (by omega), w64 (by omega) (by omega), show ((x : Int) * 10) = ((x * 10 : Nat) : Int) from by omega, show ((i : Int) + 1) = ((i + 1 : Nat) : Int) from by omega]
      exact ih (i + 1) k _ (by omega) (by omega) (by omega) n hn (by omega) hx2
    · rw [if_neg (by omega), hx, show i = n from by omega]
theorem power_f (n k : Nat) (hn : n ≤ 18) (hk : 19 ≤ k) : lexer_power.f k n = some ((10 ^ n : Nat) : Int) := power_l 19 0 k 1 (by omega) (by omega) hk n hn (by omega) rfl
def signsL : List (List UInt8) := [[61, 61], [33, 61], [60, 61], [62, 61], [61, 126], [33, 126], [38, 38], [124, 124], [62, 62], [124, 61], [124, 126], [45, 62], [61, 62], [40], [41], [123], [125], [91], [93], [44], [46], [58], [59], [43], [45], [42], [47], [37], [60], [62], [61], [33], [124], [38], [126], [64], [94], [63]]
def signF : List (List UInt8) → List UInt8 → Rd
  | [], _ => zRd 0 0
  | x :: xs, l => if x.isPrefixOf l then ⟨5, ⟨x.toArray⟩, 0, 0, 0, x.length, 0⟩ else signF xs l
def signR (l : List UInt8) : Rd := signF signsL l
theorem sign_l (s : ByteArray) : ∀ (j i k : Nat), i ≤ 38 → 38 < i + j → j ≤ k → lexer_sign.l0 k s (signsL.map fun l => (⟨l.toArray⟩ : ByteArray)) 38 i = some (signF (signsL.drop i) s.data.toList).tup := by
  intro j
  induction j with
  | zero => intro i k h1 h2; omega
  | succ j ih =>
    intro i k h1 h2 hk
    obtain ⟨k, rfl⟩ : ∃ k', k = k' + 1 := ⟨k - 1, by omega⟩
    unfold lexer_sign.l0
    by_cases h : i < 38
    · have hl : signsL.length = 38 := rfl
      rw [if_pos (by omega), if_pos (by omega), if_pos (by rw [List.length_map, hl]; omega)]
      have hd : signsL.drop i = signsL.getD i [] :: signsL.drop (i + 1) := by
        rw [List.drop_eq_getElem_cons (by omega), List.getD_eq_getElem?_getD, List.getElem?_eq_getElem (by omega)]; rfl
      have hr : rdOf ByteArray.empty (signsL.map fun l => (⟨l.toArray⟩ : ByteArray)) (i : Int) = ⟨(signsL.getD i []).toArray⟩ := by
        unfold rdOf
        rw [Int.toNat_natCast, List.getD_eq_getElem?_getD, List.getElem?_map, List.getD_eq_getElem?_getD, List.getElem?_eq_getElem (by omega)]; rfl
      rw [hr, prefix_f, Option.bind_some, hd]
      unfold signF
      simp only
      cases List.isPrefixOf (signsL.getD i []) s.data.toList
      · rw [if_neg (by decide), if_neg (by decide), w64 (by omega) (by omega), show ((i : Int) + 1) = ((i + 1 : Nat) : Int) from by omega]
        exact ih (i + 1) k (by omega) (by omega) (by omega)
      · rw [if_pos rfl, if_pos rfl]
        simp [Rd.tup, ByteArray.size]
    · rw [if_neg (by omega), show i = 38 from by omega]
      rfl
set_option maxRecDepth 100000 in
theorem sign_f (s : ByteArray) : lexer_sign.f 39 s = some (signR s.data.toList).tup := by
  unfold lexer_sign.f
  have hf : strings_Fields.f (⟨#[61, 61, 32, 33, 61, 32, 60, 61, 32, 62, 61, 32, 61, 126, 32, 33, 126, 32, 38, 38, 32, 124, 124, 32, 62, 62, 32, 124, 61, 32, 124, 126, 32, 45, 62, 32, 61, 62, 32, 40, 32, 41, 32, 123, 32, 125, 32, 91, 32, 93, 32, 44, 32, 46, 32, 58, 32, 59, 32, 43, 32, 45, 32, 42, 32, 47, 32, 37, 32, 60, 32, 62, 32, 61, 32, 33, 32, 124, 32, 38, 32, 126, 32, 64, 32, 94, 32, 63]⟩ : ByteArray) = some (signsL.map fun l => (⟨l.toArray⟩ : ByteArray)) := by
    decide +kernel
  rw [hf, Option.bind_some, List.length_map]
  exact sign_l s 39 0 39 (by omega) (by omega) (by omega)
end Go.Proofs.YteokilkcchdeiaaGreatDoor.X
end
section
namespace Go.Proofs.YteokilkcchdeiaaGreatDoor.X
open Go.RowKit Go.Shelf Go.Proofs.YteokilkcchdeiaaGreatDoor Go.Proofs.YteokilkcchdeiaaGreatDoorW.PrintWords Go.Proofs.YteokilkcchdeiaaGreatDoorW.PrintLast Go.Proofs.YteokilkcchdeiaaGreatDoorW.PrintMore Go.Proofs.YteokilkcchdeiaaGreatDoor.Q
set_option linter.unusedVariables false
theorem runN_take (p : Int → Bool) : ∀ (l : List UInt8), ∀ c ∈ l.take (runN p l), p (c.toNat : Int) = true
  | [] => by simp
  | b :: l => by
    unfold runN
    by_cases h : p (b.toNat : Int) = true
    · rw [if_pos h]
      intro c hc
      rw [List.take_succ_cons] at hc
      rcases List.mem_cons.1 hc with rfl | hc
      · exact h
      · exact runN_take p l c hc
    · rw [if_neg h]; simp
def allDig (l : List UInt8) : Prop := ∀ c ∈ l, digB (c.toNat : Int) = true
def numV (l : List UInt8) : Nat := (Lib.decFrom 0 l).getD 0
theorem decFrom_dig : ∀ (l : List UInt8) (acc : Nat), allDig l → ∃ v, Lib.decFrom acc l = some v
  | [], acc, _ => ⟨acc, rfl⟩
  | c :: l, acc, h => by
    have h1 := h c (by simp)
    simp only [digB, Bool.and_eq_true, decide_eq_true_eq] at h1
    obtain ⟨v, hv⟩ := decFrom_dig l (acc * 10 + (c.toNat - 48)) (fun d hd => h d (by simp [hd]))
    refine ⟨v, ?_⟩
    unfold Lib.decFrom Lib.digitVal
    rw [if_pos (by omega)]
    exact hv
theorem atoi_dig {l : List UInt8} (h : allDig l) (hn : l ≠ []) (h18 : l.length ≤ 18) : strconv_Atoi.f ⟨l.toArray⟩ = some ((numV l : Int), none) ∧ numV l < 1000000000000000000 := by
  obtain ⟨v, hv⟩ := decFrom_dig l 0 h
  have hnv : numV l = v := by unfold numV; rw [hv]; rfl
  have hlt := Lib.decFrom_lt18 hv h18
  refine ⟨?_, by omega⟩
  unfold strconv_Atoi.f
  rw [if_pos (by simpa [ByteArray.size] using h18)]
  have ha : Lib.atoi l = some (v : Int) := by
    cases l with
    | nil => exact absurd rfl hn
    | cons c r =>
      have h1 := h c (by simp)
      simp only [digB, Bool.and_eq_true, decide_eq_true_eq] at h1
      have n45 : (c == 45) = false := by rw [beq_eq_false_iff_ne]; rintro rfl; revert h1; decide
      have n43 : (c == 43) = false := by rw [beq_eq_false_iff_ne]; rintro rfl; revert h1; decide
      unfold Lib.atoi Lib.decNat
      simp only [n45, n43, Bool.false_eq_true, if_false, List.isEmpty_cons, hv, Option.map_some]
  simp only [ha, hnv]
def lenP (p : Int) : Int := if p = 0 then 86400000 else if p = 2 then 3600000 else if p = 4 then 60000 else if p = 6 then 1000 else 1
theorem unitP_cases (l : List UInt8) : unitP l = ([], -1) ∨ unitP l ∈ unitsP := by
  unfold unitP
  cases h : unitsP.find? (fun u => u.1.isPrefixOf l) with
  | none => exact .inl rfl
  | some u => exact .inr (List.mem_of_find?_eq_some h)
theorem unitP_len (l : List UInt8) (h : 0 ≤ (unitP l).2) : lexer_length.f ⟨(unitP l).1.toArray⟩ = some (lenP (unitP l).2) ∧ 1 ≤ lenP (unitP l).2 ∧ lenP (unitP l).2 ≤ 86400000 ∧ 1 ≤ (unitP l).1.length ∧ (unitP l).1.length ≤ 2 ∧ (unitP l).1.length ≤ l.length ∧ (unitP l).2 ≤ 8 := by
  have hp : unitP l = ([], -1) ∨ (unitP l).1.isPrefixOf l = true := by
    unfold unitP
    cases h : unitsP.find? (fun u => u.1.isPrefixOf l) with
    | none => exact .inl rfl
    | some u => exact .inr (by simpa using List.find?_some h)
  rcases unitP_cases l with h1 | h1
  · rw [h1] at h; exact absurd h (by decide)
  · have hlen : (unitP l).1.length ≤ l.length := by
      rcases hp with h2 | h2
      · rw [h2] at h; exact absurd h (by decide)
      · exact (List.isPrefixOf_iff_prefix.1 h2).length_le
    generalize unitP l = u at h h1 hlen ⊢
    clear hp
    unfold unitsP at h1
    simp only [List.mem_cons, List.not_mem_nil, or_false] at h1
    rcases h1 with rfl | rfl | rfl | rfl | rfl <;> exact ⟨by decide +kernel, by decide +kernel, by decide +kernel, by decide, by decide, hlen, by decide⟩
def sum1 (p : Int) (d v : Nat) (sum : Int) : Int := if 18 < d ∨ 1099511627776 / lenP p < (v : Int) then sum else sum + v * lenP p
def sumN (p : Int) (d v : Nat) (sum : Int) : Int := mn (sum1 p d v sum) 1099511627776
def farN (p : Int) (d v : Nat) (sum : Int) (far : Bool) : Bool := far || (decide (d ≤ 18) && decide (1099511627776 / lenP p < (v : Int))) || decide (1099511627776 < sum1 p d v sum)
def durEnd (l : List UInt8) (n : Nat) (sum : Int) (long wrong far : Bool) : Rd :=
  if long = true then zRd n 4 else if wrong = true ∨ contB (l.drop n) = true then zRd n 3 else if far = true then zRd n 2 else ⟨3, ⟨(l.take n).toArray⟩, sum, 1, 0, n, 0⟩
def durGo : Nat → List UInt8 → Nat → Int → Int → Bool → Bool → Bool → Rd
  | 0, _, _, _, _, _, _, _ => zRd 0 0
  | k + 1, l, n, sum, bef, long, wrong, far =>
    let d := runN digB (l.drop n)
    let u := unitP (l.drop (n + d))
    if d = 0 ∨ u.2 < 0 then durEnd l n sum long wrong far
    else
      let v := numV ((l.drop n).take d)
      durGo k l (n + (d + u.1.length)) (sumN u.2 d v sum) u.2 (long || decide (18 < d)) (wrong || decide (u.2 ≤ bef)) (farN u.2 d v sum far)
theorem durGo_succ (k : Nat) (l : List UInt8) (n d : Nat) (u : List UInt8 × Int) (sum bef : Int) (long wrong far : Bool) (hD : runN digB (l.drop n) = d) (hu : unitP (l.drop (n + d)) = u) :
    durGo (k + 1) l n sum bef long wrong far = (if d = 0 ∨ u.2 < 0 then durEnd l n sum long wrong far
    else durGo k l (n + (d + u.1.length)) (sumN u.2 d (numV ((l.drop n).take d)) sum) u.2 (long || decide (18 < d)) (wrong || decide (u.2 ≤ bef)) (farN u.2 d (numV ((l.drop n).take d)) sum far)) := by
  subst hD hu; rfl
def durR (l : List UInt8) : Rd := durGo (l.length + 1) l 0 0 (-1) false false false
theorem sum_long {p : Int} {d v : Nat} {sum : Int} (h : 18 < d) (hs : sum ≤ 1099511627776) (far : Bool) : sum1 p d v sum = sum ∧ farN p d v sum far = far := by
  have e : sum1 p d v sum = sum := if_pos (.inl h)
  refine ⟨e, ?_⟩
  unfold farN
  rw [e, show decide (d ≤ 18) = false from decide_eq_false (by omega), show decide (1099511627776 < sum) = false from decide_eq_false (by omega)]
  simp
theorem sum_bad {p : Int} {d v : Nat} {sum Q : Int} (hQ : 1099511627776 / lenP p = Q) (h : ¬ 18 < d) (hb : Q < (v : Int)) (far : Bool) : sum1 p d v sum = sum ∧ farN p d v sum far = true := by
  subst hQ
  refine ⟨if_pos (.inr hb), ?_⟩
  unfold farN
  rw [show decide (d ≤ 18) = true from decide_eq_true (by omega), show decide (1099511627776 / lenP p < (v : Int)) = true from decide_eq_true hb]
  simp
theorem sum_ok {p : Int} {d v : Nat} {sum Q : Int} (hQ : 1099511627776 / lenP p = Q) (h : ¬ 18 < d) (hb : ¬ Q < (v : Int)) (far : Bool) : sum1 p d v sum = sum + v * lenP p ∧ farN p d v sum far = (far || decide (1099511627776 < sum + v * lenP p)) := by
  subst hQ
  have e : sum1 p d v sum = sum + v * lenP p := if_neg (by rintro (h' | h'); exact h h'; exact hb h')
  refine ⟨e, ?_⟩
  unfold farN
  rw [e, show decide (1099511627776 / lenP p < (v : Int)) = false from decide_eq_false hb]
  simp
theorem quot_spec {L : Int} (h1 : 1 ≤ L) : ∃ Q, 1099511627776 / L = Q ∧ 0 ≤ Q ∧ Q ≤ 1099511627776 ∧ wrap64 (Int.tdiv 1099511627776 L) = Q ∧ ∀ v : Nat, (v : Int) ≤ Q → 0 ≤ (v : Int) * L ∧ (v : Int) * L ≤ 1099511627776 := by
  have hb0 : 0 ≤ 1099511627776 / L := Int.ediv_nonneg (by decide) (by omega)
  have hb1 : 1099511627776 / L ≤ 1099511627776 := Int.ediv_le_self _ (by decide)
  refine ⟨_, rfl, hb0, hb1, ?_, fun v hv => ⟨Int.mul_nonneg (by omega) (by omega), ?_⟩⟩
  · rw [Int.tdiv_eq_ediv_of_nonneg (by decide)]; exact w64 (by omega) (by omega)
  · have h2 := Int.mul_le_mul_of_nonneg_right hv (show 0 ≤ L by omega)
    have h3 := Int.ediv_mul_le 1099511627776 (show L ≠ 0 by omega)
    omega
theorem mn_bound {x : Int} (h : 0 ≤ x) : 0 ≤ mn x 1099511627776 ∧ mn x 1099511627776 ≤ 1099511627776 := by unfold mn; split <;> omega
theorem sumN_eq (p : Int) (d v : Nat) (sum X : Int) (h : X = sum1 p d v sum) : sumN p d v sum = mn X 1099511627776 := by subst h; rfl
attribute [local irreducible] lenP sum1 sumN farN mn numV unitP runN
set_option maxHeartbeats 1000000 in
theorem dur_l (s : ByteArray) (hs : s.size ≤ 4000000) : ∀ (j n k : Nat) (sum bef : Int) (long wrong far : Bool), n ≤ s.size → s.size < n + j → 2 * j + 8 ≤ k → 0 ≤ sum → sum ≤ 1099511627776 →
    lexer_duration.l0 k s n sum bef long wrong far = some (durGo j s.data.toList n sum bef long wrong far).tup := by
  intro j
  induction j with
  | zero => intro n k sum bef long wrong far h1 h2; omega
  | succ j ih =>
    intro n k sum bef long wrong far h1 h2 hk hs0 hs1
    obtain ⟨k, rfl⟩ : ∃ k', k = k' + 3 := ⟨k - 3, by omega⟩
    unfold lexer_duration.l0
    rw [if_pos (by omega), if_pos (by omega), Int.toNat_natCast]
    unfold lexer_run_isDigit.f
    rw [if_pos (by rw [ext_size]; omega), ext_l, Option.bind_some]
    have hd := runN_le digB (s.data.toList.drop n)
    rw [List.length_drop, tl_size] at hd
    have hall : allDig ((s.data.toList.drop n).take (runN digB (s.data.toList.drop n))) := runN_take digB _
    rw [durGo_succ _ _ _ _ _ _ _ _ _ _ rfl rfl]
    generalize hD : runN digB (s.data.toList.drop n) = d at hd hall ⊢
    rw [w64 (by omega) (by omega), if_pos (by omega), if_pos (by omega), show ((n : Int) + (d : Int)).toNat = n + d from by omega]
    rw [unit_f _ _ (by omega), ext_l, Option.bind_some]
    have hU := unitP_len (s.data.toList.drop (n + d))
    have hU2 := unitP_cases (s.data.toList.drop (n + d))
    simp only []
    generalize hu : unitP (s.data.toList.drop (n + d)) = u at hU hU2 ⊢
    rw [List.length_drop, tl_size] at hU
    have hstop : (d = 0 ∨ u.2 < 0) → ∀ k', lexer_duration.j1 (k' + 2) s n sum bef long wrong far d ⟨u.1.toArray⟩ u.2 true = some (durEnd s.data.toList n sum long wrong far).tup := by
      intro _ k'
      have hj2 : ∀ b : Bool, lexer_duration.j2 (k' + 1) s n sum far b = some ((if b = true then zRd n 3 else if far = true then zRd n 2 else ⟨3, ⟨(s.data.toList.take n).toArray⟩, sum, 1, 0, n, 0⟩ : Rd)).tup := by
        intro b
        cases b <;> cases far <;> simp [lexer_duration.j2, Rd.tup, zRd, h1, Lib.extract_upto]
      unfold durEnd
      cases long
      · cases wrong
        · have hc : lexer_continues.f (s.extract n s.size) = some (contB (s.data.toList.drop n)) := by rw [continues_f, ext_l]
          cases hcb : contB (s.data.toList.drop n) <;> rw [hcb] at hc <;> simp [lexer_duration.j1, h1, hc, hj2]
        · simp [lexer_duration.j1, hj2]
      · simp [lexer_duration.j1, Rd.tup, zRd]
    by_cases h0 : d = 0 ∨ u.2 < 0
    · rw [if_pos h0]
      have hrun := hstop h0 k
      by_cases hd0 : d = 0
      · rw [if_pos (by omega)]; exact hrun
      · rw [if_neg (by omega), show decide (u.2 < 0) = true from decide_eq_true (by omega)]; exact hrun
    · rw [if_neg h0]
      have hd0 : ¬ d = 0 := fun e => h0 (.inl e)
      have hu0 : 0 ≤ u.2 := by omega
      obtain ⟨hL, hL1, hL2, hl1, hl2, hl3, hp8⟩ := hU hu0
      rw [if_neg (by omega), show decide (u.2 < 0) = false from decide_eq_false (by omega)]
      have hus : ((⟨u.1.toArray⟩ : ByteArray).size : Int) = (u.1.length : Int) := by simp [ByteArray.size]
      unfold lexer_duration.j1
      rw [if_neg (by decide), hus]
      have hw1 : wrap64 ((n : Int) + wrap64 ((d : Int) + (u.1.length : Int))) = ((n + (d + u.1.length) : Nat) : Int) := by
        rw [w64 (n := (d : Int) + _) (by omega) (by omega), w64 (by omega) (by omega)]; omega
      rw [hw1]
      clear hw1 hus
      have hA : n + (d + u.1.length) ≤ s.size := by omega
      have hB : s.size < n + (d + u.1.length) + j := by omega
      have hgo : ∀ (X : Int) (b1 b2 b3 : Bool) (k' : Nat), 0 ≤ X → 2 * j + 8 ≤ k' → X = sum1 u.2 d (numV ((s.data.toList.drop n).take d)) sum → b1 = (long || decide (18 < d)) → b2 = (wrong || decide (u.2 ≤ bef)) → b3 = farN u.2 d (numV ((s.data.toList.drop n).take d)) sum far →
          lexer_duration.l0 k' s ((n + (d + u.1.length) : Nat) : Int) (mn X 1099511627776) u.2 b1 b2 b3 = some (durGo j s.data.toList (n + (d + u.1.length)) (sumN u.2 d (numV ((s.data.toList.drop n).take d)) sum) u.2 (long || decide (18 < d)) (wrong || decide (u.2 ≤ bef)) (farN u.2 d (numV ((s.data.toList.drop n).take d)) sum far)).tup := by
        intro X b1 b2 b3 k' h0' hk' hX hb1 hb2 hb3
        subst hb1 hb2 hb3
        rw [sumN_eq _ _ _ _ _ hX]
        exact ih _ _ _ _ _ _ _ hA hB hk' (mn_bound h0').1 (mn_bound h0').2
      generalize hR : some (durGo j s.data.toList (n + (d + u.1.length)) (sumN u.2 d (numV ((s.data.toList.drop n).take d)) sum) u.2 (long || decide (18 < d)) (wrong || decide (u.2 ≤ bef)) (farN u.2 d (numV ((s.data.toList.drop n).take d)) sum far)).tup = R at hgo ⊢
      clear hR
      by_cases h18 : 18 < d
      · rw [if_pos (show (d : Int) > 18 by omega)]
        obtain ⟨eS, eF⟩ := sum_long (p := u.2) (v := numV ((s.data.toList.drop n).take d)) h18 hs1 far
        rw [eS, eF] at hgo
        have e1 : true = (long || decide (18 < d)) := by rw [decide_eq_true h18, Bool.or_true]
        have e3 : decide (sum > 1099511627776) = false := decide_eq_false (by omega)
        rw [e3]
        cases wrong
        · rw [if_neg Bool.false_ne_true]
          cases far
          · rw [if_neg Bool.false_ne_true]; exact hgo _ _ _ _ _ hs0 (by omega) rfl e1 (Bool.false_or _).symm rfl
          · rw [if_pos rfl]; exact hgo _ _ _ _ _ hs0 (by omega) rfl e1 (Bool.false_or _).symm rfl
        · rw [if_pos rfl]
          cases far
          · rw [if_neg Bool.false_ne_true]; exact hgo _ _ _ _ _ hs0 (by omega) rfl e1 rfl rfl
          · rw [if_pos rfl]; exact hgo _ _ _ _ _ hs0 (by omega) rfl e1 rfl rfl
      · rw [if_neg (show ¬ (d : Int) > 18 by omega)]
        have e1 : long = (long || decide (18 < d)) := by rw [decide_eq_false h18, Bool.or_false]
        rw [if_pos (show (0 : Int) ≤ (n : Int) by omega), w64 (n := (n : Int) + (d : Int)) (by omega) (by omega), if_pos (show (n : Int) ≤ (n : Int) + (d : Int) by omega), if_pos (show (n : Int) + (d : Int) ≤ (s.size : Int) by omega), Int.toNat_natCast, show ((n : Int) + (d : Int)).toNat = n + d from by omega]
        have hx : s.extract n (n + d) = ⟨((s.data.toList.drop n).take d).toArray⟩ := by
          apply ByteArray.ext; apply Array.ext'
          simp [List.take_drop]
        have hlen : ((s.data.toList.drop n).take d).length = d := by rw [List.length_take, List.length_drop, tl_size]; omega
        obtain ⟨ha, hv⟩ := atoi_dig hall (by intro e; rw [e] at hlen; simp at hlen; omega) (by omega)
        rw [hx, ha, Option.bind_some]
        simp only [Option.isNone_none, if_true, hL, Option.bind_some]
        rw [if_neg (show ¬ lenP u.2 = 0 by omega)]
        obtain ⟨Q, hQ, hQ0, hQ1, hQw, hQp⟩ := quot_spec hL1
        rw [hQw]
        generalize numV ((s.data.toList.drop n).take d) = v at hv hgo ⊢
        by_cases hbad : Q < (v : Int)
        · obtain ⟨eS, eF⟩ := sum_bad (sum := sum) hQ h18 hbad far
          rw [eS, eF] at hgo
          rw [if_pos (show (v : Int) > Q from hbad)]
          cases wrong
          · rw [if_neg Bool.false_ne_true]; exact hgo _ _ _ _ _ hs0 (by omega) rfl e1 (Bool.false_or _).symm rfl
          · rw [if_pos rfl]; exact hgo _ _ _ _ _ hs0 (by omega) rfl e1 rfl rfl
        · obtain ⟨eS, eF⟩ := sum_ok (sum := sum) hQ h18 hbad far
          rw [eS, eF] at hgo
          rw [if_neg (show ¬ (v : Int) > Q from hbad)]
          obtain ⟨hp0, hp1⟩ := hQp v (by omega)
          generalize (v : Int) * lenP u.2 = pr at hp1 hp0 hgo ⊢
          rw [w64 (n := pr) (by omega) (by omega), w64 (n := sum + pr) (by omega) (by omega)]
          cases wrong
          · rw [if_neg Bool.false_ne_true]
            cases far
            · rw [if_neg Bool.false_ne_true]; exact hgo _ _ _ _ _ (by omega) (by omega) rfl e1 (Bool.false_or _).symm (Bool.false_or _).symm
            · rw [if_pos rfl]; exact hgo _ _ _ _ _ (by omega) (by omega) rfl e1 (Bool.false_or _).symm rfl
          · rw [if_pos rfl]
            cases far
            · rw [if_neg Bool.false_ne_true]; exact hgo _ _ _ _ _ (by omega) (by omega) rfl e1 rfl (Bool.false_or _).symm
            · rw [if_pos rfl]; exact hgo _ _ _ _ _ (by omega) (by omega) rfl e1 rfl rfl
theorem dur_f (s : ByteArray) (hs : s.size ≤ 4000000) : lexer_duration.f (2 * (s.size + 1) + 8) s = some (durR s.data.toList).tup := by
  unfold lexer_duration.f durR
  rw [tl_size]
  exact dur_l s hs (s.size + 1) 0 _ 0 (-1) false false false (by omega) (by omega) (by omega) (by omega) (by omega)
end Go.Proofs.YteokilkcchdeiaaGreatDoor.X
end
section
namespace Go.Proofs.YteokilkcchdeiaaGreatDoor.X
open Go.RowKit Go.Shelf Go.Proofs.YteokilkcchdeiaaGreatDoor Go.Proofs.YteokilkcchdeiaaGreatDoorW.PrintWords Go.Proofs.YteokilkcchdeiaaGreatDoorW.PrintLast Go.Proofs.YteokilkcchdeiaaGreatDoorW.PrintMore Go.Proofs.YteokilkcchdeiaaGreatDoor.Q
set_option linter.unusedVariables false
def rm46 : List UInt8 → List UInt8
  | [] => []
  | c :: l => if c = 46 then l else c :: rm46 l
theorem rm46_index : ∀ l : List UInt8, (Lib.index l [46] = -1 → rm46 l = l) ∧ (0 ≤ Lib.index l [46] → rm46 l = l.take (Lib.index l [46]).toNat ++ l.drop ((Lib.index l [46]).toNat + 1))
  | [] => by simp [Lib.index, rm46]
  | c :: l => by
    obtain ⟨h1, h2⟩ := rm46_index l
    have hge := Lib.index_ge l [46]
    by_cases hc : c = 46
    · subst hc
      have e : Lib.index (46 :: l) [46] = 0 := by simp [Lib.index]
      rw [e]
      exact ⟨fun h => absurd h (by decide), fun _ => by simp [rm46]⟩
    · have hb : rm46 (c :: l) = c :: rm46 l := by simp [rm46, hc]
      have hp : List.isPrefixOf [46] (c :: l) = false := by simp [List.isPrefixOf]; intro h; exact hc h.symm
      by_cases hi : Lib.index l [46] = -1
      · have e : Lib.index (c :: l) [46] = -1 := by simp [Lib.index, hp, hi]
        rw [e, hb]
        exact ⟨fun _ => by rw [h1 hi], fun h => absurd h (by decide)⟩
      · have e : Lib.index (c :: l) [46] = Lib.index l [46] + 1 := by simp [Lib.index, hp, hi]
        have e2 : (Lib.index l [46] + 1).toNat = (Lib.index l [46]).toNat + 1 := by omega
        rw [e, hb, e2]
        exact ⟨fun h => absurd h (by omega), fun _ => by rw [h2 (by omega)]; simp⟩
theorem replace_rm (l : List UInt8) : Lib.replace l [46] [] 1 = rm46 l := by
  obtain ⟨h1, h2⟩ := rm46_index l
  have hge := Lib.index_ge l [46]
  unfold Lib.replace
  rw [if_neg (by decide)]
  unfold Lib.replaceNum
  by_cases hi : Lib.index l [46] = -1
  · rw [h1 hi]
    have hc := Lib.count_miss hi
    rw [hc, if_pos (.inr (by decide))]
    rfl
  · obtain ⟨i, hi2⟩ : ∃ i : Nat, Lib.index l [46] = i := ⟨(Lib.index l [46]).toNat, by omega⟩
    have hc := Lib.count_hit (s := l) (sub := [46]) (by decide) hi2
    rw [if_neg (by rintro (h | h) <;> omega), show Int.toNat 1 = 0 + 1 from rfl, Lib.replaceK_hit _ _ _ _ _ hi2, h2 (by omega), hi2]
    simp [Lib.replaceK]
theorem rm46_no : ∀ l : List UInt8, (∀ c ∈ l, c ≠ 46) → rm46 l = l
  | [], _ => rfl
  | c :: l, h => by unfold rm46; rw [if_neg (h c (by simp)), rm46_no l (fun d hd => h d (by simp [hd]))]
theorem rm46_at : ∀ (a b : List UInt8), (∀ c ∈ a, c ≠ 46) → rm46 (a ++ 46 :: b) = a ++ b
  | [], b, _ => by simp [rm46]
  | c :: a, b, h => by
    rw [List.cons_append]; unfold rm46; rw [if_neg (h c (by simp)), rm46_at a b (fun d hd => h d (by simp [hd]))]; rfl
theorem dig_ne46 {l : List UInt8} (h : allDig l) : ∀ c ∈ l, c ≠ 46 := by
  intro c hc e; subst e
  have := h 46 hc
  revert this; decide
def numDigs (l : List UInt8) (w p : Nat) : List UInt8 := l.take w ++ (l.drop (w + 1)).take p
def numEnd (l : List UInt8) (n p : Nat) (ds : List UInt8) : Rd :=
  if contB (l.drop n) = true then zRd n 3 else ⟨2, ⟨(l.take n).toArray⟩, (numV ds : Int) / G (numV ds) ((10 ^ p : Nat) : Int), ((10 ^ p : Nat) : Int) / G (numV ds) ((10 ^ p : Nat) : Int), 0, n, 0⟩
def numR (l : List UInt8) : Rd :=
  let w := runN digB l
  if w = 0 then zRd 0 0
  else if l.getD w 0 = 46 then
    let p := runN digB (l.drop (w + 1))
    if 18 < w + p then zRd w 4 else if p = 0 then zRd w 3 else numEnd l (w + 1 + p) p (numDigs l w p)
  else if 18 < w then zRd w 4 else numEnd l w 0 (l.take w)
attribute [local irreducible] numV runN G
theorem num_j3 (s : ByteArray) (hs : s.size ≤ 4000000) (n p k : Nat) (ds : List UInt8) (hn : n ≤ s.size) (hrm : rm46 (s.data.toList.take n) = ds) (hd : allDig ds) (hne : ds ≠ []) (h18 : ds.length ≤ 18) (hp : p ≤ 18) (hk : 20 ≤ k) :
    lexer_number.j3 k s n p = some (numEnd s.data.toList n p ds).tup := by
  obtain ⟨k, rfl⟩ : ∃ k', k = k' + 1 := ⟨k - 1, by omega⟩
  obtain ⟨ha, hv⟩ := atoi_dig hd hne h18
  unfold lexer_number.j3
  dsimp only
  rw [if_pos (by omega), if_pos (by omega), Int.toNat_natCast, continues_f, Option.bind_some, ext_l]
  unfold numEnd
  cases contB (s.data.toList.drop n)
  · rw [if_neg Bool.false_ne_true, if_neg Bool.false_ne_true, Lib.extract_upto]
    have hr : strings_Replace.f ⟨(s.data.toList.take n).toArray⟩ (⟨#[46]⟩ : ByteArray) (⟨#[]⟩ : ByteArray) 1 = some ⟨ds.toArray⟩ := by
      unfold strings_Replace.f
      have hz : (⟨(s.data.toList.take n).toArray⟩ : ByteArray).size = n := by
        rw [← tl_size]; show (s.data.toList.take n).length = n; rw [List.length_take, tl_size]; omega
      have hz0 : (⟨#[]⟩ : ByteArray).size = 0 := rfl
      rw [if_pos ⟨by omega, by decide, by rw [hz0, Nat.mul_zero]; omega⟩]
      rw [show (⟨(s.data.toList.take n).toArray⟩ : ByteArray).data.toList = s.data.toList.take n from rfl]
      rw [show (⟨#[46]⟩ : ByteArray).data.toList = [46] from rfl, show (⟨#[]⟩ : ByteArray).data.toList = [] from rfl, replace_rm, hrm]
    have h10 : (10 : Nat) ^ p ≤ 10 ^ 18 := Nat.pow_le_pow_right (by decide) hp
    have h1018 : (10 : Nat) ^ 18 = 1000000000000000000 := by decide
    have h101 : 1 ≤ (10 : Nat) ^ p := Nat.pos_of_ne_zero (by simp)
    rw [hr, Option.bind_some, ha, Option.bind_some]
    simp only [Option.isNone_none, if_true]
    rw [power_f p k hp (by omega), Option.bind_some]
    unfold ratio_Make.f
    rw [if_pos ⟨by omega, by omega, by omega, by omega⟩, Option.bind_some]
    simp [Rd.tup]
  · rw [if_pos rfl, if_pos rfl]; rfl
theorem getD_end (l : List UInt8) (w : Nat) (h : l.length ≤ w) : l.getD w 0 = 0 := by
  rw [List.getD_eq_getElem?_getD, List.getElem?_eq_none h]; rfl
theorem num_f (s : ByteArray) (hs : s.size ≤ 4000000) (k : Nat) : lexer_number.f (k + 23) s = some (numR s.data.toList).tup := by
  unfold lexer_number.f lexer_run_isDigit.f
  rw [if_pos (by omega), Option.bind_some]
  have hw := runN_le digB s.data.toList
  rw [tl_size] at hw
  have hall : allDig (s.data.toList.take (runN digB s.data.toList)) := runN_take digB _
  unfold numR
  simp only []
  generalize runN digB s.data.toList = w at hw hall ⊢
  by_cases h0 : w = 0
  · rw [if_pos (show (w : Int) = 0 by omega), if_pos h0]; rfl
  · rw [if_neg (show ¬ (w : Int) = 0 by omega), if_neg h0]
    have hlw : (s.data.toList.take w).length = w := by rw [List.length_take, tl_size]; omega
    have hnw : s.data.toList.take w ≠ [] := by intro e; rw [e] at hlw; simp at hlw; omega
    have hno : ¬ s.data.toList.getD w 0 = 46 → lexer_number.j0 (k + 23) s w w 0 false = some (if 18 < w then zRd w 4 else numEnd s.data.toList w 0 (s.data.toList.take w)).tup := by
      intro h46
      unfold lexer_number.j0
      dsimp only
      rw [if_neg Bool.false_ne_true]
      unfold lexer_number.j1
      dsimp only
      rw [Int.add_zero, w64 (by omega) (by omega)]
      by_cases h18 : 18 < w
      · rw [if_pos (show (w : Int) > 18 by omega), if_pos h18]; rfl
      · rw [if_neg (show ¬ (w : Int) > 18 by omega), if_neg h18, if_neg Bool.false_ne_true]
        unfold lexer_number.j2
        dsimp only
        rw [if_neg Bool.false_ne_true, if_neg Bool.false_ne_true]
        exact num_j3 s hs w 0 (k + 20) _ hw (rm46_no _ (dig_ne46 hall)) hall hnw (by omega) (by omega) (by omega)
    by_cases hws : w < s.size
    · rw [if_pos (show (w : Int) < s.size by omega), if_pos (show (0 : Int) ≤ w by omega), bt_get s w hws]
      by_cases h46 : s.data.toList.getD w 0 = 46
      · rw [if_pos h46, show (((s.data.toList.getD w 0).toNat : Int) == 46) = true from by rw [h46]; rfl]
        unfold lexer_number.j0
        dsimp only
        rw [if_pos rfl, w64 (n := (w : Int) + 1) (by omega) (by omega), if_pos (show (0 : Int) ≤ (w : Int) + 1 by omega), if_pos (show (w : Int) + 1 ≤ s.size by omega), show ((w : Int) + 1).toNat = w + 1 from by omega]
        unfold lexer_run_isDigit.f
        rw [if_pos (by rw [ext_size]; omega), Option.bind_some, ext_l]
        have hp := runN_le digB (s.data.toList.drop (w + 1))
        rw [List.length_drop, tl_size] at hp
        have hall2 : allDig ((s.data.toList.drop (w + 1)).take (runN digB (s.data.toList.drop (w + 1)))) := runN_take digB _
        generalize runN digB (s.data.toList.drop (w + 1)) = p at hp hall2 ⊢
        unfold lexer_number.j1
        dsimp only
        rw [w64 (n := (w : Int) + p) (by omega) (by omega)]
        by_cases h18 : 18 < w + p
        · rw [if_pos (show (w : Int) + p > 18 by omega), if_pos h18]; rfl
        · rw [if_neg (show ¬ (w : Int) + p > 18 by omega), if_neg h18, if_pos rfl]
          unfold lexer_number.j2
          dsimp only
          by_cases hp0 : p = 0
          · rw [if_pos (show ((p : Int) == 0) = true by simp [hp0]), if_pos hp0]; rfl
          · rw [if_neg (show ¬ ((p : Int) == 0) = true by simp [hp0]), if_neg hp0, if_pos rfl]
            rw [w64 (n := (1 : Int) + p) (by omega) (by omega), w64 (n := (w : Int) + (1 + (p : Int))) (by omega) (by omega), show (w : Int) + (1 + (p : Int)) = ((w + 1 + p : Nat) : Int) from by omega]
            have hsplit : s.data.toList.take (w + 1 + p) = s.data.toList.take w ++ 46 :: (s.data.toList.drop (w + 1)).take p := by
              have e1 : s.data.toList.drop w = 46 :: s.data.toList.drop (w + 1) := by
                rw [List.drop_eq_getElem_cons (by rw [tl_size]; exact hws)]
                congr 1
                rw [← h46, List.getD_eq_getElem?_getD, List.getElem?_eq_getElem (by rw [tl_size]; exact hws)]; rfl
              rw [show w + 1 + p = w + (p + 1) from by omega, List.take_add, e1, List.take_succ_cons]
            have hdl : (numDigs s.data.toList w p).length ≤ 18 := by
              unfold numDigs; rw [List.length_append, hlw, List.length_take]; omega
            refine num_j3 s hs (w + 1 + p) p (k + 20) (numDigs s.data.toList w p) (by omega) ?_ ?_ ?_ hdl (by omega) (by omega)
            · rw [hsplit, rm46_at _ _ (dig_ne46 hall)]; rfl
            · intro c hc
              rcases List.mem_append.1 hc with hc | hc
              · exact hall c hc
              · exact hall2 c hc
            · unfold numDigs; simp [hnw]
      · rw [if_neg h46, show (((s.data.toList.getD w 0).toNat : Int) == 46) = false from by rw [beq_eq_false_iff_ne]; intro e; exact h46 ((u8_int 46 (by omega)).1 e)]
        exact hno h46
    · have h46 : ¬ s.data.toList.getD w 0 = 46 := by rw [getD_end _ _ (by rw [tl_size]; omega)]; decide
      rw [if_neg (show ¬ (w : Int) < s.size by omega), if_neg h46]
      exact hno h46
theorem textGo_size : ∀ (l : List UInt8) (i : Int) (acc : List UInt8), (textGo l i acc).2.2 = 0 → i < (textGo l i acc).2.1 ∧ (textGo l i acc).2.1 ≤ i + l.length
  | [], i, acc => by simp [textGo]
  | [c], i, acc => by
    unfold textGo
    split
    · intro _; simp; omega
    · split
      · intro h; cases h
      · split <;> intro h <;> cases h
  | c :: d :: l, i, acc => by
    unfold textGo
    split
    · intro _; simp; omega
    · split
      · intro h; cases h
      · split
        · split
          · intro h; have := textGo_size l _ _ h; simp only [List.length_cons]; omega
          · split
            · intro h; have := textGo_size l _ _ h; simp only [List.length_cons]; omega
            · intro h; cases h
        · intro h; have := textGo_size (d :: l) _ _ h; simp only [List.length_cons] at this ⊢; omega
def rdOf7 (t : Int × ByteArray × Int × Int × Int × Int × Int) : Rd := ⟨t.1, t.2.1, t.2.2.1, t.2.2.2.1, t.2.2.2.2.1, t.2.2.2.2.2.1, t.2.2.2.2.2.2⟩
def textRd (l : List UInt8) : Rd := if l.headD 0 = 34 then rdOf7 (textR (textGo (l.drop 1) 1 [])) else zRd 0 0
theorem text_f (s : ByteArray) (hs : s.size ≤ 4000000) : lexer_text.f s = some (textRd s.data.toList).tup := by
  unfold lexer_text.f textRd
  rw [if_pos (by omega)]
  split <;> rfl
end Go.Proofs.YteokilkcchdeiaaGreatDoor.X
end
section
namespace Go.Proofs.YteokilkcchdeiaaGreatDoor.X
open Go.RowKit Go.Shelf Go.Proofs.YteokilkcchdeiaaGreatDoor Go.Proofs.YteokilkcchdeiaaGreatDoorW.PrintWords Go.Proofs.YteokilkcchdeiaaGreatDoorW.PrintLast Go.Proofs.YteokilkcchdeiaaGreatDoorW.PrintMore Go.Proofs.YteokilkcchdeiaaGreatDoor.Q
theorem durGo_size (l : List UInt8) : ∀ (k n : Nat) (sum bef : Int) (a b c : Bool), n ≤ l.length → 0 ≤ (durGo k l n sum bef a b c).size ∧ (durGo k l n sum bef a b c).size ≤ l.length
  | 0, n, sum, bef, a, b, c, h => by simp [durGo, zRd]
  | k + 1, n, sum, bef, a, b, c, h => by
    rw [durGo_succ _ _ _ _ _ _ _ _ _ _ rfl rfl]
    have hd := runN_le digB (l.drop n)
    rw [List.length_drop] at hd
    split
    · unfold durEnd
      repeat' split
      all_goals simp [zRd]; omega
    · rename_i hc
      have hu := unitP_len (l.drop (n + runN digB (l.drop n))) (by omega)
      rw [List.length_drop] at hu
      exact durGo_size l k _ _ _ _ _ _ (by omega)
theorem nameR_size (l : List UInt8) : (nameR l).size ≤ l.length := by
  have h := nameN_le l (l.length + 1) (partN l) (partN_le l)
  unfold nameR nameF
  split <;> simp [zRd] <;> omega
theorem numEnd_size (l : List UInt8) (n p : Nat) (ds : List UInt8) : (numEnd l n p ds).size = n := by
  unfold numEnd; split <;> rfl
theorem numR_size (l : List UInt8) : (numR l).size ≤ l.length := by
  have hw := runN_le digB l
  unfold numR
  simp only []
  split
  · simp [zRd]
  · split
    · rename_i h46
      have hlt : runN digB l < l.length := by
        by_cases hlt : runN digB l < l.length
        · exact hlt
        · rw [getD_end _ _ (by omega)] at h46; exact absurd h46 (by decide)
      have hp := runN_le digB (l.drop (runN digB l + 1))
      rw [List.length_drop] at hp
      split
      · simp [zRd]; omega
      · split
        · simp [zRd]; omega
        · rw [numEnd_size]; omega
    · split
      · simp [zRd]; omega
      · rw [numEnd_size]; omega
theorem signF_size : ∀ (xs : List (List UInt8)) (l : List UInt8), (signF xs l).size ≤ l.length
  | [], l => by simp [signF, zRd]
  | x :: xs, l => by
    unfold signF
    split
    · rename_i h
      have := (List.isPrefixOf_iff_prefix.1 h).length_le
      simp; omega
    · exact signF_size xs l
theorem textRd_size (l : List UInt8) (h : l ≠ []) (he : (textRd l).err = 0) : (textRd l).size ≤ l.length := by
  have hl : 0 < l.length := List.length_pos_iff.2 h
  unfold textRd at he ⊢
  split
  · rename_i h34
    rw [if_pos h34] at he
    have := textGo_size (l.drop 1) 1 []
    rw [List.length_drop] at this
    revert he this
    generalize textGo (l.drop 1) 1 [] = t
    obtain ⟨t1, t2, t3⟩ := t
    intro he this
    unfold textR rdOf7 at he ⊢
    simp only at he ⊢ this
    split at he
    · rename_i h3
      rw [if_pos h3]
      have := this h3
      simp only; omega
    · rename_i h3; exact absurd he h3
  · simp [zRd]
def F0 (l : List UInt8) : Rd := firstOf (nameR l) (durR l) (numR l) (textRd l) (signR l)
theorem pick_err {r : Rd} (h : (pick r).err = 0) : pick r = r ∧ r.err = 0 := by
  unfold pick at h ⊢
  split
  · rename_i h0; exact ⟨rfl, h0⟩
  · rename_i h0; rw [if_neg h0] at h; exact absurd h h0
theorem F0_size (l : List UInt8) (hl : l ≠ []) (he : (F0 l).err = 0) : 0 < (F0 l).size ∧ (F0 l).size ≤ l.length := by
  unfold F0 firstOf at he ⊢
  have h0 := nameR_size l
  have h1 := durGo_size l (l.length + 1) 0 0 (-1) false false false (by omega)
  have h2 := numR_size l
  have h4 := signF_size signsL l
  split at he
  · rename_i c0
    rw [if_pos c0]
    obtain ⟨e, _⟩ := pick_err he
    rw [e]; exact ⟨c0, h0⟩
  · rename_i c0
    rw [if_neg c0]
    split at he
    · rename_i c1
      rw [if_pos c1]
      obtain ⟨e, _⟩ := pick_err he
      rw [e]; exact ⟨c1, h1.2⟩
    · rename_i c1
      rw [if_neg c1]
      split at he
      · rename_i c2
        rw [if_pos c2]
        obtain ⟨e, _⟩ := pick_err he
        rw [e]; exact ⟨c2, h2⟩
      · rename_i c2
        rw [if_neg c2]
        split at he
        · rename_i c3
          rw [if_pos c3]
          obtain ⟨e, e0⟩ := pick_err he
          rw [e]; exact ⟨c3, textRd_size l hl e0⟩
        · rename_i c3
          rw [if_neg c3]
          split at he
          · rename_i c4
            rw [if_pos c4]
            obtain ⟨e, _⟩ := pick_err he
            rw [e]; exact ⟨c4, h4⟩
          · exact absurd he (by decide)
def X0 : Lex where
  F := F0
  B := blankG false
  hB := blankG_le false
  hF := fun l hl _ he => F0_size l hl he
  reads := fun s hs h0 => ⟨nameR s.data.toList, durR s.data.toList, numR s.data.toList, textRd s.data.toList, signR s.data.toList,
    fun W hT => lexer_name.calls _ s _ _ _ _ _ _ _ W (name_f s (by omega)),
    fun W hT => lexer_duration.calls _ s _ _ _ _ _ _ _ W hT (dur_f s (by omega)),
    fun W hT => lexer_number.calls _ s _ _ _ _ _ _ _ W hT (num_f s (by omega) 0),
    fun W hT => lexer_text.calls s _ _ _ _ _ _ _ W (text_f s (by omega)),
    fun W hT => lexer_sign.calls _ s _ _ _ _ _ _ _ W hT (sign_f s), rfl⟩
  blanks := fun s i hs hi w => lexer_blank.calls _ s i _ w (blank_f s (by omega) _ i _ (Nat.le_refl _) hi (Nat.le_refl _))
def lexer_Tokens.f (s : ByteArray) : Option (List S29 × Int × Int) := some (tokensOf X0 s)
theorem lexer_Tokens.calls (a0 : ByteArray) (r1 : List S29) (r2 r3 : Int) (w : World) (hT : Tabs w) (h : lexer_Tokens.f a0 = some (r1, r2, r3)) :
    Calls Tryz.prog 17 #[.string a0] w fun e w' => ∃ v0_ : Value, e = .returned (.tuple #[v0_, .int .i64 r2, .int .i64 r3]) ∧ Kd.R k29 29 w' w.heap.size (fun _ => True) v0_ r1 ∧ Below w.heap.size w w' := by
  have h1 : tokensOf X0 a0 = (r1, r2, r3) := Option.some.inj h
  by_cases hs : a0.size ≤ 4000
  · have := callsIn_wide.1 (tokens_in X0 a0 hs w hT)
    rw [h1] at this
    exact this
  · refine (tokens_long a0 (by omega) w).mono ?_
    rintro e w' ⟨rfl, hb⟩
    unfold tokensOf at h1
    rw [if_pos (by omega)] at h1
    obtain ⟨rfl, rfl, rfl⟩ : [] = r1 ∧ (0 : Int) = r2 ∧ (4 : Int) = r3 := by simpa using h1
    exact ⟨_, rfl, row_R (World.ownsRow_nil _ _ _ _), hb⟩
end Go.Proofs.YteokilkcchdeiaaGreatDoor.X
end
section
namespace Go.Proofs.YteokilkcchdeiaaGreatDoor.Q
open Go.RowKit Go.Proofs.YteokilkcchdeiaaGreatDoorW.PrintWords Go.Proofs.YteokilkcchdeiaaGreatDoorW.PrintLast Go.Proofs.YteokilkcchdeiaaGreatDoorW.PrintMore
attribute [local go_sem] max2_int min2_int max_two min_two max_three min_three max_four min_four   -- for this text's walks alone
theorem eqA27 (d : Nat) (w : World) (x0 y0 : Int) (x1 y1 : Int) :
  (Op.equalIn (d + 2) 27 (.agg #[.int .i64 x0, .int .i64 x1]) (.agg #[.int .i64 y0, .int .i64 y1])).run Tryz.prog w = .ok (x0 == y0 && (x1 == y1)) w := by
 refine eqA_of Tryz.underlying27 (by kernel_rfl) ?_
 refine eqf_cons (by rfl) (by go_simp; rfl) (by go_simp; rfl) (by go_simp) ?_
 exact eqf_last (by rfl) (by go_simp; rfl) (by go_simp; rfl) (by go_simp)
theorem eqA29 (d : Nat) (w : World) (x0 y0 : Int) (x1 y1 : ByteArray) (x2 y2 : Int) (x3 y3 : Int) (x4 y4 : Int) :
  (Op.equalIn (d + 3) 29 (.agg #[.int .i64 x0, .string x1, .int .i64 x2, .int .i64 x3, .int .i64 x4]) (.agg #[.int .i64 y0, .string y1, .int .i64 y2, .int .i64 y3, .int .i64 y4])).run Tryz.prog w = .ok (x0 == y0 && (x1.toList == y1.toList && ((x2 == y2 && (x3 == y3)) && (x4 == y4)))) w := by
 refine eqA_of Tryz.underlying29 (by kernel_rfl) ?_
 refine eqf_cons (by rfl) (by go_simp; rfl) (by go_simp; rfl) (by go_simp) ?_
 refine eqf_cons (by rfl) (by go_simp; rfl) (by go_simp; rfl) (by go_simp) ?_
 refine eqf_cons (by rfl) (by go_simp) (by go_simp) (eqA27 (d + 0) w _ _ _ _) ?_
 exact eqf_last (by rfl) (by go_simp; rfl) (by go_simp; rfl) (by go_simp)
end Go.Proofs.YteokilkcchdeiaaGreatDoor.Q
end
section
namespace Go.Proofs.YteokilkcchdeiaaGreatDoor.Q
open Go.Proofs.YteokilkcchdeiaaGreatDoor
open Go.Proofs.YteokilkcchdeiaaGreatDoor.X
open Go.RowKit Go.Proofs.YteokilkcchdeiaaGreatDoorW.PrintWords Go.Proofs.YteokilkcchdeiaaGreatDoorW.PrintLast Go.Proofs.YteokilkcchdeiaaGreatDoorW.PrintMore
attribute [local go_sem] max2_int min2_int max_two min_two max_three min_three max_four min_four   -- for this text's walks alone
attribute [local go_sem high] eqA29
def lookoutlaw42_awake.f (k : Nat)  : Option (Bool) := (lexer_Tokens.f (⟨#[114, 97, 116, 101, 40, 120, 91, 49, 104, 51, 48, 109, 93, 41, 32, 62, 32, 48, 46, 53, 32, 35, 32, 104, 97, 108, 102]⟩ : ByteArray)).bind fun bt114 => ((lexer_Duration.f 90500).bind fun bt119 => (if bt114.2.2 = 0 then (if bt119.2 = 0 then (if (bt114.1.length : Int) = 10 then (if 4 < (bt114.1.length : Int) then (if (((rd_T29 bt114.1 4).f0) == 3 && ((((rd_T29 bt114.1 4).f1).toList) == ([49, 104, 51, 48, 109] : List UInt8) && ((((rd_T29 bt114.1 4).f2.f0) == 5400000 && (((rd_T29 bt114.1 4).f2.f1) == 1)) && (((rd_T29 bt114.1 4).f3) == 7)))) = true then (if 8 < (bt114.1.length : Int) then (if (((rd_T29 bt114.1 8).f0) == 2 && ((((rd_T29 bt114.1 8).f1).toList) == ([48, 46, 53] : List UInt8) && ((((rd_T29 bt114.1 8).f2.f0) == 1 && (((rd_T29 bt114.1 8).f2.f1) == 2)) && (((rd_T29 bt114.1 8).f3) == 17)))) = true then (if 9 < (bt114.1.length : Int) then (if (((rd_T29 bt114.1 9).f0) == 0 && ((((rd_T29 bt114.1 9).f1).toList) == ([] : List UInt8) && ((((rd_T29 bt114.1 9).f2.f0) == 0 && (((rd_T29 bt114.1 9).f2.f1) == 0)) && (((rd_T29 bt114.1 9).f3) == 27)))) = true then ((lexer_Number.f k 9 10).bind fun t124 => (if t124.toList = ([48, 46, 57] : List UInt8) then ((lexer_Number.f k (-1) 3).bind fun t125 => (if t125.toList = ([45, 49, 47, 51] : List UInt8) then (some (bt119.1.toList == ([49, 109, 51, 48, 115, 53, 48, 48, 109, 115] : List UInt8))) else (some false))) else (some false))) else (some false)) else (none)) else (some false)) else (none)) else (some false)) else (none)) else (some false)) else (some false)) else (some false)))
theorem lookoutlaw42_awake.mono : ∀ k, LeO (lookoutlaw42_awake.f k ) (lookoutlaw42_awake.f (k + 1) ) := by
 intro  k
 unfold lookoutlaw42_awake.f
 repeat' first
   | (with_reducible exact lexer_Number.mono _ _ _)
   | (with_reducible exact LeO.refl _)
   | (with_reducible exact LeO.none _)
   | (with_reducible refine LeO.ite ?_ ?_)
   | (with_reducible refine LeO.bind ?_ (fun _ => ?_))
   | exact lexer_Number.mono _ _ _
   | exact LeO.none _
   | refine LeO.ite ?_ ?_
   | refine LeO.bind ?_ (fun _ => ?_)
set_option maxHeartbeats 8000000 in
set_option maxRecDepth 100000 in
theorem lookoutlaw42_awake.calls (k : Nat)  (r : Bool) (w : World) (hT : Tabs w) (h : lookoutlaw42_awake.f k  = some r) :
  Calls Tryz.prog 11 #[] w fun e w' => e = .returned (.bool r) ∧ Below w.heap.size w w' := by
 have hu29 := Tryz.underlying29
 have hu27 := Tryz.underlying27
 have HT := Aside0.mk hT
 clear hT
 have HB := Aside0.mk (Below.refl w.heap.size w)
 have H : ((lexer_Tokens.f (⟨#[114, 97, 116, 101, 40, 120, 91, 49, 104, 51, 48, 109, 93, 41, 32, 62, 32, 48, 46, 53, 32, 35, 32, 104, 97, 108, 102]⟩ : ByteArray)).bind fun bt114 => ((lexer_Duration.f 90500).bind fun bt119 => (if bt114.2.2 = 0 then (if bt119.2 = 0 then (if (bt114.1.length : Int) = 10 then (if 4 < (bt114.1.length : Int) then (if (((rd_T29 bt114.1 4).f0) == 3 && ((((rd_T29 bt114.1 4).f1).toList) == ([49, 104, 51, 48, 109] : List UInt8) && ((((rd_T29 bt114.1 4).f2.f0) == 5400000 && (((rd_T29 bt114.1 4).f2.f1) == 1)) && (((rd_T29 bt114.1 4).f3) == 7)))) = true then (if 8 < (bt114.1.length : Int) then (if (((rd_T29 bt114.1 8).f0) == 2 && ((((rd_T29 bt114.1 8).f1).toList) == ([48, 46, 53] : List UInt8) && ((((rd_T29 bt114.1 8).f2.f0) == 1 && (((rd_T29 bt114.1 8).f2.f1) == 2)) && (((rd_T29 bt114.1 8).f3) == 17)))) = true then (if 9 < (bt114.1.length : Int) then (if (((rd_T29 bt114.1 9).f0) == 0 && ((((rd_T29 bt114.1 9).f1).toList) == ([] : List UInt8) && ((((rd_T29 bt114.1 9).f2.f0) == 0 && (((rd_T29 bt114.1 9).f2.f1) == 0)) && (((rd_T29 bt114.1 9).f3) == 27)))) = true then ((lexer_Number.f k 9 10).bind fun t124 => (if t124.toList = ([48, 46, 57] : List UInt8) then ((lexer_Number.f k (-1) 3).bind fun t125 => (if t125.toList = ([45, 49, 47, 51] : List UInt8) then (some (bt119.1.toList == ([49, 109, 51, 48, 115, 53, 48, 48, 109, 115] : List UInt8))) else (some false))) else (some false))) else (some false)) else (none)) else (some false)) else (none)) else (some false)) else (none)) else (some false)) else (some false)) else (some false)))) = some r := h
 clear h
 replace H := Option.bind_eq_some_iff.mp H
 obtain ⟨⟨t114, t115, t116⟩, A10, H⟩ := H
 replace H : ((lexer_Duration.f 90500).bind fun bt119 => (if t116 = 0 then (if bt119.2 = 0 then (if (t114.length : Int) = 10 then (if 4 < (t114.length : Int) then (if (((rd_T29 t114 4).f0) == 3 && ((((rd_T29 t114 4).f1).toList) == ([49, 104, 51, 48, 109] : List UInt8) && ((((rd_T29 t114 4).f2.f0) == 5400000 && (((rd_T29 t114 4).f2.f1) == 1)) && (((rd_T29 t114 4).f3) == 7)))) = true then (if 8 < (t114.length : Int) then (if (((rd_T29 t114 8).f0) == 2 && ((((rd_T29 t114 8).f1).toList) == ([48, 46, 53] : List UInt8) && ((((rd_T29 t114 8).f2.f0) == 1 && (((rd_T29 t114 8).f2.f1) == 2)) && (((rd_T29 t114 8).f3) == 17)))) = true then (if 9 < (t114.length : Int) then (if (((rd_T29 t114 9).f0) == 0 && ((((rd_T29 t114 9).f1).toList) == ([] : List UInt8) && ((((rd_T29 t114 9).f2.f0) == 0 && (((rd_T29 t114 9).f2.f1) == 0)) && (((rd_T29 t114 9).f3) == 27)))) = true then ((lexer_Number.f k 9 10).bind fun t124 => (if t124.toList = ([48, 46, 57] : List UInt8) then ((lexer_Number.f k (-1) 3).bind fun t125 => (if t125.toList = ([45, 49, 47, 51] : List UInt8) then (some (bt119.1.toList == ([49, 109, 51, 48, 115, 53, 48, 48, 109, 115] : List UInt8))) else (some false))) else (some false))) else (some false)) else (none)) else (some false)) else (none)) else (some false)) else (none)) else (some false)) else (some false)) else (some false))) = some r := H
 have A1 := Aside0.mk A10
 clear A10
 replace H := Option.bind_eq_some_iff.mp H
 obtain ⟨⟨t119, t120⟩, A20, H⟩ := H
 replace H : (if t116 = 0 then (if t120 = 0 then (if (t114.length : Int) = 10 then (if 4 < (t114.length : Int) then (if (((rd_T29 t114 4).f0) == 3 && ((((rd_T29 t114 4).f1).toList) == ([49, 104, 51, 48, 109] : List UInt8) && ((((rd_T29 t114 4).f2.f0) == 5400000 && (((rd_T29 t114 4).f2.f1) == 1)) && (((rd_T29 t114 4).f3) == 7)))) = true then (if 8 < (t114.length : Int) then (if (((rd_T29 t114 8).f0) == 2 && ((((rd_T29 t114 8).f1).toList) == ([48, 46, 53] : List UInt8) && ((((rd_T29 t114 8).f2.f0) == 1 && (((rd_T29 t114 8).f2.f1) == 2)) && (((rd_T29 t114 8).f3) == 17)))) = true then (if 9 < (t114.length : Int) then (if (((rd_T29 t114 9).f0) == 0 && ((((rd_T29 t114 9).f1).toList) == ([] : List UInt8) && ((((rd_T29 t114 9).f2.f0) == 0 && (((rd_T29 t114 9).f2.f1) == 0)) && (((rd_T29 t114 9).f3) == 27)))) = true then ((lexer_Number.f k 9 10).bind fun t124 => (if t124.toList = ([48, 46, 57] : List UInt8) then ((lexer_Number.f k (-1) 3).bind fun t125 => (if t125.toList = ([45, 49, 47, 51] : List UInt8) then (some (t119.toList == ([49, 109, 51, 48, 115, 53, 48, 48, 109, 115] : List UInt8))) else (some false))) else (some false))) else (some false)) else (none)) else (some false)) else (none)) else (some false)) else (none)) else (some false)) else (some false)) else (some false)) = some r := H
 have A2 := Aside0.mk A20
 clear A20
 by_cases c3 : t116 = 0
 ·
  rw [if_pos c3] at H
  have c3b0 : (t116 == 0) = true := beq_iff_eq.mpr c3
  have c3b1 : (t116 != 0) = false := bne_eq_false_iff_eq.mpr c3
  clear c3
  by_cases c4 : t120 = 0
  ·
   rw [if_pos c4] at H
   have c4b0 : (t120 == 0) = true := beq_iff_eq.mpr c4
   have c4b1 : (t120 != 0) = false := bne_eq_false_iff_eq.mpr c4
   clear c4
   by_cases c5 : (t114.length : Int) = 10
   ·
    rw [if_pos c5] at H
    have c5b0 : ((t114.length : Int) == 10) = true := beq_iff_eq.mpr c5
    have c5b1 : ((t114.length : Int) != 10) = false := bne_eq_false_iff_eq.mpr c5
    clear c5
    by_cases c6 : 4 < (t114.length : Int)
    ·
     rw [if_pos c6] at H
     have c6b0 : decide (4 < (t114.length : Int)) = true := decide_eq_true c6
     have c6b1 : decide (4 < t114.length) = true := decide_eq_true (by omega)
     clear c6
     by_cases c7 : (((rd_T29 t114 4).f0) == 3 && ((((rd_T29 t114 4).f1).toList) == ([49, 104, 51, 48, 109] : List UInt8) && ((((rd_T29 t114 4).f2.f0) == 5400000 && (((rd_T29 t114 4).f2.f1) == 1)) && (((rd_T29 t114 4).f3) == 7)))) = true
     ·
      rw [if_pos c7] at H
      have c7b0 : (((rd_T29 t114 4).f0) == 3 && ((((rd_T29 t114 4).f1).toList) == ([49, 104, 51, 48, 109] : List UInt8) && ((((rd_T29 t114 4).f2.f0) == 5400000 && (((rd_T29 t114 4).f2.f1) == 1)) && (((rd_T29 t114 4).f3) == 7)))) = true := c7
      (try (have c7b1 : decide (((rd_T29 t114 4).f0) = 3 && ((((rd_T29 t114 4).f1).toList) == ([49, 104, 51, 48, 109] : List UInt8) && ((((rd_T29 t114 4).f2.f0) == 5400000 && (((rd_T29 t114 4).f2.f1) == 1)) && (((rd_T29 t114 4).f3) == 7)))) = true := by simpa using c7))
      (try (have c7b2 : (((rd_T29 t114 4).f0) == 3 && ((((rd_T29 t114 4).f1).toList) == ([49, 104, 51, 48, 109] : List UInt8) && ((((rd_T29 t114 4).f2.f0) == 5400000 && (((rd_T29 t114 4).f2.f1) == 1)) && (((rd_T29 t114 4).f3) == 7)))) = true := by simpa using c7))
      clear c7
      by_cases c8 : 8 < (t114.length : Int)
      ·
       rw [if_pos c8] at H
       have c8b0 : decide (8 < (t114.length : Int)) = true := decide_eq_true c8
       have c8b1 : decide (8 < t114.length) = true := decide_eq_true (by omega)
       clear c8
       by_cases c9 : (((rd_T29 t114 8).f0) == 2 && ((((rd_T29 t114 8).f1).toList) == ([48, 46, 53] : List UInt8) && ((((rd_T29 t114 8).f2.f0) == 1 && (((rd_T29 t114 8).f2.f1) == 2)) && (((rd_T29 t114 8).f3) == 17)))) = true
       ·
        rw [if_pos c9] at H
        have c9b0 : (((rd_T29 t114 8).f0) == 2 && ((((rd_T29 t114 8).f1).toList) == ([48, 46, 53] : List UInt8) && ((((rd_T29 t114 8).f2.f0) == 1 && (((rd_T29 t114 8).f2.f1) == 2)) && (((rd_T29 t114 8).f3) == 17)))) = true := c9
        (try (have c9b1 : decide (((rd_T29 t114 8).f0) = 2 && ((((rd_T29 t114 8).f1).toList) == ([48, 46, 53] : List UInt8) && ((((rd_T29 t114 8).f2.f0) == 1 && (((rd_T29 t114 8).f2.f1) == 2)) && (((rd_T29 t114 8).f3) == 17)))) = true := by simpa using c9))
        (try (have c9b2 : (((rd_T29 t114 8).f0) == 2 && ((((rd_T29 t114 8).f1).toList) == ([48, 46, 53] : List UInt8) && ((((rd_T29 t114 8).f2.f0) == 1 && (((rd_T29 t114 8).f2.f1) == 2)) && (((rd_T29 t114 8).f3) == 17)))) = true := by simpa using c9))
        clear c9
        by_cases c10 : 9 < (t114.length : Int)
        ·
         rw [if_pos c10] at H
         have c10b0 : decide (9 < (t114.length : Int)) = true := decide_eq_true c10
         have c10b1 : decide (9 < t114.length) = true := decide_eq_true (by omega)
         clear c10
         by_cases c11 : (((rd_T29 t114 9).f0) == 0 && ((((rd_T29 t114 9).f1).toList) == ([] : List UInt8) && ((((rd_T29 t114 9).f2.f0) == 0 && (((rd_T29 t114 9).f2.f1) == 0)) && (((rd_T29 t114 9).f3) == 27)))) = true
         ·
          rw [if_pos c11] at H
          have c11b0 : (((rd_T29 t114 9).f0) == 0 && ((((rd_T29 t114 9).f1).toList) == ([] : List UInt8) && ((((rd_T29 t114 9).f2.f0) == 0 && (((rd_T29 t114 9).f2.f1) == 0)) && (((rd_T29 t114 9).f3) == 27)))) = true := c11
          (try (have c11b1 : decide (((rd_T29 t114 9).f0) = 0 && ((((rd_T29 t114 9).f1).toList) == ([] : List UInt8) && ((((rd_T29 t114 9).f2.f0) == 0 && (((rd_T29 t114 9).f2.f1) == 0)) && (((rd_T29 t114 9).f3) == 27)))) = true := by simpa using c11))
          (try (have c11b2 : (((rd_T29 t114 9).f0) == 0 && ((((rd_T29 t114 9).f1).toList) == ([] : List UInt8) && ((((rd_T29 t114 9).f2.f0) == 0 && (((rd_T29 t114 9).f2.f1) == 0)) && (((rd_T29 t114 9).f3) == 27)))) = true := by simpa using c11))
          have c11b9 := c11b0; simp only [Bool.and_eq_true, beq_iff_eq] at c11b9
          clear c11
          replace H := Option.bind_eq_some_iff.mp H
          obtain ⟨t124, A120, H⟩ := H
          replace H : (if t124.toList = ([48, 46, 57] : List UInt8) then ((lexer_Number.f k (-1) 3).bind fun t125 => (if t125.toList = ([45, 49, 47, 51] : List UInt8) then (some (t119.toList == ([49, 109, 51, 48, 115, 53, 48, 48, 109, 115] : List UInt8))) else (some false))) else (some false)) = some r := H
          have A12 := Aside0.mk A120
          clear A120
          by_cases c13 : t124.toList = ([48, 46, 57] : List UInt8)
          ·
           rw [if_pos c13] at H
           have c13b0 : (t124.toList == ([48, 46, 57] : List UInt8)) = true := beq_iff_eq.mpr c13
           have c13b1 : (t124.toList != ([48, 46, 57] : List UInt8)) = false := bne_eq_false_iff_eq.mpr c13
           clear c13
           replace H := Option.bind_eq_some_iff.mp H
           obtain ⟨t125, A140, H⟩ := H
           replace H : (if t125.toList = ([45, 49, 47, 51] : List UInt8) then (some (t119.toList == ([49, 109, 51, 48, 115, 53, 48, 48, 109, 115] : List UInt8))) else (some false)) = some r := H
           have A14 := Aside0.mk A140
           clear A140
           by_cases c15 : t125.toList = ([45, 49, 47, 51] : List UInt8)
           ·
            rw [if_pos c15] at H
            have c15b0 : (t125.toList == ([45, 49, 47, 51] : List UInt8)) = true := beq_iff_eq.mpr c15
            have c15b1 : (t125.toList != ([45, 49, 47, 51] : List UInt8)) = false := bne_eq_false_iff_eq.mpr c15
            clear c15
            obtain rfl := Option.some.inj H
            go_enter Tryz.func11, Tryz.ntmps11
            go_wp2_with (first | ((with_reducible refine gate_callee (f := 17) rfl ?_); refine goesL_ (some 7) rfl rfl Tryz.func17 (by kernel_rfl) rfl #[.string (⟨#[114, 97, 116, 101, 40, 120, 91, 49, 104, 51, 48, 109, 93, 41, 32, 62, 32, 48, 46, 53, 32, 35, 32, 104, 97, 108, 102]⟩ : ByteArray)] rfl (by (try simp only [List.map_toArray, List.map_cons, List.map_nil]); first | done | rfl | (simp only [List.length_drop, List.length_take]; rfl)) ?_; (with_reducible refine (lexer_Tokens.calls (⟨#[114, 97, 116, 101, 40, 120, 91, 49, 104, 51, 48, 109, 93, 41, 32, 62, 32, 48, 46, 53, 32, 35, 32, 104, 97, 108, 102]⟩ : ByteArray) t114 t115 t116 _ ?side1 A1.out).mono ?_); (case side1 => exact Tabs.below HT.out (by repeat (first | (with_reducible first | exact HB.out | apply below_alloc | apply pw_below_drewN | apply below_drew1) | exact HB.out))); rintro e w16 ⟨v117, rfl, ho0, hb⟩; refine ⟨_, rfl, ?_⟩; have n0_ := Aside0.mk (Kd.R_lower ho0 (below_size (by repeat (first | (with_reducible first | exact HB.out | apply below_alloc | apply pw_below_drewN | apply below_drew1) | exact HB.out)))); have n1_ := Aside0.mk (below_step (by repeat (first | (with_reducible first | exact HB.out | apply below_alloc | apply pw_below_drewN | apply below_drew1) | exact HB.out)) hb); clear HB; have HO118 := n0_; have HB := n1_; clear n0_ n1_; (try clear hb); (try clear hb2); (try clear hk); (try clear hi); (try clear ho0)) | ((with_reducible refine gate_callee (f := 10) rfl ?_); refine goesL_ (some 12) rfl rfl Tryz.func10 (by kernel_rfl) rfl #[.int .i64 90500] rfl (by (try simp only [List.map_toArray, List.map_cons, List.map_nil]); first | done | rfl | (simp only [List.length_drop, List.length_take]; rfl)) ?_; (with_reducible refine (lexer_Duration.calls 90500 t119 t120 _ ?side1 A2.out).mono ?_); (case side1 => exact Tabs.below HT.out (by repeat (first | (with_reducible first | exact HB.out | apply below_alloc | apply pw_below_drewN | apply below_drew1) | exact HB.out))); rintro e w17 ⟨rfl, hb⟩; refine ⟨_, rfl, ?_⟩; have n0_ := Aside0.mk (Kd.R_below (by (with_reducible repeat (first | apply Kd.R_alloc | apply Kd.R_drewN | apply Kd.R_drew)); exact HO118.out) hb); have n1_ := Aside0.mk (below_step (by repeat (first | (with_reducible first | exact HB.out | apply below_alloc | apply pw_below_drewN | apply below_drew1) | exact HB.out)) hb); clear HO118; clear HB; have HO118 := n0_; have HB := n1_; clear n0_ n1_; (try clear hb); (try clear hb2); (try clear hk); (try clear hi); obtain ⟨Ao18, co18, eo18⟩ := Kd.R_slice HO118.out; subst eo18; have p121 : 0 ≤ (4 : Int) := (by omega); have q121 : 4 < (t114.length : Int) := of_decide_eq_true (by first | (with_reducible assumption) | assumption); obtain ⟨ad121, e121, hx121_0, hx121_1, hx121_2, hx121_3, hx121_4⟩ := at_T29 (Kd.R_reads' HO118.out).2.2 4 p121 q121; cases e121; (try simp only [show (4 : Int).toNat = 4 from rfl, Nat.reduceMul, Nat.reduceEqDiff, Go.Addr.add, ↓reduceIte] at hx121_0); (try simp only [show (4 : Int).toNat = 4 from rfl, Nat.reduceMul, Nat.reduceEqDiff, Go.Addr.add, ↓reduceIte] at hx121_1); (try simp only [show (4 : Int).toNat = 4 from rfl, Nat.reduceMul, Nat.reduceEqDiff, Go.Addr.add, ↓reduceIte] at hx121_2); (try simp only [show (4 : Int).toNat = 4 from rfl, Nat.reduceMul, Nat.reduceEqDiff, Go.Addr.add, ↓reduceIte] at hx121_3); (try simp only [show (4 : Int).toNat = 4 from rfl, Nat.reduceMul, Nat.reduceEqDiff, Go.Addr.add, ↓reduceIte] at hx121_4); have qi121 : (4 < t114.length) = True := eq_true (by omega); (try rw [show ((4 : Int)).toNat = 4 from rfl] at hx121_0); (try rw [show 4 * 5 = 20 from rfl] at hx121_0); (try rw [show ((4 : Int)).toNat = 4 from rfl] at hx121_1); (try rw [show 4 * 5 = 20 from rfl] at hx121_1); (try rw [show ((4 : Int)).toNat = 4 from rfl] at hx121_2); (try rw [show 4 * 5 = 20 from rfl] at hx121_2); (try rw [show ((4 : Int)).toNat = 4 from rfl] at hx121_3); (try rw [show 4 * 5 = 20 from rfl] at hx121_3); (try rw [show ((4 : Int)).toNat = 4 from rfl] at hx121_4); (try rw [show 4 * 5 = 20 from rfl] at hx121_4); replace p121 := eq_true p121; replace q121 := eq_true q121; have p122 : 0 ≤ (8 : Int) := (by omega); have q122 : 8 < (t114.length : Int) := of_decide_eq_true (by first | (with_reducible assumption) | assumption); obtain ⟨ad122, e122, hx122_0, hx122_1, hx122_2, hx122_3, hx122_4⟩ := at_T29 (Kd.R_reads' HO118.out).2.2 8 p122 q122; obtain rfl : ad121 = ad122 := (by injection e122); (try simp only [show (8 : Int).toNat = 8 from rfl, Nat.reduceMul, Nat.reduceEqDiff, Go.Addr.add, ↓reduceIte] at hx122_0); (try simp only [show (8 : Int).toNat = 8 from rfl, Nat.reduceMul, Nat.reduceEqDiff, Go.Addr.add, ↓reduceIte] at hx122_1); (try simp only [show (8 : Int).toNat = 8 from rfl, Nat.reduceMul, Nat.reduceEqDiff, Go.Addr.add, ↓reduceIte] at hx122_2); (try simp only [show (8 : Int).toNat = 8 from rfl, Nat.reduceMul, Nat.reduceEqDiff, Go.Addr.add, ↓reduceIte] at hx122_3); (try simp only [show (8 : Int).toNat = 8 from rfl, Nat.reduceMul, Nat.reduceEqDiff, Go.Addr.add, ↓reduceIte] at hx122_4); have qi122 : (8 < t114.length) = True := eq_true (by omega); (try rw [show ((8 : Int)).toNat = 8 from rfl] at hx122_0); (try rw [show 8 * 5 = 40 from rfl] at hx122_0); (try rw [show ((8 : Int)).toNat = 8 from rfl] at hx122_1); (try rw [show 8 * 5 = 40 from rfl] at hx122_1); (try rw [show ((8 : Int)).toNat = 8 from rfl] at hx122_2); (try rw [show 8 * 5 = 40 from rfl] at hx122_2); (try rw [show ((8 : Int)).toNat = 8 from rfl] at hx122_3); (try rw [show 8 * 5 = 40 from rfl] at hx122_3); (try rw [show ((8 : Int)).toNat = 8 from rfl] at hx122_4); (try rw [show 8 * 5 = 40 from rfl] at hx122_4); replace p122 := eq_true p122; replace q122 := eq_true q122; have p123 : 0 ≤ (9 : Int) := (by omega); have q123 : 9 < (t114.length : Int) := of_decide_eq_true (by first | (with_reducible assumption) | assumption); obtain ⟨ad123, e123, hx123_0, hx123_1, hx123_2, hx123_3, hx123_4⟩ := at_T29 (Kd.R_reads' HO118.out).2.2 9 p123 q123; obtain rfl : ad121 = ad123 := (by injection e123); (try simp only [show (9 : Int).toNat = 9 from rfl, Nat.reduceMul, Nat.reduceEqDiff, Go.Addr.add, ↓reduceIte] at hx123_0); (try simp only [show (9 : Int).toNat = 9 from rfl, Nat.reduceMul, Nat.reduceEqDiff, Go.Addr.add, ↓reduceIte] at hx123_1); (try simp only [show (9 : Int).toNat = 9 from rfl, Nat.reduceMul, Nat.reduceEqDiff, Go.Addr.add, ↓reduceIte] at hx123_2); (try simp only [show (9 : Int).toNat = 9 from rfl, Nat.reduceMul, Nat.reduceEqDiff, Go.Addr.add, ↓reduceIte] at hx123_3); (try simp only [show (9 : Int).toNat = 9 from rfl, Nat.reduceMul, Nat.reduceEqDiff, Go.Addr.add, ↓reduceIte] at hx123_4); have qi123 : (9 < t114.length) = True := eq_true (by omega); (try rw [show ((9 : Int)).toNat = 9 from rfl] at hx123_0); (try rw [show 9 * 5 = 45 from rfl] at hx123_0); (try rw [show ((9 : Int)).toNat = 9 from rfl] at hx123_1); (try rw [show 9 * 5 = 45 from rfl] at hx123_1); (try rw [show ((9 : Int)).toNat = 9 from rfl] at hx123_2); (try rw [show 9 * 5 = 45 from rfl] at hx123_2); (try rw [show ((9 : Int)).toNat = 9 from rfl] at hx123_3); (try rw [show 9 * 5 = 45 from rfl] at hx123_3); (try rw [show ((9 : Int)).toNat = 9 from rfl] at hx123_4); (try rw [show 9 * 5 = 45 from rfl] at hx123_4); replace p123 := eq_true p123; replace q123 := eq_true q123) | (go_at_call 13; (with_reducible refine (lexer_Number.calls k 9 10 t124 _ ?side1 A12.out).mono ?_); (case side1 => exact Tabs.below HT.out (by repeat (first | (with_reducible first | exact HB.out | apply below_alloc | apply pw_below_drewN | apply below_drew1) | exact HB.out))); rintro e w19 ⟨rfl, hb⟩; have n0_ := Aside0.mk (Kd.R_below (by (with_reducible repeat (first | apply Kd.R_alloc | apply Kd.R_drewN | apply Kd.R_drew)); exact HO118.out) hb); have n1_ := Aside0.mk (below_step (by repeat (first | (with_reducible first | exact HB.out | apply below_alloc | apply pw_below_drewN | apply below_drew1) | exact HB.out)) hb); clear HO118; clear HB; have HO118 := n0_; have HB := n1_; clear n0_ n1_; (try clear hb); (try clear hb2); (try clear hk); (try clear hi)) | (go_at_call 13; (with_reducible refine (lexer_Number.calls k (-1) 3 t125 _ ?side1 A14.out).mono ?_); (case side1 => exact Tabs.below HT.out (by repeat (first | (with_reducible first | exact HB.out | apply below_alloc | apply pw_below_drewN | apply below_drew1) | exact HB.out))); rintro e w20 ⟨rfl, hb⟩; have n0_ := Aside0.mk (Kd.R_below (by (with_reducible repeat (first | apply Kd.R_alloc | apply Kd.R_drewN | apply Kd.R_drew)); exact HO118.out) hb); have n1_ := Aside0.mk (below_step (by repeat (first | (with_reducible first | exact HB.out | apply below_alloc | apply pw_below_drewN | apply below_drew1) | exact HB.out)) hb); clear HO118; clear HB; have HO118 := n0_; have HB := n1_; clear n0_ n1_; (try clear hb); (try clear hb2); (try clear hk); (try clear hi)))
            go_ret
            exact ⟨by first | rfl | (simp [errW_none, errW_some] <;> rfl) | (simp [*, errW_none, errW_some] <;> rfl), by repeat (first | (with_reducible first | exact HB.out | apply below_alloc | apply pw_below_drewN | apply below_drew1) | exact HB.out)⟩
           ·
            rw [if_neg c15] at H
            have c15b0 : (t125.toList == ([45, 49, 47, 51] : List UInt8)) = false := beq_eq_false_iff_ne.mpr c15
            have c15b1 : (t125.toList != ([45, 49, 47, 51] : List UInt8)) = true := bne_iff_ne.mpr c15
            obtain rfl := Option.some.inj H
            go_enter Tryz.func11, Tryz.ntmps11
            go_wp2_with (first | ((with_reducible refine gate_callee (f := 17) rfl ?_); refine goesL_ (some 7) rfl rfl Tryz.func17 (by kernel_rfl) rfl #[.string (⟨#[114, 97, 116, 101, 40, 120, 91, 49, 104, 51, 48, 109, 93, 41, 32, 62, 32, 48, 46, 53, 32, 35, 32, 104, 97, 108, 102]⟩ : ByteArray)] rfl (by (try simp only [List.map_toArray, List.map_cons, List.map_nil]); first | done | rfl | (simp only [List.length_drop, List.length_take]; rfl)) ?_; (with_reducible refine (lexer_Tokens.calls (⟨#[114, 97, 116, 101, 40, 120, 91, 49, 104, 51, 48, 109, 93, 41, 32, 62, 32, 48, 46, 53, 32, 35, 32, 104, 97, 108, 102]⟩ : ByteArray) t114 t115 t116 _ ?side1 A1.out).mono ?_); (case side1 => exact Tabs.below HT.out (by repeat (first | (with_reducible first | exact HB.out | apply below_alloc | apply pw_below_drewN | apply below_drew1) | exact HB.out))); rintro e w21 ⟨v117, rfl, ho0, hb⟩; refine ⟨_, rfl, ?_⟩; have n0_ := Aside0.mk (Kd.R_lower ho0 (below_size (by repeat (first | (with_reducible first | exact HB.out | apply below_alloc | apply pw_below_drewN | apply below_drew1) | exact HB.out)))); have n1_ := Aside0.mk (below_step (by repeat (first | (with_reducible first | exact HB.out | apply below_alloc | apply pw_below_drewN | apply below_drew1) | exact HB.out)) hb); clear HB; have HO118 := n0_; have HB := n1_; clear n0_ n1_; (try clear hb); (try clear hb2); (try clear hk); (try clear hi); (try clear ho0)) | ((with_reducible refine gate_callee (f := 10) rfl ?_); refine goesL_ (some 12) rfl rfl Tryz.func10 (by kernel_rfl) rfl #[.int .i64 90500] rfl (by (try simp only [List.map_toArray, List.map_cons, List.map_nil]); first | done | rfl | (simp only [List.length_drop, List.length_take]; rfl)) ?_; (with_reducible refine (lexer_Duration.calls 90500 t119 t120 _ ?side1 A2.out).mono ?_); (case side1 => exact Tabs.below HT.out (by repeat (first | (with_reducible first | exact HB.out | apply below_alloc | apply pw_below_drewN | apply below_drew1) | exact HB.out))); rintro e w22 ⟨rfl, hb⟩; refine ⟨_, rfl, ?_⟩; have n0_ := Aside0.mk (Kd.R_below (by (with_reducible repeat (first | apply Kd.R_alloc | apply Kd.R_drewN | apply Kd.R_drew)); exact HO118.out) hb); have n1_ := Aside0.mk (below_step (by repeat (first | (with_reducible first | exact HB.out | apply below_alloc | apply pw_below_drewN | apply below_drew1) | exact HB.out)) hb); clear HO118; clear HB; have HO118 := n0_; have HB := n1_; clear n0_ n1_; (try clear hb); (try clear hb2); (try clear hk); (try clear hi); obtain ⟨Ao23, co23, eo23⟩ := Kd.R_slice HO118.out; subst eo23; have p121 : 0 ≤ (4 : Int) := (by omega); have q121 : 4 < (t114.length : Int) := of_decide_eq_true (by first | (with_reducible assumption) | assumption); obtain ⟨ad121, e121, hx121_0, hx121_1, hx121_2, hx121_3, hx121_4⟩ := at_T29 (Kd.R_reads' HO118.out).2.2 4 p121 q121; cases e121; (try simp only [show (4 : Int).toNat = 4 from rfl, Nat.reduceMul, Nat.reduceEqDiff, Go.Addr.add, ↓reduceIte] at hx121_0); (try simp only [show (4 : Int).toNat = 4 from rfl, Nat.reduceMul, Nat.reduceEqDiff, Go.Addr.add, ↓reduceIte] at hx121_1); (try simp only [show (4 : Int).toNat = 4 from rfl, Nat.reduceMul, Nat.reduceEqDiff, Go.Addr.add, ↓reduceIte] at hx121_2); (try simp only [show (4 : Int).toNat = 4 from rfl, Nat.reduceMul, Nat.reduceEqDiff, Go.Addr.add, ↓reduceIte] at hx121_3); (try simp only [show (4 : Int).toNat = 4 from rfl, Nat.reduceMul, Nat.reduceEqDiff, Go.Addr.add, ↓reduceIte] at hx121_4); have qi121 : (4 < t114.length) = True := eq_true (by omega); (try rw [show ((4 : Int)).toNat = 4 from rfl] at hx121_0); (try rw [show 4 * 5 = 20 from rfl] at hx121_0); (try rw [show ((4 : Int)).toNat = 4 from rfl] at hx121_1); (try rw [show 4 * 5 = 20 from rfl] at hx121_1); (try rw [show ((4 : Int)).toNat = 4 from rfl] at hx121_2); (try rw [show 4 * 5 = 20 from rfl] at hx121_2); (try rw [show ((4 : Int)).toNat = 4 from rfl] at hx121_3); (try rw [show 4 * 5 = 20 from rfl] at hx121_3); (try rw [show ((4 : Int)).toNat = 4 from rfl] at hx121_4); (try rw [show 4 * 5 = 20 from rfl] at hx121_4); replace p121 := eq_true p121; replace q121 := eq_true q121; have p122 : 0 ≤ (8 : Int) := (by omega); have q122 : 8 < (t114.length : Int) := of_decide_eq_true (by first | (with_reducible assumption) | assumption); obtain ⟨ad122, e122, hx122_0, hx122_1, hx122_2, hx122_3, hx122_4⟩ := at_T29 (Kd.R_reads' HO118.out).2.2 8 p122 q122; obtain rfl : ad121 = ad122 := (by injection e122); (try simp only [show (8 : Int).toNat = 8 from rfl, Nat.reduceMul, Nat.reduceEqDiff, Go.Addr.add, ↓reduceIte] at hx122_0); (try simp only [show (8 : Int).toNat = 8 from rfl, Nat.reduceMul, Nat.reduceEqDiff, Go.Addr.add, ↓reduceIte] at hx122_1); (try simp only [show (8 : Int).toNat = 8 from rfl, Nat.reduceMul, Nat.reduceEqDiff, Go.Addr.add, ↓reduceIte] at hx122_2); (try simp only [show (8 : Int).toNat = 8 from rfl, Nat.reduceMul, Nat.reduceEqDiff, Go.Addr.add, ↓reduceIte] at hx122_3); (try simp only [show (8 : Int).toNat = 8 from rfl, Nat.reduceMul, Nat.reduceEqDiff, Go.Addr.add, ↓reduceIte] at hx122_4); have qi122 : (8 < t114.length) = True := eq_true (by omega); (try rw [show ((8 : Int)).toNat = 8 from rfl] at hx122_0); (try rw [show 8 * 5 = 40 from rfl] at hx122_0); (try rw [show ((8 : Int)).toNat = 8 from rfl] at hx122_1); (try rw [show 8 * 5 = 40 from rfl] at hx122_1); (try rw [show ((8 : Int)).toNat = 8 from rfl] at hx122_2); (try rw [show 8 * 5 = 40 from rfl] at hx122_2); (try rw [show ((8 : Int)).toNat = 8 from rfl] at hx122_3); (try rw [show 8 * 5 = 40 from rfl] at hx122_3); (try rw [show ((8 : Int)).toNat = 8 from rfl] at hx122_4); (try rw [show 8 * 5 = 40 from rfl] at hx122_4); replace p122 := eq_true p122; replace q122 := eq_true q122; have p123 : 0 ≤ (9 : Int) := (by omega); have q123 : 9 < (t114.length : Int) := of_decide_eq_true (by first | (with_reducible assumption) | assumption); obtain ⟨ad123, e123, hx123_0, hx123_1, hx123_2, hx123_3, hx123_4⟩ := at_T29 (Kd.R_reads' HO118.out).2.2 9 p123 q123; obtain rfl : ad121 = ad123 := (by injection e123); (try simp only [show (9 : Int).toNat = 9 from rfl, Nat.reduceMul, Nat.reduceEqDiff, Go.Addr.add, ↓reduceIte] at hx123_0); (try simp only [show (9 : Int).toNat = 9 from rfl, Nat.reduceMul, Nat.reduceEqDiff, Go.Addr.add, ↓reduceIte] at hx123_1); (try simp only [show (9 : Int).toNat = 9 from rfl, Nat.reduceMul, Nat.reduceEqDiff, Go.Addr.add, ↓reduceIte] at hx123_2); (try simp only [show (9 : Int).toNat = 9 from rfl, Nat.reduceMul, Nat.reduceEqDiff, Go.Addr.add, ↓reduceIte] at hx123_3); (try simp only [show (9 : Int).toNat = 9 from rfl, Nat.reduceMul, Nat.reduceEqDiff, Go.Addr.add, ↓reduceIte] at hx123_4); have qi123 : (9 < t114.length) = True := eq_true (by omega); (try rw [show ((9 : Int)).toNat = 9 from rfl] at hx123_0); (try rw [show 9 * 5 = 45 from rfl] at hx123_0); (try rw [show ((9 : Int)).toNat = 9 from rfl] at hx123_1); (try rw [show 9 * 5 = 45 from rfl] at hx123_1); (try rw [show ((9 : Int)).toNat = 9 from rfl] at hx123_2); (try rw [show 9 * 5 = 45 from rfl] at hx123_2); (try rw [show ((9 : Int)).toNat = 9 from rfl] at hx123_3); (try rw [show 9 * 5 = 45 from rfl] at hx123_3); (try rw [show ((9 : Int)).toNat = 9 from rfl] at hx123_4); (try rw [show 9 * 5 = 45 from rfl] at hx123_4); replace p123 := eq_true p123; replace q123 := eq_true q123) | (go_at_call 13; (with_reducible refine (lexer_Number.calls k 9 10 t124 _ ?side1 A12.out).mono ?_); (case side1 => exact Tabs.below HT.out (by repeat (first | (with_reducible first | exact HB.out | apply below_alloc | apply pw_below_drewN | apply below_drew1) | exact HB.out))); rintro e w24 ⟨rfl, hb⟩; have n0_ := Aside0.mk (Kd.R_below (by (with_reducible repeat (first | apply Kd.R_alloc | apply Kd.R_drewN | apply Kd.R_drew)); exact HO118.out) hb); have n1_ := Aside0.mk (below_step (by repeat (first | (with_reducible first | exact HB.out | apply below_alloc | apply pw_below_drewN | apply below_drew1) | exact HB.out)) hb); clear HO118; clear HB; have HO118 := n0_; have HB := n1_; clear n0_ n1_; (try clear hb); (try clear hb2); (try clear hk); (try clear hi)) | (go_at_call 13; (with_reducible refine (lexer_Number.calls k (-1) 3 t125 _ ?side1 A14.out).mono ?_); (case side1 => exact Tabs.below HT.out (by repeat (first | (with_reducible first | exact HB.out | apply below_alloc | apply pw_below_drewN | apply below_drew1) | exact HB.out))); rintro e w25 ⟨rfl, hb⟩; have n0_ := Aside0.mk (Kd.R_below (by (with_reducible repeat (first | apply Kd.R_alloc | apply Kd.R_drewN | apply Kd.R_drew)); exact HO118.out) hb); have n1_ := Aside0.mk (below_step (by repeat (first | (with_reducible first | exact HB.out | apply below_alloc | apply pw_below_drewN | apply below_drew1) | exact HB.out)) hb); clear HO118; clear HB; have HO118 := n0_; have HB := n1_; clear n0_ n1_; (try clear hb); (try clear hb2); (try clear hk); (try clear hi)))
            go_ret
            exact ⟨by first | rfl | (simp [errW_none, errW_some] <;> rfl) | (simp [*, errW_none, errW_some] <;> rfl), by repeat (first | (with_reducible first | exact HB.out | apply below_alloc | apply pw_below_drewN | apply below_drew1) | exact HB.out)⟩
          ·
           rw [if_neg c13] at H
           have c13b0 : (t124.toList == ([48, 46, 57] : List UInt8)) = false := beq_eq_false_iff_ne.mpr c13
           have c13b1 : (t124.toList != ([48, 46, 57] : List UInt8)) = true := bne_iff_ne.mpr c13
           obtain rfl := Option.some.inj H
           go_enter Tryz.func11, Tryz.ntmps11
           go_wp2_with (first | ((with_reducible refine gate_callee (f := 17) rfl ?_); refine goesL_ (some 7) rfl rfl Tryz.func17 (by kernel_rfl) rfl #[.string (⟨#[114, 97, 116, 101, 40, 120, 91, 49, 104, 51, 48, 109, 93, 41, 32, 62, 32, 48, 46, 53, 32, 35, 32, 104, 97, 108, 102]⟩ : ByteArray)] rfl (by (try simp only [List.map_toArray, List.map_cons, List.map_nil]); first | done | rfl | (simp only [List.length_drop, List.length_take]; rfl)) ?_; (with_reducible refine (lexer_Tokens.calls (⟨#[114, 97, 116, 101, 40, 120, 91, 49, 104, 51, 48, 109, 93, 41, 32, 62, 32, 48, 46, 53, 32, 35, 32, 104, 97, 108, 102]⟩ : ByteArray) t114 t115 t116 _ ?side1 A1.out).mono ?_); (case side1 => exact Tabs.below HT.out (by repeat (first | (with_reducible first | exact HB.out | apply below_alloc | apply pw_below_drewN | apply below_drew1) | exact HB.out))); rintro e w26 ⟨v117, rfl, ho0, hb⟩; refine ⟨_, rfl, ?_⟩; have n0_ := Aside0.mk (Kd.R_lower ho0 (below_size (by repeat (first | (with_reducible first | exact HB.out | apply below_alloc | apply pw_below_drewN | apply below_drew1) | exact HB.out)))); have n1_ := Aside0.mk (below_step (by repeat (first | (with_reducible first | exact HB.out | apply below_alloc | apply pw_below_drewN | apply below_drew1) | exact HB.out)) hb); clear HB; have HO118 := n0_; have HB := n1_; clear n0_ n1_; (try clear hb); (try clear hb2); (try clear hk); (try clear hi); (try clear ho0)) | ((with_reducible refine gate_callee (f := 10) rfl ?_); refine goesL_ (some 12) rfl rfl Tryz.func10 (by kernel_rfl) rfl #[.int .i64 90500] rfl (by (try simp only [List.map_toArray, List.map_cons, List.map_nil]); first | done | rfl | (simp only [List.length_drop, List.length_take]; rfl)) ?_; (with_reducible refine (lexer_Duration.calls 90500 t119 t120 _ ?side1 A2.out).mono ?_); (case side1 => exact Tabs.below HT.out (by repeat (first | (with_reducible first | exact HB.out | apply below_alloc | apply pw_below_drewN | apply below_drew1) | exact HB.out))); rintro e w27 ⟨rfl, hb⟩; refine ⟨_, rfl, ?_⟩; have n0_ := Aside0.mk (Kd.R_below (by (with_reducible repeat (first | apply Kd.R_alloc | apply Kd.R_drewN | apply Kd.R_drew)); exact HO118.out) hb); have n1_ := Aside0.mk (below_step (by repeat (first | (with_reducible first | exact HB.out | apply below_alloc | apply pw_below_drewN | apply below_drew1) | exact HB.out)) hb); clear HO118; clear HB; have HO118 := n0_; have HB := n1_; clear n0_ n1_; (try clear hb); (try clear hb2); (try clear hk); (try clear hi); obtain ⟨Ao28, co28, eo28⟩ := Kd.R_slice HO118.out; subst eo28; have p121 : 0 ≤ (4 : Int) := (by omega); have q121 : 4 < (t114.length : Int) := of_decide_eq_true (by first | (with_reducible assumption) | assumption); obtain ⟨ad121, e121, hx121_0, hx121_1, hx121_2, hx121_3, hx121_4⟩ := at_T29 (Kd.R_reads' HO118.out).2.2 4 p121 q121; cases e121; (try simp only [show (4 : Int).toNat = 4 from rfl, Nat.reduceMul, Nat.reduceEqDiff, Go.Addr.add, ↓reduceIte] at hx121_0); (try simp only [show (4 : Int).toNat = 4 from rfl, Nat.reduceMul, Nat.reduceEqDiff, Go.Addr.add, ↓reduceIte] at hx121_1); (try simp only [show (4 : Int).toNat = 4 from rfl, Nat.reduceMul, Nat.reduceEqDiff, Go.Addr.add, ↓reduceIte] at hx121_2); (try simp only [show (4 : Int).toNat = 4 from rfl, Nat.reduceMul, Nat.reduceEqDiff, Go.Addr.add, ↓reduceIte] at hx121_3); (try simp only [show (4 : Int).toNat = 4 from rfl, Nat.reduceMul, Nat.reduceEqDiff, Go.Addr.add, ↓reduceIte] at hx121_4); have qi121 : (4 < t114.length) = True := eq_true (by omega); (try rw [show ((4 : Int)).toNat = 4 from rfl] at hx121_0); (try rw [show 4 * 5 = 20 from rfl] at hx121_0); (try rw [show ((4 : Int)).toNat = 4 from rfl] at hx121_1); (try rw [show 4 * 5 = 20 from rfl] at hx121_1); (try rw [show ((4 : Int)).toNat = 4 from rfl] at hx121_2); (try rw [show 4 * 5 = 20 from rfl] at hx121_2); (try rw [show ((4 : Int)).toNat = 4 from rfl] at hx121_3); (try rw [show 4 * 5 = 20 from rfl] at hx121_3); (try rw [show ((4 : Int)).toNat = 4 from rfl] at hx121_4); (try rw [show 4 * 5 = 20 from rfl] at hx121_4); replace p121 := eq_true p121; replace q121 := eq_true q121; have p122 : 0 ≤ (8 : Int) := (by omega); have q122 : 8 < (t114.length : Int) := of_decide_eq_true (by first | (with_reducible assumption) | assumption); obtain ⟨ad122, e122, hx122_0, hx122_1, hx122_2, hx122_3, hx122_4⟩ := at_T29 (Kd.R_reads' HO118.out).2.2 8 p122 q122; obtain rfl : ad121 = ad122 := (by injection e122); (try simp only [show (8 : Int).toNat = 8 from rfl, Nat.reduceMul, Nat.reduceEqDiff, Go.Addr.add, ↓reduceIte] at hx122_0); (try simp only [show (8 : Int).toNat = 8 from rfl, Nat.reduceMul, Nat.reduceEqDiff, Go.Addr.add, ↓reduceIte] at hx122_1); (try simp only [show (8 : Int).toNat = 8 from rfl, Nat.reduceMul, Nat.reduceEqDiff, Go.Addr.add, ↓reduceIte] at hx122_2); (try simp only [show (8 : Int).toNat = 8 from rfl, Nat.reduceMul, Nat.reduceEqDiff, Go.Addr.add, ↓reduceIte] at hx122_3); (try simp only [show (8 : Int).toNat = 8 from rfl, Nat.reduceMul, Nat.reduceEqDiff, Go.Addr.add, ↓reduceIte] at hx122_4); have qi122 : (8 < t114.length) = True := eq_true (by omega); (try rw [show ((8 : Int)).toNat = 8 from rfl] at hx122_0); (try rw [show 8 * 5 = 40 from rfl] at hx122_0); (try rw [show ((8 : Int)).toNat = 8 from rfl] at hx122_1); (try rw [show 8 * 5 = 40 from rfl] at hx122_1); (try rw [show ((8 : Int)).toNat = 8 from rfl] at hx122_2); (try rw [show 8 * 5 = 40 from rfl] at hx122_2); (try rw [show ((8 : Int)).toNat = 8 from rfl] at hx122_3); (try rw [show 8 * 5 = 40 from rfl] at hx122_3); (try rw [show ((8 : Int)).toNat = 8 from rfl] at hx122_4); (try rw [show 8 * 5 = 40 from rfl] at hx122_4); replace p122 := eq_true p122; replace q122 := eq_true q122; have p123 : 0 ≤ (9 : Int) := (by omega); have q123 : 9 < (t114.length : Int) := of_decide_eq_true (by first | (with_reducible assumption) | assumption); obtain ⟨ad123, e123, hx123_0, hx123_1, hx123_2, hx123_3, hx123_4⟩ := at_T29 (Kd.R_reads' HO118.out).2.2 9 p123 q123; obtain rfl : ad121 = ad123 := (by injection e123); (try simp only [show (9 : Int).toNat = 9 from rfl, Nat.reduceMul, Nat.reduceEqDiff, Go.Addr.add, ↓reduceIte] at hx123_0); (try simp only [show (9 : Int).toNat = 9 from rfl, Nat.reduceMul, Nat.reduceEqDiff, Go.Addr.add, ↓reduceIte] at hx123_1); (try simp only [show (9 : Int).toNat = 9 from rfl, Nat.reduceMul, Nat.reduceEqDiff, Go.Addr.add, ↓reduceIte] at hx123_2); (try simp only [show (9 : Int).toNat = 9 from rfl, Nat.reduceMul, Nat.reduceEqDiff, Go.Addr.add, ↓reduceIte] at hx123_3); (try simp only [show (9 : Int).toNat = 9 from rfl, Nat.reduceMul, Nat.reduceEqDiff, Go.Addr.add, ↓reduceIte] at hx123_4); have qi123 : (9 < t114.length) = True := eq_true (by omega); (try rw [show ((9 : Int)).toNat = 9 from rfl] at hx123_0); (try rw [show 9 * 5 = 45 from rfl] at hx123_0); (try rw [show ((9 : Int)).toNat = 9 from rfl] at hx123_1); (try rw [show 9 * 5 = 45 from rfl] at hx123_1); (try rw [show ((9 : Int)).toNat = 9 from rfl] at hx123_2); (try rw [show 9 * 5 = 45 from rfl] at hx123_2); (try rw [show ((9 : Int)).toNat = 9 from rfl] at hx123_3); (try rw [show 9 * 5 = 45 from rfl] at hx123_3); (try rw [show ((9 : Int)).toNat = 9 from rfl] at hx123_4); (try rw [show 9 * 5 = 45 from rfl] at hx123_4); replace p123 := eq_true p123; replace q123 := eq_true q123) | (go_at_call 13; (with_reducible refine (lexer_Number.calls k 9 10 t124 _ ?side1 A12.out).mono ?_); (case side1 => exact Tabs.below HT.out (by repeat (first | (with_reducible first | exact HB.out | apply below_alloc | apply pw_below_drewN | apply below_drew1) | exact HB.out))); rintro e w29 ⟨rfl, hb⟩; have n0_ := Aside0.mk (Kd.R_below (by (with_reducible repeat (first | apply Kd.R_alloc | apply Kd.R_drewN | apply Kd.R_drew)); exact HO118.out) hb); have n1_ := Aside0.mk (below_step (by repeat (first | (with_reducible first | exact HB.out | apply below_alloc | apply pw_below_drewN | apply below_drew1) | exact HB.out)) hb); clear HO118; clear HB; have HO118 := n0_; have HB := n1_; clear n0_ n1_; (try clear hb); (try clear hb2); (try clear hk); (try clear hi)))
           go_ret
           exact ⟨by first | rfl | (simp [errW_none, errW_some] <;> rfl) | (simp [*, errW_none, errW_some] <;> rfl), by repeat (first | (with_reducible first | exact HB.out | apply below_alloc | apply pw_below_drewN | apply below_drew1) | exact HB.out)⟩
         ·
          rw [if_neg c11] at H
          have c11b0 : (((rd_T29 t114 9).f0) == 0 && ((((rd_T29 t114 9).f1).toList) == ([] : List UInt8) && ((((rd_T29 t114 9).f2.f0) == 0 && (((rd_T29 t114 9).f2.f1) == 0)) && (((rd_T29 t114 9).f3) == 27)))) = false := by simpa using c11
          (try (have c11b1 : decide (((rd_T29 t114 9).f0) = 0 && ((((rd_T29 t114 9).f1).toList) == ([] : List UInt8) && ((((rd_T29 t114 9).f2.f0) == 0 && (((rd_T29 t114 9).f2.f1) == 0)) && (((rd_T29 t114 9).f3) == 27)))) = false := by simpa using c11))
          (try (have c11b2 : (((rd_T29 t114 9).f0) == 0 && ((((rd_T29 t114 9).f1).toList) == ([] : List UInt8) && ((((rd_T29 t114 9).f2.f0) == 0 && (((rd_T29 t114 9).f2.f1) == 0)) && (((rd_T29 t114 9).f3) == 27)))) = false := by simpa using c11))
          (try (have c11b3 : ¬ (((rd_T29 t114 9).f0) = 0 && ((((rd_T29 t114 9).f1).toList) == ([] : List UInt8) && ((((rd_T29 t114 9).f2.f0) == 0 && (((rd_T29 t114 9).f2.f1) == 0)) && (((rd_T29 t114 9).f3) == 27)))) := by simpa using c11))
          have c11b9 := (Bool.eq_false_iff.1 c11b0); simp only [ne_eq, Bool.and_eq_true, beq_iff_eq] at c11b9
          clear c11
          obtain rfl := Option.some.inj H
          go_enter Tryz.func11, Tryz.ntmps11
          go_wp2_with (first | ((with_reducible refine gate_callee (f := 17) rfl ?_); refine goesL_ (some 7) rfl rfl Tryz.func17 (by kernel_rfl) rfl #[.string (⟨#[114, 97, 116, 101, 40, 120, 91, 49, 104, 51, 48, 109, 93, 41, 32, 62, 32, 48, 46, 53, 32, 35, 32, 104, 97, 108, 102]⟩ : ByteArray)] rfl (by (try simp only [List.map_toArray, List.map_cons, List.map_nil]); first | done | rfl | (simp only [List.length_drop, List.length_take]; rfl)) ?_; (with_reducible refine (lexer_Tokens.calls (⟨#[114, 97, 116, 101, 40, 120, 91, 49, 104, 51, 48, 109, 93, 41, 32, 62, 32, 48, 46, 53, 32, 35, 32, 104, 97, 108, 102]⟩ : ByteArray) t114 t115 t116 _ ?side1 A1.out).mono ?_); (case side1 => exact Tabs.below HT.out (by repeat (first | (with_reducible first | exact HB.out | apply below_alloc | apply pw_below_drewN | apply below_drew1) | exact HB.out))); rintro e w30 ⟨v117, rfl, ho0, hb⟩; refine ⟨_, rfl, ?_⟩; have n0_ := Aside0.mk (Kd.R_lower ho0 (below_size (by repeat (first | (with_reducible first | exact HB.out | apply below_alloc | apply pw_below_drewN | apply below_drew1) | exact HB.out)))); have n1_ := Aside0.mk (below_step (by repeat (first | (with_reducible first | exact HB.out | apply below_alloc | apply pw_below_drewN | apply below_drew1) | exact HB.out)) hb); clear HB; have HO118 := n0_; have HB := n1_; clear n0_ n1_; (try clear hb); (try clear hb2); (try clear hk); (try clear hi); (try clear ho0)) | ((with_reducible refine gate_callee (f := 10) rfl ?_); refine goesL_ (some 12) rfl rfl Tryz.func10 (by kernel_rfl) rfl #[.int .i64 90500] rfl (by (try simp only [List.map_toArray, List.map_cons, List.map_nil]); first | done | rfl | (simp only [List.length_drop, List.length_take]; rfl)) ?_; (with_reducible refine (lexer_Duration.calls 90500 t119 t120 _ ?side1 A2.out).mono ?_); (case side1 => exact Tabs.below HT.out (by repeat (first | (with_reducible first | exact HB.out | apply below_alloc | apply pw_below_drewN | apply below_drew1) | exact HB.out))); rintro e w31 ⟨rfl, hb⟩; refine ⟨_, rfl, ?_⟩; have n0_ := Aside0.mk (Kd.R_below (by (with_reducible repeat (first | apply Kd.R_alloc | apply Kd.R_drewN | apply Kd.R_drew)); exact HO118.out) hb); have n1_ := Aside0.mk (below_step (by repeat (first | (with_reducible first | exact HB.out | apply below_alloc | apply pw_below_drewN | apply below_drew1) | exact HB.out)) hb); clear HO118; clear HB; have HO118 := n0_; have HB := n1_; clear n0_ n1_; (try clear hb); (try clear hb2); (try clear hk); (try clear hi); obtain ⟨Ao32, co32, eo32⟩ := Kd.R_slice HO118.out; subst eo32; have p121 : 0 ≤ (4 : Int) := (by omega); have q121 : 4 < (t114.length : Int) := of_decide_eq_true (by first | (with_reducible assumption) | assumption); obtain ⟨ad121, e121, hx121_0, hx121_1, hx121_2, hx121_3, hx121_4⟩ := at_T29 (Kd.R_reads' HO118.out).2.2 4 p121 q121; cases e121; (try simp only [show (4 : Int).toNat = 4 from rfl, Nat.reduceMul, Nat.reduceEqDiff, Go.Addr.add, ↓reduceIte] at hx121_0); (try simp only [show (4 : Int).toNat = 4 from rfl, Nat.reduceMul, Nat.reduceEqDiff, Go.Addr.add, ↓reduceIte] at hx121_1); (try simp only [show (4 : Int).toNat = 4 from rfl, Nat.reduceMul, Nat.reduceEqDiff, Go.Addr.add, ↓reduceIte] at hx121_2); (try simp only [show (4 : Int).toNat = 4 from rfl, Nat.reduceMul, Nat.reduceEqDiff, Go.Addr.add, ↓reduceIte] at hx121_3); (try simp only [show (4 : Int).toNat = 4 from rfl, Nat.reduceMul, Nat.reduceEqDiff, Go.Addr.add, ↓reduceIte] at hx121_4); have qi121 : (4 < t114.length) = True := eq_true (by omega); (try rw [show ((4 : Int)).toNat = 4 from rfl] at hx121_0); (try rw [show 4 * 5 = 20 from rfl] at hx121_0); (try rw [show ((4 : Int)).toNat = 4 from rfl] at hx121_1); (try rw [show 4 * 5 = 20 from rfl] at hx121_1); (try rw [show ((4 : Int)).toNat = 4 from rfl] at hx121_2); (try rw [show 4 * 5 = 20 from rfl] at hx121_2); (try rw [show ((4 : Int)).toNat = 4 from rfl] at hx121_3); (try rw [show 4 * 5 = 20 from rfl] at hx121_3); (try rw [show ((4 : Int)).toNat = 4 from rfl] at hx121_4); (try rw [show 4 * 5 = 20 from rfl] at hx121_4); replace p121 := eq_true p121; replace q121 := eq_true q121; have p122 : 0 ≤ (8 : Int) := (by omega); have q122 : 8 < (t114.length : Int) := of_decide_eq_true (by first | (with_reducible assumption) | assumption); obtain ⟨ad122, e122, hx122_0, hx122_1, hx122_2, hx122_3, hx122_4⟩ := at_T29 (Kd.R_reads' HO118.out).2.2 8 p122 q122; obtain rfl : ad121 = ad122 := (by injection e122); (try simp only [show (8 : Int).toNat = 8 from rfl, Nat.reduceMul, Nat.reduceEqDiff, Go.Addr.add, ↓reduceIte] at hx122_0); (try simp only [show (8 : Int).toNat = 8 from rfl, Nat.reduceMul, Nat.reduceEqDiff, Go.Addr.add, ↓reduceIte] at hx122_1); (try simp only [show (8 : Int).toNat = 8 from rfl, Nat.reduceMul, Nat.reduceEqDiff, Go.Addr.add, ↓reduceIte] at hx122_2); (try simp only [show (8 : Int).toNat = 8 from rfl, Nat.reduceMul, Nat.reduceEqDiff, Go.Addr.add, ↓reduceIte] at hx122_3); (try simp only [show (8 : Int).toNat = 8 from rfl, Nat.reduceMul, Nat.reduceEqDiff, Go.Addr.add, ↓reduceIte] at hx122_4); have qi122 : (8 < t114.length) = True := eq_true (by omega); (try rw [show ((8 : Int)).toNat = 8 from rfl] at hx122_0); (try rw [show 8 * 5 = 40 from rfl] at hx122_0); (try rw [show ((8 : Int)).toNat = 8 from rfl] at hx122_1); (try rw [show 8 * 5 = 40 from rfl] at hx122_1); (try rw [show ((8 : Int)).toNat = 8 from rfl] at hx122_2); (try rw [show 8 * 5 = 40 from rfl] at hx122_2); (try rw [show ((8 : Int)).toNat = 8 from rfl] at hx122_3); (try rw [show 8 * 5 = 40 from rfl] at hx122_3); (try rw [show ((8 : Int)).toNat = 8 from rfl] at hx122_4); (try rw [show 8 * 5 = 40 from rfl] at hx122_4); replace p122 := eq_true p122; replace q122 := eq_true q122; have p123 : 0 ≤ (9 : Int) := (by omega); have q123 : 9 < (t114.length : Int) := of_decide_eq_true (by first | (with_reducible assumption) | assumption); obtain ⟨ad123, e123, hx123_0, hx123_1, hx123_2, hx123_3, hx123_4⟩ := at_T29 (Kd.R_reads' HO118.out).2.2 9 p123 q123; obtain rfl : ad121 = ad123 := (by injection e123); (try simp only [show (9 : Int).toNat = 9 from rfl, Nat.reduceMul, Nat.reduceEqDiff, Go.Addr.add, ↓reduceIte] at hx123_0); (try simp only [show (9 : Int).toNat = 9 from rfl, Nat.reduceMul, Nat.reduceEqDiff, Go.Addr.add, ↓reduceIte] at hx123_1); (try simp only [show (9 : Int).toNat = 9 from rfl, Nat.reduceMul, Nat.reduceEqDiff, Go.Addr.add, ↓reduceIte] at hx123_2); (try simp only [show (9 : Int).toNat = 9 from rfl, Nat.reduceMul, Nat.reduceEqDiff, Go.Addr.add, ↓reduceIte] at hx123_3); (try simp only [show (9 : Int).toNat = 9 from rfl, Nat.reduceMul, Nat.reduceEqDiff, Go.Addr.add, ↓reduceIte] at hx123_4); have qi123 : (9 < t114.length) = True := eq_true (by omega); (try rw [show ((9 : Int)).toNat = 9 from rfl] at hx123_0); (try rw [show 9 * 5 = 45 from rfl] at hx123_0); (try rw [show ((9 : Int)).toNat = 9 from rfl] at hx123_1); (try rw [show 9 * 5 = 45 from rfl] at hx123_1); (try rw [show ((9 : Int)).toNat = 9 from rfl] at hx123_2); (try rw [show 9 * 5 = 45 from rfl] at hx123_2); (try rw [show ((9 : Int)).toNat = 9 from rfl] at hx123_3); (try rw [show 9 * 5 = 45 from rfl] at hx123_3); (try rw [show ((9 : Int)).toNat = 9 from rfl] at hx123_4); (try rw [show 9 * 5 = 45 from rfl] at hx123_4); replace p123 := eq_true p123; replace q123 := eq_true q123))
          go_ret
          exact ⟨by first | rfl | (simp [errW_none, errW_some] <;> rfl) | (simp [*, errW_none, errW_some] <;> rfl), by repeat (first | (with_reducible first | exact HB.out | apply below_alloc | apply pw_below_drewN | apply below_drew1) | exact HB.out)⟩
        ·
         rw [if_neg c10] at H
         exact absurd H (by simp)
       ·
        rw [if_neg c9] at H
        have c9b0 : (((rd_T29 t114 8).f0) == 2 && ((((rd_T29 t114 8).f1).toList) == ([48, 46, 53] : List UInt8) && ((((rd_T29 t114 8).f2.f0) == 1 && (((rd_T29 t114 8).f2.f1) == 2)) && (((rd_T29 t114 8).f3) == 17)))) = false := by simpa using c9
        (try (have c9b1 : decide (((rd_T29 t114 8).f0) = 2 && ((((rd_T29 t114 8).f1).toList) == ([48, 46, 53] : List UInt8) && ((((rd_T29 t114 8).f2.f0) == 1 && (((rd_T29 t114 8).f2.f1) == 2)) && (((rd_T29 t114 8).f3) == 17)))) = false := by simpa using c9))
        (try (have c9b2 : (((rd_T29 t114 8).f0) == 2 && ((((rd_T29 t114 8).f1).toList) == ([48, 46, 53] : List UInt8) && ((((rd_T29 t114 8).f2.f0) == 1 && (((rd_T29 t114 8).f2.f1) == 2)) && (((rd_T29 t114 8).f3) == 17)))) = false := by simpa using c9))
        (try (have c9b3 : ¬ (((rd_T29 t114 8).f0) = 2 && ((((rd_T29 t114 8).f1).toList) == ([48, 46, 53] : List UInt8) && ((((rd_T29 t114 8).f2.f0) == 1 && (((rd_T29 t114 8).f2.f1) == 2)) && (((rd_T29 t114 8).f3) == 17)))) := by simpa using c9))
        clear c9
        obtain rfl := Option.some.inj H
        go_enter Tryz.func11, Tryz.ntmps11
        go_wp2_with (first | ((with_reducible refine gate_callee (f := 17) rfl ?_); refine goesL_ (some 7) rfl rfl Tryz.func17 (by kernel_rfl) rfl #[.string (⟨#[114, 97, 116, 101, 40, 120, 91, 49, 104, 51, 48, 109, 93, 41, 32, 62, 32, 48, 46, 53, 32, 35, 32, 104, 97, 108, 102]⟩ : ByteArray)] rfl (by (try simp only [List.map_toArray, List.map_cons, List.map_nil]); first | done | rfl | (simp only [List.length_drop, List.length_take]; rfl)) ?_; (with_reducible refine (lexer_Tokens.calls (⟨#[114, 97, 116, 101, 40, 120, 91, 49, 104, 51, 48, 109, 93, 41, 32, 62, 32, 48, 46, 53, 32, 35, 32, 104, 97, 108, 102]⟩ : ByteArray) t114 t115 t116 _ ?side1 A1.out).mono ?_); (case side1 => exact Tabs.below HT.out (by repeat (first | (with_reducible first | exact HB.out | apply below_alloc | apply pw_below_drewN | apply below_drew1) | exact HB.out))); rintro e w33 ⟨v117, rfl, ho0, hb⟩; refine ⟨_, rfl, ?_⟩; have n0_ := Aside0.mk (Kd.R_lower ho0 (below_size (by repeat (first | (with_reducible first | exact HB.out | apply below_alloc | apply pw_below_drewN | apply below_drew1) | exact HB.out)))); have n1_ := Aside0.mk (below_step (by repeat (first | (with_reducible first | exact HB.out | apply below_alloc | apply pw_below_drewN | apply below_drew1) | exact HB.out)) hb); clear HB; have HO118 := n0_; have HB := n1_; clear n0_ n1_; (try clear hb); (try clear hb2); (try clear hk); (try clear hi); (try clear ho0)) | ((with_reducible refine gate_callee (f := 10) rfl ?_); refine goesL_ (some 12) rfl rfl Tryz.func10 (by kernel_rfl) rfl #[.int .i64 90500] rfl (by (try simp only [List.map_toArray, List.map_cons, List.map_nil]); first | done | rfl | (simp only [List.length_drop, List.length_take]; rfl)) ?_; (with_reducible refine (lexer_Duration.calls 90500 t119 t120 _ ?side1 A2.out).mono ?_); (case side1 => exact Tabs.below HT.out (by repeat (first | (with_reducible first | exact HB.out | apply below_alloc | apply pw_below_drewN | apply below_drew1) | exact HB.out))); rintro e w34 ⟨rfl, hb⟩; refine ⟨_, rfl, ?_⟩; have n0_ := Aside0.mk (Kd.R_below (by (with_reducible repeat (first | apply Kd.R_alloc | apply Kd.R_drewN | apply Kd.R_drew)); exact HO118.out) hb); have n1_ := Aside0.mk (below_step (by repeat (first | (with_reducible first | exact HB.out | apply below_alloc | apply pw_below_drewN | apply below_drew1) | exact HB.out)) hb); clear HO118; clear HB; have HO118 := n0_; have HB := n1_; clear n0_ n1_; (try clear hb); (try clear hb2); (try clear hk); (try clear hi); obtain ⟨Ao35, co35, eo35⟩ := Kd.R_slice HO118.out; subst eo35; have p121 : 0 ≤ (4 : Int) := (by omega); have q121 : 4 < (t114.length : Int) := of_decide_eq_true (by first | (with_reducible assumption) | assumption); obtain ⟨ad121, e121, hx121_0, hx121_1, hx121_2, hx121_3, hx121_4⟩ := at_T29 (Kd.R_reads' HO118.out).2.2 4 p121 q121; cases e121; (try simp only [show (4 : Int).toNat = 4 from rfl, Nat.reduceMul, Nat.reduceEqDiff, Go.Addr.add, ↓reduceIte] at hx121_0); (try simp only [show (4 : Int).toNat = 4 from rfl, Nat.reduceMul, Nat.reduceEqDiff, Go.Addr.add, ↓reduceIte] at hx121_1); (try simp only [show (4 : Int).toNat = 4 from rfl, Nat.reduceMul, Nat.reduceEqDiff, Go.Addr.add, ↓reduceIte] at hx121_2); (try simp only [show (4 : Int).toNat = 4 from rfl, Nat.reduceMul, Nat.reduceEqDiff, Go.Addr.add, ↓reduceIte] at hx121_3); (try simp only [show (4 : Int).toNat = 4 from rfl, Nat.reduceMul, Nat.reduceEqDiff, Go.Addr.add, ↓reduceIte] at hx121_4); have qi121 : (4 < t114.length) = True := eq_true (by omega); (try rw [show ((4 : Int)).toNat = 4 from rfl] at hx121_0); (try rw [show 4 * 5 = 20 from rfl] at hx121_0); (try rw [show ((4 : Int)).toNat = 4 from rfl] at hx121_1); (try rw [show 4 * 5 = 20 from rfl] at hx121_1); (try rw [show ((4 : Int)).toNat = 4 from rfl] at hx121_2); (try rw [show 4 * 5 = 20 from rfl] at hx121_2); (try rw [show ((4 : Int)).toNat = 4 from rfl] at hx121_3); (try rw [show 4 * 5 = 20 from rfl] at hx121_3); (try rw [show ((4 : Int)).toNat = 4 from rfl] at hx121_4); (try rw [show 4 * 5 = 20 from rfl] at hx121_4); replace p121 := eq_true p121; replace q121 := eq_true q121; have p122 : 0 ≤ (8 : Int) := (by omega); have q122 : 8 < (t114.length : Int) := of_decide_eq_true (by first | (with_reducible assumption) | assumption); obtain ⟨ad122, e122, hx122_0, hx122_1, hx122_2, hx122_3, hx122_4⟩ := at_T29 (Kd.R_reads' HO118.out).2.2 8 p122 q122; obtain rfl : ad121 = ad122 := (by injection e122); (try simp only [show (8 : Int).toNat = 8 from rfl, Nat.reduceMul, Nat.reduceEqDiff, Go.Addr.add, ↓reduceIte] at hx122_0); (try simp only [show (8 : Int).toNat = 8 from rfl, Nat.reduceMul, Nat.reduceEqDiff, Go.Addr.add, ↓reduceIte] at hx122_1); (try simp only [show (8 : Int).toNat = 8 from rfl, Nat.reduceMul, Nat.reduceEqDiff, Go.Addr.add, ↓reduceIte] at hx122_2); (try simp only [show (8 : Int).toNat = 8 from rfl, Nat.reduceMul, Nat.reduceEqDiff, Go.Addr.add, ↓reduceIte] at hx122_3); (try simp only [show (8 : Int).toNat = 8 from rfl, Nat.reduceMul, Nat.reduceEqDiff, Go.Addr.add, ↓reduceIte] at hx122_4); have qi122 : (8 < t114.length) = True := eq_true (by omega); (try rw [show ((8 : Int)).toNat = 8 from rfl] at hx122_0); (try rw [show 8 * 5 = 40 from rfl] at hx122_0); (try rw [show ((8 : Int)).toNat = 8 from rfl] at hx122_1); (try rw [show 8 * 5 = 40 from rfl] at hx122_1); (try rw [show ((8 : Int)).toNat = 8 from rfl] at hx122_2); (try rw [show 8 * 5 = 40 from rfl] at hx122_2); (try rw [show ((8 : Int)).toNat = 8 from rfl] at hx122_3); (try rw [show 8 * 5 = 40 from rfl] at hx122_3); (try rw [show ((8 : Int)).toNat = 8 from rfl] at hx122_4); (try rw [show 8 * 5 = 40 from rfl] at hx122_4); replace p122 := eq_true p122; replace q122 := eq_true q122))
        go_ret
        exact ⟨by first | rfl | (simp [errW_none, errW_some] <;> rfl) | (simp [*, errW_none, errW_some] <;> rfl), by repeat (first | (with_reducible first | exact HB.out | apply below_alloc | apply pw_below_drewN | apply below_drew1) | exact HB.out)⟩
      ·
       rw [if_neg c8] at H
       exact absurd H (by simp)
     ·
      rw [if_neg c7] at H
      have c7b0 : (((rd_T29 t114 4).f0) == 3 && ((((rd_T29 t114 4).f1).toList) == ([49, 104, 51, 48, 109] : List UInt8) && ((((rd_T29 t114 4).f2.f0) == 5400000 && (((rd_T29 t114 4).f2.f1) == 1)) && (((rd_T29 t114 4).f3) == 7)))) = false := by simpa using c7
      (try (have c7b1 : decide (((rd_T29 t114 4).f0) = 3 && ((((rd_T29 t114 4).f1).toList) == ([49, 104, 51, 48, 109] : List UInt8) && ((((rd_T29 t114 4).f2.f0) == 5400000 && (((rd_T29 t114 4).f2.f1) == 1)) && (((rd_T29 t114 4).f3) == 7)))) = false := by simpa using c7))
      (try (have c7b2 : (((rd_T29 t114 4).f0) == 3 && ((((rd_T29 t114 4).f1).toList) == ([49, 104, 51, 48, 109] : List UInt8) && ((((rd_T29 t114 4).f2.f0) == 5400000 && (((rd_T29 t114 4).f2.f1) == 1)) && (((rd_T29 t114 4).f3) == 7)))) = false := by simpa using c7))
      (try (have c7b3 : ¬ (((rd_T29 t114 4).f0) = 3 && ((((rd_T29 t114 4).f1).toList) == ([49, 104, 51, 48, 109] : List UInt8) && ((((rd_T29 t114 4).f2.f0) == 5400000 && (((rd_T29 t114 4).f2.f1) == 1)) && (((rd_T29 t114 4).f3) == 7)))) := by simpa using c7))
      clear c7
      obtain rfl := Option.some.inj H
      go_enter Tryz.func11, Tryz.ntmps11
      go_wp2_with (first | ((with_reducible refine gate_callee (f := 17) rfl ?_); refine goesL_ (some 7) rfl rfl Tryz.func17 (by kernel_rfl) rfl #[.string (⟨#[114, 97, 116, 101, 40, 120, 91, 49, 104, 51, 48, 109, 93, 41, 32, 62, 32, 48, 46, 53, 32, 35, 32, 104, 97, 108, 102]⟩ : ByteArray)] rfl (by (try simp only [List.map_toArray, List.map_cons, List.map_nil]); first | done | rfl | (simp only [List.length_drop, List.length_take]; rfl)) ?_; (with_reducible refine (lexer_Tokens.calls (⟨#[114, 97, 116, 101, 40, 120, 91, 49, 104, 51, 48, 109, 93, 41, 32, 62, 32, 48, 46, 53, 32, 35, 32, 104, 97, 108, 102]⟩ : ByteArray) t114 t115 t116 _ ?side1 A1.out).mono ?_); (case side1 => exact Tabs.below HT.out (by repeat (first | (with_reducible first | exact HB.out | apply below_alloc | apply pw_below_drewN | apply below_drew1) | exact HB.out))); rintro e w36 ⟨v117, rfl, ho0, hb⟩; refine ⟨_, rfl, ?_⟩; have n0_ := Aside0.mk (Kd.R_lower ho0 (below_size (by repeat (first | (with_reducible first | exact HB.out | apply below_alloc | apply pw_below_drewN | apply below_drew1) | exact HB.out)))); have n1_ := Aside0.mk (below_step (by repeat (first | (with_reducible first | exact HB.out | apply below_alloc | apply pw_below_drewN | apply below_drew1) | exact HB.out)) hb); clear HB; have HO118 := n0_; have HB := n1_; clear n0_ n1_; (try clear hb); (try clear hb2); (try clear hk); (try clear hi); (try clear ho0)) | ((with_reducible refine gate_callee (f := 10) rfl ?_); refine goesL_ (some 12) rfl rfl Tryz.func10 (by kernel_rfl) rfl #[.int .i64 90500] rfl (by (try simp only [List.map_toArray, List.map_cons, List.map_nil]); first | done | rfl | (simp only [List.length_drop, List.length_take]; rfl)) ?_; (with_reducible refine (lexer_Duration.calls 90500 t119 t120 _ ?side1 A2.out).mono ?_); (case side1 => exact Tabs.below HT.out (by repeat (first | (with_reducible first | exact HB.out | apply below_alloc | apply pw_below_drewN | apply below_drew1) | exact HB.out))); rintro e w37 ⟨rfl, hb⟩; refine ⟨_, rfl, ?_⟩; have n0_ := Aside0.mk (Kd.R_below (by (with_reducible repeat (first | apply Kd.R_alloc | apply Kd.R_drewN | apply Kd.R_drew)); exact HO118.out) hb); have n1_ := Aside0.mk (below_step (by repeat (first | (with_reducible first | exact HB.out | apply below_alloc | apply pw_below_drewN | apply below_drew1) | exact HB.out)) hb); clear HO118; clear HB; have HO118 := n0_; have HB := n1_; clear n0_ n1_; (try clear hb); (try clear hb2); (try clear hk); (try clear hi); obtain ⟨Ao38, co38, eo38⟩ := Kd.R_slice HO118.out; subst eo38; have p121 : 0 ≤ (4 : Int) := (by omega); have q121 : 4 < (t114.length : Int) := of_decide_eq_true (by first | (with_reducible assumption) | assumption); obtain ⟨ad121, e121, hx121_0, hx121_1, hx121_2, hx121_3, hx121_4⟩ := at_T29 (Kd.R_reads' HO118.out).2.2 4 p121 q121; cases e121; (try simp only [show (4 : Int).toNat = 4 from rfl, Nat.reduceMul, Nat.reduceEqDiff, Go.Addr.add, ↓reduceIte] at hx121_0); (try simp only [show (4 : Int).toNat = 4 from rfl, Nat.reduceMul, Nat.reduceEqDiff, Go.Addr.add, ↓reduceIte] at hx121_1); (try simp only [show (4 : Int).toNat = 4 from rfl, Nat.reduceMul, Nat.reduceEqDiff, Go.Addr.add, ↓reduceIte] at hx121_2); (try simp only [show (4 : Int).toNat = 4 from rfl, Nat.reduceMul, Nat.reduceEqDiff, Go.Addr.add, ↓reduceIte] at hx121_3); (try simp only [show (4 : Int).toNat = 4 from rfl, Nat.reduceMul, Nat.reduceEqDiff, Go.Addr.add, ↓reduceIte] at hx121_4); have qi121 : (4 < t114.length) = True := eq_true (by omega); (try rw [show ((4 : Int)).toNat = 4 from rfl] at hx121_0); (try rw [show 4 * 5 = 20 from rfl] at hx121_0); (try rw [show ((4 : Int)).toNat = 4 from rfl] at hx121_1); (try rw [show 4 * 5 = 20 from rfl] at hx121_1); (try rw [show ((4 : Int)).toNat = 4 from rfl] at hx121_2); (try rw [show 4 * 5 = 20 from rfl] at hx121_2); (try rw [show ((4 : Int)).toNat = 4 from rfl] at hx121_3); (try rw [show 4 * 5 = 20 from rfl] at hx121_3); (try rw [show ((4 : Int)).toNat = 4 from rfl] at hx121_4); (try rw [show 4 * 5 = 20 from rfl] at hx121_4); replace p121 := eq_true p121; replace q121 := eq_true q121))
      go_ret
      exact ⟨by first | rfl | (simp [errW_none, errW_some] <;> rfl) | (simp [*, errW_none, errW_some] <;> rfl), by repeat (first | (with_reducible first | exact HB.out | apply below_alloc | apply pw_below_drewN | apply below_drew1) | exact HB.out)⟩
    ·
     rw [if_neg c6] at H
     exact absurd H (by simp)
   ·
    rw [if_neg c5] at H
    have c5b0 : ((t114.length : Int) == 10) = false := beq_eq_false_iff_ne.mpr c5
    have c5b1 : ((t114.length : Int) != 10) = true := bne_iff_ne.mpr c5
    obtain rfl := Option.some.inj H
    go_enter Tryz.func11, Tryz.ntmps11
    go_wp2_with (first | ((with_reducible refine gate_callee (f := 17) rfl ?_); refine goesL_ (some 7) rfl rfl Tryz.func17 (by kernel_rfl) rfl #[.string (⟨#[114, 97, 116, 101, 40, 120, 91, 49, 104, 51, 48, 109, 93, 41, 32, 62, 32, 48, 46, 53, 32, 35, 32, 104, 97, 108, 102]⟩ : ByteArray)] rfl (by (try simp only [List.map_toArray, List.map_cons, List.map_nil]); first | done | rfl | (simp only [List.length_drop, List.length_take]; rfl)) ?_; (with_reducible refine (lexer_Tokens.calls (⟨#[114, 97, 116, 101, 40, 120, 91, 49, 104, 51, 48, 109, 93, 41, 32, 62, 32, 48, 46, 53, 32, 35, 32, 104, 97, 108, 102]⟩ : ByteArray) t114 t115 t116 _ ?side1 A1.out).mono ?_); (case side1 => exact Tabs.below HT.out (by repeat (first | (with_reducible first | exact HB.out | apply below_alloc | apply pw_below_drewN | apply below_drew1) | exact HB.out))); rintro e w39 ⟨v117, rfl, ho0, hb⟩; refine ⟨_, rfl, ?_⟩; have n0_ := Aside0.mk (Kd.R_lower ho0 (below_size (by repeat (first | (with_reducible first | exact HB.out | apply below_alloc | apply pw_below_drewN | apply below_drew1) | exact HB.out)))); have n1_ := Aside0.mk (below_step (by repeat (first | (with_reducible first | exact HB.out | apply below_alloc | apply pw_below_drewN | apply below_drew1) | exact HB.out)) hb); clear HB; have HO118 := n0_; have HB := n1_; clear n0_ n1_; (try clear hb); (try clear hb2); (try clear hk); (try clear hi); (try clear ho0)) | ((with_reducible refine gate_callee (f := 10) rfl ?_); refine goesL_ (some 12) rfl rfl Tryz.func10 (by kernel_rfl) rfl #[.int .i64 90500] rfl (by (try simp only [List.map_toArray, List.map_cons, List.map_nil]); first | done | rfl | (simp only [List.length_drop, List.length_take]; rfl)) ?_; (with_reducible refine (lexer_Duration.calls 90500 t119 t120 _ ?side1 A2.out).mono ?_); (case side1 => exact Tabs.below HT.out (by repeat (first | (with_reducible first | exact HB.out | apply below_alloc | apply pw_below_drewN | apply below_drew1) | exact HB.out))); rintro e w40 ⟨rfl, hb⟩; refine ⟨_, rfl, ?_⟩; have n0_ := Aside0.mk (Kd.R_below (by (with_reducible repeat (first | apply Kd.R_alloc | apply Kd.R_drewN | apply Kd.R_drew)); exact HO118.out) hb); have n1_ := Aside0.mk (below_step (by repeat (first | (with_reducible first | exact HB.out | apply below_alloc | apply pw_below_drewN | apply below_drew1) | exact HB.out)) hb); clear HO118; clear HB; have HO118 := n0_; have HB := n1_; clear n0_ n1_; (try clear hb); (try clear hb2); (try clear hk); (try clear hi); obtain ⟨Ao41, co41, eo41⟩ := Kd.R_slice HO118.out; subst eo41))
    go_ret
    exact ⟨by first | rfl | (simp [errW_none, errW_some] <;> rfl) | (simp [*, errW_none, errW_some] <;> rfl), by repeat (first | (with_reducible first | exact HB.out | apply below_alloc | apply pw_below_drewN | apply below_drew1) | exact HB.out)⟩
  ·
   rw [if_neg c4] at H
   have c4b0 : (t120 == 0) = false := beq_eq_false_iff_ne.mpr c4
   have c4b1 : (t120 != 0) = true := bne_iff_ne.mpr c4
   obtain rfl := Option.some.inj H
   go_enter Tryz.func11, Tryz.ntmps11
   go_wp2_with (first | ((with_reducible refine gate_callee (f := 17) rfl ?_); refine goesL_ (some 7) rfl rfl Tryz.func17 (by kernel_rfl) rfl #[.string (⟨#[114, 97, 116, 101, 40, 120, 91, 49, 104, 51, 48, 109, 93, 41, 32, 62, 32, 48, 46, 53, 32, 35, 32, 104, 97, 108, 102]⟩ : ByteArray)] rfl (by (try simp only [List.map_toArray, List.map_cons, List.map_nil]); first | done | rfl | (simp only [List.length_drop, List.length_take]; rfl)) ?_; (with_reducible refine (lexer_Tokens.calls (⟨#[114, 97, 116, 101, 40, 120, 91, 49, 104, 51, 48, 109, 93, 41, 32, 62, 32, 48, 46, 53, 32, 35, 32, 104, 97, 108, 102]⟩ : ByteArray) t114 t115 t116 _ ?side1 A1.out).mono ?_); (case side1 => exact Tabs.below HT.out (by repeat (first | (with_reducible first | exact HB.out | apply below_alloc | apply pw_below_drewN | apply below_drew1) | exact HB.out))); rintro e w42 ⟨v117, rfl, ho0, hb⟩; refine ⟨_, rfl, ?_⟩; have n0_ := Aside0.mk (Kd.R_lower ho0 (below_size (by repeat (first | (with_reducible first | exact HB.out | apply below_alloc | apply pw_below_drewN | apply below_drew1) | exact HB.out)))); have n1_ := Aside0.mk (below_step (by repeat (first | (with_reducible first | exact HB.out | apply below_alloc | apply pw_below_drewN | apply below_drew1) | exact HB.out)) hb); clear HB; have HO118 := n0_; have HB := n1_; clear n0_ n1_; (try clear hb); (try clear hb2); (try clear hk); (try clear hi); (try clear ho0)) | ((with_reducible refine gate_callee (f := 10) rfl ?_); refine goesL_ (some 12) rfl rfl Tryz.func10 (by kernel_rfl) rfl #[.int .i64 90500] rfl (by (try simp only [List.map_toArray, List.map_cons, List.map_nil]); first | done | rfl | (simp only [List.length_drop, List.length_take]; rfl)) ?_; (with_reducible refine (lexer_Duration.calls 90500 t119 t120 _ ?side1 A2.out).mono ?_); (case side1 => exact Tabs.below HT.out (by repeat (first | (with_reducible first | exact HB.out | apply below_alloc | apply pw_below_drewN | apply below_drew1) | exact HB.out))); rintro e w43 ⟨rfl, hb⟩; refine ⟨_, rfl, ?_⟩; have n0_ := Aside0.mk (Kd.R_below (by (with_reducible repeat (first | apply Kd.R_alloc | apply Kd.R_drewN | apply Kd.R_drew)); exact HO118.out) hb); have n1_ := Aside0.mk (below_step (by repeat (first | (with_reducible first | exact HB.out | apply below_alloc | apply pw_below_drewN | apply below_drew1) | exact HB.out)) hb); clear HO118; clear HB; have HO118 := n0_; have HB := n1_; clear n0_ n1_; (try clear hb); (try clear hb2); (try clear hk); (try clear hi)))
   go_ret
   exact ⟨by first | rfl | (simp [errW_none, errW_some] <;> rfl) | (simp [*, errW_none, errW_some] <;> rfl), by repeat (first | (with_reducible first | exact HB.out | apply below_alloc | apply pw_below_drewN | apply below_drew1) | exact HB.out)⟩
 ·
  rw [if_neg c3] at H
  have c3b0 : (t116 == 0) = false := beq_eq_false_iff_ne.mpr c3
  have c3b1 : (t116 != 0) = true := bne_iff_ne.mpr c3
  obtain rfl := Option.some.inj H
  go_enter Tryz.func11, Tryz.ntmps11
  go_wp2_with (first | ((with_reducible refine gate_callee (f := 17) rfl ?_); refine goesL_ (some 7) rfl rfl Tryz.func17 (by kernel_rfl) rfl #[.string (⟨#[114, 97, 116, 101, 40, 120, 91, 49, 104, 51, 48, 109, 93, 41, 32, 62, 32, 48, 46, 53, 32, 35, 32, 104, 97, 108, 102]⟩ : ByteArray)] rfl (by (try simp only [List.map_toArray, List.map_cons, List.map_nil]); first | done | rfl | (simp only [List.length_drop, List.length_take]; rfl)) ?_; (with_reducible refine (lexer_Tokens.calls (⟨#[114, 97, 116, 101, 40, 120, 91, 49, 104, 51, 48, 109, 93, 41, 32, 62, 32, 48, 46, 53, 32, 35, 32, 104, 97, 108, 102]⟩ : ByteArray) t114 t115 t116 _ ?side1 A1.out).mono ?_); (case side1 => exact Tabs.below HT.out (by repeat (first | (with_reducible first | exact HB.out | apply below_alloc | apply pw_below_drewN | apply below_drew1) | exact HB.out))); rintro e w44 ⟨v117, rfl, ho0, hb⟩; refine ⟨_, rfl, ?_⟩; have n0_ := Aside0.mk (Kd.R_lower ho0 (below_size (by repeat (first | (with_reducible first | exact HB.out | apply below_alloc | apply pw_below_drewN | apply below_drew1) | exact HB.out)))); have n1_ := Aside0.mk (below_step (by repeat (first | (with_reducible first | exact HB.out | apply below_alloc | apply pw_below_drewN | apply below_drew1) | exact HB.out)) hb); clear HB; have HO118 := n0_; have HB := n1_; clear n0_ n1_; (try clear hb); (try clear hb2); (try clear hk); (try clear hi); (try clear ho0)) | ((with_reducible refine gate_callee (f := 10) rfl ?_); refine goesL_ (some 12) rfl rfl Tryz.func10 (by kernel_rfl) rfl #[.int .i64 90500] rfl (by (try simp only [List.map_toArray, List.map_cons, List.map_nil]); first | done | rfl | (simp only [List.length_drop, List.length_take]; rfl)) ?_; (with_reducible refine (lexer_Duration.calls 90500 t119 t120 _ ?side1 A2.out).mono ?_); (case side1 => exact Tabs.below HT.out (by repeat (first | (with_reducible first | exact HB.out | apply below_alloc | apply pw_below_drewN | apply below_drew1) | exact HB.out))); rintro e w45 ⟨rfl, hb⟩; refine ⟨_, rfl, ?_⟩; have n0_ := Aside0.mk (Kd.R_below (by (with_reducible repeat (first | apply Kd.R_alloc | apply Kd.R_drewN | apply Kd.R_drew)); exact HO118.out) hb); have n1_ := Aside0.mk (below_step (by repeat (first | (with_reducible first | exact HB.out | apply below_alloc | apply pw_below_drewN | apply below_drew1) | exact HB.out)) hb); clear HO118; clear HB; have HO118 := n0_; have HB := n1_; clear n0_ n1_; (try clear hb); (try clear hb2); (try clear hk); (try clear hi)))
  go_ret
  exact ⟨by first | rfl | (simp [errW_none, errW_some] <;> rfl) | (simp [*, errW_none, errW_some] <;> rfl), by repeat (first | (with_reducible first | exact HB.out | apply below_alloc | apply pw_below_drewN | apply below_drew1) | exact HB.out)⟩
end Go.Proofs.YteokilkcchdeiaaGreatDoor.Q
end
