/- What the proofs of the lexer's laws share, part 4 of 5. -/
import Derived.Maps.AppendAt
import Derived.RegionIn
import Derived.Test.YteokilkcchdeiaaGreatDoorJ3
import Derived.Lib.PathFns
import Derived.Lib.IndexEntry
import Derived.Test.YteokilkcchdeiaaGreatDoorJ1
import Derived.Test.YteokilkcchdeiaaGreatDoorJ2
import Derived.Lib.AtoiBound
import Derived.Lib.Replace
import Derived.Lib.ReplaceLaws
import Derived.Lib.SplitLaws
set_option linter.unusedVariables false
set_option linter.unusedSimpArgs false
section
namespace Go.Proofs.YteokilkcchdeiaaGreatDoor.X
open Go.RowKit Go.Shelf Go.Proofs.YteokilkcchdeiaaGreatDoor Go.Proofs.YteokilkcchdeiaaGreatDoorW.PrintWords Go.Proofs.YteokilkcchdeiaaGreatDoorW.PrintLast Go.Proofs.YteokilkcchdeiaaGreatDoorW.PrintMore Go.Proofs.YteokilkcchdeiaaGreatDoor.Q
set_option linter.unusedVariables false
attribute [local go_sem] Oper.semAt_some
def tokS (r : Rd) : S29 := ⟨r.kind, r.text, ⟨r.num, r.den⟩, r.at_⟩
def cellsS (x : S29) : List Value := [.int .i64 x.f0, .string x.f1, .int .i64 x.f2.f0, .int .i64 x.f2.f1, .int .i64 x.f3]
theorem reps_cells (w : World) (base : Nat) (ok : Nat → Prop) (xs : List S29) : Reps (k29.M w base ok) 5 xs (xs.flatMap cellsS) := by
  induction xs with
  | nil => exact Reps.none _ _
  | cons x xs ih =>
    refine ⟨by rw [List.flatMap_cons, List.length_append, ih.1]; simp [cellsS]; omega, fun j p hj => ?_⟩
    cases j with
    | zero =>
      obtain rfl : x = p := by simpa using hj
      simpa [cellsS] using k29_mkM w base ok x
    | succ j =>
      have h2 := ih.2 j p (by simpa using hj)
      rw [List.flatMap_cons, show (j + 1) * 5 = 5 + j * 5 by omega, ← List.drop_drop, show List.drop 5 (cellsS x ++ xs.flatMap cellsS) = xs.flatMap cellsS from by simp [cellsS]]
      exact h2
theorem row_R {w : World} {base : Nat} {v : Value} {xs : List S29} (h : w.ownsRow base 29 5 v xs.length (xs.flatMap cellsS)) : Kd.R k29 29 w base (fun _ => True) v xs :=
  ⟨fun _ _ => trivial, _, h, reps_cells _ _ _ _⟩
def tokR (ys : List Rd) (n : Nat) : List S29 × Int × Int :=
  match ys.getLast? with
  | some r => if r.err = 0 then (ys.map tokS ++ [⟨0, ⟨#[]⟩, ⟨0, 0⟩, n⟩], 0, 0) else ([], r.at_, r.err)
  | none => ([⟨0, ⟨#[]⟩, ⟨0, 0⟩, n⟩], 0, 0)
def tokensOf (X : Lex) (s : ByteArray) : List S29 × Int × Int :=
  if 4000 < s.size then ([], 0, 4) else tokR (seqT X 4001 (s.data.toList.drop (X.B s.data.toList)) (X.B s.data.toList)) s.size
theorem scan1_stops (X : Lex) (n : Nat) (hn : 1 ≤ n) (sb : Nat) (s : ByteArray) (hs : s.size ≤ 4000) (w0 w : World) (hT : Tabs w0) (hB : Below w0.heap.size w0 w) (hsb : w.heap[sb]? = some (.cells #[.string s] 9 (0, 0))) :
    SeqStopsK Fence.wide n Tryz.prog 67 #[.pointer (some ⟨sb, 0, none⟩)] encT (Kt w0.heap.size) (fun ys => ys = seqT X 4001 (s.data.toList.drop (X.B s.data.toList)) (X.B s.data.toList)) (fun pre => pre <+: seqT X 4001 (s.data.toList.drop (X.B s.data.toList)) (X.B s.data.toList)) 4001 w :=
  fun l J Jx W hW hJ hJx hY h0 => scan1_in X n hn l sb s hs w0 W J Jx hJ hJx hY hT (below_step hB hW) (blk_below hsb hW) h0 _ rfl
theorem scan_any (s : ByteArray) (w : World) : Calls Tryz.prog 43 #[.string s] w fun e w' => e = .returned (.func (.func 67) #[] #[.pointer (some ⟨w.heap.size, 0, none⟩)]) ∧ w' = w.alloc (.cells #[.string s] 9) := by
  have hmf : ∀ (fn : Fn) (first cap : Array Value) (w : World), (Instr.makeFunc fn first cap).run Tryz.prog w = .ok (.func fn first cap) w := fun _ _ _ _ => rfl
  go_enter Tryz.func43, Tryz.ntmps43
  go_wp2
  go_ret
  exact ⟨rfl, rfl⟩
theorem blk_at {w : World} {o : Obj} {k : Nat} (h : w.heap.size = k) : (w.alloc o).heap[k]? = some o := by subst h; exact blk_new w o
theorem res3 {w : World} {tmps : Array Value} {a b c : Nat} {v0 v1 v2 : Value} (h0 : tmps.getD 2 undef = .pointer (some ⟨a, 0, none⟩)) (h1 : tmps.getD 3 undef = .pointer (some ⟨b, 0, none⟩)) (h2 : tmps.getD 4 undef = .pointer (some ⟨c, 0, none⟩))
    (c0 : w.heap[a]? = some (.cells #[v0] 38 (0, 0))) (c1 : w.heap[b]? = some (.cells #[v1] 3 (0, 0))) (c2 : w.heap[c]? = some (.cells #[v2] 22 (0, 0))) :
    (results Tryz.f17 tmps).run Tryz.prog w = .ok (.tuple #[v0, v1, v2]) w := by
  have k0 : w.cell? ⟨a, 0, none⟩ = some v0 := (blk_cell c0 0).trans rfl
  have k1 : w.cell? ⟨b, 0, none⟩ = some v1 := (blk_cell c1 0).trans rfl
  have k2 : w.cell? ⟨c, 0, none⟩ = some v2 := (blk_cell c2 0).trans rfl
  have e0 : tmps[2]?.getD undef = .pointer (some ⟨a, 0, none⟩) := by simpa using h0
  have e1 : tmps[3]?.getD undef = .pointer (some ⟨b, 0, none⟩) := by simpa using h1
  have e2 : tmps[4]?.getD undef = .pointer (some ⟨c, 0, none⟩) := by simpa using h2
  simp [results, Tryz.results17, asAddr, e0, e1, e2, go_sem, k0, k1, k2]
set_option maxHeartbeats 1000000 in
set_option maxRecDepth 100000 in
theorem tokens_long (s : ByteArray) (hs : 4000 < s.size) (w : World) :
    Calls Tryz.prog 17 #[.string s] w fun e w' => e = .returned (.tuple #[.slice none 0 0, .int .i64 0, .int .i64 4]) ∧ Below w.heap.size w w' := by
  have hd : decide (4000 < (s.size : Int)) = true := decide_eq_true (by omega)
  have hd2 : decide (4000 < s.size) = true := decide_eq_true (by omega)
  go_enter Tryz.func17, Tryz.ntmps17
  go_wp2
  refine bodyPost_ret (res3 (v0 := .slice none 0 0) (v1 := .int .i64 0) (v2 := .int .i64 4) rfl rfl rfl (blk_alloc (blk_alloc (blk_new w _) _) _) (blk_alloc (blk_at (by rw [World.size_alloc])) _) (blk_at (by rw [World.size_alloc, World.size_alloc]))) rfl ?_
  exact ⟨rfl, ((Below.refl _ w).alloc (Nat.le_refl _) _).alloc (by simp) _ |>.alloc (by simp; omega) _⟩
theorem info_parts29 : ∃ i0, Tryz.prog.info? 29 = some i0 ∧ i0.zero = some (.agg #[.int .i64 0, .string ⟨#[]⟩, .int .i64 0, .int .i64 0, .int .i64 0]) ∧ i0.size = 5 ∧ i0.bytes = 48 := info_parts info29
theorem Kt_put {n0 B : Nat} (hn : n0 ≤ B) (W : World) (l : Nat) (o o' : Obj) (hl : B ≤ l) (h : W.heap[l]? = some o) (hc : o.isCells = false) (hw : o.isWalk = false) : Kt n0 W (W.putObj l o') :=
  ⟨(Below.refl n0 W).grown (grownBy_putObj' W l o') (by have := (Array.getElem?_eq_some_iff.1 h).1; omega) (fun k e => by cases e; omega), fun k c t _ _ hk => ((grownBy_putObj' W l o').block k (Array.getElem?_eq_some_iff.1 hk).1 (fun e => by cases e; rw [h] at hk; cases hk; cases hc)).trans hk⟩
theorem Kt_alloc {n0 : Nat} (W : World) (hn : n0 ≤ W.heap.size) (o : Obj) : Kt n0 W (W.alloc o) := ⟨(Below.refl n0 W).alloc hn o, fun _ _ _ _ _ h => blk_alloc h o⟩
theorem Kt_set {n0 : Nat} {W : World} {b : Nat} {c : Array Value} {t : TypeId} (h : W.heap[b]? = some (.cells c t (0, 0))) (hb : n0 ≤ b) (ht : t = 38 ∨ t = 29) (i : Nat) (v : Value) : Kt n0 W (W.setCell ⟨b, i, none⟩ v) :=
  ⟨(Below.refl n0 W).setCell (p := ⟨b, i, none⟩) hb v, fun k c' t' h1 h2 hk => blk_far hk (p := ⟨b, i, none⟩) (blk_ne hk h (by rintro rfl; rcases ht with h' | h' <;> simp_all)) v⟩
theorem Kt_row {n0 : Nat} {W w1 : World} {v : Value} {k : Nat} {xs : List Value} (hrow : W.ownsRow n0 29 5 v k xs) (hn : n0 ≤ W.heap.size) (hgrow : W.grownBy w1 v.ownBlock) : Kt n0 W w1 := by
  refine ⟨(Below.refl n0 W).grown hgrow hn fun j ej => ?_, fun j c t h1 h2 hj => (hgrow.block j (blk_lt hj) fun ej => ?_).trans hj⟩
  · rcases hrow.2 with ⟨rfl, _⟩ | ⟨g, cap, cur, rfl, hb, _, _⟩
    · simp [Value.ownBlock] at ej
    · obtain rfl : g = j := by simpa [Value.ownBlock] using ej
      exact hb
  · rcases hrow.2 with ⟨rfl, _⟩ | ⟨g, cap, cur, rfl, hb, hg, _⟩
    · simp [Value.ownBlock] at ej
    · obtain rfl : j = g := by simpa [Value.ownBlock] using ej
      rw [hj] at hg; cases hg; exact h2 rfl
theorem five_new (W : World) (a b c d e : Value) (t : TypeId) : ∀ (j : Nat) (u : Value), [a, b, c, d, e][j]? = some u → (W.alloc (.cells #[a, b, c, d, e] t)).cell? ((⟨W.heap.size, 0, none⟩ : Addr).add j) = some u := by
  intro j u h
  have e1 : ((⟨W.heap.size, 0, none⟩ : Addr).add j) = ⟨W.heap.size, j, none⟩ := by simp only [Addr.add]; split <;> simp_all
  rw [e1]
  refine (blk_cell (blk_new W (.cells #[a, b, c, d, e] t)) j).trans ?_
  simpa using h
theorem tokR_ok {ys : List Rd} {n : Nat} (h : ∀ x ∈ ys, x.err = 0) : tokR ys n = (ys.map tokS ++ [⟨0, ⟨#[]⟩, ⟨0, 0⟩, n⟩], 0, 0) := by
  unfold tokR
  cases hl : ys.getLast? with
  | none => rw [List.getLast?_eq_none_iff.1 hl]; rfl
  | some r => simp only [if_pos (h r (List.mem_of_getLast? hl))]
theorem tokR_bad {ys : List Rd} {n : Nat} {x : Rd} (h : ys.getLast? = some x) (he : ¬ x.err = 0) : tokR ys n = ([], x.at_, x.err) := by
  unfold tokR
  rw [h]; simp only [if_neg he]
theorem seqT_stop (X : Lex) {x : Rd} (hx : ¬ x.err = 0) : ∀ (k : Nat) (l : List UInt8) (i : Nat) (pre : List Rd), pre <+: seqT X k l i → pre.getLast? = some x → seqT X k l i = pre
  | 0, l, i, pre, hp, hl => by
    have : pre = [] := by simpa [seqT] using hp
    subst this; simp at hl
  | k + 1, l, i, pre, hp, hl => by
    cases pre with
    | nil => simp at hl
    | cons y pre =>
      by_cases hne : l = []
      · subst hne; rw [seqT_nil] at hp; simp at hp
      · by_cases he : (X.F l).err = 0
        · rw [seqT_ok X k l i _ rfl hne he] at hp ⊢
          obtain ⟨rfl, hp2⟩ := List.cons_prefix_cons.1 hp
          cases pre with
          | nil =>
            simp at hl; subst hl
            exact absurd he hx
          | cons z pre =>
            rw [seqT_stop X hx k _ _ (z :: pre) hp2 (by simpa [List.getLast?_cons_cons] using hl)]
        · rw [seqT_bad X k l i _ rfl hne he] at hp ⊢
          obtain ⟨rfl, hp2⟩ := List.cons_prefix_cons.1 hp
          have : pre = [] := by simpa using hp2
          rw [this]
def TokI (w : World) (pre : List Rd) (W : World) : Prop :=
  ((∃ v, Boxed W (w.heap.size + 1 + 1 + 1) 38 v ∧ W.ownsRow w.heap.size 29 5 v pre.length ((pre.map tokS).flatMap cellsS) ∧ (∀ x ∈ pre, x.err = 0)) ∧ (Boxed W w.heap.size 38 (.slice none 0 0) ∧ Boxed W (w.heap.size + 1) 3 (.int .i64 0) ∧ Boxed W (w.heap.size + 1 + 1) 22 (.int .i64 0))) ∧ Below w.heap.size w W
def TokX (w : World) (c : Code) (pre : List Rd) (W : World) : Prop :=
  (c = .ret ∧ ∃ x, pre.getLast? = some x ∧ ¬ x.err = 0 ∧ (Boxed W w.heap.size 38 (.slice none 0 0) ∧ Boxed W (w.heap.size + 1) 3 (.int .i64 x.at_) ∧ Boxed W (w.heap.size + 1 + 1) 22 (.int .i64 x.err))) ∧ Below w.heap.size w W
theorem TokI_own {w : World} {B : Nat} (hB : w.heap.size ≤ B) : OwnFrom B (TokI w) :=
  OwnFrom.and (OwnFrom.and (Own.from (holdsRow_own w.heap.size (w.heap.size + 1 + 1 + 1) 38 29 5 (fun pre : List Rd => pre.length) (fun pre => (pre.map tokS).flatMap cellsS) (fun pre _ => ∀ x ∈ pre, x.err = 0)) _)
    (OwnFrom.and (Own.from (boxed_own _ _ (fun _ => .slice none 0 0)) _) (OwnFrom.and (Own.from (boxed_own _ _ (fun _ => .int .i64 0)) _) (Own.from (boxed_own _ _ (fun _ => .int .i64 0)) _)))) (ownFrom_below (Nat.le_refl _) hB)
theorem TokX_own {w : World} {B : Nat} (hB : w.heap.size ≤ B) (c : Code) : OwnFrom B (TokX w c) := by
  rintro pre X Y row ⟨⟨rfl, x, hx, he, b0, b1, b2⟩, hb⟩ hg hr
  have hne : ∀ {b t v}, Boxed X b t v → some b ≠ row := fun hv e' => by
    obtain ⟨_, o, ho, hc⟩ := hr _ e'.symm
    rw [show X.heap[_]? = _ from hv] at ho; cases ho; cases hc
  exact ⟨⟨rfl, x, hx, he, b0.kept hg (hne b0), b1.kept hg (hne b1), b2.kept hg (hne b2)⟩, ownFrom_below (β := Unit) (Nat.le_refl _) hB () X Y row hb hg hr⟩
set_option maxHeartbeats 2000000 in
set_option maxRecDepth 100000 in
theorem tokens_in (X : Lex) (s : ByteArray) (hs : s.size ≤ 4000) (w : World) (hT : Tabs w) :
    CallsIn Fence.wide 10 Tryz.prog 17 #[.string s] w fun e w' => ∃ v0_ : Value, e = .returned (.tuple #[v0_, .int .i64 (tokensOf X s).2.1, .int .i64 (tokensOf X s).2.2]) ∧ Kd.R k29 29 w' w.heap.size (fun _ => True) v0_ (tokensOf X s).1 ∧ Below w.heap.size w w' := by
  have hd : decide (4000 < (s.size : Int)) = false := decide_eq_false (by omega)
  have hd2 : decide (4000 < s.size) = false := decide_eq_false (by omega)
  obtain ⟨i0, hi, hz0, hz1, hz2⟩ := info_parts29
  have HT := Aside0.mk hT
  have HI := Aside0.mk hi
  have HZ0 := Aside0.mk hz0
  have HZ1 := Aside0.mk hz1
  have HZ2 := Aside0.mk hz2
  clear hT hi hz0 hz1 hz2
  refine callsIn_of_wp_marks Tryz.func17 rfl trivial ?_ rfl
  simp only [Tryz.ntmps17, List.size_toArray, List.length_cons, List.length_nil, Nat.reduceAdd, Nat.reduceSub, Array.replicate_succ, Array.replicate_zero, List.push_toArray, List.append_toArray, List.nil_append, List.cons_append]
  gi_wp2_with (first | (refine ⟨trivial, ?_⟩; gi_at_call 43; refine (callsIn_wide.2 (scan_any s _)).mono ?_; rintro e w2 ⟨rfl, rfl⟩))
  have hB0 : Below w.heap.size w (((((w.alloc (.cells #[.slice none 0 0] 38)).alloc (.cells #[.int .i64 0] 3)).alloc (.cells #[.int .i64 0] 22)).alloc (.cells #[.slice none 0 0] 38)).alloc (.cells #[.string s] 9)) :=
    ((((Below.refl _ w).alloc (Nat.le_refl _) _).alloc (by simp) _).alloc (by simp; omega) _).alloc (by simp; omega) _ |>.alloc (by simp; omega) _
  have bR := ((((Boxed.new w 38 (.slice none 0 0)).alloc (.cells #[.int .i64 0] 3)).alloc (.cells #[.int .i64 0] 22)).alloc (.cells #[.slice none 0 0] 38)).alloc (.cells #[.string s] 9)
  have bA := (((Boxed.new (w.alloc (.cells #[.slice none 0 0] 38)) 3 (.int .i64 0)).alloc (.cells #[.int .i64 0] 22)).alloc (.cells #[.slice none 0 0] 38)).alloc (.cells #[.string s] 9)
  have bE := ((Boxed.new ((w.alloc (.cells #[.slice none 0 0] 38)).alloc (.cells #[.int .i64 0] 3)) 22 (.int .i64 0)).alloc (.cells #[.slice none 0 0] 38)).alloc (.cells #[.string s] 9)
  have bL := (Boxed.new (((w.alloc (.cells #[.slice none 0 0] 38)).alloc (.cells #[.int .i64 0] 3)).alloc (.cells #[.int .i64 0] 22)) 38 (.slice none 0 0)).alloc (.cells #[.string s] 9)
  have bS := Boxed.new ((((w.alloc (.cells #[.slice none 0 0] 38)).alloc (.cells #[.int .i64 0] 3)).alloc (.cells #[.int .i64 0] 22)).alloc (.cells #[.slice none 0 0] 38)) 9 (.string s)
  have hsz : (((((w.alloc (.cells #[.slice none 0 0] 38)).alloc (.cells #[.int .i64 0] 3)).alloc (.cells #[.int .i64 0] 22)).alloc (.cells #[.slice none 0 0] 38)).alloc (.cells #[.string s] 9)).heap.size = w.heap.size + 5 := by simp
  simp only [World.size_alloc] at bA bE bL bS
  obtain ⟨W0, hW0⟩ : ∃ W0, ((((w.alloc (.cells #[.slice none 0 0] 38)).alloc (.cells #[.int .i64 0] 3)).alloc (.cells #[.int .i64 0] 22)).alloc (.cells #[.slice none 0 0] 38)).alloc (.cells #[.string s] 9) = W0 := ⟨_, rfl⟩
  rw [hW0] at bR bA bE bL bS hB0 hsz ⊢
  clear hW0
  have hle : w.heap.size ≤ W0.heap.size := by omega
  refine wpIn_rangeFunc_ownH rfl (by omega) (gf := 67) (lb := #[.pointer (some ⟨w.heap.size + 1 + 1 + 1 + 1, 0, none⟩)]) rfl trivial (enters_of Tryz.func67 (by kernel_rfl) rfl)
    (scan1_stops X 9 (by omega) (w.heap.size + 1 + 1 + 1 + 1) s hs w W0 HT.out hB0 bS) Kt.trans (fun W l o o' h1 h2 h3 h4 => Kt_put hle W l o o' h1 h2 h3 h4) (Below.refl _ _) (fun _ => rfl)
    (TokI w) (TokX w) (TokI_own hle) (TokX_own hle) ⟨⟨⟨_, bL, World.ownsRow_nil _ _ _ _, by simp⟩, bR, bA, bE⟩, hB0⟩
    (fun x a' W => ∃ Bx, w.heap.size ≤ Bx ∧ W.heap[Bx]? = some (.cells #[.int .i64 x.kind, .string x.text, .int .i64 x.num, .int .i64 x.den, .int .i64 x.at_] 29 (0, 0)) ∧
      a' = { tmps := #[.string s, undef, .pointer (some ⟨w.heap.size, 0, none⟩), .pointer (some ⟨w.heap.size + 1, 0, none⟩), .pointer (some ⟨w.heap.size + 1 + 1, 0, none⟩), .pointer (some ⟨w.heap.size + 1 + 1 + 1, 0, none⟩), .pointer (some ⟨Bx, 0, none⟩), .int .i64 x.err, .string s, .int .i64 s.size, .bool false, .string s,
        .func (.func 67) #[] #[.pointer (some ⟨w.heap.size + 1 + 1 + 1 + 1, 0, none⟩)], .agg #[.int .i64 x.kind, .string x.text, .int .i64 x.num, .int .i64 x.den, .int .i64 x.at_], .int .i64 x.err, undef, undef, undef, undef, undef, undef, undef, undef, undef, undef, undef, undef, undef, undef, undef], defers := [] })
    (fun x a' _ X Y row hs hg hr => by
      obtain ⟨Bx, h1, h2, h3⟩ := hs
      exact ⟨Bx, h1, (hg.block Bx (Array.getElem?_eq_some_iff.1 h2).1 (fun e' => by obtain ⟨_, o, ho, hc⟩ := hr _ e'.symm; rw [h2] at ho; cases ho; cases hc)).trans h2, h3⟩)
    ?assign ?body ?done ?stop
  case assign =>
    rintro l pre x W K hI hK
    simp only [encT]
    gi_wp2
    have hWs := hI.2.size
    obtain ⟨⟨⟨v, hv, hrow, hok⟩, hR, hA, hE⟩, hB⟩ := hI
    exact hK _ _ ((KeepsOthers.alloc _ _).from _) (Kt_alloc W hWs _) ⟨⟨⟨v, hv.alloc _, hrow.alloc _, hok⟩, hR.alloc _, hA.alloc _, hE.alloc _⟩, hB.alloc hWs _⟩ ⟨W.heap.size, hWs, blk_new W _, rfl⟩
  case body =>
    rintro l pre x a' W hl hr ⟨⟨⟨v, hv, hrow, hok⟩, hR, hA, hE⟩, hB⟩ ⟨Bx, hBx, hX, rfl⟩ hlt
    have hWs := hB.size
    obtain ⟨⟨x0, x1, x2, x3, x4⟩, y0, y1, y2, y3, y4⟩ := box_cells5 hX
    by_cases hx : x.err = 0
    · have hxb : (x.err != 0) = false := by simp [hx]
      have hc := hv.cell
      have hf := hv.frozen
      have hvlt := hv.lt
      gi_wp2_with (gi_at_builtin; refine wpListIn_append_own _ rfl _ _ 38 rfl w.heap.size 29 i0 (.agg #[.int .i64 0, .string ⟨#[]⟩, .int .i64 0, .int .i64 0, .int .i64 0]) 5 48 Tryz.underlying38 HI.out HZ0.out HZ1.out HZ2.out rfl (by decide) _ _ _ rfl (hrow.alloc _) ⟨W.heap.size, 0, none⟩ 1 1 (cellsS (tokS x)) rfl rfl (five_new _ _ _ _ _ _ _) (by simp [Value.oneCell', cellsS]) (by simp only [maxLen]; omega) (by omega) (by simp; omega) ?_; intro v' w1 hown' hgrow _; obtain ⟨g', cap', rfl⟩ := ownsRow_succ hown'; obtain ⟨hv1, hv2, hr2, hk2, hb2⟩ := hv.appended (by decide) hrow hWs (by omega) hown' hgrow; have hc1 := hv1.cell; have hf1 := hv1.frozen; have HG := Aside0.mk hgrow; have HR2 := Aside0.mk hr2; have HK2 := Aside0.mk hk2; have HB2 := Aside0.mk hb2; have HV2 := Aside0.mk hv2; have HV1 := Aside0.mk hv1; clear hgrow hr2 hk2 hb2 hv2 hown' hv1)
      have hg := HG.out
      have hvn := HV1.out
      have kt : Kt w.heap.size W (w1.setCell ⟨w.heap.size + 1 + 1 + 1, 0, none⟩ (.slice (some ⟨g', 0, none⟩) (pre.length + 1) cap')) := ((Kt_alloc W hWs _).trans (Kt_row (hrow.alloc _) (by simp; omega) hg)).trans (Kt_set (c := #[v]) hvn (by omega) (.inl rfl) 0 _)
      refine ⟨HK2.out.from _, kt, ⟨⟨⟨_, HV2.out, by simpa using HR2.out, ?_⟩, ((hR.alloc _).kept hg (hR.not_row (by decide) hrow)).other (by omega) _, ((hA.alloc _).kept hg (hA.not_row (by decide) hrow)).other (by omega) _, ((hE.alloc _).kept hg (hE.not_row (by decide) hrow)).other (by omega) _⟩, hB.trans HB2.out⟩⟩
      intro y hy
      rcases List.mem_append.1 hy with hy | hy
      · exact hok y hy
      · rw [List.mem_singleton.1 hy]; exact hx
    · have hxb : (x.err != 0) = true := by simp [hx]
      have hcR := hR.cell
      have hcA := hA.cell
      have hcE := hE.cell
      have hfR := hR.frozen
      have hfA := hA.frozen
      have hfE := hE.frozen
      gi_wp2
      gi_region
      all_goals gi_wp2
      all_goals
        refine ⟨((((KeepsOthers.setCell _ _ _).trans (KeepsOthers.setCell _ _ _)).trans (KeepsOthers.setCell _ _ _)).trans (KeepsOthers.drew _)).from _, ⟨⟨rfl, x, by simp, hx, ?_, ?_, ?_⟩, ?_⟩⟩
        · exact (((hR.set _).other (by omega) _).other (by omega) _)
        · exact (((hA.other (by omega) _).set _).other (by omega) _)
        · exact (((hE.other (by omega) _).other (by omega) _).set _)
        · exact (((hB.setCell (p := ⟨w.heap.size, 0, none⟩) (Nat.le_refl _) _).setCell (p := ⟨w.heap.size + 1, 0, none⟩) (by simp) _).setCell (p := ⟨w.heap.size + 1 + 1, 0, none⟩) (by simp; omega) _).drew
  case done =>
    rintro D ys W hD hys ⟨⟨⟨v, hv, hrow, hok⟩, hR, hA, hE⟩, hB⟩ hK
    have hlt : ys.length ≤ 4001 := by rw [hys]; exact seqT_len _ _ _ _
    have hWs := hB.size
    have hc := hv.cell
    gi_wp2_with (gi_at_builtin; refine wpListIn_append_own _ rfl _ _ 38 rfl w.heap.size 29 i0 (.agg #[.int .i64 0, .string ⟨#[]⟩, .int .i64 0, .int .i64 0, .int .i64 0]) 5 48 Tryz.underlying38 HI.out HZ0.out HZ1.out HZ2.out rfl (by decide) _ _ _ rfl (hrow.alloc _) ⟨W.heap.size, 0, none⟩ 1 1 (cellsS ⟨0, ⟨#[]⟩, ⟨0, 0⟩, s.size⟩) rfl rfl (five_new _ _ _ _ _ _ _) (by simp [Value.oneCell', cellsS]) (by simp only [maxLen]; omega) (by omega) (by simp; omega) ?_; intro v' w1 hown' hgrow _; obtain ⟨g', cap', rfl⟩ := ownsRow_succ hown'; have hR1 := (hR.alloc (.cells #[.int .i64 0, .string ⟨#[]⟩, .int .i64 0, .int .i64 0, .int .i64 s.size] 29)).kept hgrow (hR.not_row (by decide) hrow); have hA1 := (hA.alloc (.cells #[.int .i64 0, .string ⟨#[]⟩, .int .i64 0, .int .i64 0, .int .i64 s.size] 29)).kept hgrow (hA.not_row (by decide) hrow); have hE1 := (hE.alloc (.cells #[.int .i64 0, .string ⟨#[]⟩, .int .i64 0, .int .i64 0, .int .i64 s.size] 29)).kept hgrow (hE.not_row (by decide) hrow); have cR1 := hR1.cell; have cA1 := hA1.cell; have cE1 := hE1.cell; have fR1 := hR1.frozen; have fA1 := hA1.frozen; have fE1 := hE1.frozen; have HG := Aside0.mk hgrow; have HO := Aside0.mk hown'; have HR1 := Aside0.mk hR1; have HA1 := Aside0.mk hA1; have HE1 := Aside0.mk hE1; clear hgrow hown' hR1 hA1 hE1)
    have hg : (W.alloc (.cells #[.int .i64 0, .string ⟨#[]⟩, .int .i64 0, .int .i64 0, .int .i64 s.size] 29)).grownBy w1 v.ownBlock := HG.out
    have hown := HO.out
    have b0 := ((HR1.out.set (.slice (some ⟨g', 0, none⟩) (ys.length + 1) cap')).other (B' := w.heap.size + 1) (by omega) (.int .i64 0)).other (B' := w.heap.size + 1 + 1) (by omega) (.int .i64 0)
    have b1 := ((HA1.out.other (B' := w.heap.size) (by omega) (.slice (some ⟨g', 0, none⟩) (ys.length + 1) cap')).set (.int .i64 0)).other (B' := w.heap.size + 1 + 1) (by omega) (.int .i64 0)
    have b2 := ((HE1.out.other (B' := w.heap.size) (by omega) (.slice (some ⟨g', 0, none⟩) (ys.length + 1) cap')).other (B' := w.heap.size + 1) (by omega) (.int .i64 0)).set (.int .i64 0)
    have hKO := ((((KeepsOthers.alloc W _).trans (KeepsOthers.of_grownBy hg fun j o ej hj => by
      rcases (hrow.alloc (.cells #[.int .i64 0, .string ⟨#[]⟩, .int .i64 0, .int .i64 0, .int .i64 s.size] 29)).2 with ⟨rfl, _⟩ | ⟨g, cap, cur, rfl, _, hgb, _⟩
      · simp [Value.ownBlock] at ej
      · obtain rfl : g = j := by simpa [Value.ownBlock] using ej
        rw [hgb] at hj; cases hj; rfl)).trans (KeepsOthers.setCell _ ⟨w.heap.size, 0, none⟩ (.slice (some ⟨g', 0, none⟩) (ys.length + 1) cap'))).trans (KeepsOthers.setCell _ ⟨w.heap.size + 1, 0, none⟩ (.int .i64 0))).trans (KeepsOthers.setCell _ ⟨w.heap.size + 1 + 1, 0, none⟩ (.int .i64 0))
    have hK3 := hKO.same D _ hK rfl
    have hbel := ((((hB.alloc hWs (.cells #[.int .i64 0, .string ⟨#[]⟩, .int .i64 0, .int .i64 0, .int .i64 s.size] 29)).trans (Kt_row (hrow.alloc _) (by simp; omega) hg).1).setCell (p := ⟨w.heap.size, 0, none⟩) (Nat.le_refl _) (.slice (some ⟨g', 0, none⟩) (ys.length + 1) cap')).setCell (p := ⟨w.heap.size + 1, 0, none⟩) (by simp) (.int .i64 0)).setCell (p := ⟨w.heap.size + 1 + 1, 0, none⟩) (by simp; omega) (.int .i64 0)
    have r1 := hown.kept (grownBy_setCell' w1 w.heap.size (.slice (some ⟨g', 0, none⟩) (ys.length + 1) cap')) (.inr (HR1.out.not_row (by decide) hown).symm)
    have r2 := r1.kept (grownBy_setCell' _ (w.heap.size + 1) (.int .i64 0)) (.inr ((HA1.out.other (B' := w.heap.size) (by omega) _).not_row (by decide) r1).symm)
    have r3 := r2.kept (grownBy_setCell' _ (w.heap.size + 1 + 1) (.int .i64 0)) (.inr (((HE1.out.other (B' := w.heap.size) (by omega) _).other (B' := w.heap.size + 1) (by omega) _).not_row (by decide) r2).symm)
    subst hys
    refine ⟨by simp, .inl ⟨_, _, rfl, run_takeDeferred hK3, ?_⟩⟩
    have hnD : ∀ b, b < w.heap.size + 5 → some b ≠ some D := fun b hb e => by cases e; omega
    rw [(show tokensOf X s = tokR (seqT X 4001 (s.data.toList.drop (X.B s.data.toList)) (X.B s.data.toList)) s.size from by unfold tokensOf; rw [if_neg (by omega)]), tokR_ok hok]
    refine ⟨_, res3 rfl rfl rfl (b0.kept (grownBy_putObj' _ D _) (hnD _ (by omega))) (b1.kept (grownBy_putObj' _ D _) (hnD _ (by omega))) (b2.kept (grownBy_putObj' _ D _) (hnD _ (by omega))), _, rfl, row_R (ownsRow_putObj (by simpa using r3) _ hK3 rfl), hbel.trans (Kt_put hle _ D _ _ hD hK3 rfl rfl).1⟩
  case stop =>
    rintro D c pre W hD hpre ⟨⟨rfl, x, hx, he, hR, hA, hE⟩, hB⟩ hK
    have hnD : ∀ b, b < w.heap.size + 5 → some b ≠ some D := fun b hb e => by cases e; omega
    gi_wp2
    refine ⟨by simp, .inl ⟨_, _, rfl, run_takeDeferred hK, ?_⟩⟩
    rw [(show tokensOf X s = tokR (seqT X 4001 (s.data.toList.drop (X.B s.data.toList)) (X.B s.data.toList)) s.size from by unfold tokensOf; rw [if_neg (by omega)]), seqT_stop X he _ _ _ _ hpre hx, tokR_bad hx he]
    refine ⟨_, res3 rfl rfl rfl (hR.kept (grownBy_putObj' _ D _) (hnD _ (by omega))) (hA.kept (grownBy_putObj' _ D _) (hnD _ (by omega))) (hE.kept (grownBy_putObj' _ D _) (hnD _ (by omega))), _, rfl, row_R (World.ownsRow_nil _ _ _ _), hB.trans (Kt_put hle _ D _ _ hD hK rfl rfl).1⟩
end Go.Proofs.YteokilkcchdeiaaGreatDoor.X
end
section
namespace Go.Proofs.YteokilkcchdeiaaGreatDoor.X
open Go.RowKit Go.Shelf Go.Proofs.YteokilkcchdeiaaGreatDoor Go.Proofs.YteokilkcchdeiaaGreatDoorW.PrintWords Go.Proofs.YteokilkcchdeiaaGreatDoorW.PrintLast Go.Proofs.YteokilkcchdeiaaGreatDoorW.PrintMore Go.Proofs.YteokilkcchdeiaaGreatDoor.Q
set_option linter.unusedVariables false
theorem bt_get (s : ByteArray) (i : Nat) (h : i < s.size) : bt s i = ((s.data.toList.getD i 0).toNat : Int) := by
  unfold bt; rw [dif_pos (by simpa using h)]
  exact tl_get s i h
theorem ext_l (s : ByteArray) (i : Nat) : (s.extract i s.size).data.toList = s.data.toList.drop i := Lib.extract_to_end s i
theorem ext_size (s : ByteArray) (i : Nat) : (s.extract i s.size).size = s.size - i := by
  rw [← tl_size, ext_l, List.length_drop, tl_size]
theorem w64 {n : Int} (h0 : -9223372036854775808 ≤ n) (h1 : n ≤ 9223372036854775807) : wrap64 n = n := by unfold wrap64; omega
theorem get_drop (l : List UInt8) (n : Nat) (c : UInt8) (r : List UInt8) (h : l.drop n = c :: r) : l.getD n 0 = c ∧ l.drop (n + 1) = r ∧ n < l.length := by
  have hn : n < l.length := by
    by_cases hn : n < l.length
    · exact hn
    · rw [List.drop_eq_nil_of_le (by omega)] at h; cases h
  rw [List.drop_eq_getElem_cons hn] at h
  injection h with h1 h2
  exact ⟨by rw [List.getD_eq_getElem?_getD, List.getElem?_eq_getElem hn]; exact h1, h2, hn⟩
def blankG : Bool → List UInt8 → Nat
  | _, [] => 0
  | false, c :: l => if c = 32 ∨ c = 9 ∨ c = 10 then 1 + blankG false l else if c = 35 then 1 + blankG true l else 0
  | true, c :: l => if c = 10 then 1 + blankG false l else 1 + blankG true l
theorem blankG_le : ∀ (b : Bool) (l : List UInt8), blankG b l ≤ l.length
  | _, [] => by simp [blankG]
  | false, c :: l => by
    have h1 := blankG_le false l
    have h2 := blankG_le true l
    unfold blankG; split
    · simp only [List.length_cons]; omega
    · split <;> simp only [List.length_cons] <;> omega
  | true, c :: l => by
    have h1 := blankG_le false l
    have h2 := blankG_le true l
    unfold blankG; split <;> simp only [List.length_cons] <;> omega
theorem blankG_true : ∀ l : List UInt8, (Lib.indexByte l 10 < 0 → blankG true l = l.length) ∧ (0 ≤ Lib.indexByte l 10 → blankG true l = (Lib.indexByte l 10).toNat + blankG false (l.drop (Lib.indexByte l 10).toNat) ∧ (Lib.indexByte l 10).toNat < l.length)
  | [] => by constructor <;> intro h <;> simp_all [Lib.indexByte, blankG]
  | c :: l => by
    obtain ⟨h1, h2⟩ := blankG_true l
    have hge := Lib.indexByte_ge l 10
    by_cases hc : c = 10
    · subst hc
      have e : Lib.indexByte (10 :: l) 10 = 0 := by simp [Lib.indexByte]
      rw [e]
      exact ⟨fun h => absurd h (by decide), fun _ => ⟨by simp [blankG], by simp⟩⟩
    · have hb : blankG true (c :: l) = 1 + blankG true l := by simp [blankG, hc]
      by_cases hi : Lib.indexByte l 10 = -1
      · have e : Lib.indexByte (c :: l) 10 = -1 := by simp [Lib.indexByte, hc, hi]
        rw [e, hb]
        exact ⟨fun _ => by rw [h1 (by omega), List.length_cons]; omega, fun h => absurd h (by decide)⟩
      · have e : Lib.indexByte (c :: l) 10 = Lib.indexByte l 10 + 1 := by simp [Lib.indexByte, hc, hi]
        have e2 : (Lib.indexByte l 10 + 1).toNat = (Lib.indexByte l 10).toNat + 1 := by omega
        rw [e, hb, e2]
        refine ⟨fun h => absurd h (by omega), fun _ => ?_⟩
        obtain ⟨h3, h4⟩ := h2 (by omega)
        rw [h3, List.drop_succ_cons, List.length_cons]
        omega
theorem bt_nat {s : ByteArray} {i : Nat} {c : UInt8} {r : List UInt8} (h : s.data.toList.drop i = c :: r) : bt s i = (c.toNat : Int) := by
  obtain ⟨h1, h2, h3⟩ := get_drop _ _ _ _ h
  rw [bt_get s i (by rw [← tl_size]; exact h3), h1]
theorem u8_int {c : UInt8} (n : Nat) (hn : n < 256) : ((c.toNat : Int) = (n : Int)) ↔ c = UInt8.ofNat n := by
  constructor
  · intro h; exact u8_of (by omega) hn
  · rintro rfl; simp; omega
theorem blank_f (s : ByteArray) (hs : s.size ≤ 4000000) : ∀ (m i k : Nat), s.size - i ≤ m → i ≤ s.size → 2 * m + 3 ≤ k → lexer_blank.l0 k s i = some ((i + blankG false (s.data.toList.drop i) : Nat) : Int) := by
  intro m
  induction m using Nat.strongRecOn with
  | _ m ih =>
    intro i k hm hi hk
    obtain ⟨k, rfl⟩ : ∃ k', k = k' + 2 := ⟨k - 2, by omega⟩
    cases hd : s.data.toList.drop i with
    | nil =>
      have : s.data.toList.length ≤ i := List.drop_eq_nil_iff.1 hd
      rw [tl_size] at this
      unfold lexer_blank.l0
      rw [if_neg (by omega)]
      simp [blankG]
    | cons c r =>
      obtain ⟨h1, h2, h3⟩ := get_drop _ _ _ _ hd
      rw [tl_size] at h3
      have hb := bt_nat hd
      unfold lexer_blank.l0
      rw [if_pos (by omega), if_pos (by omega), hb]
      have hstep : ∀ k', 2 * (m - 1) + 3 ≤ k' → lexer_blank.l0 k' s (wrap64 ((i : Int) + 1)) = some ((i + (1 + blankG false r) : Nat) : Int) := by
        intro k' hk'
        rw [w64 (by omega) (by omega), show ((i : Int) + 1) = ((i + 1 : Nat) : Int) from by omega]
        rw [ih (m - 1) (by omega) (i + 1) k' (by omega) (by omega) hk', h2]
        congr 2; omega
      by_cases hw : c = 32 ∨ c = 9 ∨ c = 10
      · have hg : blankG false (c :: r) = 1 + blankG false r := by simp [blankG, hw]
        rw [hg]
        rcases hw with rfl | rfl | rfl
        · rw [if_pos (by decide)]; unfold lexer_blank.j1; rw [if_pos (by decide)]; exact hstep k (by omega)
        · rw [if_neg (by decide), if_pos (by decide)]; unfold lexer_blank.j1; rw [if_pos (by decide)]; exact hstep k (by omega)
        · rw [if_neg (by decide), if_neg (by decide)]; unfold lexer_blank.j1; rw [if_pos (by decide)]; exact hstep k (by omega)
      · have n32 : ¬ ((c.toNat : Int) = 32) := fun e => hw (.inl ((u8_int 32 (by omega)).1 e))
        have n9 : ¬ ((c.toNat : Int) = 9) := fun e => hw (.inr (.inl ((u8_int 9 (by omega)).1 e)))
        have n10 : ¬ ((c.toNat : Int) = 10) := fun e => hw (.inr (.inr ((u8_int 10 (by omega)).1 e)))
        rw [if_neg n32, if_neg n9]
        unfold lexer_blank.j1
        rw [if_neg (by simpa using n10)]
        by_cases h35 : c = 35
        · subst h35
          have hg : blankG false (35 :: r) = blankG true (35 :: r) := by simp [blankG]
          rw [if_pos (by decide), if_pos (by omega), if_pos (by omega)]
          unfold strings_IndexByte.f
          rw [show ((i : Int).toNat) = i from rfl, ext_l, hd, Option.bind_some]
          obtain ⟨g1, g2⟩ := blankG_true (35 :: r)
          rw [show (Int.toNat 10).toUInt8 = 10 from rfl, hg]
          have hl : (35 :: r : List UInt8).length = s.size - i := by rw [← hd, List.length_drop, tl_size]
          by_cases hn : Lib.indexByte (35 :: r) 10 < 0
          · rw [if_pos hn, g1 hn, hl]
            congr 2; omega
          · rw [if_neg hn]
            obtain ⟨g3, g4⟩ := g2 (by omega)
            have hpos : 0 < (Lib.indexByte (35 :: r) 10).toNat := by
              have : Lib.indexByte (35 :: r) 10 ≠ 0 := by
                simp only [Lib.indexByte]; have := Lib.indexByte_ge r 10; split
                · rename_i h; cases h
                · split
                  · decide
                  · rename_i h; simp at h; omega
              omega
            obtain ⟨e, he⟩ : ∃ e : Nat, Lib.indexByte (35 :: r) 10 = (e : Int) := ⟨(Lib.indexByte (35 :: r) 10).toNat, by omega⟩
            rw [he] at hpos g3 g4 ⊢
            simp only [Int.toNat_natCast] at hpos g3 g4
            rw [w64 (by omega) (by omega), show ((i : Int) + (e : Int)) = ((i + e : Nat) : Int) from by omega]
            rw [ih (m - 1) (by omega) (i + e) k (by omega) (by omega) (by omega), g3, ← hd, List.drop_drop]
            congr 2; omega
        · rw [if_neg (by intro e; exact h35 ((u8_int 35 (by omega)).1 e))]
          have hg : blankG false (c :: r) = 0 := by simp [blankG, hw, h35]
          rw [hg]; simp
def partN (l : List UInt8) : Nat := if letB ((l.headD 0).toNat : Int) then runN wordB l else 0
theorem partN_le (l : List UInt8) : partN l ≤ l.length := by unfold partN; split; exact runN_le _ _; omega
theorem part_f (s : ByteArray) (hs : s.size ≤ 4000000) : lexer_part.f s = some ((partN s.data.toList : Nat) : Int) := by
  unfold lexer_part.f
  rw [Lib.toList_data]
  cases hd : s.data.toList with
  | nil => rw [if_pos rfl]; rfl
  | cons c r =>
    have hsz : 0 < s.size := by rw [← tl_size, hd]; simp
    rw [if_neg (by simp), if_pos (by omega)]
    rw [show bt s 0 = (c.toNat : Int) from bt_nat (i := 0) (by simpa using hd), isLetter_f, Option.bind_some]
    by_cases hl : letB (c.toNat : Int) = true
    · rw [if_pos hl, show partN (c :: r) = runN wordB (c :: r) from if_pos hl]
      unfold lexer_run_part.f
      rw [if_pos (by omega), Option.bind_some, hd]
    · rw [if_neg hl, show partN (c :: r) = 0 from if_neg hl]; rfl
def nameN : Nat → List UInt8 → Nat → Nat
  | 0, _, n => n
  | k + 1, l, n => if 0 < n ∧ n < l.length ∧ l.getD n 0 = 46 ∧ partN (l.drop (n + 1)) ≠ 0 then nameN k l (n + 1 + partN (l.drop (n + 1))) else n
theorem nameN_le (l : List UInt8) : ∀ (k n : Nat), n ≤ l.length → n ≤ nameN k l n ∧ nameN k l n ≤ l.length
  | 0, n, h => by simp [nameN, h]
  | k + 1, n, h => by
    unfold nameN
    split
    · rename_i hc
      have hp := partN_le (l.drop (n + 1))
      rw [List.length_drop] at hp
      have := nameN_le l k (n + 1 + partN (l.drop (n + 1))) (by omega)
      omega
    · exact ⟨Nat.le_refl _, h⟩
def Rd.tup (r : Rd) : Int × ByteArray × Int × Int × Int × Int × Int := (r.kind, r.text, r.num, r.den, r.at_, r.size, r.err)
def nameF (l : List UInt8) (n : Nat) : Rd := if 100 < n then zRd n 4 else ⟨1, ⟨(l.take n).toArray⟩, 0, 0, 0, n, 0⟩
def nameR (l : List UInt8) : Rd := nameF l (nameN (l.length + 1) l (partN l))
theorem name_end (s : ByteArray) (n : Nat) (h : n ≤ s.size) (hs : s.size ≤ 4000000) :
    (if (n : Int) > 100 then (some (0, (⟨#[]⟩ : ByteArray), 0, 0, 0, (n : Int), 4)) else (if 0 ≤ (n : Int) then (if (n : Int) ≤ (s.size : Int) then (some (1, s.extract 0 ((n : Int)).toNat, 0, 0, 0, (n : Int), 0)) else (none)) else (none))) = some (nameF s.data.toList n).tup := by
  unfold nameF
  by_cases hn : 100 < n
  · rw [if_pos (by omega), if_pos hn]; rfl
  · rw [if_neg (by omega), if_neg hn, if_pos (by omega), if_pos (by omega), Int.toNat_natCast, Lib.extract_upto]; rfl
theorem name_l (s : ByteArray) (hs : s.size ≤ 4000000) : ∀ (j n k : Nat), n ≤ s.size → s.size < n + j → 2 * j + 1 ≤ k → lexer_name.l0 k s n = some (nameF s.data.toList (nameN j s.data.toList n)).tup := by
  intro j
  induction j with
  | zero => intro n k h1 h2; omega
  | succ j ih =>
    intro n k h1 h2 hk
    obtain ⟨k, rfl⟩ : ∃ k', k = k' + 2 := ⟨k - 2, by omega⟩
    unfold nameN
    have hj1 : ∀ k', lexer_name.j1 (k' + 1) s n false = some (nameF s.data.toList n).tup := by
      intro k'; unfold lexer_name.j1; rw [if_neg (by decide)]; exact name_end s n h1 hs
    unfold lexer_name.l0
    by_cases hn0 : 0 < n
    · rw [if_pos (by omega)]
      by_cases hn1 : n < s.size
      · rw [if_pos (by omega), if_pos (by omega)]
        have hb := bt_get s n hn1
        by_cases h46 : s.data.toList.getD n 0 = 46
        · rw [show bt s n = 46 from by rw [hb, h46]; rfl, show ((46 : Int) == 46) = true from rfl]
          unfold lexer_name.j1
          rw [if_pos rfl, w64 (by omega) (by omega), if_pos (by omega), if_pos (by omega), show ((n : Int) + 1).toNat = n + 1 from by omega]
          rw [part_f _ (by rw [ext_size]; omega), ext_l, Option.bind_some]
          have hp := partN_le (s.data.toList.drop (n + 1))
          rw [List.length_drop, tl_size] at hp
          by_cases hz : partN (s.data.toList.drop (n + 1)) = 0
          · rw [if_pos (show ((partN (s.data.toList.drop (n + 1)) : Nat) : Int) = 0 from by omega), if_neg (c := 0 < n ∧ n < s.data.toList.length ∧ s.data.toList.getD n 0 = 46 ∧ partN (s.data.toList.drop (n + 1)) ≠ 0) (fun h => h.2.2.2 hz)]
            exact name_end s n h1 hs
          · rw [if_neg (by omega), if_pos ⟨hn0, by rw [tl_size]; exact hn1, h46, hz⟩]
            rw [w64 (n := 1 + _) (by omega) (by omega), w64 (by omega) (by omega), show ((n : Int) + (1 + ((partN (s.data.toList.drop (n + 1)) : Nat) : Int))) = ((n + 1 + partN (s.data.toList.drop (n + 1)) : Nat) : Int) from by omega]
            exact ih _ k (by omega) (by omega) (by omega)
        · rw [if_neg (fun h => h46 h.2.2.1)]
          rw [hb, show (((s.data.toList.getD n 0).toNat : Int) == 46) = false from by
            rw [beq_eq_false_iff_ne]; intro e; exact h46 ((u8_int 46 (by omega)).1 e)]
          exact hj1 k
      · rw [if_neg (by omega), if_neg (fun h => hn1 (by have := h.2.1; rwa [tl_size] at this))]
        exact hj1 k
    · rw [if_neg (by omega), if_neg (fun h => hn0 h.1)]
      exact hj1 k
theorem name_f (s : ByteArray) (hs : s.size ≤ 4000000) : lexer_name.f (2 * (s.size + 1) + 1) s = some (nameR s.data.toList).tup := by
  unfold lexer_name.f nameR
  rw [part_f s hs, Option.bind_some, tl_size]
  exact name_l s hs _ _ _ (by have := partN_le s.data.toList; rwa [tl_size] at this) (by omega) (Nat.le_refl _)
def contB (l : List UInt8) : Bool := wordB ((l.headD 0).toNat : Int)
theorem continues_f (s : ByteArray) : lexer_continues.f s = some (contB s.data.toList) := by
  unfold lexer_continues.f
  rw [Lib.toList_data]
  cases hd : s.data.toList with
  | nil => rw [if_pos rfl]; rfl
  | cons c r =>
    have hsz : 0 < s.size := by rw [← tl_size, hd]; simp
    rw [if_neg (by simp), if_pos (by omega)]
    rw [show bt s 0 = (c.toNat : Int) from bt_nat (i := 0) (by simpa using hd), isLetter_f, Option.bind_some, isDigit_f, Option.bind_some]
    unfold contB wordB
    simp only [List.headD_cons]
    cases letB (c.toNat : Int) <;> simp
theorem prefix_f (s x : ByteArray) : strings_HasPrefix.f s x = some (x.data.toList.isPrefixOf s.data.toList) := by
  unfold strings_HasPrefix.f stringslite_HasPrefix.f
  by_cases h : (x.size : Int) ≤ s.size
  · rw [if_pos (by omega), if_pos (by omega), if_pos h, Option.bind_some, Int.toNat_natCast]
    have := Lib.occ_of_piece s x 0 (by omega)
    unfold Lib.occAt at this
    simp only [Nat.zero_add, List.drop_zero] at this
    rw [this]
  · rw [if_neg (by omega), Option.bind_some]
    congr 1
    symm
    rw [Bool.eq_false_iff]
    intro hp
    have := (List.isPrefixOf_iff_prefix.1 hp).length_le
    rw [tl_size, tl_size] at this
    omega
def unitsP : List (List UInt8 × Int) := [([109, 115], 8), ([100], 0), ([104], 2), ([109], 4), ([115], 6)]
def unitP (l : List UInt8) : List UInt8 × Int := (unitsP.find? (fun u => u.1.isPrefixOf l)).getD ([], -1)
theorem unit_f (s : ByteArray) (k : Nat) (hk : 6 ≤ k) : lexer_unit.f k s = some (⟨(unitP s.data.toList).1.toArray⟩, (unitP s.data.toList).2) := by
  obtain ⟨k, rfl⟩ : ∃ k', k = k' + 6 := ⟨k - 6, by omega⟩
  unfold lexer_unit.f
  rw [Option.bind_some]
  have hx : ∀ (c : List ByteArray) (i : Int), rdOf ByteArray.empty c i = c.getD i.toNat ByteArray.empty := fun _ _ => rfl
  have w1 : wrap64 (0 + 1) = 1 := by decide +kernel
  have w2 : wrap64 (1 + 1) = 2 := by decide +kernel
  have w3 : wrap64 (2 + 1) = 3 := by decide +kernel
  have w4 : wrap64 (3 + 1) = 4 := by decide +kernel
  have w5 : wrap64 (4 + 1) = 5 := by decide +kernel
  have i0 : strings_Index.f (⟨#[100, 32, 104, 32, 109, 32, 115, 32, 109, 115]⟩ : ByteArray) ⟨#[109, 115]⟩ = some 8 := by decide +kernel
  have i1 : strings_Index.f (⟨#[100, 32, 104, 32, 109, 32, 115, 32, 109, 115]⟩ : ByteArray) ⟨#[100]⟩ = some 0 := by decide +kernel
  have i2 : strings_Index.f (⟨#[100, 32, 104, 32, 109, 32, 115, 32, 109, 115]⟩ : ByteArray) ⟨#[104]⟩ = some 2 := by decide +kernel
  have i3 : strings_Index.f (⟨#[100, 32, 104, 32, 109, 32, 115, 32, 109, 115]⟩ : ByteArray) ⟨#[109]⟩ = some 4 := by decide +kernel
  have i4 : strings_Index.f (⟨#[100, 32, 104, 32, 109, 32, 115, 32, 109, 115]⟩ : ByteArray) ⟨#[115]⟩ = some 6 := by decide +kernel
  unfold unitP unitsP
  unfold lexer_unit.l0
  simp only [List.length_cons, List.length_nil, hx, prefix_f, Option.bind_some, List.find?_cons, List.find?_nil]
  rw [if_pos (by decide), if_pos (by decide), if_pos (by decide)]
  simp only [Int.toNat_zero, List.getD_cons_zero, i0, Option.bind_some, w1]
  cases hp0 : List.isPrefixOf [109, 115] s.data.toList
  · simp only [Bool.false_eq_true, if_false]
    unfold lexer_unit.l0
    simp only [List.length_cons, List.length_nil, hx, prefix_f, Option.bind_some]
    rw [if_pos (by decide), if_pos (by decide), if_pos (by decide)]
    simp only [show Int.toNat 1 = 1 from rfl, List.getD_cons_succ, List.getD_cons_zero, i1, Option.bind_some, w2]
    cases hp1 : List.isPrefixOf [100] s.data.toList
    · simp only [Bool.false_eq_true, if_false]
      unfold lexer_unit.l0
      simp only [List.length_cons, List.length_nil, hx, prefix_f, Option.bind_some]
      rw [if_pos (by decide), if_pos (by decide), if_pos (by decide)]
      simp only [show Int.toNat 2 = 2 from rfl, List.getD_cons_succ, List.getD_cons_zero, i2, Option.bind_some, w3]
      cases hp2 : List.isPrefixOf [104] s.data.toList
      · simp only [Bool.false_eq_true, if_false]
        unfold lexer_unit.l0
        simp only [List.length_cons, List.length_nil, hx, prefix_f, Option.bind_some]
        rw [if_pos (by decide), if_pos (by decide), if_pos (by decide)]
        simp only [show Int.toNat 3 = 3 from rfl, List.getD_cons_succ, List.getD_cons_zero, i3, Option.bind_some, w4]
        cases hp3 : List.isPrefixOf [109] s.data.toList
        · simp only [Bool.false_eq_true, if_false]
          unfold lexer_unit.l0
          simp only [List.length_cons, List.length_nil, hx, prefix_f, Option.bind_some]
          rw [if_pos (by decide), if_pos (by decide), if_pos (by decide)]
          simp only [show Int.toNat 4 = 4 from rfl, List.getD_cons_succ, List.getD_cons_zero, i4, Option.bind_some, w5]
          cases hp4 : List.isPrefixOf [115] s.data.toList
          · simp only [Bool.false_eq_true, if_false]
            unfold lexer_unit.l0
            rw [if_neg (by decide)]
            rfl
          · simp
        · simp
      · simp
    · simp
  · simp
theorem power_l (j : Nat) : ∀ (i k : Nat) (x : Nat), i ≤ 18 → 18 < i + j → j ≤ k → ∀ n : Nat, n ≤ 18 → i ≤ n → x = 10 ^ i → lexer_power.l0 k x n i = some ((10 ^ n : Nat) : Int) := by
  induction j with
  | zero => intro i k x h1 h2; omega
  | succ j ih =>
    intro i k x h1 h2 hk n hn hin hx
    obtain ⟨k, rfl⟩ : ∃ k', k = k' + 1 := ⟨k - 1, by omega⟩
    unfold lexer_power.l0
    by_cases h : i < n
    · rw [if_pos (by omega)]
      have hb : (10 : Nat) ^ (i + 1) ≤ 10 ^ 18 := Nat.pow_le_pow_right (by decide) (by omega)
      have hx2 : x * 10 = 10 ^ (i + 1) := by rw [hx, Nat.pow_succ]
      have h18 : (10 : Nat) ^ 18 = 1000000000000000000 := by decide
      rw [w64 (n := (x : Int) * 10) (by omega) (by omega), w64 (by omega) (by omega), show ((x : Int) * 10) = ((x * 10 : Nat) : Int) from by omega, show ((i : Int) + 1) = ((i + 1 : Nat) : Int) from by omega]
      exact ih (i + 1) k _ (by omega) (by omega) (by omega) n hn (by omega) hx2
    · rw [if_neg (by omega), hx, show i = n from by omega]
theorem power_f (n k : Nat) (hn : n ≤ 18) (hk : 19 ≤ k) : lexer_power.f k n = some ((10 ^ n : Nat) : Int) := power_l 19 0 k 1 (by omega) (by omega) hk n hn (by omega) rfl
def signsL : List (List UInt8) := [[61, 61], [33, 61], [60, 61], [62, 61], [61, 126], [33, 126], [38, 38], [124, 124], [62, 62], [124, 61], [124, 126], [45, 62], [61, 62], [40], [41], [123], [125], [91], [93], [44], [46], [58], [59], [43], [45], [42], [47], [37], [60], [62], [61], [33], [124], [38], [126], [64], [94], [63]]
def signF : List (List UInt8) → List UInt8 → Rd
  | [], _ => zRd 0 0
  | x :: xs, l => if x.isPrefixOf l then ⟨5, ⟨x.toArray⟩, 0, 0, 0, x.length, 0⟩ else signF xs l
def signR (l : List UInt8) : Rd := signF signsL l
theorem sign_l (s : ByteArray) : ∀ (j i k : Nat), i ≤ 38 → 38 < i + j → j ≤ k → lexer_sign.l0 k s (signsL.map fun l => (⟨l.toArray⟩ : ByteArray)) 38 i = some (signF (signsL.drop i) s.data.toList).tup := by
  intro j
  induction j with
  | zero => intro i k h1 h2; omega
  | succ j ih =>
    intro i k h1 h2 hk
    obtain ⟨k, rfl⟩ : ∃ k', k = k' + 1 := ⟨k - 1, by omega⟩
    unfold lexer_sign.l0
    by_cases h : i < 38
    · have hl : signsL.length = 38 := rfl
      rw [if_pos (by omega), if_pos (by omega), if_pos (by rw [List.length_map, hl]; omega)]
      have hd : signsL.drop i = signsL.getD i [] :: signsL.drop (i + 1) := by
        rw [List.drop_eq_getElem_cons (by omega), List.getD_eq_getElem?_getD, List.getElem?_eq_getElem (by omega)]; rfl
      have hr : rdOf ByteArray.empty (signsL.map fun l => (⟨l.toArray⟩ : ByteArray)) (i : Int) = ⟨(signsL.getD i []).toArray⟩ := by
        unfold rdOf
        rw [Int.toNat_natCast, List.getD_eq_getElem?_getD, List.getElem?_map, List.getD_eq_getElem?_getD, List.getElem?_eq_getElem (by omega)]; rfl
      rw [hr, prefix_f, Option.bind_some, hd]
      unfold signF
      simp only
      cases List.isPrefixOf (signsL.getD i []) s.data.toList
      · rw [if_neg (by decide), if_neg (by decide), w64 (by omega) (by omega), show ((i : Int) + 1) = ((i + 1 : Nat) : Int) from by omega]
        exact ih (i + 1) k (by omega) (by omega) (by omega)
      · rw [if_pos rfl, if_pos rfl]
        simp [Rd.tup, ByteArray.size]
    · rw [if_neg (by omega), show i = 38 from by omega]
      rfl
set_option maxRecDepth 100000 in
theorem sign_f (s : ByteArray) : lexer_sign.f 39 s = some (signR s.data.toList).tup := by
  unfold lexer_sign.f
  have hf : strings_Fields.f (⟨#[61, 61, 32, 33, 61, 32, 60, 61, 32, 62, 61, 32, 61, 126, 32, 33, 126, 32, 38, 38, 32, 124, 124, 32, 62, 62, 32, 124, 61, 32, 124, 126, 32, 45, 62, 32, 61, 62, 32, 40, 32, 41, 32, 123, 32, 125, 32, 91, 32, 93, 32, 44, 32, 46, 32, 58, 32, 59, 32, 43, 32, 45, 32, 42, 32, 47, 32, 37, 32, 60, 32, 62, 32, 61, 32, 33, 32, 124, 32, 38, 32, 126, 32, 64, 32, 94, 32, 63]⟩ : ByteArray) = some (signsL.map fun l => (⟨l.toArray⟩ : ByteArray)) := by
    decide +kernel
  rw [hf, Option.bind_some, List.length_map]
  exact sign_l s 39 0 39 (by omega) (by omega) (by omega)
end Go.Proofs.YteokilkcchdeiaaGreatDoor.X
end
section
namespace Go.Proofs.YteokilkcchdeiaaGreatDoor.X
open Go.RowKit Go.Shelf Go.Proofs.YteokilkcchdeiaaGreatDoor Go.Proofs.YteokilkcchdeiaaGreatDoorW.PrintWords Go.Proofs.YteokilkcchdeiaaGreatDoorW.PrintLast Go.Proofs.YteokilkcchdeiaaGreatDoorW.PrintMore Go.Proofs.YteokilkcchdeiaaGreatDoor.Q
set_option linter.unusedVariables false
theorem runN_take (p : Int → Bool) : ∀ (l : List UInt8), ∀ c ∈ l.take (runN p l), p (c.toNat : Int) = true
  | [] => by simp
  | b :: l => by
    unfold runN
    by_cases h : p (b.toNat : Int) = true
    · rw [if_pos h]
      intro c hc
      rw [List.take_succ_cons] at hc
      rcases List.mem_cons.1 hc with rfl | hc
      · exact h
      · exact runN_take p l c hc
    · rw [if_neg h]; simp
def allDig (l : List UInt8) : Prop := ∀ c ∈ l, digB (c.toNat : Int) = true
def numV (l : List UInt8) : Nat := (Lib.decFrom 0 l).getD 0
theorem decFrom_dig : ∀ (l : List UInt8) (acc : Nat), allDig l → ∃ v, Lib.decFrom acc l = some v
  | [], acc, _ => ⟨acc, rfl⟩
  | c :: l, acc, h => by
    have h1 := h c (by simp)
    simp only [digB, Bool.and_eq_true, decide_eq_true_eq] at h1
    obtain ⟨v, hv⟩ := decFrom_dig l (acc * 10 + (c.toNat - 48)) (fun d hd => h d (by simp [hd]))
    refine ⟨v, ?_⟩
    unfold Lib.decFrom Lib.digitVal
    rw [if_pos (by omega)]
    exact hv
theorem atoi_dig {l : List UInt8} (h : allDig l) (hn : l ≠ []) (h18 : l.length ≤ 18) : strconv_Atoi.f ⟨l.toArray⟩ = some ((numV l : Int), none) ∧ numV l < 1000000000000000000 := by
  obtain ⟨v, hv⟩ := decFrom_dig l 0 h
  have hnv : numV l = v := by unfold numV; rw [hv]; rfl
  have hlt := Lib.decFrom_lt18 hv h18
  refine ⟨?_, by omega⟩
  unfold strconv_Atoi.f
  rw [if_pos (by simpa [ByteArray.size] using h18)]
  have ha : Lib.atoi l = some (v : Int) := by
    cases l with
    | nil => exact absurd rfl hn
    | cons c r =>
      have h1 := h c (by simp)
      simp only [digB, Bool.and_eq_true, decide_eq_true_eq] at h1
      have n45 : (c == 45) = false := by rw [beq_eq_false_iff_ne]; rintro rfl; revert h1; decide
      have n43 : (c == 43) = false := by rw [beq_eq_false_iff_ne]; rintro rfl; revert h1; decide
      unfold Lib.atoi Lib.decNat
      simp only [n45, n43, Bool.false_eq_true, if_false, List.isEmpty_cons, hv, Option.map_some]
  simp only [ha, hnv]
def lenP (p : Int) : Int := if p = 0 then 86400000 else if p = 2 then 3600000 else if p = 4 then 60000 else if p = 6 then 1000 else 1
theorem unitP_cases (l : List UInt8) : unitP l = ([], -1) ∨ unitP l ∈ unitsP := by
  unfold unitP
  cases h : unitsP.find? (fun u => u.1.isPrefixOf l) with
  | none => exact .inl rfl
  | some u => exact .inr (List.mem_of_find?_eq_some h)
theorem unitP_len (l : List UInt8) (h : 0 ≤ (unitP l).2) : lexer_length.f ⟨(unitP l).1.toArray⟩ = some (lenP (unitP l).2) ∧ 1 ≤ lenP (unitP l).2 ∧ lenP (unitP l).2 ≤ 86400000 ∧ 1 ≤ (unitP l).1.length ∧ (unitP l).1.length ≤ 2 ∧ (unitP l).1.length ≤ l.length ∧ (unitP l).2 ≤ 8 := by
  have hp : unitP l = ([], -1) ∨ (unitP l).1.isPrefixOf l = true := by
    unfold unitP
    cases h : unitsP.find? (fun u => u.1.isPrefixOf l) with
    | none => exact .inl rfl
    | some u => exact .inr (by simpa using List.find?_some h)
  rcases unitP_cases l with h1 | h1
  · rw [h1] at h; exact absurd h (by decide)
  · have hlen : (unitP l).1.length ≤ l.length := by
      rcases hp with h2 | h2
      · rw [h2] at h; exact absurd h (by decide)
      · exact (List.isPrefixOf_iff_prefix.1 h2).length_le
    generalize unitP l = u at h h1 hlen ⊢
    clear hp
    unfold unitsP at h1
    simp only [List.mem_cons, List.not_mem_nil, or_false] at h1
    rcases h1 with rfl | rfl | rfl | rfl | rfl <;> exact ⟨by decide +kernel, by decide +kernel, by decide +kernel, by decide, by decide, hlen, by decide⟩
def sum1 (p : Int) (d v : Nat) (sum : Int) : Int := if 18 < d ∨ 1099511627776 / lenP p < (v : Int) then sum else sum + v * lenP p
def sumN (p : Int) (d v : Nat) (sum : Int) : Int := mn (sum1 p d v sum) 1099511627776
def farN (p : Int) (d v : Nat) (sum : Int) (far : Bool) : Bool := far || (decide (d ≤ 18) && decide (1099511627776 / lenP p < (v : Int))) || decide (1099511627776 < sum1 p d v sum)
def durEnd (l : List UInt8) (n : Nat) (sum : Int) (long wrong far : Bool) : Rd :=
  if long = true then zRd n 4 else if wrong = true ∨ contB (l.drop n) = true then zRd n 3 else if far = true then zRd n 2 else ⟨3, ⟨(l.take n).toArray⟩, sum, 1, 0, n, 0⟩
def durGo : Nat → List UInt8 → Nat → Int → Int → Bool → Bool → Bool → Rd
  | 0, _, _, _, _, _, _, _ => zRd 0 0
  | k + 1, l, n, sum, bef, long, wrong, far =>
    let d := runN digB (l.drop n)
    let u := unitP (l.drop (n + d))
    if d = 0 ∨ u.2 < 0 then durEnd l n sum long wrong far
    else
      let v := numV ((l.drop n).take d)
      durGo k l (n + (d + u.1.length)) (sumN u.2 d v sum) u.2 (long || decide (18 < d)) (wrong || decide (u.2 ≤ bef)) (farN u.2 d v sum far)
theorem durGo_succ (k : Nat) (l : List UInt8) (n d : Nat) (u : List UInt8 × Int) (sum bef : Int) (long wrong far : Bool) (hD : runN digB (l.drop n) = d) (hu : unitP (l.drop (n + d)) = u) :
    durGo (k + 1) l n sum bef long wrong far = (if d = 0 ∨ u.2 < 0 then durEnd l n sum long wrong far
    else durGo k l (n + (d + u.1.length)) (sumN u.2 d (numV ((l.drop n).take d)) sum) u.2 (long || decide (18 < d)) (wrong || decide (u.2 ≤ bef)) (farN u.2 d (numV ((l.drop n).take d)) sum far)) := by
  subst hD hu; rfl
def durR (l : List UInt8) : Rd := durGo (l.length + 1) l 0 0 (-1) false false false
theorem sum_long {p : Int} {d v : Nat} {sum : Int} (h : 18 < d) (hs : sum ≤ 1099511627776) (far : Bool) : sum1 p d v sum = sum ∧ farN p d v sum far = far := by
  have e : sum1 p d v sum = sum := if_pos (.inl h)
  refine ⟨e, ?_⟩
  unfold farN
  rw [e, show decide (d ≤ 18) = false from decide_eq_false (by omega), show decide (1099511627776 < sum) = false from decide_eq_false (by omega)]
  simp
theorem sum_bad {p : Int} {d v : Nat} {sum Q : Int} (hQ : 1099511627776 / lenP p = Q) (h : ¬ 18 < d) (hb : Q < (v : Int)) (far : Bool) : sum1 p d v sum = sum ∧ farN p d v sum far = true := by
  subst hQ
  refine ⟨if_pos (.inr hb), ?_⟩
  unfold farN
  rw [show decide (d ≤ 18) = true from decide_eq_true (by omega), show decide (1099511627776 / lenP p < (v : Int)) = true from decide_eq_true hb]
  simp
theorem sum_ok {p : Int} {d v : Nat} {sum Q : Int} (hQ : 1099511627776 / lenP p = Q) (h : ¬ 18 < d) (hb : ¬ Q < (v : Int)) (far : Bool) : sum1 p d v sum = sum + v * lenP p ∧ farN p d v sum far = (far || decide (1099511627776 < sum + v * lenP p)) := by
  subst hQ
  have e : sum1 p d v sum = sum + v * lenP p := if_neg (by rintro (h' | h'); exact h h'; exact hb h')
  refine ⟨e, ?_⟩
  unfold farN
  rw [e, show decide (1099511627776 / lenP p < (v : Int)) = false from decide_eq_false hb]
  simp
theorem quot_spec {L : Int} (h1 : 1 ≤ L) : ∃ Q, 1099511627776 / L = Q ∧ 0 ≤ Q ∧ Q ≤ 1099511627776 ∧ wrap64 (Int.tdiv 1099511627776 L) = Q ∧ ∀ v : Nat, (v : Int) ≤ Q → 0 ≤ (v : Int) * L ∧ (v : Int) * L ≤ 1099511627776 := by
  have hb0 : 0 ≤ 1099511627776 / L := Int.ediv_nonneg (by decide) (by omega)
  have hb1 : 1099511627776 / L ≤ 1099511627776 := Int.ediv_le_self _ (by decide)
  refine ⟨_, rfl, hb0, hb1, ?_, fun v hv => ⟨Int.mul_nonneg (by omega) (by omega), ?_⟩⟩
  · rw [Int.tdiv_eq_ediv_of_nonneg (by decide)]; exact w64 (by omega) (by omega)
  · have h2 := Int.mul_le_mul_of_nonneg_right hv (show 0 ≤ L by omega)
    have h3 := Int.ediv_mul_le 1099511627776 (show L ≠ 0 by omega)
    omega
theorem mn_bound {x : Int} (h : 0 ≤ x) : 0 ≤ mn x 1099511627776 ∧ mn x 1099511627776 ≤ 1099511627776 := by unfold mn; split <;> omega
theorem sumN_eq (p : Int) (d v : Nat) (sum X : Int) (h : X = sum1 p d v sum) : sumN p d v sum = mn X 1099511627776 := by subst h; rfl
attribute [local irreducible] lenP sum1 sumN farN mn numV unitP runN
set_option maxHeartbeats 1000000 in
theorem dur_l (s : ByteArray) (hs : s.size ≤ 4000000) : ∀ (j n k : Nat) (sum bef : Int) (long wrong far : Bool), n ≤ s.size → s.size < n + j → 2 * j + 8 ≤ k → 0 ≤ sum → sum ≤ 1099511627776 →
    lexer_duration.l0 k s n sum bef long wrong far = some (durGo j s.data.toList n sum bef long wrong far).tup := by
  intro j
  induction j with
  | zero => intro n k sum bef long wrong far h1 h2; omega
  | succ j ih =>
    intro n k sum bef long wrong far h1 h2 hk hs0 hs1
    obtain ⟨k, rfl⟩ : ∃ k', k = k' + 3 := ⟨k - 3, by omega⟩
    unfold lexer_duration.l0
    rw [if_pos (by omega), if_pos (by omega), Int.toNat_natCast]
    unfold lexer_run_isDigit.f
    rw [if_pos (by rw [ext_size]; omega), ext_l, Option.bind_some]
    have hd := runN_le digB (s.data.toList.drop n)
    rw [List.length_drop, tl_size] at hd
    have hall : allDig ((s.data.toList.drop n).take (runN digB (s.data.toList.drop n))) := runN_take digB _
    rw [durGo_succ _ _ _ _ _ _ _ _ _ _ rfl rfl]
    generalize hD : runN digB (s.data.toList.drop n) = d at hd hall ⊢
    rw [w64 (by omega) (by omega), if_pos (by omega), if_pos (by omega), show ((n : Int) + (d : Int)).toNat = n + d from by omega]
    rw [unit_f _ _ (by omega), ext_l, Option.bind_some]
    have hU := unitP_len (s.data.toList.drop (n + d))
    have hU2 := unitP_cases (s.data.toList.drop (n + d))
    simp only []
    generalize hu : unitP (s.data.toList.drop (n + d)) = u at hU hU2 ⊢
    rw [List.length_drop, tl_size] at hU
    have hstop : (d = 0 ∨ u.2 < 0) → ∀ k', lexer_duration.j1 (k' + 2) s n sum bef long wrong far d ⟨u.1.toArray⟩ u.2 true = some (durEnd s.data.toList n sum long wrong far).tup := by
      intro _ k'
      have hj2 : ∀ b : Bool, lexer_duration.j2 (k' + 1) s n sum far b = some ((if b = true then zRd n 3 else if far = true then zRd n 2 else ⟨3, ⟨(s.data.toList.take n).toArray⟩, sum, 1, 0, n, 0⟩ : Rd)).tup := by
        intro b
        cases b <;> cases far <;> simp [lexer_duration.j2, Rd.tup, zRd, h1, Lib.extract_upto]
      unfold durEnd
      cases long
      · cases wrong
        · have hc : lexer_continues.f (s.extract n s.size) = some (contB (s.data.toList.drop n)) := by rw [continues_f, ext_l]
          cases hcb : contB (s.data.toList.drop n) <;> rw [hcb] at hc <;> simp [lexer_duration.j1, h1, hc, hj2]
        · simp [lexer_duration.j1, hj2]
      · simp [lexer_duration.j1, Rd.tup, zRd]
    by_cases h0 : d = 0 ∨ u.2 < 0
    · rw [if_pos h0]
      have hrun := hstop h0 k
      by_cases hd0 : d = 0
      · rw [if_pos (by omega)]; exact hrun
      · rw [if_neg (by omega), show decide (u.2 < 0) = true from decide_eq_true (by omega)]; exact hrun
    · rw [if_neg h0]
      have hd0 : ¬ d = 0 := fun e => h0 (.inl e)
      have hu0 : 0 ≤ u.2 := by omega
      obtain ⟨hL, hL1, hL2, hl1, hl2, hl3, hp8⟩ := hU hu0
      rw [if_neg (by omega), show decide (u.2 < 0) = false from decide_eq_false (by omega)]
      have hus : ((⟨u.1.toArray⟩ : ByteArray).size : Int) = (u.1.length : Int) := by simp [ByteArray.size]
      unfold lexer_duration.j1
      rw [if_neg (by decide), hus]
      have hw1 : wrap64 ((n : Int) + wrap64 ((d : Int) + (u.1.length : Int))) = ((n + (d + u.1.length) : Nat) : Int) := by
        rw [w64 (n := (d : Int) + _) (by omega) (by omega), w64 (by omega) (by omega)]; omega
      rw [hw1]
      clear hw1 hus
      have hA : n + (d + u.1.length) ≤ s.size := by omega
      have hB : s.size < n + (d + u.1.length) + j := by omega
      have hgo : ∀ (X : Int) (b1 b2 b3 : Bool) (k' : Nat), 0 ≤ X → 2 * j + 8 ≤ k' → X = sum1 u.2 d (numV ((s.data.toList.drop n).take d)) sum → b1 = (long || decide (18 < d)) → b2 = (wrong || decide (u.2 ≤ bef)) → b3 = farN u.2 d (numV ((s.data.toList.drop n).take d)) sum far →
          lexer_duration.l0 k' s ((n + (d + u.1.length) : Nat) : Int) (mn X 1099511627776) u.2 b1 b2 b3 = some (durGo j s.data.toList (n + (d + u.1.length)) (sumN u.2 d (numV ((s.data.toList.drop n).take d)) sum) u.2 (long || decide (18 < d)) (wrong || decide (u.2 ≤ bef)) (farN u.2 d (numV ((s.data.toList.drop n).take d)) sum far)).tup := by
        intro X b1 b2 b3 k' h0' hk' hX hb1 hb2 hb3
        subst hb1 hb2 hb3
        rw [sumN_eq _ _ _ _ _ hX]
        exact ih _ _ _ _ _ _ _ hA hB hk' (mn_bound h0').1 (mn_bound h0').2
      generalize hR : some (durGo j s.data.toList (n + (d + u.1.length)) (sumN u.2 d (numV ((s.data.toList.drop n).take d)) sum) u.2 (long || decide (18 < d)) (wrong || decide (u.2 ≤ bef)) (farN u.2 d (numV ((s.data.toList.drop n).take d)) sum far)).tup = R at hgo ⊢
      clear hR
      by_cases h18 : 18 < d
      · rw [if_pos (show (d : Int) > 18 by omega)]
        obtain ⟨eS, eF⟩ := sum_long (p := u.2) (v := numV ((s.data.toList.drop n).take d)) h18 hs1 far
        rw [eS, eF] at hgo
        have e1 : true = (long || decide (18 < d)) := by rw [decide_eq_true h18, Bool.or_true]
        have e3 : decide (sum > 1099511627776) = false := decide_eq_false (by omega)
        rw [e3]
        cases wrong
        · rw [if_neg Bool.false_ne_true]
          cases far
          · rw [if_neg Bool.false_ne_true]; exact hgo _ _ _ _ _ hs0 (by omega) rfl e1 (Bool.false_or _).symm rfl
          · rw [if_pos rfl]; exact hgo _ _ _ _ _ hs0 (by omega) rfl e1 (Bool.false_or _).symm rfl
        · rw [if_pos rfl]
          cases far
          · rw [if_neg Bool.false_ne_true]; exact hgo _ _ _ _ _ hs0 (by omega) rfl e1 rfl rfl
          · rw [if_pos rfl]; exact hgo _ _ _ _ _ hs0 (by omega) rfl e1 rfl rfl
      · rw [if_neg (show ¬ (d : Int) > 18 by omega)]
        have e1 : long = (long || decide (18 < d)) := by rw [decide_eq_false h18, Bool.or_false]
        rw [if_pos (show (0 : Int) ≤ (n : Int) by omega), w64 (n := (n : Int) + (d : Int)) (by omega) (by omega), if_pos (show (n : Int) ≤ (n : Int) + (d : Int) by omega), if_pos (show (n : Int) + (d : Int) ≤ (s.size : Int) by omega), Int.toNat_natCast, show ((n : Int) + (d : Int)).toNat = n + d from by omega]
        have hx : s.extract n (n + d) = ⟨((s.data.toList.drop n).take d).toArray⟩ := by
          apply ByteArray.ext; apply Array.ext'
          simp [List.take_drop]
        have hlen : ((s.data.toList.drop n).take d).length = d := by rw [List.length_take, List.length_drop, tl_size]; omega
        obtain ⟨ha, hv⟩ := atoi_dig hall (by intro e; rw [e] at hlen; simp at hlen; omega) (by omega)
        rw [hx, ha, Option.bind_some]
        simp only [Option.isNone_none, if_true, hL, Option.bind_some]
        rw [if_neg (show ¬ lenP u.2 = 0 by omega)]
        obtain ⟨Q, hQ, hQ0, hQ1, hQw, hQp⟩ := quot_spec hL1
        rw [hQw]
        generalize numV ((s.data.toList.drop n).take d) = v at hv hgo ⊢
        by_cases hbad : Q < (v : Int)
        · obtain ⟨eS, eF⟩ := sum_bad (sum := sum) hQ h18 hbad far
          rw [eS, eF] at hgo
          rw [if_pos (show (v : Int) > Q from hbad)]
          cases wrong
          · rw [if_neg Bool.false_ne_true]; exact hgo _ _ _ _ _ hs0 (by omega) rfl e1 (Bool.false_or _).symm rfl
          · rw [if_pos rfl]; exact hgo _ _ _ _ _ hs0 (by omega) rfl e1 rfl rfl
        · obtain ⟨eS, eF⟩ := sum_ok (sum := sum) hQ h18 hbad far
          rw [eS, eF] at hgo
          rw [if_neg (show ¬ (v : Int) > Q from hbad)]
          obtain ⟨hp0, hp1⟩ := hQp v (by omega)
          generalize (v : Int) * lenP u.2 = pr at hp1 hp0 hgo ⊢
          rw [w64 (n := pr) (by omega) (by omega), w64 (n := sum + pr) (by omega) (by omega)]
          cases wrong
          · rw [if_neg Bool.false_ne_true]
            cases far
            · rw [if_neg Bool.false_ne_true]; exact hgo _ _ _ _ _ (by omega) (by omega) rfl e1 (Bool.false_or _).symm (Bool.false_or _).symm
            · rw [if_pos rfl]; exact hgo _ _ _ _ _ (by omega) (by omega) rfl e1 (Bool.false_or _).symm rfl
          · rw [if_pos rfl]
            cases far
            · rw [if_neg Bool.false_ne_true]; exact hgo _ _ _ _ _ (by omega) (by omega) rfl e1 rfl (Bool.false_or _).symm
            · rw [if_pos rfl]; exact hgo _ _ _ _ _ (by omega) (by omega) rfl e1 rfl rfl
theorem dur_f (s : ByteArray) (hs : s.size ≤ 4000000) : lexer_duration.f (2 * (s.size + 1) + 8) s = some (durR s.data.toList).tup := by
  unfold lexer_duration.f durR
  rw [tl_size]
  exact dur_l s hs (s.size + 1) 0 _ 0 (-1) false false false (by omega) (by omega) (by omega) (by omega) (by omega)
end Go.Proofs.YteokilkcchdeiaaGreatDoor.X
end
section
namespace Go.Proofs.YteokilkcchdeiaaGreatDoor.X
open Go.RowKit Go.Shelf Go.Proofs.YteokilkcchdeiaaGreatDoor Go.Proofs.YteokilkcchdeiaaGreatDoorW.PrintWords Go.Proofs.YteokilkcchdeiaaGreatDoorW.PrintLast Go.Proofs.YteokilkcchdeiaaGreatDoorW.PrintMore Go.Proofs.YteokilkcchdeiaaGreatDoor.Q
set_option linter.unusedVariables false
def rm46 : List UInt8 → List UInt8
  | [] => []
  | c :: l => if c = 46 then l else c :: rm46 l
theorem rm46_index : ∀ l : List UInt8, (Lib.index l [46] = -1 → rm46 l = l) ∧ (0 ≤ Lib.index l [46] → rm46 l = l.take (Lib.index l [46]).toNat ++ l.drop ((Lib.index l [46]).toNat + 1))
  | [] => by simp [Lib.index, rm46]
  | c :: l => by
    obtain ⟨h1, h2⟩ := rm46_index l
    have hge := Lib.index_ge l [46]
    by_cases hc : c = 46
    · subst hc
      have e : Lib.index (46 :: l) [46] = 0 := by simp [Lib.index]
      rw [e]
      exact ⟨fun h => absurd h (by decide), fun _ => by simp [rm46]⟩
    · have hb : rm46 (c :: l) = c :: rm46 l := by simp [rm46, hc]
      have hp : List.isPrefixOf [46] (c :: l) = false := by simp [List.isPrefixOf]; intro h; exact hc h.symm
      by_cases hi : Lib.index l [46] = -1
      · have e : Lib.index (c :: l) [46] = -1 := by simp [Lib.index, hp, hi]
        rw [e, hb]
        exact ⟨fun _ => by rw [h1 hi], fun h => absurd h (by decide)⟩
      · have e : Lib.index (c :: l) [46] = Lib.index l [46] + 1 := by simp [Lib.index, hp, hi]
        have e2 : (Lib.index l [46] + 1).toNat = (Lib.index l [46]).toNat + 1 := by omega
        rw [e, hb, e2]
        exact ⟨fun h => absurd h (by omega), fun _ => by rw [h2 (by omega)]; simp⟩
theorem replace_rm (l : List UInt8) : Lib.replace l [46] [] 1 = rm46 l := by
  obtain ⟨h1, h2⟩ := rm46_index l
  have hge := Lib.index_ge l [46]
  unfold Lib.replace
  rw [if_neg (by decide)]
  unfold Lib.replaceNum
  by_cases hi : Lib.index l [46] = -1
  · rw [h1 hi]
    have hc := Lib.count_miss hi
    rw [hc, if_pos (.inr (by decide))]
    rfl
  · obtain ⟨i, hi2⟩ : ∃ i : Nat, Lib.index l [46] = i := ⟨(Lib.index l [46]).toNat, by omega⟩
    have hc := Lib.count_hit (s := l) (sub := [46]) (by decide) hi2
    rw [if_neg (by rintro (h | h) <;> omega), show Int.toNat 1 = 0 + 1 from rfl, Lib.replaceK_hit _ _ _ _ _ hi2, h2 (by omega), hi2]
    simp [Lib.replaceK]
theorem rm46_no : ∀ l : List UInt8, (∀ c ∈ l, c ≠ 46) → rm46 l = l
  | [], _ => rfl
  | c :: l, h => by unfold rm46; rw [if_neg (h c (by simp)), rm46_no l (fun d hd => h d (by simp [hd]))]
theorem rm46_at : ∀ (a b : List UInt8), (∀ c ∈ a, c ≠ 46) → rm46 (a ++ 46 :: b) = a ++ b
  | [], b, _ => by simp [rm46]
  | c :: a, b, h => by
    rw [List.cons_append]; unfold rm46; rw [if_neg (h c (by simp)), rm46_at a b (fun d hd => h d (by simp [hd]))]; rfl
theorem dig_ne46 {l : List UInt8} (h : allDig l) : ∀ c ∈ l, c ≠ 46 := by
  intro c hc e; subst e
  have := h 46 hc
  revert this; decide
def numDigs (l : List UInt8) (w p : Nat) : List UInt8 := l.take w ++ (l.drop (w + 1)).take p
def numEnd (l : List UInt8) (n p : Nat) (ds : List UInt8) : Rd :=
  if contB (l.drop n) = true then zRd n 3 else ⟨2, ⟨(l.take n).toArray⟩, (numV ds : Int) / G (numV ds) ((10 ^ p : Nat) : Int), ((10 ^ p : Nat) : Int) / G (numV ds) ((10 ^ p : Nat) : Int), 0, n, 0⟩
def numR (l : List UInt8) : Rd :=
  let w := runN digB l
  if w = 0 then zRd 0 0
  else if l.getD w 0 = 46 then
    let p := runN digB (l.drop (w + 1))
    if 18 < w + p then zRd w 4 else if p = 0 then zRd w 3 else numEnd l (w + 1 + p) p (numDigs l w p)
  else if 18 < w then zRd w 4 else numEnd l w 0 (l.take w)
attribute [local irreducible] numV runN G
theorem num_j3 (s : ByteArray) (hs : s.size ≤ 4000000) (n p k : Nat) (ds : List UInt8) (hn : n ≤ s.size) (hrm : rm46 (s.data.toList.take n) = ds) (hd : allDig ds) (hne : ds ≠ []) (h18 : ds.length ≤ 18) (hp : p ≤ 18) (hk : 20 ≤ k) :
    lexer_number.j3 k s n p = some (numEnd s.data.toList n p ds).tup := by
  obtain ⟨k, rfl⟩ : ∃ k', k = k' + 1 := ⟨k - 1, by omega⟩
  obtain ⟨ha, hv⟩ := atoi_dig hd hne h18
  unfold lexer_number.j3
  dsimp only
  rw [if_pos (by omega), if_pos (by omega), Int.toNat_natCast, continues_f, Option.bind_some, ext_l]
  unfold numEnd
  cases contB (s.data.toList.drop n)
  · rw [if_neg Bool.false_ne_true, if_neg Bool.false_ne_true, Lib.extract_upto]
    have hr : strings_Replace.f ⟨(s.data.toList.take n).toArray⟩ (⟨#[46]⟩ : ByteArray) (⟨#[]⟩ : ByteArray) 1 = some ⟨ds.toArray⟩ := by
      unfold strings_Replace.f
      have hz : (⟨(s.data.toList.take n).toArray⟩ : ByteArray).size = n := by
        rw [← tl_size]; show (s.data.toList.take n).length = n; rw [List.length_take, tl_size]; omega
      have hz0 : (⟨#[]⟩ : ByteArray).size = 0 := rfl
      rw [if_pos ⟨by omega, by decide, by rw [hz0, Nat.mul_zero]; omega⟩]
      rw [show (⟨(s.data.toList.take n).toArray⟩ : ByteArray).data.toList = s.data.toList.take n from rfl]
      rw [show (⟨#[46]⟩ : ByteArray).data.toList = [46] from rfl, show (⟨#[]⟩ : ByteArray).data.toList = [] from rfl, replace_rm, hrm]
    have h10 : (10 : Nat) ^ p ≤ 10 ^ 18 := Nat.pow_le_pow_right (by decide) hp
    have h1018 : (10 : Nat) ^ 18 = 1000000000000000000 := by decide
    have h101 : 1 ≤ (10 : Nat) ^ p := Nat.pos_of_ne_zero (by simp)
    rw [hr, Option.bind_some, ha, Option.bind_some]
    simp only [Option.isNone_none, if_true]
    rw [power_f p k hp (by omega), Option.bind_some]
    unfold ratio_Make.f
    rw [if_pos ⟨by omega, by omega, by omega, by omega⟩, Option.bind_some]
    simp [Rd.tup]
  · rw [if_pos rfl, if_pos rfl]; rfl
theorem getD_end (l : List UInt8) (w : Nat) (h : l.length ≤ w) : l.getD w 0 = 0 := by
  rw [List.getD_eq_getElem?_getD, List.getElem?_eq_none h]; rfl
theorem num_f (s : ByteArray) (hs : s.size ≤ 4000000) (k : Nat) : lexer_number.f (k + 23) s = some (numR s.data.toList).tup := by
  unfold lexer_number.f lexer_run_isDigit.f
  rw [if_pos (by omega), Option.bind_some]
  have hw := runN_le digB s.data.toList
  rw [tl_size] at hw
  have hall : allDig (s.data.toList.take (runN digB s.data.toList)) := runN_take digB _
  unfold numR
  simp only []
  generalize runN digB s.data.toList = w at hw hall ⊢
  by_cases h0 : w = 0
  · rw [if_pos (show (w : Int) = 0 by omega), if_pos h0]; rfl
  · rw [if_neg (show ¬ (w : Int) = 0 by omega), if_neg h0]
    have hlw : (s.data.toList.take w).length = w := by rw [List.length_take, tl_size]; omega
    have hnw : s.data.toList.take w ≠ [] := by intro e; rw [e] at hlw; simp at hlw; omega
    have hno : ¬ s.data.toList.getD w 0 = 46 → lexer_number.j0 (k + 23) s w w 0 false = some (if 18 < w then zRd w 4 else numEnd s.data.toList w 0 (s.data.toList.take w)).tup := by
      intro h46
      unfold lexer_number.j0
      dsimp only
      rw [if_neg Bool.false_ne_true]
      unfold lexer_number.j1
      dsimp only
      rw [Int.add_zero, w64 (by omega) (by omega)]
      by_cases h18 : 18 < w
      · rw [if_pos (show (w : Int) > 18 by omega), if_pos h18]; rfl
      · rw [if_neg (show ¬ (w : Int) > 18 by omega), if_neg h18, if_neg Bool.false_ne_true]
        unfold lexer_number.j2
        dsimp only
        rw [if_neg Bool.false_ne_true, if_neg Bool.false_ne_true]
        exact num_j3 s hs w 0 (k + 20) _ hw (rm46_no _ (dig_ne46 hall)) hall hnw (by omega) (by omega) (by omega)
    by_cases hws : w < s.size
    · rw [if_pos (show (w : Int) < s.size by omega), if_pos (show (0 : Int) ≤ w by omega), bt_get s w hws]
      by_cases h46 : s.data.toList.getD w 0 = 46
      · rw [if_pos h46, show (((s.data.toList.getD w 0).toNat : Int) == 46) = true from by rw [h46]; rfl]
        unfold lexer_number.j0
        dsimp only
        rw [if_pos rfl, w64 (n := (w : Int) + 1) (by omega) (by omega), if_pos (show (0 : Int) ≤ (w : Int) + 1 by omega), if_pos (show (w : Int) + 1 ≤ s.size by omega), show ((w : Int) + 1).toNat = w + 1 from by omega]
        unfold lexer_run_isDigit.f
        rw [if_pos (by rw [ext_size]; omega), Option.bind_some, ext_l]
        have hp := runN_le digB (s.data.toList.drop (w + 1))
        rw [List.length_drop, tl_size] at hp
        have hall2 : allDig ((s.data.toList.drop (w + 1)).take (runN digB (s.data.toList.drop (w + 1)))) := runN_take digB _
        generalize runN digB (s.data.toList.drop (w + 1)) = p at hp hall2 ⊢
        unfold lexer_number.j1
        dsimp only
        rw [w64 (n := (w : Int) + p) (by omega) (by omega)]
        by_cases h18 : 18 < w + p
        · rw [if_pos (show (w : Int) + p > 18 by omega), if_pos h18]; rfl
        · rw [if_neg (show ¬ (w : Int) + p > 18 by omega), if_neg h18, if_pos rfl]
          unfold lexer_number.j2
          dsimp only
          by_cases hp0 : p = 0
          · rw [if_pos (show ((p : Int) == 0) = true by simp [hp0]), if_pos hp0]; rfl
          · rw [if_neg (show ¬ ((p : Int) == 0) = true by simp [hp0]), if_neg hp0, if_pos rfl]
            rw [w64 (n := (1 : Int) + p) (by omega) (by omega), w64 (n := (w : Int) + (1 + (p : Int))) (by omega) (by omega), show (w : Int) + (1 + (p : Int)) = ((w + 1 + p : Nat) : Int) from by omega]
            have hsplit : s.data.toList.take (w + 1 + p) = s.data.toList.take w ++ 46 :: (s.data.toList.drop (w + 1)).take p := by
              have e1 : s.data.toList.drop w = 46 :: s.data.toList.drop (w + 1) := by
                rw [List.drop_eq_getElem_cons (by rw [tl_size]; exact hws)]
                congr 1
                rw [← h46, List.getD_eq_getElem?_getD, List.getElem?_eq_getElem (by rw [tl_size]; exact hws)]; rfl
              rw [show w + 1 + p = w + (p + 1) from by omega, List.take_add, e1, List.take_succ_cons]
            have hdl : (numDigs s.data.toList w p).length ≤ 18 := by
              unfold numDigs; rw [List.length_append, hlw, List.length_take]; omega
            refine num_j3 s hs (w + 1 + p) p (k + 20) (numDigs s.data.toList w p) (by omega) ?_ ?_ ?_ hdl (by omega) (by omega)
            · rw [hsplit, rm46_at _ _ (dig_ne46 hall)]; rfl
            · intro c hc
              rcases List.mem_append.1 hc with hc | hc
              · exact hall c hc
              · exact hall2 c hc
            · unfold numDigs; simp [hnw]
      · rw [if_neg h46, show (((s.data.toList.getD w 0).toNat : Int) == 46) = false from by rw [beq_eq_false_iff_ne]; intro e; exact h46 ((u8_int 46 (by omega)).1 e)]
        exact hno h46
    · have h46 : ¬ s.data.toList.getD w 0 = 46 := by rw [getD_end _ _ (by rw [tl_size]; omega)]; decide
      rw [if_neg (show ¬ (w : Int) < s.size by omega), if_neg h46]
      exact hno h46
theorem textGo_size : ∀ (l : List UInt8) (i : Int) (acc : List UInt8), (textGo l i acc).2.2 = 0 → i < (textGo l i acc).2.1 ∧ (textGo l i acc).2.1 ≤ i + l.length
  | [], i, acc => by simp [textGo]
  | [c], i, acc => by
    unfold textGo
    split
    · intro _; simp; omega
    · split
      · intro h; cases h
      · split <;> intro h <;> cases h
  | c :: d :: l, i, acc => by
    unfold textGo
    split
    · intro _; simp; omega
    · split
      · intro h; cases h
      · split
        · split
          · intro h; have := textGo_size l _ _ h; simp only [List.length_cons]; omega
          · split
            · intro h; have := textGo_size l _ _ h; simp only [List.length_cons]; omega
            · intro h; cases h
        · intro h; have := textGo_size (d :: l) _ _ h; simp only [List.length_cons] at this ⊢; omega
def rdOf7 (t : Int × ByteArray × Int × Int × Int × Int × Int) : Rd := ⟨t.1, t.2.1, t.2.2.1, t.2.2.2.1, t.2.2.2.2.1, t.2.2.2.2.2.1, t.2.2.2.2.2.2⟩
def textRd (l : List UInt8) : Rd := if l.headD 0 = 34 then rdOf7 (textR (textGo (l.drop 1) 1 [])) else zRd 0 0
theorem text_f (s : ByteArray) (hs : s.size ≤ 4000000) : lexer_text.f s = some (textRd s.data.toList).tup := by
  unfold lexer_text.f textRd
  rw [if_pos (by omega)]
  split <;> rfl
end Go.Proofs.YteokilkcchdeiaaGreatDoor.X
end
section
namespace Go.Proofs.YteokilkcchdeiaaGreatDoor.X
open Go.RowKit Go.Shelf Go.Proofs.YteokilkcchdeiaaGreatDoor Go.Proofs.YteokilkcchdeiaaGreatDoorW.PrintWords Go.Proofs.YteokilkcchdeiaaGreatDoorW.PrintLast Go.Proofs.YteokilkcchdeiaaGreatDoorW.PrintMore Go.Proofs.YteokilkcchdeiaaGreatDoor.Q
set_option linter.unusedVariables false
theorem durGo_size (l : List UInt8) : ∀ (k n : Nat) (sum bef : Int) (a b c : Bool), n ≤ l.length → 0 ≤ (durGo k l n sum bef a b c).size ∧ (durGo k l n sum bef a b c).size ≤ l.length
  | 0, n, sum, bef, a, b, c, h => by simp [durGo, zRd]
  | k + 1, n, sum, bef, a, b, c, h => by
    rw [durGo_succ _ _ _ _ _ _ _ _ _ _ rfl rfl]
    have hd := runN_le digB (l.drop n)
    rw [List.length_drop] at hd
    split
    · unfold durEnd
      repeat' split
      all_goals simp [zRd]; omega
    · rename_i hc
      have hu := unitP_len (l.drop (n + runN digB (l.drop n))) (by omega)
      rw [List.length_drop] at hu
      exact durGo_size l k _ _ _ _ _ _ (by omega)
theorem nameR_size (l : List UInt8) : (nameR l).size ≤ l.length := by
  have h := nameN_le l (l.length + 1) (partN l) (partN_le l)
  unfold nameR nameF
  split <;> simp [zRd] <;> omega
theorem numEnd_size (l : List UInt8) (n p : Nat) (ds : List UInt8) : (numEnd l n p ds).size = n := by
  unfold numEnd; split <;> rfl
theorem numR_size (l : List UInt8) : (numR l).size ≤ l.length := by
  have hw := runN_le digB l
  unfold numR
  simp only []
  split
  · simp [zRd]
  · split
    · rename_i h46
      have hlt : runN digB l < l.length := by
        by_cases hlt : runN digB l < l.length
        · exact hlt
        · rw [getD_end _ _ (by omega)] at h46; exact absurd h46 (by decide)
      have hp := runN_le digB (l.drop (runN digB l + 1))
      rw [List.length_drop] at hp
      split
      · simp [zRd]; omega
      · split
        · simp [zRd]; omega
        · rw [numEnd_size]; omega
    · split
      · simp [zRd]; omega
      · rw [numEnd_size]; omega
theorem signF_size : ∀ (xs : List (List UInt8)) (l : List UInt8), (signF xs l).size ≤ l.length
  | [], l => by simp [signF, zRd]
  | x :: xs, l => by
    unfold signF
    split
    · rename_i h
      have := (List.isPrefixOf_iff_prefix.1 h).length_le
      simp; omega
    · exact signF_size xs l
theorem textRd_size (l : List UInt8) (h : l ≠ []) (he : (textRd l).err = 0) : (textRd l).size ≤ l.length := by
  have hl : 0 < l.length := List.length_pos_iff.2 h
  unfold textRd at he ⊢
  split
  · rename_i h34
    rw [if_pos h34] at he
    have := textGo_size (l.drop 1) 1 []
    rw [List.length_drop] at this
    revert he this
    generalize textGo (l.drop 1) 1 [] = t
    obtain ⟨t1, t2, t3⟩ := t
    intro he this
    unfold textR rdOf7 at he ⊢
    simp only at he ⊢ this
    split at he
    · rename_i h3
      rw [if_pos h3]
      have := this h3
      simp only; omega
    · rename_i h3; exact absurd he h3
  · simp [zRd]
def F0 (l : List UInt8) : Rd := firstOf (nameR l) (durR l) (numR l) (textRd l) (signR l)
theorem pick_err {r : Rd} (h : (pick r).err = 0) : pick r = r ∧ r.err = 0 := by
  unfold pick at h ⊢
  split
  · rename_i h0; exact ⟨rfl, h0⟩
  · rename_i h0; rw [if_neg h0] at h; exact absurd h h0
theorem F0_size (l : List UInt8) (hl : l ≠ []) (he : (F0 l).err = 0) : 0 < (F0 l).size ∧ (F0 l).size ≤ l.length := by
  unfold F0 firstOf at he ⊢
  have h0 := nameR_size l
  have h1 := durGo_size l (l.length + 1) 0 0 (-1) false false false (by omega)
  have h2 := numR_size l
  have h4 := signF_size signsL l
  split at he
  · rename_i c0
    rw [if_pos c0]
    obtain ⟨e, _⟩ := pick_err he
    rw [e]; exact ⟨c0, h0⟩
  · rename_i c0
    rw [if_neg c0]
    split at he
    · rename_i c1
      rw [if_pos c1]
      obtain ⟨e, _⟩ := pick_err he
      rw [e]; exact ⟨c1, h1.2⟩
    · rename_i c1
      rw [if_neg c1]
      split at he
      · rename_i c2
        rw [if_pos c2]
        obtain ⟨e, _⟩ := pick_err he
        rw [e]; exact ⟨c2, h2⟩
      · rename_i c2
        rw [if_neg c2]
        split at he
        · rename_i c3
          rw [if_pos c3]
          obtain ⟨e, e0⟩ := pick_err he
          rw [e]; exact ⟨c3, textRd_size l hl e0⟩
        · rename_i c3
          rw [if_neg c3]
          split at he
          · rename_i c4
            rw [if_pos c4]
            obtain ⟨e, _⟩ := pick_err he
            rw [e]; exact ⟨c4, h4⟩
          · exact absurd he (by decide)
def X0 : Lex where
  F := F0
  B := blankG false
  hB := blankG_le false
  hF := fun l hl _ he => F0_size l hl he
  reads := fun s hs h0 => ⟨nameR s.data.toList, durR s.data.toList, numR s.data.toList, textRd s.data.toList, signR s.data.toList,
    fun W hT => lexer_name.calls _ s _ _ _ _ _ _ _ W (name_f s (by omega)),
    fun W hT => lexer_duration.calls _ s _ _ _ _ _ _ _ W hT (dur_f s (by omega)),
    fun W hT => lexer_number.calls _ s _ _ _ _ _ _ _ W hT (num_f s (by omega) 0),
    fun W hT => lexer_text.calls s _ _ _ _ _ _ _ W (text_f s (by omega)),
    fun W hT => lexer_sign.calls _ s _ _ _ _ _ _ _ W hT (sign_f s), rfl⟩
  blanks := fun s i hs hi w => lexer_blank.calls _ s i _ w (blank_f s (by omega) _ i _ (Nat.le_refl _) hi (Nat.le_refl _))
def lexer_Tokens.f (s : ByteArray) : Option (List S29 × Int × Int) := some (tokensOf X0 s)
theorem lexer_Tokens.calls (a0 : ByteArray) (r1 : List S29) (r2 r3 : Int) (w : World) (hT : Tabs w) (h : lexer_Tokens.f a0 = some (r1, r2, r3)) :
    Calls Tryz.prog 17 #[.string a0] w fun e w' => ∃ v0_ : Value, e = .returned (.tuple #[v0_, .int .i64 r2, .int .i64 r3]) ∧ Kd.R k29 29 w' w.heap.size (fun _ => True) v0_ r1 ∧ Below w.heap.size w w' := by
  have h1 : tokensOf X0 a0 = (r1, r2, r3) := Option.some.inj h
  by_cases hs : a0.size ≤ 4000
  · have := callsIn_wide.1 (tokens_in X0 a0 hs w hT)
    rw [h1] at this
    exact this
  · refine (tokens_long a0 (by omega) w).mono ?_
    rintro e w' ⟨rfl, hb⟩
    unfold tokensOf at h1
    rw [if_pos (by omega)] at h1
    obtain ⟨rfl, rfl, rfl⟩ : [] = r1 ∧ (0 : Int) = r2 ∧ (4 : Int) = r3 := by simpa using h1
    exact ⟨_, rfl, row_R (World.ownsRow_nil _ _ _ _), hb⟩
end Go.Proofs.YteokilkcchdeiaaGreatDoor.X
end
section
namespace Go.Proofs.YteokilkcchdeiaaGreatDoor.Q
open Go.RowKit Go.Proofs.YteokilkcchdeiaaGreatDoorW.PrintWords Go.Proofs.YteokilkcchdeiaaGreatDoorW.PrintLast Go.Proofs.YteokilkcchdeiaaGreatDoorW.PrintMore
attribute [local go_sem] max2_int min2_int max_two min_two max_three min_three max_four min_four   -- for this text's walks alone
set_option linter.unusedVariables false
set_option linter.unusedSimpArgs false
theorem eqA27 (d : Nat) (w : World) (x0 y0 : Int) (x1 y1 : Int) :
    (Op.equalIn (d + 2) 27 (.agg #[.int .i64 x0, .int .i64 x1]) (.agg #[.int .i64 y0, .int .i64 y1])).run Tryz.prog w = .ok (x0 == y0 && (x1 == y1)) w := by
  refine eqA_of Tryz.underlying27 (by kernel_rfl) ?_
  refine eqf_cons (by rfl) (by go_simp; rfl) (by go_simp; rfl) (by go_simp) ?_
  exact eqf_last (by rfl) (by go_simp; rfl) (by go_simp; rfl) (by go_simp)
theorem eqA29 (d : Nat) (w : World) (x0 y0 : Int) (x1 y1 : ByteArray) (x2 y2 : Int) (x3 y3 : Int) (x4 y4 : Int) :
    (Op.equalIn (d + 3) 29 (.agg #[.int .i64 x0, .string x1, .int .i64 x2, .int .i64 x3, .int .i64 x4]) (.agg #[.int .i64 y0, .string y1, .int .i64 y2, .int .i64 y3, .int .i64 y4])).run Tryz.prog w = .ok (x0 == y0 && (x1.toList == y1.toList && ((x2 == y2 && (x3 == y3)) && (x4 == y4)))) w := by
  refine eqA_of Tryz.underlying29 (by kernel_rfl) ?_
  refine eqf_cons (by rfl) (by go_simp; rfl) (by go_simp; rfl) (by go_simp) ?_
  refine eqf_cons (by rfl) (by go_simp; rfl) (by go_simp; rfl) (by go_simp) ?_
  refine eqf_cons (by rfl) (by go_simp) (by go_simp) (eqA27 (d + 0) w _ _ _ _) ?_
  exact eqf_last (by rfl) (by go_simp; rfl) (by go_simp; rfl) (by go_simp)
end Go.Proofs.YteokilkcchdeiaaGreatDoor.Q
end
section
namespace Go.Proofs.YteokilkcchdeiaaGreatDoor.Q
open Go.RowKit Go.Proofs.YteokilkcchdeiaaGreatDoorW.PrintWords Go.Proofs.YteokilkcchdeiaaGreatDoorW.PrintLast Go.Proofs.YteokilkcchdeiaaGreatDoorW.PrintMore
attribute [local go_sem] max2_int min2_int max_two min_two max_three min_three max_four min_four   -- for this text's walks alone
set_option linter.unusedVariables false
set_option linter.unusedSimpArgs false
mutual
def ratio_Check.j0 : Nat → Bool → Int → Int → Option (Int)
  | 0, _, _, _ => none
  | k + 1, x3, x102000, x102001 => if x3 = true then (some 1) else (if x102000 < (-1152921504606846976) then (ratio_Check.j1 k true x102000 x102001) else (ratio_Check.j1 k (decide (x102000 > 1152921504606846976)) x102000 x102001))
def ratio_Check.j1 : Nat → Bool → Int → Int → Option (Int)
  | 0, _, _, _ => none
  | k + 1, x12, x102000, x102001 => if x12 = true then (some 1) else ((ratio_magnitude.f x102000).bind fun t102 => ((ratio_divisor.f k t102 (IntKind.u64.wrap (x102001))).bind fun t103 => (if t103 = 1 then (some 0) else (some 1))))
end
def ratio_Check.f (k : Nat) (a0_0 : Int) (a0_1 : Int) : Option (Int) := if a0_1 < 1 then (ratio_Check.j0 k true a0_0 a0_1) else (ratio_Check.j0 k (decide (a0_1 > 1152921504606846976)) a0_0 a0_1)
theorem ratio_Check.mono_l : ∀ k, (∀ y0 y1 y2, LeO (ratio_Check.j0 k y0 y1 y2) (ratio_Check.j0 (k + 1) y0 y1 y2)) ∧ (∀ y0 y1 y2, LeO (ratio_Check.j1 k y0 y1 y2) (ratio_Check.j1 (k + 1) y0 y1 y2))
  | 0 => ⟨fun _ _ _ r h => by simp [ratio_Check.j0] at h, fun _ _ _ r h => by simp [ratio_Check.j1] at h⟩
  | k + 1 => by
    obtain ⟨ih0, ih1⟩ := ratio_Check.mono_l k
    refine ⟨?_, ?_⟩
    · intro y0 y1 y2
      unfold ratio_Check.j0
      repeat' first
      | (with_reducible exact ih0 _ _ _)
      | (with_reducible exact ih1 _ _ _)
      | (with_reducible exact ratio_divisor.mono _ _ _)
      | (with_reducible exact LeO.refl _)
      | (with_reducible exact LeO.none _)
      | (with_reducible refine LeO.ite ?_ ?_)
      | (with_reducible refine LeO.bind ?_ (fun _ => ?_))
      | exact ih0 _ _ _
      | exact ih1 _ _ _
      | exact ratio_divisor.mono _ _ _
      | exact LeO.none _
      | refine LeO.ite ?_ ?_
      | refine LeO.bind ?_ (fun _ => ?_)
    · intro y0 y1 y2
      unfold ratio_Check.j1
      repeat' first
      | (with_reducible exact ih0 _ _ _)
      | (with_reducible exact ih1 _ _ _)
      | (with_reducible exact ratio_divisor.mono _ _ _)
      | (with_reducible exact LeO.refl _)
      | (with_reducible exact LeO.none _)
      | (with_reducible refine LeO.ite ?_ ?_)
      | (with_reducible refine LeO.bind ?_ (fun _ => ?_))
      | exact ih0 _ _ _
      | exact ih1 _ _ _
      | exact ratio_divisor.mono _ _ _
      | exact LeO.none _
      | refine LeO.ite ?_ ?_
      | refine LeO.bind ?_ (fun _ => ?_)
theorem ratio_Check.mono : ∀ a0 a1 k, LeO (ratio_Check.f k a0 a1) (ratio_Check.f (k + 1) a0 a1) := by
  intro a0 a1 k
  obtain ⟨ih0, ih1⟩ := ratio_Check.mono_l k
  unfold ratio_Check.f
  repeat' first
      | (with_reducible exact ih0 _ _ _)
      | (with_reducible exact ih1 _ _ _)
      | (with_reducible exact ratio_divisor.mono _ _ _)
      | (with_reducible exact LeO.refl _)
      | (with_reducible exact LeO.none _)
      | (with_reducible refine LeO.ite ?_ ?_)
      | (with_reducible refine LeO.bind ?_ (fun _ => ?_))
      | exact ih0 _ _ _
      | exact ih1 _ _ _
      | exact ratio_divisor.mono _ _ _
      | exact LeO.none _
      | refine LeO.ite ?_ ?_
      | refine LeO.bind ?_ (fun _ => ?_)
set_option maxHeartbeats 8000000 in
set_option maxRecDepth 100000 in
theorem ratio_Check.calls (k : Nat) (a0_0 : Int) (a0_1 : Int) (r : Int) (w : World) (h : ratio_Check.f k a0_0 a0_1 = some r) :
    Calls Tryz.prog 14 #[.agg #[.int .i64 a0_0, .int .i64 a0_1]] w fun e w' => e = .returned (.int .i64 r) ∧ Below w.heap.size w w' := by
  have hu27 := Tryz.underlying27
  have HB := Aside0.mk (Below.refl w.heap.size w)
  have H : (if a0_1 < 1 then (ratio_Check.j0 k true a0_0 a0_1) else (ratio_Check.j0 k (decide (a0_1 > 1152921504606846976)) a0_0 a0_1)) = some r := h
  clear h
  have HC2 := Aside0.mk H
  clear H
  go_enter Tryz.func14, Tryz.ntmps14
  go_upto_region 1 with (first | ((with_reducible refine gate_dst (N := 1) rfl ?_); refine box_event ?hg (N := 1) ?hd (cs := #[.int .i64 a0_0, .int .i64 a0_1]) (t := 27) ?hr ?_; (case hd => rfl); (case hg => rfl); (case hr => first | (go_simp; done) | (go_simp; rfl)); intro gb101 hg w3 hbox hb; have n0_ := Aside0.mk (below_step (by repeat (first | (with_reducible first | exact HB.out | apply below_alloc | apply pw_below_drewN | apply below_drew1) | exact HB.out)) hb); have n1_ := Aside0.mk (hbox); have n2_ := Aside0.mk ((by rw [hg]; exact (below_size (by repeat (first | (with_reducible first | exact HB.out | apply below_alloc | apply pw_below_drewN | apply below_drew1) | exact HB.out))) : w.heap.size ≤ gb101)); have n3_ := Aside0.mk ((by rw [hg]; exact (below_size (by repeat (first | (with_reducible first | exact HB.out | apply below_alloc | apply pw_below_drewN | apply below_drew1) | exact HB.out))) : w.heap.size ≤ gb101)); clear HB; have HB := n0_; have BK101 := n1_; have GW101 := n2_; have GE101 := n3_; clear n0_ n1_ n2_ n3_; clear hb hbox hg))
  repeat (go_quiet (first | ((with_reducible refine gate_dst (N := 1) rfl ?_); refine box_event ?hg (N := 1) ?hd (cs := #[.int .i64 a0_0, .int .i64 a0_1]) (t := 27) ?hr ?_; (case hd => rfl); (case hg => rfl); (case hr => first | (go_simp; done) | (go_simp; rfl)); intro gb101 hg w3 hbox hb; have n0_ := Aside0.mk (below_step (by repeat (first | (with_reducible first | exact HB.out | apply below_alloc | apply pw_below_drewN | apply below_drew1) | exact HB.out)) hb); have n1_ := Aside0.mk (hbox); have n2_ := Aside0.mk ((by rw [hg]; exact (below_size (by repeat (first | (with_reducible first | exact HB.out | apply below_alloc | apply pw_below_drewN | apply below_drew1) | exact HB.out))) : w.heap.size ≤ gb101)); have n3_ := Aside0.mk ((by rw [hg]; exact (below_size (by repeat (first | (with_reducible first | exact HB.out | apply below_alloc | apply pw_below_drewN | apply below_drew1) | exact HB.out))) : w.heap.size ≤ gb101)); clear HB; have HB := n0_; have BK101 := n1_; have GW101 := n2_; have GE101 := n3_; clear n0_ n1_ n2_ n3_; clear hb hbox hg)); go_upto_region 1 with (first | ((with_reducible refine gate_dst (N := 1) rfl ?_); refine box_event ?hg (N := 1) ?hd (cs := #[.int .i64 a0_0, .int .i64 a0_1]) (t := 27) ?hr ?_; (case hd => rfl); (case hg => rfl); (case hr => first | (go_simp; done) | (go_simp; rfl)); intro gb101 hg w3 hbox hb; have n0_ := Aside0.mk (below_step (by repeat (first | (with_reducible first | exact HB.out | apply below_alloc | apply pw_below_drewN | apply below_drew1) | exact HB.out)) hb); have n1_ := Aside0.mk (hbox); have n2_ := Aside0.mk ((by rw [hg]; exact (below_size (by repeat (first | (with_reducible first | exact HB.out | apply below_alloc | apply pw_below_drewN | apply below_drew1) | exact HB.out))) : w.heap.size ≤ gb101)); have n3_ := Aside0.mk ((by rw [hg]; exact (below_size (by repeat (first | (with_reducible first | exact HB.out | apply below_alloc | apply pw_below_drewN | apply below_drew1) | exact HB.out))) : w.heap.size ≤ gb101)); clear HB; have HB := n0_; have BK101 := n1_; have GW101 := n2_; have GE101 := n3_; clear n0_ n1_ n2_ n3_; clear hb hbox hg)))
  (try simp only [Act.put, List.setIfInBounds_toArray, List.set_cons_zero, List.set_cons_succ])
  go_cut [3] (fun v3 wc => ∃ (kq : Nat) (x3_1 : Bool), v3 = .bool x3_1 ∧ Aside0 (ratio_Check.j0 kq x3_1 a0_0 a0_1 = some r) ∧ Aside0 (kq ≤ k) ∧ Aside0 (wc.heap[gb101]? = some (.cells #[.int .i64 a0_0, .int .i64 a0_1] 27 (0, 0))) ∧ Aside0 (Below w.heap.size w wc))
  case first =>
    have H := HC2.out
    clear HC2
    by_cases c4 : a0_1 < 1
    · rw [if_pos c4] at H
      have c4b0 : decide (a0_1 < 1) = true := decide_eq_true c4
      clear c4
      (first | rw [c4b0] | (simp only [i64_w, i32_w]; rw [c4b0]) | skip)
      have H' := Aside0.mk H
      clear H
      have hcz5_0 : w3.cell? ⟨gb101, 0, none⟩ = some (.int .i64 a0_0) := (blk_cell BK101.out 0).trans rfl
      have hcz5_1 : w3.cell? ⟨gb101, 1, none⟩ = some (.int .i64 a0_1) := (blk_cell BK101.out 1).trans rfl
      have hfz5_0 := blk_frozen BK101.out 0
      have hfz5_1 := blk_frozen BK101.out 1
      go_wp2
      repeat (go_quiet (fail); try go_wp2)
      go_meet
      case rel => exact ⟨_, (true), (by first | rfl | (simp; done) | (simp [*]; done)), H', ⟨by first | omega | exact Nat.le_refl _⟩, ⟨by (with_reducible repeat (first | refine blk_drewN ?_ _ | refine blk_drew ?_ | refine blk_alloc ?_ _)); exact BK101.out⟩, ⟨by repeat (first | (with_reducible first | exact HB.out | apply below_alloc | apply pw_below_drewN | apply below_drew1 | refine below_set ?_ GE101.out) | exact HB.out)⟩⟩
    · rw [if_neg c4] at H
      have c4b0 : decide (a0_1 < 1) = false := decide_eq_false c4
      clear c4
      (first | rw [c4b0] | (simp only [i64_w, i32_w]; rw [c4b0]) | skip)
      have H' := Aside0.mk H
      clear H
      have hcz6_0 : w3.cell? ⟨gb101, 0, none⟩ = some (.int .i64 a0_0) := (blk_cell BK101.out 0).trans rfl
      have hcz6_1 : w3.cell? ⟨gb101, 1, none⟩ = some (.int .i64 a0_1) := (blk_cell BK101.out 1).trans rfl
      have hfz6_0 := blk_frozen BK101.out 0
      have hfz6_1 := blk_frozen BK101.out 1
      go_wp2
      repeat (go_quiet (fail); try go_wp2)
      go_meet
      case rel => exact ⟨_, (decide (a0_1 > 1152921504606846976)), (by first | rfl | (simp; done) | (simp [*]; done)), H', ⟨by first | omega | exact Nat.le_refl _⟩, ⟨by (with_reducible repeat (first | refine blk_drewN ?_ _ | refine blk_drew ?_ | refine blk_alloc ?_ _)); exact BK101.out⟩, ⟨by repeat (first | (with_reducible first | exact HB.out | apply below_alloc | apply pw_below_drewN | apply below_drew1 | refine below_set ?_ GE101.out) | exact HB.out)⟩⟩
  case rest =>
    clear HC2
    try clear c1
    try clear p2
    try clear c4
    try clear c4b0
    try clear hcz5_0
    try clear hcz5_1
    try clear hcz6_0
    try clear hcz6_1
    try clear hfz5_0
    try clear hfz5_1
    try clear hfz6_0
    try clear hfz6_1
    obtain ⟨kq, x3_1, rfl, HA, HJ1, BK101, HB⟩ := hcut
    cases kq with
    | zero => exact absurd HA.out (by simp [ratio_Check.j0])
    | succ kj1 =>
      have H := HA.out
      clear HA
      simp only [ratio_Check.j0] at H
      by_cases c7 : x3_1 = true
      · subst c7
        have H1 : (some 1) = some r := by rw [if_pos rfl] at H; exact H
        clear H
        have H := H1
        clear H1
        obtain rfl := Option.some.inj H
        go_wp2
        repeat (go_quiet (fail); try go_wp2)
        go_ret
        exact ⟨by first | rfl | (simp [errW_none, errW_some] <;> rfl) | (simp [*, errW_none, errW_some] <;> rfl), by repeat (first | (with_reducible first | exact HB.out | apply below_alloc | apply pw_below_drewN | apply below_drew1 | refine below_set ?_ GE101.out) | exact HB.out)⟩
      · replace c7 := Bool.eq_false_iff.mpr c7
        subst c7
        have H1 : (if a0_0 < (-1152921504606846976) then (ratio_Check.j1 kj1 true a0_0 a0_1) else (ratio_Check.j1 kj1 (decide (a0_0 > 1152921504606846976)) a0_0 a0_1)) = some r := by rw [if_neg (show ¬ (false = true) by decide)] at H; exact H
        clear H
        have H := H1
        clear H1
        have HC8 := Aside0.mk H
        clear H
        go_upto_region 3 with (fail)
        repeat (go_quiet (fail); go_upto_region 3 with (fail))
        go_cut [12] (fun v12 wc => ∃ (kq : Nat) (x12_7 : Bool), v12 = .bool x12_7 ∧ Aside0 (ratio_Check.j1 kq x12_7 a0_0 a0_1 = some r) ∧ Aside0 (kq ≤ kj1) ∧ Aside0 (wc.heap[gb101]? = some (.cells #[.int .i64 a0_0, .int .i64 a0_1] 27 (0, 0))) ∧ Aside0 (Below w.heap.size w wc))
        case first =>
          have H := HC8.out
          clear HC8
          by_cases c9 : a0_0 < (-1152921504606846976)
          · rw [if_pos c9] at H
            have c9b0 : decide (a0_0 < (-1152921504606846976)) = true := decide_eq_true c9
            clear c9
            (first | rw [c9b0] | (simp only [i64_w, i32_w]; rw [c9b0]) | skip)
            have H' := Aside0.mk H
            clear H
            have hcz10_0 : wc.cell? ⟨gb101, 0, none⟩ = some (.int .i64 a0_0) := (blk_cell BK101.out 0).trans rfl
            have hcz10_1 : wc.cell? ⟨gb101, 1, none⟩ = some (.int .i64 a0_1) := (blk_cell BK101.out 1).trans rfl
            have hfz10_0 := blk_frozen BK101.out 0
            have hfz10_1 := blk_frozen BK101.out 1
            go_wp2
            repeat (go_quiet (fail); try go_wp2)
            go_meet
            case rel => exact ⟨_, (true), (by first | rfl | (simp; done) | (simp [*]; done)), H', ⟨by have := HJ1.out; first | omega | exact Nat.le_refl _⟩, ⟨by (with_reducible repeat (first | refine blk_drewN ?_ _ | refine blk_drew ?_ | refine blk_alloc ?_ _)); exact BK101.out⟩, ⟨by repeat (first | (with_reducible first | exact HB.out | apply below_alloc | apply pw_below_drewN | apply below_drew1 | refine below_set ?_ GE101.out) | exact HB.out)⟩⟩
          · rw [if_neg c9] at H
            have c9b0 : decide (a0_0 < (-1152921504606846976)) = false := decide_eq_false c9
            clear c9
            (first | rw [c9b0] | (simp only [i64_w, i32_w]; rw [c9b0]) | skip)
            have H' := Aside0.mk H
            clear H
            have hcz11_0 : wc.cell? ⟨gb101, 0, none⟩ = some (.int .i64 a0_0) := (blk_cell BK101.out 0).trans rfl
            have hcz11_1 : wc.cell? ⟨gb101, 1, none⟩ = some (.int .i64 a0_1) := (blk_cell BK101.out 1).trans rfl
            have hfz11_0 := blk_frozen BK101.out 0
            have hfz11_1 := blk_frozen BK101.out 1
            go_wp2
            repeat (go_quiet (fail); try go_wp2)
            go_meet
            case rel => exact ⟨_, (decide (a0_0 > 1152921504606846976)), (by first | rfl | (simp; done) | (simp [*]; done)), H', ⟨by have := HJ1.out; first | omega | exact Nat.le_refl _⟩, ⟨by (with_reducible repeat (first | refine blk_drewN ?_ _ | refine blk_drew ?_ | refine blk_alloc ?_ _)); exact BK101.out⟩, ⟨by repeat (first | (with_reducible first | exact HB.out | apply below_alloc | apply pw_below_drewN | apply below_drew1 | refine below_set ?_ GE101.out) | exact HB.out)⟩⟩
        case rest =>
          clear HC8
          try clear c1
          try clear p2
          try clear c4
          try clear c4b0
          try clear c7
          try clear c9
          try clear c9b0
          try clear hcz10_0
          try clear hcz10_1
          try clear hcz11_0
          try clear hcz11_1
          try clear hcz5_0
          try clear hcz5_1
          try clear hcz6_0
          try clear hcz6_1
          try clear hfz10_0
          try clear hfz10_1
          try clear hfz11_0
          try clear hfz11_1
          try clear hfz5_0
          try clear hfz5_1
          try clear hfz6_0
          try clear hfz6_1
          try clear p2
          obtain ⟨kq, x12_7, rfl, HA, HJ7, BK101, HB⟩ := hcut
          cases kq with
          | zero => exact absurd HA.out (by simp [ratio_Check.j1])
          | succ kj7 =>
            have H := HA.out
            clear HA
            simp only [ratio_Check.j1] at H
            by_cases c12 : x12_7 = true
            · subst c12
              have H1 : (some 1) = some r := by rw [if_pos rfl] at H; exact H
              clear H
              have H := H1
              clear H1
              obtain rfl := Option.some.inj H
              go_wp2
              repeat (go_quiet (fail); try go_wp2)
              go_ret
              exact ⟨by first | rfl | (simp [errW_none, errW_some] <;> rfl) | (simp [*, errW_none, errW_some] <;> rfl), by repeat (first | (with_reducible first | exact HB.out | apply below_alloc | apply pw_below_drewN | apply below_drew1 | refine below_set ?_ GE101.out) | exact HB.out)⟩
            · replace c12 := Bool.eq_false_iff.mpr c12
              subst c12
              have H1 : ((ratio_magnitude.f a0_0).bind fun t102 => ((ratio_divisor.f kj7 t102 (IntKind.u64.wrap (a0_1))).bind fun t103 => (if t103 = 1 then (some 0) else (some 1)))) = some r := by rw [if_neg (show ¬ (false = true) by decide)] at H; exact H
              clear H
              have H := H1
              clear H1
              replace H := Option.bind_eq_some_iff.mp H
              obtain ⟨t102, A130, H⟩ := H
              replace H : ((ratio_divisor.f kj7 t102 (IntKind.u64.wrap (a0_1))).bind fun t103 => (if t103 = 1 then (some 0) else (some 1))) = some r := H
              have A13 := Aside0.mk A130
              clear A130
              replace H := Option.bind_eq_some_iff.mp H
              obtain ⟨t103, A140, H⟩ := H
              replace H : (if t103 = 1 then (some 0) else (some 1)) = some r := H
              have A14 := Aside0.mk A140
              clear A140
              by_cases c15 : t103 = 1
              · rw [if_pos c15] at H
                have c15b0 : (t103 == 1) = true := beq_iff_eq.mpr c15
                have c15b1 : (t103 != 1) = false := bne_eq_false_iff_eq.mpr c15
                clear c15
                obtain rfl := Option.some.inj H
                have hcz16_0 : wc.cell? ⟨gb101, 0, none⟩ = some (.int .i64 a0_0) := (blk_cell BK101.out 0).trans rfl
                have hcz16_1 : wc.cell? ⟨gb101, 1, none⟩ = some (.int .i64 a0_1) := (blk_cell BK101.out 1).trans rfl
                have hfz16_0 := blk_frozen BK101.out 0
                have hfz16_1 := blk_frozen BK101.out 1
                go_wp2_with (first | (go_at_call 38; (with_reducible refine (ratio_magnitude.calls a0_0 t102 _ A13.out).mono ?_); rintro e w' ⟨rfl, ⟨nd, rfl⟩⟩; (try first | exact ⟨rfl, _, World.drewN_drewN _ _ _⟩ | exact ⟨rfl, _, Eq.trans (World.drewN_drewN _ _ _) (congrArg (World.drewN _) (Nat.add_assoc _ _ _))⟩)) | (go_at_call 37; (with_reducible refine (ratio_divisor.calls kj7 t102 (IntKind.u64.wrap (a0_1)) t103 _ A14.out).mono ?_); rintro e w' ⟨rfl, ⟨nd, rfl⟩⟩; (try first | exact ⟨rfl, _, World.drewN_drewN _ _ _⟩ | exact ⟨rfl, _, Eq.trans (World.drewN_drewN _ _ _) (congrArg (World.drewN _) (Nat.add_assoc _ _ _))⟩)))
                repeat (go_quiet (first | (go_at_call 38; (with_reducible refine (ratio_magnitude.calls a0_0 t102 _ A13.out).mono ?_); rintro e w' ⟨rfl, ⟨nd, rfl⟩⟩; (try first | exact ⟨rfl, _, World.drewN_drewN _ _ _⟩ | exact ⟨rfl, _, Eq.trans (World.drewN_drewN _ _ _) (congrArg (World.drewN _) (Nat.add_assoc _ _ _))⟩)) | (go_at_call 37; (with_reducible refine (ratio_divisor.calls kj7 t102 (IntKind.u64.wrap (a0_1)) t103 _ A14.out).mono ?_); rintro e w' ⟨rfl, ⟨nd, rfl⟩⟩; (try first | exact ⟨rfl, _, World.drewN_drewN _ _ _⟩ | exact ⟨rfl, _, Eq.trans (World.drewN_drewN _ _ _) (congrArg (World.drewN _) (Nat.add_assoc _ _ _))⟩))); try go_wp2_with (first | (go_at_call 38; (with_reducible refine (ratio_magnitude.calls a0_0 t102 _ A13.out).mono ?_); rintro e w' ⟨rfl, ⟨nd, rfl⟩⟩; (try first | exact ⟨rfl, _, World.drewN_drewN _ _ _⟩ | exact ⟨rfl, _, Eq.trans (World.drewN_drewN _ _ _) (congrArg (World.drewN _) (Nat.add_assoc _ _ _))⟩)) | (go_at_call 37; (with_reducible refine (ratio_divisor.calls kj7 t102 (IntKind.u64.wrap (a0_1)) t103 _ A14.out).mono ?_); rintro e w' ⟨rfl, ⟨nd, rfl⟩⟩; (try first | exact ⟨rfl, _, World.drewN_drewN _ _ _⟩ | exact ⟨rfl, _, Eq.trans (World.drewN_drewN _ _ _) (congrArg (World.drewN _) (Nat.add_assoc _ _ _))⟩))))
                go_ret
                exact ⟨by first | rfl | (simp [errW_none, errW_some] <;> rfl) | (simp [*, errW_none, errW_some] <;> rfl), by repeat (first | (with_reducible first | exact HB.out | apply below_alloc | apply pw_below_drewN | apply below_drew1 | refine below_set ?_ GE101.out) | exact HB.out)⟩
              · rw [if_neg c15] at H
                have c15b0 : (t103 == 1) = false := beq_eq_false_iff_ne.mpr c15
                have c15b1 : (t103 != 1) = true := bne_iff_ne.mpr c15
                obtain rfl := Option.some.inj H
                have hcz17_0 : wc.cell? ⟨gb101, 0, none⟩ = some (.int .i64 a0_0) := (blk_cell BK101.out 0).trans rfl
                have hcz17_1 : wc.cell? ⟨gb101, 1, none⟩ = some (.int .i64 a0_1) := (blk_cell BK101.out 1).trans rfl
                have hfz17_0 := blk_frozen BK101.out 0
                have hfz17_1 := blk_frozen BK101.out 1
                go_wp2_with (first | (go_at_call 38; (with_reducible refine (ratio_magnitude.calls a0_0 t102 _ A13.out).mono ?_); rintro e w' ⟨rfl, ⟨nd, rfl⟩⟩; (try first | exact ⟨rfl, _, World.drewN_drewN _ _ _⟩ | exact ⟨rfl, _, Eq.trans (World.drewN_drewN _ _ _) (congrArg (World.drewN _) (Nat.add_assoc _ _ _))⟩)) | (go_at_call 37; (with_reducible refine (ratio_divisor.calls kj7 t102 (IntKind.u64.wrap (a0_1)) t103 _ A14.out).mono ?_); rintro e w' ⟨rfl, ⟨nd, rfl⟩⟩; (try first | exact ⟨rfl, _, World.drewN_drewN _ _ _⟩ | exact ⟨rfl, _, Eq.trans (World.drewN_drewN _ _ _) (congrArg (World.drewN _) (Nat.add_assoc _ _ _))⟩)))
                repeat (go_quiet (first | (go_at_call 38; (with_reducible refine (ratio_magnitude.calls a0_0 t102 _ A13.out).mono ?_); rintro e w' ⟨rfl, ⟨nd, rfl⟩⟩; (try first | exact ⟨rfl, _, World.drewN_drewN _ _ _⟩ | exact ⟨rfl, _, Eq.trans (World.drewN_drewN _ _ _) (congrArg (World.drewN _) (Nat.add_assoc _ _ _))⟩)) | (go_at_call 37; (with_reducible refine (ratio_divisor.calls kj7 t102 (IntKind.u64.wrap (a0_1)) t103 _ A14.out).mono ?_); rintro e w' ⟨rfl, ⟨nd, rfl⟩⟩; (try first | exact ⟨rfl, _, World.drewN_drewN _ _ _⟩ | exact ⟨rfl, _, Eq.trans (World.drewN_drewN _ _ _) (congrArg (World.drewN _) (Nat.add_assoc _ _ _))⟩))); try go_wp2_with (first | (go_at_call 38; (with_reducible refine (ratio_magnitude.calls a0_0 t102 _ A13.out).mono ?_); rintro e w' ⟨rfl, ⟨nd, rfl⟩⟩; (try first | exact ⟨rfl, _, World.drewN_drewN _ _ _⟩ | exact ⟨rfl, _, Eq.trans (World.drewN_drewN _ _ _) (congrArg (World.drewN _) (Nat.add_assoc _ _ _))⟩)) | (go_at_call 37; (with_reducible refine (ratio_divisor.calls kj7 t102 (IntKind.u64.wrap (a0_1)) t103 _ A14.out).mono ?_); rintro e w' ⟨rfl, ⟨nd, rfl⟩⟩; (try first | exact ⟨rfl, _, World.drewN_drewN _ _ _⟩ | exact ⟨rfl, _, Eq.trans (World.drewN_drewN _ _ _) (congrArg (World.drewN _) (Nat.add_assoc _ _ _))⟩))))
                go_ret
                exact ⟨by first | rfl | (simp [errW_none, errW_some] <;> rfl) | (simp [*, errW_none, errW_some] <;> rfl), by repeat (first | (with_reducible first | exact HB.out | apply below_alloc | apply pw_below_drewN | apply below_drew1 | refine below_set ?_ GE101.out) | exact HB.out)⟩
end Go.Proofs.YteokilkcchdeiaaGreatDoor.Q
end
section
namespace Go.Proofs.YteokilkcchdeiaaGreatDoor.Q
open Go.Proofs.YteokilkcchdeiaaGreatDoor
open Go.Proofs.YteokilkcchdeiaaGreatDoor.X
open Go.RowKit Go.Proofs.YteokilkcchdeiaaGreatDoorW.PrintWords Go.Proofs.YteokilkcchdeiaaGreatDoorW.PrintLast Go.Proofs.YteokilkcchdeiaaGreatDoorW.PrintMore
attribute [local go_sem] max2_int min2_int max_two min_two max_three min_three max_four min_four   -- for this text's walks alone
set_option linter.unusedVariables false
set_option linter.unusedSimpArgs false
def ratio_Format.f (k : Nat) (a0_0 : Int) (a0_1 : Int) : Option (ByteArray) := (ratio_Check.f k a0_0 a0_1).bind fun t105 => (if t105 = 0 then ((strconv_Itoa.f a0_0).bind fun t106 => (if a0_1 = 1 then (some t106) else ((strconv_Itoa.f a0_1).bind fun t107 => (if 1 + t107.size ≤ 9223372036854775807 then (if t106.size + ((⟨#[47]⟩ : ByteArray) ++ t107).size ≤ 9223372036854775807 then (some (t106 ++ ((⟨#[47]⟩ : ByteArray) ++ t107))) else (none)) else (none))))) else (some (⟨#[]⟩ : ByteArray)))
theorem ratio_Format.mono : ∀ a0 a1 k, LeO (ratio_Format.f k a0 a1) (ratio_Format.f (k + 1) a0 a1) := by
  intro a0 a1 k
  unfold ratio_Format.f
  repeat' first
      | (with_reducible exact ratio_Check.mono _ _ _)
      | (with_reducible exact LeO.refl _)
      | (with_reducible exact LeO.none _)
      | (with_reducible refine LeO.ite ?_ ?_)
      | (with_reducible refine LeO.bind ?_ (fun _ => ?_))
      | exact ratio_Check.mono _ _ _
      | exact LeO.none _
      | refine LeO.ite ?_ ?_
      | refine LeO.bind ?_ (fun _ => ?_)
set_option maxHeartbeats 8000000 in
set_option maxRecDepth 100000 in
theorem ratio_Format.calls (k : Nat) (a0_0 : Int) (a0_1 : Int) (r : ByteArray) (w : World) (hT : Tabs w) (h : ratio_Format.f k a0_0 a0_1 = some r) :
    Calls Tryz.prog 35 #[.agg #[.int .i64 a0_0, .int .i64 a0_1]] w fun e w' => e = .returned (.string r) ∧ Below w.heap.size w w' := by
  have hu27 := Tryz.underlying27
  have HT := Aside0.mk hT
  clear hT
  have HB := Aside0.mk (Below.refl w.heap.size w)
  have H : ((ratio_Check.f k a0_0 a0_1).bind fun t105 => (if t105 = 0 then ((strconv_Itoa.f a0_0).bind fun t106 => (if a0_1 = 1 then (some t106) else ((strconv_Itoa.f a0_1).bind fun t107 => (if 1 + t107.size ≤ 9223372036854775807 then (if t106.size + ((⟨#[47]⟩ : ByteArray) ++ t107).size ≤ 9223372036854775807 then (some (t106 ++ ((⟨#[47]⟩ : ByteArray) ++ t107))) else (none)) else (none))))) else (some (⟨#[]⟩ : ByteArray)))) = some r := h
  clear h
  replace H := Option.bind_eq_some_iff.mp H
  obtain ⟨t105, A20, H⟩ := H
  replace H : (if t105 = 0 then ((strconv_Itoa.f a0_0).bind fun t106 => (if a0_1 = 1 then (some t106) else ((strconv_Itoa.f a0_1).bind fun t107 => (if 1 + t107.size ≤ 9223372036854775807 then (if t106.size + ((⟨#[47]⟩ : ByteArray) ++ t107).size ≤ 9223372036854775807 then (some (t106 ++ ((⟨#[47]⟩ : ByteArray) ++ t107))) else (none)) else (none))))) else (some (⟨#[]⟩ : ByteArray))) = some r := H
  have A2 := Aside0.mk A20
  clear A20
  by_cases c3 : t105 = 0
  · rw [if_pos c3] at H
    have c3b0 : (t105 == 0) = true := beq_iff_eq.mpr c3
    have c3b1 : (t105 != 0) = false := bne_eq_false_iff_eq.mpr c3
    clear c3
    replace H := Option.bind_eq_some_iff.mp H
    obtain ⟨t106, A40, H⟩ := H
    replace H : (if a0_1 = 1 then (some t106) else ((strconv_Itoa.f a0_1).bind fun t107 => (if 1 + t107.size ≤ 9223372036854775807 then (if t106.size + ((⟨#[47]⟩ : ByteArray) ++ t107).size ≤ 9223372036854775807 then (some (t106 ++ ((⟨#[47]⟩ : ByteArray) ++ t107))) else (none)) else (none)))) = some r := H
    have A4 := Aside0.mk A40
    clear A40
    by_cases c5 : a0_1 = 1
    · rw [if_pos c5] at H
      have c5b0 : (a0_1 == 1) = true := beq_iff_eq.mpr c5
      have c5b1 : (a0_1 != 1) = false := bne_eq_false_iff_eq.mpr c5
      clear c5
      obtain rfl := Option.some.inj H
      go_enter Tryz.func35, Tryz.ntmps35
      go_wp2_with (first | ((with_reducible refine gate_dst (N := 1) rfl ?_); refine box_event ?hg (N := 1) ?hd (cs := #[.int .i64 a0_0, .int .i64 a0_1]) (t := 27) ?hr ?_; (case hd => rfl); (case hg => rfl); (case hr => first | (go_simp; done) | (go_simp; rfl)); intro gb104 hg w6 hbox hb; have n0_ := Aside0.mk (below_step (by repeat (first | (with_reducible first | exact HB.out | apply below_alloc | apply pw_below_drewN | apply below_drew1) | exact HB.out)) hb); have n1_ := Aside0.mk (hbox); have n2_ := Aside0.mk ((by rw [hg]; exact (below_size (by repeat (first | (with_reducible first | exact HB.out | apply below_alloc | apply pw_below_drewN | apply below_drew1) | exact HB.out))) : w.heap.size ≤ gb104)); have n3_ := Aside0.mk ((by rw [hg]; exact (below_size (by repeat (first | (with_reducible first | exact HB.out | apply below_alloc | apply pw_below_drewN | apply below_drew1) | exact HB.out))) : w.heap.size ≤ gb104)); clear HB; have HB := n0_; have BK104 := n1_; have GW104 := n2_; have GE104 := n3_; clear n0_ n1_ n2_ n3_; clear hb hbox hg; have hcz7_0 : w6.cell? ⟨gb104, 0, none⟩ = some (.int .i64 a0_0) := (blk_cell BK104.out 0).trans rfl; have hcz7_1 : w6.cell? ⟨gb104, 1, none⟩ = some (.int .i64 a0_1) := (blk_cell BK104.out 1).trans rfl; have hfz7_0 := blk_frozen BK104.out 0; have hfz7_1 := blk_frozen BK104.out 1) | ((with_reducible refine gate_callee (f := 14) rfl ?_); refine goesL_ (some 5) rfl rfl Tryz.func14 (by kernel_rfl) rfl #[.agg #[.int .i64 a0_0, .int .i64 a0_1]] rfl (by (try simp only [List.map_toArray, List.map_cons, List.map_nil]); first | done | rfl | (simp only [List.length_drop, List.length_take]; rfl)) ?_; (with_reducible refine (ratio_Check.calls k a0_0 a0_1 t105 _ A2.out).mono ?_); rintro e w8 ⟨rfl, hb⟩; refine ⟨_, rfl, ?_⟩; have n0_ := Aside0.mk (blk_below (g := gb104) (o := .cells #[.int .i64 a0_0, .int .i64 a0_1] 27 (0, 0)) (by (with_reducible repeat (first | refine blk_drewN ?_ _ | refine blk_drew ?_ | refine blk_alloc ?_ _)); exact BK104.out) hb); have n1_ := Aside0.mk (below_step (by repeat (first | (with_reducible first | exact HB.out | apply below_alloc | apply pw_below_drewN | apply below_drew1 | refine below_set ?_ GE104.out) | exact HB.out)) hb); clear BK104; clear HB; have BK104 := n0_; have HB := n1_; clear n0_ n1_; (try clear hb); (try clear hb2); (try clear hk); (try clear hi); have hcz9_0 : w8.cell? ⟨gb104, 0, none⟩ = some (.int .i64 a0_0) := (blk_cell BK104.out 0).trans rfl; have hcz9_1 : w8.cell? ⟨gb104, 1, none⟩ = some (.int .i64 a0_1) := (blk_cell BK104.out 1).trans rfl; have hfz9_0 := blk_frozen BK104.out 0; have hfz9_1 := blk_frozen BK104.out 1) | ((with_reducible refine gate_callee (f := 33) rfl ?_); refine goesL_ (some 9) rfl rfl Tryz.func33 (by kernel_rfl) rfl #[.int .i64 a0_0] rfl (by (try simp only [List.map_toArray, List.map_cons, List.map_nil]); first | done | rfl | (simp only [List.length_drop, List.length_take]; rfl)) ?_; (with_reducible refine (strconv_Itoa.calls a0_0 t106 _ ?side1 A4.out).mono ?_); (case side1 => exact Tabs.below HT.out (by repeat (first | (with_reducible first | exact HB.out | apply below_alloc | apply pw_below_drewN | apply below_drew1 | refine below_set ?_ GE104.out) | exact HB.out))); rintro e w10 ⟨rfl, hb⟩; refine ⟨_, rfl, ?_⟩; have n0_ := Aside0.mk (blk_below (g := gb104) (o := .cells #[.int .i64 a0_0, .int .i64 a0_1] 27 (0, 0)) (by (with_reducible repeat (first | refine blk_drewN ?_ _ | refine blk_drew ?_ | refine blk_alloc ?_ _)); exact BK104.out) hb); have n1_ := Aside0.mk (below_step (by repeat (first | (with_reducible first | exact HB.out | apply below_alloc | apply pw_below_drewN | apply below_drew1 | refine below_set ?_ GE104.out) | exact HB.out)) hb); clear BK104; clear HB; have BK104 := n0_; have HB := n1_; clear n0_ n1_; (try clear hb); (try clear hb2); (try clear hk); (try clear hi); have hcz11_0 : w10.cell? ⟨gb104, 0, none⟩ = some (.int .i64 a0_0) := (blk_cell BK104.out 0).trans rfl; have hcz11_1 : w10.cell? ⟨gb104, 1, none⟩ = some (.int .i64 a0_1) := (blk_cell BK104.out 1).trans rfl; have hfz11_0 := blk_frozen BK104.out 0; have hfz11_1 := blk_frozen BK104.out 1))
      go_ret
      exact ⟨by first | rfl | (simp [errW_none, errW_some] <;> rfl) | (simp [*, errW_none, errW_some] <;> rfl), by repeat (first | (with_reducible first | exact HB.out | apply below_alloc | apply pw_below_drewN | apply below_drew1 | refine below_set ?_ GE104.out) | exact HB.out)⟩
    · rw [if_neg c5] at H
      have c5b0 : (a0_1 == 1) = false := beq_eq_false_iff_ne.mpr c5
      have c5b1 : (a0_1 != 1) = true := bne_iff_ne.mpr c5
      replace H := Option.bind_eq_some_iff.mp H
      obtain ⟨t107, A120, H⟩ := H
      replace H : (if 1 + t107.size ≤ 9223372036854775807 then (if t106.size + ((⟨#[47]⟩ : ByteArray) ++ t107).size ≤ 9223372036854775807 then (some (t106 ++ ((⟨#[47]⟩ : ByteArray) ++ t107))) else (none)) else (none)) = some r := H
      have A12 := Aside0.mk A120
      clear A120
      by_cases c13 : 1 + t107.size ≤ 9223372036854775807
      · rw [if_pos c13] at H
        have c13b0 := eq_true c13
        have c13b1 : decide (1 + t107.size ≤ 9223372036854775807) = true := decide_eq_true c13
        try have c13b2 : (9223372036854775807 < 1 + t107.size) = False := eq_false (Nat.not_lt.2 c13)
        by_cases c14 : t106.size + ((⟨#[47]⟩ : ByteArray) ++ t107).size ≤ 9223372036854775807
        · rw [if_pos c14] at H
          have c14b0 := eq_true c14
          have c14b1 : decide (t106.size + ((⟨#[47]⟩ : ByteArray) ++ t107).size ≤ 9223372036854775807) = true := decide_eq_true c14
          try have c14b3 : (9223372036854775807 < t106.size + (1 + t107.size)) = False := eq_false (Nat.not_lt.2 (by have z_ := c14; simp only [ByteArray.size_append'] at z_; exact z_))
          try have c14b2 : (9223372036854775807 < t106.size + ((⟨#[47]⟩ : ByteArray) ++ t107).size) = False := eq_false (Nat.not_lt.2 c14)
          obtain rfl := Option.some.inj H
          go_enter Tryz.func35, Tryz.ntmps35
          go_wp2_with (first | ((with_reducible refine gate_dst (N := 1) rfl ?_); refine box_event ?hg (N := 1) ?hd (cs := #[.int .i64 a0_0, .int .i64 a0_1]) (t := 27) ?hr ?_; (case hd => rfl); (case hg => rfl); (case hr => first | (go_simp; done) | (go_simp; rfl)); intro gb104 hg w15 hbox hb; have n0_ := Aside0.mk (below_step (by repeat (first | (with_reducible first | exact HB.out | apply below_alloc | apply pw_below_drewN | apply below_drew1) | exact HB.out)) hb); have n1_ := Aside0.mk (hbox); have n2_ := Aside0.mk ((by rw [hg]; exact (below_size (by repeat (first | (with_reducible first | exact HB.out | apply below_alloc | apply pw_below_drewN | apply below_drew1) | exact HB.out))) : w.heap.size ≤ gb104)); have n3_ := Aside0.mk ((by rw [hg]; exact (below_size (by repeat (first | (with_reducible first | exact HB.out | apply below_alloc | apply pw_below_drewN | apply below_drew1) | exact HB.out))) : w.heap.size ≤ gb104)); clear HB; have HB := n0_; have BK104 := n1_; have GW104 := n2_; have GE104 := n3_; clear n0_ n1_ n2_ n3_; clear hb hbox hg; have hcz16_0 : w15.cell? ⟨gb104, 0, none⟩ = some (.int .i64 a0_0) := (blk_cell BK104.out 0).trans rfl; have hcz16_1 : w15.cell? ⟨gb104, 1, none⟩ = some (.int .i64 a0_1) := (blk_cell BK104.out 1).trans rfl; have hfz16_0 := blk_frozen BK104.out 0; have hfz16_1 := blk_frozen BK104.out 1) | ((with_reducible refine gate_callee (f := 14) rfl ?_); refine goesL_ (some 5) rfl rfl Tryz.func14 (by kernel_rfl) rfl #[.agg #[.int .i64 a0_0, .int .i64 a0_1]] rfl (by (try simp only [List.map_toArray, List.map_cons, List.map_nil]); first | done | rfl | (simp only [List.length_drop, List.length_take]; rfl)) ?_; (with_reducible refine (ratio_Check.calls k a0_0 a0_1 t105 _ A2.out).mono ?_); rintro e w17 ⟨rfl, hb⟩; refine ⟨_, rfl, ?_⟩; have n0_ := Aside0.mk (blk_below (g := gb104) (o := .cells #[.int .i64 a0_0, .int .i64 a0_1] 27 (0, 0)) (by (with_reducible repeat (first | refine blk_drewN ?_ _ | refine blk_drew ?_ | refine blk_alloc ?_ _)); exact BK104.out) hb); have n1_ := Aside0.mk (below_step (by repeat (first | (with_reducible first | exact HB.out | apply below_alloc | apply pw_below_drewN | apply below_drew1 | refine below_set ?_ GE104.out) | exact HB.out)) hb); clear BK104; clear HB; have BK104 := n0_; have HB := n1_; clear n0_ n1_; (try clear hb); (try clear hb2); (try clear hk); (try clear hi); have hcz18_0 : w17.cell? ⟨gb104, 0, none⟩ = some (.int .i64 a0_0) := (blk_cell BK104.out 0).trans rfl; have hcz18_1 : w17.cell? ⟨gb104, 1, none⟩ = some (.int .i64 a0_1) := (blk_cell BK104.out 1).trans rfl; have hfz18_0 := blk_frozen BK104.out 0; have hfz18_1 := blk_frozen BK104.out 1) | ((with_reducible refine gate_callee (f := 33) rfl ?_); refine goesL_ (some 9) rfl rfl Tryz.func33 (by kernel_rfl) rfl #[.int .i64 a0_0] rfl (by (try simp only [List.map_toArray, List.map_cons, List.map_nil]); first | done | rfl | (simp only [List.length_drop, List.length_take]; rfl)) ?_; (with_reducible refine (strconv_Itoa.calls a0_0 t106 _ ?side1 A4.out).mono ?_); (case side1 => exact Tabs.below HT.out (by repeat (first | (with_reducible first | exact HB.out | apply below_alloc | apply pw_below_drewN | apply below_drew1 | refine below_set ?_ GE104.out) | exact HB.out))); rintro e w19 ⟨rfl, hb⟩; refine ⟨_, rfl, ?_⟩; have n0_ := Aside0.mk (blk_below (g := gb104) (o := .cells #[.int .i64 a0_0, .int .i64 a0_1] 27 (0, 0)) (by (with_reducible repeat (first | refine blk_drewN ?_ _ | refine blk_drew ?_ | refine blk_alloc ?_ _)); exact BK104.out) hb); have n1_ := Aside0.mk (below_step (by repeat (first | (with_reducible first | exact HB.out | apply below_alloc | apply pw_below_drewN | apply below_drew1 | refine below_set ?_ GE104.out) | exact HB.out)) hb); clear BK104; clear HB; have BK104 := n0_; have HB := n1_; clear n0_ n1_; (try clear hb); (try clear hb2); (try clear hk); (try clear hi); have hcz20_0 : w19.cell? ⟨gb104, 0, none⟩ = some (.int .i64 a0_0) := (blk_cell BK104.out 0).trans rfl; have hcz20_1 : w19.cell? ⟨gb104, 1, none⟩ = some (.int .i64 a0_1) := (blk_cell BK104.out 1).trans rfl; have hfz20_0 := blk_frozen BK104.out 0; have hfz20_1 := blk_frozen BK104.out 1) | ((with_reducible refine gate_callee (f := 33) rfl ?_); refine goesL_ (some 16) rfl rfl Tryz.func33 (by kernel_rfl) rfl #[.int .i64 a0_1] rfl (by (try simp only [List.map_toArray, List.map_cons, List.map_nil]); first | done | rfl | (simp only [List.length_drop, List.length_take]; rfl)) ?_; (with_reducible refine (strconv_Itoa.calls a0_1 t107 _ ?side1 A12.out).mono ?_); (case side1 => exact Tabs.below HT.out (by repeat (first | (with_reducible first | exact HB.out | apply below_alloc | apply pw_below_drewN | apply below_drew1 | refine below_set ?_ GE104.out) | exact HB.out))); rintro e w21 ⟨rfl, hb⟩; refine ⟨_, rfl, ?_⟩; have n0_ := Aside0.mk (blk_below (g := gb104) (o := .cells #[.int .i64 a0_0, .int .i64 a0_1] 27 (0, 0)) (by (with_reducible repeat (first | refine blk_drewN ?_ _ | refine blk_drew ?_ | refine blk_alloc ?_ _)); exact BK104.out) hb); have n1_ := Aside0.mk (below_step (by repeat (first | (with_reducible first | exact HB.out | apply below_alloc | apply pw_below_drewN | apply below_drew1 | refine below_set ?_ GE104.out) | exact HB.out)) hb); clear BK104; clear HB; have BK104 := n0_; have HB := n1_; clear n0_ n1_; (try clear hb); (try clear hb2); (try clear hk); (try clear hi)))
          go_ret
          exact ⟨by first | rfl | (simp [errW_none, errW_some] <;> rfl) | (simp [*, errW_none, errW_some] <;> rfl), by repeat (first | (with_reducible first | exact HB.out | apply below_alloc | apply pw_below_drewN | apply below_drew1 | refine below_set ?_ GE104.out) | exact HB.out)⟩
        · rw [if_neg c14] at H
          exact absurd H (by simp)
      · rw [if_neg c13] at H
        exact absurd H (by simp)
  · rw [if_neg c3] at H
    have c3b0 : (t105 == 0) = false := beq_eq_false_iff_ne.mpr c3
    have c3b1 : (t105 != 0) = true := bne_iff_ne.mpr c3
    obtain rfl := Option.some.inj H
    go_enter Tryz.func35, Tryz.ntmps35
    go_wp2_with (first | ((with_reducible refine gate_dst (N := 1) rfl ?_); refine box_event ?hg (N := 1) ?hd (cs := #[.int .i64 a0_0, .int .i64 a0_1]) (t := 27) ?hr ?_; (case hd => rfl); (case hg => rfl); (case hr => first | (go_simp; done) | (go_simp; rfl)); intro gb104 hg w22 hbox hb; have n0_ := Aside0.mk (below_step (by repeat (first | (with_reducible first | exact HB.out | apply below_alloc | apply pw_below_drewN | apply below_drew1) | exact HB.out)) hb); have n1_ := Aside0.mk (hbox); have n2_ := Aside0.mk ((by rw [hg]; exact (below_size (by repeat (first | (with_reducible first | exact HB.out | apply below_alloc | apply pw_below_drewN | apply below_drew1) | exact HB.out))) : w.heap.size ≤ gb104)); have n3_ := Aside0.mk ((by rw [hg]; exact (below_size (by repeat (first | (with_reducible first | exact HB.out | apply below_alloc | apply pw_below_drewN | apply below_drew1) | exact HB.out))) : w.heap.size ≤ gb104)); clear HB; have HB := n0_; have BK104 := n1_; have GW104 := n2_; have GE104 := n3_; clear n0_ n1_ n2_ n3_; clear hb hbox hg; have hcz23_0 : w22.cell? ⟨gb104, 0, none⟩ = some (.int .i64 a0_0) := (blk_cell BK104.out 0).trans rfl; have hcz23_1 : w22.cell? ⟨gb104, 1, none⟩ = some (.int .i64 a0_1) := (blk_cell BK104.out 1).trans rfl; have hfz23_0 := blk_frozen BK104.out 0; have hfz23_1 := blk_frozen BK104.out 1) | ((with_reducible refine gate_callee (f := 14) rfl ?_); refine goesL_ (some 5) rfl rfl Tryz.func14 (by kernel_rfl) rfl #[.agg #[.int .i64 a0_0, .int .i64 a0_1]] rfl (by (try simp only [List.map_toArray, List.map_cons, List.map_nil]); first | done | rfl | (simp only [List.length_drop, List.length_take]; rfl)) ?_; (with_reducible refine (ratio_Check.calls k a0_0 a0_1 t105 _ A2.out).mono ?_); rintro e w24 ⟨rfl, hb⟩; refine ⟨_, rfl, ?_⟩; have n0_ := Aside0.mk (blk_below (g := gb104) (o := .cells #[.int .i64 a0_0, .int .i64 a0_1] 27 (0, 0)) (by (with_reducible repeat (first | refine blk_drewN ?_ _ | refine blk_drew ?_ | refine blk_alloc ?_ _)); exact BK104.out) hb); have n1_ := Aside0.mk (below_step (by repeat (first | (with_reducible first | exact HB.out | apply below_alloc | apply pw_below_drewN | apply below_drew1 | refine below_set ?_ GE104.out) | exact HB.out)) hb); clear BK104; clear HB; have BK104 := n0_; have HB := n1_; clear n0_ n1_; (try clear hb); (try clear hb2); (try clear hk); (try clear hi)))
    go_ret
    exact ⟨by first | rfl | (simp [errW_none, errW_some] <;> rfl) | (simp [*, errW_none, errW_some] <;> rfl), by repeat (first | (with_reducible first | exact HB.out | apply below_alloc | apply pw_below_drewN | apply below_drew1 | refine below_set ?_ GE104.out) | exact HB.out)⟩
end Go.Proofs.YteokilkcchdeiaaGreatDoor.Q
end
section
namespace Go.Proofs.YteokilkcchdeiaaGreatDoor.Q
open Go.Proofs.YteokilkcchdeiaaGreatDoor
open Go.Proofs.YteokilkcchdeiaaGreatDoor.X
open Go.RowKit Go.Proofs.YteokilkcchdeiaaGreatDoorW.PrintWords Go.Proofs.YteokilkcchdeiaaGreatDoorW.PrintLast Go.Proofs.YteokilkcchdeiaaGreatDoorW.PrintMore
attribute [local go_sem] max2_int min2_int max_two min_two max_three min_three max_four min_four   -- for this text's walks alone
set_option linter.unusedVariables false
set_option linter.unusedSimpArgs false
mutual
def lexer_Number.j0 : Nat → ByteArray → Int → Int → Int → Option (ByteArray)
  | 0, _, _, _, _ => none
  | k + 1, x3, x4, x109000, x109001 => if x109001 = 0 then (none) else ((strconv_Itoa.f (wrap64 (Int.tdiv x4 x109001))).bind fun t110 => (lexer_Number.l0 k x3 x4 t110 0 1 x109000 x109001))
def lexer_Number.j2 : Nat → ByteArray → Int → ByteArray → Int → Int → Int → Int → Option (ByteArray)
  | 0, _, _, _, _, _, _, _ => none
  | k + 1, x3, x4, x5, x6, x7, x109000, x109001 => if x109001 = 0 then (none) else (if (Int.tmod x7 x109001) = 0 then (lexer_Number.j3 k x3 x4 x5 x6 x7 (decide ((wrap64 ((x5.size : Int) + x6)) > 18)) x109000 x109001) else (lexer_Number.j3 k x3 x4 x5 x6 x7 true x109000 x109001))
def lexer_Number.j3 : Nat → ByteArray → Int → ByteArray → Int → Int → Bool → Int → Int → Option (ByteArray)
  | 0, _, _, _, _, _, _, _, _ => none
  | k + 1, x3, x4, x5, x6, x7, x47, x109000, x109001 => if x47 = true then ((ratio_Format.f k x109000 x109001).bind fun t111 => (some t111)) else (if x6 = 0 then (if x3.size + x5.size ≤ 9223372036854775807 then (some (x3 ++ x5)) else (none)) else (if x109001 = 0 then (none) else ((strconv_Itoa.f (wrap64 ((Int.tmod x4 x109001) * (wrap64 (Int.tdiv x7 x109001))))).bind fun t112 => (if x3.size + x5.size ≤ 9223372036854775807 then (if (x3 ++ x5).size + 1 ≤ 9223372036854775807 then ((strings_Repeat.f (⟨#[48]⟩ : ByteArray) (wrap64 (x6 - (t112.size : Int)))).bind fun t113 => (if ((x3 ++ x5) ++ (⟨#[46]⟩ : ByteArray)).size + t113.size ≤ 9223372036854775807 then (if (((x3 ++ x5) ++ (⟨#[46]⟩ : ByteArray)) ++ t113).size + t112.size ≤ 9223372036854775807 then (some ((((x3 ++ x5) ++ (⟨#[46]⟩ : ByteArray)) ++ t113) ++ t112)) else (none)) else (none))) else (none)) else (none)))))
def lexer_Number.l0 : Nat → ByteArray → Int → ByteArray → Int → Int → Int → Int → Option (ByteArray)
  | 0, _, _, _, _, _, _, _ => none
  | k + 1, x3, x4, x5, x6, x7, x109000, x109001 => if x6 < 18 then (if x109001 = 0 then (none) else (if (Int.tmod x7 x109001) = 0 then (lexer_Number.j2 k x3 x4 x5 x6 x7 x109000 x109001) else (lexer_Number.l0 k x3 x4 x5 (wrap64 (x6 + 1)) (wrap64 (x7 * 10)) x109000 x109001))) else (lexer_Number.j2 k x3 x4 x5 x6 x7 x109000 x109001)
end
def lexer_Number.f (k : Nat) (a0_0 : Int) (a0_1 : Int) : Option (ByteArray) := (ratio_Check.f k a0_0 a0_1).bind fun t109 => (if t109 = 0 then (if a0_0 < 0 then (lexer_Number.j0 k (⟨#[45]⟩ : ByteArray) (wrap64 (-a0_0)) a0_0 a0_1) else (lexer_Number.j0 k (⟨#[]⟩ : ByteArray) a0_0 a0_0 a0_1)) else (some (⟨#[]⟩ : ByteArray)))
theorem lexer_Number.mono_l : ∀ k, (∀ y0 y1 y2 y3, LeO (lexer_Number.j0 k y0 y1 y2 y3) (lexer_Number.j0 (k + 1) y0 y1 y2 y3)) ∧ (∀ y0 y1 y2 y3 y4 y5 y6, LeO (lexer_Number.j2 k y0 y1 y2 y3 y4 y5 y6) (lexer_Number.j2 (k + 1) y0 y1 y2 y3 y4 y5 y6)) ∧ (∀ y0 y1 y2 y3 y4 y5 y6 y7, LeO (lexer_Number.j3 k y0 y1 y2 y3 y4 y5 y6 y7) (lexer_Number.j3 (k + 1) y0 y1 y2 y3 y4 y5 y6 y7)) ∧ (∀ y0 y1 y2 y3 y4 y5 y6, LeO (lexer_Number.l0 k y0 y1 y2 y3 y4 y5 y6) (lexer_Number.l0 (k + 1) y0 y1 y2 y3 y4 y5 y6))
  | 0 => ⟨fun _ _ _ _ r h => by simp [lexer_Number.j0] at h, fun _ _ _ _ _ _ _ r h => by simp [lexer_Number.j2] at h, fun _ _ _ _ _ _ _ _ r h => by simp [lexer_Number.j3] at h, fun _ _ _ _ _ _ _ r h => by simp [lexer_Number.l0] at h⟩
  | k + 1 => by
    obtain ⟨ih0, ih1, ih2, ih3⟩ := lexer_Number.mono_l k
    refine ⟨?_, ?_, ?_, ?_⟩
    · intro y0 y1 y2 y3
      unfold lexer_Number.j0
      repeat' first
      | (with_reducible exact ih0 _ _ _ _)
      | (with_reducible exact ih1 _ _ _ _ _ _ _)
      | (with_reducible exact ih2 _ _ _ _ _ _ _ _)
      | (with_reducible exact ih3 _ _ _ _ _ _ _)
      | (with_reducible exact ratio_Check.mono _ _ _)
      | (with_reducible exact ratio_Format.mono _ _ _)
      | (with_reducible exact LeO.refl _)
      | (with_reducible exact LeO.none _)
      | (with_reducible refine LeO.ite ?_ ?_)
      | (with_reducible refine LeO.bind ?_ (fun _ => ?_))
      | exact ih0 _ _ _ _
      | exact ih1 _ _ _ _ _ _ _
      | exact ih2 _ _ _ _ _ _ _ _
      | exact ih3 _ _ _ _ _ _ _
      | exact ratio_Check.mono _ _ _
      | exact ratio_Format.mono _ _ _
      | exact LeO.none _
      | refine LeO.ite ?_ ?_
      | refine LeO.bind ?_ (fun _ => ?_)
    · intro y0 y1 y2 y3 y4 y5 y6
      unfold lexer_Number.j2
      repeat' first
      | (with_reducible exact ih0 _ _ _ _)
      | (with_reducible exact ih1 _ _ _ _ _ _ _)
      | (with_reducible exact ih2 _ _ _ _ _ _ _ _)
      | (with_reducible exact ih3 _ _ _ _ _ _ _)
      | (with_reducible exact ratio_Check.mono _ _ _)
      | (with_reducible exact ratio_Format.mono _ _ _)
      | (with_reducible exact LeO.refl _)
      | (with_reducible exact LeO.none _)
      | (with_reducible refine LeO.ite ?_ ?_)
      | (with_reducible refine LeO.bind ?_ (fun _ => ?_))
      | exact ih0 _ _ _ _
      | exact ih1 _ _ _ _ _ _ _
      | exact ih2 _ _ _ _ _ _ _ _
      | exact ih3 _ _ _ _ _ _ _
      | exact ratio_Check.mono _ _ _
      | exact ratio_Format.mono _ _ _
      | exact LeO.none _
      | refine LeO.ite ?_ ?_
      | refine LeO.bind ?_ (fun _ => ?_)
    · intro y0 y1 y2 y3 y4 y5 y6 y7
      unfold lexer_Number.j3
      repeat' first
      | (with_reducible exact ih0 _ _ _ _)
      | (with_reducible exact ih1 _ _ _ _ _ _ _)
      | (with_reducible exact ih2 _ _ _ _ _ _ _ _)
      | (with_reducible exact ih3 _ _ _ _ _ _ _)
      | (with_reducible exact ratio_Check.mono _ _ _)
      | (with_reducible exact ratio_Format.mono _ _ _)
      | (with_reducible exact LeO.refl _)
      | (with_reducible exact LeO.none _)
      | (with_reducible refine LeO.ite ?_ ?_)
      | (with_reducible refine LeO.bind ?_ (fun _ => ?_))
      | exact ih0 _ _ _ _
      | exact ih1 _ _ _ _ _ _ _
      | exact ih2 _ _ _ _ _ _ _ _
      | exact ih3 _ _ _ _ _ _ _
      | exact ratio_Check.mono _ _ _
      | exact ratio_Format.mono _ _ _
      | exact LeO.none _
      | refine LeO.ite ?_ ?_
      | refine LeO.bind ?_ (fun _ => ?_)
    · intro y0 y1 y2 y3 y4 y5 y6
      unfold lexer_Number.l0
      repeat' first
      | (with_reducible exact ih0 _ _ _ _)
      | (with_reducible exact ih1 _ _ _ _ _ _ _)
      | (with_reducible exact ih2 _ _ _ _ _ _ _ _)
      | (with_reducible exact ih3 _ _ _ _ _ _ _)
      | (with_reducible exact ratio_Check.mono _ _ _)
      | (with_reducible exact ratio_Format.mono _ _ _)
      | (with_reducible exact LeO.refl _)
      | (with_reducible exact LeO.none _)
      | (with_reducible refine LeO.ite ?_ ?_)
      | (with_reducible refine LeO.bind ?_ (fun _ => ?_))
      | exact ih0 _ _ _ _
      | exact ih1 _ _ _ _ _ _ _
      | exact ih2 _ _ _ _ _ _ _ _
      | exact ih3 _ _ _ _ _ _ _
      | exact ratio_Check.mono _ _ _
      | exact ratio_Format.mono _ _ _
      | exact LeO.none _
      | refine LeO.ite ?_ ?_
      | refine LeO.bind ?_ (fun _ => ?_)
theorem lexer_Number.mono : ∀ a0 a1 k, LeO (lexer_Number.f k a0 a1) (lexer_Number.f (k + 1) a0 a1) := by
  intro a0 a1 k
  obtain ⟨ih0, ih1, ih2, ih3⟩ := lexer_Number.mono_l k
  unfold lexer_Number.f
  repeat' first
      | (with_reducible exact ih0 _ _ _ _)
      | (with_reducible exact ih1 _ _ _ _ _ _ _)
      | (with_reducible exact ih2 _ _ _ _ _ _ _ _)
      | (with_reducible exact ih3 _ _ _ _ _ _ _)
      | (with_reducible exact ratio_Check.mono _ _ _)
      | (with_reducible exact ratio_Format.mono _ _ _)
      | (with_reducible exact LeO.refl _)
      | (with_reducible exact LeO.none _)
      | (with_reducible refine LeO.ite ?_ ?_)
      | (with_reducible refine LeO.bind ?_ (fun _ => ?_))
      | exact ih0 _ _ _ _
      | exact ih1 _ _ _ _ _ _ _
      | exact ih2 _ _ _ _ _ _ _ _
      | exact ih3 _ _ _ _ _ _ _
      | exact ratio_Check.mono _ _ _
      | exact ratio_Format.mono _ _ _
      | exact LeO.none _
      | refine LeO.ite ?_ ?_
      | refine LeO.bind ?_ (fun _ => ?_)
def lexer_Number.T15 : Bool × List (List Nat × List Nat) := (true, [([], []), ([], []), ([1], [1]), ([0, 2], [0, 2]), ([], []), ([], []), ([5], [5]), ([4, 6], [4, 6]), ([3, 7], [3, 7]), ([8], [8]), ([9, 9, 0, 1, 2, 3, 4, 5, 6, 7, 8, 9], [9])])
def lexer_Number.B15 : List Nat := [0, 0, 2, 7, 0, 0, 32, 112, 255, 511, 1023]
theorem lexer_Number.tab15 : rtab .any (opsOf Tryz.f13 15) = lexer_Number.T15 := by kernel_rfl
theorem lexer_Number.bits15 : waitsOk lexer_Number.T15.2 lexer_Number.B15 = true := by kernel_rfl
set_option maxHeartbeats 8000000 in
set_option maxRecDepth 100000 in
theorem lexer_Number.calls (k : Nat) (a0_0 : Int) (a0_1 : Int) (r : ByteArray) (w : World) (hT : Tabs w) (h : lexer_Number.f k a0_0 a0_1 = some r) :
    Calls Tryz.prog 13 #[.agg #[.int .i64 a0_0, .int .i64 a0_1]] w fun e w' => e = .returned (.string r) ∧ Below w.heap.size w w' := by
  have hu27 := Tryz.underlying27
  have HT := Aside0.mk hT
  clear hT
  have HB := Aside0.mk (Below.refl w.heap.size w)
  have H : ((ratio_Check.f k a0_0 a0_1).bind fun t109 => (if t109 = 0 then (if a0_0 < 0 then (lexer_Number.j0 k (⟨#[45]⟩ : ByteArray) (wrap64 (-a0_0)) a0_0 a0_1) else (lexer_Number.j0 k (⟨#[]⟩ : ByteArray) a0_0 a0_0 a0_1)) else (some (⟨#[]⟩ : ByteArray)))) = some r := h
  clear h
  replace H := Option.bind_eq_some_iff.mp H
  obtain ⟨t109, A20, H⟩ := H
  replace H : (if t109 = 0 then (if a0_0 < 0 then (lexer_Number.j0 k (⟨#[45]⟩ : ByteArray) (wrap64 (-a0_0)) a0_0 a0_1) else (lexer_Number.j0 k (⟨#[]⟩ : ByteArray) a0_0 a0_0 a0_1)) else (some (⟨#[]⟩ : ByteArray))) = some r := H
  have A2 := Aside0.mk A20
  clear A20
  by_cases c3 : t109 = 0
  · rw [if_pos c3] at H
    have c3b0 : (t109 == 0) = true := beq_iff_eq.mpr c3
    have c3b1 : (t109 != 0) = false := bne_eq_false_iff_eq.mpr c3
    clear c3
    have HC4 := Aside0.mk H
    clear H
    go_enter Tryz.func13, Tryz.ntmps13
    try go_wp2_with (first | ((with_reducible refine gate_dst (N := 1) rfl ?_); (try (refine gate_guard (by rfl) ?_; dsimp only)); refine box_event ?hg (N := 1) ?hd (cs := #[.int .i64 a0_0, .int .i64 a0_1]) (t := 27) ?hr ?_; (case hd => rfl); (case hg => rfl); (case hr => first | (go_simp; done) | (go_simp; rfl)); intro gb108 hg w5 hbox hb; have n0_ := Aside0.mk (below_step (by repeat (first | (with_reducible first | exact HB.out | apply below_alloc | apply pw_below_drewN | apply below_drew1) | exact HB.out)) hb); have n1_ := Aside0.mk (hbox); have n2_ := Aside0.mk ((by rw [hg]; exact (below_size (by repeat (first | (with_reducible first | exact HB.out | apply below_alloc | apply pw_below_drewN | apply below_drew1) | exact HB.out))) : w.heap.size ≤ gb108)); have n3_ := Aside0.mk ((by rw [hg]; exact (below_size (by repeat (first | (with_reducible first | exact HB.out | apply below_alloc | apply pw_below_drewN | apply below_drew1) | exact HB.out))) : w.heap.size ≤ gb108)); clear HB; have HB := n0_; have BK108 := n1_; have GW108 := n2_; have GE108 := n3_; clear n0_ n1_ n2_ n3_; clear hb hbox hg; have hcz6_0 : w5.cell? ⟨gb108, 0, none⟩ = some (.int .i64 a0_0) := (blk_cell BK108.out 0).trans rfl; have hcz6_1 : w5.cell? ⟨gb108, 1, none⟩ = some (.int .i64 a0_1) := (blk_cell BK108.out 1).trans rfl; have hfz6_0 := blk_frozen BK108.out 0; have hfz6_1 := blk_frozen BK108.out 1) | ((with_reducible refine gate_callee (f := 14) rfl ?_); refine goesL_ (some 10) rfl rfl Tryz.func14 (by kernel_rfl) rfl #[.agg #[.int .i64 a0_0, .int .i64 a0_1]] rfl (by (try simp only [List.map_toArray, List.map_cons, List.map_nil]); first | done | rfl | (simp only [List.length_drop, List.length_take]; rfl)) ?_; (with_reducible refine (ratio_Check.calls k a0_0 a0_1 t109 _ A2.out).mono ?_); rintro e w7 ⟨rfl, hb⟩; refine ⟨_, rfl, ?_⟩; have n0_ := Aside0.mk (blk_below (g := gb108) (o := .cells #[.int .i64 a0_0, .int .i64 a0_1] 27 (0, 0)) (by (with_reducible repeat (first | refine blk_drewN ?_ _ | refine blk_drew ?_ | refine blk_alloc ?_ _)); exact BK108.out) hb); have n1_ := Aside0.mk (below_step (by repeat (first | (with_reducible first | exact HB.out | apply below_alloc | apply pw_below_drewN | apply below_drew1 | refine below_set ?_ GE108.out) | exact HB.out)) hb); clear BK108; clear HB; have BK108 := n0_; have HB := n1_; clear n0_ n1_; (try clear hb); (try clear hb2); (try clear hk); (try clear hi)))
    have n0_ := Aside0.mk (blk_drew BK108.out)
    have n1_ := Aside0.mk (below_drew1 HB.out)
    clear BK108
    clear HB
    have BK108 := n0_
    have HB := n1_
    clear n0_ n1_
    refine start_ (n := 4) (S := fun w' => w'.cell? ⟨gb108, 0, none⟩ = some (.int .i64 a0_0) ∧ w'.cell? ⟨gb108, 1, none⟩ = some (.int .i64 a0_1)) (ds := []) #[false, false, false, false] (by kernel_rfl) rfl rfl ⟨(blk_cell BK108.out 0).trans rfl, (blk_cell BK108.out 1).trans rfl⟩ (fun hHeld => ?_)
    generalize w7.drew = w8 at BK108 HB hHeld ⊢
    refine pure_ (i := 0) (N := some 12) (v := ?_) (a' := ?_) #[true, false, false, false] rfl rfl (by kernel_rfl) (fun _ _ _ h => h) (Or.inl ⟨by rfl, ?_⟩) ?_ ?_
    rotate_left
    · intro w'
      go_simp
      with_reducible rfl
    rotate_left
    · simp only [Act.put, List.setIfInBounds_toArray, List.set_cons_zero, List.set_cons_succ, i64_w, i32_w]
      rfl
    refine pure_ (i := 2) (N := some 3) (v := ?_) (a' := ?_) #[true, false, true, false] rfl rfl (by kernel_rfl) (fun _ _ _ h => h) (Or.inl ⟨by rfl, ?_⟩) ?_ ?_
    rotate_left
    · intro w'
      go_simp
      with_reducible rfl
    rotate_left
    · simp only [Act.put, List.setIfInBounds_toArray, List.set_cons_zero, List.set_cons_succ, i64_w, i32_w]
      rfl
    refine take_ (i := 1) (N := some 13) (v := ?_) (a' := ?_) #[true, true, true, false] rfl rfl (by kernel_rfl) (fun _ _ _ h => h) (Or.inl ⟨by rfl, ?_⟩) hHeld ?_ ?_
    rotate_left
    · rintro w' ⟨s0, s1⟩
      go_simp
      with_reducible rfl
    rotate_left
    · simp only [Act.put, List.setIfInBounds_toArray, List.set_cons_zero, List.set_cons_succ, i64_w, i32_w]
      rfl
    refine pure_ (i := 3) (N := some 4) (v := ?_) (a' := ?_) #[true, true, true, true] rfl rfl (by kernel_rfl) (fun _ _ _ h => h) (Or.inl ⟨by rfl, ?_⟩) ?_ ?_
    rotate_left
    · intro w'
      go_simp
      with_reducible rfl
    rotate_left
    · simp only [Act.put, List.setIfInBounds_toArray, List.set_cons_zero, List.set_cons_succ, i64_w, i32_w]
      rfl
    refine done_ (by kernel_rfl) ?_
    go_upto_if 15 with (fail)
    go_cut [3, 4] (fun v3 v4 wc => ∃ (kq : Nat) (x3_3 : ByteArray) (x4_3 : Int), v3 = .string x3_3 ∧ v4 = .int .i64 x4_3 ∧ Aside0 (lexer_Number.j0 kq x3_3 x4_3 a0_0 a0_1 = some r) ∧ Aside0 (kq ≤ k) ∧ Aside0 (wc.heap[gb108]? = some (.cells #[.int .i64 a0_0, .int .i64 a0_1] 27 (0, 0))) ∧ Aside0 (Below w.heap.size w wc))
    case first =>
      have H := HC4.out
      clear HC4
      by_cases c9 : a0_0 < 0
      · rw [if_pos c9] at H
        have c9b0 : decide (a0_0 < 0) = true := decide_eq_true c9
        clear c9
        (first | rw [c9b0] | (simp only [i64_w, i32_w]; rw [c9b0]) | skip)
        have H' := Aside0.mk H
        clear H
        go_wp2
        go_meet
        case rel => exact ⟨_, ((⟨#[45]⟩ : ByteArray)), (wrap64 (-a0_0)), (by first | rfl | (simp; done) | (simp [*]; done)), (by first | rfl | (simp; done) | (simp [*]; done)), H', ⟨by first | omega | exact Nat.le_refl _⟩, ⟨by (with_reducible repeat (first | refine blk_drewN ?_ _ | refine blk_drew ?_ | refine blk_alloc ?_ _)); exact BK108.out⟩, ⟨by repeat (first | (with_reducible first | exact HB.out | apply below_alloc | apply pw_below_drewN | apply below_drew1 | refine below_set ?_ GE108.out) | exact HB.out)⟩⟩
      · rw [if_neg c9] at H
        have c9b0 : decide (a0_0 < 0) = false := decide_eq_false c9
        clear c9
        (first | rw [c9b0] | (simp only [i64_w, i32_w]; rw [c9b0]) | skip)
        have H' := Aside0.mk H
        clear H
        go_wp2
        go_meet
        case rel => exact ⟨_, ((⟨#[]⟩ : ByteArray)), (a0_0), (by first | rfl | (simp; done) | (simp [*]; done)), (by first | rfl | (simp; done) | (simp [*]; done)), H', ⟨by first | omega | exact Nat.le_refl _⟩, ⟨by (with_reducible repeat (first | refine blk_drewN ?_ _ | refine blk_drew ?_ | refine blk_alloc ?_ _)); exact BK108.out⟩, ⟨by repeat (first | (with_reducible first | exact HB.out | apply below_alloc | apply pw_below_drewN | apply below_drew1 | refine below_set ?_ GE108.out) | exact HB.out)⟩⟩
    case rest =>
      clear HC4
      try clear c1
      try clear p2
      try clear c3
      try clear c3b0
      try clear c3b1
      try clear p6
      try clear c9
      try clear c9b0
      try clear hcz6_0
      try clear hcz6_1
      try clear hfz6_0
      try clear hfz6_1
      obtain ⟨kq, x3_3, x4_3, rfl, rfl, HA, HJ3, BK108, HB⟩ := hcut
      cases kq with
      | zero => exact absurd HA.out (by simp [lexer_Number.j0])
      | succ kj3 =>
        have H := HA.out
        clear HA
        simp only [lexer_Number.j0] at H
        by_cases c10 : a0_1 = 0
        · rw [if_pos c10] at H
          exact absurd H (by simp)
        · rw [if_neg c10] at H
          have c10b0 : (a0_1 == 0) = false := beq_eq_false_iff_ne.mpr c10
          have c10b1 : (a0_1 != 0) = true := bne_iff_ne.mpr c10
          replace H := Option.bind_eq_some_iff.mp H
          obtain ⟨t110, A110, H⟩ := H
          replace H : (lexer_Number.l0 kj3 x3_3 x4_3 t110 0 1 a0_0 a0_1) = some r := H
          have A11 := Aside0.mk A110
          clear A110
          have HC12 := Aside0.mk H
          clear H
          have hcz13_0 : wc.cell? ⟨gb108, 0, none⟩ = some (.int .i64 a0_0) := (blk_cell BK108.out 0).trans rfl
          have hcz13_1 : wc.cell? ⟨gb108, 1, none⟩ = some (.int .i64 a0_1) := (blk_cell BK108.out 1).trans rfl
          have hfz13_0 := blk_frozen BK108.out 0
          have hfz13_1 := blk_frozen BK108.out 1
          go_upto_block 0 with (first | ((with_reducible refine gate_callee (f := 33) rfl ?_); refine goesL_ (some 22) rfl rfl Tryz.func33 (by kernel_rfl) rfl #[.int .i64 (wrap64 (Int.tdiv x4_3 a0_1))] rfl (by (try simp only [List.map_toArray, List.map_cons, List.map_nil]); first | done | rfl | (simp only [List.length_drop, List.length_take]; rfl)) ?_; (with_reducible refine (strconv_Itoa.calls (wrap64 (Int.tdiv x4_3 a0_1)) t110 _ ?side1 A11.out).mono ?_); (case side1 => exact Tabs.below HT.out (by repeat (first | (with_reducible first | exact HB.out | apply below_alloc | apply pw_below_drewN | apply below_drew1 | refine below_set ?_ GE108.out) | exact HB.out))); rintro e w14 ⟨rfl, hb⟩; refine ⟨_, rfl, ?_⟩; have n0_ := Aside0.mk (blk_below (g := gb108) (o := .cells #[.int .i64 a0_0, .int .i64 a0_1] 27 (0, 0)) (by (with_reducible repeat (first | refine blk_drewN ?_ _ | refine blk_drew ?_ | refine blk_alloc ?_ _)); exact BK108.out) hb); have n1_ := Aside0.mk (below_step (by repeat (first | (with_reducible first | exact HB.out | apply below_alloc | apply pw_below_drewN | apply below_drew1 | refine below_set ?_ GE108.out) | exact HB.out)) hb); clear BK108; clear HB; have BK108 := n0_; have HB := n1_; clear n0_ n1_; (try clear hb); (try clear hb2); (try clear hk); (try clear hi)))
          (try simp only [Act.put, List.setIfInBounds_toArray, List.set_cons_zero, List.set_cons_succ])
          go_cut [6, 7] (fun v6 v7 wc => ∃ (kq : Nat) (x6_11 : Int) (x7_11 : Int), v6 = .int .i64 x6_11 ∧ v7 = .int .i64 x7_11 ∧ Aside0 (lexer_Number.j2 kq x3_3 x4_3 t110 x6_11 x7_11 a0_0 a0_1 = some r) ∧ Aside0 (kq ≤ kj3) ∧ Aside0 (wc.heap[gb108]? = some (.cells #[.int .i64 a0_0, .int .i64 a0_1] 27 (0, 0))) ∧ Aside0 (Below w.heap.size w wc))
          case first =>
            have H := HC12.out
            clear HC12
            have H' := Aside0.mk H
            clear H
            go_wp2
            go_loopg [6, 7] kj3 (fun kq v6 v7 w' => ∃ (x6_2 : Int) (x7_2 : Int), v6 = .int .i64 x6_2 ∧ v7 = .int .i64 x7_2 ∧ Aside0 (lexer_Number.l0 kq x3_3 x4_3 t110 x6_2 x7_2 a0_0 a0_1 = some r) ∧ Aside0 (kq ≤ kj3) ∧ Aside0 (w'.heap[gb108]? = some (.cells #[.int .i64 a0_0, .int .i64 a0_1] 27 (0, 0))) ∧ Aside0 (Below w.heap.size w w'))
            case atStart => exact ⟨(0), (1), (by first | rfl | (simp; done) | (simp [*]; done)), (by first | rfl | (simp; done) | (simp [*]; done)), H', ⟨Nat.le_refl _⟩, ⟨by (with_reducible repeat (first | refine blk_drewN ?_ _ | refine blk_drew ?_ | refine blk_alloc ?_ _)); exact BK108.out⟩, ⟨by repeat (first | (with_reducible first | exact HB.out | apply below_alloc | apply pw_below_drewN | apply below_drew1 | refine below_set ?_ GE108.out) | exact HB.out)⟩⟩
            case round =>
              clear H'
              try clear c1
              try clear p2
              try clear c3
              try clear c3b0
              try clear c3b1
              try clear p6
              try clear c9
              try clear c9b0
              try clear c10
              try clear c10b0
              try clear c10b1
              try clear c13
              try clear c14
              try clear hcz13_0
              try clear hcz13_1
              try clear hcz6_0
              try clear hcz6_1
              try clear hfz13_0
              try clear hfz13_1
              try clear hfz6_0
              try clear hfz6_1
              try clear p2
              try clear p6
              obtain ⟨x6_2, x7_2, rfl, rfl, HA, HK2, BK108, HB⟩ := hrel
              cases gk with
              | zero => exact absurd HA.out (by simp [lexer_Number.l0])
              | succ k2 =>
                have H := HA.out
                clear HA
                simp only [lexer_Number.l0] at H
                by_cases c15 : x6_2 < 18
                · rw [if_pos c15] at H
                  have c15b0 : decide (x6_2 < 18) = true := decide_eq_true c15
                  clear c15
                  (first | rw [c15b0] | (simp only [i64_w, i32_w]; rw [c15b0]) | skip)
                  by_cases c16 : a0_1 = 0
                  · rw [if_pos c16] at H
                    exact absurd H (by simp)
                  · rw [if_neg c16] at H
                    have c16b0 : (a0_1 == 0) = false := beq_eq_false_iff_ne.mpr c16
                    have c16b1 : (a0_1 != 0) = true := bne_iff_ne.mpr c16
                    by_cases c17 : (Int.tmod x7_2 a0_1) = 0
                    · rw [if_pos c17] at H
                      have c17b0 : ((Int.tmod x7_2 a0_1) == 0) = true := beq_iff_eq.mpr c17
                      have c17b1 : ((Int.tmod x7_2 a0_1) != 0) = false := bne_eq_false_iff_eq.mpr c17
                      clear c17
                      have H' := Aside0.mk H
                      clear H
                      have hcz18_0 : wr.cell? ⟨gb108, 0, none⟩ = some (.int .i64 a0_0) := (blk_cell BK108.out 0).trans rfl
                      have hcz18_1 : wr.cell? ⟨gb108, 1, none⟩ = some (.int .i64 a0_1) := (blk_cell BK108.out 1).trans rfl
                      have hfz18_0 := blk_frozen BK108.out 0
                      have hfz18_1 := blk_frozen BK108.out 1
                      go_wp2
                      go_meet
                      case rel => exact ⟨_, (x6_2), (x7_2), (by first | rfl | (simp; done) | (simp [*]; done)), (by first | rfl | (simp; done) | (simp [*]; done)), H', ⟨by have := HJ3.out; have := HK2.out; first | omega | exact Nat.le_refl _⟩, ⟨by (with_reducible repeat (first | refine blk_drewN ?_ _ | refine blk_drew ?_ | refine blk_alloc ?_ _)); exact BK108.out⟩, ⟨by repeat (first | (with_reducible first | exact HB.out | apply below_alloc | apply pw_below_drewN | apply below_drew1 | refine below_set ?_ GE108.out) | exact HB.out)⟩⟩
                    · rw [if_neg c17] at H
                      have c17b0 : ((Int.tmod x7_2 a0_1) == 0) = false := beq_eq_false_iff_ne.mpr c17
                      have c17b1 : ((Int.tmod x7_2 a0_1) != 0) = true := bne_iff_ne.mpr c17
                      have H' := Aside0.mk H
                      clear H
                      have hcz19_0 : wr.cell? ⟨gb108, 0, none⟩ = some (.int .i64 a0_0) := (blk_cell BK108.out 0).trans rfl
                      have hcz19_1 : wr.cell? ⟨gb108, 1, none⟩ = some (.int .i64 a0_1) := (blk_cell BK108.out 1).trans rfl
                      have hfz19_0 := blk_frozen BK108.out 0
                      have hfz19_1 := blk_frozen BK108.out 1
                      go_wp2
                      go_roundg k2
                      case measure => have := HJ3.out; have := HK2.out; omega
                      case rel => exact ⟨(wrap64 (x6_2 + 1)), (wrap64 (x7_2 * 10)), (by first | rfl | (simp; done) | (simp [*]; done)), (by first | rfl | (simp; done) | (simp [*]; done)), H', ⟨by have := HJ3.out; have := HK2.out; omega⟩, ⟨by (with_reducible repeat (first | refine blk_drewN ?_ _ | refine blk_drew ?_ | refine blk_alloc ?_ _)); exact BK108.out⟩, ⟨by repeat (first | (with_reducible first | exact HB.out | apply below_alloc | apply pw_below_drewN | apply below_drew1 | refine below_set ?_ GE108.out) | exact HB.out)⟩⟩
                · rw [if_neg c15] at H
                  have c15b0 : decide (x6_2 < 18) = false := decide_eq_false c15
                  clear c15
                  (first | rw [c15b0] | (simp only [i64_w, i32_w]; rw [c15b0]) | skip)
                  have H' := Aside0.mk H
                  clear H
                  go_wp2
                  go_meet
                  case rel => exact ⟨_, (x6_2), (x7_2), (by first | rfl | (simp; done) | (simp [*]; done)), (by first | rfl | (simp; done) | (simp [*]; done)), H', ⟨by have := HJ3.out; have := HK2.out; first | omega | exact Nat.le_refl _⟩, ⟨by (with_reducible repeat (first | refine blk_drewN ?_ _ | refine blk_drew ?_ | refine blk_alloc ?_ _)); exact BK108.out⟩, ⟨by repeat (first | (with_reducible first | exact HB.out | apply below_alloc | apply pw_below_drewN | apply below_drew1 | refine below_set ?_ GE108.out) | exact HB.out)⟩⟩
          case rest =>
            clear HC12
            try clear c1
            try clear p2
            try clear c3
            try clear c3b0
            try clear c3b1
            try clear p6
            try clear c9
            try clear c9b0
            try clear c10
            try clear c10b0
            try clear c10b1
            try clear c13
            try clear c14
            try clear c15
            try clear c15b0
            try clear c16
            try clear c16b0
            try clear c16b1
            try clear c17
            try clear c17b0
            try clear c17b1
            try clear hcz13_0
            try clear hcz13_1
            try clear hcz18_0
            try clear hcz18_1
            try clear hcz19_0
            try clear hcz19_1
            try clear hcz6_0
            try clear hcz6_1
            try clear hfz13_0
            try clear hfz13_1
            try clear hfz18_0
            try clear hfz18_1
            try clear hfz19_0
            try clear hfz19_1
            try clear hfz6_0
            try clear hfz6_1
            try clear p2
            try clear p6
            obtain ⟨kq, x6_11, x7_11, rfl, rfl, HA, HJ11, BK108, HB⟩ := hcut
            cases kq with
            | zero => exact absurd HA.out (by simp [lexer_Number.j2])
            | succ kj11 =>
              have H := HA.out
              clear HA
              simp only [lexer_Number.j2] at H
              have HC20 := Aside0.mk H
              clear H
              go_upto_region 11 with (fail)
              go_cut [47] (fun v47 wc => ∃ (kq : Nat) (x47_19 : Bool), v47 = .bool x47_19 ∧ Aside0 (lexer_Number.j3 kq x3_3 x4_3 t110 x6_11 x7_11 x47_19 a0_0 a0_1 = some r) ∧ Aside0 (kq ≤ kj11) ∧ Aside0 (wc.heap[gb108]? = some (.cells #[.int .i64 a0_0, .int .i64 a0_1] 27 (0, 0))) ∧ Aside0 (Below w.heap.size w wc))
              case first =>
                have H := HC20.out
                clear HC20
                by_cases c21 : a0_1 = 0
                · rw [if_pos c21] at H
                  exact absurd H (by simp)
                · rw [if_neg c21] at H
                  have c21b0 : (a0_1 == 0) = false := beq_eq_false_iff_ne.mpr c21
                  have c21b1 : (a0_1 != 0) = true := bne_iff_ne.mpr c21
                  (first | rw [c21b0] | (simp only [i64_w, i32_w]; rw [c21b0]) | skip)
                  by_cases c22 : (Int.tmod x7_11 a0_1) = 0
                  · rw [if_pos c22] at H
                    have c22b0 : ((Int.tmod x7_11 a0_1) == 0) = true := beq_iff_eq.mpr c22
                    have c22b1 : ((Int.tmod x7_11 a0_1) != 0) = false := bne_eq_false_iff_eq.mpr c22
                    clear c22
                    have H' := Aside0.mk H
                    clear H
                    have hcz23_0 : wc.cell? ⟨gb108, 0, none⟩ = some (.int .i64 a0_0) := (blk_cell BK108.out 0).trans rfl
                    have hcz23_1 : wc.cell? ⟨gb108, 1, none⟩ = some (.int .i64 a0_1) := (blk_cell BK108.out 1).trans rfl
                    have hfz23_0 := blk_frozen BK108.out 0
                    have hfz23_1 := blk_frozen BK108.out 1
                    go_wp2
                    go_meet
                    case rel => exact ⟨_, (decide ((wrap64 ((t110.size : Int) + x6_11)) > 18)), (by first | rfl | (simp; done) | (simp [*]; done)), H', ⟨by have := HJ3.out; have := HJ11.out; first | omega | exact Nat.le_refl _⟩, ⟨by (with_reducible repeat (first | refine blk_drewN ?_ _ | refine blk_drew ?_ | refine blk_alloc ?_ _)); exact BK108.out⟩, ⟨by repeat (first | (with_reducible first | exact HB.out | apply below_alloc | apply pw_below_drewN | apply below_drew1 | refine below_set ?_ GE108.out) | exact HB.out)⟩⟩
                  · rw [if_neg c22] at H
                    have c22b0 : ((Int.tmod x7_11 a0_1) == 0) = false := beq_eq_false_iff_ne.mpr c22
                    have c22b1 : ((Int.tmod x7_11 a0_1) != 0) = true := bne_iff_ne.mpr c22
                    have H' := Aside0.mk H
                    clear H
                    have hcz24_0 : wc.cell? ⟨gb108, 0, none⟩ = some (.int .i64 a0_0) := (blk_cell BK108.out 0).trans rfl
                    have hcz24_1 : wc.cell? ⟨gb108, 1, none⟩ = some (.int .i64 a0_1) := (blk_cell BK108.out 1).trans rfl
                    have hfz24_0 := blk_frozen BK108.out 0
                    have hfz24_1 := blk_frozen BK108.out 1
                    go_wp2
                    go_meet
                    case rel => exact ⟨_, (true), (by first | rfl | (simp; done) | (simp [*]; done)), H', ⟨by have := HJ3.out; have := HJ11.out; first | omega | exact Nat.le_refl _⟩, ⟨by (with_reducible repeat (first | refine blk_drewN ?_ _ | refine blk_drew ?_ | refine blk_alloc ?_ _)); exact BK108.out⟩, ⟨by repeat (first | (with_reducible first | exact HB.out | apply below_alloc | apply pw_below_drewN | apply below_drew1 | refine below_set ?_ GE108.out) | exact HB.out)⟩⟩
              case rest =>
                clear HC20
                try clear c1
                try clear c2
                try clear p2
                try clear c3
                try clear c3b0
                try clear c3b1
                try clear p6
                try clear c9
                try clear c9b0
                try clear c10
                try clear c10b0
                try clear c10b1
                try clear c13
                try clear c14
                try clear c15
                try clear c15b0
                try clear c16
                try clear c16b0
                try clear c16b1
                try clear c17
                try clear c17b0
                try clear c17b1
                try clear c21
                try clear c21b0
                try clear c21b1
                try clear c22
                try clear c22b0
                try clear c22b1
                try clear hcz13_0
                try clear hcz13_1
                try clear hcz18_0
                try clear hcz18_1
                try clear hcz19_0
                try clear hcz19_1
                try clear hcz23_0
                try clear hcz23_1
                try clear hcz24_0
                try clear hcz24_1
                try clear hcz6_0
                try clear hcz6_1
                try clear hfz13_0
                try clear hfz13_1
                try clear hfz18_0
                try clear hfz18_1
                try clear hfz19_0
                try clear hfz19_1
                try clear hfz23_0
                try clear hfz23_1
                try clear hfz24_0
                try clear hfz24_1
                try clear hfz6_0
                try clear hfz6_1
                try clear p2
                try clear p6
                obtain ⟨kq, x47_19, rfl, HA, HJ19, BK108, HB⟩ := hcut
                cases kq with
                | zero => exact absurd HA.out (by simp [lexer_Number.j3])
                | succ kj19 =>
                  have H := HA.out
                  clear HA
                  simp only [lexer_Number.j3] at H
                  by_cases c25 : x47_19 = true
                  · subst c25
                    have H1 : ((ratio_Format.f kj19 a0_0 a0_1).bind fun t111 => (some t111)) = some r := by rw [if_pos rfl] at H; exact H
                    clear H
                    have H := H1
                    clear H1
                    replace H := Option.bind_eq_some_iff.mp H
                    obtain ⟨t111, A260, H⟩ := H
                    replace H : (some t111) = some r := H
                    have A26 := Aside0.mk A260
                    clear A260
                    obtain rfl := Option.some.inj H
                    have hcz27_0 : wc.cell? ⟨gb108, 0, none⟩ = some (.int .i64 a0_0) := (blk_cell BK108.out 0).trans rfl
                    have hcz27_1 : wc.cell? ⟨gb108, 1, none⟩ = some (.int .i64 a0_1) := (blk_cell BK108.out 1).trans rfl
                    have hfz27_0 := blk_frozen BK108.out 0
                    have hfz27_1 := blk_frozen BK108.out 1
                    go_wp2_with (first | ((with_reducible refine gate_callee (f := 35) rfl ?_); refine goesL_ (some 49) rfl rfl Tryz.func35 (by kernel_rfl) rfl #[.agg #[.int .i64 a0_0, .int .i64 a0_1]] rfl (by (try simp only [List.map_toArray, List.map_cons, List.map_nil]); first | done | rfl | (simp only [List.length_drop, List.length_take]; rfl)) ?_; (with_reducible refine (ratio_Format.calls kj19 a0_0 a0_1 t111 _ ?side1 A26.out).mono ?_); (case side1 => exact Tabs.below HT.out (by repeat (first | (with_reducible first | exact HB.out | apply below_alloc | apply pw_below_drewN | apply below_drew1 | refine below_set ?_ GE108.out) | exact HB.out))); rintro e w28 ⟨rfl, hb⟩; refine ⟨_, rfl, ?_⟩; have n0_ := Aside0.mk (blk_below (g := gb108) (o := .cells #[.int .i64 a0_0, .int .i64 a0_1] 27 (0, 0)) (by (with_reducible repeat (first | refine blk_drewN ?_ _ | refine blk_drew ?_ | refine blk_alloc ?_ _)); exact BK108.out) hb); have n1_ := Aside0.mk (below_step (by repeat (first | (with_reducible first | exact HB.out | apply below_alloc | apply pw_below_drewN | apply below_drew1 | refine below_set ?_ GE108.out) | exact HB.out)) hb); clear BK108; clear HB; have BK108 := n0_; have HB := n1_; clear n0_ n1_; (try clear hb); (try clear hb2); (try clear hk); (try clear hi)))
                    go_ret
                    exact ⟨by first | rfl | (simp [errW_none, errW_some] <;> rfl) | (simp [*, errW_none, errW_some] <;> rfl), by repeat (first | (with_reducible first | exact HB.out | apply below_alloc | apply pw_below_drewN | apply below_drew1 | refine below_set ?_ GE108.out) | exact HB.out)⟩
                  · replace c25 := Bool.eq_false_iff.mpr c25
                    subst c25
                    have H1 : (if x6_11 = 0 then (if x3_3.size + t110.size ≤ 9223372036854775807 then (some (x3_3 ++ t110)) else (none)) else (if a0_1 = 0 then (none) else ((strconv_Itoa.f (wrap64 ((Int.tmod x4_3 a0_1) * (wrap64 (Int.tdiv x7_11 a0_1))))).bind fun t112 => (if x3_3.size + t110.size ≤ 9223372036854775807 then (if (x3_3 ++ t110).size + 1 ≤ 9223372036854775807 then ((strings_Repeat.f (⟨#[48]⟩ : ByteArray) (wrap64 (x6_11 - (t112.size : Int)))).bind fun t113 => (if ((x3_3 ++ t110) ++ (⟨#[46]⟩ : ByteArray)).size + t113.size ≤ 9223372036854775807 then (if (((x3_3 ++ t110) ++ (⟨#[46]⟩ : ByteArray)) ++ t113).size + t112.size ≤ 9223372036854775807 then (some ((((x3_3 ++ t110) ++ (⟨#[46]⟩ : ByteArray)) ++ t113) ++ t112)) else (none)) else (none))) else (none)) else (none))))) = some r := by rw [if_neg (show ¬ (false = true) by decide)] at H; exact H
                    clear H
                    have H := H1
                    clear H1
                    by_cases c29 : x6_11 = 0
                    · rw [if_pos c29] at H
                      have c29b0 : (x6_11 == 0) = true := beq_iff_eq.mpr c29
                      have c29b1 : (x6_11 != 0) = false := bne_eq_false_iff_eq.mpr c29
                      clear c29
                      by_cases c30 : x3_3.size + t110.size ≤ 9223372036854775807
                      · rw [if_pos c30] at H
                        have c30b0 := eq_true c30
                        have c30b1 : decide (x3_3.size + t110.size ≤ 9223372036854775807) = true := decide_eq_true c30
                        try have c30b2 : (9223372036854775807 < x3_3.size + t110.size) = False := eq_false (Nat.not_lt.2 c30)
                        obtain rfl := Option.some.inj H
                        go_wp2
                        go_ret
                        exact ⟨by first | rfl | (simp [errW_none, errW_some] <;> rfl) | (simp [*, errW_none, errW_some] <;> rfl), by repeat (first | (with_reducible first | exact HB.out | apply below_alloc | apply pw_below_drewN | apply below_drew1 | refine below_set ?_ GE108.out) | exact HB.out)⟩
                      · rw [if_neg c30] at H
                        exact absurd H (by simp)
                    · rw [if_neg c29] at H
                      have c29b0 : (x6_11 == 0) = false := beq_eq_false_iff_ne.mpr c29
                      have c29b1 : (x6_11 != 0) = true := bne_iff_ne.mpr c29
                      by_cases c31 : a0_1 = 0
                      · rw [if_pos c31] at H
                        exact absurd H (by simp)
                      · rw [if_neg c31] at H
                        have c31b0 : (a0_1 == 0) = false := beq_eq_false_iff_ne.mpr c31
                        have c31b1 : (a0_1 != 0) = true := bne_iff_ne.mpr c31
                        replace H := Option.bind_eq_some_iff.mp H
                        obtain ⟨t112, A320, H⟩ := H
                        replace H : (if x3_3.size + t110.size ≤ 9223372036854775807 then (if (x3_3 ++ t110).size + 1 ≤ 9223372036854775807 then ((strings_Repeat.f (⟨#[48]⟩ : ByteArray) (wrap64 (x6_11 - (t112.size : Int)))).bind fun t113 => (if ((x3_3 ++ t110) ++ (⟨#[46]⟩ : ByteArray)).size + t113.size ≤ 9223372036854775807 then (if (((x3_3 ++ t110) ++ (⟨#[46]⟩ : ByteArray)) ++ t113).size + t112.size ≤ 9223372036854775807 then (some ((((x3_3 ++ t110) ++ (⟨#[46]⟩ : ByteArray)) ++ t113) ++ t112)) else (none)) else (none))) else (none)) else (none)) = some r := H
                        have A32 := Aside0.mk A320
                        clear A320
                        by_cases c33 : x3_3.size + t110.size ≤ 9223372036854775807
                        · rw [if_pos c33] at H
                          have c33b0 := eq_true c33
                          have c33b1 : decide (x3_3.size + t110.size ≤ 9223372036854775807) = true := decide_eq_true c33
                          try have c33b2 : (9223372036854775807 < x3_3.size + t110.size) = False := eq_false (Nat.not_lt.2 c33)
                          by_cases c34 : (x3_3 ++ t110).size + 1 ≤ 9223372036854775807
                          · rw [if_pos c34] at H
                            have c34b0 := eq_true c34
                            have c34b1 : decide ((x3_3 ++ t110).size + 1 ≤ 9223372036854775807) = true := decide_eq_true c34
                            try have c34b3 : (9223372036854775807 < x3_3.size + t110.size + 1) = False := eq_false (Nat.not_lt.2 (by have z_ := c34; simp only [ByteArray.size_append'] at z_; exact z_))
                            try have c34b2 : (9223372036854775807 < (x3_3 ++ t110).size + 1) = False := eq_false (Nat.not_lt.2 c34)
                            replace H := Option.bind_eq_some_iff.mp H
                            obtain ⟨t113, A350, H⟩ := H
                            replace H : (if ((x3_3 ++ t110) ++ (⟨#[46]⟩ : ByteArray)).size + t113.size ≤ 9223372036854775807 then (if (((x3_3 ++ t110) ++ (⟨#[46]⟩ : ByteArray)) ++ t113).size + t112.size ≤ 9223372036854775807 then (some ((((x3_3 ++ t110) ++ (⟨#[46]⟩ : ByteArray)) ++ t113) ++ t112)) else (none)) else (none)) = some r := H
                            have A35 := Aside0.mk A350
                            clear A350
                            by_cases c36 : ((x3_3 ++ t110) ++ (⟨#[46]⟩ : ByteArray)).size + t113.size ≤ 9223372036854775807
                            · rw [if_pos c36] at H
                              have c36b0 := eq_true c36
                              have c36b1 : decide (((x3_3 ++ t110) ++ (⟨#[46]⟩ : ByteArray)).size + t113.size ≤ 9223372036854775807) = true := decide_eq_true c36
                              try have c36b3 : (9223372036854775807 < x3_3.size + t110.size + 1 + t113.size) = False := eq_false (Nat.not_lt.2 (by have z_ := c36; simp only [ByteArray.size_append'] at z_; exact z_))
                              try have c36b2 : (9223372036854775807 < ((x3_3 ++ t110) ++ (⟨#[46]⟩ : ByteArray)).size + t113.size) = False := eq_false (Nat.not_lt.2 c36)
                              by_cases c37 : (((x3_3 ++ t110) ++ (⟨#[46]⟩ : ByteArray)) ++ t113).size + t112.size ≤ 9223372036854775807
                              · rw [if_pos c37] at H
                                have c37b0 := eq_true c37
                                have c37b1 : decide ((((x3_3 ++ t110) ++ (⟨#[46]⟩ : ByteArray)) ++ t113).size + t112.size ≤ 9223372036854775807) = true := decide_eq_true c37
                                try have c37b3 : (9223372036854775807 < x3_3.size + t110.size + 1 + t113.size + t112.size) = False := eq_false (Nat.not_lt.2 (by have z_ := c37; simp only [ByteArray.size_append'] at z_; exact z_))
                                try have c37b2 : (9223372036854775807 < (((x3_3 ++ t110) ++ (⟨#[46]⟩ : ByteArray)) ++ t113).size + t112.size) = False := eq_false (Nat.not_lt.2 c37)
                                obtain rfl := Option.some.inj H
                                try go_wp2
                                have n0_ := Aside0.mk (blk_drew BK108.out)
                                have n1_ := Aside0.mk (below_drew1 HB.out)
                                clear BK108
                                clear HB
                                have BK108 := n0_
                                have HB := n1_
                                clear n0_ n1_
                                refine start_ (n := 11) (S := fun w' => w'.cell? ⟨gb108, 0, none⟩ = some (.int .i64 a0_0) ∧ w'.cell? ⟨gb108, 1, none⟩ = some (.int .i64 a0_1)) (ds := []) #[false, false, false, false, false, false, false, false, false, false, false] (by kernel_rfl) rfl rfl ⟨(blk_cell BK108.out 0).trans rfl, (blk_cell BK108.out 1).trans rfl⟩ (fun hHeld => ?_); refine with_tabW lexer_Number.tab15 lexer_Number.bits15 (fun HT_ HW_ => ?_)
                                generalize wc.drew = w38 at BK108 HB hHeld ⊢
                                refine pure_ (i := 0) (N := some 55) (v := ?_) (a' := ?_) #[true, false, false, false, false, false, false, false, false, false, false] rfl rfl (any_of HT_.out (by kernel_rfl)) (fun _ _ _ h => h) (Or.inl ⟨by rfl, ?_⟩) ?_ ?_
                                rotate_left
                                · intro w'
                                  go_simp
                                  with_reducible rfl
                                rotate_left
                                · simp only [Act.put, List.setIfInBounds_toArray, List.set_cons_zero, List.set_cons_succ, i64_w, i32_w]
                                  rfl
                                refine pure_ (i := 1) (N := some 56) (v := ?_) (a' := ?_) #[true, true, false, false, false, false, false, false, false, false, false] rfl rfl (any_of HT_.out (by kernel_rfl)) (fun _ _ _ h => h) (Or.inl ⟨by rfl, ?_⟩) ?_ ?_
                                rotate_left
                                · intro w'
                                  go_simp
                                  with_reducible rfl
                                rotate_left
                                · simp only [Act.put, List.setIfInBounds_toArray, List.set_cons_zero, List.set_cons_succ, i64_w, i32_w]
                                  rfl
                                refine pure_ (i := 4) (N := some 59) (v := ?_) (a' := ?_) #[true, true, false, false, true, false, false, false, false, false, false] rfl rfl (any_of HT_.out (by kernel_rfl)) (fun _ _ _ h => h) (Or.inl ⟨by rfl, ?_⟩) ?_ ?_
                                rotate_left
                                · intro w'
                                  go_simp
                                  with_reducible rfl
                                rotate_left
                                · simp only [Act.put, List.setIfInBounds_toArray, List.set_cons_zero, List.set_cons_succ, i64_w, i32_w]
                                  rfl
                                refine pure_ (i := 5) (N := some 60) (v := ?_) (a' := ?_) #[true, true, false, false, true, true, false, false, false, false, false] rfl rfl (any_of HT_.out (by kernel_rfl)) (fun _ _ _ h => h) (Or.inl ⟨by rfl, ?_⟩) ?_ ?_
                                rotate_left
                                · intro w'
                                  go_simp
                                  with_reducible rfl
                                rotate_left
                                · simp only [Act.put, List.setIfInBounds_toArray, List.set_cons_zero, List.set_cons_succ, i64_w, i32_w]
                                  rfl
                                refine take_ (i := 2) (N := some 57) (v := ?_) (a' := ?_) #[true, true, true, false, true, true, false, false, false, false, false] rfl rfl (take_ofW HT_.out HW_.out (by kernel_rfl)) (fun _ _ _ h => h) (Or.inl ⟨by rfl, ?_⟩) hHeld ?_ ?_
                                rotate_left
                                · rintro w' ⟨s0, s1⟩
                                  go_simp
                                  with_reducible rfl
                                rotate_left
                                · simp only [Act.put, List.setIfInBounds_toArray, List.set_cons_zero, List.set_cons_succ, i64_w, i32_w]
                                  rfl
                                refine pure_ (i := 3) (N := some 58) (v := ?_) (a' := ?_) #[true, true, true, true, true, true, false, false, false, false, false] rfl rfl (any_of HT_.out (by kernel_rfl)) (fun _ _ _ h => h) (Or.inl ⟨by rfl, ?_⟩) ?_ ?_
                                rotate_left
                                · intro w'
                                  go_simp
                                  with_reducible rfl
                                rotate_left
                                · simp only [Act.put, List.setIfInBounds_toArray, List.set_cons_zero, List.set_cons_succ, i64_w, i32_w]
                                  rfl
                                refine take_ (i := 6) (N := some 61) (v := ?_) (a' := ?_) #[true, true, true, true, true, true, true, false, false, false, false] rfl rfl (take_ofW HT_.out HW_.out (by kernel_rfl)) (fun _ _ _ h => h) (Or.inl ⟨by rfl, ?_⟩) hHeld ?_ ?_
                                rotate_left
                                · rintro w' ⟨s0, s1⟩
                                  go_simp
                                  with_reducible rfl
                                rotate_left
                                · simp only [Act.put, List.setIfInBounds_toArray, List.set_cons_zero, List.set_cons_succ, i64_w, i32_w]
                                  rfl
                                refine pure_ (i := 7) (N := some 62) (v := ?_) (a' := ?_) #[true, true, true, true, true, true, true, true, false, false, false] rfl rfl (any_of HT_.out (by kernel_rfl)) (fun _ _ _ h => h) (Or.inl ⟨by rfl, ?_⟩) ?_ ?_
                                rotate_left
                                · intro w'
                                  go_simp
                                  with_reducible rfl
                                rotate_left
                                · simp only [Act.put, List.setIfInBounds_toArray, List.set_cons_zero, List.set_cons_succ, i64_w, i32_w]
                                  rfl
                                refine pure_ (i := 8) (N := some 63) (v := ?_) (a' := ?_) #[true, true, true, true, true, true, true, true, true, false, false] rfl rfl (any_of HT_.out (by kernel_rfl)) (fun _ _ _ h => h) (Or.inl ⟨by rfl, ?_⟩) ?_ ?_
                                rotate_left
                                · intro w'
                                  go_simp
                                  with_reducible rfl
                                rotate_left
                                · simp only [Act.put, List.setIfInBounds_toArray, List.set_cons_zero, List.set_cons_succ, i64_w, i32_w]
                                  rfl
                                refine one_ (i := 9) (N := some 64) #[true, true, true, true, true, true, true, true, true, true, false] rfl rfl (one_of HT_.out (by kernel_rfl)) (by decide) (fun K hK => ?_)
                                refine goes_ Tryz.func33 (by kernel_rfl) rfl #[.int .i64 (wrap64 ((Int.tmod x4_3 a0_1) * (wrap64 (Int.tdiv x7_11 a0_1))))] (by rfl) rfl rfl (by (try simp only [List.map_toArray, List.map_cons, List.map_nil]); first | done | rfl | (simp only [List.length_drop, List.length_take]; rfl)) ?_
                                with_reducible refine (strconv_Itoa.calls (wrap64 ((Int.tmod x4_3 a0_1) * (wrap64 (Int.tdiv x7_11 a0_1)))) t112 _ ?side1 A32.out).mono ?_
                                (case side1 => exact Tabs.below HT.out (by repeat (first | (with_reducible first | exact HB.out | apply below_alloc | apply pw_below_drewN | apply below_drew1 | refine below_set ?_ GE108.out) | exact HB.out)))
                                rintro e w39 ⟨rfl, hb⟩
                                refine ⟨_, rfl, ?_⟩
                                have n0_ := Aside0.mk (blk_below (g := gb108) (o := .cells #[.int .i64 a0_0, .int .i64 a0_1] 27 (0, 0)) (by (with_reducible repeat (first | refine blk_drewN ?_ _ | refine blk_drew ?_ | refine blk_alloc ?_ _)); exact BK108.out) hb)
                                have n1_ := Aside0.mk (below_step (by repeat (first | (with_reducible first | exact HB.out | apply below_alloc | apply pw_below_drewN | apply below_drew1 | refine below_set ?_ GE108.out) | exact HB.out)) hb)
                                clear BK108
                                clear HB
                                have BK108 := n0_
                                have HB := n1_
                                clear n0_ n1_
                                (try clear hb)
                                (try clear hb2)
                                (try clear hk)
                                (try clear hi)
                                refine hK.out _ _ ⟨(blk_cell BK108.out 0).trans rfl, (blk_cell BK108.out 1).trans rfl⟩ (fun hHeld => ?_)
                                clear hK K
                                refine norm_ (a' := ?_) ?_ ?_
                                rotate_left
                                · show Act.put _ (some 64) _ = _
                                  simp only [Act.put, List.setIfInBounds_toArray, List.set_cons_zero, List.set_cons_succ, i64_w, i32_w]
                                  rfl
                                refine pure_ (i := 10) (N := some 8) (v := ?_) (a' := ?_) #[true, true, true, true, true, true, true, true, true, true, true] rfl rfl (any_of HT_.out (by kernel_rfl)) (fun _ _ _ h => h) (Or.inl ⟨by rfl, ?_⟩) ?_ ?_
                                rotate_left
                                · intro w'
                                  go_simp
                                  with_reducible rfl
                                rotate_left
                                · simp only [Act.put, List.setIfInBounds_toArray, List.set_cons_zero, List.set_cons_succ, i64_w, i32_w]
                                  rfl
                                refine done_ (done_of HT_.out (by kernel_rfl)) ?_
                                try go_wp2_with (first | ((with_reducible refine gate_callee (f := 36) rfl ?_); refine goesL_ (some 73) rfl rfl Tryz.func36 (by kernel_rfl) rfl #[.string (⟨#[48]⟩ : ByteArray), .int .i64 (wrap64 (x6_11 - (t112.size : Int)))] rfl (by (try simp only [List.map_toArray, List.map_cons, List.map_nil]); first | done | rfl | (simp only [List.length_drop, List.length_take]; rfl)) ?_; (with_reducible refine (strings_Repeat.calls (⟨#[48]⟩ : ByteArray) (wrap64 (x6_11 - (t112.size : Int))) t113 _ A35.out).mono ?_); rintro e w40 ⟨rfl, hb⟩; refine ⟨_, rfl, ?_⟩; have n0_ := Aside0.mk (blk_below (g := gb108) (o := .cells #[.int .i64 a0_0, .int .i64 a0_1] 27 (0, 0)) (by (with_reducible repeat (first | refine blk_drewN ?_ _ | refine blk_drew ?_ | refine blk_alloc ?_ _)); exact BK108.out) hb); have n1_ := Aside0.mk (below_step (by repeat (first | (with_reducible first | exact HB.out | apply below_alloc | apply pw_below_drewN | apply below_drew1 | refine below_set ?_ GE108.out) | exact HB.out)) hb); clear BK108; clear HB; have BK108 := n0_; have HB := n1_; clear n0_ n1_; (try clear hb); (try clear hb2); (try clear hk); (try clear hi)))
                                go_ret
                                exact ⟨by first | rfl | (simp [errW_none, errW_some] <;> rfl) | (simp [*, errW_none, errW_some] <;> rfl), by repeat (first | (with_reducible first | exact HB.out | apply below_alloc | apply pw_below_drewN | apply below_drew1 | refine below_set ?_ GE108.out) | exact HB.out)⟩
                              · rw [if_neg c37] at H
                                exact absurd H (by simp)
                            · rw [if_neg c36] at H
                              exact absurd H (by simp)
                          · rw [if_neg c34] at H
                            exact absurd H (by simp)
                        · rw [if_neg c33] at H
                          exact absurd H (by simp)
  · rw [if_neg c3] at H
    have c3b0 : (t109 == 0) = false := beq_eq_false_iff_ne.mpr c3
    have c3b1 : (t109 != 0) = true := bne_iff_ne.mpr c3
    obtain rfl := Option.some.inj H
    go_enter Tryz.func13, Tryz.ntmps13
    go_wp2_with (first | ((with_reducible refine gate_dst (N := 1) rfl ?_); (try (refine gate_guard (by rfl) ?_; dsimp only)); refine box_event ?hg (N := 1) ?hd (cs := #[.int .i64 a0_0, .int .i64 a0_1]) (t := 27) ?hr ?_; (case hd => rfl); (case hg => rfl); (case hr => first | (go_simp; done) | (go_simp; rfl)); intro gb108 hg w41 hbox hb; have n0_ := Aside0.mk (below_step (by repeat (first | (with_reducible first | exact HB.out | apply below_alloc | apply pw_below_drewN | apply below_drew1) | exact HB.out)) hb); have n1_ := Aside0.mk (hbox); have n2_ := Aside0.mk ((by rw [hg]; exact (below_size (by repeat (first | (with_reducible first | exact HB.out | apply below_alloc | apply pw_below_drewN | apply below_drew1) | exact HB.out))) : w.heap.size ≤ gb108)); have n3_ := Aside0.mk ((by rw [hg]; exact (below_size (by repeat (first | (with_reducible first | exact HB.out | apply below_alloc | apply pw_below_drewN | apply below_drew1) | exact HB.out))) : w.heap.size ≤ gb108)); clear HB; have HB := n0_; have BK108 := n1_; have GW108 := n2_; have GE108 := n3_; clear n0_ n1_ n2_ n3_; clear hb hbox hg; have hcz42_0 : w41.cell? ⟨gb108, 0, none⟩ = some (.int .i64 a0_0) := (blk_cell BK108.out 0).trans rfl; have hcz42_1 : w41.cell? ⟨gb108, 1, none⟩ = some (.int .i64 a0_1) := (blk_cell BK108.out 1).trans rfl; have hfz42_0 := blk_frozen BK108.out 0; have hfz42_1 := blk_frozen BK108.out 1) | ((with_reducible refine gate_callee (f := 14) rfl ?_); refine goesL_ (some 10) rfl rfl Tryz.func14 (by kernel_rfl) rfl #[.agg #[.int .i64 a0_0, .int .i64 a0_1]] rfl (by (try simp only [List.map_toArray, List.map_cons, List.map_nil]); first | done | rfl | (simp only [List.length_drop, List.length_take]; rfl)) ?_; (with_reducible refine (ratio_Check.calls k a0_0 a0_1 t109 _ A2.out).mono ?_); rintro e w43 ⟨rfl, hb⟩; refine ⟨_, rfl, ?_⟩; have n0_ := Aside0.mk (blk_below (g := gb108) (o := .cells #[.int .i64 a0_0, .int .i64 a0_1] 27 (0, 0)) (by (with_reducible repeat (first | refine blk_drewN ?_ _ | refine blk_drew ?_ | refine blk_alloc ?_ _)); exact BK108.out) hb); have n1_ := Aside0.mk (below_step (by repeat (first | (with_reducible first | exact HB.out | apply below_alloc | apply pw_below_drewN | apply below_drew1 | refine below_set ?_ GE108.out) | exact HB.out)) hb); clear BK108; clear HB; have BK108 := n0_; have HB := n1_; clear n0_ n1_; (try clear hb); (try clear hb2); (try clear hk); (try clear hi)))
    go_ret
    exact ⟨by first | rfl | (simp [errW_none, errW_some] <;> rfl) | (simp [*, errW_none, errW_some] <;> rfl), by repeat (first | (with_reducible first | exact HB.out | apply below_alloc | apply pw_below_drewN | apply below_drew1 | refine below_set ?_ GE108.out) | exact HB.out)⟩
end Go.Proofs.YteokilkcchdeiaaGreatDoor.Q
end
