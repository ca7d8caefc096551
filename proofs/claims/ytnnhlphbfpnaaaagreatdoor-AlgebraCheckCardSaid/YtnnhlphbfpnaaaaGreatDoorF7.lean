/- What the proofs of the lexer's laws share, part 7 of 14. -/
import Derived.Test.YtnnhlphbfpnaaaaGreatDoorF4
import Derived.Laws.IdiomRangeMap
import Derived.Test.YtnnhlphbfpnaaaaGreatDoorProg
import Derived.KernelRfl
import Derived.Shelf.Strings.BuilderX
import Derived.Shelf.RegionOpenPlain
import Derived.Lib.Strings
import Derived.Lib.Slices
import Derived.Lib.Walk
import Derived.Lib.Builder
import Derived.Lib.AppendStr
import Derived.Lib.UnsafeStr
import Derived.Lib.MakeNoZero
import Derived.WalkKit
import Derived.Laws.Externs
import Derived.Laws.IdiomCopy
import Derived.Laws.BitsLemmas
import Derived.Test.YtnnhlphbfpnaaaaGreatDoorF6
set_option linter.unusedVariables false
set_option linter.unusedSimpArgs false
section
namespace Go.Ev
set_option linter.unusedSimpArgs false
set_option linter.unusedVariables false
abbrev itV (it : Nat) : V := .d (.lit (.pointer (some ⟨it, 0, none⟩)))
structure IterW (it r : Nat) (ms : Array MapEntry) (c : Nat) (es : List (D × D)) (seen : Array Nat) (g : G) (w : World) : Prop where
 blk : w.heap[it]? = some (.mapIter (some r) c seen c)
 own : g.owner it = none
 map : w.heap[r]? = some (.map ms c)
 pos : 0 < g.lim r
 keys : RepDs w g.lim (es.map (·.1)) (ms.toList.map (·.key))
 vals : RepDs w g.lim (es.map (·.2)) (ms.toList.map (·.val))
 st : Stamps ms c
section
variable {C : Cx} {w w' : World} {g g' : G} {s s' : St} {a : Act} {it r c : Nat} {ms : Array MapEntry} {es : List (D × D)} {seen : Array Nat}
theorem IterW.lt (h : IterW it r ms c es seen g w) : it < w.heap.size := (Array.getElem?_eq_some_iff.1 h.blk).1
theorem IterW.step (h : IterW it r ms c es seen g w) (st : Step w g w' g') : IterW it r ms c es seen g' w' :=
 ⟨(st.free it h.lt h.own).1.trans h.blk, (st.free it h.lt h.own).2.2, st.grow.map r ms c h.pos h.map, Nat.lt_of_lt_of_le h.pos (st.grow.le r), h.keys.mono st.grow, h.vals.mono st.grow, h.st⟩
theorem iter_set (R : Rel C g s a w) (h : IterW it r ms c es seen g w) (seen' : Array Nat) (hal : w'.os = w.os ∧ w'.tape = w.tape ∧ w'.output = w.output) (hw : w'.heap = w.heap.setIfInBounds it (.mapIter (some r) c seen' c)) :
  Rel C g s a w' ∧ IterW it r ms c es seen' g w' ∧ ∀ (w0 : World) (g0 : G), w0.heap.size ≤ it → Step w0 g0 w g → Step w0 g0 w' g := by
 have hother : ∀ k, k ≠ it → w'.heap[k]? = w.heap[k]? := fun k hk => by rw [hw, Array.getElem?_setIfInBounds, if_neg (Ne.symm hk)]
 have hsame : w'.heap[it]? = some (.mapIter (some r) c seen' c) := by rw [hw]; simp [h.lt]
 have hri : r ≠ it := fun e => by have := h.map; rw [e, h.blk] at this; cases this
 have hg : Grow w g.lim w' g.lim := ⟨fun _ => Nat.le_refl _, fun b o ho => by
   by_cases e : b = it
   ·
    subst e; simp only [World.cell?, hsame, h.blk]
   ·
    simp only [World.cell?, hother b e], fun b ms' c' hb hm => by
   by_cases e : b = it
   ·
    subst e; rw [h.blk] at hm; cases hm
   ·
    rw [hother b e]; exact hm, fun b c' t m hb hm => by
   by_cases e : b = it
   ·
    subst e; rw [h.blk] at hm; cases hm
   ·
    exact ⟨c', _, by rw [hother b e]; exact hm, rfl⟩⟩
 have hsz : w'.heap.size = w.heap.size := by rw [hw]; simp
 have hnm : Names s.H g s.H g := .refl _ _
 have hH : RepH w' g s.H := ⟨fun n b hb => (R.heap.box n b hb).mono hb hg hnm fun _ k hk => by
   have hk' : k ≠ it := fun e => by subst e; rw [h.own] at hk; cases hk
   exact ⟨hother k hk', hk, rfl⟩, fun b hb => R.heap.fresh b (by rw [← hsz]; exact hb)⟩
 refine ⟨R.later hg hnm hH, ⟨hsame, h.own, (hother r hri).trans h.map, h.pos, h.keys.mono hg, h.vals.mono hg, h.st⟩, fun w0 g0 hle st => ?_⟩
 exact ⟨hal.1.trans st.os, hal.2.1.trans st.tape, hal.2.2.trans st.output, by rw [hsz]; exact st.size, fun b hb ho => by
  have : b ≠ it := by omega
  obtain ⟨k1, k2, k3⟩ := st.free b hb ho
  exact ⟨(hother b this).trans k1, k2, k3⟩, st.grow.trans hg⟩
theorem run_next_at (P : Program) (ty : TypeId) (h : IterW it r ms c es seen g w) :
  ((leftOf ms seen).size = 0 ∧ (Instr.next (.pointer (some ⟨it, 0, none⟩)) false ty).run P w = .ok (.tuple #[.bool false]) w) ∨
  ∃ e ∈ (leftOf ms seen).toList, ∃ w' : World, (w'.os = w.os ∧ w'.tape = w.tape ∧ w'.output = w.output) ∧ w'.heap = w.heap.setIfInBounds it (.mapIter (some r) c (seen.push e.born) c) ∧
   (Instr.next (.pointer (some ⟨it, 0, none⟩)) false ty).run P w = .ok (.tuple #[.bool true, e.key, e.val]) w' := by
 simp only [Instr.next, getObj, Sem.run_bind, Sem.run, h.blk, h.map, Result.andThen, next_test_false seen ms c c h.st.old (Nat.le_refl _), Bool.false_eq_true, if_false]
 unfold leftOf
 have hmem : ∀ x ∈ (Array.filter (fun e => !seen.contains e.born) ms).toList, x.born < c := fun x hx => h.st.old x (by simp at hx ⊢; exact hx.1)
 generalize Array.filter (fun e => !seen.contains e.born) ms = L at hmem ⊢
 have e1 : L.filter (fun x => decide (x.born < c)) = L := Array.filter_eq_self.2 (fun x hx => by simpa using hmem x (by simpa using hx))
 have e2 : L.filter (fun x => decide (x.born ≥ c)) = #[] := by
  rw [Array.filter_eq_empty_iff]
  intro x hx
  have := hmem x (by simpa using hx)
  simp
  omega
 simp only [e1, e2, Array.append_empty]
 by_cases h0 : L.size = 0
 ·
  left
  have : L = #[] := Array.eq_empty_of_size_eq_zero h0
  subst this
  refine ⟨rfl, ?_⟩
  simp [choose, Sem.run, Question.forced]
 ·
  right
  have hne : L.isEmpty = false := by simp [Array.isEmpty, h0]
  simp only [hne, Bool.false_eq_true, if_false, Array.empty_append, Array.size_map]
  have hch : ∃ (j : Nat) (w1 : World), j < L.size ∧ (w1.os = w.os ∧ w1.tape = w.tape ∧ w1.output = w.output) ∧ w1.heap = w.heap ∧ (choose (Question.mapNext L.size)).run P w = .ok j w1 := by
   by_cases hf : L.size ≤ 1
   ·
    exact ⟨0, w, by omega, ⟨rfl, rfl, rfl⟩, rfl, by simp [choose, Sem.run, Question.forced, hf]⟩
   ·
    exact ⟨_, w.drew, Nat.mod_lt _ (by omega), ⟨rfl, rfl, rfl⟩, rfl, by
     simp only [choose, Sem.run, Question.forced, decide_eq_true_eq, hf, if_false, Question.cut]
     rfl⟩
  obtain ⟨j, w1, hj, hal, hhp, hrun⟩ := hch
  refine ⟨L[j], by simp, { w1 with heap := w1.heap.setIfInBounds it (.mapIter (some r) c (seen.push L[j].born) c) }, hal, by simp [hhp], ?_⟩
  have hi : w1.heap[it]? = some (.mapIter (some r) c seen c) := by rw [hhp]; exact h.blk
  have hset : ∀ (o' : Obj), (setObj it o').run P w1 = .ok () { w1 with heap := w1.heap.setIfInBounds it o' } := fun o' => by
   simp only [setObj, Sem.run, hi]
  simp only [hrun, Array.getElem?_map, Array.getElem?_eq_getElem hj, Option.map_some, Sem.run_bind, hset, Result.andThen]
  rfl
theorem run_entry_at (P : Program) {e : MapEntry} (h : IterW it r ms c es (seen.push e.born) g w) (he : e ∈ ms.toList) :
  (Instr.entry (.pointer (some ⟨it, 0, none⟩))).run P w = .ok (.tuple #[e.key, e.val]) w := by
 have hf : ms.find? (·.born == e.born) = some e := by rw [← Array.find?_toList]; exact find_born e ms.toList h.st.uniq he
 simp only [Instr.entry, getObj, Sem.run_bind, Sem.run, h.blk, h.map, Result.andThen, Array.back?_push, bne_self_eq_false, Bool.false_eq_true, if_false, hf]
 rfl
theorem RepDs.at {lim : Nat → Nat} {xs : List D} {vs : List Value} {i : Nat} {v : Value} (h : RepDs w lim xs vs) (hv : vs[i]? = some v) : ∃ x, xs[i]? = some x ∧ RepD w lim x v := by
 have hl := h.length
 have hi : i < xs.length := by rw [hl]; exact (List.getElem?_eq_some_iff.1 hv).1
 obtain ⟨v', h1, h2⟩ := h.get (List.getElem?_eq_getElem hi)
 rw [h1] at hv; cases hv
 exact ⟨_, List.getElem?_eq_getElem hi, h2⟩
theorem IterW.entry (h : IterW it r ms c es seen g w) {e : MapEntry} (he : e ∈ ms.toList) : ∃ (i : Nat) (p : D × D), ms.toList[i]? = some e ∧ es[i]? = some p ∧ RepD w g.lim p.1 e.key ∧ RepD w g.lim p.2 e.val := by
 obtain ⟨i, hi⟩ := List.mem_iff_getElem?.1 he
 obtain ⟨x, h1, h2⟩ := h.keys.at (i := i) (v := e.key) (by simp [hi])
 obtain ⟨y, h3, h4⟩ := h.vals.at (i := i) (v := e.val) (by simp [hi])
 rw [List.getElem?_map] at h1 h3
 cases hp : es[i]? with
 | none => rw [hp] at h1; cases h1
 | some p =>
  rw [hp] at h1 h3
  simp at h1 h3
  subst h1 h3
  exact ⟨i, p, hi, hp, h2, h4⟩
end
def mapRoundT (C : Cx) (tb : Tab) (cs : CS) (k : Nat) (sp : Nat → Option Spec) (hn : Nat → Option Hint) (d9 d10 d11 : Nat) (ops3 : Array Oper) (tail : Code) (kx vx : D) (s : St) (K : X → St → Prop) : Prop :=
 go (s.put (some d9) (.d (.tup [.lit (.bool true), kx, vx]))) fun s => go (s.put (some d10) (lbool true)) fun s =>
  go ((ageAll s ops3.toList).put (some d11) (.d (.tup [kx, vx]))) fun s => bif setsOne ops3.toList then False else
   evOpsT C tb cs ops3 ops3.toList.tail s fun s2 => evCodeT C tb cs k sp hn true tail s2 K
section
variable {C : Cx} {tb : Tab} {cs : CS} {k : Nat}
theorem born_idx {l : List MapEntry} (hn : (l.map (·.born)).Nodup) {i j : Nat} {e : MapEntry} (hi : l[i]? = some e) (hj : l[j]? = some e) : i = j := by
 obtain ⟨a1, b1⟩ := List.getElem?_eq_some_iff.1 hi
 obtain ⟨a2, b2⟩ := List.getElem?_eq_some_iff.1 hj
 exact (List.getElem_inj (h₀ := by simpa using a1) (h₁ := by simpa using a2) hn).1 (by simp [b1, b2])
theorem mapLoop_wp (F : Fit2 C cs.call) (hE : Has C tb) {sp : Nat → Option Spec} {hn : Nat → Option Hint} {d8 d9 d10 d11 idX id2 id3 b1 : Nat} {oN oX oE : Oper} {rest : List Oper} {ops3 : Array Oper} {tail : Code}
  (hops : ops3.toList = oE :: rest) (hN1 : oN.op = .next (.tmp d8) false) (hN2 : oN.dst = some d9) (hN3 : oN.guard = none) (hX1 : oX.op = .extract (.tmp d9) 0) (hX2 : oX.dst = some d10) (hX3 : oX.guard = none)
  (hE1 : oE.op = .entry (.tmp d8)) (hE2 : oE.dst = some d11) (hE3 : oE.guard = none) (h98 : d9 ≠ d8) (h108 : d10 ≠ d8) (ok : SpecT C k sp (specsOf true tail))
  {it r c : Nat} {ms : Array MapEntry} {es : List (D × D)} {N : Nat} {L L' : List Nat} {nm nm' : List Name} {nsI nsX : List (Name × Name)} (hI : nmOf nsI = nm) (hX : nmOf nsX = nm')
  (Inv : List Nat → List V → List Box → Prop) (Kx : List V → List Box → Prop)
  (hF : ∀ dn vals bs, Inv dn vals bs → (stN N L nm vals bs).F d8 = itV it)
  (hround : ∀ dn vals bs (i : Nat) (p : D × D), Inv dn vals bs → i ∉ dn → es[i]? = some p → Kept (mapRoundT C tb cs k sp hn d9 d10 d11 ops3 tail p.1 p.2 (stN N L nm vals bs) fun x s => s.N = N ∧ (x = .normal ∧ go (cutSt k L nsI s) fun q => Inv (i :: dn) q.1 q.2)))
  (hend : ∀ dn vals bs, Inv dn vals bs → (∀ i, i < es.length → i ∈ dn) →
   Kept (go ((stN N L nm vals bs).put (some d9) (.d (.tup [.lit (.bool false)]))) fun s => go (s.put (some d10) (lbool false)) fun s => s.N = N ∧ go (cutSt k L' nsX s) fun q => Kx q.1 q.2))
  {w0 : World} {g0 : G} {H0 : Heap} {Q : Exit → Act → World → Prop} (hit : w0.heap.size ≤ it)
  (hq : ∀ s' a' w', (∃ vs bs', s' = stN N L' nm' vs bs' ∧ Kx vs bs') → Z0 k s'.H → Post C g0 H0 w0 s' a' w' → Q (.exit idX) a' w') :
  ∀ (n : Nat) (seen : Array Nat) (dn : List Nat) (vals : List V) (bs : List Box) (g : G) (a : Act) (w : World), (leftOf ms seen).size < n → (∀ (i : Nat) e, ms.toList[i]? = some e → (seen.contains e.born = true ↔ i ∈ dn)) → Inv dn vals bs →
   Rel C g (stN N L nm vals bs) a w → Z0 k (stN N L nm vals bs).H → IterW it r ms c es seen g w → Step w0 g0 w g → Keep H0 g0 (stN N L nm vals bs).H g →
   wpL C.P (.seq (.region id2 #[oN, oX] false) (.seq (.cond (.tmp d10) .skip (.exit idX)) (.block b1 (.seq (.region id3 ops3 false) tail)))) Q a w := by
 intro n
 induction n with
 | zero => intro seen dn vals bs g a w h; omega
 | succ n ih =>
  intro seen dn vals bs g a w hn hag hinv R z iw st kp
  have hlen : es.length = ms.toList.length := by have := iw.keys.length; simpa using this
  have hp8 : a.eval (.tmp d8) = .pointer (some ⟨it, 0, none⟩) := by
   have := R.slots d8
   rw [hF dn vals bs hinv] at this
   exact this.lit_inv
  -- the step, and its first part
  have step2 : ∀ {v : Value} {x : V} {b : Bool} {xs : List D} {g1 : G} {w1 : World} {s1 s2 : St} {Q' : Exit → Act → World → Prop}, (execOp a.eval oN).run C.P w = .ok (.value v) w1 → Rel C g1 (stN N L nm vals bs) a w1 → RepV w1 g1 (stN N L nm vals bs).H x v →
    x = .d (.tup (.lit (.bool b) :: xs)) → (stN N L nm vals bs).put (some d9) x = some s1 → s1.put (some d10) (lbool b) = some s2 → (∀ a', Rel C g1 s2 a' w1 → s2.H = (stN N L nm vals bs).H → a'.eval (.tmp d8) = .pointer (some ⟨it, 0, none⟩) → Q' .normal a' w1) →
    (Code.region id2 #[oN, oX] false).wp C.P Q' a w := by
   intro v x b xs g1 w1 s1 s2 Q' hx R1 hv hxe h1 h2 hk
   refine wp_region_list ?_
   show wpList C.P #[oN, oX] Q' [oN, oX] a w
   unfold wpList
   rw [if_pos (wanted_ok R1 (show wantedV #[oN, oX] oN (stN N L nm vals bs).F = some true by unfold wantedV; rw [hN3]))]
   refine .inl (wp_val (C := C) hx ?_)
   obtain ⟨R2, e2⟩ := put_ok R1 h1 hv
   rw [← hN2] at R2
   unfold wpList
   rw [if_pos (wanted_ok R2 (show wantedV #[oN, oX] oX s1.F = some true by unfold wantedV; rw [hX3]))]
   have hs1 : s1.F d9 = x := by
    simp only [St.put] at h1
    cases hb : Nat.blt d9 (stN N L nm vals bs).N with
    | false => rw [hb] at h1; cases h1
    | true => rw [hb] at h1; simp at h1; subst h1; simp [upd]
   have h9 := R2.slots d9
   rw [hs1, hxe] at h9
   obtain ⟨ar, har, hb0⟩ : ∃ ar : Array Value, (a.put oN.dst v).eval (.tmp d9) = .tuple ar ∧ ar[0]? = some (.bool b) := by
    cases h9 with
    | d h9 =>
     generalize hz : (a.put oN.dst v).tmps.getD d9 undef = u at h9
     cases h9 with
     | tup h9 =>
      rename_i ar
      refine ⟨ar, hz, ?_⟩
      generalize hl : ar.toList = l at h9
      cases h9 with
      | cons h0 t =>
       cases h0
       have : ar.toList[0]? = some (.bool b) := by rw [hl]; rfl
       simpa using this
   refine .inl (wp_val (C := C) (v := .bool b) (w' := w1) ?_ ?_)
   ·
    simp [execOp, hX1, har, Instr.extract, hb0]
   ·
    unfold wpList
    obtain ⟨R3, e3⟩ := put_ok R2 h2 (.d (.lit (by simp)) : RepV w1 g1 s1.H (lbool b) (.bool b))
    rw [← hX2] at R3
    refine hk _ R3 (e3.trans e2) ?_
    have : ((a.put oN.dst v).put oX.dst (.bool b)).eval (.tmp d8) = a.eval (.tmp d8) := by
     rw [hN2, hX2]
     simp only [Act.eval, Act.put, Array.getD_eq_getD_getElem?]
     rw [Array.getElem?_setIfInBounds_ne h108, Array.getElem?_setIfInBounds_ne h98]
    rw [this]; exact hp8
  refine wpL_one (wp_seq ?_)
  rcases run_next_at C.P oN.type iw with ⟨h0, hrun⟩ | ⟨e, he, w1, hal, hhp, hrun⟩
  ·
   -- the end
   have hall : ∀ i, i < es.length → i ∈ dn := fun i hi => by
    have hi' : i < ms.toList.length := by omega
    exact (hag i _ (List.getElem?_eq_getElem hi')).1 (all_seen ms seen h0 _ (List.getElem_mem hi'))
   obtain ⟨s1, h1, hk⟩ := go_prop (hend dn vals bs hinv hall).h
   obtain ⟨s2, h2, hN', hk⟩ := go_prop hk
   obtain ⟨⟨vs, bs'⟩, h3, hk⟩ := go_prop hk
   refine step2 (x := .d (.tup [.lit (.bool false)])) (b := false) (xs := []) (v := .tuple #[.bool false]) (w1 := w) (g1 := g) ?_ R (.d (.tup (.cons (.lit (by simp)) .nil))) rfl h1 h2 ?_
   ·
    simp only [execOp, hN1, hp8]; simp [hrun]
   ·
    intro a' R' hH' _
    refine wp_seq (wp_cond_false ?_ ?_)
    ·
     have : s2.F d10 = lbool false := by
      simp only [St.put] at h2
      cases hb : Nat.blt d10 s1.N with
      | false => rw [hb] at h2; cases h2
      | true => rw [hb] at h2; simp at h2; subst h2; simp [upd]
     have h10 := R'.slots d10
     rw [this] at h10
     exact h10.lit_inv
    ·
     refine wp_exit ?_
     have z2 : Z0 k s2.H := by rw [hH']; exact z
     obtain ⟨z3, p⟩ := cut_weak h3 g a' w R' z2
     rw [hN', hX] at z3 p
     exact hq _ _ _ ⟨vs, bs', rfl, hk⟩ z3 (p.after st (by rw [hH']; exact kp))
  ·
   -- an entry
   have hml := mem_left he
   obtain ⟨i, p, hi, hpi, hk1, hk2⟩ := iw.entry hml.1
   have hnd : i ∉ dn := fun h => by have := (hag i e hi).2 h; rw [hml.2] at this; cases this
   obtain ⟨s1, h1, hk⟩ := go_prop (hround dn vals bs i p hinv hnd hpi).h
   obtain ⟨s2, h2, hk⟩ := go_prop hk
   obtain ⟨s3, h3, hk⟩ := go_prop hk
   have hset : setsOne ops3.toList = false := by
    cases hs : setsOne ops3.toList with
    | false => rfl
    | true => rw [hs] at hk; exact hk.elim
   rw [hset] at hk
   simp only [cond_false] at hk
   obtain ⟨s4, h4, hk⟩ := evOpsT_imp hE hk
   obtain ⟨R1, iw1, hst⟩ := iter_set R iw (seen.push e.born) hal hhp
   have hkd := iw1.entry hml.1
   have rk : RepD w1 g.lim p.1 e.key ∧ RepD w1 g.lim p.2 e.val := by
    obtain ⟨j, q, hj, hqj, k1, k2⟩ := iw1.entry hml.1
    have hij : j = i := born_idx iw.st.uniq hj hi
    subst hij
    rw [hqj] at hpi; cases hpi
    exact ⟨k1, k2⟩
   refine step2 (x := .d (.tup [.lit (.bool true), p.1, p.2])) (b := true) (xs := [p.1, p.2]) (v := .tuple #[.bool true, e.key, e.val]) (w1 := w1) (g1 := g) ?_ R1 (.d (.tup (.cons (.lit (by simp)) (.cons rk.1 (.cons rk.2 .nil))))) rfl h1 h2 ?_
   ·
    simp only [execOp, hN1, hp8]; simp [hrun]
   ·
    intro a2 R2 hH2 hp82
    refine wp_seq (wp_cond_true ?_ (wp_skip ?_))
    ·
     have : s2.F d10 = lbool true := by
      simp only [St.put] at h2
      cases hb : Nat.blt d10 s1.N with
      | false => rw [hb] at h2; cases h2
      | true => rw [hb] at h2; simp at h2; subst h2; simp [upd]
     have h10 := R2.slots d10
     rw [this] at h10
     exact h10.lit_inv
    ·
     have z2 : Z0 k s2.H := by rw [hH2]; exact z
     have st2 := hst w0 g0 hit st
     have kp2 : Keep H0 g0 s2.H g := by rw [hH2]; exact kp
     refine wp_block (wp_seq (wp_region_list ?_))
     obtain ⟨g3, R3, st3, kp3⟩ := ageAll_rel ops3.toList R2
     have iw3 := iw1.step st3
     rw [hops]
     unfold wpList
     rw [if_pos (wanted_ok R3 (show wantedV ops3 oE (ageAll s2 ops3.toList).F = some true by unfold wantedV; rw [hE3]))]
     have hent := run_entry_at C.P (e := e) iw3 hml.1
     refine .inl (wp_val (C := C) (v := .tuple #[e.key, e.val]) (w' := w1) (by simp only [execOp, hE1, hp82]; simp [hent]) ?_)
     have rk3 : RepV w1 g3 (ageAll s2 ops3.toList).H (.d (.tup [p.1, p.2])) (.tuple #[e.key, e.val]) := .d (.tup (.cons (rk.1.mono st3.grow) (.cons (rk.2.mono st3.grow) .nil)))
     obtain ⟨R4, e4⟩ := put_ok R3 h3 rk3
     rw [← hE2] at R4
     have h4' : evOps C false cs.call ops3 rest s3 = some s4 := by rw [hops] at h4; exact h4
     refine evOps_list F.ok F.calls F.valid rest R4 h4' fun a5 w5 hp5 => ?_
     obtain ⟨g5, R5, st5, kp5⟩ := hp5
     have zb : Back s2.H s4.H := by
      refine (ageAll_back ops3.toList).trans (Back.trans ?_ (evOps_back (fun K f args H r H' h1 h2 => (F.calls.prim K f args H r H' h1 h2).2) (fun K args H r H' h => (F.valid K args H r H' h).2.2) h4'))
      rw [e4]; exact .rfl'
     have z5 := z2.back zb
     have kp5' : Keep (ageAll s2 ops3.toList).H g3 s4.H g5 := by rw [← e4]; exact kp5
     refine (evCodeT_T F hE tail true _ _ ok hk) g5 a5 w5 _ R5 z5 fun x s' a' w' hx z6 hp6 => ?_
     obtain ⟨g6, R6, st6, kp6⟩ := hp6
     obtain ⟨hN', rfl, hx⟩ := hx
     obtain ⟨⟨vs, bs'⟩, h7, hinv'⟩ := go_prop hx
     obtain ⟨z7, g7, R7, st7, kp7⟩ := cut_weak h7 g6 a' w' R6 z6
     rw [hN', hI] at z7 R7 kp7
     have stA := ((st3.trans st5).trans st6).trans st7
     refine ih (seen.push e.born) (i :: dn) vs bs' g7 a' w' ?_ ?_ hinv' R7 z7 (iw1.step stA) (st2.trans stA) ((kp2.trans kp3).trans ((kp5'.trans kp6).trans kp7))
     ·
      have := left_shrinks ms seen e he; omega
     ·
      intro j e' hj
      rw [contains_push, List.mem_cons, ← hag j e' hj]
      constructor
      ·
       intro h
       cases hc : seen.contains e'.born with
       | true => exact .inr rfl
       | false =>
        rw [hc, Bool.false_or] at h
        have heq : e'.born = e.born := by simpa using h
        have := born_inj iw.st.uniq (List.mem_of_getElem? hj) hml.1 heq
        subst this
        exact .inl (born_idx iw.st.uniq hj hi)
      ·
       rintro (rfl | h)
       ·
        rw [hi] at hj; cases hj; simp
       ·
        rw [h]; rfl
theorem evOps_list_app (ok : CxOk C) (okc : CallsOk C) {call : CallF} (hv : Valid C call) {ops : Array Oper} {Q : Exit → Act → World → Prop} {m : List Oper} {s' : St} :
  ∀ (l : List Oper) {g : G} {s : St} {a : Act} {w : World}, Rel C g s a w → evOps C false call ops l s = some s' → (∀ a' w', Post C g s.H w s' a' w' → wpList C.P ops Q m a' w') → wpList C.P ops Q (l ++ m) a w
 | [], g, s, a, w, R, h, hq => by
  simp [evOps] at h; subst h
  exact hq _ _ ⟨g, R, .refl _ _, .refl _ _⟩
 | o :: l, g, s, a, w, R, h, hq => by
  simp only [evOps] at h
  simp only [List.cons_append]
  unfold wpList
  split at h
  ·
   rename_i hw
   rw [if_pos (wanted_ok R hw)]
   split at h
   ·
    rename_i s1 ho
    refine .inl (evOp_ok ok okc hv R (fun h => by cases h) ho fun a' w' hp => ?_)
    obtain ⟨g1, r1, st, k⟩ := hp
    exact evOps_list_app ok okc hv l r1 h fun a2 w2 hp2 => hq _ _ (hp2.after st k)
   ·
    simp at h
  ·
   rename_i hw
   rw [if_neg (by rw [wanted_ok R hw]; simp)]
   split at h
   ·
    rename_i s1 hp
    obtain ⟨r1, e1⟩ := put_ok R hp repUndef
    refine evOps_list_app ok okc hv l r1 h fun a2 w2 hp2 => hq _ _ ?_
    rw [← e1]; exact hp2
   ·
    simp at h
  ·
   simp at h
theorem mapRange_T (F : Fit2 C cs.call) (hE : Has C tb) {sp : Nat → Option Spec} {hn : Nat → Option Hint} {d7 d8 d9 d10 d11 idX id1 id2 id3 b1 : Nat} {oR oN oX oE : Oper} {pre rest : List Oper} {ops1 ops3 : Array Oper} {tail : Code} {t kt et : TypeId}
  (hops1 : ops1.toList = pre ++ [oR]) (hR1 : oR.op = .range t (.tmp d7)) (hR2 : oR.dst = some d8) (hR3 : oR.guard = none) (hu : C.P.underlying t = some (.map kt et))
  (hops : ops3.toList = oE :: rest) (hN1 : oN.op = .next (.tmp d8) false) (hN2 : oN.dst = some d9) (hN3 : oN.guard = none) (hX1 : oX.op = .extract (.tmp d9) 0) (hX2 : oX.dst = some d10) (hX3 : oX.guard = none)
  (hE1 : oE.op = .entry (.tmp d8)) (hE2 : oE.dst = some d11) (hE3 : oE.guard = none) (h98 : d9 ≠ d8) (h108 : d10 ≠ d8) (ok : SpecT C k sp (specsOf true tail))
  {es : List (D × D)} {N : Nat} {L L' : List Nat} {nm nm' : List Name} {ns0 nsI nsX : List (Name × Name)} (h0 : nmOf ns0 = nm) (hI : nmOf nsI = nm) (hX : nmOf nsX = nm')
  (Inv : Nat → List Nat → List V → List Box → Prop) (Kx : List V → List Box → Prop) {K : X → St → Prop} {s : St} (hKx : ∀ vs bs, Kx vs bs → K .normal (stN N L' nm' vs bs))
  (hF : ∀ it dn vals bs, Inv it dn vals bs → (stN N L nm vals bs).F d8 = itV it)
  (hstart : Kept (go (evOps C false cs.call ops1 pre s) fun s1 => s1.F d7 = .d (.map es) ∧ (s1.N = N ∧ ∀ it, go (s1.put (some d8) (itV it)) fun s2 => go (cutSt k L ns0 s2) fun q => Inv it [] q.1 q.2)))
  (hround : ∀ it dn vals bs (i : Nat) (p : D × D), Inv it dn vals bs → i ∉ dn → es[i]? = some p → Kept (mapRoundT C tb cs k sp hn d9 d10 d11 ops3 tail p.1 p.2 (stN N L nm vals bs) fun x s => s.N = N ∧ (x = .normal ∧ go (cutSt k L nsI s) fun q => Inv it (i :: dn) q.1 q.2)))
  (hend : ∀ it dn vals bs, Inv it dn vals bs → (∀ i, i < es.length → i ∈ dn) →
   Kept (go ((stN N L nm vals bs).put (some d9) (.d (.tup [.lit (.bool false)]))) fun s => go (s.put (some d10) (lbool false)) fun s => s.N = N ∧ go (cutSt k L' nsX s) fun q => Kx q.1 q.2)) :
  T C k (.seq (.region id1 ops1 false) (.block idX (.loop (.seq (.region id2 #[oN, oX] false) (.seq (.cond (.tmp d10) .skip (.exit idX)) (.block b1 (.seq (.region id3 ops3 false) tail))))))) s K := by
 intro g a w Q R z hq
 obtain ⟨s1, h1, hes, hN, hst⟩ := go_prop hstart.h
 have zb : Z0 k s1.H := z.back (evOps_back (fun K f args H r H' h1 h2 => (F.calls.prim K f args H r H' h1 h2).2) (fun K args H r H' h => (F.valid K args H r H' h).2.2) h1)
 refine wp_seq (wp_region_list ?_)
 rw [hops1]
 refine evOps_list_app F.ok F.calls F.valid pre R h1 fun a1 w1 hp => ?_
 obtain ⟨g1, R1, st1, kp1⟩ := hp
 have h7 := R1.slots d7
 rw [hes] at h7
 have h7' : ∃ r ms c, a1.eval (.tmp d7) = .map (some r) ∧ 0 < g1.lim r ∧ w1.heap[r]? = some (.map ms c) ∧ RepDs w1 g1.lim (es.map (·.1)) (ms.toList.map (·.key)) ∧ RepDs w1 g1.lim (es.map (·.2)) (ms.toList.map (·.val)) ∧ Stamps ms c := by
  cases h7 with
  | d h7 =>
   generalize hz : a1.tmps.getD d7 undef = u at h7
   cases h7 with
   | map x1 x2 x3 x4 x5 => exact ⟨_, _, _, hz, x1, x2, x3, x4, x5⟩
 obtain ⟨r, ms, c, hev, hpos, hw, hk, hvl, hstm⟩ := h7'
 unfold wpList
 rw [if_pos (wanted_ok R1 (show wantedV ops1 oR s1.F = some true by unfold wantedV; rw [hR3]))]
 have hrun := run_range_map (P := C.P) w1 t kt et r ms c hu hw
 refine .inl (wp_val (C := C) (v := .pointer (some ⟨w1.heap.size, 0, none⟩)) (w' := w1.alloc (.mapIter (some r) c #[] c)) (by simp only [execOp, hR1, hev]; simp [hrun]) ?_)
 have hE1' := Ext.alloc w1 (.mapIter (some r) c #[] c)
 obtain ⟨R2, st2, nm2⟩ := ext_rel (lim' := g1.lim) R1 hE1' (fun _ _ => rfl) (fun b hb => (R1.heap.fresh b (Nat.le_trans hE1'.size hb)).1)
 obtain ⟨s2, h2, hk2⟩ := go_prop (hst w1.heap.size)
 obtain ⟨⟨vals, bs⟩, h3, hinv⟩ := go_prop hk2
 obtain ⟨R3, e3⟩ := put_ok R2 h2 (.d (.lit (by simp)) : RepV _ _ s1.H (itV w1.heap.size) (.pointer (some ⟨w1.heap.size, 0, none⟩)))
 rw [← hR2] at R3
 have z2 : Z0 k s2.H := by rw [e3]; exact zb
 have hNs : s2.N = N := (put_none h2).trans hN
 obtain ⟨z3, g4, R4, st4, kp4⟩ := cut_weak h3 _ _ _ R3 z2
 rw [hNs, h0] at z3 R4 kp4
 have kp2 : Keep s1.H g1 s2.H ⟨g1.val, g1.lim, g1.owner⟩ := by rw [e3]; exact .of_names nm2
 have iw : IterW w1.heap.size r ms c es #[] ⟨g1.val, g1.lim, g1.owner⟩ (w1.alloc (.mapIter (some r) c #[] c)) :=
  ⟨heap_alloc_new w1 _, (R1.heap.fresh _ (Nat.le_refl _)).2, by rw [heap_alloc_old w1 _ (Array.getElem?_eq_some_iff.1 hw).1]; exact hw, hpos, hk.mono st2.grow, hvl.mono st2.grow, hstm⟩
 unfold wpList
 refine wp_block (wpL_wp ?_)
 refine mapLoop_wp F hE hops hN1 hN2 hN3 hX1 hX2 hX3 hE1 hE2 hE3 h98 h108 ok (es := es) (N := N) (L := L) (L' := L') (nm := nm) (nm' := nm') hI hX (Inv w1.heap.size) Kx (hF _) (hround _) (fun dn vals bs hi hall => hend _ dn vals bs hi hall)
  (w0 := w1) (g0 := g1) (H0 := s1.H) (Nat.le_refl _) ?_ ((leftOf ms #[]).size + 1) #[] [] vals bs g4 _ _ (Nat.lt_succ_self _) (fun i e _ => by simp) hinv R4 z3 (iw.step st4) (st2.trans st4) (kp2.trans kp4)
 rintro s' a' w' ⟨vs, bs', rfl, hk'⟩ zz hp
 have := hq .normal (stN N L' nm' vs bs') a' w' (hKx vs bs' hk') zz (hp.after st1 kp1)
 simpa [toExit, Exit.inBlock] using this
end
theorem evCodeT_K {C : Cx} {tb : Tab} {cs : CS} {k : Nat} (F : Fit2 C cs.call) (hE : Has C tb) {sp : Nat → Option Spec} {hn : Nat → Option Hint} {c : Code} {il : Bool} {s : St} {K : X → St → Prop} (ok : SpecT C k sp (specsOf il c)) (h : Kept (evCodeT C tb cs k sp hn il c s K)) : T C k c s K := evCodeT_T F hE c il s K ok h.h
def endT (k : Nat) (ads : List Ad) (ends : List (List (Name × Name))) (L : List Nat) (R : V → List Box → Prop) (x : X) (s : St) : Prop := match x with
 | .exit _ => False
 | _ => go (adopts ads s) fun s => endsK k L ends s fun vs bs => R (oneOrTup vs) bs
theorem sm_bodyT {B : Cx} {etb : Tab} {stb : STab} (hB : Base B) {K : FuncId} {fn : Func} {cd : Code} {k : Nat} {ads : List Ad} {ends : List (List (Name × Name))} {L : List Nat} (hf : B.P.funcs[K]? = some fn) (hb : fn.body = some cd) (hr : (fn.name == "runtime.NumGoroutine") = false)
  (hL : resTmps fn.results.toList = some L) (hLn : nodupN L = true)
  (hends : ends.all (fun ns => nmOf ns == inNames k ++ newNames ((nmOf ns).length - k)) = true)
  {vals : List V} {bs bs' news : List Box} {r : V} (hk : bs.length = k) (hl : bs'.length = bs.length)
  (hc : T (B.tab etb) k cd ⟨max fn.ntmps vals.length, fun t => (vals[t]?).getD vundef, smIn bs⟩ (endT k ads ends L fun r' bx => r' = r ∧ bx = bs' ++ news)) :
  Enters B.P K ∧ SoundQ B K vals (smIn bs) fun r' H' => r' = r ∧ H' = smOut bs' news := by
 refine ⟨⟨fn, hf, by simpa using hr, by rw [hb]; rfl⟩, ?_⟩
 have key : SoundQ (B.tab etb) K vals (smIn bs) fun r' H' => ∃ ns ∈ ends, ∃ bx, bx.length = (nmOf ns).length ∧ H' = ofL (zipNm (nmOf ns) bx) ∧ (r' = r ∧ bx = bs' ++ news) := by
  refine soundQ_body (k := k) hf hb (smIn_z0 hk) (T_post hc ?_)
  intro x s' hx
  cases x with
  | exit i => exact hx.elim
  | normal =>
   obtain ⟨s1, h1, hx⟩ := go_prop (show go (adopts ads s') _ from hx)
   obtain ⟨ns, hns, vs, bx, hw, h2, h3, h4⟩ := endsK_at (C := B.tab etb) hx
   exact ⟨_, (adopts_weak h1).trans hw, vs, by rw [resTmps_evRes hL]; exact congrArg some (mk_map hLn h2), ns, hns, bx, h3, rfl, h4⟩
  | ret =>
   obtain ⟨s1, h1, hx⟩ := go_prop (show go (adopts ads s') _ from hx)
   obtain ⟨ns, hns, vs, bx, hw, h2, h3, h4⟩ := endsK_at (C := B.tab etb) hx
   exact ⟨_, (adopts_weak h1).trans hw, vs, by rw [resTmps_evRes hL]; exact congrArg some (mk_map hLn h2), ns, hns, bx, h3, rfl, h4⟩
 intro w g vs a b c d
 refine ((key.of (C' := B) rfl rfl) w g vs a b c d).mono ?_
 rintro e w' ⟨v, r', H', g', ⟨ns, hns, bx, hlen, rfl, rfl, rfl⟩, h2⟩
 refine ⟨v, _, _, g', ⟨rfl, ?_⟩, h2⟩
 have hn := List.all_eq_true.1 hends ns hns
 have hn : nmOf ns = inNames k ++ newNames ((nmOf ns).length - k) := by simpa using hn
 have hlen2 : (nmOf ns).length - k = news.length := by
  rw [← hlen]; simp; omega
 rw [hlen2] at hn
 unfold smOut
 rw [hn, zipNm_append (by simp [inNames]; omega)]
 rw [show bs'.length = k by omega]
end Go.Ev
end
section
namespace Go.Ev.R2
open Go Go.Proofs Go.Shelf Go.RowKit
theorem size73 : ∃ j, Tryz.prog.info? 73 = some j ∧ j.size ≠ 0 := by
 have h : (match Tryz.prog.info? 73 with | some i => decide (i.size ≠ 0) | none => false) = true := by kernel_rfl
 cases hi : Tryz.prog.info? 73 with
 | none => rw [hi] at h; cases h
 | some i => rw [hi] at h; exact ⟨i, rfl, by simpa using h⟩
set_option maxHeartbeats 1000000 in
set_option maxRecDepth 100000 in
theorem cc_used (b : Nat) (w : World) (h0 : w.cell? ⟨b, 0, none⟩ = some (.pointer (some ⟨b, 0, none⟩))) :
  Calls Tryz.prog 195 #[.pointer (some ⟨b, 0, none⟩)] w fun e w' => e = .returned (.tuple #[]) ∧ w' = w := by
 obtain ⟨j, hj, _⟩ := size73
 go_enter Tryz.func195, Tryz.ntmps195
 go_wp2
 rw [Lib.run_neq_ptr_same w _ Tryz.underlying70 hj]
 go_wp2
 go_end0
 exact ⟨rfl, rfl⟩
set_option maxHeartbeats 1000000 in
set_option maxRecDepth 100000 in
theorem cc_fresh (b T n : Nat) (w : World) (h0 : w.cell? ⟨b, 0, none⟩ = some (.pointer none)) (hsh : w.shape? b = some (T, n)) (hn : 0 < n) (hlies : liesAt Tryz.prog Tryz.prog.depth T (n / Tryz.prog.cellsOf T) 0 73 1 = true) (hfz : w.frozen? ⟨b, 0, none⟩ = false) :
  Calls Tryz.prog 195 #[.pointer (some ⟨b, 0, none⟩)] w fun e w' => e = .returned (.tuple #[]) ∧ w' = w.setCell ⟨b, 0, none⟩ (.pointer (some ⟨b, 0, none⟩)) := by
 obtain ⟨j, hj, hjs⟩ := size73
 go_enter Tryz.func195, Tryz.ntmps195
 go_wp2
 rw [Lib.run_to_unsafe w ⟨b, 0, none⟩ Tryz.underlying70 Tryz.underlying241 hj hjs hsh hn]
 simp only [Result.andThen]
 rw [Oper.upon_value]
 go_wp2
 rw [run_callFunc_extern Tryz.func218 (by kernel_rfl) (by kernel_rfl) (by kernel_rfl) (e := Extern.AbiNoEscape.same) (by kernel_rfl)]
 rw [Lib.run_noEscape]
 simp only [Result.andThen]
 rw [Oper.upon_value]
 go_wp2
 rw [Lib.run_from_unsafe w ⟨b, 0, none⟩ Tryz.underlying241 Tryz.underlying70 hj hsh hlies]
 simp only [Result.andThen]
 rw [Oper.upon_value]
 go_wp2
 go_end0
 exact ⟨rfl, rfl⟩
set_option maxHeartbeats 2000000 in
set_option maxRecDepth 100000 in
theorem str_row (b g cap : Nat) (cur : Array Value) (l : List UInt8) (w : World) (hl : l ≠ []) (h1 : w.cell? ⟨b, 1, none⟩ = some (.slice (some ⟨g, 0, none⟩) l.length cap)) (hc : l.length ≤ cap) (hcm : cap ≤ maxLen)
  (hg : w.heap[g]? = some (.cells cur 5 (0, 0))) (hcur : l.length ≤ cur.size) (hb : ∀ (j : Nat) (x : UInt8), l[j]? = some x → w.cell? ⟨g, j, none⟩ = some (.int .u8 x.toNat)) :
  Calls Tryz.prog 61 #[.pointer (some ⟨b, 0, none⟩)] w fun e w' => e = .returned (.string ⟨l.toArray⟩) ∧ w' = w.drew.freeze ⟨g, 0, none⟩ l.length := by
 have hl0 : l.length ≠ 0 := by simpa using hl
 have c1 : w.drew.cell? ⟨b, 1, none⟩ = some (.slice (some ⟨g, 0, none⟩) l.length cap) := h1
 have hSD : (Builtin.unsafeSliceData_ #[71] 124 #[.slice (some ⟨g, 0, none⟩) l.length cap]).run Tryz.prog w.drew = .ok (.pointer (some ⟨g, 0, none⟩)) w.drew :=
  Lib.run_unsafeSliceData_row _ _ _ _ _ _ (by omega)
 have hUS : (Builtin.unsafeString_ #[124, 3] 9 #[.pointer (some ⟨g, 0, none⟩), .int .i64 l.length]).run Tryz.prog w.drew = .ok (.string ⟨l.toArray⟩) (w.drew.freeze ⟨g, 0, none⟩ l.length) := by
  refine Lib.run_unsafeString_row w.drew 124 3 9 5 Tryz.underlying124 (by kernel_rfl) g cur.size (by have hg' : w.drew.heap[g]? = some (.cells cur 5 (0, 0)) := hg; simp [World.shape?, hg']) l hl hcur (by unfold maxLen at hcm; omega) ?_
  intro j x hx
  have := hb j x hx
  unfold Addr.add
  split
  ·
   subst_vars; exact this
  ·
   simpa using this
 have mixed : Tryz.prog.follows Departure.mixedOrders = true := by kernel_rfl
 go_enter Tryz.func61, Tryz.ntmps61
 go_wp2
 go_region_o
 all_goals (go_wp2; go_ret; exact ⟨rfl, rfl⟩)
set_option maxHeartbeats 2000000 in
set_option maxRecDepth 100000 in
theorem str_nil (b : Nat) (w : World) (h1 : w.cell? ⟨b, 1, none⟩ = some (.slice none 0 0)) :
  Calls Tryz.prog 61 #[.pointer (some ⟨b, 0, none⟩)] w fun e w' => e = .returned (.string ⟨#[]⟩) ∧ w' = w.drew := by
 have hUS : ∀ (W : World) (q : Option Addr), (Builtin.unsafeString_ #[124, 3] 9 #[.pointer q, .int .i64 0]).run Tryz.prog W = .ok (.string .empty) W := fun W q => Lib.run_unsafeString_none W _ _ _ q
 have c1 : w.drew.cell? ⟨b, 1, none⟩ = some (.slice none 0 0) := h1
 have hSD : (Builtin.unsafeSliceData_ #[71] 124 #[.slice none 0 0]).run Tryz.prog w.drew = .ok (.pointer none) w.drew := rfl
 have mixed : Tryz.prog.follows Departure.mixedOrders = true := by kernel_rfl
 go_enter Tryz.func61, Tryz.ntmps61
 go_wp2
 go_region_o
 all_goals (go_wp2; go_ret; exact ⟨rfl, rfl⟩)
end Go.Ev.R2
end
section
namespace Go.Ev
theorem smIn_at {bs : List Box} {i : Nat} {b : Box} (h : bs[i]? = some b) : smIn bs [0, i] = some b := by
 have hlt := (List.getElem?_eq_some_iff.1 h).1
 exact ofL_zipNm_at (by have := nodup_range 0 bs.length; simpa [inNames] using this) (by simp [inNames, hlt]) h
theorem smIn_some {bs : List Box} {n : Name} {b : Box} (h : smIn bs n = some b) : ∃ i : Nat, n = [0, i] ∧ bs[i]? = some b := by
 obtain ⟨i, h1, h2⟩ := ofL_zipNm h
 refine ⟨i, ?_, h2⟩
 have hlt := (List.getElem?_eq_some_iff.1 h2).1
 simp [inNames, hlt] at h1
 exact h1.symm
theorem smIn_set {bs : List Box} {i : Nat} {b : Box} (h : i < bs.length) : smIn (bs.set i b) = (smIn bs).set [0, i] b := by
 funext n
 by_cases hn : n = [0, i]
 ·
  subst hn
  rw [set_same]
  exact smIn_at (by simp [h])
 ·
  rw [set_other _ _ hn]
  cases hs : smIn bs n with
  | some c =>
   obtain ⟨j, rfl, hj⟩ := smIn_some hs
   have hji : i ≠ j := fun e => hn (by rw [e])
   exact smIn_at (by rw [List.getElem?_set_ne hji]; exact hj)
  | none =>
   cases hs2 : smIn (bs.set i b) n with
   | none => rfl
   | some c =>
    obtain ⟨j, rfl, hj⟩ := smIn_some hs2
    have hji : i ≠ j := fun e => hn (by rw [e])
    rw [List.getElem?_set_ne hji] at hj
    rw [smIn_at hj] at hs; cases hs
theorem smOut_nil (bs : List Box) : smOut bs [] = smIn bs := by
 unfold smOut smIn
 simp [newNames, zipNm]
theorem recellV {C : Cx} {w : World} {g : G} {s : St} {n : Name} {u : TypeId} {cs : List V} {i : Nat} {x : V} {a : Act} (R : Rel C g s a w) (hb : s.H n = some (.cells u cs)) (hx : ∀ b c, g.val n = .pointer (some ⟨b, 0, none⟩) → w.heap[b]? = some (.cells c u (0, 0)) → ∀ v, c.toList[i]? = some v → RepV w g s.H x v) :
  Rel C g (s.with (s.H.set n (.cells u (cs.set i x)))) a w ∧ Names s.H g (s.H.set n (.cells u (cs.set i x))) g := by
 have hn : Names s.H g (s.H.set n (.cells u (cs.set i x))) g := fun m q hq => by
  refine ⟨?_, rfl⟩
  by_cases e : m = n
  ·
   subst e; simp [kd, hb, Box.kind] at hq; subst hq; simp [kd, set_same, Box.kind]
  ·
   simpa [kd, set_other _ _ e] using hq
 refine ⟨R.later (.refl _ _) hn ?_, hn⟩
 refine RepH.upd (n0 := n) R.heap (.refl _ _) hn (fun _ _ _ _ ho => ⟨rfl, ho, rfl⟩) (fun m hm => set_other _ _ hm) (fun b hb' => ?_) (fun b hb => R.heap.fresh b hb)
 rw [set_same] at hb'
 cases hb'
 obtain ⟨b, c, h1, h2, h3, h4, h5, h6⟩ := R.heap.box n _ hb
 exact ⟨b, c, h1, h2, RepVs.mono (.refl _ _) hn (h3.set fun v hv => hx b c h1 h2 v hv), h4, h5, h6⟩
theorem rel0 {C : Cx} {w : World} {g : G} {H : Heap} (hH : RepH w g H) (hG : Globs C w g.lim) : Rel C g ⟨0, fun _ => vundef, H⟩ { tmps := #[], defers := [] } w :=
 ⟨rfl, fun t => by simpa using repUndef, hH, hG, rfl⟩
end Go.Ev
namespace Go.Ev.R2
open Go Go.Ev Go.Proofs
set_option maxRecDepth 100000
set_option linter.unusedVariables false
set_option linter.unusedSimpArgs false
theorem storeV_at {C : Cx} {H : Heap} {n m : Name} {off t : Nat} {T : TypeId} {c0 : V} {cs : List V} (hb : H n = some (.cells T (c0 :: cs))) (hs : sizeT C t = some 1) : storeV C H t (.ptr n 0) (.ptr m off) = some (H.set n (.cells T (.ptr m off :: cs))) := by
 simp [storeV, hb, hs, cellyV, V.cells, splice]
 rfl
def okB (T n : Nat) : Bool := (T == 73 && n == 1) || (T == 75 && n == 3)
def s195 : SmB := ⟨fun _ _ => true, fun vals bs => match vals, bs with
 | [.ptr [0, 0] 0], .cells T (c0 :: cs) :: rest => bif okB T cs.length then (match c0 with
  | .d (.lit (.pointer none)) => some (.d (.tup []), .cells T (.ptr [0, 0] 0 :: cs) :: rest, [])
  | .ptr [0, 0] 0 => some (.d (.tup []), .cells T (.ptr [0, 0] 0 :: cs) :: rest, [])
  | .opt [0, 0] 0 => some (.d (.tup []), .cells T (.ptr [0, 0] 0 :: cs) :: rest, [])
  | _ => none) else none
 | _, _ => none⟩
theorem lies75 : liesAt Tryz.prog Tryz.prog.depth 75 (4 / Tryz.prog.cellsOf 75) 0 73 1 = true := by kernel_rfl
theorem lies73 : liesAt Tryz.prog Tryz.prog.depth 73 (2 / Tryz.prog.cellsOf 73) 0 73 1 = true := by kernel_rfl
theorem size70 : sizeT B 70 = some 1 := by kernel_rfl
theorem size70' : ∃ i, Tryz.prog.info? 70 = some i ∧ i.size = 1 := by
 obtain ⟨i, h1, h2⟩ := sizeT_some size70
 exact ⟨i, h1, h2⟩
theorem enters195 : Enters Tryz.prog 195 := by
 have h : (Tryz.f195.name == "runtime.NumGoroutine") = false := by kernel_rfl
 exact ⟨Tryz.f195, Tryz.func195, by simpa using h, by kernel_rfl⟩
theorem enters61 : Enters Tryz.prog 61 := by
 have h : (Tryz.f61.name == "runtime.NumGoroutine") = false := by kernel_rfl
 exact ⟨Tryz.f61, Tryz.func61, by simpa using h, by kernel_rfl⟩
theorem store_ptr {w : World} {b : Nat} {p : Addr} (h0 : ∃ v, w.cell? ⟨b, 0, none⟩ = some v) (hfz : w.frozen? ⟨b, 0, none⟩ = false) : (Instr.storeAt 70 (.pointer (some ⟨b, 0, none⟩)) (.pointer (some p))).run Tryz.prog w = .ok () (w.setCell ⟨b, 0, none⟩ (.pointer (some p))) := by
 obtain ⟨i, h1, h2⟩ := size70'
 obtain ⟨v, hv⟩ := h0
 have hs := run_store Tryz.prog w ⟨b, 0, none⟩ (.pointer (some p)) .plain rfl
 rw [hv] at hs
 simp only [hfz, Bool.false_eq_true, if_false] at hs
 simp [Instr.storeAt, Instr.sureAddr, storeVar, run_size _ w h1, h2, storeCells, Addr.add, Value.cells, hs]
theorem args1 {w : World} {g : G} {H : Heap} {vs : Array Value} {n : Name} {b : Nat} (hr : RepVs w g H [.ptr n 0] vs.toList) (hval : g.val n = .pointer (some ⟨b, 0, none⟩)) : vs = #[.pointer (some ⟨b, 0, none⟩)] := by
 obtain ⟨vs⟩ := vs
 cases hr with
 | cons h t =>
  cases t
  cases h with
  | ptr _ => rw [hval]; rfl
theorem ok195 : ∀ vals bs r bs' news, s195.pre vals bs = true → s195.f vals bs = some (r, bs', news) → Enters B.P 195 ∧ SoundQ B 195 vals (smIn bs) fun r' H' => r' = r ∧ H' = smOut bs' news := by
  intro vals bs r bs' news _ hf
  refine ⟨enters195, fun w g vs hH hG hr hz => ?_⟩
  unfold s195 at hf
  simp only [] at hf
  split at hf
  case h_2 => cases hf
  rename_i T c0 cs rest hpre
  cases hT : okB T cs.length with
  | false => rw [hT] at hf; cases hf
  | true =>
    rw [hT] at hf
    simp only [cond_true] at hf
    have hbox := smIn_at (bs := .cells T (c0 :: cs) :: rest) (i := 0) rfl
    obtain ⟨b, c, hval, hw, hcs, hfl, hlim, how⟩ := hH.box _ _ hbox
    have hvs := args1 hr hval
    subst hvs
    have hsz : c.size = cs.length + 1 := by have := hcs.length; simp at this; omega
    have hsh : w.shape? b = some (T, c.size) := by simp [World.shape?, hw]
    have hfz : w.frozen? ⟨b, 0, none⟩ = false := by simp [World.frozen?, hw]
    have hlies : liesAt Tryz.prog Tryz.prog.depth T (c.size / Tryz.prog.cellsOf T) 0 73 1 = true := by
      rw [hsz]
      unfold okB at hT
      simp only [Bool.or_eq_true, Bool.and_eq_true, beq_iff_eq] at hT
      rcases hT with ⟨rfl, h⟩ | ⟨rfl, h⟩
      · rw [h]; exact lies73
      · rw [h]; exact lies75
    have hc0 : ∃ v, c.toList[0]? = some v ∧ RepV w g (smIn (.cells T (c0 :: cs) :: rest)) c0 v := by
      have := hcs.get (i := 0) (x := c0) rfl
      exact this
    obtain ⟨v0, hv0, hr0⟩ := hc0
    have hcell : w.cell? ⟨b, 0, none⟩ = some v0 := by simp [World.cell?, hw]; simpa using hv0
    have hset : smIn (.cells T (.ptr [0, 0] 0 :: cs) :: rest) = (smIn (.cells T (c0 :: cs) :: rest)).set [0, 0] (.cells T (.ptr [0, 0] 0 :: cs)) := smIn_set (bs := .cells T (c0 :: cs) :: rest) (i := 0) (by simp)
    have hres : r = .d (.tup []) ∧ bs' = .cells T (.ptr [0, 0] 0 :: cs) :: rest ∧ news = [] := by
      split at hf
      · simp only [Option.some.injEq, Prod.mk.injEq] at hf; exact ⟨hf.1.symm, hf.2.1.symm, hf.2.2.symm⟩
      · simp only [Option.some.injEq, Prod.mk.injEq] at hf; exact ⟨hf.1.symm, hf.2.1.symm, hf.2.2.symm⟩
      · simp only [Option.some.injEq, Prod.mk.injEq] at hf; exact ⟨hf.1.symm, hf.2.1.symm, hf.2.2.symm⟩
      · cases hf
    have hv : v0 = .pointer none ∨ v0 = .pointer (some ⟨b, 0, none⟩) := by
      split at hf
      · exact .inl hr0.lit_inv
      · right; cases hr0 with
        | ptr _ => rw [hval]; rfl
      · cases hr0 with
        | opt _ h => rcases h with h | h
                     · exact .inl h
                     · right; rw [h, hval]; rfl
      · cases hf
    clear hf
    obtain ⟨rfl, rfl, rfl⟩ := hres
    have hp : RepV w g (smIn (.cells T (c0 :: cs) :: rest)) (.ptr [0, 0] 0) (.pointer (some ⟨b, 0, none⟩)) := by
      have : RepV w g (smIn (.cells T (c0 :: cs) :: rest)) (.ptr [0, 0] 0) (ptrAt (g.val [0, 0]) 0) := .ptr (by simp [kd, hbox, Box.kind])
      rw [hval] at this; exact this
    rcases hv with rfl | rfl
    · -- fresh
      refine (cc_fresh b T c.size w hcell hsh (by omega) hlies hfz).mono ?_
      rintro e w' ⟨rfl, rfl⟩
      obtain ⟨w2, hrun, g', R', st, nm⟩ := store_post (C := B) (rel0 hH hG) (storeV_at hbox size70) hp hp
      have hrun2 := store_ptr (w := w) (b := b) (p := ⟨b, 0, none⟩) ⟨_, hcell⟩ hfz
      have hrun' : (Instr.storeAt 70 (.pointer (some ⟨b, 0, none⟩)) (.pointer (some ⟨b, 0, none⟩))).run Tryz.prog w = .ok () w2 := hrun
      rw [hrun2] at hrun'
      cases hrun'
      refine ⟨_, _, _, g', ⟨rfl, rfl⟩, rfl, .d (.tup .nil), ?_, st, ?_⟩
      · rw [smOut_nil, hset]; exact R'.heap
      · rw [smOut_nil, hset]; exact .of_names nm
    · -- used
      refine (cc_used b w hcell).mono ?_
      rintro e w' ⟨rfl, rfl⟩
      obtain ⟨R', nm⟩ := recellV (C := B) (i := 0) (x := .ptr [0, 0] 0) (rel0 hH hG) hbox (fun b' c' hval' hw' v hv => by
        rw [hval] at hval'
        cases hval'
        rw [hw] at hw'
        cases hw'
        rw [hv0] at hv
        cases hv
        exact hp)
      exact ⟨_, _, _, g, ⟨rfl, rfl⟩, rfl, .d (.tup .nil), by rw [smOut_nil, hset]; exact R'.heap, .refl _ _, by rw [smOut_nil, hset]; exact .of_names nm⟩
def byteB : D → Bool
 | .lit (.int .u8 n) => decide (0 ≤ n) && decide (n < 256)
 | _ => false
def s61 : SmB := ⟨fun _ _ => true, fun vals bs => match vals, bs with
 | [.ptr [0, 0] 0], .cells T (c0 :: .d (.slice true z []) :: cs) :: rest => some (.d (.lit (.string ⟨#[]⟩)), .cells T (c0 :: .d (.slice true z []) :: cs) :: rest, [])
 | [.ptr [0, 0] 0], .cells T (c0 :: .ref [0, 1] :: cs) :: .arr live nil 5 1 xs [] :: rest =>
  bif live && xs.all byteB then (bif nil then (bif xs.isEmpty then some (.d (.lit (.string ⟨#[]⟩)), .cells T (c0 :: .ref [0, 1] :: cs) :: .arr live nil 5 1 xs [] :: rest, []) else none)
   else bif xs.isEmpty then none else (match unbytes xs with
    | some l => some (.d (.lit (.string ⟨l.toArray⟩)), .cells T (c0 :: .ref [0, 1] :: cs) :: .arr false false 5 1 xs [] :: rest, [])
    | none => none)) else none
 | _, _ => none⟩
theorem freeze_cell (w : World) (b n : Nat) (x : Addr) : (w.freeze ⟨b, 0, none⟩ n).cell? x = w.cell? x := by
 unfold World.freeze
 split
 ·
  rfl
 ·
  unfold World.cell?
  simp only [Array.getElem?_modify]
  by_cases h : b = x.block
  ·
   rw [if_pos h]
   cases w.heap[x.block]? with
   | none => rfl
   | some o => cases o <;> rfl
  ·
   rw [if_neg h]
theorem freeze_other (w : World) {b n k : Nat} (h : k ≠ b) : (w.freeze ⟨b, 0, none⟩ n).heap[k]? = w.heap[k]? := by
 unfold World.freeze
 split
 ·
  rfl
 ·
  simp only [Array.getElem?_modify]
  rw [if_neg (Ne.symm h)]
theorem freeze_same (w : World) {b n : Nat} {c : Array Value} {t : TypeId} {m : Nat × Nat} (h : w.heap[b]? = some (.cells c t m)) : ∃ m', (w.freeze ⟨b, 0, none⟩ n).heap[b]? = some (.cells c t m') := by
 unfold World.freeze
 split
 ·
  exact ⟨m, h⟩
 ·
  simp only [Array.getElem?_modify, if_true, h]
  exact ⟨_, rfl⟩
theorem freeze_world (w : World) (b n : Nat) : (w.freeze ⟨b, 0, none⟩ n).os = w.os ∧ (w.freeze ⟨b, 0, none⟩ n).tape = w.tape ∧ (w.freeze ⟨b, 0, none⟩ n).output = w.output ∧ (w.freeze ⟨b, 0, none⟩ n).heap.size = w.heap.size := by
 unfold World.freeze
 split
 ·
  exact ⟨rfl, rfl, rfl, rfl⟩
 ·
  exact ⟨rfl, rfl, rfl, by simp⟩
theorem bytes_of {w : World} {lim : Nat → Nat} : ∀ {xs : List D} {vs : List Value} {l : List UInt8}, xs.all byteB = true → unbytes xs = some l → RepDs w lim (flats xs) vs → vs = l.map fun c => .int .u8 c.toNat
 | [], vs, l, _, h, hr => by
  simp only [unbytes, Option.some.injEq] at h; subst h
  simp only [flats, List.flatMap_nil] at hr
  cases hr; rfl
 | x :: xs, vs, l, hb, h, hr => by
  simp only [List.all_cons, Bool.and_eq_true] at hb
  obtain ⟨hb1, hb2⟩ := hb
  unfold byteB at hb1
  split at hb1
  ·
   rename_i n
   simp only [unbytes] at h
   split at h
   ·
    rename_i l' hl
    simp only [Option.some.injEq] at h
    subst h
    have hr' : RepDs w lim (.lit (.int .u8 n) :: flats xs) vs := hr
    cases hr' with
    | cons h0 t =>
     have ih := bytes_of hb2 hl t
     subst ih
     cases h0
     simp only [Bool.and_eq_true, decide_eq_true_eq] at hb1
     simp only [List.map_cons]
     congr 2
     have : (UInt8.ofNat n.toNat).toNat = n.toNat := by rw [UInt8.toNat_ofNat']; omega
     rw [this]; omega
   ·
    cases h
  ·
   cases hb1
theorem ok61 : ∀ vals bs r bs' news, s61.pre vals bs = true → s61.f vals bs = some (r, bs', news) → Enters B.P 61 ∧ SoundQ B 61 vals (smIn bs) fun r' H' => r' = r ∧ H' = smOut bs' news := by
 intro vals bs r bs' news hpre hf
 refine ⟨enters61, fun w g vs hH hG hr hz => ?_⟩
 clear hpre
 unfold s61 at hf
 simp only [] at hf
 split at hf
 ·
  -- a nil slice
  rename_i T c0 z cs rest
  simp only [Option.some.injEq, Prod.mk.injEq] at hf
  obtain ⟨rfl, rfl, rfl⟩ := hf
  have hbox := smIn_at (bs := .cells T (c0 :: .d (.slice true z []) :: cs) :: rest) (i := 0) rfl
  obtain ⟨b, c, hval, hw, hcs, hfl, hlim, how⟩ := hH.box _ _ hbox
  have hvs := args1 hr hval
  subst hvs
  obtain ⟨v1, hv1, hr1⟩ := hcs.get (i := 1) rfl
  have hv1' : v1 = .slice none 0 0 := by cases hr1 with | d h => cases h; rfl
  subst hv1'
  have hcell : w.cell? ⟨b, 1, none⟩ = some (.slice none 0 0) := by simp [World.cell?, hw]; simpa using hv1
  refine (str_nil b w hcell).mono ?_
  rintro e w' ⟨rfl, rfl⟩
  obtain ⟨R, st, nm⟩ := ext_rel (C := B) (w' := w.drew) (lim' := g.lim) (rel0 hH hG) ⟨rfl, rfl, rfl, Nat.le_refl _, fun _ _ => rfl⟩ (fun _ _ => rfl) (fun b hb => (hH.fresh b hb).1)
  exact ⟨_, _, _, _, ⟨rfl, rfl⟩, rfl, .d (.lit (by simp)), by rw [smOut_nil]; exact R.heap, st, by rw [smOut_nil]; exact .of_names nm⟩
 ·
  -- a row
  rename_i T c0 cs live nil xs rest
  cases hg : (live && xs.all byteB) with
  | false => rw [hg] at hf; cases hf
  | true =>
   rw [hg] at hf
   simp only [Bool.and_eq_true] at hg
   obtain ⟨rfl, hby⟩ := hg
   simp only [cond_true] at hf
   have hbox := smIn_at (bs := .cells T (c0 :: .ref [0, 1] :: cs) :: .arr true nil 5 1 xs [] :: rest) (i := 0) rfl
   have hbox1 := smIn_at (bs := .cells T (c0 :: .ref [0, 1] :: cs) :: .arr true nil 5 1 xs [] :: rest) (i := 1) rfl
   obtain ⟨b, c, hval, hw, hcs, hfl, hlim, how⟩ := hH.box _ _ hbox
   have hvs := args1 hr hval
   subst hvs
   obtain ⟨v1, hv1, hr1⟩ := hcs.get (i := 1) rfl
   have hv1' : v1 = g.val [0, 1] := by cases hr1; rfl
   subst hv1'
   have hcell : w.cell? ⟨b, 1, none⟩ = some (g.val [0, 1]) := by simp [World.cell?, hw]; simpa using hv1
   obtain ⟨vs, us, q1, q2, q3, q4, q5, q6, q7, q8⟩ := hH.box _ _ hbox1
   cases nil with
   | true =>
    simp only [cond_true] at hf
    cases he : xs.isEmpty with
    | false => rw [he] at hf; cases hf
    | true =>
     rw [he] at hf
     simp only [cond_true, Option.some.injEq, Prod.mk.injEq] at hf
     obtain ⟨rfl, rfl, rfl⟩ := hf
     rw [q5.1 rfl] at hcell
     refine (str_nil b w hcell).mono ?_
     rintro e w' ⟨rfl, rfl⟩
     obtain ⟨R, st, nm⟩ := ext_rel (C := B) (w' := w.drew) (lim' := g.lim) (rel0 hH hG) ⟨rfl, rfl, rfl, Nat.le_refl _, fun _ _ => rfl⟩ (fun _ _ => rfl) (fun b hb => (hH.fresh b hb).1)
     exact ⟨_, _, _, _, ⟨rfl, rfl⟩, rfl, .d (.lit (by simp)), by rw [smOut_nil]; exact R.heap, st, by rw [smOut_nil]; exact .of_names nm⟩
   | false =>
    simp only [cond_false] at hf
    cases he : xs.isEmpty with
    | true => rw [he] at hf; cases hf
    | false =>
     rw [he] at hf
     simp only [cond_false] at hf
     cases hu : unbytes xs with
     | none => rw [hu] at hf; cases hf
     | some l =>
      rw [hu] at hf
      simp only [Option.some.injEq, Prod.mk.injEq] at hf
      obtain ⟨rfl, rfl, rfl⟩ := hf
      have hus : us = [] := by simp [flats] at q2; cases q2; rfl
      subst hus
      have hvs := bytes_of hby hu q1
      have hvl : vs.length = xs.length := by
       rw [← q1.length, flats_length (sz := 1) (fun x hx => q4 x (by simp [hx]))]; omega
      have hll : l.length = xs.length := by rw [← hvl, hvs]; simp
      have hne : l ≠ [] := by
       rintro rfl
       simp at hll
       have : xs = [] := List.length_eq_zero_iff.1 hll.symm
       subst this; simp at he
      obtain ⟨hown, hob⟩ := q7 rfl
      rcases hown.2 with ⟨hv, _⟩ | ⟨gb, cap, cur, hv, _, hwg, hn, hm, hs, ht⟩
      ·
       have := q5.2 hv; cases this
      ·
       obtain ⟨ho1, ho2⟩ := hob gb (by rw [hv]; rfl)
       have hcells := hown.cells (g := gb) (by rw [hv]; rfl)
       have hread : ∀ (j : Nat) v, vs[j]? = some v → w.cell? ⟨gb, j, none⟩ = some v := fun j v hj => by
        have := hcells j v (by simpa using hj)
        unfold Addr.add at this
        split at this
        ·
         subst_vars; exact this
        ·
         simpa using this
       rw [hv] at hcell
       simp only [List.length_nil, Nat.add_zero] at hcell hn hs
       rw [← hll] at hcell hn
       refine (str_row b gb cap cur l w hne hcell hn hm hwg (by rw [hs]; omega) (fun j x hj => hread j _ (by rw [hvs]; simp [hj]))).mono ?_
       rintro e w' ⟨rfl, rfl⟩
       have hother : ∀ k, k ≠ gb → (w.drew.freeze ⟨gb, 0, none⟩ l.length).heap[k]? = w.heap[k]? := fun k hk => freeze_other w.drew hk
       obtain ⟨m', hsame⟩ := freeze_same w.drew (n := l.length) (b := gb) (c := cur) (t := 5) (m := (0, 0)) hwg
       obtain ⟨f1, f2, f3, f4⟩ := freeze_world w.drew gb l.length
       have hgr : Grow w g.lim (w.drew.freeze ⟨gb, 0, none⟩ l.length) g.lim := ⟨fun _ => Nat.le_refl _, fun b o _ => freeze_cell w.drew gb l.length _, fun b ms cc hb hm => by
        have : b ≠ gb := fun e => by subst e; rw [hwg] at hm; cases hm
        rw [hother b this]; exact hm, fun b cc tt mm hb hm => by
        by_cases e : b = gb
        ·
         subst e; rw [hwg] at hm; cases hm; exact ⟨_, _, hsame, rfl⟩
        ·
         exact ⟨_, _, by rw [hother b e]; exact hm, rfl⟩⟩
       have hset : smIn (.cells T (c0 :: .ref [0, 1] :: cs) :: .arr false false 5 1 xs [] :: rest) = (smIn (.cells T (c0 :: .ref [0, 1] :: cs) :: .arr true false 5 1 xs [] :: rest)).set [0, 1] (.arr false false 5 1 xs []) :=
        smIn_set (bs := .cells T (c0 :: .ref [0, 1] :: cs) :: .arr true false 5 1 xs [] :: rest) (i := 1) (by simp)
       have hnm : Names (smIn (.cells T (c0 :: .ref [0, 1] :: cs) :: .arr true false 5 1 xs [] :: rest)) g ((smIn (.cells T (c0 :: .ref [0, 1] :: cs) :: .arr true false 5 1 xs [] :: rest)).set [0, 1] (.arr false false 5 1 xs [])) g := fun n k hk => by
        refine ⟨?_, rfl⟩
        by_cases e : n = [0, 1]
        ·
         subst e
         simp only [kd, hbox1, Option.map_some, Box.kind] at hk
         simpa [kd, set_same, Box.kind] using hk
        ·
         simpa [kd, set_other _ _ e] using hk
       have hH' : RepH (w.drew.freeze ⟨gb, 0, none⟩ l.length) g ((smIn (.cells T (c0 :: .ref [0, 1] :: cs) :: .arr true false 5 1 xs [] :: rest)).set [0, 1] (.arr false false 5 1 xs [])) := by
        refine RepH.upd (n0 := [0, 1]) hH hgr hnm (fun n k hn _ ho => ?_) (fun n hn => set_other _ _ hn) (fun b' hb' => ?_) (fun b hb => hH.fresh b (by have h4 : (w.drew.freeze ⟨gb, 0, none⟩ l.length).heap.size = w.heap.size := f4; omega))
        ·
         have hk : k ≠ gb := fun e => by subst e; rw [ho1] at ho; cases ho; exact hn rfl
         exact ⟨hother k hk, ho, rfl⟩
        ·
         rw [set_same] at hb'; cases hb'
         refine ⟨vs, [], q1.mono hgr, .nil, q3, q4, q5, q6, by simp, fun _ => ⟨rfl, .inr ⟨⟨gb, 0, none⟩, cap, ?_, by omega, rfl, fun i v hi => ⟨?_, ?_⟩⟩⟩⟩
         ·
          rw [hv]; simp
         ·
          show 0 + i < g.lim gb
          have := (List.getElem?_eq_some_iff.1 hi).1
          omega
         ·
          show (w.drew.freeze _ _).cell? ⟨gb, 0 + i, none⟩ = _
          rw [freeze_cell, Nat.zero_add]
          exact hread i v hi
       refine ⟨_, _, _, g, ⟨rfl, rfl⟩, rfl, .d (.lit (by simp)), ?_, ⟨f1, f2, f3, Nat.le_of_eq f4.symm, fun k hk ho => ⟨hother k (fun e => by subst e; rw [ho1] at ho; cases ho), rfl, ho⟩, hgr⟩, ?_⟩
       ·
        rw [smOut_nil, hset]; exact hH'
       ·
        rw [smOut_nil, hset]; exact .of_names hnm
 ·
  cases hf
end Go.Ev.R2
end
section
namespace Go.Ev.R2
open Go Go.Ev Go.Proofs
set_option maxRecDepth 100000
def regOps : Code → Array Oper | .region _ ops _ => ops | _ => #[]
def seqA : Code → Code | .seq a _ => a | _ => .skip
def seqB : Code → Code | .seq _ b => b | _ => .skip
def blkIn : Code → Code | .block _ c => c | _ => .skip
noncomputable def opAt (c : Code) (i : Nat) : Oper := (regOps c).toList.getD i default
noncomputable def m115 : Code := seqA (seqB (bodyOf Tryz.f115))
noncomputable def b115 : Code := roundOf (blkIn (seqB m115))
noncomputable def t115 : Code := blkIn (seqB (seqB b115))
noncomputable def fin115 : Code := seqB (seqB (bodyOf Tryz.f115))
noncomputable def pre115 : List Oper := (regOps (seqA m115)).toList.dropLast
abbrev eBx (k0 : Int) (y1 y2 y3 y4 y5 y6 y7 y8 y9 y10 y11 y12 y13 y14 y15 : D) : Box := .cells 33 [lint k0, .d y1, .d y2, .d y3, .d y4, .d y5, .d y6, .d y7, .d y8, .d y9, .d y10, .d y11, .d y12, .d y13, .d y14, .d y15]
abbrev nBx (l q : Bool) (s : ByteArray) (x : D) : Box := .cells 85 [lbool l, lbool q, lstr s, .d x]
abbrev nmI : List Name := [[0,0],[0,1],[5000]]
abbrev nsI3 : List (Name × Name) := [([0,0],[0,0]),([0,1],[0,1]),([5000],[5000])]
abbrev e01 : List (List (Name × Name)) := [[([0,0],[0,0]),([0,1],[0,1])]]
theorem wa115 (l : Bool) (q : Bool) (s : ByteArray) (x : D) (es : List (D × D)) (k0 : Int) (y1 : D) (y2 : D) (y3 : D) (y4 : D) (y5 : D) (y6 : D) (y7 : D) (y8 : D) (y9 : D) (y10 : D) (y11 : D) (y12 : D) (y13 : D) (y14 : D) (y15 : D) (R : List V → List Box → Prop) : (evCodeT (Cn T13) T13 noCS 2 noSp noHn false (seqA (bodyOf Tryz.f115))
 (St.mk 34
 (fun t =>
 [V.d (D.agg [D.lit (Value.bool l), D.lit (Value.bool q), D.lit (Value.string s), x]), V.ptr [0, 0] 0,
 V.ptr [0, 1] 0][t]?.getD
 vundef)
 (smIn [Box.cells 59 [V.d (D.map es)], eBx k0 y1 y2 y3 y4 y5 y6 y7 y8 y9 y10 y11 y12 y13 y14 y15]))
 fun x s =>
 x = X.normal ∧
 s.N = 34 ∧ go (cutSt 2 [1, 2, 3] [([0, 0], [0, 0]), ([0, 1], [0, 1]), ([5000], [5])] s) fun p => R p.fst p.snd) =
 (X.normal = X.normal ∧
 (34 = 34 ∧
 R [V.ptr [0, 0] 0, V.ptr [0, 1] 0, V.ptr [5000] 0]
 [Box.cells 59 [V.d (D.map es)],
 Box.cells 33
 [V.d (D.lit (Value.int IntKind.i64 k0)), V.d y1, V.d y2, V.d y3, V.d y4, V.d y5, V.d y6, V.d y7, V.d y8, V.d y9,
 V.d y10, V.d y11, V.d y12, V.d y13, V.d y14, V.d y15],
 Box.cells 85 [V.d (D.lit (Value.bool l)), V.d (D.lit (Value.bool q)), V.d (D.lit (Value.string s)), V.d x]])) := by kernel_rfl
theorem ws115 (l : Bool) (q : Bool) (s : ByteArray) (x : D) (es : List (D × D)) (k0 : Int) (y1 : D) (y2 : D) (y3 : D) (y4 : D) (y5 : D) (y6 : D) (y7 : D) (y8 : D) (y9 : D) (y10 : D) (y11 : D) (y12 : D) (y13 : D) (y14 : D) (y15 : D) (R : Nat → List V → List Box → Prop) : (go
 (evOps (Cn T13) false noCS.call (regOps (seqA m115)) pre115
 (stN 34 [1, 2, 3] nmI [V.ptr [0, 0] 0, V.ptr [0, 1] 0, V.ptr [5000] 0]
 [Box.cells 59 [V.d (D.map es)], eBx k0 y1 y2 y3 y4 y5 y6 y7 y8 y9 y10 y11 y12 y13 y14 y15, nBx l q s x]))
 fun s1 =>
 s1.F 7 = V.d (D.map es) ∧
 s1.N = 34 ∧
 ∀ (it : Nat), go (s1.put (some 8) (itV it)) fun s2 => go (cutSt 2 [2, 3, 8] nsI3 s2) fun p => R it p.fst p.snd) =
 (V.d (D.map es) = V.d (D.map es) ∧
 (34 = 34 ∧
 (∀ z0 : Nat, R z0 [V.ptr [0, 1] 0, V.ptr [5000] 0, V.d (D.lit (Value.pointer (some (Addr.mk z0 0 none))))]
 [Box.cells 59 [V.d (D.map es)],
 Box.cells 33
 [V.d (D.lit (Value.int IntKind.i64 k0)), V.d y1, V.d y2, V.d y3, V.d y4, V.d y5, V.d y6, V.d y7, V.d y8, V.d y9,
 V.d y10, V.d y11, V.d y12, V.d y13, V.d y14, V.d y15],
 Box.cells 85 [V.d (D.lit (Value.bool l)), V.d (D.lit (Value.bool q)), V.d (D.lit (Value.string s)), V.d x]]))) := by kernel_rfl
theorem wr115 (l : Bool) (q : Bool) (s : ByteArray) (nm : ByteArray) (x : D) (es : List (D × D)) (k0 : Int) (code : Int) (it : Nat) (c1 : D) (c2 : D) (c3 : D) (c4 : D) (c5 : D) (c6 : D) (c7 : D) (c8 : D) (c9 : D) (c10 : D) (c11 : D) (c12 : D) (c13 : D) (y1 : D) (y2 : D) (y3 : D) (y4 : D) (y5 : D) (y6 : D) (y7 : D) (y8 : D) (y9 : D) (y10 : D) (y11 : D) (y12 : D) (y13 : D) (y14 : D) (y15 : D) (R : List V → List Box → Prop) : (mapRoundT (Cn T13) T13 noCS 2 noSp noHn 9 10 11 (regOps (seqA t115)) (seqB t115) (D.lit (Value.int IntKind.i64 code))
 (D.agg [D.lit (Value.string nm), c1, c2, c3, c4, c5, c6, c7, c8, c9, c10, c11, c12, c13])
 (stN 34 [2, 3, 8] nmI [V.ptr [0, 1] 0, V.ptr [5000] 0, itV it]
 [Box.cells 59 [V.d (D.map es)], eBx k0 y1 y2 y3 y4 y5 y6 y7 y8 y9 y10 y11 y12 y13 y14 y15, nBx l q s x])
 fun x s => s.N = 34 ∧ x = X.normal ∧ go (cutSt 2 [2, 3, 8] nsI3 s) fun p => R p.fst p.snd) =
 (bif nm.toList == s.toList then
 (34 = 34 ∧
 (X.normal = X.normal ∧
 R [V.ptr [0, 1] 0, V.ptr [5000] 0, V.d (D.lit (Value.pointer (some (Addr.mk it 0 none))))]
 [Box.cells 59 [V.d (D.map es)],
 Box.cells 33
 [V.d (D.lit (Value.int IntKind.i64 code)), V.d y1, V.d y2, V.d y3, V.d y4, V.d y5, V.d y6, V.d y7, V.d y8, V.d y9,
 V.d y10, V.d y11, V.d y12, V.d y13, V.d y14, V.d y15],
 Box.cells 85 [V.d (D.lit (Value.bool l)), V.d (D.lit (Value.bool q)), V.d (D.lit (Value.string s)), V.d x]])) else
 (34 = 34 ∧
 (X.normal = X.normal ∧
 R [V.ptr [0, 1] 0, V.ptr [5000] 0, V.d (D.lit (Value.pointer (some (Addr.mk it 0 none))))]
 [Box.cells 59 [V.d (D.map es)],
 Box.cells 33
 [V.d (D.lit (Value.int IntKind.i64 k0)), V.d y1, V.d y2, V.d y3, V.d y4, V.d y5, V.d y6, V.d y7, V.d y8, V.d y9,
 V.d y10, V.d y11, V.d y12, V.d y13, V.d y14, V.d y15],
 Box.cells 85 [V.d (D.lit (Value.bool l)), V.d (D.lit (Value.bool q)), V.d (D.lit (Value.string s)), V.d x]]))) := by kernel_rfl
theorem we115 (l : Bool) (q : Bool) (s : ByteArray) (x : D) (es : List (D × D)) (k0 : Int) (it : Nat) (y1 : D) (y2 : D) (y3 : D) (y4 : D) (y5 : D) (y6 : D) (y7 : D) (y8 : D) (y9 : D) (y10 : D) (y11 : D) (y12 : D) (y13 : D) (y14 : D) (y15 : D) (R : List V → List Box → Prop) : (go
 ((stN 34 [2, 3, 8] nmI [V.ptr [0, 1] 0, V.ptr [5000] 0, itV it]
 [Box.cells 59 [V.d (D.map es)], eBx k0 y1 y2 y3 y4 y5 y6 y7 y8 y9 y10 y11 y12 y13 y14 y15, nBx l q s x]).put
 (some 9) (V.d (D.tup [D.lit (Value.bool false)])))
 fun s => go (s.put (some 10) (lbool false)) fun s => s.N = 34 ∧ go (cutSt 2 [2, 3] nsI3 s) fun p => R p.fst p.snd) =
 (34 = 34 ∧
 R [V.ptr [0, 1] 0, V.ptr [5000] 0]
 [Box.cells 59 [V.d (D.map es)],
 Box.cells 33
 [V.d (D.lit (Value.int IntKind.i64 k0)), V.d y1, V.d y2, V.d y3, V.d y4, V.d y5, V.d y6, V.d y7, V.d y8, V.d y9,
 V.d y10, V.d y11, V.d y12, V.d y13, V.d y14, V.d y15],
 Box.cells 85 [V.d (D.lit (Value.bool l)), V.d (D.lit (Value.bool q)), V.d (D.lit (Value.string s)), V.d x]]) := by kernel_rfl
theorem wf115 (l : Bool) (q : Bool) (s : ByteArray) (x : D) (es : List (D × D)) (k0 : Int) (y1 : D) (y2 : D) (y3 : D) (y4 : D) (y5 : D) (y6 : D) (y7 : D) (y8 : D) (y9 : D) (y10 : D) (y11 : D) (y12 : D) (y13 : D) (y14 : D) (y15 : D) (R : V → List Box → Prop) : (evCodeT (Cn T13) T13 noCS 2 noSp noHn false fin115
 (stN 34 [2, 3] nmI [V.ptr [0, 1] 0, V.ptr [5000] 0]
 [Box.cells 59 [V.d (D.map es)], eBx k0 y1 y2 y3 y4 y5 y6 y7 y8 y9 y10 y11 y12 y13 y14 y15, nBx l q s x])
 (endT 2 [] e01 [4] R)) =
 R (V.d (D.lit (Value.bool (bif bif !l then !q else false then k0 != 0 else false))))
 [Box.cells 59 [V.d (D.map es)],
 Box.cells 33
 [V.d (D.lit (Value.int IntKind.i64 k0)), V.d y1, V.d y2, V.d y3, V.d y4, V.d y5, V.d y6, V.d y7, V.d y8, V.d y9,
 V.d y10, V.d y11, V.d y12, V.d y13, V.d y14, V.d y15]] := by kernel_rfl
def rowOk : D × D → Bool
 | (.lit (.int .i64 _), .agg [.lit (.string _), _, _, _, _, _, _, _, _, _, _, _, _, _]) => true
 | _ => false
def rowCode : D × D → Int
 | (.lit (.int .i64 k), _) => k
 | _ => 0
def rowName : D × D → List UInt8
 | (_, .agg (.lit (.string n) :: _)) => n.toList
 | _ => []
def apartB : List (List UInt8) → Bool
 | [] => true
 | a :: l => l.all (fun b => !(a == b)) && apartB l
def rowsOk (es : List (D × D)) : Bool := es.all rowOk && apartB (es.map rowName)
def kindNo : List (D × D) → List UInt8 → Int → Int
 | [], _, k0 => k0
 | p :: r, s, k0 => bif rowName p == s then rowCode p else kindNo r s k0
def s115 : SmB := ⟨fun _ bs => match bs with
  | .cells 59 [.d (.map es)] :: _ => rowsOk es
  | _ => false, fun vals bs => match vals, bs with
 | [.d (.agg [.lit (.bool l), .lit (.bool q), .lit (.string s), x]), .ptr [0, 0] 0, .ptr [0, 1] 0], [.cells 59 [.d (.map es)], .cells 33 [.d (.lit (.int .i64 k0)), .d y1, .d y2, .d y3, .d y4, .d y5, .d y6, .d y7, .d y8, .d y9, .d y10, .d y11, .d y12, .d y13, .d y14, .d y15]] =>
  some (lbool (bif bif !l then !q else false then kindNo es s.toList k0 != 0 else false), [.cells 59 [.d (.map es)], eBx (kindNo es s.toList k0) y1 y2 y3 y4 y5 y6 y7 y8 y9 y10 y11 y12 y13 y14 y15], [])
 | _, _ => none⟩
theorem rowOk_inv {p : D × D} (h : rowOk p = true) : ∃ k nm c1 c2 c3 c4 c5 c6 c7 c8 c9 c10 c11 c12 c13, p = (.lit (.int .i64 k), .agg [.lit (.string nm), c1, c2, c3, c4, c5, c6, c7, c8, c9, c10, c11, c12, c13]) := by
 unfold rowOk at h
 split at h
 ·
  exact ⟨_, _, _, _, _, _, _, _, _, _, _, _, _, _, _, rfl⟩
 ·
  cases h
def Found (es : List (D × D)) (s : List UInt8) (k0 : Int) (dn : List Nat) (kk : Int) : Prop :=
 (∃ (i : Nat) (p : D × D), es[i]? = some p ∧ rowName p = s ∧ kk = rowCode p) ∨ ((∀ (i : Nat) (p : D × D), i ∈ dn → es[i]? = some p → rowName p ≠ s) ∧ kk = k0)
theorem kindNo_none {s : List UInt8} {k0 : Int} : ∀ {es : List (D × D)}, (∀ p ∈ es, rowName p ≠ s) → kindNo es s k0 = k0
 | [], _ => rfl
 | p :: r, h => by
  have h1 : (rowName p == s) = false := by simpa using h p (by simp)
  simp only [kindNo, h1, cond_false]
  exact kindNo_none fun q hq => h q (by simp [hq])
theorem kindNo_some {s : List UInt8} {k0 : Int} {p : D × D} (hs : rowName p = s) : ∀ {es : List (D × D)}, apartB (es.map rowName) = true → p ∈ es → kindNo es s k0 = rowCode p
 | q :: r, ha, hp => by
  simp only [List.map_cons, apartB, Bool.and_eq_true, List.all_eq_true] at ha
  rcases List.mem_cons.1 hp with rfl | hp
  ·
   have : (rowName p == s) = true := by simpa using hs
   simp only [kindNo, this, cond_true]
  ·
   have h1 := ha.1 (rowName p) (List.mem_map.2 ⟨p, hp, rfl⟩)
   have : (rowName q == s) = false := by rw [← hs]; simpa using h1
   simp only [kindNo, this, cond_false]
   exact kindNo_some hs ha.2 hp
theorem found_all {es : List (D × D)} {s : List UInt8} {k0 kk : Int} {dn : List Nat} (ha : apartB (es.map rowName) = true) (h : Found es s k0 dn kk) (hall : ∀ i, i < es.length → i ∈ dn) : kk = kindNo es s k0 := by
 rcases h with ⟨i, p, hp, hn, rfl⟩ | ⟨h, rfl⟩
 ·
  exact (kindNo_some hn ha (List.mem_of_getElem? hp)).symm
 ·
  refine (kindNo_none fun p hp => ?_).symm
  obtain ⟨i, hi⟩ := List.mem_iff_getElem?.1 hp
  exact h i p (hall i (List.getElem?_eq_some_iff.1 hi).1) hi
theorem form115 : m115 = .seq (.region 1 (regOps (seqA m115)) false) (.block 0 (.loop (.seq (.region 2 #[opAt (seqA b115) 0, opAt (seqA b115) 1] false) (.seq (.cond (.tmp 10) .skip (.exit 0)) (.block 1 (.seq (.region 3 (regOps (seqA t115)) false) (seqB t115))))))) := by kernel_rfl
theorem body115 : bodyOf Tryz.f115 = .seq (seqA (bodyOf Tryz.f115)) (.seq m115 fin115) := by kernel_rfl
theorem ok115 : ∀ vals bs r bs' news, s115.pre vals bs = true → s115.f vals bs = some (r, bs', news) → Enters B.P 115 ∧ SoundQ B 115 vals (smIn bs) fun r' H' => r' = r ∧ H' = smOut bs' news := by
 intro vals bs r bs' news hpre hf
 unfold s115 at hpre hf
 simp only [] at hf
 split at hf
 case h_2 => cases hf
 rename_i l q s x es k0 y1 y2 y3 y4 y5 y6 y7 y8 y9 y10 y11 y12 y13 y14 y15
 simp only [Option.some.injEq, Prod.mk.injEq] at hf
 obtain ⟨rfl, rfl, rfl⟩ := hf
 have hrows : rowsOk es = true := hpre
 unfold rowsOk at hrows
 simp only [Bool.and_eq_true] at hrows
 obtain ⟨hro, hap⟩ := hrows
 have F : Fit2 (B.tab T13) noCS.call := tab_fit base k13 noCS_valid
 refine sm_bodyT (stb := noSm) (etb := T13) base (fn := Tryz.f115) (cd := bodyOf Tryz.f115) (k := 2) (ads := []) (ends := e01) (L := [4]) Tryz.func115 (by kernel_rfl) (by kernel_rfl) (by kernel_rfl) (by kernel_rfl) (by kernel_rfl) rfl rfl ?_
 rw [body115]
 refine T_seq ?_
 have hA := evCodeT_K (k := 2) F (tab_has (B := B) (tb := T13)) noSp_ok (keep (wa115 l q s x es k0 y1 y2 y3 y4 y5 y6 y7 y8 y9 y10 y11 y12 y13 y14 y15 fun vs bx => vs = [.ptr [0,0] 0, .ptr [0,1] 0, .ptr [5000] 0] ∧ bx = [.cells 59 [.d (.map es)], eBx k0 y1 y2 y3 y4 y5 y6 y7 y8 y9 y10 y11 y12 y13 y14 y15, nBx l q s x]) ⟨rfl, rfl, rfl, rfl⟩)
 refine T_post hA ?_
 rintro X s1 ⟨rfl, hN, hc⟩
 obtain ⟨⟨vs, bx⟩, hcut, rfl, rfl⟩ := go_prop hc
 have hw := cut_weak (C := B.tab T13) hcut
 rw [hN] at hw
 refine ⟨_, hw, ?_⟩
 show T (B.tab T13) 2 (.seq m115 fin115) (stN 34 [1,2,3] nmI _ _) _
 refine T_seq ?_
 rw [form115]
 let I : Nat → List Nat → List V → List Box → Prop := fun it dn vs bx => ∃ kk, Found es s.toList k0 dn kk ∧ vs = [.ptr [0,1] 0, .ptr [5000] 0, itV it] ∧ bx = [.cells 59 [.d (.map es)], eBx kk y1 y2 y3 y4 y5 y6 y7 y8 y9 y10 y11 y12 y13 y14 y15, nBx l q s x]
 refine mapRange_T (t := 59) F (tab_has (B := B) (tb := T13)) (sp := noSp) (hn := noHn) (d7 := 7) (d8 := 8) (d9 := 9) (d10 := 10) (d11 := 11) (pre := pre115) (oR := opAt (seqA m115) 1) (oE := opAt (seqA t115) 0) (rest := (regOps (seqA t115)).toList.tail) (by kernel_rfl) (by kernel_rfl) (by kernel_rfl) (by kernel_rfl) Tryz.underlying59
  (by kernel_rfl) (by kernel_rfl) (by kernel_rfl) (by kernel_rfl) (by kernel_rfl) (by kernel_rfl) (by kernel_rfl) (by kernel_rfl) (by kernel_rfl) (by kernel_rfl) (by decide) (by decide) noSp_ok
  (es := es) (N := 34) (L := [2,3,8]) (L' := [2,3]) (nm := nmI) (nm' := nmI) (ns0 := nsI3) (nsI := nsI3) (nsX := nsI3) rfl rfl rfl I (fun vs bx => vs = [.ptr [0,1] 0, .ptr [5000] 0] ∧ bx = [.cells 59 [.d (.map es)], eBx (kindNo es s.toList k0) y1 y2 y3 y4 y5 y6 y7 y8 y9 y10 y11 y12 y13 y14 y15, nBx l q s x]) ?_ ?_ ?_ ?_ ?_
 ·
  rintro vs bx ⟨rfl, rfl⟩
  have hF := evCodeT_K (k := 2) F (tab_has (B := B) (tb := T13)) noSp_ok (keep (wf115 l q s x es (kindNo es s.toList k0) y1 y2 y3 y4 y5 y6 y7 y8 y9 y10 y11 y12 y13 y14 y15 (fun r' bx => r' = lbool (bif bif !l then !q else false then kindNo es s.toList k0 != 0 else false) ∧ bx = [.cells 59 [.d (.map es)], eBx (kindNo es s.toList k0) y1 y2 y3 y4 y5 y6 y7 y8 y9 y10 y11 y12 y13 y14 y15] ++ [])) ⟨rfl, rfl⟩)
  exact hF
 ·
  rintro it dn vals bs ⟨kk, _, rfl, rfl⟩
  rfl
 ·
  refine keep (ws115 l q s x es k0 y1 y2 y3 y4 y5 y6 y7 y8 y9 y10 y11 y12 y13 y14 y15 fun it vs bx => I it [] vs bx) ?_
  exact ⟨rfl, rfl, fun it => ⟨k0, .inr ⟨(fun i p hi => by cases hi), rfl⟩, rfl, rfl⟩⟩
 ·
  rintro it dn vals bs i p ⟨kk, hfd, rfl, rfl⟩ hnd hp
  obtain ⟨code, nm, c1, c2, c3, c4, c5, c6, c7, c8, c9, c10, c11, c12, c13, rfl⟩ := rowOk_inv (List.all_eq_true.1 hro p (List.mem_of_getElem? hp))
  refine keep (wr115 l q s nm x es kk code it c1 c2 c3 c4 c5 c6 c7 c8 c9 c10 c11 c12 c13 y1 y2 y3 y4 y5 y6 y7 y8 y9 y10 y11 y12 y13 y14 y15 fun vs bx => I it (i :: dn) vs bx) ?_
  cases hcs : (nm.toList == s.toList) with
  | true =>
   refine ⟨rfl, rfl, code, .inl ⟨i, _, hp, ?_, rfl⟩, rfl, rfl⟩
   simpa [rowName] using hcs
  | false =>
   refine ⟨rfl, rfl, kk, ?_, rfl, rfl⟩
   rcases hfd with h | ⟨h, rfl⟩
   ·
    exact .inl h
   ·
    refine .inr ⟨fun j p' hj hp' => ?_, rfl⟩
    rcases List.mem_cons.1 hj with rfl | hj
    ·
     rw [hp] at hp'; cases hp'
     have : ¬ nm.toList = s.toList := by simpa using hcs
     exact this
    ·
     exact h j p' hj hp'
 ·
  rintro it dn vals bs ⟨kk, hfd, rfl, rfl⟩ hall
  refine keep (we115 l q s x es kk it y1 y2 y3 y4 y5 y6 y7 y8 y9 y10 y11 y12 y13 y14 y15 (fun vs bx => vs = [.ptr [0,1] 0, .ptr [5000] 0] ∧ bx = [.cells 59 [.d (.map es)], eBx (kindNo es s.toList k0) y1 y2 y3 y4 y5 y6 y7 y8 y9 y10 y11 y12 y13 y14 y15, nBx l q s x])) ?_
  have hk := found_all hap hfd hall
  subst hk
  exact ⟨rfl, rfl, rfl⟩
end Go.Ev.R2
end
