/- What the proofs of the lexer's laws share, part 4 of 14. -/
import Derived.Test.YtnnhlphbfpnaaaaGreatDoorF3
import Derived.KernelRfl
import Derived.IntWalk
import Derived.Lib.Space
import Derived.Lib.ItoaNum
import Derived.Test.YtnnhlphbfpnaaaaGreatDoorProg
import Derived.Shelf.Strings.Builder1
import Derived.Shelf.Small.Strs
import Derived.Shelf.Strings.BuilderF
import Derived.Shelf.Strings.BuilderK
import Derived.Shelf.Strconv.Atoi
import Derived.Shelf.Strconv.Itoa0
import Derived.Shelf.Strconv.Itoa1
import Derived.Shelf.LaysM
import Derived.Shelf.Strconv.Itoa2
import Derived.Shelf.Strconv.Itoa3
import Derived.Shelf.Strconv.AtoiErrFast
import Derived.Shelf.Strconv.ParseIntEmpty
import Derived.Shelf.Strconv.AtoiFail
import Derived.Shelf.Strconv.Clone
import Derived.Shelf.Strconv.SyntaxError
import Derived.Shelf.LaysC
import Derived.Shelf.Strconv.ToError
import Derived.Shelf.Strconv.AtoiErr
import Derived.Shelf.Strconv.ErrVar
import Derived.Shelf.Strconv.Lower
import Derived.Shelf.Strconv.ParseUint10
import Derived.Shelf.Strconv.ParseUint10Empty
import Derived.Shelf.Strconv.ParseUint10Any
import Derived.Shelf.Strconv.ParseInt10
import Derived.Shelf.Strconv.AtoiLong
import Derived.Shelf.Strconv.AtoiInnerAll
import Derived.Shelf.Strconv.RangeError
import Derived.Shelf.Strconv.ToErrorRange
import Derived.Shelf.Strconv.AtoiAll
import Derived.Shelf.Strconv.ErrVarAll
import Derived.Shelf.Strings.Search1
import Derived.Shelf.Strings.Search2
import Derived.Shelf.Strings.Search3
import Derived.Shelf.Strings.Cut
import Derived.Shelf.Strings.Shaped
import Derived.Shelf.Strings.Fields
import Derived.Shelf.Strings.SplitShaped
import Derived.Shelf.Unicode.Latin
import Derived.Shelf.Unicode.Is16White
import Derived.Shelf.Unicode.IsSpaceAny
import Derived.Shelf.Unicode.Is16Any
import Derived.Shelf.Unicode.Is32Any
import Derived.Shelf.Unicode.ExclAny
import Derived.Shelf.Slices.Turned
set_option linter.unusedVariables false
set_option linter.unusedSimpArgs false
section
namespace Go.Ev
set_option linter.unusedSimpArgs false
set_option linter.unusedVariables false
section
variable (C : Cx) (tb : Tab) (cs : CS)
def symStore (H : Heap) (t : TypeId) (a v : V) : Option (Name × Box × Prop) := match a with
 | .ptr n off => match H n, sizeT C t with
  | some (.bools u kk), some k => bif boolV v && k == 1 then some (n, .bools u kk, off < kk) else none
  | some (.blob u kk lo hi), some k => bif boolV v && k == 1 then some (n, .blob u kk lo hi, off < kk) else none
  | _, _ => none
 | _ => none
def storeP (s : St) (o : Oper) : Option (Name × Box × Prop) := match o.op with
 | .store t a x => match opnd C s.F a, opnd C s.F x with
  | some va, some v => symStore C s.H t va v
  | _, _ => none
 | _ => none
def joinQ (y : Bool) (s : St) (dst : Option Nat) (x : V × Heap) (k : St → Prop) : Prop := match freezeR x.2 x.1 with
 | .d u => putK s dst (.d u) k
 | v => match dst with
  | none => False
  | some d => go (bif y then evJoin s d v x.2 else evJoin (s.age d) d v x.2) k
def callQ (y : Bool) (s : St) (o : Oper) (k : St → Prop) : Option Prop := match o.op with
 | .call c => match c.callee with
  | .value f => match opnd C s.F f, opnds C s.F c.args.toList with
   | some (.fn (.func K) first cap), some args => match C.ext K, C.prim K with
    | none, none => match (bif C.keep K then none else toDs s.H (first ++ args ++ cap)) with
     | some ds => match cs.cq K (ds.map .d) Heap.empty with
      | some (p, c, x, z) => some (p ∧ (bif c then joinQ y s o.dst x k else joinQ y s o.dst z k))
      | none => none
     | none => match o.dst with
      | none => none
      | some d => match cs.cq K (rens upN (bif y then first ++ args ++ cap else rens (age d) (first ++ args ++ cap))) ((bif y then s else s.age d).H.ren upN unup) with
       | some (p, c, x, z) => some (p ∧ (bif c then putK ((bif y then s else s.age d).with (x.2.ren (downN d) (undown d))) (some d) (x.1.ren (downN d)) k else putK ((bif y then s else s.age d).with (z.2.ren (downN d) (undown d))) (some d) (z.1.ren (downN d)) k))
       | none => none
    | _, _ => none
   | _, _ => none
  | _ => none
 | _ => none
def stepT (y : Bool) (o : Oper) (s : St) (K : St → Prop) : Prop := match storeP C s o with
 | some (n, b, p) => p ∧ putK ⟨s.N, s.F, s.H.set n b⟩ o.dst vundef K
 | none => match valP C tb (opnd C s.F) s.H o with
  | some (v, none) => putK s o.dst v K
  | some (v, some p) => p ∧ putK s o.dst v K
  | none => match callQ C cs y s o K with
   | some p => p
   | none => evOpK C y cs.call o s K
def evOpsT (ops : Array Oper) : List Oper → St → (St → Prop) → Prop
 | [], s, K => K s
 | o :: rest, s, K => match o.guard with
  | some _ => wantK ops o s fun b s => match b with
   | true => stepT C tb cs false o s fun s => evOpsT ops rest s K
   | false => putK s o.dst vundef fun s => evOpsT ops rest s K
  | none => stepT C tb cs false o s fun s => evOpsT ops rest s K
def calmOp (o : Oper) : Bool := match o.op with
 | .move _ | .assign _ | .load .. | .nilCheck _ | .unOp .. | .build .. | .convert .. | .fieldAddr .. | .field .. | .extract .. | .index .. | .indexAddr .. | .slice .. | .binOp .. | .pick .. => true
 | .call c => match c.callee with
  | .builtin .len | .builtin .min | .builtin .max => true
  | .value (.func K) => match tb K with | some _ => true | none => false
  | _ => false
 | _ => false
def preG (l : List Oper) : List Oper := l.takeWhile fun o => noneB o.guard
def postG (l : List Oper) : List Oper := l.dropWhile fun o => noneB o.guard
def knownV : V → Bool
 | .any => false
 | _ => true
def storeK (H : Heap) (t : TypeId) (a v : V) (K : Heap → Prop) : Prop := match symStore C H t a v with
 | some (n, b, p) => p ∧ K (H.set n b)
 | none => go (storeV C H t a v) K
def lastStore (o : Oper) (s : St) (K : St → Prop) : Prop := match o.op, o.dst, o.guard with
 | .store t a x, none, none => match opnd C s.F a, opnd C s.F x with
  | some va, some vx => bif knownV va && knownV vx then storeK C s.H t va vx (fun H => K (s.with H)) else False
  | _, _ => False
 | _, _, _ => False
def plainStore : Oper → Bool
 | { op := .store .., dst := none, guard := none, .. } => true
 | _ => false
def evRegionT (inLoop : Bool) (ops : Array Oper) (s : St) (K : St → Prop) : Prop :=
 bif (postG ops.toList).all (calmOp tb) && !(setsOne ops.toList) then
  evOpsT C tb cs ops (preG ops.toList) (bif inLoop then ageAll s ops.toList else s) fun s1 => match postG ops.toList with
   | [] => K s1
   | _ :: _ => pureG C tb ops (postG ops.toList) s1 (fun _ => []) [] K
 else bif (postG ops.toList).dropLast.all (calmOp tb) && (!(setsOne ops.toList) && (match (postG ops.toList).getLast? with | some o => plainStore o | none => false)) then
  evOpsT C tb cs ops (preG ops.toList) (bif inLoop then ageAll s ops.toList else s) fun s1 => match (postG ops.toList).getLast? with
   | some o => pureG C tb ops (postG ops.toList).dropLast s1 (fun _ => []) [] fun s2 => lastStore C o s2 K
   | none => False
 else evOpsT C tb cs ops ops.toList (bif inLoop then ageAll s ops.toList else s) fun s' => K (bif setsOne ops.toList then s'.with (settle s'.H) else s')
def runYT (ops : Array Oper) : List Oper → St → (St → List FP → Prop) → Prop
 | [], s, K => K s []
 | o :: l, s, K => match o.guard with
  | some _ => wantK ops o s fun b s => match b with
   | true => stepT C tb cs true o s fun s' => runYT ops l s' fun r fs => K r (fpOf C cs.call ops.toList o s s' :: fs)
   | false => putK s o.dst vundef fun s' => runYT ops l s' fun r fs => K r (⟨[], [], false, []⟩ :: fs)
  | none => stepT C tb cs true o s fun s' => runYT ops l s' fun r fs => K r (fpOf C cs.call ops.toList o s s' :: fs)
def evDrawT (ops : Array Oper) (s : St) (K : St → Prop) : Prop :=
 bif staticOk ops && (edgesOk ops && uniqB ops.toList) then
  runYT C tb cs ops ops.toList (ageDraw s ops.toList) fun s' fs => bif dynOk ops fs then K (bif setsOne ops.toList then s'.with (settle s'.H) else s') else False
 else False
def lastOk (ops : Array Oper) : Bool := ops.toList.dropLast.all (calmOp tb) && (!(setsOne ops.toList) && (dynPairs ops).all fun p => Nat.blt p.1 (ops.size - 1) && Nat.blt p.2 (ops.size - 1))
def evDrawL (ops : Array Oper) (s : St) (K : St → Prop) : Prop := match ops.toList.getLast? with
 | some o => pureG C tb ops ops.toList.dropLast (ageDraw s ops.toList) (fun _ => []) [] fun s1 => lastStore C o s1 K
 | none => False
def evDrawU (ops : Array Oper) (s : St) (K : St → Prop) : Prop :=
 bif staticOk ops && (edgesOk ops && uniqB ops.toList) && (lastOk tb ops && (match ops.toList.getLast? with | some o => plainStore o | none => false)) then evDrawL C tb ops s K else
 bif staticOk ops && (edgesOk ops && uniqB ops.toList) && (ops.toList.all (calmOp tb) && !(setsOne ops.toList)) then pureG C tb ops ops.toList (ageDraw s ops.toList) (fun _ => []) [] K
 else evDrawT C tb cs ops s K
def splitK (l : List (Name × Nat)) (s : St) (K : St → Prop) : Prop := match l with
 | [] => K s
 | (n, i) :: r => match s.H n with
  | some (.cells u cs) => match cs[i]? with
   | some (.opt m off) => splitK r ⟨s.N, s.F, s.H.set n (.cells u (cs.set i (.d (.lit (.pointer none)))))⟩ K ∧ splitK r ⟨s.N, s.F, s.H.set n (.cells u (cs.set i (.ptr m off)))⟩ K
   | _ => splitK r s K
  | _ => False
def cutsK (k : Nat) : List (List Nat × List (Name × Name)) → St → (St → Prop) → Prop
 | [], s, K => K s
 | c :: r, s, K => go (cutSt k c.1 c.2 s) fun p => cutsK k r (stN s.N c.1 (nmOf c.2) p.1 p.2) K
def cutK (k : Nat) (ads : List Ad) (c : List (List Nat × List (Name × Name))) (s : St) (K : St → Prop) : Prop := go (adopts ads s) fun s => cutsK k c s K
def specK (k : Nat) (S : Spec) (s : St) (K : X → St → Prop) : Prop :=
 go (adopts S.ads s) fun s => go (cutSt k S.L S.ns s) fun p => S.G s.N p.1 p.2 fun x vs bs => K x (stO s.N S vs bs)
def condId (x y : Code) : Nat := bif headId x == 0 then 2 * headId y + 1 else 2 * headId x + 1
def evCodeT (k : Nat) (sp : Nat → Option Spec) (hn : Nat → Option Hint) (inLoop : Bool) : Code → St → (X → St → Prop) → Prop
 | .skip, s, K => K .normal s
 | .region id ops draw, s, K => match hn id with
  | none => bif draw then evDrawU C tb cs ops s (K .normal) else evRegionT C tb cs inLoop ops s (K .normal)
  | some h => splitK h.split s fun s => bif draw then evDrawU C tb cs ops s (fun s => cutK k h.ads h.cut s (K .normal)) else evRegionT C tb cs inLoop ops s (fun s => cutK k h.ads h.cut s (K .normal))
 | .seq a b, s, K => evCodeT k sp hn inLoop a s fun x s' => match x with
  | .normal => evCodeT k sp hn inLoop b s' K
  | x => K x s'
 | .cond c x y, s, K => match sp (condId x y) with
  | some S => specK k S s K
  | none => match opnd C s.F c with
   | some (.d (.lit (.bool t))) => bif t then evCodeT k sp hn inLoop x (knowO s c true) K else evCodeT k sp hn inLoop y (knowO s c false) K
   | _ => False
 | .block id c, s, K => evCodeT k sp hn inLoop c s fun x s' => match x with
  | .exit i => bif i == id then K .normal s' else K (.exit i) s'
  | x => K x s'
 | .loop c, s, K => match sp (2 * headId c) with
  | some S => specK k S s K
  | none => False
 | .exit id, s, K => K (.exit id) s
 | .ret, s, K => K .ret s
 | _, _, _ => False
def specsOf : Bool → Code → List (Nat × Bool × Code)
 | il, .seq a b => specsOf il a ++ specsOf il b
 | il, .block _ c => specsOf il c
 | il, .loop c => [(2 * headId c, il, .loop c)]
 | il, .cond c a b => (condId a b, il, .cond c a b) :: (specsOf il a ++ specsOf il b)
 | _, _ => []
end
def SpecT (C : Cx) (k : Nat) (sp : Nat → Option Spec) (l : List (Nat × Bool × Code)) : Prop :=
 ∀ p ∈ l, ∀ S, sp p.1 = some S → ∀ N vals bs K, S.G N vals bs K → T C k p.2.2 (stN N S.L (nmOf S.ns) vals bs) fun x s' => ∃ vs bs', s' = stO N S vs bs' ∧ K x vs bs'
section
variable {C : Cx} {tb : Tab} {cs : CS} {k : Nat} {s s' q : St}
theorem under_weak {A : Ann} {gs : List Nat} (U : Under q s A gs) : Weak C k q (forget s A) := fun g a w R z => by
 have hH : (forget s A).H = q.H := U.H.symm
 refine ⟨by rw [hH]; exact z, g, ⟨by rw [R.size]; exact U.N, fun t => ?_, by rw [hH]; exact R.heap, R.globs, R.defers⟩, .refl _ _, by rw [hH]; exact .refl _ _⟩
 rw [hH]
 unfold forget
 simp only []
 cases hA : A t with
 | nil =>
  simp only []
  have := U.yes t (by rw [hA]; rfl)
  rw [← this]; exact R.slots t
 | cons p r => exact .any
theorem evOps_append {y : Bool} {ops : Array Oper} : ∀ {l m : List Oper} {s s1 s2 : St}, evOps C y cs.call ops l s = some s1 → evOps C y cs.call ops m s1 = some s2 → evOps C y cs.call ops (l ++ m) s = some s2
 | [], m, s, s1, s2, h1, h2 => by simp [evOps] at h1; subst h1; exact h2
 | o :: l, m, s, s1, s2, h1, h2 => by
  simp only [List.cons_append, evOps] at h1 ⊢
  split at h1
  ·
   rename_i hw
   split at h1
   ·
    exact evOps_append h1 h2
   ·
    cases h1
  ·
   rename_i hw
   split at h1
   ·
    exact evOps_append h1 h2
   ·
    cases h1
  ·
   cases h1
theorem callQ_ok {y : Bool} {o : Oper} {K : St → Prop} {p : Prop} (h : callQ C cs y s o K = some p) (hp : p) : ∃ s', evOp C y cs.call o s = some s' ∧ K s' := by
 obtain ⟨dst, op, type, pos, after, guard⟩ := o
 unfold callQ at h
 cases op with
 | call c =>
  obtain ⟨callee, cargs, tys⟩ := c
  cases callee with
  | value f =>
   simp only [] at h
   split at h
   case h_2 => cases h
   rename_i F first cap args hf ha
   split at h
   case h_2 => cases h
   rename_i he hpr
   split at h
   ·
    rename_i ds hds
    split at h
    case h_2 => cases h
    rename_i p0 c0 x0 z0 hq
    simp only [Option.some.injEq] at h
    subst h
    obtain ⟨hp0, hp⟩ := hp
    have hcall := cs.ok _ _ _ _ _ _ _ hq hp0
    have hp : joinQ y s dst (bif c0 then x0 else z0) K := by cases c0 <;> exact hp
    generalize (bif c0 then x0 else z0) = res at hp hcall
    obtain ⟨r, Hc⟩ := res
    unfold joinQ at hp
    simp only [evOp, ha, hf, evCall, he, hpr, hds, hcall]
    split at hp
    ·
     rename_i x hx
     rw [putK_eq] at hp
     obtain ⟨s1, h1, h2⟩ := go_prop hp
     simp only [] at hx
     rw [hx]
     exact ⟨s1, h1, h2⟩
    ·
     rename_i v hne
     cases dst with
     | none => exact hp.elim
     | some d =>
      simp only [] at hp
      obtain ⟨s1, h1, h2⟩ := go_prop hp
      refine ⟨s1, ?_, h2⟩
      rw [← h1]
      split
      ·
       rename_i x hx; exact absurd hx (hne x)
      ·
       rfl
   ·
    rename_i hds
    cases dst with
    | none => cases h
    | some d =>
     simp only [] at h
     split at h
     case h_2 => cases h
     rename_i p0 c0 x0 z0 hq
     simp only [Option.some.injEq] at h
     subst h
     obtain ⟨hp0, hp⟩ := hp
     have hcall := cs.ok _ _ _ _ _ _ _ hq hp0
     have hp : putK ((bif y then s else s.age d).with ((bif c0 then x0 else z0).2.ren (downN d) (undown d))) (some d) ((bif c0 then x0 else z0).1.ren (downN d)) K := by cases c0 <;> exact hp
     generalize (bif c0 then x0 else z0) = res at hp hcall
     obtain ⟨r, Hc⟩ := res
     rw [putK_eq] at hp
     obtain ⟨s1, h1, h2⟩ := go_prop hp
     refine ⟨s1, ?_, h2⟩
     simp only [evOp, ha, hf, evCall, he, hpr, hds]
     cases y with
     | true =>
      simp only [cond_true] at hcall h1 ⊢
      simp only [evNamed, hcall]
      exact h1
     | false =>
      simp only [cond_false] at hcall h1 ⊢
      simp only [evNamed, hcall]
      exact h1
  | _ => simp only [] at h; cases h
 | _ => simp only [] at h; cases h
theorem symStore_ok {H : Heap} {t : TypeId} {a v : V} {n : Name} {b : Box} {p : Prop} (h : symStore C H t a v = some (n, b, p)) (hp : p) : storeV C H t a v = some (H.set n b) := by
 unfold symStore at h
 split at h
 ·
  rename_i m off
  split at h
  ·
   rename_i u kk k hb hk
   cases hc : (boolV v && k == 1) with
   | false => rw [hc] at h; cases h
   | true =>
    rw [hc] at h
    simp only [cond_true, Option.some.injEq, Prod.mk.injEq] at h
    obtain ⟨rfl, rfl, rfl⟩ := h
    have hlt : Nat.blt off kk = true := by simpa [Nat.blt_eq] using hp
    simp only [storeV, hb, hk, hc, hlt, Bool.and_self, cond_true]
  ·
   rename_i u kk lo hi k hb hk
   cases hc : (boolV v && k == 1) with
   | false => rw [hc] at h; cases h
   | true =>
    rw [hc] at h
    simp only [cond_true, Option.some.injEq, Prod.mk.injEq] at h
    obtain ⟨rfl, rfl, rfl⟩ := h
    simp only [Bool.and_eq_true, beq_iff_eq] at hc
    obtain ⟨hbv, rfl⟩ := hc
    have hlt : Nat.ble (off + 1) kk = true := by rw [Nat.ble_eq]; exact hp
    have hcl : v.cells = [v] ∧ cellyV v = true := by
     unfold boolV at hbv
     split at hbv
     ·
      exact ⟨rfl, rfl⟩
     ·
      exact ⟨rfl, rfl⟩
     ·
      cases hbv
    have hok : okAt lo hi off [v] = true := by
     simp only [okAt, Bool.and_true]
     cases (Nat.ble lo off && Nat.blt off hi) with
     | true => exact hbv
     | false => rfl
    simp only [storeV, hb, hk, hcl.1, hcl.2, hok, hlt, List.length_singleton, beq_self_eq_true, Bool.and_self, cond_true]
  ·
   cases h
 ·
  cases h
theorem storeK_prop {H : Heap} {t : TypeId} {a v : V} {K : Heap → Prop} (h : storeK C H t a v K) : ∃ H2, storeV C H t a v = some H2 ∧ K H2 := by
 unfold storeK at h
 split at h
 ·
  rename_i n b p hs
  exact ⟨_, symStore_ok hs h.1, h.2⟩
 ·
  exact go_prop h
theorem storeP_ok {o : Oper} {n : Name} {b : Box} {p : Prop} (h : storeP C s o = some (n, b, p)) (hp : p) {y : Bool} : evOp C y cs.call o s = St.put ⟨s.N, s.F, s.H.set n b⟩ o.dst vundef := by
 obtain ⟨dst, op, type, pos, after, guard⟩ := o
 unfold storeP at h
 cases op with
 | store t a x =>
  simp only [] at h
  split at h
  ·
   rename_i va v ha hx
   simp only [evOp, ha, hx, symStore_ok h hp]
   rfl
  ·
   cases h
 | _ => simp only [] at h; cases h
theorem stepT_imp (hE : Has C tb) {y : Bool} {o : Oper} {s : St} {K : St → Prop} (h : stepT C tb cs y o s K) : ∃ s', evOp C y cs.call o s = some s' ∧ K s' := by
 unfold stepT at h
 split at h
 ·
  rename_i n b p hsp
  obtain ⟨hp, h⟩ := h
  rw [putK_eq] at h
  obtain ⟨s1, h1, h⟩ := go_prop h
  have : evOp C y cs.call o s = St.put ⟨s.N, s.F, s.H.set n b⟩ o.dst vundef := storeP_ok hsp hp
  exact ⟨s1, this.trans h1, h⟩
 split at h
 ·
  rename_i v hv
  rw [putK_eq] at h
  obtain ⟨s1, h1, h⟩ := go_prop h
  have := valP_ok (y := y) (call := cs.call) hE (fun x v hx => hx) hv (fun P hP => by cases hP)
  exact ⟨s1, this.trans h1, h⟩
 ·
  rename_i v p hv
  obtain ⟨hp, h⟩ := h
  rw [putK_eq] at h
  obtain ⟨s1, h1, h⟩ := go_prop h
  have := valP_ok (y := y) (call := cs.call) hE (fun x v hx => hx) hv (fun P hP => by cases hP; exact hp)
  exact ⟨s1, this.trans h1, h⟩
 ·
  split at h
  ·
   rename_i p hq
   exact callQ_ok hq h
  ·
   exact evOpK_imp C h
theorem evOpsT_imp (hE : Has C tb) {ops : Array Oper} : ∀ {l : List Oper} {s : St} {K : St → Prop}, evOpsT C tb cs ops l s K → ∃ s', evOps C false cs.call ops l s = some s' ∧ K s'
 | [], s, K, h => ⟨s, rfl, h⟩
 | o :: l, s, K, h => by
  unfold evOpsT at h
  unfold evOps
  split at h
  ·
   rw [wantK_eq] at h
   obtain ⟨b, hb, h⟩ := go_prop h
   rw [hb]
   cases b with
   | true =>
    obtain ⟨s1, h1, h⟩ := stepT_imp hE h
    simp only [h1]
    exact evOpsT_imp hE h
   | false =>
    simp only [] at h ⊢
    rw [putK_eq] at h
    obtain ⟨s1, h1, h⟩ := go_prop h
    simp only [h1]
    exact evOpsT_imp hE h
  ·
   rename_i hg
   have hw : wantedV ops o s.F = some true := by unfold wantedV; rw [hg]
   rw [hw]
   obtain ⟨s1, h1, h⟩ := stepT_imp hE h
   simp only [h1]
   exact evOpsT_imp hE h
theorem pre_post (l : List Oper) : preG l ++ postG l = l := List.takeWhile_append_dropWhile
theorem forget_opnd {A : Ann} {gs : List Nat} {q s : St} (U : Under q s A gs) {x : Operand} {v : V} (h : opnd C (forget s A).F x = some v) (hk : knownV v = true) : opnd C q.F x = some v := by
 cases x with
 | tmp t =>
  simp only [opnd, Option.some.injEq] at h ⊢
  subst h
  unfold forget at hk ⊢
  simp only [] at hk ⊢
  cases hA : A t with
  | nil => exact U.yes t (by rw [hA]; rfl)
  | cons p r => rw [hA] at hk; simp [knownV] at hk
 | const u => exact h
 | global g => exact h
 | func f => exact h
theorem lastStore_ok {A : Ann} {gs : List Nat} {q s : St} (U : Under q s A gs) {ops : Array Oper} {o : Oper} {K : St → Prop} (h : lastStore C o (forget s A) K) :
  ∃ H2, (∀ y, evOps C y cs.call ops [o] q = some (q.with H2)) ∧ Under (q.with H2) (s.with H2) A gs ∧ K ((forget s A).with H2) := by
 unfold lastStore at h
 split at h
 case h_2 => exact h.elim
 rename_i t a x hop hdst hg
 split at h
 case h_2 => exact h.elim
 rename_i va vx ha hx
 cases hk : (knownV va && knownV vx) with
 | false => rw [hk] at h; exact h.elim
 | true =>
  rw [hk] at h
  simp only [cond_true] at h
  simp only [Bool.and_eq_true] at hk
  obtain ⟨H2, e4, e5⟩ := storeK_prop h
  have ha' := forget_opnd U ha hk.1
  have hx' := forget_opnd U hx hk.2
  have hH : (forget s A).H = q.H := U.H.symm
  rw [hH] at e4
  refine ⟨H2, fun y => ?_, ⟨U.N, rfl, U.yes, U.no, U.has⟩, e5⟩
  unfold evOps wantedV
  rw [hg]
  obtain ⟨dst, op, type, pos, after, guard⟩ := o
  simp only at hop hdst hg
  subst hop hdst hg
  simp only [evOp, ha', hx', e4]
  rfl
theorem evRegionT_imp (hE : Has C tb) {il : Bool} {ops : Array Oper} {K : St → Prop} (h : evRegionT C tb cs il ops s K) : ∃ s', evRegion C cs.call il ops s = some s' ∧ ∃ s2, Weak C k s' s2 ∧ K s2 := by
 unfold evRegionT at h
 unfold evRegion
 cases hc : ((postG ops.toList).all (calmOp tb) && !(setsOne ops.toList)) with
 | true =>
  rw [hc] at h
  simp only [cond_true] at h
  simp only [Bool.and_eq_true, Bool.not_eq_true'] at hc
  obtain ⟨s1, h1, h2⟩ := evOpsT_imp hE h
  cases hp : postG ops.toList with
  | nil =>
   rw [hp] at h2
   have he : preG ops.toList = ops.toList := by have := pre_post ops.toList; rw [hp] at this; simpa using this
   rw [he] at h1
   rw [h1]
   exact ⟨_, rfl, s1, by rw [hc.2]; exact .refl, h2⟩
  | cons o r =>
   rw [hp] at h2
   simp only [] at h2
   rw [← hp] at h2
   obtain ⟨q', s', A', gs', e1, e2, e3⟩ := pureG_ok hE (y := false) (call := cs.call) (q := s1) ⟨rfl, rfl, fun _ _ => rfl, fun t ht => by simp [validA] at ht, fun t p hp => by simp at hp⟩ h2
   have := evOps_append h1 e1
   rw [pre_post] at this
   rw [this]
   exact ⟨_, rfl, _, by rw [hc.2]; exact under_weak e2, e3⟩
 | false =>
  rw [hc] at h
  simp only [cond_false] at h
  cases hl : ((postG ops.toList).dropLast.all (calmOp tb) && (!(setsOne ops.toList) && (match (postG ops.toList).getLast? with | some o => plainStore o | none => false))) with
  | true =>
   rw [hl] at h
   simp only [cond_true] at h
   simp only [Bool.and_eq_true, Bool.not_eq_true'] at hl
   obtain ⟨s1, h1, h2⟩ := evOpsT_imp hE h
   split at h2
   case h_2 => exact h2.elim
   rename_i o ho
   obtain ⟨q', s', A', gs', e1, e2, e3⟩ := pureG_ok hE (y := false) (call := cs.call) (q := s1) ⟨rfl, rfl, fun _ _ => rfl, fun t ht => by simp [validA] at ht, fun t p hp => by simp at hp⟩ h2
   obtain ⟨H2, e4, e5, e6⟩ := lastStore_ok (cs := cs) (ops := ops) e2 e3
   have hsp : (postG ops.toList).dropLast ++ [o] = postG ops.toList := by obtain ⟨ys, hy⟩ := List.getLast?_eq_some_iff.1 ho; rw [hy]; simp
   have := evOps_append h1 (evOps_append e1 (e4 false))
   rw [hsp, pre_post] at this
   rw [this]
   exact ⟨_, rfl, _, by rw [hl.2.1]; exact under_weak e5, e6⟩
  | false =>
  rw [hl] at h
  simp only [cond_false] at h
  obtain ⟨s1, h1, h2⟩ := evOpsT_imp hE h
  rw [h1]
  exact ⟨_, rfl, _, .refl, h2⟩
theorem runYT_imp (hE : Has C tb) {ops : Array Oper} : ∀ {l : List Oper} {s : St} {K : St → List FP → Prop}, runYT C tb cs ops l s K → ∃ r, runY C cs.call ops l s = some r ∧ K r.1 r.2
 | [], s, K, h => ⟨(s, []), rfl, h⟩
 | o :: l, s, K, h => by
  unfold runYT at h
  unfold runY stepY fpY
  split at h
  ·
   rw [wantK_eq] at h
   obtain ⟨b, hb, h⟩ := go_prop h
   rw [hb]
   cases b with
   | true =>
    obtain ⟨s1, h1, h⟩ := stepT_imp hE h
    obtain ⟨r, h2, h3⟩ := runYT_imp hE h
    simp only [h1, h2]
    exact ⟨_, rfl, h3⟩
   | false =>
    simp only [] at h ⊢
    rw [putK_eq] at h
    obtain ⟨s1, h1, h⟩ := go_prop h
    obtain ⟨r, h2, h3⟩ := runYT_imp hE h
    simp only [h1, h2]
    exact ⟨_, rfl, h3⟩
  ·
   rename_i hg
   have hw : wantedV ops o s.F = some true := by unfold wantedV; rw [hg]
   rw [hw]
   obtain ⟨s1, h1, h⟩ := stepT_imp hE h
   obtain ⟨r, h2, h3⟩ := runYT_imp hE h
   simp only [h1, h2]
   exact ⟨_, rfl, h3⟩
theorem evDrawT_imp (hE : Has C tb) {il : Bool} {ops : Array Oper} {K : St → Prop} (h : evDrawT C tb cs ops s K) : ∃ s', evDraw C cs.call il ops s = some s' ∧ K s' := by
 unfold evDrawT at h
 unfold evDraw
 cases hc : (staticOk ops && (edgesOk ops && uniqB ops.toList)) with
 | false => rw [hc] at h; exact h.elim
 | true =>
  rw [hc] at h
  obtain ⟨⟨r, fs⟩, h1, h2⟩ := runYT_imp hE h
  simp only [cond_true, h1] at h2 ⊢
  cases hd : dynOk ops fs with
  | false => rw [hd] at h2; exact h2.elim
  | true =>
   rw [hd] at h2
   have e : ((dynPairs ops).all fun p => match fs[p.1]?, fs[p.2]? with | some x, some y => okPair x y | _, _ => false) = true := hd
   refine ⟨_, ?_, h2⟩
   exact (congrArg (fun b => bif b then some (bif setsOne ops.toList then r.with (settle r.H) else r) else none) e)
theorem calm_fp (hE : Has C tb) {l : List Oper} {o : Oper} {s s' : St} (h : calmOp tb o = true) (hv : evOp C true cs.call o s = some s') : (fpOf C cs.call l o s s').d = [] ∧ (fpOf C cs.call l o s s').all = false := by
 obtain ⟨dst, op, type, pos, after, guard⟩ := o
 cases op with
 | call c =>
  obtain ⟨callee, cargs, tys⟩ := c
  cases callee with
  | builtin b => cases b <;> first | exact ⟨rfl, rfl⟩ | (simp [calmOp] at h)
  | value f =>
   cases f with
   | func K =>
    simp only [calmOp] at h
    split at h
    ·
     rename_i c hc
     unfold fpOf
     simp only [opnd]
     cases ha : opnds C s.F cargs.toList with
     | none => simp [evOp, ha] at hv
     | some args =>
      have : endsD C cs.call s.H K ([] ++ args ++ []) = true := by
       unfold endsD
       rw [hE K, hc]
      simp only [this, cond_true]
      exact ⟨trivial, trivial⟩
    ·
     cases h
   | _ => simp [calmOp] at h
  | invoke a b => simp [calmOp] at h
 | slice t x lo hi mx => exact ⟨rfl, rfl⟩
 | _ => first | exact ⟨rfl, rfl⟩ | (simp [calmOp] at h)
theorem evOps_runY (hE : Has C tb) {ops : Array Oper} : ∀ {l : List Oper} {q q' : St}, l.all (calmOp tb) = true → evOps C true cs.call ops l q = some q' → ∃ fs, runY C cs.call ops l q = some (q', fs) ∧ ∀ x ∈ fs, x.d = [] ∧ x.all = false
 | [], q, q', _, h => by simp [evOps] at h; subst h; exact ⟨[], rfl, fun x hx => by cases hx⟩
 | o :: l, q, q', hc, h => by
  simp only [List.all_cons, Bool.and_eq_true] at hc
  unfold evOps at h
  unfold runY stepY
  split at h
  ·
   rename_i hw
   split at h
   ·
    rename_i s1 h1
    obtain ⟨fs, h2, h3⟩ := evOps_runY hE hc.2 h
    refine ⟨fpY C cs.call ops o q s1 :: fs, by simp only [h2], fun x hx => ?_⟩
    rcases List.mem_cons.1 hx with rfl | hx
    ·
     unfold fpY; rw [hw]; exact calm_fp hE hc.1 h1
    ·
     exact h3 x hx
   ·
    cases h
  ·
   rename_i hw
   split at h
   ·
    rename_i s1 h1
    obtain ⟨fs, h2, h3⟩ := evOps_runY hE hc.2 h
    refine ⟨fpY C cs.call ops o q s1 :: fs, by simp only [h2], fun x hx => ?_⟩
    rcases List.mem_cons.1 hx with rfl | hx
    ·
     unfold fpY; rw [hw]; exact ⟨rfl, rfl⟩
    ·
     exact h3 x hx
   ·
    cases h
  ·
   cases h
theorem dynOk_calm {ops : Array Oper} {fs : List FP} (hl : fs.length = ops.size) (h : ∀ x ∈ fs, x.d = [] ∧ x.all = false) (hp : ∀ p ∈ dynPairs ops, p.1 < ops.size ∧ p.2 < ops.size) : dynOk ops fs = true := by
 unfold dynOk
 refine List.all_eq_true.2 fun p hp' => ?_
 obtain ⟨h1, h2⟩ := hp p hp'
 rw [← hl] at h1 h2
 rw [List.getElem?_eq_getElem h1, List.getElem?_eq_getElem h2]
 simp only []
 obtain ⟨d1, a1⟩ := h _ (List.getElem_mem h1)
 obtain ⟨d2, a2⟩ := h _ (List.getElem_mem h2)
 unfold okPair dVsR dVsD
 simp [d1, a1, d2, a2, clear]
theorem openPairs_lt {ops : Array Oper} {p : Nat × Nat} (h : p ∈ openPairs ops) : p.1 < ops.size ∧ p.2 < ops.size := by
 unfold openPairs at h
 obtain ⟨b, hb, hp⟩ := List.mem_flatMap.1 h
 obtain ⟨a, ha, hp⟩ := List.mem_filterMap.1 hp
 have hb' := List.mem_range.1 hb
 have ha' := List.mem_range.1 ha
 cases ht : ((Region.before ops).getD b 0).testBit a with
 | true => rw [ht] at hp; cases hp
 | false =>
  rw [ht] at hp
  simp only [cond_false, Option.some.injEq] at hp
  subst hp
  exact ⟨by simp only []; omega, hb'⟩
theorem runY_len {ops : Array Oper} : ∀ {l : List Oper} {q r : St} {fs : List FP}, runY C cs.call ops l q = some (r, fs) → fs.length = l.length
 | [], q, r, fs, h => by simp [runY] at h; rw [h.2]; rfl
 | o :: l, q, r, fs, h => by
  unfold runY at h
  split at h
  ·
   split at h
   ·
    rename_i r' fs' h2
    simp only [Option.some.injEq, Prod.mk.injEq] at h
    rw [← h.2]; simp [runY_len h2]
   ·
    cases h
  ·
   cases h
theorem runY_snoc {ops : Array Oper} {o : Oper} {q2 q3 : St} (ho : stepY C cs.call ops o q2 = some q3) : ∀ {l : List Oper} {q : St} {fs : List FP}, runY C cs.call ops l q = some (q2, fs) → runY C cs.call ops (l ++ [o]) q = some (q3, fs ++ [fpY C cs.call ops o q2 q3])
 | [], q, fs, h => by
  simp only [runY, Option.some.injEq, Prod.mk.injEq] at h
  obtain ⟨rfl, rfl⟩ := h
  simp [runY, ho]
 | p :: l, q, fs, h => by
  unfold runY at h
  rw [List.cons_append]
  split at h
  ·
   rename_i s1 h1
   simp only [runY, h1]
   split at h
   ·
    rename_i r fs' h2
    simp only [Option.some.injEq, Prod.mk.injEq] at h
    obtain ⟨rfl, rfl⟩ := h
    rw [runY_snoc ho h2]
    rfl
   ·
    cases h
  ·
   cases h
theorem evDrawL_imp (hE : Has C tb) {il : Bool} {ops : Array Oper} {K : St → Prop} (hc : (staticOk ops && (edgesOk ops && uniqB ops.toList)) = true) (hl : lastOk tb ops = true) (h : evDrawL C tb ops s K) : ∃ s', evDraw C cs.call il ops s = some s' ∧ ∃ s2, Weak C k s' s2 ∧ K s2 := by
 unfold evDrawL at h
 split at h
 case h_2 => exact h.elim
 rename_i o ho
 unfold lastOk at hl
 simp only [Bool.and_eq_true, Bool.not_eq_true'] at hl
 obtain ⟨c4, c5, c6⟩ := hl
 have hsp : ops.toList.dropLast ++ [o] = ops.toList := by obtain ⟨ys, hy⟩ := List.getLast?_eq_some_iff.1 ho; rw [hy]; simp
 obtain ⟨q', s', A', gs', e1, e2, e3⟩ := pureG_ok hE (y := true) (call := cs.call) (q := ageDraw s ops.toList) ⟨rfl, rfl, fun _ _ => rfl, fun t ht => by simp [validA] at ht, fun t p hp => by simp at hp⟩ h
 obtain ⟨fs, h1, h2⟩ := evOps_runY hE c4 e1
 unfold lastStore at e3
 split at e3
 case h_2 => exact e3.elim
 rename_i t a x hop hdst hg
 split at e3
 case h_2 => exact e3.elim
 rename_i va vx ha hx
 cases hk : (knownV va && knownV vx) with
 | false => rw [hk] at e3; exact e3.elim
 | true =>
  rw [hk] at e3
  simp only [cond_true] at e3
  simp only [Bool.and_eq_true] at hk
  obtain ⟨H2, e4, e5⟩ := storeK_prop e3
  have ha' := forget_opnd e2 ha hk.1
  have hx' := forget_opnd e2 hx hk.2
  have hH : (forget s' A').H = q'.H := e2.H.symm
  rw [hH] at e4
  have hst : stepY C cs.call ops o q' = some (q'.with H2) := by
   unfold stepY wantedV
   rw [hg]
   obtain ⟨dst, op, type, pos, after, guard⟩ := o
   simp only at hop hdst hg
   subst hop hdst hg
   simp only [evOp, ha', hx', e4]
   rfl
  have hr := runY_snoc hst h1
  rw [hsp] at hr
  have U2 : Under (q'.with H2) (s'.with H2) A' gs' := ⟨e2.N, rfl, e2.yes, e2.no, e2.has⟩
  refine ⟨q'.with H2, ?_, (forget s' A').with H2, under_weak U2, e5⟩
  unfold evDraw
  rw [hc]
  simp only [cond_true, hr]
  have hlen : fs.length = ops.size - 1 := by rw [runY_len h1]; simp
  have e : ((dynPairs ops).all fun p => match (fs ++ [fpY C cs.call ops o q' (q'.with H2)])[p.1]?, (fs ++ [fpY C cs.call ops o q' (q'.with H2)])[p.2]? with | some x, some y => okPair x y | _, _ => false) = true := by
   refine List.all_eq_true.2 fun p hp => ?_
   have := List.all_eq_true.1 c6 p hp
   simp only [Bool.and_eq_true, Nat.blt_eq] at this
   have g1 : p.1 < fs.length := by omega
   have g2 : p.2 < fs.length := by omega
   rw [List.getElem?_append_left g1, List.getElem?_append_left g2, List.getElem?_eq_getElem g1, List.getElem?_eq_getElem g2]
   simp only []
   obtain ⟨d1, a1⟩ := h2 _ (List.getElem_mem g1)
   obtain ⟨d2, a2⟩ := h2 _ (List.getElem_mem g2)
   unfold okPair dVsR dVsD
   simp [d1, a1, d2, a2, clear]
  have := congrArg (fun b => bif b then some (bif setsOne ops.toList then (q'.with H2).with (settle (q'.with H2).H) else (q'.with H2)) else none) e
  rw [c5] at this ⊢
  exact this
theorem evDrawU_imp (hE : Has C tb) {il : Bool} {ops : Array Oper} {K : St → Prop} (h : evDrawU C tb cs ops s K) : ∃ s', evDraw C cs.call il ops s = some s' ∧ ∃ s2, Weak C k s' s2 ∧ K s2 := by
 unfold evDrawU at h
 cases hl : (staticOk ops && (edgesOk ops && uniqB ops.toList) && (lastOk tb ops && (match ops.toList.getLast? with | some o => plainStore o | none => false))) with
 | true =>
  rw [hl] at h
  simp only [Bool.and_eq_true] at hl
  exact evDrawL_imp hE (by simp only [Bool.and_eq_true]; exact hl.1) hl.2.1 h
 | false =>
 rw [hl] at h
 simp only [cond_false] at h
 cases hc : (staticOk ops && (edgesOk ops && uniqB ops.toList) && (ops.toList.all (calmOp tb) && !(setsOne ops.toList))) with
 | false =>
  rw [hc] at h
  obtain ⟨s', h1, h2⟩ := evDrawT_imp hE (il := il) h
  exact ⟨s', h1, s', .refl, h2⟩
 | true =>
  rw [hc] at h
  simp only [cond_true] at h
  simp only [Bool.and_eq_true, Bool.not_eq_true'] at hc
  obtain ⟨⟨c1, c2, c3⟩, c4, c5⟩ := hc
  obtain ⟨q', s', A', gs', e1, e2, e3⟩ := pureG_ok hE (y := true) (call := cs.call) (q := ageDraw s ops.toList) ⟨rfl, rfl, fun _ _ => rfl, fun t ht => by simp [validA] at ht, fun t p hp => by simp at hp⟩ h
  obtain ⟨fs, h1, h2⟩ := evOps_runY hE c4 e1
  refine ⟨q', ?_, _, under_weak e2, e3⟩
  unfold evDraw
  have hst : (staticOk ops && (edgesOk ops && uniqB ops.toList)) = true := by simp [c1, c2, c3]
  rw [hst]
  simp only [cond_true, h1]
  have hd : dynOk ops fs = true := dynOk_calm (by rw [runY_len h1]; simp) h2 fun p hp => openPairs_lt (List.mem_filter.1 hp).1
  have e : ((dynPairs ops).all fun p => match fs[p.1]?, fs[p.2]? with | some x, some y => okPair x y | _, _ => false) = true := hd
  have := congrArg (fun b => bif b then some (bif setsOne ops.toList then q'.with (settle q'.H) else q') else none) e
  rw [c5] at this ⊢
  exact this
theorem splitK_T {c : Code} {K : St → Prop} {Q : X → St → Prop} (hK : ∀ s, K s → T C k c s Q) : ∀ {l : List (Name × Nat)} {s : St}, splitK l s K → T C k c s Q
 | [], s, h => hK s h
 | (n, i) :: r, s, h => by
  unfold splitK at h
  split at h
  ·
   rename_i u cs hb
   split at h
   ·
    rename_i m off hi
    exact T_split hb hi (splitK_T hK h.1) (splitK_T hK h.2)
   ·
    exact splitK_T hK h
  ·
   exact h.elim
theorem cutsK_weak {K : St → Prop} : ∀ {c : List (List Nat × List (Name × Name))} {s : St}, cutsK k c s K → ∃ s2, Weak C k s s2 ∧ K s2
 | [], s, h => ⟨s, .refl, h⟩
 | c :: r, s, h => by
  unfold cutsK at h
  obtain ⟨⟨vs, bs⟩, h2, h3⟩ := go_prop h
  obtain ⟨s2, hw, hk⟩ := cutsK_weak h3
  have h1 : Weak C k s _ := cut_weak h2
  exact ⟨s2, h1.trans hw, hk⟩
theorem cutK_weak {ads : List Ad} {c : List (List Nat × List (Name × Name))} {K : St → Prop} (h : cutK k ads c s K) : ∃ s2, Weak C k s s2 ∧ K s2 := by
 unfold cutK at h
 obtain ⟨s1, h1, h⟩ := go_prop h
 obtain ⟨s2, hw, hk⟩ := cutsK_weak (C := C) h
 exact ⟨s2, (adopts_weak h1).trans hw, hk⟩
theorem specK_T {c : Code} {S : Spec} {K : X → St → Prop} (hS : ∀ N vals bs K, S.G N vals bs K → T C k c (stN N S.L (nmOf S.ns) vals bs) fun x s' => ∃ vs bs', s' = stO N S vs bs' ∧ K x vs bs') (h : specK k S s K) : T C k c s K := by
 unfold specK at h
 obtain ⟨s1, h1, h⟩ := go_prop h
 obtain ⟨⟨vs, bs⟩, h2, h3⟩ := go_prop h
 refine T_weak ((adopts_weak h1).trans (cut_weak h2)) (T_mono (hS _ _ _ _ h3) ?_)
 rintro x s' ⟨vs', bs', rfl, hk⟩
 exact hk
theorem evCodeT_T (F : Fit2 C cs.call) (hE : Has C tb) {sp : Nat → Option Spec} {hn : Nat → Option Hint} : ∀ (c : Code) (il : Bool) (s : St) (K : X → St → Prop), SpecT C k sp (specsOf il c) → evCodeT C tb cs k sp hn il c s K → T C k c s K := by
 intro c
 induction c with
 | skip => intro il s K _ h; exact T_skip h
 | region id ops draw =>
  intro il s K _ h
  unfold evCodeT at h
  have one : ∀ (s : St) (K' : St → Prop) (Q : X → St → Prop), (∀ s1, K' s1 → ∃ s2, Weak C k s1 s2 ∧ Q .normal s2) → (bif draw then evDrawU C tb cs ops s K' else evRegionT C tb cs il ops s K') → T C k (.region id ops draw) s Q := by
   intro s K' Q hQ h
   cases draw with
   | true =>
    simp only [cond_true] at h
    obtain ⟨s1, h1, s2, hw, h2⟩ := evDrawU_imp hE (il := il) (k := k) h
    refine T_post (K := fun x s' => x = .normal ∧ s' = s1) (T_region F (il := il) (draw := true) (by simpa using h1) ⟨rfl, rfl⟩) ?_
    rintro x s' ⟨rfl, rfl⟩
    obtain ⟨s3, hw3, h3⟩ := hQ s2 h2
    exact ⟨s3, hw.trans hw3, h3⟩
   | false =>
    simp only [cond_false] at h
    obtain ⟨s1, h1, s2, hw, h2⟩ := evRegionT_imp hE (k := k) h
    refine T_post (K := fun x s' => x = .normal ∧ s' = s1) (T_region F (il := il) (draw := false) (by simpa using h1) ⟨rfl, rfl⟩) ?_
    rintro x s' ⟨rfl, rfl⟩
    obtain ⟨s3, hw3, h3⟩ := hQ s2 h2
    exact ⟨s3, hw.trans hw3, h3⟩
  split at h
  ·
   exact one s _ K (fun s1 h1 => ⟨s1, .refl, h1⟩) h
  ·
   rename_i hh _
   exact splitK_T (fun s hs => one s _ K (fun s1 h1 => cutK_weak h1) hs) h
 | seq a b ih1 ih2 =>
  intro il s K ok h
  unfold evCodeT at h
  have h1 := ih1 il s _ (fun p hp => ok p (by simp [specsOf, hp])) h
  refine T_seq (T_mono h1 ?_)
  intro x s1 hx
  cases x with
  | normal => exact ih2 il s1 K (fun p hp => ok p (by simp [specsOf, hp])) hx
  | exit i => exact hx
  | ret => exact hx
 | cond c a b ih1 ih2 =>
  intro il s K ok h
  unfold evCodeT at h
  split at h
  ·
   rename_i S hS
   exact specK_T (ok (condId a b, il, .cond c a b) (by simp [specsOf]) S hS) h
  ·
   generalize hc : opnd C s.F c = v at h
   split at h
   ·
    rename_i t
    refine T_cond hc ?_
    cases t with
    | true => simp only [cond_true] at h ⊢; rw [knowO_eq C hc] at h; exact ih1 il s K (fun p hp => ok p (by simp [specsOf, hp])) h
    | false => simp only [cond_false] at h ⊢; rw [knowO_eq C hc] at h; exact ih2 il s K (fun p hp => ok p (by simp [specsOf, hp])) h
   ·
    exact h.elim
 | block id a ih =>
  intro il s K ok h
  unfold evCodeT at h
  exact T_block (ih il s _ ok h)
 | loop a ih =>
  intro il s K ok h
  unfold evCodeT at h
  split at h
  ·
   rename_i S hS
   exact specK_T (ok (2 * headId a, il, .loop a) (by simp [specsOf]) S hS) h
  ·
   exact h.elim
 | exit id => intro il s K _ h; exact T_exit h
 | ret => intro il s K _ h; exact T_ret h
 | _ => intro il s K _ h; simp [evCodeT] at h
def roundT (C : Cx) (tb : Tab) (cs : CS) (k : Nat) (sp : Nat → Option Spec) (hn : Nat → Option Hint) (c : Code) (N : Nat) (L : List Nat) (nm : List Name) (adsI : List Ad) (nsI : List (Name × Name)) (L' : List Nat) (nsX : List (Name × Name)) (vals : List V) (bs : List Box) (R : X → List V → List Box → Prop) : Prop :=
 evCodeT C tb cs k sp hn true c (stN N L nm vals bs) fun x s => s.N = N ∧ match x with
  | .normal => go (adopts adsI s) fun s => go (cutSt k L nsI s) fun p => R .normal p.1 p.2
  | x => go (cutSt k L' nsX s) fun p => R x p.1 p.2
def LoopT (C : Cx) (k : Nat) (c : Code) (N : Nat) (L : List Nat) (nm : List Name) (L' : List Nat) (nm' : List Name) (vals : List V) (bs : List Box) (Q : X → List V → List Box → Prop) : Prop :=
 TL C k c (stN N L nm vals bs) fun x s' => ∃ vs bs', s' = stN N L' nm' vs bs' ∧ Q x vs bs'
theorem loopT_step (F : Fit2 C cs.call) (hE : Has C tb) {sp : Nat → Option Spec} {hn : Nat → Option Hint} {c : Code} {N : Nat} {L L' : List Nat} {nm nm' : List Name} {adsI : List Ad} {nsI nsX : List (Name × Name)} {vals : List V} {bs : List Box} {Q : X → List V → List Box → Prop}
  (ok : SpecT C k sp (specsOf true c)) (hI : nmOf nsI = nm) (hX : nmOf nsX = nm')
  (h : Kept (roundT C tb cs k sp hn c N L nm adsI nsI L' nsX vals bs fun x vs bs' => match x with | .normal => LoopT C k c N L nm L' nm' vs bs' Q | x => Q x vs bs')) : LoopT C k c N L nm L' nm' vals bs Q := by
 refine TL_step (T_post (evCodeT_T F hE c true _ _ ok h.h) ?_)
 intro x s' ⟨hN, hx⟩
 cases x with
 | normal =>
  simp only [] at hx
  obtain ⟨s1, h1, hx⟩ := go_prop hx
  obtain ⟨⟨vs, bs'⟩, h2, h3⟩ := go_prop hx
  have hw : Weak C k s' _ := (adopts_weak (k := k) h1).trans (cut_weak h2)
  have hN1 : s1.N = N := (adopts_N h1).trans hN
  rw [hN1, hI] at hw
  exact ⟨_, hw, h3⟩
 | exit i =>
  simp only [] at hx
  obtain ⟨⟨vs, bs'⟩, h2, h3⟩ := go_prop hx
  have hw : Weak C k s' _ := cut_weak h2
  rw [hN, hX] at hw
  exact ⟨_, hw, vs, bs', rfl, h3⟩
 | ret =>
  simp only [] at hx
  obtain ⟨⟨vs, bs'⟩, h2, h3⟩ := go_prop hx
  have hw : Weak C k s' _ := cut_weak h2
  rw [hN, hX] at hw
  exact ⟨_, hw, vs, bs', rfl, h3⟩
theorem loopT_T {c : Code} {N : Nat} {S : Spec} {nm : List Name} {vals : List V} {bs : List Box} {K : X → List V → List Box → Prop} (h : LoopT C k c N S.L nm S.L' S.nm' vals bs K) : T C k (.loop c) (stN N S.L nm vals bs) fun x s' => ∃ vs bs', s' = stO N S vs bs' ∧ K x vs bs' := T_loop h
def evBodyT (C : Cx) (tb : Tab) (cs : CS) (k : Nat) (sp : Nat → Option Spec) (hn : Nat → Option Hint) (K : FuncId) (args : List V) (H : Heap) (Q : V → Heap → Prop) : Prop :=
 match C.P.funcs[K]? with
 | none => False
 | some fn => match fn.body with
  | none => False
  | some c => evCodeT C tb cs k sp hn false c ⟨max fn.ntmps args.length, fun t => (args[t]?).getD vundef, H⟩ fun x s => match x with
   | .exit _ => False
   | _ => go (evRes C s fn.results.toList) fun vs => Q (oneOrTup vs) s.H
theorem evBodyT_sound (F : Fit2 C cs.call) (hE : Has C tb) {sp : Nat → Option Spec} {hn : Nat → Option Hint} {K : FuncId} {args : List V} {H : Heap} {Q : V → Heap → Prop} {fn : Func} {c : Code} (hf : C.P.funcs[K]? = some fn) (hb : fn.body = some c) (hz : Z0 k H)
  (ok : SpecT C k sp (specsOf false c)) (h : evBodyT C tb cs k sp hn K args H Q) : SoundQ C K args H Q := by
 unfold evBodyT at h
 simp only [hf, hb] at h
 refine soundQ_body hf hb hz (T_mono (evCodeT_T F hE c false _ _ ok h) ?_)
 intro x s' hx
 cases x with
 | normal => obtain ⟨vs, h1, h2⟩ := go_prop hx; exact ⟨vs, h1, h2⟩
 | ret => obtain ⟨vs, h1, h2⟩ := go_prop hx; exact ⟨vs, h1, h2⟩
 | exit i => exact hx.elim
end
end Go.Ev
end
section
namespace Go.Ev
set_option linter.unusedSimpArgs false
set_option linter.unusedVariables false
def TabOk (B : Cx) (tb : Tab) : Prop := ∀ K ct ds r, tb K = some ct → ct.pre ds → ct.f ds = some r → ExtOk B K ds r
def Tab.add (tb : Tab) (K : FuncId) (c : Ct) : Tab := fun n => bif n == K then some c else tb n
def noTab : Tab := fun _ => none
theorem noTab_ok {B : Cx} : TabOk B noTab := fun K ct ds r h => by cases h
structure Base (B : Cx) : Prop where
 ok : CxOk B
 prim : ∀ K, B.prim K = none
section
variable {B : Cx} {tb : Tab}
theorem tab_has : Has (B.tab tb) tb := fun K => rfl
theorem ExtOk.of {C C' : Cx} (hP : C'.P = C.P) (hg : C'.glob = C.glob) {K : FuncId} {ds : List D} {r : D} (h : ExtOk C K ds r) : ExtOk C' K ds r := by
 obtain ⟨h1, h2⟩ := h
 refine ⟨by rw [hP]; exact h1, fun w lim vs a b c => ?_⟩
 rw [hP]
 exact h2 w lim vs a (fun k cs hk => b k cs (by rw [hg]; exact hk)) c
theorem tab_fit (hB : Base B) (h : TabOk B tb) {call : CallF} (hv : Valid (B.tab tb) call) : Fit2 (B.tab tb) call := by
 refine ⟨⟨hB.ok.plain, hB.ok.mixed⟩, ⟨fun K f ds r hf hr => ?_, fun K f args H r H' hf => ?_⟩, hv⟩
 ·
  have hf' : (match tb K with | some c => some c.gate | none => none) = some f := hf
  cases hc : tb K with
  | none => rw [hc] at hf'; cases hf'
  | some c =>
   rw [hc] at hf'
   simp only [Option.some.injEq] at hf'
   subst hf'
   unfold Ct.gate at hr
   by_cases hp : c.pre ds
   ·
    rw [if_pos hp] at hr
    exact (h K c ds r hc hp hr).of rfl rfl
   ·
    rw [if_neg hp] at hr; cases hr
 ·
  have : B.prim K = some f := hf
  rw [hB.prim K] at this; cases this
theorem noCS_valid {C : Cx} : Valid C noCS.call := fun K args H r H' h => by cases h
theorem ext_of_sound {C : Cx} {K : FuncId} {ds : List D} {r : D} (he : Enters C.P K) (h : SoundQ C K (ds.map .d) Heap.empty fun v H => freezeR H v = .d r) : ExtOk C K ds r := by
 refine ⟨he, fun w lim vs hl hg hr => ?_⟩
 refine (h w ⟨fun _ => .nilFunc, lim, fun _ => none⟩ vs (empty_rep (g := ⟨fun _ => .nilFunc, lim, fun _ => none⟩) hl) hg (.of_ds hr) (fun n hn => by simp [Heap.empty] at hn)).mono ?_
 rintro e w' ⟨u, r', H', gc, hf, rfl, k1, k2, k3, k4⟩
 have hE : Ext w w' := iso_ext (fun _ => rfl) k3
 have hlo : ∀ b, b < w.heap.size → gc.lim b = lim b ∧ gc.owner b = none := fun b hb => (k3.free b hb rfl).2
 obtain ⟨lim', j1, j2, j3⟩ := freezeR_ok k2 hf k1
 exact ⟨u, lim', rfl, hE, fun b hb => by rw [j2 b (hlo b hb).2, (hlo b hb).1], fun b hb => by rw [j2 b (k2.fresh b hb).2]; exact (k2.fresh b hb).1, j3⟩
theorem add_ok (h : TabOk B tb) {K : FuncId} {c : Ct} (hc : ∀ ds r, c.pre ds → c.f ds = some r → ExtOk B K ds r) : TabOk B (tb.add K c) := fun n ct ds r hn hp hr => by
 unfold Tab.add at hn
 by_cases e : n = K
 ·
  subst e
  simp at hn; subst hn
  exact hc ds r hp hr
 ·
  have : (n == K) = false := by simpa using e
  rw [this] at hn
  exact h n ct ds r hn hp hr
theorem add_body (hB : Base B) (h : TabOk B tb) {K : FuncId} {c : Ct} {fn : Func} {cd : Code} {sp : Nat → Option Spec} {hn : Nat → Option Hint} (hf : B.P.funcs[K]? = some fn) (hb : fn.body = some cd) (hr : (fn.name == "runtime.NumGoroutine") = false)
  (ok : SpecT (B.tab tb) 0 sp (specsOf false cd))
  (hc : ∀ ds r, c.pre ds → c.f ds = some r → Kept (evBodyT (B.tab tb) tb noCS 0 sp hn K (ds.map .d) Heap.empty fun v H => freezeR H v = .d r)) : TabOk B (tb.add K c) :=
 add_ok h fun ds r hp hr' => by
  have he : Enters B.P K := ⟨fn, hf, by simpa using hr, by rw [hb]; rfl⟩
  have := ext_of_sound (C := B.tab tb) he (evBodyT_sound (tab_fit hB h noCS_valid) tab_has (C := B.tab tb) hf hb (fun m hm => by cases hm) ok (hc ds r hp hr').h)
  exact this.of rfl rfl
def Ct.below (c : Ct) (μ : List D → Nat) (n : Nat) : Ct := ⟨fun ds => c.pre ds ∧ μ ds < n, c.f⟩
theorem add_rec (hB : Base B) (h : TabOk B tb) {K : FuncId} {c : Ct} {fn : Func} {cd : Code} {sp : Nat → Nat → Option Spec} {hn : Nat → Option Hint} (μ : List D → Nat) (hf : B.P.funcs[K]? = some fn) (hb : fn.body = some cd) (hr : (fn.name == "runtime.NumGoroutine") = false)
  (ok : ∀ n, TabOk B (tb.add K (c.below μ n)) → SpecT (B.tab (tb.add K (c.below μ n))) 0 (sp n) (specsOf false cd))
  (hc : ∀ n ds r, c.pre ds → μ ds = n → c.f ds = some r → Kept (evBodyT (B.tab (tb.add K (c.below μ n))) (tb.add K (c.below μ n)) noCS 0 (sp n) hn K (ds.map .d) Heap.empty fun v H => freezeR H v = .d r)) : TabOk B (tb.add K c) := by
 have he : Enters B.P K := ⟨fn, hf, by simpa using hr, by rw [hb]; rfl⟩
 have all : ∀ n, TabOk B (tb.add K (c.below μ n)) := by
  intro n
  induction n with
  | zero => exact add_ok h fun ds r hp hr' => absurd hp.2 (Nat.not_lt_zero _)
  | succ n ih =>
   refine add_ok h fun ds r hp hr' => ?_
   by_cases hlt : μ ds < n
   ·
    refine ih K (c.below μ n) ds r ?_ ⟨hp.1, hlt⟩ hr'
    simp [Tab.add]
   ·
    have e : μ ds = n := by have := hp.2; omega
    exact (ext_of_sound (C := B.tab (tb.add K (c.below μ n))) he (evBodyT_sound (tab_fit hB ih noCS_valid) tab_has (C := B.tab (tb.add K (c.below μ n))) hf hb (fun m hm => by cases hm) (ok n ih) (hc n ds r hp.1 e hr').h)).of rfl rfl
 exact add_ok h fun ds r hp hr' => all (μ ds + 1) K (c.below μ (μ ds + 1)) ds r (by simp [Tab.add]) ⟨hp, by omega⟩ hr'
def noSp : Nat → Option Spec := fun _ => none
def noHn : Nat → Option Hint := fun _ => none
theorem noSp_ok {C : Cx} {k : Nat} {l : List (Nat × Bool × Code)} : SpecT C k noSp l := fun p _ S h => by cases h
def OkS (C : Cx) (k : Nat) (c : Code) (S : Spec) : Prop := ∀ N vals bs K, S.G N vals bs K → T C k c (stN N S.L (nmOf S.ns) vals bs) fun x s' => ∃ vs bs', s' = stO N S vs bs' ∧ K x vs bs'
def spL : List (Nat × Spec) → Nat → Option Spec
 | [], _ => none
 | (a, S) :: r, n => bif n == a then some S else spL r n
theorem specT_nil {C : Cx} {k : Nat} {l : List (Nat × Bool × Code)} : SpecT C k (spL []) l := fun p _ S h => by cases h
theorem specT_cons {C : Cx} {k : Nat} {l : List (Nat × Bool × Code)} {a : Nat} {S : Spec} {r : List (Nat × Spec)} {c : Code} (h : (l.filter fun p => p.1 == a).map (fun p => p.2.2) = [c]) (hS : OkS C k c S) (hr : SpecT C k (spL r) l) : SpecT C k (spL ((a, S) :: r)) l := fun p hp S' hs => by
 by_cases e : p.1 = a
 ·
  have hm : p.2.2 ∈ (l.filter fun p => p.1 == a).map (fun p => p.2.2) := List.mem_map.2 ⟨p, List.mem_filter.2 ⟨hp, by simpa using e⟩, rfl⟩
  rw [h] at hm
  simp only [List.mem_singleton] at hm
  rw [hm]
  have : (p.1 == a) = true := by simpa using e
  simp only [spL, this, cond_true, Option.some.injEq] at hs
  subst hs
  exact hS
 ·
  have : (p.1 == a) = false := by simpa using e
  simp only [spL, this, cond_false] at hs
  exact hr p hp S' hs
def pieceAt (c : Code) (a : Nat) : Code := match (specsOf false c).find? (fun p => p.1 == a) with | some p => p.2.2 | none => .skip
def roundOf : Code → Code
 | .loop c => c
 | _ => .skip
theorem okS_loop {C : Cx} {k : Nat} {c : Code} {S : Spec} (h : ∀ N vals bs K, S.G N vals bs K → LoopT C k c N S.L (nmOf S.ns) S.L' S.nm' vals bs K) : OkS C k (.loop c) S := fun N vals bs K hg => loopT_T (h N vals bs K hg)
end
end Go.Ev
end
section
namespace Go.Ev
set_option linter.unusedSimpArgs false
set_option linter.unusedVariables false
def rounds {σ β : Type} (f : Nat → σ → σ ⊕ β) : Nat → Nat → σ → σ ⊕ β
 | 0, _, a => .inl a
 | n + 1, i, a => match f i a with
  | .inl a' => rounds f n (i + 1) a'
  | .inr b => .inr b
def ofOpt {β : Type} : Option β → Unit ⊕ β
 | some b => .inr b
 | none => .inl ()
def search {β : Type} (f : Nat → Option β) (n : Nat) : Option β := match rounds (fun i _ => ofOpt (f i)) n 0 () with | .inr b => some b | .inl _ => none
theorem cond_split {c : Bool} {A B : Prop} (h1 : c = true → A) (h2 : c = false → B) : bif c then A else B := by
 cases c with
 | true => exact h1 rfl
 | false => exact h2 rfl
def optE {β : Type} (o : Option β) (z : Prop) (s : β → Prop) : Prop := match o with | some b => s b | none => z
section
variable {C : Cx} {tb : Tab} {cs : CS} {k : Nat}
theorem count_loop (F : Fit2 C cs.call) (hE : Has C tb) {sp : Nat → Option Spec} {hn : Nat → Option Hint} {c : Code} {N : Nat} {L L' : List Nat} {nm nm' : List Name} {adsI : List Ad} {nsI nsX : List (Name × Name)} (ok : SpecT C k sp (specsOf true c)) (hI : nmOf nsI = nm) (hX : nmOf nsX = nm')
  {σ : Type} (len : Nat) (P : Nat → σ → Prop) (V0 : Nat → σ → List V) (B0 : Nat → σ → List Box) (f : Nat → σ → σ ⊕ (X × List V × List Box)) (xE : X) (vE : σ → List V) (bE : σ → List Box) (hxE : xE ≠ .normal)
  (hb : ∀ i a R, i < len → P i a → (match f i a with | .inl a' => P (i + 1) a' → R .normal (V0 (i + 1) a') (B0 (i + 1) a') | .inr (x, vs, bs) => x ≠ .normal → R x vs bs) → Kept (roundT C tb cs k sp hn c N L nm adsI nsI L' nsX (V0 i a) (B0 i a) R))
  (he : ∀ a R, P len a → R xE (vE a) (bE a) → Kept (roundT C tb cs k sp hn c N L nm adsI nsI L' nsX (V0 len a) (B0 len a) R)) {Q : X → List V → List Box → Prop} :
  ∀ n i a, i + n = len → P i a → (match rounds f n i a with | .inl a' => Q xE (vE a') (bE a') | .inr (x, vs, bs) => Q x vs bs) → LoopT C k c N L nm L' nm' (V0 i a) (B0 i a) Q := by
 intro n
 induction n with
 | zero =>
  intro i a hi hp h
  have : i = len := by omega
  subst this
  refine loopT_step F hE ok (adsI := adsI) hI hX (he a _ hp ?_)
  cases xE with
  | normal => exact absurd rfl hxE
  | exit i => exact h
  | ret => exact h
 | succ n ih =>
  intro i a hi hp h
  unfold rounds at h
  refine loopT_step F hE ok (adsI := adsI) hI hX (hb i a _ (by omega) hp ?_)
  cases hf : f i a with
  | inl a' =>
   simp only [hf] at h ⊢
   exact fun hp' => ih (i + 1) a' (by omega) hp' h
  | inr b =>
   obtain ⟨x, vs, bs⟩ := b
   simp only [hf] at h ⊢
   intro hne
   cases x with
   | normal => exact absurd rfl hne
   | exit i => exact h
   | ret => exact h
def sumMap {σ β γ : Type} (g : β → γ) : σ ⊕ β → σ ⊕ γ
 | .inl a => .inl a
 | .inr b => .inr (g b)
theorem rounds_map {σ β γ : Type} {f : Nat → σ → σ ⊕ β} {g : β → γ} : ∀ {n i : Nat} {a : σ}, rounds (fun i a => sumMap g (f i a)) n i a = sumMap g (rounds f n i a)
 | 0, i, a => rfl
 | n + 1, i, a => by
  unfold rounds
  cases hf : f i a with
  | inl a' => simp only [sumMap]; exact rounds_map
  | inr b => rfl
theorem search_loop (F : Fit2 C cs.call) (hE : Has C tb) {sp : Nat → Option Spec} {hn : Nat → Option Hint} {c : Code} {N : Nat} {L L' : List Nat} {nm nm' : List Name} {adsI : List Ad} {nsI nsX : List (Name × Name)} (ok : SpecT C k sp (specsOf true c)) (hI : nmOf nsI = nm) (hX : nmOf nsX = nm')
  {β : Type} (len : Nat) (V0 : Nat → List V) (B0 : Nat → List Box) (f : Nat → Option β) (out : β → X × List V × List Box) (hout : ∀ b, (out b).1 ≠ .normal) (xE : X) (vE : List V) (bE : List Box) (hxE : xE ≠ .normal)
  (hb : ∀ i R, i < len → optE (f i) (R .normal (V0 (i + 1)) (B0 (i + 1))) (fun b => R (out b).1 (out b).2.1 (out b).2.2) → Kept (roundT C tb cs k sp hn c N L nm adsI nsI L' nsX (V0 i) (B0 i) R))
  (he : ∀ R, R xE vE bE → Kept (roundT C tb cs k sp hn c N L nm adsI nsI L' nsX (V0 len) (B0 len) R)) {Q : X → List V → List Box → Prop}
  (h : optE (search f len) (Q xE vE bE) (fun b => Q (out b).1 (out b).2.1 (out b).2.2)) : LoopT C k c N L nm L' nm' (V0 0) (B0 0) Q := by
 refine count_loop F hE ok hI hX len (fun _ (_ : Unit) => True) (fun i _ => V0 i) (fun i _ => B0 i) (fun i _ => sumMap out (ofOpt (f i))) xE (fun _ => vE) (fun _ => bE) hxE ?_ (fun a R _ hR => he R hR) len 0 () (by omega) trivial ?_
 ·
  intro i a R hi _ hR
  refine hb i R hi ?_
  cases hf : f i with
  | none => simp only [hf, ofOpt, sumMap] at hR ⊢; exact hR trivial
  | some b => simp only [hf, ofOpt, sumMap] at hR ⊢; exact hR (hout b)
 ·
  rw [rounds_map (f := fun i _ => ofOpt (f i)) (g := out)]
  unfold search at h
  cases hr : rounds (fun i _ => ofOpt (f i)) len 0 () with
  | inl a => rw [hr] at h; exact h
  | inr b => rw [hr] at h; exact h
end
end Go.Ev
end
section
namespace Go.Ev
set_option linter.unusedSimpArgs false
set_option linter.unusedVariables false
def noSm : STab := fun _ => none
theorem noSm_ok {C : Cx} : SmOk C noSm := fun K f vals bs c x y h => by cases h
def STab.add (tb : STab) (K : FuncId) (S : Sm) : STab := fun n => bif n == K then some S else tb n
def lookS : List (FuncId × Sm) → FuncId → Option Sm
 | [], _ => none
 | (a, S) :: r, n => bif n == a then some S else lookS r n
def STab.addG (tb : STab) (grp : List (FuncId × Sm)) : STab := fun n => match lookS grp n with | some S => some S | none => tb n
def Sm.below (S : Sm) (m : List V → List Box → Nat) (n : Nat) : Sm := ⟨fun vs bs => S.pre vs bs ∧ m vs bs < n, S.f⟩
def belowG (grp : List (FuncId × Sm)) (μ : FuncId → List V → List Box → Nat) (n : Nat) : List (FuncId × Sm) := grp.map fun p => (p.1, p.2.below (μ p.1) n)
def nodupN : List Nat → Bool
 | [] => true
 | d :: l => !l.contains d && nodupN l
def resTmps : List ResultVar → Option (List Nat)
 | [] => some []
 | .tmp t :: r => match resTmps r with | some l => some (t :: l) | none => none
 | _ :: _ => none
def endsK (k : Nat) (L : List Nat) : List (List (Name × Name)) → St → (List V → List Box → Prop) → Prop
 | [], _, _ => False
 | ns :: r, s, R => match cutSt k L ns s with
  | some p => R p.1 p.2
  | none => endsK k L r s R
def evBodyS (C : Cx) (tb : Tab) (cs : CS) (k : Nat) (sp : Nat → Option Spec) (hn : Nat → Option Hint) (ads : List Ad) (ends : List (List (Name × Name))) (K : FuncId) (args : List V) (H : Heap) (R : V → List Box → Prop) : Prop :=
 match C.P.funcs[K]? with
 | none => False
 | some fn => match fn.body, resTmps fn.results.toList with
  | some c, some L => evCodeT C tb cs k sp hn false c ⟨max fn.ntmps args.length, fun t => (args[t]?).getD vundef, H⟩ fun x s => match x with
   | .exit _ => False
   | _ => go (adopts ads s) fun s => endsK k L ends s fun vs bs => R (oneOrTup vs) bs
  | _, _ => False
theorem endsK_at {C : Cx} {k : Nat} {L : List Nat} {R : List V → List Box → Prop} : ∀ {ends : List (List (Name × Name))} {s : St}, endsK k L ends s R → ∃ ns ∈ ends, ∃ vs bs, Weak C k s (stN s.N L (nmOf ns) vs bs) ∧ vs.length = L.length ∧ bs.length = (nmOf ns).length ∧ R vs bs
 | [], s, h => h.elim
 | ns :: r, s, h => by
  unfold endsK at h
  split at h
  ·
   rename_i p hp
   obtain ⟨vs, bs⟩ := p
   refine ⟨ns, by simp, vs, bs, cut_weak hp, ?_, ?_, h⟩
   ·
    unfold cutSt at hp
    split at hp
    ·
     rename_i b0 hb0
     cases hc : cutChk k ns (L.map s.F) b0 with
     | false => rw [hc] at hp; cases hp
     | true =>
      rw [hc] at hp
      simp only [cond_true, Option.some.injEq, Prod.mk.injEq] at hp
      rw [← hp.1, rens_map]; simp
    ·
     cases hp
   ·
    unfold cutSt at hp
    split at hp
    ·
     rename_i b0 hb0
     cases hc : cutChk k ns (L.map s.F) b0 with
     | false => rw [hc] at hp; cases hp
     | true =>
      rw [hc] at hp
      simp only [cond_true, Option.some.injEq, Prod.mk.injEq] at hp
      rw [← hp.2]
      unfold nmOf
      simp [(boxesOf_at hb0).1]
    ·
     cases hp
  ·
   obtain ⟨ns', h1, h2⟩ := endsK_at h
   exact ⟨ns', List.mem_cons_of_mem _ h1, h2⟩
theorem resTmps_evRes {C : Cx} : ∀ {l : List ResultVar} {L : List Nat} {s : St}, resTmps l = some L → evRes C s l = some (L.map s.F)
 | [], L, s, h => by simp [resTmps] at h; subst h; rfl
 | .tmp t :: r, L, s, h => by
  unfold resTmps at h
  cases hr : resTmps r with
  | none => rw [hr] at h; cases h
  | some l =>
   rw [hr] at h; simp at h; subst h
   unfold evRes
   rw [resTmps_evRes hr]
   rfl
 | .cell a t :: r, L, s, h => by simp [resTmps] at h
theorem mk_map : ∀ {L : List Nat} {vs : List V}, nodupN L = true → vs.length = L.length → L.map (mk anyF L vs) = vs
 | [], [], _, _ => rfl
 | [], v :: vs, _, h => by simp at h
 | d :: l, [], _, h => by simp at h
 | d :: l, v :: vs, hd, h => by
  simp only [nodupN, Bool.and_eq_true, Bool.not_eq_true'] at hd
  have hne : ∀ t ∈ l, (t == d) = false := fun t ht => by
   cases hx : t == d with
   | false => rfl
   | true =>
    have : t = d := by simpa using hx
    subst this
    have : l.contains t = true := by simpa using ht
    rw [this] at hd; cases hd.1
  simp only [List.map_cons, mk]
  congr 1
  ·
   simp [upd]
  ·
   refine Eq.trans (List.map_congr_left fun t ht => ?_) (mk_map hd.2 (show vs.length = l.length by simpa using h))
   simp only [upd, hne t ht, cond_false]
section
variable {B : Cx} {etb : Tab} {stb : STab}
theorem SoundQ.of {C C' : Cx} (hP : C'.P = C.P) (hg : C'.glob = C.glob) {K : FuncId} {args : List V} {H : Heap} {Q : V → Heap → Prop} (h : SoundQ C K args H Q) : SoundQ C' K args H Q := fun w g vs a b c d => by
 rw [hP]
 exact h w g vs a (fun k cs hk => b k cs (by rw [hg]; exact hk)) c d
theorem SmOk.of {C C' : Cx} (hP : C'.P = C.P) (hg : C'.glob = C.glob) (h : SmOk C stb) : SmOk C' stb := fun K f vals bs c x y h1 h2 h3 => by
 obtain ⟨a, b⟩ := h K f vals bs c x y h1 h2 h3
 exact ⟨by rw [hP]; exact a, b.of hP hg⟩
theorem sm_fit (hB : Base B) (h : TabOk B etb) (hs : SmOk B stb) : Fit2 (B.tab etb) (smCS stb).call := tab_fit hB h (smCall_valid (hs.of rfl rfl))
theorem smIn_z0 {bs : List Box} {k : Nat} (hk : bs.length = k) : Z0 k (smIn bs) := fun m hm => by
 unfold smIn at hm
 cases hx : ofL (zipNm (inNames bs.length) bs) (0 :: m) with
 | none => rw [hx] at hm; cases hm
 | some b =>
  obtain ⟨i, h1, _⟩ := ofL_zipNm hx
  obtain ⟨j, hj, he⟩ := List.mem_map.1 (List.mem_of_getElem? h1)
  simp at he
  exact ⟨j, by rw [← hk]; simpa using hj, he.symm⟩
theorem evBodyS_sound {C : Cx} {tb : Tab} {cs : CS} {k : Nat} (F : Fit2 C cs.call) (hE : Has C tb) {sp : Nat → Option Spec} {hn : Nat → Option Hint} {ads : List Ad} {ends : List (List (Name × Name))} {K : FuncId} {args : List V} {H : Heap} {R : V → List Box → Prop} {fn : Func} {c : Code}
  (hf : C.P.funcs[K]? = some fn) (hb : fn.body = some c) (hz : Z0 k H) (hL : (match resTmps fn.results.toList with | some L => nodupN L | none => false) = true)
  (ok : SpecT C k sp (specsOf false c)) (h : evBodyS C tb cs k sp hn ads ends K args H R) : SoundQ C K args H fun r H' => ∃ ns ∈ ends, ∃ bs, bs.length = (nmOf ns).length ∧ H' = ofL (zipNm (nmOf ns) bs) ∧ R r bs := by
 unfold evBodyS at h
 simp only [hf, hb] at h
 cases hr : resTmps fn.results.toList with
 | none => rw [hr] at h; exact h.elim
 | some L =>
  rw [hr] at h hL
  simp only [] at h hL
  refine soundQ_body hf hb hz (T_post (evCodeT_T F hE c false _ _ ok h) ?_)
  intro x s' hx
  cases x with
  | exit i => exact hx.elim
  | normal =>
   obtain ⟨s1, h1, hx⟩ := go_prop hx
   obtain ⟨ns, hns, vs, bs, hw, h2, h3, h4⟩ := endsK_at (C := C) hx
   exact ⟨_, (adopts_weak h1).trans hw, vs, by rw [resTmps_evRes hr]; exact congrArg some (mk_map hL h2), ns, hns, bs, h3, rfl, h4⟩
  | ret =>
   obtain ⟨s1, h1, hx⟩ := go_prop hx
   obtain ⟨ns, hns, vs, bs, hw, h2, h3, h4⟩ := endsK_at (C := C) hx
   exact ⟨_, (adopts_weak h1).trans hw, vs, by rw [resTmps_evRes hr]; exact congrArg some (mk_map hL h2), ns, hns, bs, h3, rfl, h4⟩
theorem zipNm_append : ∀ {a b : List Name} {x y : List Box}, x.length = a.length → zipNm (a ++ b) (x ++ y) = zipNm a x ++ zipNm b y
 | [], b, [], y, _ => rfl
 | [], b, v :: x, y, h => by simp at h
 | n :: a, b, [], y, h => by simp at h
 | n :: a, b, v :: x, y, h => by
  simp only [List.cons_append, zipNm]
  rw [zipNm_append (by simpa using h)]
theorem sm_bodyS (hB : Base B) (h : TabOk B etb) (hs : SmOk B stb) {K : FuncId} {fn : Func} {cd : Code} {sp : Nat → Option Spec} {hn : Nat → Option Hint} {k : Nat} {ads : List Ad} {ends : List (List (Name × Name))} (hf : B.P.funcs[K]? = some fn) (hb : fn.body = some cd) (hr : (fn.name == "runtime.NumGoroutine") = false)
  (hL : (match resTmps fn.results.toList with | some L => nodupN L | none => false) = true)
  (hends : ends.all (fun ns => nmOf ns == inNames k ++ newNames ((nmOf ns).length - k)) = true)
  (ok : SpecT (B.tab etb) k sp (specsOf false cd)) {vals : List V} {bs bs' news : List Box} {r : V} (hk : bs.length = k) (hl : bs'.length = bs.length)
  (hc : Kept (evBodyS (B.tab etb) etb (smCS stb) k sp hn ads ends K vals (smIn bs) fun r' bx => r' = r ∧ bx = bs' ++ news)) :
  Enters B.P K ∧ SoundQ B K vals (smIn bs) fun r' H' => r' = r ∧ H' = smOut bs' news := by
 refine ⟨⟨fn, hf, by simpa using hr, by rw [hb]; rfl⟩, ?_⟩
 have := (evBodyS_sound (sm_fit hB h hs) tab_has (C := B.tab etb) hf hb (smIn_z0 hk) hL ok hc.h).of (C' := B) rfl rfl
 intro w g vs a b c d
 refine (this w g vs a b c d).mono ?_
 rintro e w' ⟨v, r', H', g', ⟨ns, hns, bx, hlen, rfl, rfl, rfl⟩, h2⟩
 refine ⟨v, _, _, g', ⟨rfl, ?_⟩, h2⟩
 have hn := List.all_eq_true.1 hends ns hns
 have hn : nmOf ns = inNames k ++ newNames ((nmOf ns).length - k) := by simpa using hn
 have hlen2 : (nmOf ns).length - k = news.length := by
  rw [← hlen]; simp; omega
 rw [hlen2] at hn
 unfold smOut
 rw [hn, zipNm_append (by simp [inNames]; omega)]
 rw [show bs'.length = k by omega]
theorem sm_add (hs : SmOk B stb) {K : FuncId} {S : Sm} (hc : ∀ vals bs c x y, S.pre vals bs → S.f vals bs = some (c, x, y) → Enters B.P K ∧ SoundQ B K vals (smIn bs) fun r' H' => r' = (bif c then x else y).1 ∧ H' = smOut (bif c then x else y).2.1 (bif c then x else y).2.2) :
  SmOk B (stb.add K S) := fun n f vals bs c x y h1 h2 h3 => by
 unfold STab.add at h1
 by_cases e : n = K
 ·
  subst e
  simp at h1; subst h1
  exact hc vals bs c x y h2 h3
 ·
  have : (n == K) = false := by simpa using e
  rw [this] at h1
  exact hs n f vals bs c x y h1 h2 h3
theorem lookS_mem : ∀ {grp : List (FuncId × Sm)} {n : FuncId} {S : Sm}, lookS grp n = some S → (n, S) ∈ grp
 | [], n, S, h => by cases h
 | (a, T) :: r, n, S, h => by
  unfold lookS at h
  by_cases e : n = a
  ·
   subst e; simp at h; subst h; simp
  ·
   have : (n == a) = false := by simpa using e
   rw [this] at h
   exact List.mem_cons_of_mem _ (lookS_mem h)
theorem lookS_below {μ : FuncId → List V → List Box → Nat} {m : Nat} : ∀ {grp : List (FuncId × Sm)} {n : FuncId}, lookS (belowG grp μ m) n = match lookS grp n with | some S => some (S.below (μ n) m) | none => none
 | [], n => rfl
 | (a, T) :: r, n => by
  simp only [belowG, List.map_cons, lookS]
  by_cases e : n = a
  ·
   subst e; simp
  ·
   have : (n == a) = false := by simpa using e
   rw [this]
   exact lookS_below
theorem sm_group (hs : SmOk B stb) (grp : List (FuncId × Sm)) (μ : FuncId → List V → List Box → Nat)
  (hc : ∀ n, SmOk B (stb.addG (belowG grp μ n)) → ∀ K S, (K, S) ∈ grp → ∀ vals bs c x y, S.pre vals bs → μ K vals bs = n → S.f vals bs = some (c, x, y) →
   Enters B.P K ∧ SoundQ B K vals (smIn bs) fun r' H' => r' = (bif c then x else y).1 ∧ H' = smOut (bif c then x else y).2.1 (bif c then x else y).2.2) : SmOk B (stb.addG grp) := by
 have all : ∀ n, SmOk B (stb.addG (belowG grp μ n)) := by
  intro n
  induction n with
  | zero =>
   intro K f vals bs c x y h1 h2 h3
   unfold STab.addG at h1
   rw [lookS_below] at h1
   cases hl : lookS grp K with
   | none => rw [hl] at h1; exact hs K f vals bs c x y h1 h2 h3
   | some S =>
    rw [hl] at h1
    simp only [Option.some.injEq] at h1
    subst h1
    exact absurd h2.2 (Nat.not_lt_zero _)
  | succ n ih =>
   intro K f vals bs c x y h1 h2 h3
   unfold STab.addG at h1
   rw [lookS_below] at h1
   cases hl : lookS grp K with
   | none => rw [hl] at h1; exact hs K f vals bs c x y h1 h2 h3
   | some S =>
    rw [hl] at h1
    simp only [Option.some.injEq] at h1
    subst h1
    by_cases hlt : μ K vals bs < n
    ·
     refine ih K (S.below (μ K) n) vals bs c x y ?_ ⟨h2.1, hlt⟩ h3
     unfold STab.addG
     rw [lookS_below, hl]
    ·
     have e : μ K vals bs = n := by have := h2.2; omega
     exact hc n ih K S (lookS_mem hl) vals bs c x y h2.1 e h3
 intro K f vals bs c x y h1 h2 h3
 unfold STab.addG at h1
 cases hl : lookS grp K with
 | none => rw [hl] at h1; exact hs K f vals bs c x y h1 h2 h3
 | some S =>
  rw [hl] at h1
  simp only [Option.some.injEq] at h1
  subst h1
  refine all (μ K vals bs + 1) K (S.below (μ K) (μ K vals bs + 1)) vals bs c x y ?_ ⟨h2, by omega⟩ h3
  unfold STab.addG
  rw [lookS_below, hl]
theorem add_bodyS (hB : Base B) (h : TabOk B etb) (hs : SmOk B stb) {K : FuncId} {c : Ct} {fn : Func} {cd : Code} {sp : Nat → Option Spec} {hn : Nat → Option Hint} (hf : B.P.funcs[K]? = some fn) (hb : fn.body = some cd) (hr : (fn.name == "runtime.NumGoroutine") = false)
  (ok : SpecT (B.tab etb) 0 sp (specsOf false cd))
  (hc : ∀ ds r, c.pre ds → c.f ds = some r → Kept (evBodyT (B.tab etb) etb (smCS stb) 0 sp hn K (ds.map .d) Heap.empty fun v H => freezeR H v = .d r)) : TabOk B (etb.add K c) :=
 add_ok h fun ds r hp hr' => by
  have he : Enters B.P K := ⟨fn, hf, by simpa using hr, by rw [hb]; rfl⟩
  have := ext_of_sound (C := B.tab etb) he (evBodyT_sound (sm_fit hB h hs) tab_has (C := B.tab etb) hf hb (fun m hm => by cases hm) ok (hc ds r hp hr').h)
  exact this.of rfl rfl
end
end Go.Ev
end
section
namespace Go.Ev.R2
open Go Go.Ev Go.Proofs
set_option maxRecDepth 100000
def spaceD : List D := Lib.asciiSpaceTab.map fun z => .lit (.int .u8 z)
def powD : List D := Lib.pow10Tab.map fun z => .lit (.int .u64 z)
def errD : List D := [.iface 283 .any]
def globD (k : Nat) : Option (List D) := bif k == 0 then some spaceD else bif k == 3 then some errD else bif k == 4 then some errD else bif k == 5 then some powD else none
noncomputable def B : Cx := ⟨Tryz.prog, globD, fun _ => none, fun _ => none, fun t => bif t == 24 then true else t == 102, fun _ => false, fun _ => none⟩
noncomputable def bodyOf (f : Func) : Code := match f.body with | some c => c | none => .skip
noncomputable def Cn (tb : Tab) : Cx := B.tab tb
theorem base : Base B := ⟨{ plain := fun t h => (by
  have h' : t = 24 ∨ t = 102 := by
   cases e : (t == 24) with
   | true => exact .inl (by simpa using e)
   | false =>
    have h2 : (bif t == 24 then true else t == 102) = true := h
    rw [e] at h2
    exact .inr (by simpa using h2)
  rcases h' with rfl | rfl
  ·
   exact ⟨by kernel_rfl, by kernel_rfl⟩
  ·
   exact ⟨by kernel_rfl, by kernel_rfl⟩), mixed := (by kernel_rfl) }, fun _ => rfl⟩
def nameByte (c : Int) : Bool := (decide (97 ≤ c) && decide (c ≤ 122)) || (decide (65 ≤ c) && decide (c ≤ 90)) || (decide (48 ≤ c) && decide (c ≤ 57)) || c == 95
def c230 : Ct := ⟨fun _ => True, fun | [.lit (.int .u8 c)] => some (.lit (.bool (nameByte c))) | _ => none⟩
theorem w230 (c : Int) (p : V → Prop) : (evBodyT (Cn noTab) noTab noCS 0 noSp noHn 230 [V.d (D.lit (Value.int IntKind.u8 c))] Heap.empty fun v H =>
 p (freezeR H v)) =
 p
 (V.d
 (D.lit
 (Value.bool
 (bif
 bif
 bif bif decide (97 ≤ c) then decide (c ≤ 122) else false then true
 else bif decide (65 ≤ c) then decide (c ≤ 90) else false then
 true
 else bif decide (48 ≤ c) then decide (c ≤ 57) else false then
 true
 else c == 95)))) := by kernel_rfl
theorem k230 : TabOk B (noTab.add 230 c230) := by
 refine add_body base noTab_ok (fn := Tryz.f230) (cd := bodyOf Tryz.f230) (sp := noSp) (hn := noHn) Tryz.func230 (by kernel_rfl) (by kernel_rfl) noSp_ok fun ds r hp hr => ?_
 unfold c230 at hr
 simp only [] at hr
 split at hr
 ·
  rename_i c
  cases hr
  refine keep (w230 c fun v => v = _) ?_
  unfold nameByte
  cases decide (97 ≤ c) <;> cases decide (c ≤ 122) <;> cases decide (65 ≤ c) <;> cases decide (c ≤ 90) <;> cases decide (48 ≤ c) <;> cases decide (c ≤ 57) <;> rfl
 ·
  cases hr
def t213 : Tab := noTab.add 230 c230
noncomputable def l213 : Code := roundOf (pieceAt (bodyOf Tryz.f213) 8)
theorem b213 (s : ByteArray) (i : Int) (R : X → List V → List Box → Prop) : (roundT (Cn t213) t213 noCS 0 noSp noHn l213 33 [0, 3] [] [] [] [2] [] [lstr s, lint i] [] R) =
 (bif decide (i < (↑s.size : Int)) then
 ((0 ≤ i ∧ i.toNat < s.size) ∧
 (True ∧
 (bif !nameByte (byteAt s i.toNat) then
 (33 = 33 ∧
 R X.ret [V.d (D.lit (Value.bool false))] []) else
 (33 = 33 ∧
 R X.normal [V.d (D.lit (Value.string s)), V.d (D.lit (Value.int IntKind.i64 (IntKind.i64.wrap (i + 1))))] [])))) else
 (33 = 33 ∧
 R (X.exit 0) [V.any] [])) := by kernel_rfl
def nameFrom (s : ByteArray) : Nat → Nat → Bool
 | 0, _ => true
 | n + 1, i => nameByte (byteAt s i) && nameFrom s n (i + 1)
def isName (s : ByteArray) : Bool := decide (1 ≤ s.size) && decide (s.size ≤ 60) && !(decide (48 ≤ byteAt s 0) && decide (byteAt s 0 ≤ 57)) && nameFrom s s.size 0
def S213 : Ev.Spec := { L := [0,3], ns := [], L' := [2], nm' := [], G := fun N vals bs k => match vals, bs with
 | [.d (.lit (.string s)), .d (.lit (.int .i64 i))], [] => N = 33 ∧ i = 0 ∧ s.size ≤ 60 ∧ (bif nameFrom s s.size 0 then k (.exit 0) [.any] [] else k .ret [lbool false] []) 
 | _, _ => False }
theorem ok213 : OkS (Cn t213) 0 (.loop l213) S213 := by
 refine okS_loop fun N vals bs K h => ?_
 simp only [S213] at h
 split at h
 case h_2 => exact h.elim
 rename_i s i
 obtain ⟨rfl, rfl, h60, h⟩ := h
 have key : ∀ n i : Nat, i + n = s.size → (bif nameFrom s n i then K (.exit 0) [.any] [] else K .ret [lbool false] []) → LoopT (Cn t213) 0 l213 33 [0, 3] [] [2] [] [lstr s, lint i] [] K := by
  intro n
  induction n with
  | zero =>
   intro i hi h
   refine loopT_step (tab_fit base k230 noCS_valid) tab_has noSp_ok (adsI := []) (nsI := []) (nsX := []) rfl rfl (keep (b213 s i _) ?_)
   have e1 : decide ((i : Int) < s.size) = false := by simp; omega
   rw [e1]
   exact ⟨rfl, h⟩
  | succ n ih =>
   intro i hi h
   refine loopT_step (tab_fit base k230 noCS_valid) tab_has noSp_ok (adsI := []) (nsI := []) (nsX := []) rfl rfl (keep (b213 s i _) ?_)
   have e1 : decide ((i : Int) < s.size) = true := by simp; omega
   rw [e1]
   refine ⟨⟨by omega, by simp; omega⟩, trivial, ?_⟩
   simp only [Int.toNat_natCast]
   unfold nameFrom at h
   cases hb : nameByte (byteAt s i) with
   | false => rw [hb] at h; exact ⟨trivial, h⟩
   | true =>
    rw [hb, Bool.true_and] at h
    have ew : IntKind.i64.wrap ((i : Int) + 1) = ((i + 1 : Nat) : Int) := by rw [Go.IntWalk.i64_in _ (by omega)]; omega
    refine ⟨trivial, ?_⟩
    rw [ew]
    exact ih (i + 1) (by omega) h
 exact key s.size 0 (by omega) h
def c213 : Ct := ⟨fun _ => True, fun | [.lit (.string s)] => some (.lit (.bool (isName s))) | _ => none⟩
theorem w213 (s : ByteArray) (p : V → Prop) : (evBodyT (Cn t213) t213 noCS 0 (spL [(8, S213)]) noHn 213 [lstr s] Heap.empty fun v H => p (freezeR H v)) =
  ((((!bif decide ((↑s.size : Int) < 1) then true else decide ((↑s.size : Int) > 60)) && true) = true → (((0 : Int) ≤ 0) ∧ 0 < s.size)) ∧
  (((decide (48 ≤ byteAt s 0) &&
    ((!bif decide ((↑s.size : Int) < 1) then true else decide ((↑s.size : Int) > 60)) && true)) =
  true → (((0 : Int) ≤ 0) ∧ 0 < s.size)) ∧
  (bif bif bif decide ((↑s.size : Int) < 1) then true else decide ((↑s.size : Int) > 60) then true
else bif decide (48 ≤ byteAt s 0) then decide (byteAt s 0 ≤ 57) else false then
   p (V.d (D.lit (Value.bool false))) else
   (33 = 33 ∧
   ((0 : Int) = 0 ∧
   (s.size ≤ 60 ∧
   (bif nameFrom s s.size 0 then
    p (V.d (D.lit (Value.bool true))) else
    p (V.d (D.lit (Value.bool false)))))))))) := by kernel_rfl
theorem k213 : TabOk B (t213.add 213 c213) := by
 refine add_body base k230 (fn := Tryz.f213) (cd := bodyOf Tryz.f213) (sp := spL [(8, S213)]) (hn := noHn) Tryz.func213 (by kernel_rfl) (by kernel_rfl) (specT_cons (c := .loop l213) (by kernel_rfl) ok213 specT_nil) fun ds r hp hr => ?_
 unfold c213 at hr
 simp only [] at hr
 split at hr
 ·
  rename_i s
  cases hr
  refine keep (w213 s fun v => v = _) ?_
  unfold isName
  by_cases h1 : 1 ≤ s.size
  ·
   by_cases h2 : s.size ≤ 60
   ·
    have e1 : decide ((s.size : Int) < 1) = false := by simp; omega
    have e2 : decide ((s.size : Int) > 60) = false := by simp; omega
    rw [e1, e2]
    refine ⟨fun _ => ⟨by omega, by omega⟩, fun _ => ⟨by omega, by omega⟩, ?_⟩
    simp only [h1, h2, decide_true, cond_true, cond_false, Bool.true_and]
    cases decide (48 ≤ byteAt s 0) <;> cases decide (byteAt s 0 ≤ 57) <;> cases nameFrom s s.size 0 <;> simp
   ·
    have e1 : decide ((s.size : Int) < 1) = false := by simp; omega
    have e2 : decide ((s.size : Int) > 60) = true := by simp; omega
    rw [e1, e2]
    simp [h2]
  ·
   have e1 : decide ((s.size : Int) < 1) = true := by simp; omega
   rw [e1]
   simp [h1]
 ·
  cases hr
abbrev eqS (s t : ByteArray) : Bool := s.toList == t.toList
abbrev leS (s t : ByteArray) : Bool := Op.bytesLess s.toList t.toList || s.toList == t.toList
def AllT (t : TypeId) (xs : List D) : Prop := ∀ i, i < xs.length → etaT B t (xs.getD i .any) = xs.getD i .any
def T213 : Tab := t213.add 213 c213
noncomputable def l191 : Code := roundOf (pieceAt (bodyOf Tryz.f191) 8)
def labelErr (xs : List D) (i : Nat) : Option Int :=
 bif !isName (strOf (cellOf (xs.getD i .any) 0)) then some 5 else
 bif eqS (strOf (cellOf (xs.getD i .any) 1)) (ByteArray.mk #[]) then some 1 else
 bif decide (((strOf (cellOf (xs.getD i .any) 1)).size : Int) > 200) then some 4 else
 bif decide ((i : Int) > 0) && leS (strOf (cellOf (xs.getD i .any) 0)) (strOf (cellOf (xs.getD (i - 1) .any) 0)) then some 9 else none
def errOf (f : Nat → Option Int) (n : Nat) : Int := match search f n with | some e => e | none => 0
def labelsE (xs : List D) : Int := bif decide (16 < xs.length) then 4 else errOf (labelErr xs) xs.length
def S191 : Ev.Spec := { L := [0,8,9,10], ns := [], L' := [2], nm' := [], G := fun N vals bs k => match vals, bs with
 | [.d (.slice b 2 xs), .d (.slice b' 2 xs'), .d (.lit (.int .i64 n)), .d (.lit (.int .i64 i))], [] => (N = 44 ∧ b' = b ∧ xs' = xs ∧ i = 0 ∧ n = xs.length ∧ xs.length ≤ 16 ∧ AllT 209 xs) ∧ optE (search (labelErr xs) xs.length) (k (.exit 0) [.any] []) (fun e => k .ret [lint e] [])
 | _, _ => False }
def c191 : Ct := ⟨fun | [.slice _ z xs] => z = 2 ∧ AllT 209 xs | _ => False, fun | [.slice _ _ xs] => some (.lit (.int .i64 (labelsE xs))) | _ => none⟩
def T191 : Tab := T213.add 191 c191
def c144 : Ct := ⟨fun _ => True, fun | [.lit (.string s)] => some (.lit (.bool (isName s))) | _ => none⟩
def T144 : Tab := T191.add 144 c144
def numericB (s : ByteArray) : Bool := eqS s (ByteArray.mk #[115, 116, 97, 116, 117, 115]) || eqS s (ByteArray.mk #[100, 117, 114, 97, 116, 105, 111, 110])
def c143 : Ct := ⟨fun _ => True, fun | [.lit (.string s)] => some (.lit (.bool (numericB s))) | _ => none⟩
def T143 : Tab := T144.add 143 c143
def prefixB (s t : ByteArray) : Bool := decide (t.size ≤ s.size) && eqS (s.extract 0 t.size) t
def c212 : Ct := ⟨fun _ => True, fun | [.lit (.string s), .lit (.string t)] => some (.lit (.bool (prefixB s t))) | _ => none⟩
def T212 : Tab := T143.add 212 c212
def c190 : Ct := ⟨fun _ => True, fun | [.lit (.string s), .lit (.string t)] => some (.tup [.lit (.string (bif prefixB s t then s.extract t.size s.size else s)), .lit (.bool (prefixB s t))]) | _ => none⟩
def T190 : Tab := T212.add 190 c190
def T142 : Tab := T190.add 142 c190
theorem b191 (xs : List D) (i : Int) (n : Int) (b : Bool) (R : X → List V → List Box → Prop) : (roundT (Cn T213) T213 noCS 0 noSp noHn l191 44 [0, 8, 9, 10] [] [] [] [2] []
 [V.d (D.slice b 2 xs), V.d (D.slice b 2 xs), lint n, lint i] [] R) =
 (bif decide (i < n) then
 ((((0 : Int) ≤ i) ∧ (i.toNat < xs.length ∧ D.agg
 [D.lit (Value.string (strOf (cellOf (xs.getD i.toNat D.any) 0))),
 D.lit (Value.string (strOf (cellOf (xs.getD i.toNat D.any) 1)))] =
 xs.getD i.toNat D.any)) ∧
 (True ∧
 (bif !isName (strOf (cellOf (xs.getD i.toNat D.any) 0)) then
 (44 = 44 ∧
 R X.ret [V.d (D.lit (Value.int IntKind.i64 5))] []) else
 (bif (strOf (cellOf (xs.getD i.toNat D.any) (0 + 1))).toList == (ByteArray.mk #[]).toList then
 (44 = 44 ∧
 R X.ret [V.d (D.lit (Value.int IntKind.i64 1))] []) else
 (bif decide ((↑(strOf (cellOf (xs.getD i.toNat D.any) 1)).size : Int) > 200) then
 (44 = 44 ∧
 R X.ret [V.d (D.lit (Value.int IntKind.i64 4))] []) else
 (((decide (i > 0) && true) = true → (((0 : Int) ≤ IntKind.i64.wrap (i - 1)) ∧ ((IntKind.i64.wrap (i - 1)).toNat < xs.length ∧ D.agg
 [D.lit (Value.string (strOf (cellOf (xs.getD (IntKind.i64.wrap (i - 1)).toNat D.any) 0))),
 D.lit (Value.string (strOf (cellOf (xs.getD (IntKind.i64.wrap (i - 1)).toNat D.any) 1)))] =
 xs.getD (IntKind.i64.wrap (i - 1)).toNat D.any))) ∧
 (bif bif decide (i > 0) then
 Op.bytesLess (strOf (cellOf (xs.getD i.toNat D.any) 0)).toList
 (strOf (cellOf (xs.getD (IntKind.i64.wrap (i - 1)).toNat D.any) 0)).toList ||
 (strOf (cellOf (xs.getD i.toNat D.any) 0)).toList ==
 (strOf (cellOf (xs.getD (IntKind.i64.wrap (i - 1)).toNat D.any) 0)).toList
 else false then
 (44 = 44 ∧
 R X.ret [V.d (D.lit (Value.int IntKind.i64 9))] []) else
 (44 = 44 ∧
 R X.normal
 [V.d (D.slice b 2 xs), V.d (D.slice b 2 xs), V.d (D.lit (Value.int IntKind.i64 n)),
 V.d (D.lit (Value.int IntKind.i64 (IntKind.i64.wrap (i + 1))))]
 [])))))))) else
 (44 = 44 ∧
 R (X.exit 0) [V.any] [])) := by kernel_rfl
theorem w191 (xs : List D) (b : Bool) (p : V → Prop) : (evBodyT (Cn T213) T213 noCS 0 (spL [(8, S191)]) noHn 191 [V.d (D.slice b 2 xs)] Heap.empty fun v H => p (freezeR H v)) =
 (bif decide ((↑xs.length : Int) > 16) then
 p (V.d (D.lit (Value.int IntKind.i64 4))) else
 ((44 = 44 ∧ (b = b ∧ (xs = xs ∧ (((0 : Int) = 0) ∧ ((((↑xs.length : Int) : Int) = (↑xs.length : Int)) ∧ (xs.length ≤ 16 ∧ AllT 209 xs)))))) ∧
 (match search (labelErr xs) xs.length with
 | some y0 =>
 p (V.d (D.lit (Value.int IntKind.i64 y0)))
 | none => p (V.d (D.lit (Value.int IntKind.i64 0)))))) := by kernel_rfl
theorem w144 (s : ByteArray) (p : V → Prop) : (evBodyT (Cn T191) T191 noCS 0 noSp noHn 144 [lstr s] Heap.empty fun v H => p (freezeR H v)) =
 ((2 = 2 ∧ AllT 209 [D.agg [D.lit (Value.string s), D.lit (Value.string (ByteArray.mk (Array.mk [120])))]]) ∧
 p
 (V.d
 (D.lit
 (Value.bool
 (labelsE [D.agg [D.lit (Value.string s), D.lit (Value.string (ByteArray.mk (Array.mk [120])))]] == 0))))) := by kernel_rfl
theorem w143 (s : ByteArray) (p : V → Prop) : (evBodyT (Cn T144) T144 noCS 0 noSp noHn 143 [lstr s] Heap.empty fun v H => p (freezeR H v)) =
 p
 (V.d
 (D.lit
 (Value.bool
 (bif s.toList == (ByteArray.mk #[115, 116, 97, 116, 117, 115]).toList then true
 else s.toList == (ByteArray.mk #[100, 117, 114, 97, 116, 105, 111, 110]).toList)))) := by kernel_rfl
theorem w212 (s : ByteArray) (t : ByteArray) (p : V → Prop) : (evBodyT (Cn T143) T143 noCS 0 noSp noHn 212 [lstr s, lstr t] Heap.empty fun v H => p (freezeR H v)) =
 (((decide ((↑s.size : Int) ≥ (↑t.size : Int)) && true) = true → (((0 : Int) ≤ (↑t.size : Int)) ∧ (↑t.size : Int).toNat ≤ s.size)) ∧
 p
 (V.d
 (D.lit
 (Value.bool
 (bif decide ((↑s.size : Int) ≥ (↑t.size : Int)) then (s.extract 0 (↑t.size : Int).toNat).toList == t.toList
 else false))))) := by kernel_rfl
theorem w190 (s : ByteArray) (t : ByteArray) (p : V → Prop) : (evBodyT (Cn T212) T212 noCS 0 noSp noHn 190 [lstr s, lstr t] Heap.empty fun v H => p (freezeR H v)) =
 (True ∧
 (bif !prefixB s t then
 p (V.d (D.tup [D.lit (Value.string s), D.lit (Value.bool false)])) else
 ((((0 : Int) ≤ (↑t.size : Int)) ∧ (↑t.size : Int).toNat ≤ s.size) ∧
 p (V.d (D.tup [D.lit (Value.string (s.extract (↑t.size : Int).toNat s.size)), D.lit (Value.bool true)]))))) := by kernel_rfl
theorem w142 (s : ByteArray) (t : ByteArray) (p : V → Prop) : (evBodyT (Cn T190) T190 noCS 0 noSp noHn 142 [lstr s, lstr t] Heap.empty fun v H => p (freezeR H v)) =
 (True ∧
 p
 (V.d
 (D.tup
 [D.lit (Value.string (bif prefixB s t then s.extract t.size s.size else s)), D.lit (Value.bool (prefixB s t))]))) := by kernel_rfl
theorem ok191 : OkS (Cn T213) 0 (.loop l191) S191 := by
 refine okS_loop fun N vals bs K h => ?_
 simp only [S191] at h
 split at h
 case h_2 => exact h.elim
 rename_i b0 xs0 b xs n i
 obtain ⟨⟨rfl, hb, hx, rfl, rfl, h16, hall⟩, h⟩ := h
 subst hb hx
 refine search_loop (tab_fit base k213 noCS_valid) tab_has noSp_ok (hn := noHn) (adsI := []) (nsI := []) (nsX := []) rfl rfl xs.length
  (fun i => [.d (.slice b 2 xs), .d (.slice b 2 xs), lint xs.length, lint i]) (fun _ => []) (labelErr xs) (fun e => (.ret, [lint e], [])) (by simp) (.exit 0) [.any] [] (by simp) ?_ ?_ h
 ·
  intro i R hi hR
  refine keep (b191 xs i xs.length b R) ?_
  have e1 : decide ((i : Int) < xs.length) = true := by simp; omega
  have e2 : IntKind.i64.wrap ((i : Int) + 1) = ((i + 1 : Nat) : Int) := by rw [Go.IntWalk.i64_in _ (by omega)]; omega
  have e3 : 0 < i → IntKind.i64.wrap ((i : Int) - 1) = ((i - 1 : Nat) : Int) := fun h => by rw [Go.IntWalk.i64_in _ (by omega)]; omega
  rw [e1]
  simp only [Int.toNat_natCast, e2, cond_true]
  refine ⟨⟨by omega, hi, hall i hi⟩, trivial, ?_⟩
  refine cond_split (fun h1 => ⟨trivial, by simp only [labelErr, eqS, leS, h1, cond_true, cond_false, optE] at hR; exact hR⟩) (fun h1 => ?_)
  refine cond_split (fun h2 => ⟨trivial, by simp only [labelErr, eqS, leS, h1, h2, cond_true, cond_false, optE] at hR; exact hR⟩) (fun h2 => ?_)
  refine cond_split (fun h3 => ⟨trivial, by simp only [labelErr, eqS, leS, h1, h2, h3, cond_true, cond_false, optE] at hR; exact hR⟩) (fun h3 => ?_)
  refine ⟨fun h => ?_, ?_⟩
  ·
   have hz : 0 < i := by simp at h; omega
   rw [e3 hz]
   exact ⟨by omega, by omega, hall _ (by omega)⟩
  ·
   have hR' : optE (bif decide ((i : Int) > 0) && leS (strOf (cellOf (xs.getD i .any) 0)) (strOf (cellOf (xs.getD (i - 1) .any) 0)) then some 9 else none) (R X.normal [V.d (D.slice b 2 xs), V.d (D.slice b 2 xs), lint ↑xs.length, lint ↑(i + 1)] []) (fun e => R .ret [lint e] []) := by
    simp only [labelErr, eqS, h1, h2, h3, cond_true, cond_false] at hR; exact hR
   by_cases hz : 0 < i
   ·
    have e4 : decide ((i : Int) > 0) = true := by simp; omega
    rw [e4] at hR' ⊢
    rw [e3 hz]
    simp only [cond_true, Bool.true_and, Int.toNat_natCast] at hR' ⊢
    refine cond_split (fun h4 => ⟨trivial, ?_⟩) (fun h4 => ⟨trivial, ?_⟩)
    ·
     rw [show leS _ _ = true from h4] at hR'; exact hR'
    ·
     rw [show leS _ _ = false from h4] at hR'; exact hR'
   ·
    have e4 : decide ((i : Int) > 0) = false := by simp; omega
    rw [e4] at hR' ⊢
    exact ⟨trivial, hR'⟩
 ·
  intro R hR
  refine keep (b191 xs xs.length xs.length b R) ?_
  have e1 : decide ((xs.length : Int) < xs.length) = false := by simp
  rw [e1]
  exact ⟨rfl, hR⟩
theorem k191 : TabOk B T191 := by
 refine add_body base k213 (fn := Tryz.f191) (cd := bodyOf Tryz.f191) (sp := spL [(8, S191)]) (hn := noHn) Tryz.func191 (by kernel_rfl) (by kernel_rfl) (specT_cons (c := .loop l191) (by kernel_rfl) ok191 specT_nil) fun ds r hp hr => ?_
 unfold c191 at hp hr
 simp only [] at hr
 split at hr
 ·
  rename_i b z xs
  cases hr
  obtain ⟨rfl, hall⟩ := hp
  refine keep (w191 xs b fun v => v = _) ?_
  unfold labelsE errOf
  have e1 : decide ((xs.length : Int) > 16) = decide (16 < xs.length) := by simp; omega
  rw [e1]
  by_cases h : 16 < xs.length
  ·
   simp [h]
  ·
   simp only [h, decide_false, cond_false]
   refine ⟨⟨trivial, trivial, trivial, trivial, trivial, by omega, hall⟩, ?_⟩
   cases search (labelErr xs) xs.length <;> simp
 ·
  cases hr
theorem isName_labels (s : ByteArray) : (labelsE [.agg [.lit (.string s), .lit (.string (ByteArray.mk (Array.mk [120])))]] == 0) = isName s := by
 have h : labelErr [.agg [.lit (.string s), .lit (.string (ByteArray.mk (Array.mk [120])))]] 0 = bif !isName s then some 5 else none := by
  show (bif !isName s then some 5 else _) = _
  cases isName s <;> kernel_rfl
 show ((match search (labelErr _) 1 with | some e => e | none => 0) == 0) = _
 unfold search rounds
 simp only [h]
 cases isName s <;> rfl
theorem k144 : TabOk B T144 := by
 refine add_body base k191 (fn := Tryz.f144) (cd := bodyOf Tryz.f144) (sp := noSp) (hn := noHn) Tryz.func144 (by kernel_rfl) (by kernel_rfl) noSp_ok fun ds r hp hr => ?_
 unfold c144 at hr
 simp only [] at hr
 split at hr
 ·
  rename_i s
  cases hr
  refine keep (w144 s fun v => v = _) ?_
  rw [isName_labels]
  exact ⟨⟨rfl, fun i hi => by
   cases i with
   | zero => rfl
   | succ i => simp at hi⟩, rfl⟩
 ·
  cases hr
theorem k143 : TabOk B T143 := by
 refine add_body base k144 (fn := Tryz.f143) (cd := bodyOf Tryz.f143) (sp := noSp) (hn := noHn) Tryz.func143 (by kernel_rfl) (by kernel_rfl) noSp_ok fun ds r hp hr => ?_
 unfold c143 at hr
 simp only [] at hr
 split at hr
 ·
  rename_i s
  cases hr
  refine keep (w143 s fun v => v = _) ?_
  simp [numericB, eqS]
 ·
  cases hr
theorem k212 : TabOk B T212 := by
 refine add_body base k143 (fn := Tryz.f212) (cd := bodyOf Tryz.f212) (sp := noSp) (hn := noHn) Tryz.func212 (by kernel_rfl) (by kernel_rfl) noSp_ok fun ds r hp hr => ?_
 unfold c212 at hr
 simp only [] at hr
 split at hr
 ·
  rename_i s t
  cases hr
  refine keep (w212 s t fun v => v = _) ?_
  refine ⟨fun h => ⟨by omega, by simp at h; omega⟩, ?_⟩
  have e : decide ((s.size : Int) ≥ (t.size : Int)) = decide (t.size ≤ s.size) := by simp
  rw [e]
  simp [prefixB]
 ·
  cases hr
theorem k190 : TabOk B T190 := by
 refine add_body base k212 (fn := Tryz.f190) (cd := bodyOf Tryz.f190) (sp := noSp) (hn := noHn) Tryz.func190 (by kernel_rfl) (by kernel_rfl) noSp_ok fun ds r hp hr => ?_
 unfold c190 at hr
 simp only [] at hr
 split at hr
 ·
  rename_i s t
  cases hr
  refine keep (w190 s t fun v => v = _) ?_
  refine ⟨trivial, ?_⟩
  refine cond_split (fun h => ?_) (fun h => ?_)
  ·
   have : prefixB s t = false := by simpa using h
   rw [this]; rfl
  ·
   have hq : prefixB s t = true := by simpa using h
   have hle : t.size ≤ s.size := by unfold prefixB at hq; simp at hq; exact hq.1
   rw [hq]
   exact ⟨⟨by omega, by simp; exact hle⟩, by simp⟩
 ·
  cases hr
theorem k142 : TabOk B T142 := by
 refine add_body base k190 (fn := Tryz.f142) (cd := bodyOf Tryz.f142) (sp := noSp) (hn := noHn) Tryz.func142 (by kernel_rfl) (by kernel_rfl) noSp_ok fun ds r hp hr => ?_
 unfold c190 at hr
 simp only [] at hr
 split at hr
 ·
  rename_i s t
  cases hr
  refine keep (w142 s t fun v => v = _) ?_
  exact ⟨trivial, rfl⟩
 ·
  cases hr
def isDigitB (c : Int) : Bool := decide (48 ≤ c) && decide (c ≤ 57)
def isLetterB (c : Int) : Bool := (decide (97 ≤ c) && decide (c ≤ 122)) || (decide (65 ≤ c) && decide (c ≤ 90))
def c269 : Ct := ⟨fun _ => True, fun | [.lit (.int .u8 c)] => some (.lit (.bool (isDigitB c))) | _ => none⟩
def c271 : Ct := ⟨fun _ => True, fun | [.lit (.int .u8 c)] => some (.lit (.bool (isLetterB c))) | _ => none⟩
def c270 : Ct := ⟨fun _ => True, fun | [.lit (.int .u8 c)] => some (.lit (.bool (isLetterB c || isDigitB c || c == 95))) | _ => none⟩
def c260 : Ct := ⟨fun _ => True, fun | [.lit (.int .u8 c)] => some (.lit (.bool true)) | _ => none⟩
def T269 : Tab := T142.add 269 c269
def T271 : Tab := T269.add 271 c271
def T270 : Tab := T271.add 270 c270
def T260 : Tab := T270.add 260 c260
theorem w269 (c : Int) (p : V → Prop) : (evBodyT (Cn T142) T142 noCS 0 noSp noHn 269 [V.d (D.lit (Value.int IntKind.u8 c))] Heap.empty fun v H => p (freezeR H v)) =
 p (V.d (D.lit (Value.bool (bif decide (48 ≤ c) then decide (c ≤ 57) else false)))) := by kernel_rfl
theorem w271 (c : Int) (p : V → Prop) : (evBodyT (Cn T269) T269 noCS 0 noSp noHn 271 [V.d (D.lit (Value.int IntKind.u8 c))] Heap.empty fun v H => p (freezeR H v)) =
 p
 (V.d
 (D.lit
 (Value.bool
 (bif bif decide (97 ≤ c) then decide (c ≤ 122) else false then true
 else bif decide (65 ≤ c) then decide (c ≤ 90) else false)))) := by kernel_rfl
theorem w270 (c : Int) (p : V → Prop) : (evBodyT (Cn T271) T271 noCS 0 noSp noHn 270 [V.d (D.lit (Value.int IntKind.u8 c))] Heap.empty fun v H => p (freezeR H v)) =
 (True ∧
 (((!isLetterB c && true) = true → True) ∧
 p (V.d (D.lit (Value.bool (bif bif isLetterB c then true else isDigitB c then true else c == 95)))))) := by kernel_rfl
theorem w260 (c : Int) (p : V → Prop) : (evBodyT (Cn T270) T270 noCS 0 noSp noHn 260 [V.d (D.lit (Value.int IntKind.u8 c))] Heap.empty fun v H => p (freezeR H v)) =
 p (V.d (D.lit (Value.bool true))) := by kernel_rfl
abbrev psB (s : ByteArray) (i : Int) : Box := .cells 213 [lstr s, lint i]
def posP (bs : List Box) : Prop := match bs with
 | [.cells 213 [.d (.lit (.string s)), .d (.lit (.int .i64 i))]] => 0 ≤ i ∧ i ≤ s.size ∧ s.size ≤ 200
 | _ => False
def s231 : Sm := ⟨fun _ bs => posP bs, fun vals bs => match vals, bs with
 | [.ptr [0, 0] 0], [.cells 213 [.d (.lit (.string s)), .d (.lit (.int .i64 i))]] => some (i == s.size, (.d (.tup [.lit (.int .u8 0), .lit (.bool false)]), [psB s i], []), (.d (.tup [.lit (.int .u8 (byteAt s i.toNat)), .lit (.bool true)]), [psB s i], []))
 | _, _ => none⟩
def skipB (s : ByteArray) (i c : Int) : Bool := !(i == s.size) && byteAt s i.toNat == c
def s215 : Sm := ⟨fun _ bs => posP bs, fun vals bs => match vals, bs with
 | [.ptr [0, 0] 0, .d (.lit (.int .u8 c))], [.cells 213 [.d (.lit (.string s)), .d (.lit (.int .i64 i))]] => some (skipB s i c, (lbool true, [psB s (i + 1)], []), (lbool false, [psB s i], []))
 | _, _ => none⟩
abbrev plainBox (c : Int) : Box := .cells 239 [lint 0, lbool true, .d (.lit (.int .u8 c)), .d (.lit (.pointer none)), .d (.slice true 0 [])]
def s263 : Sm := ⟨fun _ _ => True, fun vals bs => match vals, bs with
 | [.d (.lit (.int .u8 c))], [] => one (.ptr [2] 0) [] [plainBox c]
 | _, _ => none⟩
def rangeB (s : ByteArray) (i : Int) : Bool := decide (i + 1 < s.size) && (byteAt s i.toNat == 45 && byteAt s (i + 1).toNat != 93)
def s267 : Sm := ⟨fun _ bs => posP bs, fun vals bs => match vals, bs with
 | [.ptr [0, 0] 0], [.cells 213 [.d (.lit (.string s)), .d (.lit (.int .i64 i))]] => one (lbool (rangeB s i)) [psB s i] []
 | _, _ => none⟩
def U231 : STab := noSm.add 231 s231
def U215 : STab := U231.add 215 s215
def U263 : STab := U215.add 263 s263
def U267 : STab := U263.add 267 s267
def e00 : List (List (Name × Name)) := [[([0,0],[0,0])]]
theorem w231 (s : ByteArray) (i : Int) (R : V → List Box → Prop) : (evBodyS (Cn T260) T260 (smCS noSm) 1 noSp noHn [] e00 231 [V.ptr [0, 0] 0] (smIn [psB s i]) R) =
 (bif i == (↑s.size : Int) then
 R (V.d (D.tup [D.lit (Value.int IntKind.u8 0), D.lit (Value.bool false)]))
 [Box.cells 213 [V.d (D.lit (Value.string s)), V.d (D.lit (Value.int IntKind.i64 i))]] else
 ((((0 : Int) ≤ i) ∧ i.toNat < s.size) ∧
 R (V.d (D.tup [D.lit (Value.int IntKind.u8 (byteAt s i.toNat)), D.lit (Value.bool true)]))
 [Box.cells 213 [V.d (D.lit (Value.string s)), V.d (D.lit (Value.int IntKind.i64 i))]])) := by kernel_rfl
theorem w215 (s : ByteArray) (i : Int) (c : Int) (R : V → List Box → Prop) : (evBodyS (Cn T260) T260 (smCS U231) 1 noSp noHn [] e00 215 [V.ptr [0, 0] 0, V.d (D.lit (Value.int IntKind.u8 c))]
  (smIn [psB s i]) R) =
  (((!i == (↑s.size : Int) && true) = true → (((0 : Int) ≤ i) ∧ i.toNat < s.size)) ∧
  (bif bif i == (↑s.size : Int) then true else byteAt s i.toNat != c then
   R (V.d (D.lit (Value.bool false))) [Box.cells 213 [V.d (D.lit (Value.string s)), V.d (D.lit (Value.int IntKind.i64 i))]] else
   R (V.d (D.lit (Value.bool true)))
  [Box.cells 213 [V.d (D.lit (Value.string s)), V.d (D.lit (Value.int IntKind.i64 (IntKind.i64.wrap (i + 1))))]])) := by kernel_rfl
theorem w263 (c : Int) (R : V → List Box → Prop) : (evBodyS (Cn T260) T260 (smCS U215) 0 noSp noHn [] [[([2], [7])]] 263 [V.d (D.lit (Value.int IntKind.u8 c))] (smIn []) R) =
 R (V.ptr [2] 0)
 [Box.cells 239
 [V.d (D.lit (Value.int IntKind.i64 0)), V.d (D.lit (Value.bool true)), V.d (D.lit (Value.int IntKind.u8 c)),
 V.d (D.lit (Value.pointer none)), V.d (D.slice true 0 [])]] := by kernel_rfl
theorem w267 (s : ByteArray) (i : Int) (R : V → List Box → Prop) : (evBodyS (Cn T260) T260 (smCS U263) 1 noSp noHn [] e00 267 [V.ptr [0, 0] 0] (smIn [psB s i]) R) =
 (((decide (IntKind.i64.wrap (i + 1) < (↑s.size : Int)) && true) = true → (((0 : Int) ≤ i) ∧ i.toNat < s.size)) ∧
 ((((bif decide (IntKind.i64.wrap (i + 1) < (↑s.size : Int)) then byteAt s i.toNat == 45 else false) && true) = true → (((0 : Int) ≤ IntKind.i64.wrap (i + 1)) ∧ (IntKind.i64.wrap (i + 1)).toNat < s.size)) ∧
 R
 (V.d
  (D.lit
   (Value.bool
    (bif bif decide (IntKind.i64.wrap (i + 1) < (↑s.size : Int)) then byteAt s i.toNat == 45 else false then
     byteAt s (IntKind.i64.wrap (i + 1)).toNat != 93
    else false))))
 [Box.cells 213 [V.d (D.lit (Value.string s)), V.d (D.lit (Value.int IntKind.i64 i))]])) := by kernel_rfl
theorem k269 : TabOk B T269 := by
 refine add_body base k142 (fn := Tryz.f269) (cd := bodyOf Tryz.f269) (sp := noSp) (hn := noHn) Tryz.func269 (by kernel_rfl) (by kernel_rfl) noSp_ok fun ds r hp hr => ?_
 unfold c269 at hr
 simp only [] at hr
 split at hr
 ·
  rename_i c
  cases hr
  exact keep (w269 c fun v => v = _) (by simp [isDigitB])
 ·
  cases hr
theorem k271 : TabOk B T271 := by
 refine add_body base k269 (fn := Tryz.f271) (cd := bodyOf Tryz.f271) (sp := noSp) (hn := noHn) Tryz.func271 (by kernel_rfl) (by kernel_rfl) noSp_ok fun ds r hp hr => ?_
 unfold c271 at hr
 simp only [] at hr
 split at hr
 ·
  rename_i c
  cases hr
  exact keep (w271 c fun v => v = _) (by simp [isLetterB])
 ·
  cases hr
theorem k270 : TabOk B T270 := by
 refine add_body base k271 (fn := Tryz.f270) (cd := bodyOf Tryz.f270) (sp := noSp) (hn := noHn) Tryz.func270 (by kernel_rfl) (by kernel_rfl) noSp_ok fun ds r hp hr => ?_
 unfold c270 at hr
 simp only [] at hr
 split at hr
 ·
  rename_i c
  cases hr
  exact keep (w270 c fun v => v = _) (by simp)
 ·
  cases hr
theorem k260 : TabOk B T260 := by
 refine add_body base k270 (fn := Tryz.f260) (cd := bodyOf Tryz.f260) (sp := noSp) (hn := noHn) Tryz.func260 (by kernel_rfl) (by kernel_rfl) noSp_ok fun ds r hp hr => ?_
 unfold c260 at hr
 simp only [] at hr
 split at hr
 ·
  rename_i c
  cases hr
  exact keep (w260 c fun v => v = _) rfl
 ·
  cases hr
theorem e00_ok : e00.all (fun ns => nmOf ns == inNames 1 ++ newNames ((nmOf ns).length - 1)) = true := by kernel_rfl
theorem wrap1 {i : Int} {s : ByteArray} (h0 : 0 ≤ i) (h1 : i ≤ s.size) (h2 : s.size ≤ 200) : IntKind.i64.wrap (i + 1) = i + 1 := by rw [Go.IntWalk.i64_in _ (by omega)]
theorem q231 : SmOk B U231 := by
 refine sm_add noSm_ok fun vals bs c x y hp hf => ?_
 unfold s231 at hp hf
 simp only [] at hp hf
 split at hf
 case h_2 => cases hf
 rename_i s i
 simp only [Option.some.injEq, Prod.mk.injEq] at hf
 obtain ⟨rfl, rfl, rfl⟩ := hf
 obtain ⟨h0, h1, h2⟩ := hp
 refine sm_bodyS base k260 noSm_ok (fn := Tryz.f231) (cd := bodyOf Tryz.f231) (sp := noSp) (hn := noHn) (k := 1) (ads := []) (ends := e00) Tryz.func231 (by kernel_rfl) (by kernel_rfl) (by kernel_rfl) e00_ok noSp_ok rfl (by cases (i == (s.size : Int)) <;> rfl) (keep (w231 s i _) ?_)
 refine cond_split (fun h => ?_) (fun h => ?_)
 ·
  rw [h]; exact ⟨rfl, rfl⟩
 ·
  have : i ≠ s.size := by simpa using h
  rw [h]; exact ⟨⟨h0, by omega⟩, rfl, rfl⟩
theorem q215 : SmOk B U215 := by
 refine sm_add q231 fun vals bs c x y hp hf => ?_
 unfold s215 at hp hf
 simp only [] at hp hf
 split at hf
 case h_2 => cases hf
 rename_i c s i
 simp only [Option.some.injEq, Prod.mk.injEq] at hf
 obtain ⟨rfl, rfl, rfl⟩ := hf
 obtain ⟨h0, h1, h2⟩ := hp
 refine sm_bodyS base k260 q231 (fn := Tryz.f215) (cd := bodyOf Tryz.f215) (sp := noSp) (hn := noHn) (k := 1) (ads := []) (ends := e00) Tryz.func215 (by kernel_rfl) (by kernel_rfl) (by kernel_rfl) e00_ok noSp_ok rfl (by cases skipB s i c <;> rfl) (keep (w215 s i c _) ?_)
 rw [wrap1 h0 h1 h2]
 refine ⟨fun h => ⟨h0, by simp at h; omega⟩, ?_⟩
 refine cond_split (fun h => ?_) (fun h => ?_)
 ·
  have : skipB s i c = false := by unfold skipB; revert h; cases (i == (s.size : Int)) <;> simp [bne]
  rw [this]; exact ⟨rfl, rfl⟩
 ·
  have : skipB s i c = true := by unfold skipB; revert h; cases (i == (s.size : Int)) <;> simp [bne]
  rw [this]; exact ⟨rfl, rfl⟩
theorem q263 : SmOk B U263 := by
 refine sm_add q215 fun vals bs c x y hp hf => ?_
 unfold s263 at hf
 simp only [] at hf
 split at hf
 case h_2 => cases hf
 rename_i c
 simp only [one, Option.some.injEq, Prod.mk.injEq] at hf
 obtain ⟨rfl, rfl, rfl⟩ := hf
 refine sm_bodyS base k260 q215 (fn := Tryz.f263) (cd := bodyOf Tryz.f263) (sp := noSp) (hn := noHn) (k := 0) (ads := []) (ends := [[([2],[7])]]) Tryz.func263 (by kernel_rfl) (by kernel_rfl) (by kernel_rfl) (by kernel_rfl) noSp_ok rfl rfl (keep (w263 c _) ⟨rfl, rfl⟩)
theorem q267 : SmOk B U267 := by
 refine sm_add q263 fun vals bs c x y hp hf => ?_
 unfold s267 at hp hf
 simp only [] at hp hf
 split at hf
 case h_2 => cases hf
 rename_i s i
 simp only [one, Option.some.injEq, Prod.mk.injEq] at hf
 obtain ⟨rfl, rfl, rfl⟩ := hf
 obtain ⟨h0, h1, h2⟩ := hp
 refine sm_bodyS base k260 q263 (fn := Tryz.f267) (cd := bodyOf Tryz.f267) (sp := noSp) (hn := noHn) (k := 1) (ads := []) (ends := e00) Tryz.func267 (by kernel_rfl) (by kernel_rfl) (by kernel_rfl) e00_ok noSp_ok rfl (by rfl) (keep (w267 s i _) ?_)
 rw [wrap1 h0 h1 h2]
 refine ⟨fun h => ⟨h0, ?_⟩, fun h => ⟨by omega, ?_⟩, congrArg (fun b => V.d (D.lit (Value.bool b))) ?_, rfl⟩
 ·
  have h := of_decide_eq_true (by simpa using h : decide (i + 1 < (s.size : Int)) = true)
  omega
 ·
  cases hd : decide (i + 1 < (s.size : Int)) with
  | true => have := of_decide_eq_true hd; omega
  | false => rw [hd] at h; simp at h
 ·
  unfold rangeB
  cases decide (i + 1 < (s.size : Int)) <;> cases (byteAt s i.toNat == 45) <;> rfl
def s268 : Sm := ⟨fun vals _ => match vals with | .d (.lit (.int .u8 c)) :: _ => 0 ≤ c ∧ c < 256 | _ => False, fun vals bs => match vals, bs with
 | [.d (.lit (.int .u8 c)), .ptr [0, 0] 0, .ptr [0, 1] 0], [.bools 289 256, .cells 4 [.d (.lit (.bool b))]] => one (.d .anyB) [.bools 289 256, .cells 4 [lbool b]] []
 | _, _ => none⟩
def U268 : STab := U267.add 268 s268
theorem w268 (c : Int) (b : Bool) (R : V → List Box → Prop) : (evBodyS (Cn T260) T260 (smCS U267) 2 noSp noHn [] [[([0, 0], [0, 0]), ([0, 1], [0, 1])]] 268
 [V.d (D.lit (Value.int IntKind.u8 c)), V.ptr [0, 0] 0, V.ptr [0, 1] 0]
 (smIn [Box.bools 289 256, Box.cells 4 [lbool b]]) R) =
 ((((0 : Int) ≤ c) ∧ c.toNat < 256) ∧
 (0 + c.toNat * 1 < 256 ∧
 R (V.d D.anyB) [Box.bools 289 256, Box.cells 4 [V.d (D.lit (Value.bool b))]])) := by kernel_rfl
noncomputable def l259 : Code := roundOf (pieceAt (bodyOf Tryz.f259) 6)
theorem b259_260 (i : Int) (R : X → List V → List Box → Prop) : (roundT (Cn T260) T260 (smCS U268) 0 noSp noHn l259 15 [0, 3, 5] [[5000]] [] [([5000], [5000])] [3] [([5000], [5000])]
 [V.fn (Fn.func 260) [] [], V.ptr [5000] 0, lint i] [Box.bools 289 256] R) =
 (bif decide (i < 256) then
 (True ∧
 ((((0 : Int) ≤ i) ∧ i.toNat < 256) ∧
 (0 + i.toNat * 1 < 256 ∧
 (15 = 15 ∧
 R X.normal [V.fn (Fn.func 260) [] [], V.ptr [5000] 0, V.d (D.lit (Value.int IntKind.i64 (IntKind.i64.wrap (i + 1))))]
 [Box.bools 289 256])))) else
 (15 = 15 ∧
 R (X.exit 0) [V.ptr [5000] 0] [Box.bools 289 256])) := by kernel_rfl
theorem b259_269 (i : Int) (R : X → List V → List Box → Prop) : (roundT (Cn T260) T260 (smCS U268) 0 noSp noHn l259 15 [0, 3, 5] [[5000]] [] [([5000], [5000])] [3] [([5000], [5000])]
 [V.fn (Fn.func 269) [] [], V.ptr [5000] 0, lint i] [Box.bools 289 256] R) =
 (bif decide (i < 256) then
 (True ∧
 ((((0 : Int) ≤ i) ∧ i.toNat < 256) ∧
 (0 + i.toNat * 1 < 256 ∧
 (15 = 15 ∧
 R X.normal [V.fn (Fn.func 269) [] [], V.ptr [5000] 0, V.d (D.lit (Value.int IntKind.i64 (IntKind.i64.wrap (i + 1))))]
 [Box.bools 289 256])))) else
 (15 = 15 ∧
 R (X.exit 0) [V.ptr [5000] 0] [Box.bools 289 256])) := by kernel_rfl
theorem b259_270 (i : Int) (R : X → List V → List Box → Prop) : (roundT (Cn T260) T260 (smCS U268) 0 noSp noHn l259 15 [0, 3, 5] [[5000]] [] [([5000], [5000])] [3] [([5000], [5000])]
 [V.fn (Fn.func 270) [] [], V.ptr [5000] 0, lint i] [Box.bools 289 256] R) =
 (bif decide (i < 256) then
 (True ∧
 ((((0 : Int) ≤ i) ∧ i.toNat < 256) ∧
 (0 + i.toNat * 1 < 256 ∧
 (15 = 15 ∧
 R X.normal [V.fn (Fn.func 270) [] [], V.ptr [5000] 0, V.d (D.lit (Value.int IntKind.i64 (IntKind.i64.wrap (i + 1))))]
 [Box.bools 289 256])))) else
 (15 = 15 ∧
 R (X.exit 0) [V.ptr [5000] 0] [Box.bools 289 256])) := by kernel_rfl
theorem b259_268 (i : Int) (b : Bool) (R : X → List V → List Box → Prop) : (roundT (Cn T260) T260 (smCS U268) 2 noSp noHn l259 15 [0, 3, 5] [[0, 0], [0, 1], [5000]] []
 [([0, 0], [0, 0]), ([0, 1], [0, 1]), ([5000], [5000])] [3] [([0, 0], [0, 0]), ([0, 1], [0, 1]), ([5000], [5000])]
 [V.fn (Fn.func 268) [] [V.ptr [0, 0] 0, V.ptr [0, 1] 0], V.ptr [5000] 0, lint i]
 [Box.bools 289 256, Box.cells 4 [lbool b], Box.bools 289 256] R) =
 (bif decide (i < 256) then
 (s268.pre [V.d (D.lit (Value.int IntKind.u8 (IntKind.u8.wrap i))), V.ptr [0, 0] 0, V.ptr [0, 1] 0]
 [Box.bools 289 256, Box.cells 4 [V.d (D.lit (Value.bool b))]] ∧
 ((((0 : Int) ≤ i) ∧ i.toNat < 256) ∧
 (0 + i.toNat * 1 < 256 ∧
 (15 = 15 ∧
 R X.normal
 [V.fn (Fn.func 268) [] [V.ptr [0, 0] 0, V.ptr [0, 1] 0], V.ptr [5000] 0,
 V.d (D.lit (Value.int IntKind.i64 (IntKind.i64.wrap (i + 1))))]
 [Box.bools 289 256, Box.cells 4 [V.d (D.lit (Value.bool b))], Box.bools 289 256])))) else
 (15 = 15 ∧
 R (X.exit 0) [V.ptr [5000] 0] [Box.bools 289 256, Box.cells 4 [V.d (D.lit (Value.bool b))], Box.bools 289 256])) := by kernel_rfl
def okFn (K : Nat) : Bool := K == 260 || (K == 269 || K == 270)
def S259 : Ev.Spec := { L := [0,3,5], ns := [([5000],[5])], ads := [.bools [5]], L' := [3], nm' := [[5000]], G := fun N vals bs k => match vals, bs with
 | [.fn (.func K) [] [], .ptr [5000] 0, .d (.lit (.int .i64 i))], [.bools 289 256] => (N = 15 ∧ i = 0 ∧ okFn K = true) ∧ k (.exit 0) [.ptr [5000] 0] [.bools 289 256]
 | _, _ => False }
def S259c : Ev.Spec := { L := [0,3,5], ns := [([0,0],[0,0]),([0,1],[0,1]),([5000],[5])], ads := [.bools [5]], L' := [3], nm' := [[0,0],[0,1],[5000]], G := fun N vals bs k => match vals, bs with
 | [.fn (.func 268) [] [.ptr [0,0] 0, .ptr [0,1] 0], .ptr [5000] 0, .d (.lit (.int .i64 i))], [.bools 289 256, .cells 4 [.d (.lit (.bool b))], .bools 289 256] => (N = 15 ∧ i = 0) ∧ k (.exit 0) [.ptr [5000] 0] [.bools 289 256, .cells 4 [lbool b], .bools 289 256]
 | _, _ => False }
def s259 : Sm := ⟨fun _ _ => True, fun vals bs => match vals, bs with
 | [.fn (.func K) [] []], [] => bif okFn K then one (.d .any) [] [] else none
 | [.fn (.func 268) [] [.ptr [0,0] 0, .ptr [0,1] 0]], [.bools 289 256, .cells 4 [.d (.lit (.bool b))]] => one (.d .any) [.bools 289 256, .cells 4 [lbool b]] []
 | _, _ => none⟩
def U259 : STab := U268.add 259 s259
theorem w259 (K : Nat) (R : V → List Box → Prop) : (evBodyS (Cn T260) T260 (smCS U268) 0 (spL [(6, S259)]) noHn [Ad.flat 2] [[]] 259 [V.fn (Fn.func K) [] []] (smIn []) R) =
 ((15 = 15 ∧ (((0 : Int) = 0) ∧ okFn K = true)) ∧
 R (V.d D.any) []) := by kernel_rfl
theorem w259c (b : Bool) (R : V → List Box → Prop) : (evBodyS (Cn T260) T260 (smCS U268) 2 (spL [(6, S259c)]) noHn [Ad.flat 2] [[([0, 0], [0, 0]), ([0, 1], [0, 1])]] 259
 [V.fn (Fn.func 268) [] [V.ptr [0, 0] 0, V.ptr [0, 1] 0]] (smIn [Box.bools 289 256, Box.cells 4 [lbool b]]) R) =
 ((15 = 15 ∧ ((0 : Int) = 0)) ∧
 R (V.d D.any) [Box.bools 289 256, Box.cells 4 [V.d (D.lit (Value.bool b))]]) := by kernel_rfl
theorem q268 : SmOk B U268 := by
 refine sm_add q267 fun vals bs c x y hp hf => ?_
 unfold s268 at hp hf
 simp only [] at hp hf
 split at hf
 case h_2 => cases hf
 rename_i c b
 simp only [one, Option.some.injEq, Prod.mk.injEq] at hf
 obtain ⟨rfl, rfl, rfl⟩ := hf
 obtain ⟨h0, h1⟩ := hp
 refine sm_bodyS base k260 q267 (fn := Tryz.f268) (cd := bodyOf Tryz.f268) (sp := noSp) (hn := noHn) (k := 2) (ads := []) (ends := [[([0,0],[0,0]),([0,1],[0,1])]]) Tryz.func268 (by kernel_rfl) (by kernel_rfl) (by kernel_rfl) (by kernel_rfl) noSp_ok rfl rfl (keep (w268 c b _) ?_)
 exact ⟨⟨h0, by omega⟩, by omega, rfl, rfl⟩
theorem u8_pos (i : Int) : 0 ≤ IntKind.u8.wrap i ∧ IntKind.u8.wrap i < 256 := by
 have h : IntKind.u8.wrap i = i % 256 := by rfl
 rw [h]; omega
theorem ok259 : OkS (Cn T260) 0 (.loop l259) S259 := by
 refine okS_loop fun N vals bs K h => ?_
 simp only [S259] at h
 split at h
 case h_2 => exact h.elim
 rename_i F i
 obtain ⟨⟨rfl, rfl, hF⟩, h⟩ := h
 have key : ∀ F : Nat, (∀ (i : Int) R, Kept (roundT (Cn T260) T260 (smCS U268) 0 noSp noHn l259 15 [0,3,5] [[5000]] [] [([5000],[5000])] [3] [([5000],[5000])] [.fn (.func F) [] [], .ptr [5000] 0, lint i] [.bools 289 256] R) ∨ ¬ (bif decide (i < 256) then (True ∧ ((((0 : Int) ≤ i) ∧ i.toNat < 256) ∧ (0 + i.toNat * 1 < 256 ∧ (15 = 15 ∧ R X.normal [V.fn (Fn.func F) [] [], V.ptr [5000] 0, lint (IntKind.i64.wrap (i + 1))] [Box.bools 289 256])))) else (15 = 15 ∧ R (X.exit 0) [V.ptr [5000] 0] [Box.bools 289 256]))) →
   LoopT (Cn T260) 0 l259 15 [0,3,5] [[5000]] [3] [[5000]] [.fn (.func F) [] [], .ptr [5000] 0, lint 0] [.bools 289 256] K := by
  intro F hb
  refine count_loop (sm_fit base k260 q268) tab_has noSp_ok (hn := noHn) (adsI := []) (nsI := [([5000],[5000])]) (nsX := [([5000],[5000])]) rfl rfl 256 (fun _ (_ : Unit) => True)
   (fun i _ => [.fn (.func F) [] [], .ptr [5000] 0, lint i]) (fun _ _ => [.bools 289 256]) (fun i _ => .inl ()) (.exit 0) (fun _ => [.ptr [5000] 0]) (fun _ => [.bools 289 256]) (by simp) ?_ ?_ 256 0 () rfl trivial ?_
  ·
   intro i a R hi _ hR
   refine (hb i R).resolve_right (fun hn => hn ?_)
   have e1 : decide ((i : Int) < 256) = true := by simp; omega
   have e2 : IntKind.i64.wrap ((i : Int) + 1) = ((i + 1 : Nat) : Int) := by rw [Go.IntWalk.i64_in _ (by omega)]; omega
   rw [e1, e2]
   exact ⟨trivial, ⟨by omega, by omega⟩, by omega, rfl, hR trivial⟩
  ·
   intro a R _ hR
   refine (hb 256 R).resolve_right (fun hn => hn ?_)
   exact ⟨rfl, hR⟩
  ·
   have : ∀ n i, rounds (β := X × List V × List Box) (fun (_ : Nat) (_ : Unit) => .inl ()) n i () = .inl () := by
    intro n
    induction n with
    | zero => intro i; rfl
    | succ n ih => intro i; exact ih (i + 1)
   rw [this]; exact h
 have alt : ∀ {a b : Prop}, a = b → Kept a ∨ ¬ b := fun {a b} e => by
  by_cases hb : b
  ·
   exact .inl (keep e hb)
  ·
   exact .inr hb
 unfold okFn at hF
 simp only [Bool.or_eq_true, beq_iff_eq] at hF
 rcases hF with rfl | rfl | rfl
 ·
  exact key 260 fun i R => alt (b259_260 i R)
 ·
  exact key 269 fun i R => alt (b259_269 i R)
 ·
  exact key 270 fun i R => alt (b259_270 i R)
theorem ok259c : OkS (Cn T260) 2 (.loop l259) S259c := by
 refine okS_loop fun N vals bs K h => ?_
 simp only [S259c] at h
 split at h
 case h_2 => exact h.elim
 rename_i i b
 obtain ⟨⟨rfl, rfl⟩, h⟩ := h
 refine count_loop (sm_fit base k260 q268) tab_has noSp_ok (hn := noHn) (adsI := []) (nsI := [([0,0],[0,0]),([0,1],[0,1]),([5000],[5000])]) (nsX := [([0,0],[0,0]),([0,1],[0,1]),([5000],[5000])]) rfl rfl 256 (fun _ (_ : Unit) => True)
   (fun i _ => [.fn (.func 268) [] [.ptr [0,0] 0, .ptr [0,1] 0], .ptr [5000] 0, lint i]) (fun _ _ => [.bools 289 256, .cells 4 [lbool b], .bools 289 256]) (fun i _ => .inl ()) (.exit 0) (fun _ => [.ptr [5000] 0]) (fun _ => [.bools 289 256, .cells 4 [lbool b], .bools 289 256]) (by simp) ?_ ?_ 256 0 () rfl trivial ?_
 ·
  intro i a R hi _ hR
  refine keep (b259_268 i b R) ?_
  have e1 : decide ((i : Int) < 256) = true := by simp; omega
  have e2 : IntKind.i64.wrap ((i : Int) + 1) = ((i + 1 : Nat) : Int) := by rw [Go.IntWalk.i64_in _ (by omega)]; omega
  rw [e1, e2]
  exact ⟨u8_pos i, ⟨by omega, by omega⟩, by omega, rfl, hR trivial⟩
 ·
  intro a R _ hR
  refine keep (b259_268 256 b R) ?_
  exact ⟨rfl, hR⟩
 ·
  have : ∀ n i, rounds (β := X × List V × List Box) (fun (_ : Nat) (_ : Unit) => .inl ()) n i () = .inl () := by
   intro n
   induction n with
   | zero => intro i; rfl
   | succ n ih => intro i; exact ih (i + 1)
  rw [this]; exact h
theorem q259 : SmOk B U259 := by
 refine sm_add q268 fun vals bs c x y hp hf => ?_
 unfold s259 at hf
 simp only [] at hf
 split at hf
 ·
  rename_i F
  cases hF : okFn F with
  | false => rw [hF] at hf; cases hf
  | true =>
   rw [hF] at hf
   simp only [one, cond_true, Option.some.injEq, Prod.mk.injEq] at hf
   obtain ⟨rfl, rfl, rfl⟩ := hf
   refine sm_bodyS base k260 q268 (fn := Tryz.f259) (cd := bodyOf Tryz.f259) (sp := spL [(6, S259)]) (hn := noHn) (k := 0) (ads := [.flat 2]) (ends := [[]]) Tryz.func259 (by kernel_rfl) (by kernel_rfl) (by kernel_rfl) (by kernel_rfl) (specT_cons (c := .loop l259) (by kernel_rfl) ok259 specT_nil) rfl rfl (keep (w259 F _) ?_)
   exact ⟨⟨rfl, rfl, hF⟩, rfl, rfl⟩
 ·
  rename_i b
  simp only [one, Option.some.injEq, Prod.mk.injEq] at hf
  obtain ⟨rfl, rfl, rfl⟩ := hf
  refine sm_bodyS base k260 q268 (fn := Tryz.f259) (cd := bodyOf Tryz.f259) (sp := spL [(6, S259c)]) (hn := noHn) (k := 2) (ads := [.flat 2]) (ends := [[([0,0],[0,0]),([0,1],[0,1])]]) Tryz.func259 (by kernel_rfl) (by kernel_rfl) (by kernel_rfl) (by kernel_rfl) (specT_cons (c := .loop l259) (by kernel_rfl) ok259c specT_nil) rfl rfl (keep (w259c b _) ?_)
  exact ⟨⟨rfl, rfl⟩, rfl, rfl⟩
 ·
  cases hf
abbrev escBox (plain : Bool) (c : Int) : Box := .cells 239 [lint 0, lbool plain, .d (.lit (.int .u8 c)), .d .any, .d (.slice true 0 [])]
def escPlain (c : Int) : Bool := !(c == 100 || c == 119)
def escChar (c : Int) : Int := bif c == 110 then 10 else bif c == 116 then 9 else bif c == 100 || c == 119 then 0 else c
def escOkC (c : Int) : Bool := c == 110 || (c == 116 || (c == 100 || (c == 119 || !(isLetterB c || isDigitB c))))
def escOk (s : ByteArray) (i : Int) : Bool := !(i == s.size) && escOkC (byteAt s i.toNat)
def escAt (s : ByteArray) (i : Int) : Int := bif i == s.size then i else i + 1
def s261 : Sm := ⟨fun _ bs => posP bs, fun vals bs => match vals, bs with
 | [.ptr [0, 0] 0], [.cells 213 [.d (.lit (.string s)), .d (.lit (.int .i64 i))]] => some (escOk s i, (.tup [.ptr [2] 0, lbool true], [psB s (i + 1)], [escBox (escPlain (byteAt s i.toNat)) (escChar (byteAt s i.toNat))]), (.d (.tup [.lit (.pointer none), .lit (.bool false)]), [psB s (escAt s i)], []))
 | _, _ => none⟩
def U261 : STab := U259.add 261 s261
def h261 : Nat → Option Hint := fun id => match id with
 | 6 => some { ads := [.flatC [25,2] 3] }
 | 8 => some { ads := [.flatC [29,2] 3] }
 | 10 => some { ads := [.flatC [35] 3] }
 | 12 => some { ads := [.flatC [41] 3] }
 | 15 => some { ads := [.flatC [50,2] 3] }
 | _ => none
def e261 : List (List (Name × Name)) := [[([0,0],[0,0]),([2],[25,2])], [([0,0],[0,0]),([2],[29,2])], [([0,0],[0,0]),([2],[35])], [([0,0],[0,0]),([2],[41])], [([0,0],[0,0]),([2],[50,2])], [([0,0],[0,0])]]
theorem w261 (s : ByteArray) (i : Int) (R : V → List Box → Prop) : (evBodyS (Cn T260) T260 (smCS U259) 1 noSp h261 [] e261 261 [V.ptr [0, 0] 0] (smIn [psB s i]) R) =
  (s231.pre [V.ptr [0, 0] 0] [Box.cells 213 [V.d (D.lit (Value.string s)), V.d (D.lit (Value.int IntKind.i64 i))]] ∧
  (bif i == (↑s.size : Int) then
   R (V.d (D.tup [D.lit (Value.pointer none), D.lit (Value.bool false)]))
  [Box.cells 213 [V.d (D.lit (Value.string s)), V.d (D.lit (Value.int IntKind.i64 i))]] else
   (bif byteAt s i.toNat == 110 then
    (s263.pre [V.d (D.lit (Value.int IntKind.u8 10))] [] ∧
    R (V.tup [V.ptr [2] 0, V.d (D.lit (Value.bool true))])
  [Box.cells 213 [V.d (D.lit (Value.string s)), V.d (D.lit (Value.int IntKind.i64 (IntKind.i64.wrap (i + 1))))],
    Box.cells 239
      [V.d (D.lit (Value.int IntKind.i64 0)), V.d (D.lit (Value.bool true)), V.d (D.lit (Value.int IntKind.u8 10)),
        V.d D.any, V.d (D.slice true 0 [])]]) else
    (bif byteAt s i.toNat == 116 then
     (s263.pre [V.d (D.lit (Value.int IntKind.u8 9))] [] ∧
     R (V.tup [V.ptr [2] 0, V.d (D.lit (Value.bool true))])
  [Box.cells 213 [V.d (D.lit (Value.string s)), V.d (D.lit (Value.int IntKind.i64 (IntKind.i64.wrap (i + 1))))],
    Box.cells 239
      [V.d (D.lit (Value.int IntKind.i64 0)), V.d (D.lit (Value.bool true)), V.d (D.lit (Value.int IntKind.u8 9)),
        V.d D.any, V.d (D.slice true 0 [])]]) else
     (bif byteAt s i.toNat == 100 then
      (s259.pre [V.fn (Fn.func 269) [] []] [] ∧
      R (V.tup [V.ptr [2] 0, V.d (D.lit (Value.bool true))])
  [Box.cells 213 [V.d (D.lit (Value.string s)), V.d (D.lit (Value.int IntKind.i64 (IntKind.i64.wrap (i + 1))))],
    Box.cells 239
      [V.d (D.lit (Value.int IntKind.i64 0)), V.d (D.lit (Value.bool false)), V.d (D.lit (Value.int IntKind.u8 0)),
        V.d D.any, V.d (D.slice true 0 [])]]) else
      (bif byteAt s i.toNat == 119 then
       (s259.pre [V.fn (Fn.func 270) [] []] [] ∧
       R (V.tup [V.ptr [2] 0, V.d (D.lit (Value.bool true))])
  [Box.cells 213 [V.d (D.lit (Value.string s)), V.d (D.lit (Value.int IntKind.i64 (IntKind.i64.wrap (i + 1))))],
    Box.cells 239
      [V.d (D.lit (Value.int IntKind.i64 0)), V.d (D.lit (Value.bool false)), V.d (D.lit (Value.int IntKind.u8 0)),
        V.d D.any, V.d (D.slice true 0 [])]]) else
       (True ∧
       (((!isLetterB (byteAt s i.toNat) && true) = true → True) ∧
       (bif bif isLetterB (byteAt s i.toNat) then true else isDigitB (byteAt s i.toNat) then
        R (V.d (D.tup [D.lit (Value.pointer none), D.lit (Value.bool false)]))
  [Box.cells 213 [V.d (D.lit (Value.string s)), V.d (D.lit (Value.int IntKind.i64 (IntKind.i64.wrap (i + 1))))]] else
        (s263.pre [V.d (D.lit (Value.int IntKind.u8 (byteAt s i.toNat)))] [] ∧
        R (V.tup [V.ptr [2] 0, V.d (D.lit (Value.bool true))])
  [Box.cells 213 [V.d (D.lit (Value.string s)), V.d (D.lit (Value.int IntKind.i64 (IntKind.i64.wrap (i + 1))))],
    Box.cells 239
      [V.d (D.lit (Value.int IntKind.i64 0)), V.d (D.lit (Value.bool true)),
        V.d (D.lit (Value.int IntKind.u8 (byteAt s i.toNat))), V.d D.any, V.d (D.slice true 0 [])]])))))))))) := by kernel_rfl
def itemOk (s : ByteArray) (i : Int) : Bool := !(i == s.size) && (!(byteAt s i.toNat == 93) && (byteAt s i.toNat != 92 || (escOk s (i + 1) && escPlain (byteAt s (i + 1).toNat))))
def itemC (s : ByteArray) (i : Int) : Int := bif byteAt s i.toNat != 92 then byteAt s i.toNat else escChar (byteAt s (i + 1).toNat)
def itemTo (s : ByteArray) (i : Int) : Int := bif byteAt s i.toNat != 92 then i + 1 else i + 1 + 1
def itemNo (s : ByteArray) (i : Int) : Int := bif i == s.size then i else bif byteAt s i.toNat == 93 then i else bif escOk s (i + 1) then i + 1 + 1 else escAt s (i + 1)
def s266 : Sm := ⟨fun _ bs => posP bs, fun vals bs => match vals, bs with
 | [.ptr [0, 0] 0], [.cells 213 [.d (.lit (.string s)), .d (.lit (.int .i64 i))]] => some (itemOk s i, (.d (.tup [.lit (.int .u8 (itemC s i)), .lit (.bool true)]), [psB s (itemTo s i)], []), (.d (.tup [.lit (.int .u8 0), .lit (.bool false)]), [psB s (itemNo s i)], []))
 | _, _ => none⟩
def U266 : STab := U261.add 266 s266
theorem w266 (s : ByteArray) (i : Int) (R : V → List Box → Prop) : (evBodyS (Cn T260) T260 (smCS U261) 1 noSp noHn [] e00 266 [V.ptr [0, 0] 0] (smIn [psB s i]) R) =
  (s231.pre [V.ptr [0, 0] 0] [Box.cells 213 [V.d (D.lit (Value.string s)), V.d (D.lit (Value.int IntKind.i64 i))]] ∧
  (bif i == (↑s.size : Int) then
   R (V.d (D.tup [D.lit (Value.int IntKind.u8 0), D.lit (Value.bool false)]))
  [Box.cells 213 [V.d (D.lit (Value.string s)), V.d (D.lit (Value.int IntKind.i64 i))]] else
   (bif bif false then true else byteAt s i.toNat == 93 then
    R (V.d (D.tup [D.lit (Value.int IntKind.u8 0), D.lit (Value.bool false)]))
  [Box.cells 213 [V.d (D.lit (Value.string s)), V.d (D.lit (Value.int IntKind.i64 i))]] else
    (bif byteAt s i.toNat != 92 then
     R (V.d (D.tup [D.lit (Value.int IntKind.u8 (byteAt s i.toNat)), D.lit (Value.bool true)]))
  [Box.cells 213 [V.d (D.lit (Value.string s)), V.d (D.lit (Value.int IntKind.i64 (IntKind.i64.wrap (i + 1))))]] else
     (s261.pre [V.ptr [0, 0] 0]
  [Box.cells 213 [V.d (D.lit (Value.string s)), V.d (D.lit (Value.int IntKind.i64 (IntKind.i64.wrap (i + 1))))]] ∧
     (bif escOk s (IntKind.i64.wrap (i + 1)) then
      (bif bif false then true else !escPlain (byteAt s (IntKind.i64.wrap (i + 1)).toNat) then
       R (V.d (D.tup [D.lit (Value.int IntKind.u8 0), D.lit (Value.bool false)]))
  [Box.cells 213 [V.d (D.lit (Value.string s)), V.d (D.lit (Value.int IntKind.i64 (IntKind.i64.wrap (i + 1) + 1)))]] else
       R
  (V.d
    (D.tup
      [D.lit (Value.int IntKind.u8 (escChar (byteAt s (IntKind.i64.wrap (i + 1)).toNat))), D.lit (Value.bool true)]))
  [Box.cells 213 [V.d (D.lit (Value.string s)), V.d (D.lit (Value.int IntKind.i64 (IntKind.i64.wrap (i + 1) + 1)))]]) else
      ((false = true → False) ∧
      ((false = true → False) ∧
      ((false = true → False) ∧
      ((false = true → False) ∧
      (true = true ∧
      R (V.d (D.tup [D.lit (Value.int IntKind.u8 0), D.lit (Value.bool false)]))
  [Box.cells 213
      [V.d (D.lit (Value.string s)), V.d (D.lit (Value.int IntKind.i64 (escAt s (IntKind.i64.wrap (i + 1)))))]]))))))))))) := by kernel_rfl
theorem q261 : SmOk B U261 := by
 refine sm_add q259 fun vals bs c x y hp hf => ?_
 unfold s261 at hp hf
 simp only [] at hp hf
 split at hf
 case h_2 => cases hf
 rename_i s i
 simp only [Option.some.injEq, Prod.mk.injEq] at hf
 obtain ⟨rfl, rfl, rfl⟩ := hf
 obtain ⟨h0, h1, h2⟩ := hp
 refine sm_bodyS base k260 q259 (fn := Tryz.f261) (cd := bodyOf Tryz.f261) (sp := noSp) (hn := h261) (k := 1) (ads := []) (ends := e261) Tryz.func261 (by kernel_rfl) (by kernel_rfl) (by kernel_rfl) (by kernel_rfl) noSp_ok rfl (by cases escOk s i <;> rfl) (keep (w261 s i _) ?_)
 rw [wrap1 h0 h1 h2]
 refine ⟨⟨h0, h1, h2⟩, ?_⟩
 refine cond_split (fun g1 => ?_) (fun g1 => ?_)
 ·
  have e : escOk s i = false := by simp [escOk, g1]
  have e2 : escAt s i = i := by simp [escAt, g1]
  rw [e, e2]; exact ⟨rfl, rfl⟩
 have ea : escAt s i = i + 1 := by simp [escAt, g1]
 refine cond_split (fun g2 => ?_) (fun g2 => ?_)
 ·
  have hc : byteAt s i.toNat = 110 := by simpa using g2
  have e : escOk s i = true := by simp [escOk, g1, escOkC, hc]
  rw [e, hc]; exact ⟨trivial, rfl, rfl⟩
 refine cond_split (fun g3 => ?_) (fun g3 => ?_)
 ·
  have hc : byteAt s i.toNat = 116 := by simpa using g3
  have e : escOk s i = true := by simp [escOk, g1, escOkC, hc]
  rw [e, hc]; exact ⟨trivial, rfl, rfl⟩
 refine cond_split (fun g4 => ?_) (fun g4 => ?_)
 ·
  have hc : byteAt s i.toNat = 100 := by simpa using g4
  have e : escOk s i = true := by simp [escOk, g1, escOkC, hc]
  rw [e, hc]; exact ⟨trivial, rfl, rfl⟩
 refine cond_split (fun g5 => ?_) (fun g5 => ?_)
 ·
  have hc : byteAt s i.toNat = 119 := by simpa using g5
  have e : escOk s i = true := by simp [escOk, g1, escOkC, hc]
  rw [e, hc]; exact ⟨trivial, rfl, rfl⟩
 refine ⟨trivial, fun _ => trivial, ?_⟩
 refine cond_split (fun g6 => ?_) (fun g6 => ?_)
 ·
  have e : escOk s i = false := by
   simp only [escOk, escOkC, g1, g2, g3, g4, g5]
   revert g6
   cases isLetterB (byteAt s i.toNat) <;> cases isDigitB (byteAt s i.toNat) <;> simp
  rw [e, ea]; exact ⟨rfl, rfl⟩
 ·
  have e : escOk s i = true := by
   simp only [escOk, escOkC, g1, g2, g3, g4, g5]
   revert g6
   cases isLetterB (byteAt s i.toNat) <;> cases isDigitB (byteAt s i.toNat) <;> simp
  have e2 : escPlain (byteAt s i.toNat) = true := by simp only [escPlain, g4, g5]; rfl
  have e3 : escChar (byteAt s i.toNat) = byteAt s i.toNat := by simp only [escChar, g2, g3, g4, g5]; rfl
  rw [e, e2, e3]; exact ⟨trivial, rfl, rfl⟩
theorem q266 : SmOk B U266 := by
 refine sm_add q261 fun vals bs c x y hp hf => ?_
 unfold s266 at hp hf
 simp only [] at hp hf
 split at hf
 case h_2 => cases hf
 rename_i s i
 simp only [Option.some.injEq, Prod.mk.injEq] at hf
 obtain ⟨rfl, rfl, rfl⟩ := hf
 obtain ⟨h0, h1, h2⟩ := hp
 refine sm_bodyS base k260 q261 (fn := Tryz.f266) (cd := bodyOf Tryz.f266) (sp := noSp) (hn := noHn) (k := 1) (ads := []) (ends := e00) Tryz.func266 (by kernel_rfl) (by kernel_rfl) (by kernel_rfl) e00_ok noSp_ok rfl (by cases itemOk s i <;> rfl) (keep (w266 s i _) ?_)
 rw [wrap1 h0 h1 h2]
 refine ⟨⟨h0, h1, h2⟩, ?_⟩
 refine cond_split (fun g1 => ?_) (fun g1 => ?_)
 ·
  have e : itemOk s i = false := by simp [itemOk, g1]
  have e2 : itemNo s i = i := by simp [itemNo, g1]
  rw [e, e2]; exact ⟨rfl, rfl⟩
 have hne : i ≠ s.size := by simpa using g1
 refine cond_split (fun g2 => ?_) (fun g2 => ?_)
 ·
  have e : itemOk s i = false := by simp only [itemOk, g1, cond_false] at g2 ⊢; rw [g2]; rfl
  have e2 : itemNo s i = i := by simp only [cond_false] at g2; simp only [itemNo, g1, g2, cond_false, cond_true]
  rw [e, e2]; exact ⟨rfl, rfl⟩
 simp only [cond_false] at g2
 refine cond_split (fun g3 => ?_) (fun g3 => ?_)
 ·
  have e : itemOk s i = true := by simp only [itemOk, g1, g2, g3]; rfl
  rw [e]; simp only [itemC, itemTo, g3]; exact ⟨rfl, rfl⟩
 refine ⟨⟨by omega, by omega, h2⟩, ?_⟩
 refine cond_split (fun g4 => ?_) (fun g4 => ?_)
 ·
  refine cond_split (fun g5 => ?_) (fun g5 => ?_)
  ·
   simp only [cond_false] at g5
   have g5 : escPlain (byteAt s (i + 1).toNat) = false := by simpa using g5
   have e : itemOk s i = false := by simp only [itemOk, g1, g2, g3, g4, g5]; rfl
   have e2 : itemNo s i = i + 1 + 1 := by simp only [itemNo, g1, g2, g4, cond_false, cond_true]
   rw [e, e2]; exact ⟨rfl, rfl⟩
  ·
   simp only [cond_false] at g5
   have g5 : escPlain (byteAt s (i + 1).toNat) = true := by simpa using g5
   have e : itemOk s i = true := by simp only [itemOk, g1, g2, g3, g4, g5]; rfl
   rw [e]; simp only [itemC, itemTo, g3]; exact ⟨rfl, rfl⟩
 ·
  have e : itemOk s i = false := by simp only [itemOk, g1, g2, g3, g4]; rfl
  have e2 : itemNo s i = escAt s (i + 1) := by simp only [itemNo, g1, g2, g4, cond_false]
  rw [e, e2]
  exact ⟨fun h => (by cases h), fun h => (by cases h), fun h => (by cases h), fun h => (by cases h), rfl, rfl, rfl⟩
abbrev nm3 : List (Name × Name) := [([0,0],[0,0]),([5000],[5000]),([5001],[5001])]
noncomputable def l258o : Code := roundOf (pieceAt (bodyOf Tryz.f258) 8)
noncomputable def pieceIn (c : Code) (a : Nat) : Code := match (specsOf true c).find? (fun p => p.1 == a) with | some p => p.2.2 | none => .skip
noncomputable def l258i : Code := roundOf (pieceIn l258o 32)
abbrev bx3 (s : ByteArray) (i : Int) (b : Bool) : List Box := [psB s i, .bools 289 256, .cells 4 [lbool b]]
abbrev pt3 : List V := [.ptr [0,0] 0, .ptr [5001] 0, .ptr [5000] 0]
theorem b258i (s : ByteArray) (i : Int) (l : Int) (c : Int) (b : Bool) (R : X → List V → List Box → Prop) : (roundT (Cn T260) T260 (smCS U266) 1 noSp noHn l258i 60 [0, 4, 5, 9, 10] [[0, 0], [5000], [5001]] [] nm3 [0, 4, 5] nm3
 [V.ptr [0, 0] 0, V.ptr [5001] 0, V.ptr [5000] 0, V.d (D.lit (Value.int IntKind.u8 l)), lint c] (bx3 s i b) R) =
 (bif decide (c ≤ IntKind.i64.wrap l) then
 ((((0 : Int) ≤ c) ∧ c.toNat < 256) ∧
 (0 + c.toNat * 1 < 256 ∧
 (60 = 60 ∧
 R X.normal
 [V.ptr [0, 0] 0, V.ptr [5001] 0, V.ptr [5000] 0, V.d (D.lit (Value.int IntKind.u8 l)),
 V.d (D.lit (Value.int IntKind.i64 (IntKind.i64.wrap (c + 1))))]
 [Box.cells 213 [V.d (D.lit (Value.string s)), V.d (D.lit (Value.int IntKind.i64 i))], Box.bools 289 256,
 Box.cells 4 [V.d (D.lit (Value.bool b))]]))) else
 (60 = 60 ∧
 R (X.exit 2) [V.ptr [0, 0] 0, V.ptr [5001] 0, V.ptr [5000] 0]
 [Box.cells 213 [V.d (D.lit (Value.string s)), V.d (D.lit (Value.int IntKind.i64 i))], Box.bools 289 256,
 Box.cells 4 [V.d (D.lit (Value.bool b))]])) := by kernel_rfl
def S258i : Ev.Spec := { L := [0,4,5,9,10], ns := nm3, L' := [0,4,5], nm' := [[0,0],[5000],[5001]], G := fun N vals bs k => match vals, bs with
 | [.ptr [0,0] 0, .ptr [5001] 0, .ptr [5000] 0, .d (.lit (.int .u8 l)), .d (.lit (.int .i64 c))], [.cells 213 [.d (.lit (.string s)), .d (.lit (.int .i64 i))], .bools 289 256, .cells 4 [.d (.lit (.bool b))]] => (N = 60 ∧ 0 ≤ c ∧ c < 256 ∧ 0 ≤ l ∧ l < 256) ∧ k (.exit 2) pt3 (bx3 s i b)
 | _, _ => False }
theorem b258o (s : ByteArray) (i : Int) (b : Bool) (e : Bool) (R : X → List V → List Box → Prop) : (roundT (Cn T260) T260 (smCS U266) 1 (spL [(32, S258i)]) noHn l258o 60 [0, 4, 5, 6] [[0, 0], [5000], [5001]] [] nm3
 [2, 3, 4, 5] nm3 [V.ptr [0, 0] 0, V.ptr [5001] 0, V.ptr [5000] 0, lbool e] (bx3 s i b) R) =
 (bif !e then
 (s266.pre [V.ptr [0, 0] 0] [Box.cells 213 [V.d (D.lit (Value.string s)), V.d (D.lit (Value.int IntKind.i64 i))]] ∧
 (bif itemOk s i then
 (s267.pre [V.ptr [0, 0] 0]
 [Box.cells 213 [V.d (D.lit (Value.string s)), V.d (D.lit (Value.int IntKind.i64 (itemTo s i)))]] ∧
 (bif rangeB s (itemTo s i) then
 (s266.pre [V.ptr [0, 0] 0]
 [Box.cells 213
 [V.d (D.lit (Value.string s)), V.d (D.lit (Value.int IntKind.i64 (IntKind.i64.wrap (itemTo s i + 1))))]] ∧
 (bif itemOk s (IntKind.i64.wrap (itemTo s i + 1)) then
 (bif bif false then true else decide (itemC s (IntKind.i64.wrap (itemTo s i + 1)) < itemC s i) then
 (60 = 60 ∧
 R X.ret [V.d (D.lit (Value.pointer none)), V.d (D.lit (Value.bool false)), V.ptr [5001] 0, V.ptr [5000] 0]
 [Box.cells 213
 [V.d (D.lit (Value.string s)),
 V.d (D.lit (Value.int IntKind.i64 (itemTo s (IntKind.i64.wrap (itemTo s i + 1)))))],
 Box.bools 289 256, Box.cells 4 [V.d (D.lit (Value.bool b))]]) else
 ((60 = 60 ∧ (((0 : Int) ≤ IntKind.i64.wrap (itemC s i)) ∧ (((IntKind.i64.wrap (itemC s i) : Int) < 256) ∧ (((0 : Int) ≤ itemC s (IntKind.i64.wrap (itemTo s i + 1))) ∧ ((itemC s (IntKind.i64.wrap (itemTo s i + 1)) : Int) < 256))))) ∧
 (s215.pre [V.ptr [0, 0] 0, V.d (D.lit (Value.int IntKind.u8 93))]
 [Box.cells 213
 [V.d (D.lit (Value.string s)),
 V.d (D.lit (Value.int IntKind.i64 (itemTo s (IntKind.i64.wrap (itemTo s i + 1)))))]] ∧
 (bif skipB s (itemTo s (IntKind.i64.wrap (itemTo s i + 1))) 93 then
 (60 = 60 ∧
 R X.normal [V.ptr [0, 0] 0, V.ptr [5001] 0, V.ptr [5000] 0, V.d (D.lit (Value.bool true))]
 [Box.cells 213
 [V.d (D.lit (Value.string s)),
 V.d (D.lit (Value.int IntKind.i64 (itemTo s (IntKind.i64.wrap (itemTo s i + 1)) + 1)))],
 Box.bools 289 256, Box.cells 4 [V.d (D.lit (Value.bool b))]]) else
 (60 = 60 ∧
 R X.normal [V.ptr [0, 0] 0, V.ptr [5001] 0, V.ptr [5000] 0, V.d (D.lit (Value.bool false))]
 [Box.cells 213
 [V.d (D.lit (Value.string s)),
 V.d (D.lit (Value.int IntKind.i64 (itemTo s (IntKind.i64.wrap (itemTo s i + 1)))))],
 Box.bools 289 256, Box.cells 4 [V.d (D.lit (Value.bool b))]]))))) else
 (60 = 60 ∧
 R X.ret [V.d (D.lit (Value.pointer none)), V.d (D.lit (Value.bool false)), V.ptr [5001] 0, V.ptr [5000] 0]
 [Box.cells 213
 [V.d (D.lit (Value.string s)),
 V.d (D.lit (Value.int IntKind.i64 (itemNo s (IntKind.i64.wrap (itemTo s i + 1)))))],
 Box.bools 289 256, Box.cells 4 [V.d (D.lit (Value.bool b))]]))) else
 ((60 = 60 ∧ (((0 : Int) ≤ IntKind.i64.wrap (itemC s i)) ∧ (((IntKind.i64.wrap (itemC s i) : Int) < 256) ∧ (((0 : Int) ≤ itemC s i) ∧ ((itemC s i : Int) < 256))))) ∧
 (s215.pre [V.ptr [0, 0] 0, V.d (D.lit (Value.int IntKind.u8 93))]
 [Box.cells 213 [V.d (D.lit (Value.string s)), V.d (D.lit (Value.int IntKind.i64 (itemTo s i)))]] ∧
 (bif skipB s (itemTo s i) 93 then
 (60 = 60 ∧
 R X.normal [V.ptr [0, 0] 0, V.ptr [5001] 0, V.ptr [5000] 0, V.d (D.lit (Value.bool true))]
 [Box.cells 213 [V.d (D.lit (Value.string s)), V.d (D.lit (Value.int IntKind.i64 (itemTo s i + 1)))],
 Box.bools 289 256, Box.cells 4 [V.d (D.lit (Value.bool b))]]) else
 (60 = 60 ∧
 R X.normal [V.ptr [0, 0] 0, V.ptr [5001] 0, V.ptr [5000] 0, V.d (D.lit (Value.bool false))]
 [Box.cells 213 [V.d (D.lit (Value.string s)), V.d (D.lit (Value.int IntKind.i64 (itemTo s i)))], Box.bools 289 256,
 Box.cells 4 [V.d (D.lit (Value.bool b))]])))))) else
 (60 = 60 ∧
 R X.ret [V.d (D.lit (Value.pointer none)), V.d (D.lit (Value.bool false)), V.ptr [5001] 0, V.ptr [5000] 0]
 [Box.cells 213 [V.d (D.lit (Value.string s)), V.d (D.lit (Value.int IntKind.i64 (itemNo s i)))], Box.bools 289 256,
 Box.cells 4 [V.d (D.lit (Value.bool b))]]))) else
 (60 = 60 ∧
 R (X.exit 0) [V.any, V.any, V.ptr [5001] 0, V.ptr [5000] 0]
 [Box.cells 213 [V.d (D.lit (Value.string s)), V.d (D.lit (Value.int IntKind.i64 i))], Box.bools 289 256,
 Box.cells 4 [V.d (D.lit (Value.bool b))]])) := by kernel_rfl
def brStep (s : ByteArray) (i : Int) : Bool × Int :=
 bif itemOk s i then
  (bif rangeB s (itemTo s i) then
   (bif itemOk s (itemTo s i + 1) then (!decide (itemC s (itemTo s i + 1) < itemC s i), itemTo s (itemTo s i + 1)) else (false, itemNo s (itemTo s i + 1)))
  else (true, itemTo s i))
 else (false, itemNo s i)
def brR (s : ByteArray) : Nat → Int → Bool × Int
 | 0, i => (false, i)
 | n + 1, i => bif (brStep s i).1 then (bif skipB s (brStep s i).2 93 then (true, (brStep s i).2 + 1) else brR s n (brStep s i).2) else (false, (brStep s i).2)
def brS (s : ByteArray) (i : Int) : Bool × Int := brR s 201 (bif skipB s i 94 then i + 1 else i)
def S258o : Ev.Spec := { L := [0,4,5,6], ns := [([0,0],[0,0]),([5000],[7]),([5001],[6])], ads := [.bools [7]], L' := [2,3,4,5], nm' := [[0,0],[5000],[5001]], G := fun N vals bs k => match vals, bs with
 | [.ptr [0,0] 0, .ptr [5001] 0, .ptr [5000] 0, .d (.lit (.bool false))], [.cells 213 [.d (.lit (.string s)), .d (.lit (.int .i64 i))], .bools 289 256, .cells 4 [.d (.lit (.bool b))]] => (N = 60 ∧ 0 ≤ i ∧ i ≤ s.size ∧ s.size ≤ 200) ∧
   (bif (brR s 201 i).1 then k (.exit 0) [.any, .any, .ptr [5001] 0, .ptr [5000] 0] (bx3 s (brR s 201 i).2 b) else k .ret [.d (.lit (.pointer none)), lbool false, .ptr [5001] 0, .ptr [5000] 0] (bx3 s (brR s 201 i).2 b))
 | _, _ => False }
def s258 : Sm := ⟨fun _ bs => posP bs, fun vals bs => match vals, bs with
 | [.ptr [0, 0] 0], [.cells 213 [.d (.lit (.string s)), .d (.lit (.int .i64 i))]] => one (.d (.tup [.any, .lit (.bool (brS s i).1)])) [psB s (brS s i).2] []
 | _, _ => none⟩
def U258 : STab := U266.add 258 s258
theorem w258 (s : ByteArray) (i : Int) (R : V → List Box → Prop) : (evBodyS (Cn T260) T260 (smCS U266) 1 (spL [(8, S258o)]) noHn [Ad.flat 2] e00 258 [V.ptr [0, 0] 0] (smIn [psB s i]) R) =
 (s215.pre [V.ptr [0, 0] 0, V.d (D.lit (Value.int IntKind.u8 94))]
 [Box.cells 213 [V.d (D.lit (Value.string s)), V.d (D.lit (Value.int IntKind.i64 i))]] ∧
 (bif skipB s i 94 then
 ((60 = 60 ∧ (((0 : Int) ≤ i + 1) ∧ (((i + 1 : Int) ≤ (↑s.size : Int)) ∧ s.size ≤ 200))) ∧
 (bif (brR s 201 (i + 1)).fst then
 (s259.pre [V.fn (Fn.func 268) [] [V.ptr [0, 0] 0, V.ptr [0, 1] 0]]
 [Box.bools 289 256, Box.cells 4 [V.d (D.lit (Value.bool true))]] ∧
 R (V.d (D.tup [D.any, D.lit (Value.bool true)]))
 [Box.cells 213 [V.d (D.lit (Value.string s)), V.d (D.lit (Value.int IntKind.i64 (brR s 201 (i + 1)).snd))]]) else
 R (V.d (D.tup [D.any, D.lit (Value.bool false)]))
 [Box.cells 213 [V.d (D.lit (Value.string s)), V.d (D.lit (Value.int IntKind.i64 (brR s 201 (i + 1)).snd))]])) else
 ((60 = 60 ∧ (((0 : Int) ≤ i) ∧ (((i : Int) ≤ (↑s.size : Int)) ∧ s.size ≤ 200))) ∧
 (bif (brR s 201 i).fst then
 (s259.pre [V.fn (Fn.func 268) [] [V.ptr [0, 0] 0, V.ptr [0, 1] 0]]
 [Box.bools 289 256, Box.cells 4 [V.d (D.lit (Value.bool false))]] ∧
 R (V.d (D.tup [D.any, D.lit (Value.bool true)]))
 [Box.cells 213 [V.d (D.lit (Value.string s)), V.d (D.lit (Value.int IntKind.i64 (brR s 201 i).snd))]]) else
 R (V.d (D.tup [D.any, D.lit (Value.bool false)]))
 [Box.cells 213 [V.d (D.lit (Value.string s)), V.d (D.lit (Value.int IntKind.i64 (brR s 201 i).snd))]])))) := by kernel_rfl
theorem byteAt_lt (s : ByteArray) (k : Nat) : 0 ≤ byteAt s k ∧ byteAt s k < 256 := by
 unfold byteAt
 have := (s.data.toList.getD k 0).toNat_lt
 omega
theorem escChar_lt {c : Int} (h : 0 ≤ c ∧ c < 256) : 0 ≤ escChar c ∧ escChar c < 256 := by
 unfold escChar
 cases (c == 110) <;> cases (c == 116) <;> cases (c == 100 || c == 119) <;> simp <;> omega
theorem itemC_lt (s : ByteArray) (i : Int) : 0 ≤ itemC s i ∧ itemC s i < 256 := by
 unfold itemC
 cases (byteAt s i.toNat != 92) with
 | true => exact byteAt_lt _ _
 | false => exact escChar_lt (byteAt_lt _ _)
theorem escOk_pos {s : ByteArray} {i : Int} (h : escOk s i = true) : i ≠ s.size := by
 unfold escOk at h
 simp at h; exact h.1
theorem escAt_pos {s : ByteArray} {i : Int} (h0 : 0 ≤ i) (h1 : i ≤ s.size) : 0 ≤ escAt s i ∧ escAt s i ≤ s.size := by
  unfold escAt
  cases h : (i == (s.size : Int)) with
  | true => simp; omega
  | false => have : i ≠ s.size := by simpa using h
             simp; omega
theorem itemOk_pos {s : ByteArray} {i : Int} (h : itemOk s i = true) (h0 : 0 ≤ i) (h1 : i ≤ s.size) : i < itemTo s i ∧ itemTo s i ≤ s.size := by
 unfold itemOk at h
 simp only [Bool.and_eq_true, Bool.not_eq_true'] at h
 have hne : i ≠ s.size := by simpa using h.1
 unfold itemTo
 cases hb : (byteAt s i.toNat != 92) with
 | true => simp; omega
 | false =>
  rw [hb] at h
  simp only [Bool.false_or, Bool.and_eq_true] at h
  have := escOk_pos h.2.2.1
  simp; omega
theorem itemNo_pos {s : ByteArray} {i : Int} (h0 : 0 ≤ i) (h1 : i ≤ s.size) : 0 ≤ itemNo s i ∧ itemNo s i ≤ s.size := by
 unfold itemNo
 cases h : (i == (s.size : Int)) with
 | true => simp; omega
 | false =>
  have hne : i ≠ s.size := by simpa using h
  cases (byteAt s i.toNat == 93) with
  | true => simp; omega
  | false =>
   cases h2 : escOk s (i + 1) with
   | true => have := escOk_pos h2; simp; omega
   | false => simpa using escAt_pos (by omega : 0 ≤ i + 1) (by omega)
theorem rangeB_pos {s : ByteArray} {i : Int} (h : rangeB s i = true) : i + 1 < s.size := by
 unfold rangeB at h
 simp only [Bool.and_eq_true, decide_eq_true_eq] at h
 exact h.1
theorem skipB_pos {s : ByteArray} {i c : Int} (h : skipB s i c = true) (h1 : i ≤ s.size) : i + 1 ≤ s.size := by
 unfold skipB at h
 simp only [Bool.and_eq_true, Bool.not_eq_true'] at h
 have hne : i ≠ s.size := by simpa using h.1
 omega
theorem brStep_pos {s : ByteArray} {i : Int} (h0 : 0 ≤ i) (h1 : i ≤ s.size) : 0 ≤ (brStep s i).2 ∧ (brStep s i).2 ≤ s.size ∧ ((brStep s i).1 = true → i < (brStep s i).2) := by
 unfold brStep
 cases h : itemOk s i with
 | false => have := itemNo_pos h0 h1; simp; omega
 | true =>
  have p1 := itemOk_pos h h0 h1
  simp only [cond_true]
  cases h2 : rangeB s (itemTo s i) with
  | false => simp; omega
  | true =>
   have p2 := rangeB_pos h2
   simp only [cond_true]
   cases h3 : itemOk s (itemTo s i + 1) with
   | false => have := itemNo_pos (s := s) (i := itemTo s i + 1) (by omega) (by omega); simp; omega
   | true => have := itemOk_pos h3 (by omega) (by omega); simp; omega
theorem itemNo_ge {s : ByteArray} {i : Int} (h0 : 0 ≤ i) (h1 : i ≤ s.size) : i ≤ itemNo s i := by
 unfold itemNo escAt
 cases (i == (s.size : Int)) <;> cases (byteAt s i.toNat == 93) <;> cases escOk s (i + 1) <;> cases (i + 1 == (s.size : Int)) <;> simp <;> omega
theorem brStep_ge {s : ByteArray} {i : Int} (h0 : 0 ≤ i) (h1 : i ≤ s.size) : i ≤ (brStep s i).2 := by
 unfold brStep
 cases h : itemOk s i with
 | false => simpa using itemNo_ge h0 h1
 | true =>
  have p1 := itemOk_pos h h0 h1
  simp only [cond_true]
  cases h2 : rangeB s (itemTo s i) with
  | false => simp; omega
  | true =>
   have p2 := rangeB_pos h2
   simp only [cond_true]
   cases h3 : itemOk s (itemTo s i + 1) with
   | false => have := itemNo_ge (s := s) (i := itemTo s i + 1) (by omega) (by omega); simp; omega
   | true => have := itemOk_pos h3 (by omega) (by omega); simp; omega
theorem brR_pos {s : ByteArray} : ∀ {n : Nat} {i : Int}, 0 ≤ i → i ≤ s.size → 0 ≤ (brR s n i).2 ∧ (brR s n i).2 ≤ s.size
 | 0, i, h0, h1 => ⟨h0, h1⟩
 | n + 1, i, h0, h1 => by
  have p := brStep_pos h0 h1
  unfold brR
  cases h : (brStep s i).1 with
  | false => simp; omega
  | true =>
   simp only [cond_true]
   cases h2 : skipB s (brStep s i).2 93 with
   | true => have := skipB_pos h2 p.2.1; simp; omega
   | false => simpa using brR_pos p.1 p.2.1
theorem brR_ge {s : ByteArray} {a : Int} : ∀ {n : Nat} {i : Int}, 0 ≤ i → i ≤ s.size → a ≤ i → a ≤ (brR s n i).2 ∧ (brR s n i).2 ≤ s.size
 | 0, i, h0, h1, h2 => ⟨h2, h1⟩
 | n + 1, i, h0, h1, h2 => by
  have p := brStep_pos h0 h1
  have p2 := brStep_ge h0 h1
  unfold brR
  cases h : (brStep s i).1 with
  | false => simp; omega
  | true =>
   simp only [cond_true]
   cases h3 : skipB s (brStep s i).2 93 with
   | true => have := skipB_pos h3 p.2.1; simp; omega
   | false => simpa using brR_ge p.1 p.2.1 (by omega)
theorem i64_small {i : Int} (h0 : 0 ≤ i) (h1 : i ≤ 1000) : IntKind.i64.wrap i = i := by rw [Go.IntWalk.i64_in _ (by omega)]
theorem ok258i : OkS (Cn T260) 1 (.loop l258i) S258i := by
 refine okS_loop fun N vals bs K h => ?_
 simp only [S258i] at h
 split at h
 case h_2 => exact h.elim
 rename_i l c s i b
 obtain ⟨⟨rfl, h0, h1, h2, h3⟩, h⟩ := h
 have key : ∀ (n : Nat) (c : Int), 0 ≤ c → c ≤ 256 → l + 1 - c ≤ n → LoopT (Cn T260) 1 l258i 60 [0,4,5,9,10] [[0,0],[5000],[5001]] [0,4,5] [[0,0],[5000],[5001]] [.ptr [0,0] 0, .ptr [5001] 0, .ptr [5000] 0, .d (.lit (.int .u8 l)), lint c] (bx3 s i b) K := by
  intro n
  induction n with
  | zero =>
   intro c c0 c1 cn
   refine loopT_step (sm_fit base k260 q266) tab_has noSp_ok (hn := noHn) (adsI := []) (nsI := nm3) (nsX := nm3) rfl rfl (keep (b258i s i l c b _) ?_)
   rw [i64_small h2 (by omega)]
   have e : decide (c ≤ l) = false := by simp; omega
   rw [e]; exact ⟨rfl, h⟩
  | succ n ih =>
   intro c c0 c1 cn
   refine loopT_step (sm_fit base k260 q266) tab_has noSp_ok (hn := noHn) (adsI := []) (nsI := nm3) (nsX := nm3) rfl rfl (keep (b258i s i l c b _) ?_)
   rw [i64_small h2 (by omega), i64_small (i := c + 1) (by omega) (by omega)]
   refine cond_split (fun g => ?_) (fun g => ⟨rfl, h⟩)
   have g := of_decide_eq_true g
   exact ⟨⟨c0, by omega⟩, by omega, rfl, ih (c + 1) (by omega) (by omega) (by omega)⟩
 exact key (l + 1 - c).toNat c h0 (by omega) (by omega)
theorem piece258i : ((specsOf true l258o).filter fun p => p.1 == 32).map (fun p => p.2.2) = [.loop l258i] := by kernel_rfl
theorem ok258o : OkS (Cn T260) 1 (.loop l258o) S258o := by
  refine okS_loop fun N vals bs K h => ?_
  simp only [S258o] at h
  split at h
  case h_2 => exact h.elim
  rename_i s i b
  obtain ⟨⟨rfl, h0, h1, h2⟩, h⟩ := h
  have sp : SpecT (Cn T260) 1 (spL [(32, S258i)]) (specsOf true l258o) := specT_cons piece258i ok258i specT_nil
  have fin : ∀ (j : Int), K (.exit 0) [.any, .any, .ptr [5001] 0, .ptr [5000] 0] (bx3 s j b) → LoopT (Cn T260) 1 l258o 60 [0,4,5,6] [[0,0],[5000],[5001]] [2,3,4,5] [[0,0],[5000],[5001]] [.ptr [0,0] 0, .ptr [5001] 0, .ptr [5000] 0, lbool true] (bx3 s j b) K := by
    intro j hj
    refine loopT_step (sm_fit base k260 q266) tab_has sp (hn := noHn) (adsI := []) (nsI := nm3) (nsX := nm3) rfl rfl (keep (b258o s j b true _) ?_)
    exact ⟨rfl, hj⟩
  have key : ∀ (n : Nat) (i : Int), 0 ≤ i → i ≤ s.size → s.size - i < n →
      (bif (brR s n i).1 then K (.exit 0) [.any, .any, .ptr [5001] 0, .ptr [5000] 0] (bx3 s (brR s n i).2 b) else K .ret [.d (.lit (.pointer none)), lbool false, .ptr [5001] 0, .ptr [5000] 0] (bx3 s (brR s n i).2 b)) →
      LoopT (Cn T260) 1 l258o 60 [0,4,5,6] [[0,0],[5000],[5001]] [2,3,4,5] [[0,0],[5000],[5001]] [.ptr [0,0] 0, .ptr [5001] 0, .ptr [5000] 0, lbool false] (bx3 s i b) K := by
    intro n
    induction n with
    | zero => intro i a0 a1 a2; omega
    | succ n ih =>
      intro i a0 a1 a2 hk
      have p := brStep_pos a0 a1
      unfold brR at hk
      refine loopT_step (sm_fit base k260 q266) tab_has sp (hn := noHn) (adsI := []) (nsI := nm3) (nsX := nm3) rfl rfl (keep (b258o s i b false _) ?_)
      have hc := itemC_lt s i
      -- what comes behind an item or a range
      have next : ∀ j : Int, brStep s i = (true, j) → (s215.pre [V.ptr [0, 0] 0, V.d (D.lit (Value.int IntKind.u8 93))] [psB s j] ∧
          (bif skipB s j 93 then (60 = 60 ∧ LoopT (Cn T260) 1 l258o 60 [0,4,5,6] [[0,0],[5000],[5001]] [2,3,4,5] [[0,0],[5000],[5001]] [.ptr [0,0] 0, .ptr [5001] 0, .ptr [5000] 0, lbool true] (bx3 s (j + 1) b) K)
           else (60 = 60 ∧ LoopT (Cn T260) 1 l258o 60 [0,4,5,6] [[0,0],[5000],[5001]] [2,3,4,5] [[0,0],[5000],[5001]] [.ptr [0,0] 0, .ptr [5001] 0, .ptr [5000] 0, lbool false] (bx3 s j b) K))) := by
        intro j hj
        rw [hj] at hk p
        simp only [cond_true] at hk
        refine ⟨⟨p.1, p.2.1, h2⟩, cond_split (fun g => ⟨rfl, fin _ ?_⟩) (fun g => ⟨rfl, ih j p.1 p.2.1 (by have := p.2.2 rfl; simp only [] at this; omega) ?_⟩)⟩
        · rw [g] at hk; exact hk
        · rw [g] at hk; exact hk
      have fail : ∀ j : Int, brStep s i = (false, j) → K .ret [.d (.lit (.pointer none)), lbool false, .ptr [5001] 0, .ptr [5000] 0] (bx3 s j b) := by
        intro j hj
        rw [hj] at hk
        exact hk
      refine ⟨⟨a0, a1, h2⟩, cond_split (fun g1 => ?_) (fun g1 => ⟨rfl, fail _ (by simp only [brStep, g1, cond_false])⟩)⟩
      have p1 := itemOk_pos g1 a0 a1
      refine ⟨⟨by omega, p1.2, h2⟩, cond_split (fun g2 => ?_) (fun g2 => ?_)⟩
      · have p2 := rangeB_pos g2
        rw [i64_small (i := itemTo s i + 1) (by omega) (by omega)]
        have hc2 := itemC_lt s (itemTo s i + 1)
        refine ⟨⟨by omega, by omega, h2⟩, cond_split (fun g3 => ?_) (fun g3 => ⟨rfl, fail _ (by simp only [brStep, g1, g2, g3, cond_true, cond_false])⟩)⟩
        refine cond_split (fun g4 => ⟨rfl, fail _ (by simp only [cond_false] at g4; simp only [brStep, g1, g2, g3, g4, cond_true, Bool.not_true])⟩) (fun g4 => ?_)
        rw [i64_small hc.1 (by omega)]
        exact ⟨⟨rfl, hc.1, hc.2, hc2.1, hc2.2⟩, next _ (by simp only [cond_false] at g4; simp only [brStep, g1, g2, g3, g4, cond_true, Bool.not_false])⟩
      · rw [i64_small hc.1 (by omega)]
        exact ⟨⟨rfl, hc.1, hc.2, hc.1, hc.2⟩, next _ (by simp only [brStep, g1, g2, cond_true, cond_false])⟩
  exact key 201 i h0 h1 (by omega) h
theorem q258 : SmOk B U258 := by
 refine sm_add q266 fun vals bs c x y hp hf => ?_
 unfold s258 at hp hf
 simp only [] at hp hf
 split at hf
 case h_2 => cases hf
 rename_i s i
 simp only [one, Option.some.injEq, Prod.mk.injEq] at hf
 obtain ⟨rfl, rfl, rfl⟩ := hf
 obtain ⟨h0, h1, h2⟩ := hp
 refine sm_bodyS base k260 q266 (fn := Tryz.f258) (cd := bodyOf Tryz.f258) (sp := spL [(8, S258o)]) (hn := noHn) (k := 1) (ads := [.flat 2]) (ends := e00) Tryz.func258 (by kernel_rfl) (by kernel_rfl) (by kernel_rfl) e00_ok (specT_cons (c := .loop l258o) (by kernel_rfl) ok258o specT_nil) rfl rfl (keep (w258 s i _) ?_)
 refine ⟨⟨h0, h1, h2⟩, cond_split (fun g => ?_) (fun g => ?_)⟩
 ·
  have e : brS s i = brR s 201 (i + 1) := by simp only [brS, g, cond_true]
  rw [e]
  refine ⟨⟨rfl, by omega, skipB_pos g h1, h2⟩, cond_split (fun g2 => ⟨trivial, ?_, rfl⟩) (fun g2 => ⟨?_, rfl⟩)⟩
  ·
   rw [g2]; rfl
  ·
   rw [g2]; rfl
 ·
  have e : brS s i = brR s 201 i := by simp only [brS, g, cond_false]
  rw [e]
  refine ⟨⟨rfl, h0, h1, h2⟩, cond_split (fun g2 => ⟨trivial, ?_, rfl⟩) (fun g2 => ⟨?_, rfl⟩)⟩
  ·
   rw [g2]; rfl
  ·
   rw [g2]; rfl
end Go.Ev.R2
end
section
namespace Go.Proofs
open Go.Shelf
def Tryz.lays137_ren : Go.Shelf.Ren := ⟨fun | 137 => 262 | 217 => 220 | 266 => 241 | n => n, fun | 9 => 9 | 5 => 5 | 3 => 3 | n => n, fun | n => n⟩
theorem Tryz.lays137 : Go.Proofs.Lays.n137 Tryz.prog Tryz.lays137_ren := {
 mixed := by kernel_rfl
 f137 := Tryz.func262.trans (congrArg some (by kernel_rfl))
 f217 := Tryz.func220.trans (congrArg some (by kernel_rfl))
 f266 := Tryz.func241.trans (congrArg some (by kernel_rfl))
 t3 := Tryz.underlying3
 a3 := Tryz.isAgg3
 z3 := Tryz.sizeOf3
 v3 := Tryz.zeroValue3
 t5 := Tryz.underlying5
 a5 := Tryz.isAgg5
 z5 := Tryz.sizeOf5
 v5 := Tryz.zeroValue5
 t9 := Tryz.underlying9
 a9 := Tryz.isAgg9
 z9 := Tryz.sizeOf9
 v9 := Tryz.zeroValue9 }
open Go.RowKit in
theorem Tryz.strings_IndexByte (s : ByteArray) (c : Int) (w : World) :
  Calls Tryz.prog 262 #[.string s, .int .u8 c] w fun e w' => e = .returned (.int .i64 (Lib.indexByte s.data.toList c.toNat.toUInt8)) ∧ w' = w := Any.strings_IndexByte Tryz.lays137 s c w
def Tryz.laysM171_ren : Go.Shelf.Ren := ⟨fun | 171 => 155 | 243 => 198 | 246 => 219 | 283 => 237 | 284 => 238 | 285 => 239 | 286 => 240 | 129 => 252 | 317 => 251 | 318 => 253 | 319 => 254 | 320 => 255 | 337 => 264 | 338 => 265 | n => n, fun | 3 => 3 | 9 => 9 | 2 => 2 | 4 => 4 | 171 => 262 | 0 => 0 | 53 => 218 | 37 => 71 | 5 => 5 | 173 => 265 | 212 => 278 | 51 => 204 | 20 => 20 | 213 => 279 | 46 => 245 | 232 => 290 | 233 => 291 | n => n, fun | 17 => 5 | 18 => 6 | 19 => 7 | n => n⟩
theorem Tryz.laysM171 : Go.Proofs.LaysM.n171 Tryz.prog Tryz.laysM171_ren := {
 mixed := by kernel_rfl
 f129 := Tryz.func252.trans (congrArg some (by kernel_rfl))
 f171 := Tryz.func155.trans (congrArg some (by kernel_rfl))
 f243 := Tryz.func198.trans (congrArg some (by kernel_rfl))
 f246 := Tryz.func219.trans (congrArg some (by kernel_rfl))
 f283 := Tryz.func237.trans (congrArg some (by kernel_rfl))
 f284 := Tryz.func238.trans (congrArg some (by kernel_rfl))
 f285 := Tryz.func239.trans (congrArg some (by kernel_rfl))
 f286 := Tryz.func240.trans (congrArg some (by kernel_rfl))
 f317 := Tryz.func251.trans (congrArg some (by kernel_rfl))
 f318 := Tryz.func253.trans (congrArg some (by kernel_rfl))
 f319 := Tryz.func254.trans (congrArg some (by kernel_rfl))
 f320 := Tryz.func255.trans (congrArg some (by kernel_rfl))
 f337 := Tryz.func264.trans (congrArg some (by kernel_rfl))
 f338 := Tryz.func265.trans (congrArg some (by kernel_rfl))
 t0 := Tryz.underlying0
 a0 := Tryz.isAgg0
 z0 := Tryz.sizeOf0
 v0 := Tryz.zeroValue0
 t2 := Tryz.underlying2
 a2 := Tryz.isAgg2
 z2 := Tryz.sizeOf2
 v2 := Tryz.zeroValue2
 t3 := Tryz.underlying3
 a3 := Tryz.isAgg3
 z3 := Tryz.sizeOf3
 v3 := Tryz.zeroValue3
 t4 := Tryz.underlying4
 a4 := Tryz.isAgg4
 z4 := Tryz.sizeOf4
 v4 := Tryz.zeroValue4
 t5 := Tryz.underlying5
 a5 := Tryz.isAgg5
 z5 := Tryz.sizeOf5
 v5 := Tryz.zeroValue5
 t9 := Tryz.underlying9
 a9 := Tryz.isAgg9
 z9 := Tryz.sizeOf9
 v9 := Tryz.zeroValue9
 t20 := Tryz.underlying20
 a20 := Tryz.isAgg20
 z20 := Tryz.sizeOf20
 v20 := Tryz.zeroValue20
 t37 := Tryz.underlying71
 a37 := Tryz.isAgg71
 z37 := Tryz.sizeOf71
 v37 := Tryz.zeroValue71
 t46 := Tryz.underlying245
 a46 := Tryz.isAgg245
 z46 := Tryz.sizeOf245
 v46 := Tryz.zeroValue245
 t51 := Tryz.underlying204
 a51 := Tryz.isAgg204
 z51 := Tryz.sizeOf204
 v51 := Tryz.zeroValue204
 t53 := Tryz.underlying218
 a53 := Tryz.isAgg218
 z53 := Tryz.sizeOf218
 v53 := Tryz.zeroValue218
 t171 := Tryz.underlying262
 a171 := Tryz.isAgg262
 z171 := Tryz.sizeOf262
 v171 := Tryz.zeroValue262
 t173 := Tryz.underlying265
 a173 := Tryz.isAgg265
 z173 := Tryz.sizeOf265
 v173 := Tryz.zeroValue265
 t212 := Tryz.underlying278
 a212 := Tryz.isAgg278
 z212 := Tryz.sizeOf278
 v212 := Tryz.zeroValue278
 t213 := Tryz.underlying279
 a213 := Tryz.isAgg279
 z213 := Tryz.sizeOf279
 t232 := Tryz.underlying290
 a232 := Tryz.isAgg290
 z232 := Tryz.sizeOf290
 v232 := Tryz.zeroValue290
 t233 := Tryz.underlying291
 a233 := Tryz.isAgg291
 z233 := Tryz.sizeOf291
 v233 := Tryz.zeroValue291
 g17 := by kernel_rfl
 g18 := by kernel_rfl
 g19 := by kernel_rfl
 i0 := by kernel_rfl
 i2 := by kernel_rfl
 i3 := by kernel_rfl
 i4 := by kernel_rfl
 i5 := by kernel_rfl
 i9 := by kernel_rfl
 i20 := by kernel_rfl
 i37 := by kernel_rfl
 i46 := by kernel_rfl
 i51 := by kernel_rfl
 i53 := by kernel_rfl
 i171 := by kernel_rfl
 i173 := by kernel_rfl
 i212 := by kernel_rfl
 i232 := by kernel_rfl
 i233 := by kernel_rfl
 m17 := by kernel_rfl
 m18 := by kernel_rfl
 m19 := by kernel_rfl }
open Go.RowKit Go.Sort Go.Lib in
theorem Tryz.strconv_Itoa (n : Int) (h0 : -9223372036854775808 ≤ n) (h1 : n ≤ 9223372036854775807) (w : World) (htab : Lib.TabIs Tryz.prog w "internal/strconv.uint64pow10" .u64 Lib.pow10Tab) :
  Calls Tryz.prog 155 #[.int .i64 n] w fun e w' => e = .returned (.string ⟨(Lib.itoa n).toArray⟩) ∧ ∃ k os, w' = grow (w.drewN k) os := Any.strconv_Itoa Tryz.laysM171 n h0 h1 w htab
def Tryz.laysC172_ren : Go.Shelf.Ren := ⟨fun | 172 => 183 | 244 => 207 | 245 => 208 | 247 => 225 | 279 => 226 | 280 => 227 | 281 => 228 | 282 => 229 | 287 => 244 | 316 => 245 | 171 => 155 | 205 => 246 | 321 => 256 | 322 => 257 | 243 => 198 | 246 => 219 | 283 => 237 | 284 => 238 | 285 => 239 | 286 => 240 | 129 => 252 | 317 => 251 | 318 => 253 | 319 => 254 | 320 => 255 | 337 => 264 | 338 => 265 | n => n, fun | 9 => 9 | 3 => 3 | 75 => 180 | 76 => 182 | 4 => 4 | 5 => 5 | 167 => 248 | 37 => 71 | 0 => 0 | 85 => 249 | 2 => 2 | 168 => 251 | 53 => 218 | 175 => 269 | 46 => 245 | 210 => 272 | 127 => 124 | 145 => 285 | 143 => 283 | 21 => 21 | 171 => 262 | 173 => 265 | 212 => 278 | 51 => 204 | 20 => 20 | 213 => 279 | 232 => 290 | 233 => 291 | 80 => 77 | n => n, fun | 15 => 3 | 16 => 4 | 17 => 5 | 18 => 6 | 19 => 7 | n => n⟩
theorem Tryz.laysC172 : Go.Proofs.LaysC.n172 Tryz.prog Tryz.laysC172_ren := {
 mixed := by kernel_rfl
 f129 := Tryz.func252.trans (congrArg some (by kernel_rfl))
 f171 := Tryz.func155.trans (congrArg some (by kernel_rfl))
 f172 := Tryz.func183.trans (congrArg some (by kernel_rfl))
 f205 := Tryz.func246.trans (congrArg some (by kernel_rfl))
 f243 := Tryz.func198.trans (congrArg some (by kernel_rfl))
 f244 := Tryz.func207.trans (congrArg some (by kernel_rfl))
 f245 := Tryz.func208.trans (congrArg some (by kernel_rfl))
 f246 := Tryz.func219.trans (congrArg some (by kernel_rfl))
 f247 := Tryz.func225.trans (congrArg some (by kernel_rfl))
 f279 := Tryz.func226.trans (congrArg some (by kernel_rfl))
 f280 := Tryz.func227.trans (congrArg some (by kernel_rfl))
 f281 := Tryz.func228.trans (congrArg some (by kernel_rfl))
 f282 := Tryz.func229.trans (congrArg some (by kernel_rfl))
 f283 := Tryz.func237.trans (congrArg some (by kernel_rfl))
 f284 := Tryz.func238.trans (congrArg some (by kernel_rfl))
 f285 := Tryz.func239.trans (congrArg some (by kernel_rfl))
 f286 := Tryz.func240.trans (congrArg some (by kernel_rfl))
 f287 := Tryz.func244.trans (congrArg some (by kernel_rfl))
 f316 := Tryz.func245.trans (congrArg some (by kernel_rfl))
 f317 := Tryz.func251.trans (congrArg some (by kernel_rfl))
 f318 := Tryz.func253.trans (congrArg some (by kernel_rfl))
 f319 := Tryz.func254.trans (congrArg some (by kernel_rfl))
 f320 := Tryz.func255.trans (congrArg some (by kernel_rfl))
 f321 := Tryz.func256.trans (congrArg some (by kernel_rfl))
 f322 := Tryz.func257.trans (congrArg some (by kernel_rfl))
 f337 := Tryz.func264.trans (congrArg some (by kernel_rfl))
 f338 := Tryz.func265.trans (congrArg some (by kernel_rfl))
 t0 := Tryz.underlying0
 a0 := Tryz.isAgg0
 z0 := Tryz.sizeOf0
 v0 := Tryz.zeroValue0
 t2 := Tryz.underlying2
 a2 := Tryz.isAgg2
 z2 := Tryz.sizeOf2
 v2 := Tryz.zeroValue2
 t3 := Tryz.underlying3
 a3 := Tryz.isAgg3
 z3 := Tryz.sizeOf3
 v3 := Tryz.zeroValue3
 t4 := Tryz.underlying4
 a4 := Tryz.isAgg4
 z4 := Tryz.sizeOf4
 v4 := Tryz.zeroValue4
 t5 := Tryz.underlying5
 a5 := Tryz.isAgg5
 z5 := Tryz.sizeOf5
 v5 := Tryz.zeroValue5
 t9 := Tryz.underlying9
 a9 := Tryz.isAgg9
 z9 := Tryz.sizeOf9
 v9 := Tryz.zeroValue9
 t20 := Tryz.underlying20
 a20 := Tryz.isAgg20
 z20 := Tryz.sizeOf20
 v20 := Tryz.zeroValue20
 t21 := Tryz.underlying21
 a21 := Tryz.isAgg21
 z21 := Tryz.sizeOf21
 v21 := Tryz.zeroValue21
 t37 := Tryz.underlying71
 a37 := Tryz.isAgg71
 z37 := Tryz.sizeOf71
 v37 := Tryz.zeroValue71
 t46 := Tryz.underlying245
 a46 := Tryz.isAgg245
 z46 := Tryz.sizeOf245
 v46 := Tryz.zeroValue245
 t51 := Tryz.underlying204
 a51 := Tryz.isAgg204
 z51 := Tryz.sizeOf204
 v51 := Tryz.zeroValue204
 t53 := Tryz.underlying218
 a53 := Tryz.isAgg218
 z53 := Tryz.sizeOf218
 v53 := Tryz.zeroValue218
 t75 := Tryz.underlying180
 a75 := Tryz.isAgg180
 z75 := Tryz.sizeOf180
 v75 := Tryz.zeroValue180
 t76 := Tryz.underlying182
 a76 := Tryz.isAgg182
 z76 := Tryz.sizeOf182
 v76 := Tryz.zeroValue182
 t85 := Tryz.underlying249
 a85 := Tryz.isAgg249
 z85 := Tryz.sizeOf249
 v85 := Tryz.zeroValue249
 t127 := Tryz.underlying124
 a127 := Tryz.isAgg124
 z127 := Tryz.sizeOf124
 v127 := Tryz.zeroValue124
 t143 := Tryz.underlying283
 a143 := Tryz.isAgg283
 z143 := Tryz.sizeOf283
 v143 := Tryz.zeroValue283
 t145 := Tryz.underlying285
 a145 := Tryz.isAgg285
 z145 := Tryz.sizeOf285
 v145 := Tryz.zeroValue285
 t167 := Tryz.underlying248
 a167 := Tryz.isAgg248
 z167 := Tryz.sizeOf248
 v167 := Tryz.zeroValue248
 t168 := Tryz.underlying251
 a168 := Tryz.isAgg251
 z168 := Tryz.sizeOf251
 v168 := Tryz.zeroValue251
 t171 := Tryz.underlying262
 a171 := Tryz.isAgg262
 z171 := Tryz.sizeOf262
 v171 := Tryz.zeroValue262
 t173 := Tryz.underlying265
 a173 := Tryz.isAgg265
 z173 := Tryz.sizeOf265
 v173 := Tryz.zeroValue265
 t175 := Tryz.underlying269
 a175 := Tryz.isAgg269
 z175 := Tryz.sizeOf269
 v175 := Tryz.zeroValue269
 t210 := Tryz.underlying272
 a210 := Tryz.isAgg272
 z210 := Tryz.sizeOf272
 v210 := Tryz.zeroValue272
 t212 := Tryz.underlying278
 a212 := Tryz.isAgg278
 z212 := Tryz.sizeOf278
 v212 := Tryz.zeroValue278
 t213 := Tryz.underlying279
 a213 := Tryz.isAgg279
 z213 := Tryz.sizeOf279
 t232 := Tryz.underlying290
 a232 := Tryz.isAgg290
 z232 := Tryz.sizeOf290
 v232 := Tryz.zeroValue290
 t233 := Tryz.underlying291
 a233 := Tryz.isAgg291
 z233 := Tryz.sizeOf291
 v233 := Tryz.zeroValue291
 g15 := by kernel_rfl
 g16 := by kernel_rfl
 g17 := by kernel_rfl
 g18 := by kernel_rfl
 g19 := by kernel_rfl
 t80 := Tryz.underlying77
 a80 := Tryz.isAgg77
 z80 := Tryz.sizeOf77
 v80 := Tryz.zeroValue77
 i0 := by kernel_rfl
 i2 := by kernel_rfl
 i3 := by kernel_rfl
 i4 := by kernel_rfl
 i5 := by kernel_rfl
 i9 := by kernel_rfl
 i20 := by kernel_rfl
 i21 := by kernel_rfl
 i37 := by kernel_rfl
 i46 := by kernel_rfl
 i51 := by kernel_rfl
 i53 := by kernel_rfl
 i75 := by kernel_rfl
 i76 := by kernel_rfl
 i80 := by kernel_rfl
 i85 := by kernel_rfl
 i127 := by kernel_rfl
 i143 := by kernel_rfl
 i145 := by kernel_rfl
 i167 := by kernel_rfl
 i168 := by kernel_rfl
 i171 := by kernel_rfl
 i173 := by kernel_rfl
 i175 := by kernel_rfl
 i210 := by kernel_rfl
 i212 := by kernel_rfl
 i232 := by kernel_rfl
 i233 := by kernel_rfl
 m15 := by kernel_rfl
 m16 := by kernel_rfl
 m17 := by kernel_rfl
 m18 := by kernel_rfl
 m19 := by kernel_rfl
 c0 := by kernel_rfl
 c2 := by kernel_rfl
 c3 := by kernel_rfl
 c4 := by kernel_rfl
 c5 := by kernel_rfl
 c9 := by kernel_rfl
 c20 := by kernel_rfl
 c21 := by kernel_rfl
 c37 := by kernel_rfl
 c46 := by kernel_rfl
 c51 := by kernel_rfl
 c53 := by kernel_rfl
 c75 := by kernel_rfl
 c76 := by kernel_rfl
 c80 := by kernel_rfl
 c85 := by kernel_rfl
 c127 := by kernel_rfl
 c143 := by kernel_rfl
 c145 := by kernel_rfl
 c167 := by kernel_rfl
 c168 := by kernel_rfl
 c171 := by kernel_rfl
 c173 := by kernel_rfl
 c175 := by kernel_rfl
 c210 := by kernel_rfl
 c212 := by kernel_rfl
 c213 := by kernel_rfl
 c232 := by kernel_rfl
 c233 := by kernel_rfl }
open Go.RowKit in
theorem Tryz.strconv_Atoi_ok (s : ByteArray) (hmax : s.size ≤ 9223372036854775806) (v : Int) (h : Lib.atoiAll s.data.toList = .ok v) (w : World) :
  Calls Tryz.prog 183 #[.string s] w fun e w' => e = .returned (.tuple #[.int .i64 v, .nilIface]) ∧ (w' = w ∨ ∃ t, w' = Lib.bytesWorld w 5 t) := Any.strconv_Atoi_ok Tryz.laysC172 s hmax v h w
def Tryz.lays144_ren : Go.Shelf.Ren := ⟨fun | 144 => 112 | 143 => 170 | 219 => 200 | 217 => 220 | 225 => 221 | 224 => 222 | 267 => 223 | 266 => 241 | 314 => 242 | n => n, fun | 9 => 9 | 4 => 4 | 3 => 3 | 5 => 5 | 46 => 245 | 146 => 267 | 51 => 204 | n => n, fun | 1 => 2 | n => n⟩
theorem Tryz.lays144 : Go.Proofs.Lays.n144 Tryz.prog Tryz.lays144_ren := {
 mixed := by kernel_rfl
 f143 := Tryz.func170.trans (congrArg some (by kernel_rfl))
 f144 := Tryz.func112.trans (congrArg some (by kernel_rfl))
 f217 := Tryz.func220.trans (congrArg some (by kernel_rfl))
 f219 := Tryz.func200.trans (congrArg some (by kernel_rfl))
 f224 := Tryz.func222.trans (congrArg some (by kernel_rfl))
 f225 := Tryz.func221.trans (congrArg some (by kernel_rfl))
 f266 := Tryz.func241.trans (congrArg some (by kernel_rfl))
 f267 := Tryz.func223.trans (congrArg some (by kernel_rfl))
 f314 := Tryz.func242.trans (congrArg some (by kernel_rfl))
 t3 := Tryz.underlying3
 a3 := Tryz.isAgg3
 z3 := Tryz.sizeOf3
 v3 := Tryz.zeroValue3
 t4 := Tryz.underlying4
 a4 := Tryz.isAgg4
 z4 := Tryz.sizeOf4
 v4 := Tryz.zeroValue4
 t5 := Tryz.underlying5
 a5 := Tryz.isAgg5
 z5 := Tryz.sizeOf5
 v5 := Tryz.zeroValue5
 t9 := Tryz.underlying9
 a9 := Tryz.isAgg9
 z9 := Tryz.sizeOf9
 v9 := Tryz.zeroValue9
 t46 := Tryz.underlying245
 a46 := Tryz.isAgg245
 z46 := Tryz.sizeOf245
 v46 := Tryz.zeroValue245
 t51 := Tryz.underlying204
 a51 := Tryz.isAgg204
 z51 := Tryz.sizeOf204
 v51 := Tryz.zeroValue204
 t146 := Tryz.underlying267
 a146 := Tryz.isAgg267
 z146 := Tryz.sizeOf267
 v146 := Tryz.zeroValue267
 g1 := by kernel_rfl }
open Go.RowKit Go.Lib in
theorem Tryz.strings_Contains_one (s : ByteArray) (c : UInt8) (w : World) :
  Calls Tryz.prog 112 #[.string s, .string ⟨#[c]⟩] w fun e w' => e = .returned (.bool (decide (0 ≤ Lib.indexByte s.data.toList c))) ∧ w' = w := Any.strings_Contains_one Tryz.lays144 s c w
def Tryz.laysM157_ren : Go.Shelf.Ren := ⟨fun | 157 => 71 | 229 => 132 | 199 => 133 | 261 => 188 | 311 => 210 | 312 => 211 | n => n, fun | 9 => 9 | 31 => 25 | 3 => 3 | 5 => 5 | 4 => 4 | 119 => 161 | 0 => 0 | 40 => 163 | 152 => 201 | 21 => 21 | 154 => 203 | 51 => 204 | 141 => 206 | 196 => 228 | 193 => 225 | 198 => 231 | 49 => 229 | 194 => 226 | 201 => 234 | 226 => 254 | 46 => 245 | 227 => 255 | n => n, fun | 0 => 0 | 6 => 1 | n => n⟩
theorem Tryz.laysM157 : Go.Proofs.LaysM.n157 Tryz.prog Tryz.laysM157_ren := {
 mixed := by kernel_rfl
 f157 := Tryz.func71.trans (congrArg some (by kernel_rfl))
 f199 := Tryz.func133.trans (congrArg some (by kernel_rfl))
 f229 := Tryz.func132.trans (congrArg some (by kernel_rfl))
 f261 := Tryz.func188.trans (congrArg some (by kernel_rfl))
 f311 := Tryz.func210.trans (congrArg some (by kernel_rfl))
 f312 := Tryz.func211.trans (congrArg some (by kernel_rfl))
 t0 := Tryz.underlying0
 a0 := Tryz.isAgg0
 z0 := Tryz.sizeOf0
 v0 := Tryz.zeroValue0
 t3 := Tryz.underlying3
 a3 := Tryz.isAgg3
 z3 := Tryz.sizeOf3
 v3 := Tryz.zeroValue3
 t4 := Tryz.underlying4
 a4 := Tryz.isAgg4
 z4 := Tryz.sizeOf4
 v4 := Tryz.zeroValue4
 t5 := Tryz.underlying5
 a5 := Tryz.isAgg5
 z5 := Tryz.sizeOf5
 v5 := Tryz.zeroValue5
 t9 := Tryz.underlying9
 a9 := Tryz.isAgg9
 z9 := Tryz.sizeOf9
 v9 := Tryz.zeroValue9
 t21 := Tryz.underlying21
 a21 := Tryz.isAgg21
 z21 := Tryz.sizeOf21
 v21 := Tryz.zeroValue21
 t31 := Tryz.underlying25
 a31 := Tryz.isAgg25
 z31 := Tryz.sizeOf25
 v31 := Tryz.zeroValue25
 t40 := Tryz.underlying163
 a40 := Tryz.isAgg163
 z40 := Tryz.sizeOf163
 v40 := Tryz.zeroValue163
 t46 := Tryz.underlying245
 a46 := Tryz.isAgg245
 z46 := Tryz.sizeOf245
 v46 := Tryz.zeroValue245
 t49 := Tryz.underlying229
 a49 := Tryz.isAgg229
 z49 := Tryz.sizeOf229
 v49 := Tryz.zeroValue229
 t51 := Tryz.underlying204
 a51 := Tryz.isAgg204
 z51 := Tryz.sizeOf204
 v51 := Tryz.zeroValue204
 t119 := Tryz.underlying161
 a119 := Tryz.isAgg161
 z119 := Tryz.sizeOf161
 t141 := Tryz.underlying206
 a141 := Tryz.isAgg206
 z141 := Tryz.sizeOf206
 v141 := Tryz.zeroValue206
 t152 := Tryz.underlying201
 a152 := Tryz.isAgg201
 z152 := Tryz.sizeOf201
 v152 := Tryz.zeroValue201
 t154 := Tryz.underlying203
 a154 := Tryz.isAgg203
 z154 := Tryz.sizeOf203
 v154 := Tryz.zeroValue203
 t193 := Tryz.underlying225
 a193 := Tryz.isAgg225
 z193 := Tryz.sizeOf225
 v193 := Tryz.zeroValue225
 t194 := Tryz.underlying226
 a194 := Tryz.isAgg226
 z194 := Tryz.sizeOf226
 v194 := Tryz.zeroValue226
 t196 := Tryz.underlying228
 a196 := Tryz.isAgg228
 z196 := Tryz.sizeOf228
 v196 := Tryz.zeroValue228
 t198 := Tryz.underlying231
 a198 := Tryz.isAgg231
 z198 := Tryz.sizeOf231
 v198 := Tryz.zeroValue231
 t201 := Tryz.underlying234
 a201 := Tryz.isAgg234
 z201 := Tryz.sizeOf234
 v201 := Tryz.zeroValue234
 t226 := Tryz.underlying254
 a226 := Tryz.isAgg254
 z226 := Tryz.sizeOf254
 v226 := Tryz.zeroValue254
 t227 := Tryz.underlying255
 a227 := Tryz.isAgg255
 z227 := Tryz.sizeOf255
 v227 := Tryz.zeroValue255
 g0 := by kernel_rfl
 g6 := by kernel_rfl
 i0 := by kernel_rfl
 i3 := by kernel_rfl
 i4 := by kernel_rfl
 i5 := by kernel_rfl
 i9 := by kernel_rfl
 i21 := by kernel_rfl
 i31 := by kernel_rfl
 i40 := by kernel_rfl
 i46 := by kernel_rfl
 i49 := by kernel_rfl
 i51 := by kernel_rfl
 i141 := by kernel_rfl
 i152 := by kernel_rfl
 i154 := by kernel_rfl
 i193 := by kernel_rfl
 i194 := by kernel_rfl
 i196 := by kernel_rfl
 i198 := by kernel_rfl
 i201 := by kernel_rfl
 i226 := by kernel_rfl
 i227 := by kernel_rfl
 m0 := by kernel_rfl
 m6 := by kernel_rfl }
open Go.RowKit Go.Lib in
theorem Tryz.strings_Fields_laid (s : ByteArray) (w : World) (hs : s.size < 4294967281) (hascii : ∀ (j : Nat) b, s.data.toList[j]? = some b → b.toNat < 128) (htab : Lib.TabIs Tryz.prog w "strings.asciiSpace" .u8 Lib.asciiSpaceTab) :
  Calls Tryz.prog 71 #[.string s] w fun e w' =>
   e = .returned (.slice (some ⟨w.heap.size, 0, none⟩) (Lib.fields s.data.toList).length (Lib.fields s.data.toList).length) ∧ w' = w.alloc (.cells ((Lib.fields s.data.toList).map fun l => Value.string ⟨l.toArray⟩).toArray 9) := Any.strings_Fields_laid Tryz.laysM157 s w hs hascii htab
end Go.Proofs
end
