/- What the proofs of the lexer's laws share, part 10 of 14. -/
import Derived.Test.YtnnhlphbfpnaaaaGreatDoorF4
import Derived.Test.YtnnhlphbfpnaaaaGreatDoorF6
import Derived.Test.YtnnhlphbfpnaaaaGreatDoorF5
import Derived.Test.YtnnhlphbfpnaaaaGreatDoorF9
set_option linter.unusedVariables false
set_option linter.unusedSimpArgs false
section
namespace Go.Ev
set_option linter.unusedSimpArgs false
set_option linter.unusedVariables false
def Cx.blobs (C : Cx) (b : TypeId → Option (Nat × Nat)) : Cx := { C with blob := b }
def lookC : List (FuncId × Ct) → FuncId → Option Ct
 | [], _ => none
 | (a, S) :: r, n => bif n == a then some S else lookC r n
def Tab.addG (tb : Tab) (grp : List (FuncId × Ct)) : Tab := fun n => match lookC grp n with | some S => some S | none => tb n
def belowC (grp : List (FuncId × Ct)) (μ : FuncId → List D → Nat) (n : Nat) : List (FuncId × Ct) := grp.map fun p => (p.1, p.2.below (μ p.1) n)
section
variable {B : Cx} {tb : Tab} {stb : STab}
theorem Base.blobs (hB : Base B) (b : TypeId → Option (Nat × Nat)) : Base (B.blobs b) := ⟨{ plain := hB.ok.plain, mixed := hB.ok.mixed }, hB.prim⟩
theorem TabOk.of {C C' : Cx} (hP : C'.P = C.P) (hg : C'.glob = C.glob) (h : TabOk C tb) : TabOk C' tb := fun K ct ds r h1 h2 h3 => (h K ct ds r h1 h2 h3).of hP hg
theorem ext_body (hB : Base B) (h : TabOk B tb) (hs : SmOk B stb) (b : TypeId → Option (Nat × Nat)) {K : FuncId} {fn : Func} {cd : Code} {sp : Nat → Option Spec} {hn : Nat → Option Hint} (hf : B.P.funcs[K]? = some fn) (hb : fn.body = some cd) (hr : (fn.name == "runtime.NumGoroutine") = false)
  (ok : SpecT ((B.blobs b).tab tb) 0 sp (specsOf false cd)) {ds : List D} {r : D}
  (hc : Kept (evBodyT ((B.blobs b).tab tb) tb (smCS stb) 0 sp hn K (ds.map .d) Heap.empty fun v H => freezeR H v = .d r)) : ExtOk B K ds r := by
 have he : Enters B.P K := ⟨fn, hf, by simpa using hr, by rw [hb]; rfl⟩
 have h' : TabOk (B.blobs b) tb := h.of rfl rfl
 have hs' : SmOk (B.blobs b) stb := hs.of rfl rfl
 have := ext_of_sound (C := (B.blobs b).tab tb) he (evBodyT_sound (sm_fit (hB.blobs b) h' hs') tab_has (C := (B.blobs b).tab tb) hf hb (fun m hm => by cases hm) ok hc.h)
 exact this.of rfl rfl
theorem blob_fit (hB : Base B) (h : TabOk B tb) (hs : SmOk B stb) (b : TypeId → Option (Nat × Nat)) : Fit2 ((B.blobs b).tab tb) (smCS stb).call :=
 sm_fit (hB.blobs b) (h.of rfl rfl) (hs.of rfl rfl)
theorem lookC_mem : ∀ {grp : List (FuncId × Ct)} {n : FuncId} {S : Ct}, lookC grp n = some S → (n, S) ∈ grp
 | [], n, S, h => by cases h
 | (a, T) :: r, n, S, h => by
  unfold lookC at h
  by_cases e : n = a
  ·
   subst e; simp at h; subst h; simp
  ·
   have : (n == a) = false := by simpa using e
   rw [this] at h
   exact List.mem_cons_of_mem _ (lookC_mem h)
theorem lookC_below {μ : FuncId → List D → Nat} {m : Nat} : ∀ {grp : List (FuncId × Ct)} {n : FuncId}, lookC (belowC grp μ m) n = match lookC grp n with | some S => some (S.below (μ n) m) | none => none
 | [], n => rfl
 | (a, T) :: r, n => by
  simp only [belowC, List.map_cons, lookC]
  by_cases e : n = a
  ·
   subst e; simp
  ·
   have : (n == a) = false := by simpa using e
   rw [this]
   exact lookC_below
theorem ct_group (h : TabOk B tb) (grp : List (FuncId × Ct)) (μ : FuncId → List D → Nat)
  (hc : ∀ n, TabOk B (tb.addG (belowC grp μ n)) → ∀ K S, (K, S) ∈ grp → ∀ ds r, S.pre ds → μ K ds = n → S.f ds = some r → ExtOk B K ds r) : TabOk B (tb.addG grp) := by
 have all : ∀ n, TabOk B (tb.addG (belowC grp μ n)) := by
  intro n
  induction n with
  | zero =>
   intro K f ds r h1 h2 h3
   unfold Tab.addG at h1
   rw [lookC_below] at h1
   cases hl : lookC grp K with
   | none => rw [hl] at h1; exact h K f ds r h1 h2 h3
   | some S =>
    rw [hl] at h1
    simp only [Option.some.injEq] at h1
    subst h1
    exact absurd h2.2 (Nat.not_lt_zero _)
  | succ n ih =>
   intro K f ds r h1 h2 h3
   unfold Tab.addG at h1
   rw [lookC_below] at h1
   cases hl : lookC grp K with
   | none => rw [hl] at h1; exact h K f ds r h1 h2 h3
   | some S =>
    rw [hl] at h1
    simp only [Option.some.injEq] at h1
    subst h1
    by_cases hlt : μ K ds < n
    ·
     refine ih K (S.below (μ K) n) ds r ?_ ⟨h2.1, hlt⟩ h3
     unfold Tab.addG
     rw [lookC_below, hl]
    ·
     have e : μ K ds = n := by have := h2.2; omega
     exact hc n ih K S (lookC_mem hl) ds r h2.1 e h3
 intro K f ds r h1 h2 h3
 unfold Tab.addG at h1
 cases hl : lookC grp K with
 | none => rw [hl] at h1; exact h K f ds r h1 h2 h3
 | some S =>
  rw [hl] at h1
  simp only [Option.some.injEq] at h1
  subst h1
  refine all (μ K ds + 1) K (S.below (μ K) (μ K ds + 1)) ds r ?_ ⟨h2, by omega⟩ h3
  unfold Tab.addG
  rw [lookC_below, hl]
end
end Go.Ev
end
section
namespace Go.Ev.R2
open Go Go.Ev Go.Proofs
set_option maxRecDepth 100000
abbrev nodeA : List D := blobD 1 257 0 259
def bl176 (t : TypeId) : Option (Nat × Nat) := bif t == 176 then some (1, 257) else none
noncomputable def CnB (tb : Tab) : Cx := (B.blobs bl176).tab tb
abbrev u8D (c : Int) : D := .lit (.int .u8 c)
abbrev sD (s : ByteArray) : D := .lit (.string s)
abbrev ntD (i : Int) : D := .lit (.int .i64 i)
theorem w249 (c : Int) (p : V → Prop) : (evBodyT (Cn T13) T13 noCS 0 noSp noHn 249 [V.d (u8D c)] Heap.empty fun v H => p (freezeR H v)) =
 p
 (V.d
 (D.lit
 (Value.bool
 (bif
 bif bif decide (c ≥ 97) then decide (c ≤ 122) else false then true
 else bif decide (c ≥ 65) then decide (c ≤ 90) else false then
 true
 else bif decide (c ≥ 48) then decide (c ≤ 57) else false)))) := by kernel_rfl
noncomputable def alnumB (c : Int) : Bool :=
 (bif
 bif bif decide (c ≥ 97) then decide (c ≤ 122) else false then true
 else bif decide (c ≥ 65) then decide (c ≤ 90) else false then
 true
 else bif decide (c ≥ 48) then decide (c ≤ 57) else false)
noncomputable def c249 : Ct := ⟨fun _ => True, fun | [.lit (.int .u8 c)] => some (.lit (.bool (alnumB c))) | _ => none⟩
noncomputable def T249 : Tab := T13.add 249 c249
theorem w248 (c : Int) (p : V → Prop) : (evBodyT (Cn T249) T249 noCS 0 noSp noHn 248 [V.d (u8D c)] Heap.empty fun v H => p (freezeR H v)) =
 (bif c == 110 then
 p (V.d (D.tup [D.lit (Value.int IntKind.u8 10), D.lit (Value.bool true)])) else
 (bif c == 116 then
 p (V.d (D.tup [D.lit (Value.int IntKind.u8 9), D.lit (Value.bool true)])) else
 (True ∧
 p (V.d (D.tup [D.lit (Value.int IntKind.u8 c), D.lit (Value.bool !alnumB c)]))))) := by kernel_rfl
def escV (c : Int) : Int := bif c == 110 then 10 else bif c == 116 then 9 else c
noncomputable def escK (c : Int) : Bool := bif c == 110 then true else bif c == 116 then true else !alnumB c
noncomputable def c248 : Ct := ⟨fun _ => True, fun | [.lit (.int .u8 c)] => some (.tup [.lit (.int .u8 (escV c)), .lit (.bool (escK c))]) | _ => none⟩
noncomputable def T248 : Tab := T249.add 248 c248
theorem w233 (c : Int) (p : V → Prop) : (evBodyT (Cn T248) T248 noCS 0 noSp noHn 233 [V.d (u8D c)] Heap.empty fun v H => p (freezeR H v)) =
 p
 (V.d
 (D.lit
 (Value.bool
 (bif
 bif
 bif
 bif
 bif
 bif
 bif bif bif c == 46 then true else c == 91 then true else c == 93 then true
 else c == 40 then
 true
 else c == 41 then
 true
 else c == 124 then
 true
 else c == 42 then
 true
 else c == 43 then
 true
 else c == 63 then
 true
 else c == 92)))) := by kernel_rfl
noncomputable def specQ (c : Int) : Bool :=
 (bif
 bif
 bif
 bif
 bif
 bif
 bif bif bif c == 46 then true else c == 91 then true else c == 93 then true
 else c == 40 then
 true
 else c == 41 then
 true
 else c == 124 then
 true
 else c == 42 then
 true
 else c == 43 then
 true
 else c == 63 then
 true
 else c == 92)
noncomputable def c233 : Ct := ⟨fun _ => True, fun | [.lit (.int .u8 c)] => some (.lit (.bool (specQ c))) | _ => none⟩
noncomputable def T233 : Tab := T248.add 233 c233
theorem w234 (c : Int) (p : V → Prop) : (evBodyT (CnB T233) T233 (smCS noSm) 0 noSp noHn 234 [V.d (u8D c)] Heap.empty fun v H => p (freezeR H v)) =
 ((((0 : Int) ≤ c) ∧ c.toNat < 256) ∧
 (1 + c.toNat * 1 < 259 ∧
 p
 (V.d
 (D.agg
 nodeA)))) := by kernel_rfl
noncomputable def c234 : Ct := ⟨fun | [.lit (.int .u8 c)] => 0 ≤ c ∧ c < 256 | _ => False, fun | [.lit (.int .u8 c)] => some (.agg nodeA) | _ => none⟩
noncomputable def T234 : Tab := T233.add 234 c234
theorem w217 (c : Int) (p : V → Prop) : (evBodyT (CnB T234) T234 (smCS noSm) 0 noSp noHn 217 [V.d (D.agg nodeA), V.d (u8D c)] Heap.empty fun v H =>
 p (freezeR H v)) =
 (bif c == 42 then
 p
 (V.d
 (D.agg
 nodeA)) else
 (bif c == 43 then
 p
 (V.d
 (D.agg
 nodeA)) else
 p
 (V.d
 (D.agg
 nodeA)))) := by kernel_rfl
noncomputable def c217 : Ct := ⟨fun | [x, .lit (.int .u8 c)] => x = .agg nodeA | _ => False, fun | [x, .lit (.int .u8 c)] => some (.agg nodeA) | _ => none⟩
noncomputable def T217 : Tab := T234.add 217 c217
noncomputable def l235 : Code := roundOf (pieceAt (bodyOf Tryz.f235) 12)
abbrev nB : Box := .blob 176 259 1 257
abbrev nm51 : List (Name × Name) := [([5000],[5000]),([5001],[5001])]
theorem b235 (c : Int) (i : Int) (R : X → List V → List Box → Prop) : (roundT (CnB T217) T217 (smCS noSm) 0 noSp noHn l235 52 [0, 2, 4, 7] [[5000], [5001]] [] nm51 [2, 4] nm51
 [V.d (u8D c), V.ptr [5000] 0, V.ptr [5001] 0, lint i] [nB, nB] R) =
 (bif decide (i < 256) then
 (((c == 119 && ((!bif decide (IntKind.u8.wrap i ≥ 48) then decide (IntKind.u8.wrap i ≤ 57) else false) && true)) = true → True) ∧
 ((((0 : Int) ≤ i) ∧ i.toNat < 256) ∧
 (1 + i.toNat * 1 < 259 ∧
 (52 = 52 ∧
 R X.normal
 [V.d (D.lit (Value.int IntKind.u8 c)), V.ptr [5000] 0, V.ptr [5001] 0,
 V.d (D.lit (Value.int IntKind.i64 (IntKind.i64.wrap (i + 1))))]
 [Box.blob 176 259 1 257, Box.blob 176 259 1 257])))) else
 (52 = 52 ∧
 R (X.exit 0) [V.ptr [5000] 0, V.ptr [5001] 0] [Box.blob 176 259 1 257, Box.blob 176 259 1 257])) := by kernel_rfl
def S235 : Ev.Spec := { L := [0,2,4,7], ns := [([5000],[4]),([5001],[6])], L' := [2,4], nm' := [[5000],[5001]], G := fun N vals bs k => match vals, bs with
 | [.d (.lit (.int .u8 c)), .ptr [5000] 0, .ptr [5001] 0, .d (.lit (.int .i64 i))], [.blob 176 259 1 257, .blob 176 259 1 257] => (N = 52 ∧ i = 0 ∧ 0 ≤ c ∧ c < 256) ∧ k (.exit 0) [.ptr [5000] 0, .ptr [5001] 0] [nB, nB]
 | _, _ => False }
theorem w235 (c : Int) (p : V → Prop) : (evBodyT (CnB T217) T217 (smCS noSm) 0 (spL [(12, S235)]) noHn 235 [V.d (u8D c)] Heap.empty fun v H => p (freezeR H v)) =
 (bif bif c != 100 then c != 119 else false then
 (True ∧
 ((((0 : Int) ≤ escV c) ∧ ((escV c : Int) < 256)) ∧
 p
 (V.d
 (D.tup
 [D.agg
 nodeA,
 D.lit (Value.bool (escK c))])))) else
 ((52 = 52 ∧ (((0 : Int) = 0) ∧ (((0 : Int) ≤ c) ∧ ((c : Int) < 256)))) ∧
 p
 (V.d
 (D.tup
 [D.agg
 nodeA,
 D.lit (Value.bool true)])))) := by kernel_rfl
noncomputable def escE (c : Int) : Bool := bif (bif c != 100 then c != 119 else false) then escK c else true
noncomputable def c235 : Ct := ⟨fun | [.lit (.int .u8 c)] => 0 ≤ c ∧ c < 256 | _ => False, fun | [.lit (.int .u8 c)] => some (.tup [.agg nodeA, .lit (.bool (escE c))]) | _ => none⟩
noncomputable def T235 : Tab := T217.add 235 c235
theorem w250 (s : ByteArray) (i : Int) (p : V → Prop) : (evBodyT (Cn T235) T235 noCS 0 noSp noHn 250 [V.d (sD s), V.d (ntD i)] Heap.empty fun v H => p (freezeR H v)) =
  (((!decide (i ≥ (↑s.size : Int)) && true) = true → (((0 : Int) ≤ i) ∧ i.toNat < s.size)) ∧
  (bif bif decide (i ≥ (↑s.size : Int)) then true else byteAt s i.toNat == 93 then
   p (V.d (D.tup [D.lit (Value.int IntKind.u8 0), D.lit (Value.int IntKind.i64 i), D.lit (Value.bool false)])) else
   ((((0 : Int) ≤ i) ∧ i.toNat < s.size) ∧
   (bif byteAt s i.toNat != 92 then
    ((((0 : Int) ≤ i) ∧ i.toNat < s.size) ∧
    p
  (V.d
    (D.tup
      [D.lit (Value.int IntKind.u8 (byteAt s i.toNat)), D.lit (Value.int IntKind.i64 (IntKind.i64.wrap (i + 1))),
        D.lit (Value.bool true)]))) else
    (bif decide (IntKind.i64.wrap (i + 1) ≥ (↑s.size : Int)) then
     p (V.d (D.tup [D.lit (Value.int IntKind.u8 0), D.lit (Value.int IntKind.i64 i), D.lit (Value.bool false)])) else
     ((((0 : Int) ≤ IntKind.i64.wrap (i + 1)) ∧ (IntKind.i64.wrap (i + 1)).toNat < s.size) ∧
     (True ∧
     p
  (V.d
    (D.tup
      [D.lit (Value.int IntKind.u8 (escV (byteAt s (IntKind.i64.wrap (i + 1)).toNat))),
        D.lit (Value.int IntKind.i64 (IntKind.i64.wrap (i + 2))),
        D.lit (Value.bool (escK (byteAt s (IntKind.i64.wrap (i + 1)).toNat)))]))))))))) := by kernel_rfl
noncomputable def it3 (s : ByteArray) (i : Int) : Int × Int × Bool :=
 bif (bif decide (i ≥ (s.size : Int)) then true else byteAt s i.toNat == 93) then (0, i, false) else
 bif byteAt s i.toNat != 92 then (byteAt s i.toNat, i + 1, true) else
 bif decide (i + 1 ≥ (s.size : Int)) then (0, i, false) else (escV (byteAt s (i + 1).toNat), i + 2, escK (byteAt s (i + 1).toNat))
def posS (s : ByteArray) (i : Int) : Prop := 0 ≤ i ∧ i ≤ s.size ∧ s.size ≤ 200
noncomputable def c250 : Ct := ⟨fun | [.lit (.string s), .lit (.int .i64 i)] => posS s i | _ => False, fun | [.lit (.string s), .lit (.int .i64 i)] => some (.tup [.lit (.int .u8 (it3 s i).1), .lit (.int .i64 (it3 s i).2.1), .lit (.bool (it3 s i).2.2)]) | _ => none⟩
noncomputable def T250 : Tab := T235.add 250 c250
noncomputable def l236o : Code := roundOf (pieceAt (bodyOf Tryz.f236) 6)
noncomputable def l236i : Code := roundOf (pieceIn l236o 22)
noncomputable def l236l : Code := roundOf (pieceAt (bodyOf Tryz.f236) 36)
theorem b236i (s : ByteArray) (inv : Bool) (st : Int) (nx : Int) (hi : Int) (c : Int) (R : X → List V → List Box → Prop) : (roundT (CnB T250) T250 (smCS noSm) 0 noSp noHn l236i 114 [0, 2, 6, 9, 10, 12, 14, 15] [[5000], [5001]] [] nm51
 [0, 2, 6, 9, 10, 12] nm51 [lstr s, lbool inv, V.ptr [5000] 0, V.ptr [5001] 0, lint st, lint nx, V.d (u8D hi), lint c]
 [nB, nB] R) =
 (bif decide (c ≤ IntKind.i64.wrap hi) then
 ((((0 : Int) ≤ c) ∧ c.toNat < 256) ∧
 (1 + c.toNat * 1 < 259 ∧
 (114 = 114 ∧
 R X.normal
 [V.d (D.lit (Value.string s)), V.d (D.lit (Value.bool inv)), V.ptr [5000] 0, V.ptr [5001] 0,
 V.d (D.lit (Value.int IntKind.i64 st)), V.d (D.lit (Value.int IntKind.i64 nx)),
 V.d (D.lit (Value.int IntKind.u8 hi)), V.d (D.lit (Value.int IntKind.i64 (IntKind.i64.wrap (c + 1))))]
 [Box.blob 176 259 1 257, Box.blob 176 259 1 257]))) else
 (114 = 114 ∧
 R (X.exit 2)
 [V.d (D.lit (Value.string s)), V.d (D.lit (Value.bool inv)), V.ptr [5000] 0, V.ptr [5001] 0,
 V.d (D.lit (Value.int IntKind.i64 st)), V.d (D.lit (Value.int IntKind.i64 nx))]
 [Box.blob 176 259 1 257, Box.blob 176 259 1 257])) := by kernel_rfl
def S236i : Ev.Spec := { L := [0,2,6,9,10,12,14,15], ns := nm51, L' := [0,2,6,9,10,12], nm' := [[5000],[5001]], G := fun N vals bs k => match vals, bs with
 | [.d (.lit (.string s)), .d (.lit (.bool inv)), .ptr [5000] 0, .ptr [5001] 0, .d (.lit (.int .i64 st)), .d (.lit (.int .i64 nx)), .d (.lit (.int .u8 hi)), .d (.lit (.int .i64 c))], [.blob 176 259 1 257, .blob 176 259 1 257] => (N = 114 ∧ 0 ≤ c ∧ c < 256 ∧ 0 ≤ hi ∧ hi < 256) ∧ k (.exit 2) [lstr s, lbool inv, .ptr [5000] 0, .ptr [5001] 0, lint st, lint nx] [nB, nB]
 | _, _ => False }
theorem b236o (s : ByteArray) (inv : Bool) (st : Int) (i : Int) (R : X → List V → List Box → Prop) : (roundT (CnB T250) T250 (smCS noSm) 0 (spL [(22, S236i)]) noHn l236o 114 [0, 1, 2, 6, 9, 10] [[5000], [5001]] [] nm51
  [0, 1, 2, 6, 7, 8, 9, 10] nm51 [lstr s, lint i, lbool inv, V.ptr [5000] 0, V.ptr [5001] 0, lint st] [nB, nB] R) =
  (((decide (i < (↑s.size : Int)) && true) = true → (((0 : Int) ≤ i) ∧ i.toNat < s.size)) ∧
  (bif bif decide (i < (↑s.size : Int)) then byteAt s i.toNat != 93 else false then
   ((((0 : Int) ≤ i) ∧ (((i : Int) ≤ (↑s.size : Int)) ∧ s.size ≤ 200)) ∧
   ((((bif (it3 s i).snd.snd then decide (IntKind.i64.wrap ((it3 s i).snd.fst + 1) < (↑s.size : Int)) else false) && true) =
  true → (((0 : Int) ≤ (it3 s i).snd.fst) ∧ (it3 s i).snd.fst.toNat < s.size)) ∧
   ((((bif bif (it3 s i).snd.snd then decide (IntKind.i64.wrap ((it3 s i).snd.fst + 1) < (↑s.size : Int)) else false then
      byteAt s (it3 s i).snd.fst.toNat == 45
    else false) &&
    true) =
  true → (((0 : Int) ≤ IntKind.i64.wrap ((it3 s i).snd.fst + 1)) ∧ (IntKind.i64.wrap ((it3 s i).snd.fst + 1)).toNat < s.size)) ∧
   (bif bif
    bif bif (it3 s i).snd.snd then decide (IntKind.i64.wrap ((it3 s i).snd.fst + 1) < (↑s.size : Int)) else false then
      byteAt s (it3 s i).snd.fst.toNat == 45
    else false then
  byteAt s (IntKind.i64.wrap ((it3 s i).snd.fst + 1)).toNat != 93
else false then
    ((((0 : Int) ≤ IntKind.i64.wrap ((it3 s i).snd.fst + 1)) ∧ (((IntKind.i64.wrap ((it3 s i).snd.fst + 1) : Int) ≤ (↑s.size : Int)) ∧ s.size ≤ 200)) ∧
    (bif bif !(it3 s (IntKind.i64.wrap ((it3 s i).snd.fst + 1))).snd.snd then true
else decide ((it3 s (IntKind.i64.wrap ((it3 s i).snd.fst + 1))).fst < (it3 s i).fst) then
     (114 = 114 ∧
     R X.ret
  [V.d (D.lit (Value.string s)), V.d (D.lit (Value.int IntKind.i64 i)), V.d (D.lit (Value.bool inv)), V.ptr [5000] 0,
    V.d (D.lit (Value.int IntKind.i64 i)), V.d (D.lit (Value.bool false)), V.ptr [5001] 0,
    V.d (D.lit (Value.int IntKind.i64 st))]
  [Box.blob 176 259 1 257, Box.blob 176 259 1 257]) else
     ((114 = 114 ∧ (((0 : Int) ≤ IntKind.i64.wrap (it3 s i).fst) ∧ (((IntKind.i64.wrap (it3 s i).fst : Int) < 256) ∧ (((0 : Int) ≤ (it3 s (IntKind.i64.wrap ((it3 s i).snd.fst + 1))).fst) ∧ (((it3 s (IntKind.i64.wrap ((it3 s i).snd.fst + 1))).fst : Int) < 256))))) ∧
     (114 = 114 ∧
     R X.normal
  [V.d (D.lit (Value.string s)),
    V.d (D.lit (Value.int IntKind.i64 (it3 s (IntKind.i64.wrap ((it3 s i).snd.fst + 1))).snd.fst)),
    V.d (D.lit (Value.bool inv)), V.ptr [5000] 0, V.ptr [5001] 0, V.d (D.lit (Value.int IntKind.i64 st))]
  [Box.blob 176 259 1 257, Box.blob 176 259 1 257])))) else
    (bif bif !(it3 s i).snd.snd then true else decide ((it3 s i).fst < (it3 s i).fst) then
     (114 = 114 ∧
     R X.ret
  [V.d (D.lit (Value.string s)), V.d (D.lit (Value.int IntKind.i64 i)), V.d (D.lit (Value.bool inv)), V.ptr [5000] 0,
    V.d (D.lit (Value.int IntKind.i64 i)), V.d (D.lit (Value.bool false)), V.ptr [5001] 0,
    V.d (D.lit (Value.int IntKind.i64 st))]
  [Box.blob 176 259 1 257, Box.blob 176 259 1 257]) else
     ((114 = 114 ∧ (((0 : Int) ≤ IntKind.i64.wrap (it3 s i).fst) ∧ (((IntKind.i64.wrap (it3 s i).fst : Int) < 256) ∧ (((0 : Int) ≤ (it3 s i).fst) ∧ (((it3 s i).fst : Int) < 256))))) ∧
     (114 = 114 ∧
     R X.normal
  [V.d (D.lit (Value.string s)), V.d (D.lit (Value.int IntKind.i64 (it3 s i).snd.fst)), V.d (D.lit (Value.bool inv)),
    V.ptr [5000] 0, V.ptr [5001] 0, V.d (D.lit (Value.int IntKind.i64 st))]
  [Box.blob 176 259 1 257, Box.blob 176 259 1 257]))))))) else
   (114 = 114 ∧
   R (X.exit 0)
  [V.d (D.lit (Value.string s)), V.d (D.lit (Value.int IntKind.i64 i)), V.d (D.lit (Value.bool inv)), V.ptr [5000] 0,
    V.any, V.any, V.ptr [5001] 0, V.d (D.lit (Value.int IntKind.i64 st))]
  [Box.blob 176 259 1 257, Box.blob 176 259 1 257]))) := by kernel_rfl
theorem b236l (inv : Bool) (i : Int) (k : Int) (R : X → List V → List Box → Prop) : (roundT (CnB T250) T250 (smCS noSm) 0 noSp noHn l236l 114 [1, 2, 6, 9, 16] [[5000], [5001]] [] nm51 [1, 6, 9] nm51
 [lint i, lbool inv, V.ptr [5000] 0, V.ptr [5001] 0, lint k] [nB, nB] R) =
 (bif decide (k < 256) then
 ((((0 : Int) ≤ k) ∧ k.toNat < 256) ∧
 ((1 ≤ 1 + k.toNat * 1 ∧ 1 + k.toNat * 1 < 257) ∧
 ((((0 : Int) ≤ k) ∧ k.toNat < 256) ∧
 (1 + k.toNat * 1 < 259 ∧
 (114 = 114 ∧
 R X.normal
 [V.d (D.lit (Value.int IntKind.i64 i)), V.d (D.lit (Value.bool inv)), V.ptr [5000] 0, V.ptr [5001] 0,
 V.d (D.lit (Value.int IntKind.i64 (IntKind.i64.wrap (k + 1))))]
 [Box.blob 176 259 1 257, Box.blob 176 259 1 257]))))) else
 (114 = 114 ∧
 R (X.exit 4) [V.d (D.lit (Value.int IntKind.i64 i)), V.ptr [5000] 0, V.ptr [5001] 0]
 [Box.blob 176 259 1 257, Box.blob 176 259 1 257])) := by kernel_rfl
noncomputable def rgQ (s : ByteArray) (i : Int) : Bool := bif (bif (bif (it3 s i).2.2 then decide ((it3 s i).2.1 + 1 < (s.size : Int)) else false) then byteAt s (it3 s i).2.1.toNat == 45 else false) then byteAt s ((it3 s i).2.1 + 1).toNat != 93 else false
noncomputable def brT (s : ByteArray) (i : Int) : Int × Int × Bool := bif rgQ s i then it3 s ((it3 s i).2.1 + 1) else it3 s i
noncomputable def brBad (s : ByteArray) (i : Int) : Bool := bif !(brT s i).2.2 then true else decide ((brT s i).1 < (it3 s i).1)
noncomputable def brL (s : ByteArray) : Nat → Int → Bool × Int
 | 0, i => (false, i)
 | n + 1, i => bif (bif decide (i < (s.size : Int)) then byteAt s i.toNat != 93 else false) then (bif brBad s i then (false, i) else brL s n (brT s i).2.1) else (true, i)
noncomputable def brQ (s : ByteArray) (i : Int) : Bool × Int :=
 bif (brL s 201 i).1 then (bif (bif decide ((brL s 201 i).2 ≥ (s.size : Int)) then true else (brL s 201 i).2 == i) then (false, (brL s 201 i).2) else (true, (brL s 201 i).2 + 1)) else (false, (brL s 201 i).2)
noncomputable def S236o : Ev.Spec := { L := [0,1,2,6,9,10], ns := [([5000],[8]),([5001],[11])], L' := [0,1,2,6,7,8,9,10], nm' := [[5000],[5001]], G := fun N vals bs k => match vals, bs with
  | [.d (.lit (.string s)), .d (.lit (.int .i64 i)), .d (.lit (.bool inv)), .ptr [5000] 0, .ptr [5001] 0, .d (.lit (.int .i64 st))], [.blob 176 259 1 257, .blob 176 259 1 257] => (N = 114 ∧ i = st ∧ posS s i) ∧
      (bif (brL s 201 i).1 then k (.exit 0) [lstr s, lint (brL s 201 i).2, lbool inv, .ptr [5000] 0, .any, .any, .ptr [5001] 0, lint st] [nB, nB]
       else k .ret [lstr s, lint (brL s 201 i).2, lbool inv, .ptr [5000] 0, lint (brL s 201 i).2, lbool false, .ptr [5001] 0, lint st] [nB, nB])
  | _, _ => False }
def S236l : Ev.Spec := { L := [1,2,6,9,16], ns := nm51, L' := [1,6,9], nm' := [[5000],[5001]], G := fun N vals bs k => match vals, bs with
 | [.d (.lit (.int .i64 i)), .d (.lit (.bool inv)), .ptr [5000] 0, .ptr [5001] 0, .d (.lit (.int .i64 m))], [.blob 176 259 1 257, .blob 176 259 1 257] => (N = 114 ∧ m = 0) ∧ k (.exit 4) [lint i, .ptr [5000] 0, .ptr [5001] 0] [nB, nB]
 | _, _ => False }
theorem w236 (s : ByteArray) (i : Int) (inv : Bool) (p : V → Prop) : (evBodyT (CnB T250) T250 (smCS noSm) 0 (spL [(6, S236o), (36, S236l)]) noHn 236 [V.d (sD s), V.d (ntD i), lbool inv]
 Heap.empty fun v H => p (freezeR H v)) =
 ((114 = 114 ∧ (((i : Int) = i) ∧ posS s i)) ∧
 (bif (brL s 201 i).fst then
 (bif bif decide ((brL s 201 i).snd ≥ (↑s.size : Int)) then true else (brL s 201 i).snd == i then
 p
 (V.d
 (D.tup
 [D.agg
 nodeA,
 D.lit (Value.int IntKind.i64 (brL s 201 i).snd), D.lit (Value.bool false)])) else
 ((114 = 114 ∧ ((0 : Int) = 0)) ∧
 p
 (V.d
 (D.tup
 [D.agg
 nodeA,
 D.lit (Value.int IntKind.i64 (IntKind.i64.wrap ((brL s 201 i).snd + 1))), D.lit (Value.bool true)])))) else
 p
 (V.d
 (D.tup
 [D.agg
 nodeA,
 D.lit (Value.int IntKind.i64 (brL s 201 i).snd), D.lit (Value.bool false)])))) := by kernel_rfl
noncomputable def c236 : Ct := ⟨fun | [.lit (.string s), .lit (.int .i64 i), .lit (.bool _)] => posS s i | _ => False, fun | [.lit (.string s), .lit (.int .i64 i), .lit (.bool _)] => some (.tup [.agg nodeA, .lit (.int .i64 (brQ s i).2), .lit (.bool (brQ s i).1)]) | _ => none⟩
noncomputable def T236 : Tab := T250.add 236 c236
theorem k249 : TabOk B T249 := by
 refine add_body base k13 (fn := Tryz.f249) (cd := bodyOf Tryz.f249) (sp := noSp) (hn := noHn) Tryz.func249 (by kernel_rfl) (by kernel_rfl) noSp_ok fun ds r hp hr => ?_
 unfold c249 at hr
 simp only [] at hr
 split at hr
 ·
  cases hr
  refine keep (w249 _ fun v => v = _) ?_
  rfl
 ·
  cases hr
theorem k248 : TabOk B T248 := by
 refine add_body base k249 (fn := Tryz.f248) (cd := bodyOf Tryz.f248) (sp := noSp) (hn := noHn) Tryz.func248 (by kernel_rfl) (by kernel_rfl) noSp_ok fun ds r hp hr => ?_
 unfold c248 at hr
 simp only [] at hr
 split at hr
 ·
  rename_i c
  cases hr
  refine keep (w248 c fun v => v = _) ?_
  unfold escV escK
  (repeat' (first | with_reducible rfl | (refine cond_split (fun hcw => ?_) (fun hcw => ?_) <;> simp only [hcw, cond_true, cond_false]) | refine and_i ?_ ?_))
  all_goals trivial
 ·
  cases hr
theorem k233 : TabOk B T233 := by
 refine add_body base k248 (fn := Tryz.f233) (cd := bodyOf Tryz.f233) (sp := noSp) (hn := noHn) Tryz.func233 (by kernel_rfl) (by kernel_rfl) noSp_ok fun ds r hp hr => ?_
 unfold c233 at hr
 simp only [] at hr
 split at hr
 ·
  cases hr
  refine keep (w233 _ fun v => v = _) ?_
  rfl
 ·
  cases hr
theorem k234 : TabOk B T234 := by
 refine add_ok k233 fun ds r hp hr => ?_
 unfold c234 at hp hr
 simp only [] at hr hp
 split at hr
 ·
  rename_i c
  cases hr
  obtain ⟨h0, h1⟩ := hp
  refine ext_body base k233 noSm_ok bl176 (fn := Tryz.f234) (cd := bodyOf Tryz.f234) (sp := noSp) (hn := noHn) Tryz.func234 (by kernel_rfl) (by kernel_rfl) noSp_ok (keep (w234 c fun v => v = _) ?_)
  exact ⟨⟨h0, by omega⟩, by omega, (by trivial)⟩
 ·
  cases hr
theorem k217 : TabOk B T217 := by
 refine add_ok k234 fun ds r hp hr => ?_
 unfold c217 at hp hr
 simp only [] at hr hp
 split at hr
 ·
  rename_i x c
  cases hr
  subst hp
  refine ext_body base k234 noSm_ok bl176 (fn := Tryz.f217) (cd := bodyOf Tryz.f217) (sp := noSp) (hn := noHn) Tryz.func217 (by kernel_rfl) (by kernel_rfl) noSp_ok (keep (w217 c fun v => v = _) ?_)
  exact cond_split (fun _ => rfl) (fun _ => cond_split (fun _ => rfl) (fun _ => rfl))
 ·
  cases hr
theorem ok235 : OkS (CnB T217) 0 (.loop l235) S235 := by
 refine okS_loop fun N vals bs K h => ?_
 simp only [S235] at h
 split at h
 case h_2 => exact h.elim
 rename_i c i
 obtain ⟨⟨rfl, rfl, h0, h1⟩, h⟩ := h
 have main : ∀ k i : Nat, i + k = 256 → LoopT (CnB T217) 0 l235 52 [0,2,4,7] [[5000],[5001]] [2,4] [[5000],[5001]] [.d (u8D c), .ptr [5000] 0, .ptr [5001] 0, lint i] [nB, nB] K := by
  intro k
  induction k with
  | zero =>
   intro i hi
   refine loopT_step (blob_fit base k217 noSm_ok bl176) tab_has noSp_ok (hn := noHn) (adsI := []) (nsI := nm51) (nsX := nm51) rfl rfl (keep (b235 c i _) ?_)
   have e1 : decide ((i : Int) < 256) = false := by simp; omega
   rw [e1]
   exact ⟨(by trivial), h⟩
  | succ k ih =>
   intro i hi
   refine loopT_step (blob_fit base k217 noSm_ok bl176) tab_has noSp_ok (hn := noHn) (adsI := []) (nsI := nm51) (nsX := nm51) rfl rfl (keep (b235 c i _) ?_)
   have e1 : decide ((i : Int) < 256) = true := by simp; omega
   have e2 : IntKind.i64.wrap ((i : Int) + 1) = ((i + 1 : Nat) : Int) := by rw [Go.IntWalk.i64_in _ (by omega)]; omega
   rw [e1]
   simp only [e2, cond_true]
   exact ⟨fun _ => trivial, ⟨by omega, by omega⟩, by omega, (by trivial), ih (i + 1) (by omega)⟩
 exact main 256 0 (by omega)
theorem escV_lt {c : Int} (h : 0 ≤ c ∧ c < 256) : 0 ≤ escV c ∧ escV c < 256 := by
 unfold escV
 cases (c == 110) <;> cases (c == 116) <;> simp <;> omega
theorem k235 : TabOk B T235 := by
 refine add_ok k217 fun ds r hp hr => ?_
 unfold c235 at hp hr
 simp only [] at hr hp
 split at hr
 ·
  rename_i c
  cases hr
  refine ext_body base k217 noSm_ok bl176 (fn := Tryz.f235) (cd := bodyOf Tryz.f235) (sp := spL [(12, S235)]) (hn := noHn) Tryz.func235 (by kernel_rfl) (by kernel_rfl) (specT_cons (c := .loop l235) (by kernel_rfl) ok235 specT_nil) (keep (w235 c fun v => v = _) ?_)
  unfold escE
  refine cond_split (fun hc => ?_) (fun hc => ?_)
  ·
   simp only [hc, cond_true]
   exact ⟨(by trivial), escV_lt hp, (by trivial)⟩
  ·
   simp only [hc, cond_false]
   exact ⟨⟨(by trivial), (by trivial), hp⟩, (by trivial)⟩
 ·
  cases hr
theorem or_f' {a b : Bool} (h : (bif a then true else b) = false) : a = false ∧ b = false := by
 cases a with
 | true => cases h
 | false => exact ⟨(by trivial), h⟩
theorem and_t' {a b : Bool} (h : (bif a then b else false) = true) : a = true ∧ b = true := by
 cases a with
 | true => exact ⟨(by trivial), h⟩
 | false => cases h
theorem wr {x : Int} (h : -9000000000000000000 ≤ x) (h' : x ≤ 9000000000000000000) : IntKind.i64.wrap x = x := Go.IntWalk.i64_in _ (by omega)
theorem k250 : TabOk B T250 := by
 refine add_body base k235 (fn := Tryz.f250) (cd := bodyOf Tryz.f250) (sp := noSp) (hn := noHn) Tryz.func250 (by kernel_rfl) (by kernel_rfl) noSp_ok fun ds r hp hr => ?_
 unfold c250 at hp hr
 simp only [] at hr hp
 split at hr
 ·
  rename_i s i
  cases hr
  obtain ⟨h0, h1, h2⟩ := hp
  refine keep (w250 s i fun v => v = _) ?_
  rw [wr (x := i + 1) (by omega) (by omega), wr (x := i + 2) (by omega) (by omega)]
  unfold it3
  refine ⟨fun g => ?_, cond_split (fun hc => ?_) (fun hc => ?_)⟩
  ·
   simp only [Bool.and_true, Bool.not_eq_true', decide_eq_false_iff_not] at g
   omega
  ·
   simp only [hc, cond_true]
  ·
   have := (or_f' hc).1
   simp only [decide_eq_false_iff_not] at this
   simp only [hc, cond_false]
   refine ⟨by omega, cond_split (fun hc => ?_) (fun hc => ?_)⟩
   ·
    simp only [hc, cond_true]; exact ⟨by omega, (by trivial)⟩
   ·
    simp only [hc, cond_false]
    refine cond_split (fun hc => ?_) (fun hc => ?_)
    ·
     simp only [hc, cond_true]
    ·
     simp only [hc, cond_false]
     simp only [decide_eq_false_iff_not] at hc
     exact ⟨⟨by omega, by omega⟩, (by trivial), (by trivial)⟩
 ·
  cases hr
theorem it3_pos {s : ByteArray} {i : Int} (h : posS s i) : (0 ≤ (it3 s i).1 ∧ (it3 s i).1 < 256) ∧ (i ≤ (it3 s i).2.1 ∧ (it3 s i).2.1 ≤ s.size) ∧ ((it3 s i).2.2 = true → i < (it3 s i).2.1 ∧ i < s.size) := by
 obtain ⟨h0, h1, h2⟩ := h
 unfold it3
 cases g1 : (bif decide (i ≥ (s.size : Int)) then true else byteAt s i.toNat == 93) with
 | true => simp only [cond_true]; refine ⟨by omega, by omega, fun h => by cases h⟩
 | false =>
  have hlt := (or_f' g1).1
  simp only [decide_eq_false_iff_not] at hlt
  simp only [cond_false]
  cases g2 : (byteAt s i.toNat != 92) with
  | true => simp only [cond_true]; exact ⟨byteAt_lt _ _, by omega, fun _ => by omega⟩
  | false =>
   simp only [cond_false]
   cases g3 : decide (i + 1 ≥ (s.size : Int)) with
   | true => simp only [cond_true]; refine ⟨by omega, by omega, fun h => by cases h⟩
   | false =>
    simp only [decide_eq_false_iff_not] at g3
    simp only [cond_false]
    exact ⟨escV_lt (byteAt_lt _ _), by omega, fun _ => by omega⟩
theorem ok236i : OkS (CnB T250) 0 (.loop l236i) S236i := by
 refine okS_loop fun N vals bs K h => ?_
 simp only [S236i] at h
 split at h
 case h_2 => exact h.elim
 rename_i s inv st nx hi c
 obtain ⟨⟨rfl, h0, h1, h2, h3⟩, h⟩ := h
 have main : ∀ (k : Nat) (c : Int), 0 ≤ c → c ≤ 256 → c + k = 256 → LoopT (CnB T250) 0 l236i 114 [0,2,6,9,10,12,14,15] [[5000],[5001]] [0,2,6,9,10,12] [[5000],[5001]] [lstr s, lbool inv, .ptr [5000] 0, .ptr [5001] 0, lint st, lint nx, .d (u8D hi), lint c] [nB, nB] K := by
  intro k
  induction k with
  | zero =>
   intro c c0 c1 hc
   refine loopT_step (blob_fit base k250 noSm_ok bl176) tab_has noSp_ok (hn := noHn) (adsI := []) (nsI := nm51) (nsX := nm51) rfl rfl (keep (b236i s inv st nx hi c _) ?_)
   have e1 : decide (c ≤ IntKind.i64.wrap hi) = false := by rw [wr (by omega) (by omega)]; simp; omega
   rw [e1]
   exact ⟨(by trivial), h⟩
  | succ k ih =>
   intro c c0 c1 hc
   refine loopT_step (blob_fit base k250 noSm_ok bl176) tab_has noSp_ok (hn := noHn) (adsI := []) (nsI := nm51) (nsX := nm51) rfl rfl (keep (b236i s inv st nx hi c _) ?_)
   rw [wr (x := hi) (by omega) (by omega), wr (x := c + 1) (by omega) (by omega)]
   refine cond_split (fun g => ?_) (fun g => ⟨(by trivial), h⟩)
   exact ⟨⟨by omega, by omega⟩, by omega, (by trivial), ih (c + 1) (by omega) (by omega) (by omega)⟩
 exact main (256 - c).toNat c h0 (by omega) (by omega)
theorem brT_pos {s : ByteArray} {i : Int} (h : posS s i) : (0 ≤ (brT s i).1 ∧ (brT s i).1 < 256) ∧ (i ≤ (brT s i).2.1 ∧ (brT s i).2.1 ≤ s.size) ∧ ((brT s i).2.2 = true → i < (brT s i).2.1) := by
 have h1 := it3_pos h
 unfold brT
 cases hr : rgQ s i with
 | false => simp only [cond_false]; exact ⟨h1.1, h1.2.1, fun g => (h1.2.2 g).1⟩
 | true =>
  simp only [cond_true]
  unfold rgQ at hr
  have a1 := (and_t' (and_t' (and_t' hr).1).1)
  have a2 : (it3 s i).2.1 + 1 < (s.size : Int) := by simpa using a1.2
  obtain ⟨p0, p1, p2⟩ := h
  have h2 := it3_pos (s := s) (i := (it3 s i).2.1 + 1) ⟨by omega, by omega, p2⟩
  exact ⟨h2.1, by omega, fun g => by have := h2.2.2 g; omega⟩
theorem ok236o : OkS (CnB T250) 0 (.loop l236o) S236o := by
  refine okS_loop fun N vals bs K h => ?_
  simp only [S236o] at h
  split at h
  case h_2 => exact h.elim
  rename_i s i inv st
  obtain ⟨⟨rfl, rfl, hp⟩, h⟩ := h
  have hok : SpecT (CnB T250) 0 (spL [(22, S236i)]) (specsOf true l236o) := specT_cons (c := .loop l236i) (by kernel_rfl) ok236i specT_nil
  have main : ∀ (n : Nat) (j : Int), posS s j → s.size - j < n →
      (bif (brL s n j).1 then K (.exit 0) [lstr s, lint (brL s n j).2, lbool inv, .ptr [5000] 0, .any, .any, .ptr [5001] 0, lint i] [nB, nB]
       else K .ret [lstr s, lint (brL s n j).2, lbool inv, .ptr [5000] 0, lint (brL s n j).2, lbool false, .ptr [5001] 0, lint i] [nB, nB]) →
      LoopT (CnB T250) 0 l236o 114 [0,1,2,6,9,10] [[5000],[5001]] [0,1,2,6,7,8,9,10] [[5000],[5001]] [lstr s, lint j, lbool inv, .ptr [5000] 0, .ptr [5001] 0, lint i] [nB, nB] K := by
    intro n
    induction n with
    | zero => intro j hj hn; obtain ⟨_, _, _⟩ := hj; omega
    | succ n ih =>
      intro j hj hn h
      have hj' := hj
      obtain ⟨j0, j1, j2⟩ := hj'
      have p1 := it3_pos hj
      have p2 := brT_pos hj
      refine loopT_step (blob_fit base k250 noSm_ok bl176) tab_has hok (hn := noHn) (adsI := []) (nsI := nm51) (nsX := nm51) rfl rfl (keep (b236o s inv i j _) ?_)
      have hw1 : IntKind.i64.wrap ((it3 s j).2.1 + 1) = (it3 s j).2.1 + 1 := wr (by omega) (by omega)
      have hw2 : IntKind.i64.wrap (it3 s j).1 = (it3 s j).1 := wr (by omega) (by omega)
      rw [hw1, hw2]
      unfold brL at h
      refine ⟨fun g => ?_, cond_split (fun g => ?_) (fun g => ?_)⟩
      · simp only [Bool.and_true, decide_eq_true_eq] at g; omega
      · rw [g] at h
        simp only [cond_true] at h
        have glt := (and_t' g).1
        simp only [decide_eq_true_eq] at glt
        refine ⟨hj, fun g2 => ?_, fun g2 => ?_, ?_⟩
        · simp only [Bool.and_true] at g2
          have := (and_t' g2).2
          simp only [decide_eq_true_eq] at this
          omega
        · simp only [Bool.and_true] at g2
          have := (and_t' (and_t' g2).1).2
          simp only [decide_eq_true_eq] at this
          omega
        · show (bif rgQ s j then _ else _)
          have fin : brBad s j = false → (brT s j).2.2 = true ∧ ¬ (brT s j).1 < (it3 s j).1 := fun hb => by
            have := or_f' hb
            simpa using this
          cases hr : rgQ s j with
          | true =>
            have hT : brT s j = it3 s ((it3 s j).2.1 + 1) := by unfold brT; rw [hr]; rfl
            have hps : posS s ((it3 s j).2.1 + 1) := by
              unfold rgQ at hr
              have := (and_t' (and_t' (and_t' hr).1).1).2
              simp only [decide_eq_true_eq] at this
              exact ⟨by omega, by omega, j2⟩
            have hB : brBad s j = (bif !(it3 s ((it3 s j).2.1 + 1)).2.2 then true else decide ((it3 s ((it3 s j).2.1 + 1)).1 < (it3 s j).1)) := by unfold brBad; rw [hT]
            simp only [cond_true]
            refine ⟨hps, ?_⟩
            rw [← hB]
            rw [hT] at fin h p2
            refine cond_split (fun g3 => ?_) (fun g3 => ?_)
            · rw [g3] at h; exact ⟨(by trivial), h⟩
            · rw [g3] at h
              exact ⟨⟨(by trivial), p1.1.1, p1.1.2, p2.1.1, p2.1.2⟩, (by trivial), ih _ ⟨by omega, by omega, j2⟩ (by have := p2.2.2 (fin g3).1; omega) h⟩
          | false =>
            have hT : brT s j = it3 s j := by unfold brT; rw [hr]; rfl
            have hB : brBad s j = (bif !(it3 s j).2.2 then true else decide ((it3 s j).1 < (it3 s j).1)) := by unfold brBad; rw [hT]
            simp only [cond_false]
            rw [← hB]
            rw [hT] at fin h p2
            refine cond_split (fun g3 => ?_) (fun g3 => ?_)
            · rw [g3] at h; exact ⟨(by trivial), h⟩
            · rw [g3] at h
              exact ⟨⟨(by trivial), p1.1.1, p1.1.2, p2.1.1, p2.1.2⟩, (by trivial), ih _ ⟨by omega, by omega, j2⟩ (by have := p2.2.2 (fin g3).1; omega) h⟩
      · rw [g] at h
        exact ⟨(by trivial), h⟩
  exact main 201 i hp (by obtain ⟨_, _, _⟩ := hp; omega) h
theorem ok236l : OkS (CnB T250) 0 (.loop l236l) S236l := by
 refine okS_loop fun N vals bs K h => ?_
 simp only [S236l] at h
 split at h
 case h_2 => exact h.elim
 rename_i i inv m
 obtain ⟨⟨rfl, rfl⟩, h⟩ := h
 have main : ∀ k j : Nat, j + k = 256 → LoopT (CnB T250) 0 l236l 114 [1,2,6,9,16] [[5000],[5001]] [1,6,9] [[5000],[5001]] [lint i, lbool inv, .ptr [5000] 0, .ptr [5001] 0, lint j] [nB, nB] K := by
  intro k
  induction k with
  | zero =>
   intro j hj
   refine loopT_step (blob_fit base k250 noSm_ok bl176) tab_has noSp_ok (hn := noHn) (adsI := []) (nsI := nm51) (nsX := nm51) rfl rfl (keep (b236l inv i j _) ?_)
   have e1 : decide ((j : Int) < 256) = false := by simp; omega
   rw [e1]
   exact ⟨(by trivial), h⟩
  | succ k ih =>
   intro j hj
   refine loopT_step (blob_fit base k250 noSm_ok bl176) tab_has noSp_ok (hn := noHn) (adsI := []) (nsI := nm51) (nsX := nm51) rfl rfl (keep (b236l inv i j _) ?_)
   have e1 : decide ((j : Int) < 256) = true := by simp; omega
   have e2 : IntKind.i64.wrap ((j : Int) + 1) = ((j + 1 : Nat) : Int) := by rw [Go.IntWalk.i64_in _ (by omega)]; omega
   rw [e1]
   simp only [e2, cond_true]
   exact ⟨⟨by omega, by omega⟩, ⟨by omega, by omega⟩, ⟨by omega, by omega⟩, by omega, (by trivial), ih (j + 1) (by omega)⟩
 exact main 256 0 (by omega)
theorem brL_pos {s : ByteArray} : ∀ {n : Nat} {i : Int}, posS s i → i ≤ (brL s n i).2 ∧ (brL s n i).2 ≤ s.size
 | 0, i, h => by obtain ⟨_, _, _⟩ := h; unfold brL; simp only []; omega
 | n + 1, i, h => by
  have p2 := brT_pos h
  unfold brL
  cases (bif decide (i < (s.size : Int)) then byteAt s i.toNat != 93 else false) with
  | false => obtain ⟨_, _, _⟩ := h; simp only [cond_false]; omega
  | true =>
   simp only [cond_true]
   cases brBad s i with
   | true => obtain ⟨_, _, _⟩ := h; simp only [cond_true]; omega
   | false =>
    simp only [cond_false]
    have := brL_pos (s := s) (n := n) (i := (brT s i).2.1) ⟨by have := h.1; omega, p2.2.1.2, h.2.2⟩
    omega
theorem k236 : TabOk B T236 := by
 refine add_ok k250 fun ds r hp hr => ?_
 unfold c236 at hp hr
 simp only [] at hr hp
 split at hr
 ·
  rename_i s i inv
  cases hr
  have hpp : posS s i := hp
  obtain ⟨h0, h1, h2⟩ := hpp
  have hps := brL_pos (n := 201) hp
  refine ext_body base k250 noSm_ok bl176 (fn := Tryz.f236) (cd := bodyOf Tryz.f236) (sp := spL [(6, S236o), (36, S236l)]) (hn := noHn) Tryz.func236 (by kernel_rfl) (by kernel_rfl) (specT_cons (c := .loop l236o) (by kernel_rfl) ok236o (specT_cons (c := .loop l236l) (by kernel_rfl) ok236l specT_nil)) (keep (w236 s i inv fun v => v = _) ?_)
  rw [wr (x := (brL s 201 i).2 + 1) (by omega) (by omega)]
  unfold brQ
  refine ⟨⟨(by trivial), (by trivial), hp⟩, cond_split (fun g => ?_) (fun g => ?_)⟩
  ·
   simp only [g, cond_true]
   refine cond_split (fun g => ?_) (fun g => ?_)
   ·
    simp only [g, cond_true]
   ·
    simp only [g, cond_false]; exact ⟨⟨(by trivial), (by trivial)⟩, (by trivial)⟩
  ·
   simp only [g, cond_false]
 ·
  cases hr
def postB (s : ByteArray) (k : Nat) : Bool := bif decide ((k : Int) < (s.size : Int)) then (bif (bif byteAt s k == 42 then true else byteAt s k == 43) then true else byteAt s k == 63) else false
mutual
noncomputable def atomQ (s : ByteArray) (i : Nat) : Bool × Nat :=
 if h : i < s.size then
  (bif !specQ (byteAt s i) then (true, i + 1) else
  bif byteAt s i == 46 then (true, i + 1) else
  bif (bif byteAt s i == 92 then decide ((i : Int) + 1 < (s.size : Int)) else false) then (escE (byteAt s (i + 1)), i + 2) else
  bif (bif (bif byteAt s i == 91 then decide ((i : Int) + 1 < (s.size : Int)) else false) then byteAt s (i + 1) == 94 else false) then ((brQ s ((i : Int) + 2)).1, (brQ s ((i : Int) + 2)).2.toNat) else
  bif byteAt s i == 91 then ((brQ s ((i : Int) + 1)).1, (brQ s ((i : Int) + 1)).2.toNat) else
  bif byteAt s i != 40 then (false, i) else
  bif (bif (bif !(exprQ s (i + 1)).1 then true else decide (((exprQ s (i + 1)).2 : Int) ≥ (s.size : Int))) then true else byteAt s (exprQ s (i + 1)).2 != 41) then (false, i) else (true, (exprQ s (i + 1)).2 + 1))
 else (false, i)
termination_by (s.size - i) * 2
noncomputable def exprQ (s : ByteArray) (i : Nat) : Bool × Nat :=
 if h : i < s.size then
  (if byteAt s i = 41 then (true, i)
  else if byteAt s i = 124 then exprQ s (i + 1)
  else if (atomQ s i).1 then
   (if h2 : i < (atomQ s i).2 then
    (if postB s (atomQ s i).2 then (if postB s ((atomQ s i).2 + 1) then (false, (atomQ s i).2 + 1) else exprQ s ((atomQ s i).2 + 1)) else exprQ s (atomQ s i).2)
   else (false, i))
  else (false, i))
 else (true, i)
termination_by (s.size - i) * 2 + 1
end
noncomputable def c216 : Ct := ⟨fun | [.lit (.string s), .lit (.int .i64 i)] => posS s i ∧ i < s.size | _ => False, fun | [.lit (.string s), .lit (.int .i64 i)] => some (.tup [.agg nodeA, .lit (.int .i64 (atomQ s i.toNat).2), .lit (.bool (atomQ s i.toNat).1)]) | _ => none⟩
noncomputable def c193 : Ct := ⟨fun | [.lit (.string s), .lit (.int .i64 i)] => posS s i | _ => False, fun | [.lit (.string s), .lit (.int .i64 i)] => some (.tup [.agg nodeA, .lit (.int .i64 (exprQ s i.toNat).2), .lit (.bool (exprQ s i.toNat).1)]) | _ => none⟩
noncomputable def grpQ : List (FuncId × Ct) := [(216, c216), (193, c193)]
def muQ (K : FuncId) (ds : List D) : Nat := match ds with
 | [.lit (.string s), .lit (.int _ i)] => (s.size - i.toNat) * 2 + (bif K == 216 then 0 else 1)
 | _ => 0
noncomputable def UQ (n : Nat) : Tab := T236.addG (belowC grpQ muQ n)
noncomputable def l216 : Code := roundOf (pieceAt (bodyOf Tryz.f216) 14)
theorem b216 (n : Nat) (i : Int) (k : Int) (R : X → List V → List Box → Prop) : (roundT (CnB (UQ n)) (UQ n) (smCS noSm) 0 noSp noHn l216 122 [1, 4, 8, 9] [[5000], [5001]] [] nm51 [1, 4, 8] nm51
 [lint i, V.ptr [5000] 0, V.ptr [5001] 0, lint k] [nB, nB] R) =
 (bif decide (k < 256) then
 ((((0 : Int) ≤ k) ∧ k.toNat < 256) ∧
 (1 + k.toNat * 1 < 259 ∧
 (122 = 122 ∧
 R X.normal
 [V.d (D.lit (Value.int IntKind.i64 i)), V.ptr [5000] 0, V.ptr [5001] 0,
 V.d (D.lit (Value.int IntKind.i64 (IntKind.i64.wrap (k + 1))))]
 [Box.blob 176 259 1 257, Box.blob 176 259 1 257]))) else
 (122 = 122 ∧
 R (X.exit 0) [V.d (D.lit (Value.int IntKind.i64 i)), V.ptr [5000] 0, V.ptr [5001] 0]
 [Box.blob 176 259 1 257, Box.blob 176 259 1 257])) := by kernel_rfl
def S216 : Ev.Spec := { L := [1,4,8,9], ns := [([5000],[6]),([5001],[10])], L' := [1,4,8], nm' := [[5000],[5001]], G := fun N vals bs k => match vals, bs with
 | [.d (.lit (.int .i64 i)), .ptr [5000] 0, .ptr [5001] 0, .d (.lit (.int .i64 m))], [.blob 176 259 1 257, .blob 176 259 1 257] => (N = 122 ∧ m = 0) ∧ k (.exit 0) [lint i, .ptr [5000] 0, .ptr [5001] 0] [nB, nB]
 | _, _ => False }
theorem w216 (n : Nat) (s : ByteArray) (i : Int) (p : V → Prop) : (evBodyT (CnB (UQ n)) (UQ n) (smCS noSm) 0 (spL [(14, S216)]) noHn 216 [V.d (sD s), V.d (ntD i)] Heap.empty fun v H =>
  p (freezeR H v)) =
  ((((0 : Int) ≤ i) ∧ i.toNat < s.size) ∧
  (True ∧
  (bif !specQ (byteAt s i.toNat) then
   ((((0 : Int) ≤ byteAt s i.toNat) ∧ ((byteAt s i.toNat : Int) < 256)) ∧
   p
  (V.d
    (D.tup
      [D.agg
          nodeA,
        D.lit (Value.int IntKind.i64 (IntKind.i64.wrap (i + 1))), D.lit (Value.bool true)]))) else
   (bif byteAt s i.toNat == 46 then
    ((122 = 122 ∧ ((0 : Int) = 0)) ∧
    p
  (V.d
    (D.tup
      [D.agg
          nodeA,
        D.lit (Value.int IntKind.i64 (IntKind.i64.wrap (i + 1))), D.lit (Value.bool true)]))) else
    (bif bif byteAt s i.toNat == 92 then decide (IntKind.i64.wrap (i + 1) < (↑s.size : Int)) else false then
     ((((0 : Int) ≤ IntKind.i64.wrap (i + 1)) ∧ (IntKind.i64.wrap (i + 1)).toNat < s.size) ∧
     ((((0 : Int) ≤ byteAt s (IntKind.i64.wrap (i + 1)).toNat) ∧ ((byteAt s (IntKind.i64.wrap (i + 1)).toNat : Int) < 256)) ∧
     p
  (V.d
    (D.tup
      [D.agg
          nodeA,
        D.lit (Value.int IntKind.i64 (IntKind.i64.wrap (i + 2))),
        D.lit (Value.bool (escE (byteAt s (IntKind.i64.wrap (i + 1)).toNat)))])))) else
     ((((bif byteAt s i.toNat == 91 then decide (IntKind.i64.wrap (i + 1) < (↑s.size : Int)) else false) && true) = true → (((0 : Int) ≤ IntKind.i64.wrap (i + 1)) ∧ (IntKind.i64.wrap (i + 1)).toNat < s.size)) ∧
     (bif bif bif byteAt s i.toNat == 91 then decide (IntKind.i64.wrap (i + 1) < (↑s.size : Int)) else false then
  byteAt s (IntKind.i64.wrap (i + 1)).toNat == 94
else false then
      ((((0 : Int) ≤ IntKind.i64.wrap (i + 2)) ∧ (((IntKind.i64.wrap (i + 2) : Int) ≤ (↑s.size : Int)) ∧ s.size ≤ 200)) ∧
      p
  (V.d
    (D.tup
      [D.agg
          nodeA,
        D.lit (Value.int IntKind.i64 (brQ s (IntKind.i64.wrap (i + 2))).snd),
        D.lit (Value.bool (brQ s (IntKind.i64.wrap (i + 2))).fst)]))) else
      (bif byteAt s i.toNat == 91 then
       ((((0 : Int) ≤ IntKind.i64.wrap (i + 1)) ∧ (((IntKind.i64.wrap (i + 1) : Int) ≤ (↑s.size : Int)) ∧ s.size ≤ 200)) ∧
       p
  (V.d
    (D.tup
      [D.agg
          nodeA,
        D.lit (Value.int IntKind.i64 (brQ s (IntKind.i64.wrap (i + 1))).snd),
        D.lit (Value.bool (brQ s (IntKind.i64.wrap (i + 1))).fst)]))) else
       (bif byteAt s i.toNat != 40 then
        p
  (V.d
    (D.tup
      [D.agg
          nodeA,
        D.lit (Value.int IntKind.i64 i), D.lit (Value.bool false)])) else
        (((((0 : Int) ≤ IntKind.i64.wrap (i + 1)) ∧ (((IntKind.i64.wrap (i + 1) : Int) ≤ (↑s.size : Int)) ∧ s.size ≤ 200)) ∧ muQ 193 [D.lit (Value.string s), D.lit (Value.int IntKind.i64 (IntKind.i64.wrap (i + 1)))] < n) ∧
        ((((!bif !(exprQ s (IntKind.i64.wrap (i + 1)).toNat).fst then true
      else decide ((↑(exprQ s (IntKind.i64.wrap (i + 1)).toNat).snd : Int) ≥ (↑s.size : Int))) &&
    true) =
  true → (((0 : Int) ≤ (↑(exprQ s (IntKind.i64.wrap (i + 1)).toNat).snd : Int)) ∧ (↑(exprQ s (IntKind.i64.wrap (i + 1)).toNat).snd : Int).toNat < s.size)) ∧
        (bif bif
    bif !(exprQ s (IntKind.i64.wrap (i + 1)).toNat).fst then true
    else decide ((↑(exprQ s (IntKind.i64.wrap (i + 1)).toNat).snd : Int) ≥ (↑s.size : Int)) then
  true
else byteAt s (↑(exprQ s (IntKind.i64.wrap (i + 1)).toNat).snd : Int).toNat != 41 then
         p
  (V.d
    (D.tup
      [D.agg
          nodeA,
        D.lit (Value.int IntKind.i64 i), D.lit (Value.bool false)])) else
         p
  (V.d
    (D.tup
      [D.agg
          nodeA,
        D.lit (Value.int IntKind.i64 (IntKind.i64.wrap ((↑(exprQ s (IntKind.i64.wrap (i + 1)).toNat).snd : Int) + 1))),
        D.lit (Value.bool true)])))))))))))))) := by kernel_rfl
abbrev nodeV (k : Int) (r : V) : List V := lint k :: (List.replicate 256 (lbool false) ++ [lbool false, r])
abbrev nodeX (k : Int) (r : D) : List D := .lit (.int .i64 k) :: (List.replicate 256 (.lit (.bool false)) ++ [.lit (.bool false), r])
abbrev nilS : V := .d (.slice true 0 [])
abbrev nm5 : List (Name × Name) := [([5000],[5000]),([5001],[5001]),([5002],[5002]),([5003],[5003]),([5004],[5004])]
abbrev nm5n : List Name := [[5000],[5001],[5002],[5003],[5004]]
abbrev rowN (nl : Bool) (xs : List D) : Box := .arr true nl 176 259 xs []
abbrev bx5 (n1 n2 : Bool) (xs ys : List D) : List Box := [.cells 176 (nodeV 0 nilS), .cells 176 (nodeV 3 (.ref [5003])), .cells 176 (nodeV 2 (.ref [5004])), rowN n1 xs, rowN n2 ys]
abbrev bx5r (n1 n2 : Bool) (xs ys : List D) : List Box := [nB, .cells 176 (nodeV 3 (.ref [5003])), .cells 176 (nodeV 2 (.ref [5004])), rowN n1 xs, rowN n2 ys]
noncomputable def l193 : Code := roundOf (pieceAt (bodyOf Tryz.f193) 6)
def h193 : Nat → Option Hint := fun id => match id with
 | 7 => some { ads := [.cell [5002] 258 176 259 [6000]], cut := [([0,1,4,7,8], [([5000],[5000]),([5001],[5001]),([5002],[5002]),([5003],[34]),([5004],[6000])])] }
 | 17 => some { cut := [([0,1,4,7,8], [([5000],[5000]),([5001],[5001]),([5002],[5002]),([5003],[5003]),([5004],[108])])] }
 | 10 => some { ads := [.blob [5000] 1 257] }
 | 16 => some { ads := [.blob [5000] 1 257] }
 | 19 => some { ads := [.blob [5000] 1 257] }
 | _ => none
def noBl (_ : TypeId) : Option (Nat × Nat) := none
noncomputable def CnP (tb : Tab) : Cx := (B.blobs noBl).tab tb
theorem b193 (n : Nat) (s : ByteArray) (i : Int) (n1 : Bool) (n2 : Bool) (xs : List D) (ys : List D) (R : X → List V → List Box → Prop) : (roundT (CnP (UQ n)) (UQ n) (smCS noSm) 0 noSp h193 l193 116 [0, 1, 4, 7, 8] nm5n [] nm5 [1, 4, 5, 6, 7, 8] nm5
  [lstr s, lint i, V.ptr [5000] 0, V.ptr [5001] 0, V.ptr [5002] 0] (bx5 n1 n2 xs ys) R) =
  (((decide (i < (↑s.size : Int)) && true) = true → (((0 : Int) ≤ i) ∧ i.toNat < s.size)) ∧
  (bif bif decide (i < (↑s.size : Int)) then byteAt s i.toNat != 41 else false then
   ((((0 : Int) ≤ i) ∧ i.toNat < s.size) ∧
   (bif byteAt s i.toNat == 124 then
    (bif ((xs.length + 1) * 296).ble 70368744177664 then
     (116 = 116 ∧
     R X.normal
  [V.d (D.lit (Value.string s)), V.d (D.lit (Value.int IntKind.i64 (IntKind.i64.wrap (i + 1)))), V.ptr [5000] 0,
    V.ptr [5001] 0, V.ptr [5002] 0]
  [Box.cells 176
      (nodeV 0 (V.d (D.slice true 0 []))),
    Box.cells 176
      (nodeV 3 (V.ref [5003])),
    Box.cells 176
      (nodeV 2 (V.ref [5004])),
    Box.arr true (n1 && false) 176 259
      (xs ++
        [D.agg
            (nodeX 2 (D.slice n2 259 ys))])
      [],
    Box.arr true true 176 259 [] []]) else
     False) else
    (((posS s i ∧ ((i : Int) < (↑s.size : Int))) ∧ muQ 216 [D.lit (Value.string s), D.lit (Value.int IntKind.i64 i)] < n) ∧
    (bif !(atomQ s i.toNat).fst then
     (116 = 116 ∧
     R X.ret
  [V.d (D.lit (Value.int IntKind.i64 i)), V.ptr [5000] 0, V.d (D.lit (Value.int IntKind.i64 i)),
    V.d (D.lit (Value.bool false)), V.ptr [5001] 0, V.ptr [5002] 0]
  [Box.blob 176 259 1 257,
    Box.cells 176
      (nodeV 3 (V.ref [5003])),
    Box.cells 176
      (nodeV 2 (V.ref [5004])),
    Box.arr true n1 176 259 xs [], Box.arr true n2 176 259 ys []]) else
     (((decide ((↑(atomQ s i.toNat).snd : Int) < (↑s.size : Int)) && true) = true → (((0 : Int) ≤ (↑(atomQ s i.toNat).snd : Int)) ∧ (↑(atomQ s i.toNat).snd : Int).toNat < s.size)) ∧
     (((!byteAt s (↑(atomQ s i.toNat).snd : Int).toNat == 42 &&
    (decide ((↑(atomQ s i.toNat).snd : Int) < (↑s.size : Int)) && true)) =
  true → (((0 : Int) ≤ (↑(atomQ s i.toNat).snd : Int)) ∧ (↑(atomQ s i.toNat).snd : Int).toNat < s.size)) ∧
     ((((!bif byteAt s (↑(atomQ s i.toNat).snd : Int).toNat == 42 then true
      else byteAt s (↑(atomQ s i.toNat).snd : Int).toNat == 43) &&
    (decide ((↑(atomQ s i.toNat).snd : Int) < (↑s.size : Int)) && true)) =
  true → (((0 : Int) ≤ (↑(atomQ s i.toNat).snd : Int)) ∧ (↑(atomQ s i.toNat).snd : Int).toNat < s.size)) ∧
     (bif bif decide ((↑(atomQ s i.toNat).snd : Int) < (↑s.size : Int)) then
  bif
      bif byteAt s (↑(atomQ s i.toNat).snd : Int).toNat == 42 then true
      else byteAt s (↑(atomQ s i.toNat).snd : Int).toNat == 43 then
    true
  else byteAt s (↑(atomQ s i.toNat).snd : Int).toNat == 63
else false then
      ((((0 : Int) ≤ (↑(atomQ s i.toNat).snd : Int)) ∧ (↑(atomQ s i.toNat).snd : Int).toNat < s.size) ∧
      (D.agg
    nodeA =
  D.agg
    nodeA ∧
      (((decide (IntKind.i64.wrap ((↑(atomQ s i.toNat).snd : Int) + 1) < (↑s.size : Int)) && true) = true → (((0 : Int) ≤ IntKind.i64.wrap ((↑(atomQ s i.toNat).snd : Int) + 1)) ∧ (IntKind.i64.wrap ((↑(atomQ s i.toNat).snd : Int) + 1)).toNat < s.size)) ∧
      (((!byteAt s (IntKind.i64.wrap ((↑(atomQ s i.toNat).snd : Int) + 1)).toNat == 42 &&
    (decide (IntKind.i64.wrap ((↑(atomQ s i.toNat).snd : Int) + 1) < (↑s.size : Int)) && true)) =
  true → (((0 : Int) ≤ IntKind.i64.wrap ((↑(atomQ s i.toNat).snd : Int) + 1)) ∧ (IntKind.i64.wrap ((↑(atomQ s i.toNat).snd : Int) + 1)).toNat < s.size)) ∧
      ((((!bif byteAt s (IntKind.i64.wrap ((↑(atomQ s i.toNat).snd : Int) + 1)).toNat == 42 then true
      else byteAt s (IntKind.i64.wrap ((↑(atomQ s i.toNat).snd : Int) + 1)).toNat == 43) &&
    (decide (IntKind.i64.wrap ((↑(atomQ s i.toNat).snd : Int) + 1) < (↑s.size : Int)) && true)) =
  true → (((0 : Int) ≤ IntKind.i64.wrap ((↑(atomQ s i.toNat).snd : Int) + 1)) ∧ (IntKind.i64.wrap ((↑(atomQ s i.toNat).snd : Int) + 1)).toNat < s.size)) ∧
      (bif bif decide (IntKind.i64.wrap ((↑(atomQ s i.toNat).snd : Int) + 1) < (↑s.size : Int)) then
  bif
      bif byteAt s (IntKind.i64.wrap ((↑(atomQ s i.toNat).snd : Int) + 1)).toNat == 42 then true
      else byteAt s (IntKind.i64.wrap ((↑(atomQ s i.toNat).snd : Int) + 1)).toNat == 43 then
    true
  else byteAt s (IntKind.i64.wrap ((↑(atomQ s i.toNat).snd : Int) + 1)).toNat == 63
else false then
       (116 = 116 ∧
       R X.ret
  [V.d (D.lit (Value.int IntKind.i64 (IntKind.i64.wrap ((↑(atomQ s i.toNat).snd : Int) + 1)))), V.ptr [5000] 0,
    V.d (D.lit (Value.int IntKind.i64 (IntKind.i64.wrap ((↑(atomQ s i.toNat).snd : Int) + 1)))),
    V.d (D.lit (Value.bool false)), V.ptr [5001] 0, V.ptr [5002] 0]
  [Box.blob 176 259 1 257,
    Box.cells 176
      (nodeV 3 (V.ref [5003])),
    Box.cells 176
      (nodeV 2 (V.ref [5004])),
    Box.arr true n1 176 259 xs [], Box.arr true n2 176 259 ys []]) else
       (bif ((ys.length + 1) * 296).ble 70368744177664 then
        (116 = 116 ∧
        R X.normal
  [V.d (D.lit (Value.string s)),
    V.d (D.lit (Value.int IntKind.i64 (IntKind.i64.wrap ((↑(atomQ s i.toNat).snd : Int) + 1)))), V.ptr [5000] 0,
    V.ptr [5001] 0, V.ptr [5002] 0]
  [Box.cells 176
      (nodeV 0 (V.d (D.slice true 0 []))),
    Box.cells 176
      (nodeV 3 (V.ref [5003])),
    Box.cells 176
      (nodeV 2 (V.ref [5004])),
    Box.arr true n1 176 259 xs [],
    Box.arr true (n2 && false) 176 259
      (ys ++
        [D.agg
            nodeA])
      []]) else
        False))))))) else
      (bif ((ys.length + 1) * 296).ble 70368744177664 then
       (116 = 116 ∧
       R X.normal
  [V.d (D.lit (Value.string s)), V.d (D.lit (Value.int IntKind.i64 (↑(atomQ s i.toNat).snd : Int))), V.ptr [5000] 0,
    V.ptr [5001] 0, V.ptr [5002] 0]
  [Box.cells 176
      (nodeV 0 (V.d (D.slice true 0 []))),
    Box.cells 176
      (nodeV 3 (V.ref [5003])),
    Box.cells 176
      (nodeV 2 (V.ref [5004])),
    Box.arr true n1 176 259 xs [],
    Box.arr true (n2 && false) 176 259
      (ys ++
        [D.agg
            nodeA])
      []]) else
       False))))))))) else
   (116 = 116 ∧
   R (X.exit 0) [V.d (D.lit (Value.int IntKind.i64 i)), V.ptr [5000] 0, V.any, V.any, V.ptr [5001] 0, V.ptr [5002] 0]
  [Box.cells 176
      (nodeV 0 (V.d (D.slice true 0 []))),
    Box.cells 176
      (nodeV 3 (V.ref [5003])),
    Box.cells 176
      (nodeV 2 (V.ref [5004])),
    Box.arr true n1 176 259 xs [], Box.arr true n2 176 259 ys []]))) := by kernel_rfl
noncomputable def S193 (n : Nat) : Ev.Spec := { L := [0,1,4,7,8], ns := [([5000],[6]),([5001],[9]),([5002],[10]),([5003],[6003]),([5004],[6004])], ads := [.cell [9] 258 176 259 [6003], .cell [10] 258 176 259 [6004]], L' := [1,4,5,6,7,8], nm' := nm5n, G := fun N vals bs k => match vals, bs with
  | [.d (.lit (.string s)), .d (.lit (.int .i64 i)), .ptr [5000] 0, .ptr [5001] 0, .ptr [5002] 0], [.cells 176 c0, .cells 176 c1, .cells 176 c2, .arr true n1 176 259 [] [], .arr true n2 176 259 [] []] => (N = 116 ∧ posS s i ∧ (s.size - i.toNat) * 2 + 1 ≤ n ∧ c0 = nodeV 0 nilS ∧ c1 = nodeV 3 (.ref [5003]) ∧ c2 = nodeV 2 (.ref [5004])) ∧
      ∀ (n1 n2 : Bool) (xs ys : List D), xs.length ≤ 200 → ys.length ≤ 200 → (bif (exprQ s i.toNat).1 then k (.exit 0) [lint (exprQ s i.toNat).2, .ptr [5000] 0, .any, .any, .ptr [5001] 0, .ptr [5002] 0] (bx5 n1 n2 xs ys)
       else k .ret [lint (exprQ s i.toNat).2, .ptr [5000] 0, lint (exprQ s i.toNat).2, lbool false, .ptr [5001] 0, .ptr [5002] 0] (bx5r n1 n2 xs ys))
  | _, _ => False }
theorem w193 (n : Nat) (s : ByteArray) (i : Int) (p : V → Prop) : (evBodyT (CnP (UQ n)) (UQ n) (smCS noSm) 0 (spL [(6, S193 n)]) h193 193 [V.d (sD s), V.d (ntD i)] Heap.empty fun v H =>
 p (freezeR H v)) =
 ((116 = 116 ∧ (posS s i ∧ ((s.size - i.toNat) * 2 + 1 ≤ n ∧ ((nodeV 0 (V.d (D.slice true 0 []))) =
 (nodeV 0 (V.d (D.slice true 0 []))) ∧ ((nodeV 3 (V.ref [5003])) =
 (nodeV 3 (V.ref [5003])) ∧ (nodeV 2 (V.ref [5004])) =
 (nodeV 2 (V.ref [5004]))))))) ∧
 (∀ z0 : Bool, (∀ z1 : Bool, (∀ z2 : List D, (∀ z3 : List D, (z2.length ≤ 200 → (z3.length ≤ 200 → (bif (exprQ s i.toNat).fst then
 (bif ((z2.length + 1) * 296).ble 70368744177664 then
 p
 (V.d
 (D.tup
 [D.agg
 nodeA,
 D.lit (Value.int IntKind.i64 (↑(exprQ s i.toNat).snd : Int)), D.lit (Value.bool true)])) else
 False) else
 p
 (V.d
 (D.tup
 [D.agg
 nodeA,
 D.lit (Value.int IntKind.i64 (↑(exprQ s i.toNat).snd : Int)), D.lit (Value.bool false)])))))))))) := by kernel_rfl
noncomputable def TQ : Tab := T236.addG grpQ
noncomputable def rxQ (s : ByteArray) : Int := bif decide ((s.size : Int) > 200) then 4 else bif (bif !(exprQ s 0).1 then true else ((exprQ s 0).2 : Int) != (s.size : Int)) then 3 else 0
theorem w149 (s : ByteArray) (p : V → Prop) : (evBodyT (CnB TQ) TQ (smCS noSm) 0 noSp noHn 149 [V.d (sD s)] Heap.empty fun v H => p (freezeR H v)) =
 (bif decide ((↑s.size : Int) > 200) then
 p
 (V.d
 (D.tup
 [D.agg
 nodeA,
 D.lit (Value.int IntKind.i64 4)])) else
 ((((0 : Int) ≤ 0) ∧ (((0 : Int) ≤ (↑s.size : Int)) ∧ s.size ≤ 200)) ∧
 (bif bif !(exprQ s 0).fst then true else (↑(exprQ s 0).snd : Int) != (↑s.size : Int) then
 p
 (V.d
 (D.tup
 [D.agg
 nodeA,
 D.lit (Value.int IntKind.i64 3)])) else
 p
 (V.d
 (D.tup
 [D.agg
 nodeA,
 D.lit (Value.int IntKind.i64 0)]))))) := by kernel_rfl
noncomputable def c149 : Ct := ⟨fun _ => True, fun | [.lit (.string s)] => some (.tup [.agg nodeA, .lit (.int .i64 (rxQ s))]) | _ => none⟩
noncomputable def T149 : Tab := TQ.add 149 c149
theorem w80 (s : ByteArray) (p : V → Prop) : (evBodyT (CnB T149) T149 (smCS noSm) 0 noSp noHn 80 [V.d (sD s)] Heap.empty fun v H => p (freezeR H v)) =
 (True ∧
 p (V.d (D.lit (Value.int IntKind.i64 (rxQ s))))) := by kernel_rfl
noncomputable def c80 : Ct := ⟨fun _ => True, fun | [.lit (.string s)] => some (.lit (.int .i64 (rxQ s))) | _ => none⟩
noncomputable def T80 : Tab := T149.add 80 c80
theorem brQ_pos {s : ByteArray} {i : Int} (h : posS s i) : i ≤ (brQ s i).2 ∧ (brQ s i).2 ≤ s.size := by
 have hp := brL_pos (n := 201) h
 unfold brQ
 cases (brL s 201 i).1 with
 | false => simp only [cond_false]; exact hp
 | true =>
  simp only [cond_true]
  cases g : (bif decide ((brL s 201 i).2 ≥ (s.size : Int)) then true else (brL s 201 i).2 == i) with
  | true => simp only [cond_true]; exact hp
  | false =>
   have := (or_f' g).1
   simp only [decide_eq_false_iff_not] at this
   simp only [cond_false]; omega
theorem bne_t {a b : Int} (h : (a != b) = true) : a ≠ b := by simpa using h
theorem bne_f {a b : Int} (h : (a != b) = false) : a = b := by simpa using h
theorem gramQ_pos (s : ByteArray) (h2 : s.size ≤ 200) : ∀ (n i : Nat), i ≤ s.size → s.size - i ≤ n →
  (i ≤ (atomQ s i).2 ∧ (atomQ s i).2 ≤ s.size ∧ ((atomQ s i).1 = true → i < (atomQ s i).2)) ∧ (i ≤ (exprQ s i).2 ∧ (exprQ s i).2 ≤ s.size) := by
 intro n
 induction n with
 | zero =>
  intro i hi hn
  have hlt : ¬ i < s.size := by omega
  have hA : atomQ s i = (false, i) := by unfold atomQ; rw [dif_neg hlt]
  have hE : exprQ s i = (true, i) := by unfold exprQ; rw [dif_neg hlt]
  rw [hA, hE]
  exact ⟨⟨Nat.le_refl _, hi, fun h => by cases h⟩, Nat.le_refl _, hi⟩
 | succ n ih =>
  intro i hi hn
  by_cases hlt : i < s.size
  ·
   have hA : i ≤ (atomQ s i).2 ∧ (atomQ s i).2 ≤ s.size ∧ ((atomQ s i).1 = true → i < (atomQ s i).2) := by
    have hc := (ih (i + 1) (by omega) (by omega)).2
    have hb1 := brQ_pos (s := s) (i := (i : Int) + 1) ⟨by omega, by omega, h2⟩
    unfold atomQ
    rw [dif_pos hlt]
    cases !specQ (byteAt s i) with
    | true => simp only [cond_true]; omega
    | false =>
    simp only [cond_false]
    cases byteAt s i == 46 with
    | true => simp only [cond_true]; omega
    | false =>
    simp only [cond_false]
    cases g1 : (bif byteAt s i == 92 then decide ((i : Int) + 1 < (s.size : Int)) else false) with
    | true =>
     have := (and_t' g1).2
     simp only [decide_eq_true_eq] at this
     simp only [cond_true]; omega
    | false =>
    simp only [cond_false]
    cases g2 : (bif (bif byteAt s i == 91 then decide ((i : Int) + 1 < (s.size : Int)) else false) then byteAt s (i + 1) == 94 else false) with
    | true =>
     have := (and_t' (and_t' g2).1).2
     simp only [decide_eq_true_eq] at this
     have hb2 := brQ_pos (s := s) (i := (i : Int) + 2) ⟨by omega, by omega, h2⟩
     simp only [cond_true]; omega
    | false =>
    simp only [cond_false]
    cases byteAt s i == 91 with
    | true => simp only [cond_true]; omega
    | false =>
    simp only [cond_false]
    cases byteAt s i != 40 with
    | true => simp only [cond_true]; exact ⟨Nat.le_refl _, hi, fun h => by cases h⟩
    | false =>
    simp only [cond_false]
    cases g3 : (bif (bif !(exprQ s (i + 1)).1 then true else decide (((exprQ s (i + 1)).2 : Int) ≥ (s.size : Int))) then true else byteAt s (exprQ s (i + 1)).2 != 41) with
    | true => simp only [cond_true]; exact ⟨Nat.le_refl _, hi, fun h => by cases h⟩
    | false =>
     have := (or_f' (or_f' g3).1).2
     simp only [decide_eq_false_iff_not] at this
     simp only [cond_false]; omega
   refine ⟨hA, ?_⟩
   unfold exprQ
   rw [dif_pos hlt]
   split
   ·
    exact ⟨Nat.le_refl _, hi⟩
   ·
    split
    ·
     have := (ih (i + 1) (by omega) (by omega)).2; omega
    ·
     split
     ·
      split
      ·
       rename_i g
       split
       ·
        rename_i g1
        have hlt2 : (atomQ s i).2 < s.size := by
         unfold postB at g1
         have := (and_t' g1).1
         simp only [decide_eq_true_eq] at this
         omega
        split
        ·
         simp only []; omega
        ·
         have := (ih ((atomQ s i).2 + 1) (by omega) (by omega)).2; omega
       ·
        have := (ih ((atomQ s i).2) (by omega) (by omega)).2; omega
      ·
       exact ⟨Nat.le_refl _, hi⟩
     ·
      exact ⟨Nat.le_refl _, hi⟩
  ·
   exact ih i hi (by omega)
theorem ok216 {n : Nat} (hk : TabOk B (UQ n)) : OkS (CnB (UQ n)) 0 (.loop l216) S216 := by
 refine okS_loop fun N vals bs K h => ?_
 simp only [S216] at h
 split at h
 case h_2 => exact h.elim
 rename_i i m
 obtain ⟨⟨rfl, rfl⟩, h⟩ := h
 have main : ∀ k j : Nat, j + k = 256 → LoopT (CnB (UQ n)) 0 l216 122 [1,4,8,9] [[5000],[5001]] [1,4,8] [[5000],[5001]] [lint i, .ptr [5000] 0, .ptr [5001] 0, lint j] [nB, nB] K := by
  intro k
  induction k with
  | zero =>
   intro j hj
   refine loopT_step (blob_fit base hk noSm_ok bl176) tab_has noSp_ok (hn := noHn) (adsI := []) (nsI := nm51) (nsX := nm51) rfl rfl (keep (b216 n i j _) ?_)
   have e1 : decide ((j : Int) < 256) = false := by simp; omega
   rw [e1]
   exact ⟨(by trivial), h⟩
  | succ k ih =>
   intro j hj
   refine loopT_step (blob_fit base hk noSm_ok bl176) tab_has noSp_ok (hn := noHn) (adsI := []) (nsI := nm51) (nsX := nm51) rfl rfl (keep (b216 n i j _) ?_)
   have e1 : decide ((j : Int) < 256) = true := by simp; omega
   have e2 : IntKind.i64.wrap ((j : Int) + 1) = ((j + 1 : Nat) : Int) := by rw [Go.IntWalk.i64_in _ (by omega)]; omega
   rw [e1]
   simp only [e2, cond_true]
   exact ⟨⟨by omega, by omega⟩, by omega, (by trivial), ih (j + 1) (by omega)⟩
 exact main 256 0 (by omega)
theorem posB_lt {s : ByteArray} {k : Nat} (h : postB s k = true) : k < s.size := by
 unfold postB at h
 have := (and_t' h).1
 simp only [decide_eq_true_eq] at this
 omega
theorem ok193 {n : Nat} (hk : TabOk B (UQ n)) : OkS (CnP (UQ n)) 0 (.loop l193) (S193 n) := by
  refine okS_loop fun N vals bs K h => ?_
  simp only [S193] at h
  split at h
  case h_2 => exact h.elim
  rename_i s i c0 c1 c2 n1 n2
  obtain ⟨⟨rfl, ⟨h0, h1, h2⟩, hm, rfl, rfl, rfl⟩, h⟩ := h
  obtain ⟨i, rfl⟩ := Int.eq_ofNat_of_zero_le h0
  rw [Int.toNat_natCast] at h hm
  have key : ∀ (k i : Nat) (n1 n2 : Bool) (xs ys : List D), i ≤ s.size → s.size - i ≤ k → (s.size - i) * 2 + 1 ≤ n → xs.length ≤ i → ys.length ≤ i →
      (∀ (n1 n2 : Bool) (xs ys : List D), xs.length ≤ 200 → ys.length ≤ 200 → (bif (exprQ s i).1 then K (.exit 0) [lint (exprQ s i).2, .ptr [5000] 0, .any, .any, .ptr [5001] 0, .ptr [5002] 0] (bx5 n1 n2 xs ys)
       else K .ret [lint (exprQ s i).2, .ptr [5000] 0, lint (exprQ s i).2, lbool false, .ptr [5001] 0, .ptr [5002] 0] (bx5r n1 n2 xs ys))) →
      LoopT (CnP (UQ n)) 0 l193 116 [0,1,4,7,8] nm5n [1,4,5,6,7,8] nm5n [lstr s, lint i, .ptr [5000] 0, .ptr [5001] 0, .ptr [5002] 0] (bx5 n1 n2 xs ys) K := by
    intro k
    induction k with
    | zero =>
      intro i n1 n2 xs ys hi hn hm hx hy h
      have hlt : ¬ i < s.size := by omega
      have hE : exprQ s i = (true, i) := by unfold exprQ; rw [dif_neg hlt]
      rw [hE] at h
      refine loopT_step (blob_fit base hk noSm_ok noBl) tab_has noSp_ok (hn := h193) (adsI := []) (nsI := nm5) (nsX := nm5) rfl rfl (keep (b193 n s i n1 n2 xs ys _) ?_)
      have e1 : decide ((i : Int) < (s.size : Int)) = false := by simp; omega
      rw [e1]
      simp only [cond_false]
      exact ⟨(fun g => by cases g), (by trivial), h n1 n2 xs ys (by omega) (by omega)⟩
    | succ k ih =>
      intro i n1 n2 xs ys hi hn hm hx hy h
      by_cases hlt : i < s.size
      · have hps := (gramQ_pos s h2 (s.size - i) i hi (by omega)).1
        have e1 : decide ((i : Int) < (s.size : Int)) = true := by simp; omega
        have hxr : ((xs.length + 1) * 296).ble 70368744177664 = true := by rw [Nat.ble_eq]; omega
        have hyr : ((ys.length + 1) * 296).ble 70368744177664 = true := by rw [Nat.ble_eq]; omega
        unfold exprQ at h
        rw [dif_pos hlt] at h
        refine loopT_step (blob_fit base hk noSm_ok noBl) tab_has noSp_ok (hn := h193) (adsI := []) (nsI := nm5) (nsX := nm5) rfl rfl (keep (b193 n s i n1 n2 xs ys _) ?_)
        rw [e1, hxr, hyr]
        simp only [cond_true, Int.toNat_natCast]
        refine ⟨fun _ => by omega, cond_split (fun g => ?_) (fun g => ?_)⟩
        · have g := bne_t g
          rw [if_neg g] at h
          refine ⟨by omega, cond_split (fun g1 => ?_) (fun g1 => ?_)⟩
          · have g1 : byteAt s i = 124 := by simpa using g1
            rw [if_pos g1] at h
            have e2 : IntKind.i64.wrap ((i : Int) + 1) = ((i + 1 : Nat) : Int) := by rw [Go.IntWalk.i64_in _ (by omega)]; omega
            rw [e2]
            exact ⟨(by trivial), ih (i + 1) _ _ _ _ (by omega) (by omega) (by omega) (by simp; omega) (by simp) h⟩
          · have g1 : ¬ byteAt s i = 124 := by simpa using g1
            rw [if_neg g1] at h
            have hA : posS s ((i : Nat) : Int) := ⟨by omega, by omega, h2⟩
            refine ⟨⟨⟨hA, by omega⟩, by show (s.size - ((i : Nat) : Int).toNat) * 2 + 0 < n; rw [Int.toNat_natCast]; omega⟩, ?_⟩
            cases gA : (atomQ s i).1 with
            | false =>
              rw [gA] at h
              simp only [Bool.false_eq_true, if_false] at h
              exact ⟨(by trivial), h n1 n2 xs ys (by omega) (by omega)⟩
            | true =>
              have hj := hps.2.2 gA
              have hj2 := hps.2.1
              rw [gA] at h
              simp only [if_true] at h
              rw [dif_pos hj] at h
              simp only [Bool.not_true, cond_false]
              refine ⟨fun g2 => ?_, fun g2 => ?_, fun g2 => ?_, ?_⟩
              · simp only [Bool.and_true, decide_eq_true_eq] at g2; omega
              · simp only [Bool.and_true, Bool.and_eq_true, decide_eq_true_eq] at g2; omega
              · simp only [Bool.and_true, Bool.and_eq_true, decide_eq_true_eq] at g2; omega
              · have e2 : IntKind.i64.wrap (((atomQ s i).2 : Int) + 1) = (((atomQ s i).2 + 1 : Nat) : Int) := by rw [Go.IntWalk.i64_in _ (by omega)]; omega
                simp only [e2, Int.toNat_natCast]
                show (bif postB s (atomQ s i).2 then _ else _)
                cases gP : postB s (atomQ s i).2 with
                | true =>
                  have hjlt := posB_lt gP
                  rw [gP] at h
                  simp only [if_true] at h
                  simp only [cond_true]
                  refine ⟨by omega, (by trivial), fun g2 => ?_, fun g2 => ?_, fun g2 => ?_, ?_⟩
                  · simp only [Bool.and_true, decide_eq_true_eq] at g2; omega
                  · simp only [Bool.and_true, Bool.and_eq_true, decide_eq_true_eq] at g2; omega
                  · simp only [Bool.and_true, Bool.and_eq_true, decide_eq_true_eq] at g2; omega
                  · show (bif postB s ((atomQ s i).2 + 1) then _ else _)
                    cases gP2 : postB s ((atomQ s i).2 + 1) with
                    | true =>
                      rw [gP2] at h
                      simp only [if_true] at h
                      simp only [cond_true]
                      exact ⟨(by trivial), h n1 n2 xs ys (by omega) (by omega)⟩
                    | false =>
                      rw [gP2] at h
                      simp only [Bool.false_eq_true, if_false] at h
                      simp only [cond_false]
                      exact ⟨(by trivial), ih ((atomQ s i).2 + 1) _ _ _ _ (by omega) (by omega) (by omega) (by omega) (by simp; omega) h⟩
                | false =>
                  rw [gP] at h
                  simp only [Bool.false_eq_true, if_false] at h
                  simp only [cond_false]
                  exact ⟨(by trivial), ih (atomQ s i).2 _ _ _ _ (by omega) (by omega) (by omega) (by omega) (by simp; omega) h⟩
        · have g := bne_f g
          rw [if_pos g] at h
          exact ⟨(by trivial), h n1 n2 xs ys (by omega) (by omega)⟩
      · exact ih i n1 n2 xs ys hi (by omega) hm hx hy h
  exact key (s.size - i) i n1 n2 [] [] (by omega) (by omega) hm (by simp) (by simp) h
theorem kQ : TabOk B TQ := by
 refine ct_group k236 grpQ muQ fun n hk K S hmem ds r hp hm hr => ?_
 simp only [grpQ, List.mem_cons, Prod.mk.injEq, List.not_mem_nil, or_false] at hmem
 rcases hmem with ⟨rfl, rfl⟩ | ⟨rfl, rfl⟩
 ·
  unfold c216 at hp hr
  simp only [] at hr hp
  split at hr
  ·
   rename_i s i
   cases hr
   obtain ⟨hps, hlt⟩ := hp
   have hps' := hps
   obtain ⟨h0, h1, h2⟩ := hps'
   obtain ⟨i, rfl⟩ := Int.eq_ofNat_of_zero_le h0
   have hm : (s.size - ((i : Nat) : Int).toNat) * 2 + 0 = n := hm
   rw [Int.toNat_natCast] at hm
   refine ext_body base hk noSm_ok bl176 (fn := Tryz.f216) (cd := bodyOf Tryz.f216) (sp := spL [(14, S216)]) (hn := noHn) Tryz.func216 (by kernel_rfl) (by kernel_rfl) (specT_cons (c := .loop l216) (by kernel_rfl) (ok216 hk) specT_nil) (keep (w216 n s i fun v => v = _) ?_)
   have e1 : IntKind.i64.wrap ((i : Int) + 1) = (i : Int) + 1 := wr (by omega) (by omega)
   have e2 : IntKind.i64.wrap ((i : Int) + 2) = (i : Int) + 2 := wr (by omega) (by omega)
   have e3 : ((i : Int) + 1).toNat = i + 1 := by omega
   have hb := byteAt_lt s i
   have hb1 := byteAt_lt s (i + 1)
   have hlt' : i < s.size := by omega
   have hE := (gramQ_pos s h2 (s.size - (i + 1)) (i + 1) (by omega) (by omega)).2
   have e4 : IntKind.i64.wrap (((exprQ s (i + 1)).2 : Int) + 1) = ((exprQ s (i + 1)).2 + 1 : Nat) := by rw [wr (by omega) (by omega)]; omega
   have hq1 := brQ_pos (s := s) (i := (i : Int) + 1) ⟨by omega, by omega, h2⟩
   simp only [e1, e2, e3, e4, Int.toNat_natCast]
   unfold atomQ
   rw [dif_pos hlt']
   refine ⟨⟨by omega, by omega⟩, (by trivial), cond_split (fun g => ?_) (fun g => ?_)⟩
   ·
    simp only [g, cond_true]; exact ⟨hb, (by trivial)⟩
   simp only [g, cond_false]
   refine cond_split (fun g => ?_) (fun g => ?_)
   ·
    simp only [g, cond_true]; exact ⟨⟨(by trivial), (by trivial)⟩, (by trivial)⟩
   simp only [g, cond_false]
   refine cond_split (fun g => ?_) (fun g => ?_)
   ·
    have := (and_t' g).2
    simp only [decide_eq_true_eq] at this
    simp only [g, cond_true]; exact ⟨⟨by omega, by omega⟩, hb1, (by trivial)⟩
   simp only [g, cond_false]
   refine ⟨fun g => ?_, cond_split (fun g => ?_) (fun g => ?_)⟩
   ·
    simp only [Bool.and_true] at g
    have := (and_t' g).2
    simp only [decide_eq_true_eq] at this
    exact ⟨by omega, by omega⟩
   ·
    have := (and_t' (and_t' g).1).2
    simp only [decide_eq_true_eq] at this
    have hq2 := brQ_pos (s := s) (i := (i : Int) + 2) ⟨by omega, by omega, h2⟩
    simp only [g, cond_true]
    rw [Int.toNat_of_nonneg (by omega)]
    exact ⟨⟨by omega, by omega, h2⟩, (by trivial)⟩
   simp only [g, cond_false]
   refine cond_split (fun g => ?_) (fun g => ?_)
   ·
    simp only [g, cond_true]
    rw [Int.toNat_of_nonneg (by omega)]
    exact ⟨⟨by omega, by omega, h2⟩, (by trivial)⟩
   simp only [g, cond_false]
   refine cond_split (fun g => ?_) (fun g => ?_)
   ·
    simp only [g, cond_true]
   simp only [g, cond_false]
   refine ⟨⟨⟨by omega, by omega, h2⟩, ?_⟩, fun g => ?_, cond_split (fun g => ?_) (fun g => ?_)⟩
   ·
    show (s.size - ((i : Int) + 1).toNat) * 2 + 1 < n
    omega
   ·
    simp only [Bool.and_true, Bool.not_eq_true'] at g
    have := (or_f' g).2
    simp only [decide_eq_false_iff_not] at this
    exact ⟨by omega, by omega⟩
   ·
    simp only [g, cond_true]
   ·
    simp only [g, cond_false]
  ·
   cases hr
 ·
  unfold c193 at hp hr
  simp only [] at hr hp
  split at hr
  ·
   rename_i s i
   cases hr
   have hps' : posS s i := hp
   obtain ⟨h0, h1, h2⟩ := hps'
   have hm : (s.size - i.toNat) * 2 + 1 = n := hm
   refine ext_body base hk noSm_ok noBl (fn := Tryz.f193) (cd := bodyOf Tryz.f193) (sp := spL [(6, S193 n)]) (hn := h193) Tryz.func193 (by kernel_rfl) (by kernel_rfl) (specT_cons (c := .loop l193) (by kernel_rfl) (ok193 hk) specT_nil) (keep (w193 n s i fun v => v = _) ?_)
   refine ⟨⟨(by trivial), hp, by omega, (by trivial), (by trivial), (by trivial)⟩, fun n1 n2 xs ys hx hy => ?_⟩
   have hxr : ((xs.length + 1) * 296).ble 70368744177664 = true := by rw [Nat.ble_eq]; omega
   rw [hxr]
   cases g : (exprQ s i.toNat).1 with
   | true => simp only [cond_true, g]
   | false => simp only [cond_false, g]
  ·
   cases hr
theorem k149 : TabOk B T149 := by
 refine add_ok kQ fun ds r hp hr => ?_
 unfold c149 at hp hr
 simp only [] at hr hp
 split at hr
 ·
  rename_i s
  cases hr
  refine ext_body base kQ noSm_ok bl176 (fn := Tryz.f149) (cd := bodyOf Tryz.f149) (sp := noSp) (hn := noHn) Tryz.func149 (by kernel_rfl) (by kernel_rfl) noSp_ok (keep (w149 s fun v => v = _) ?_)
  unfold rxQ
  refine cond_split (fun g => ?_) (fun g => ?_)
  ·
   simp only [g, cond_true]
  ·
   simp only [g, cond_false]
   simp only [decide_eq_false_iff_not] at g
   refine ⟨⟨by omega, by omega, by omega⟩, cond_split (fun g => ?_) (fun g => ?_)⟩
   ·
    simp only [g, cond_true]
   ·
    simp only [g, cond_false]
 ·
  cases hr
theorem k80 : TabOk B T80 := by
 refine add_ok k149 fun ds r hp hr => ?_
 unfold c80 at hp hr
 simp only [] at hr hp
 split at hr
 ·
  rename_i s
  cases hr
  refine ext_body base k149 noSm_ok bl176 (fn := Tryz.f80) (cd := bodyOf Tryz.f80) (sp := noSp) (hn := noHn) Tryz.func80 (by kernel_rfl) (by kernel_rfl) noSp_ok (keep (w80 s fun v => v = _) ?_)
  exact ⟨(by trivial), (by trivial)⟩
 ·
  cases hr
theorem bif_or (a b : Bool) : (bif a then true else b) = (a || b) := by cases a <;> rfl
theorem bif_and (a b : Bool) : (bif a then b else false) = (a && b) := by cases a <;> rfl
theorem alnum_eq (c : Int) : alnumB c = (isLetterB c || isDigitB c) := by
 unfold alnumB isLetterB isDigitB
 simp only [bif_or, bif_and, ge_iff_le]
theorem escK_eq (c : Int) : escK c = (escOkC c && escPlain c) := by
 unfold escK escOkC escPlain
 rw [alnum_eq]
 simp only [bif_or]
 by_cases h1 : c = 110
 ·
  subst h1; rfl
 ·
  by_cases h2 : c = 116
  ·
   subst h2; rfl
  ·
   by_cases h3 : c = 100
   ·
    subst h3; rfl
   ·
    by_cases h4 : c = 119
    ·
     subst h4; rfl
    ·
     have e1 : (c == 110) = false := by simpa using h1
     have e2 : (c == 116) = false := by simpa using h2
     have e3 : (c == 100) = false := by simpa using h3
     have e4 : (c == 119) = false := by simpa using h4
     rw [e1, e2, e3, e4]; simp
theorem escE_eq (c : Int) : escE c = escOkC c := by
 unfold escE
 simp only [bif_and]
 by_cases h3 : c = 100
 ·
  subst h3; rfl
 ·
  by_cases h4 : c = 119
  ·
   subst h4; rfl
  ·
   have e3 : (c == 100) = false := by simpa using h3
   have e4 : (c == 119) = false := by simpa using h4
   have e5 : (c != 100) = true := by simpa using h3
   have e6 : (c != 119) = true := by simpa using h4
   rw [e5, e6]
   simp only [Bool.and_self, cond_true]
   rw [escK_eq]
   unfold escPlain
   rw [e3, e4]; simp
theorem escV_eq {c : Int} (h : escK c = true) : escV c = escChar c := by
 unfold escV escChar
 by_cases h3 : c = 100
 ·
  subst h3; cases h
 ·
  by_cases h4 : c = 119
  ·
   subst h4; cases h
  ·
   have e3 : (c == 100) = false := by simpa using h3
   have e4 : (c == 119) = false := by simpa using h4
   rw [e3, e4]; rfl
theorem beq_size {i : Int} {n : Nat} (h : i < n) : (i == (n : Int)) = false := by
 have : i ≠ n := by omega
 simpa using this
theorem it3_eq {s : ByteArray} {i : Int} (h : posS s i) : (it3 s i).2.2 = itemOk s i ∧ ((it3 s i).2.2 = true → (it3 s i).1 = itemC s i ∧ (it3 s i).2.1 = itemTo s i) := by
 obtain ⟨h0, h1, h2⟩ := h
 unfold it3 itemOk
 by_cases hlt : i < s.size
 ·
  have e0 : decide (i ≥ (s.size : Int)) = false := by simp; omega
  rw [e0, beq_size hlt]
  simp only [cond_false]
  cases g1 : byteAt s i.toNat == 93 with
  | true => simp
  | false =>
   simp only [cond_false]
   cases g2 : byteAt s i.toNat != 92 with
   | true => simp [itemC, itemTo, g2]
   | false =>
    simp only [cond_false]
    by_cases hl2 : i + 1 < s.size
    ·
     have e1 : decide (i + 1 ≥ (s.size : Int)) = false := by simp; omega
     rw [e1]
     simp only [cond_false, escOk, beq_size hl2, Bool.not_false, Bool.true_and, Bool.false_or]
     rw [← escK_eq]
     refine ⟨rfl, fun hk => ?_⟩
     rw [escV_eq hk]
     simp only [itemC, itemTo, g2, cond_false]
     exact ⟨trivial, by omega⟩
    ·
     have e1 : decide (i + 1 ≥ (s.size : Int)) = true := by simp; omega
     have e2 : (i + 1 == (s.size : Int)) = true := by simp; omega
     rw [e1]
     simp [escOk, e2]
 ·
  have e0 : decide (i ≥ (s.size : Int)) = true := by simp; omega
  have e2 : (i == (s.size : Int)) = true := by simp; omega
  rw [e0, e2]
  simp
theorem step_eq {s : ByteArray} {j : Int} (h : posS s j) : (brStep s j).1 = !brBad s j ∧ ((brStep s j).1 = true → (brStep s j).2 = (brT s j).2.1) := by
 obtain ⟨e1, e2⟩ := it3_eq h
 have hp := it3_pos h
 unfold brStep brBad brT
 rw [← e1]
 cases g1 : (it3 s j).2.2 with
 | false =>
  have : rgQ s j = false := by unfold rgQ; rw [g1]; rfl
  rw [this]
  simp [g1]
 | true =>
  obtain ⟨e3, e4⟩ := e2 g1
  have er : rgQ s j = rangeB s (itemTo s j) := by
   unfold rgQ rangeB
   rw [g1, ← e4]
   simp only [cond_true, bif_and, Bool.and_assoc]
  rw [er]
  simp only [cond_true]
  cases g2 : rangeB s (itemTo s j) with
  | false =>
   simp only [cond_false]
   rw [g1]
   simp [e4]
  | true =>
   have hp2 : posS s ((it3 s j).2.1 + 1) := by
    rw [e4]
    unfold rangeB at g2
    simp only [Bool.and_eq_true, decide_eq_true_eq] at g2
    have := hp.2.1
    rw [e4] at this
    exact ⟨by have := h.1; omega, by omega, h.2.2⟩
   obtain ⟨f1, f2⟩ := it3_eq hp2
   simp only [cond_true]
   rw [e4] at f1 f2 ⊢
   rw [← f1]
   cases g3 : (it3 s (itemTo s j + 1)).2.2 with
   | false => simp
   | true =>
    obtain ⟨f3, f4⟩ := f2 g3
    simp only [cond_true, Bool.not_true, cond_false]
    simp [f3, f4, e3]
def Ag (a b : Bool × Int) : Prop := a.1 = b.1 ∧ (a.1 = true → a.2 = b.2)
def finQ (s : ByteArray) (i : Int) (r : Bool × Int) : Bool × Int := bif r.1 then (bif (bif decide (r.2 ≥ (s.size : Int)) then true else r.2 == i) then (false, r.2) else (true, r.2 + 1)) else (false, r.2)
theorem br_eq {s : ByteArray} {st : Int} : ∀ (n : Nat) (j : Int), posS s j → s.size - j < n → st ≤ j → (j = st ∨ ¬ (j < s.size ∧ byteAt s j.toNat = 93)) → Ag (finQ s st (brL s n j)) (brR s n j) := by
 intro n
 induction n with
 | zero => intro j hj hn; obtain ⟨_, _, _⟩ := hj; omega
 | succ n ih =>
  intro j hj hn hst hd
  obtain ⟨e1, e2⟩ := step_eq hj
  have hp := brT_pos hj
  unfold brL brR
  by_cases hlt : j < s.size
  ·
   have d1 : decide (j < (s.size : Int)) = true := by simpa using hlt
   rw [d1]
   simp only [cond_true]
   by_cases h93 : byteAt s j.toNat = 93
   ·
    have d2 : (byteAt s j.toNat != 93) = false := by simp [h93]
    rw [d2]
    simp only [cond_false]
    have hjs : j = st := by
     rcases hd with h | h
     ·
      exact h
     ·
      exact absurd ⟨hlt, h93⟩ h
    have d3 : decide (j ≥ (s.size : Int)) = false := by simp; omega
    have hno : (brStep s j).1 = false := by
     unfold brStep itemOk
     have : (byteAt s j.toNat == 93) = true := by simpa using h93
     rw [this]; simp
    rw [hno]
    unfold finQ Ag
    simp [d3, hjs]
   ·
    have d2 : (byteAt s j.toNat != 93) = true := by simpa using h93
    rw [d2]
    simp only [cond_true]
    cases gb : brBad s j with
    | true =>
     rw [gb] at e1
     rw [e1]
     unfold finQ Ag
     simp
    | false =>
     rw [gb] at e1
     have ek : (brT s j).2.2 = true := by
      unfold brBad at gb
      have := (or_f' gb).1
      simpa using this
     have hgt := hp.2.2 ek
     rw [e1, e2 (by rw [e1]; rfl)]
     simp only [Bool.not_false, cond_true, cond_false]
     have hps : posS s (brT s j).2.1 := ⟨by have := hj.1; omega, hp.2.1.2, hj.2.2⟩
     cases gs : skipB s (brT s j).2.1 93 with
     | true =>
      unfold skipB at gs
      simp only [Bool.and_eq_true, Bool.not_eq_true', beq_eq_false_iff_ne, beq_iff_eq] at gs
      have hpl : (brT s j).2.1 < s.size := by have := hp.2.1.2; omega
      cases n with
      | zero => omega
      | succ n =>
       unfold brL
       have d3 : decide ((brT s j).2.1 < (s.size : Int)) = true := by simpa using hpl
       have d4 : (byteAt s (brT s j).2.1.toNat != 93) = false := by simp [gs.2]
       have d5 : decide ((brT s j).2.1 ≥ (s.size : Int)) = false := by simp; omega
       have d6 : ((brT s j).2.1 == st) = false := by simp; omega
       rw [d3, d4]
       unfold finQ Ag
       simp [d5, d6]
     | false =>
      simp only [cond_false]
      refine ih _ hps (by omega) (by omega) (.inr fun ⟨h1, h2⟩ => ?_)
      unfold skipB at gs
      rw [beq_size h1] at gs
      have : (byteAt s (brT s j).2.1.toNat == 93) = true := by simpa using h2
      rw [this] at gs
      cases gs
  ·
   have d1 : decide (j < (s.size : Int)) = false := by simpa using hlt
   have d3 : decide (j ≥ (s.size : Int)) = true := by simp; omega
   have hno : (brStep s j).1 = false := by
    unfold brStep itemOk
    have : (j == (s.size : Int)) = true := by have := hj.2.1; simp; omega
    rw [this]; simp
   rw [d1, hno]
   unfold finQ Ag
   simp [d3]
theorem brQ_eq {s : ByteArray} {j : Int} (h : posS s j) : Ag (brQ s j) (brR s 201 j) := by
 have := br_eq (st := j) 201 j h (by obtain ⟨_, _, _⟩ := h; omega) (by omega) (.inl rfl)
 exact this
theorem spec_eq {c : Int} (h : 0 ≤ c ∧ c < 256) : specialB c = specQ c := by
 have key : ∀ k : Fin 256, specialB (k.val : Int) = specQ (k.val : Int) := by decide +kernel
 obtain ⟨k, rfl⟩ := Int.eq_ofNat_of_zero_le h.1
 exact key ⟨k, by omega⟩
def AgN (a b : Bool × Nat) : Prop := a.1 = b.1 ∧ (a.1 = true → a.2 = b.2)
theorem AgN.no {a b : Bool × Nat} (h1 : a.1 = false) (h2 : b.1 = false) : AgN a b := ⟨h1.trans h2.symm, fun h => by rw [h1] at h; cases h⟩
theorem skip_nat {s : ByteArray} {k : Nat} {c : Int} : skipB s (k : Int) c = (!((k : Int) == (s.size : Int)) && byteAt s k == c) := by
 unfold skipB; rw [Int.toNat_natCast]
theorem post_eq {s : ByteArray} {k : Nat} (hk : k ≤ s.size) : (skipB s k 42 || (skipB s k 43 || skipB s k 63)) = postB s k := by
 rw [skip_nat, skip_nat, skip_nat]
 unfold postB
 simp only [bif_or, bif_and]
 by_cases h : k < s.size
 ·
  have d1 : decide ((k : Int) < (s.size : Int)) = true := by simpa using h
  rw [beq_size (by omega), d1]
  simp [Bool.or_assoc]
 ·
  have d1 : decide ((k : Int) < (s.size : Int)) = false := by simpa using h
  have d2 : ((k : Int) == (s.size : Int)) = true := by simp; omega
  rw [d1, d2]; simp
theorem special_post {s : ByteArray} {k : Nat} (h : postB s k = true) : (atomR s k).1 = false := by
 have hlt := posB_lt h
 unfold postB at h
 simp only [bif_or, bif_and, Bool.and_eq_true, Bool.or_eq_true, decide_eq_true_eq, beq_iff_eq] at h
 unfold atomR
 rw [dif_pos hlt]
 rcases h.2 with (h | h) | h <;> (rw [h, if_neg (by decide), if_neg (by decide), if_neg (by decide), if_neg (by decide)]; simp only [Bool.not_eq_false']; decide +kernel)
theorem gram_eq (s : ByteArray) (h2 : s.size ≤ 200) : ∀ (n i : Nat), i ≤ s.size → s.size - i ≤ n → AgN (atomQ s i) (atomR s i) ∧ AgN (exprQ s i) (choiceR s i) := by
 have seqC : ∀ i j : Nat, i ≤ s.size → j ≤ s.size → seqR s i = seqR s j → choiceR s i = choiceR s j := fun i j hi hj h => by
  have p1 := (gram_pos s (s.size - i) i hi (by omega)).2.2.1
  have p2 := (gram_pos s (s.size - j) j hj (by omega)).2.2.1
  unfold choiceR
  rw [h] at p1 ⊢
  cases (seqR s j).1 with
  | false => rfl
  | true =>
   simp only [if_true]
   cases g : skipB s (seqR s j).2 124 with
   | false => rfl
   | true =>
    have := skipB_pos g (by omega)
    rw [dif_pos ⟨p1.1, by omega⟩, dif_pos ⟨p2.1, by omega⟩]
 intro n
 induction n with
 | zero =>
  intro i hi hn
  have hlt : ¬ i < s.size := by omega
  have hA : atomQ s i = (false, i) := by unfold atomQ; rw [dif_neg hlt]
  have hE : exprQ s i = (true, i) := by unfold exprQ; rw [dif_neg hlt]
  have hA' : atomR s i = (false, i) := by unfold atomR; rw [dif_neg hlt]
  have hS' : seqR s i = (true, i) := by unfold seqR; rw [dif_neg hlt]
  have hk : skipB s (i : Int) 124 = false := by
   have : ((i : Int) == (s.size : Int)) = true := by simp; omega
   simp [skipB, this]
  have hC' : choiceR s i = (true, i) := by unfold choiceR; rw [hS']; simp [hk]
  rw [hA, hE, hA', hC']
  exact ⟨⟨rfl, fun _ => rfl⟩, rfl, fun _ => rfl⟩
 | succ n ih =>
  intro i hi hn
  by_cases hlt : i < s.size
  ·
   have hb := byteAt_lt s i
   have hA : AgN (atomQ s i) (atomR s i) := by
    obtain ⟨c1, c2⟩ := (ih (i + 1) (by omega) (by omega)).2
    have hq := (gramQ_pos s h2 (s.size - (i + 1)) (i + 1) (by omega) (by omega)).2
    unfold atomQ atomR
    rw [dif_pos hlt, dif_pos hlt]
    rw [spec_eq hb]
    have hs1 : specQ 40 = true := by decide +kernel
    have hs2 : specQ 91 = true := by decide +kernel
    have hs3 : specQ 46 = true := by decide +kernel
    have hs4 : specQ 92 = true := by decide +kernel
    have hi1 : (((i + 1 : Nat) : Int)) = (i : Int) + 1 := by omega
    by_cases b1 : byteAt s i = 40
    ·
     rw [if_pos b1]
     simp only [b1, hs1]
     have t1 : ((40 : Int) == 46) = false := by decide
     have t2 : ((40 : Int) == 92) = false := by decide
     have t3 : ((40 : Int) == 91) = false := by decide
     have t4 : ((40 : Int) != 40) = false := by decide
     simp only [t1, t2, t3, t4, Bool.not_true, cond_false]
     cases g : (exprQ s (i + 1)).1 with
     | false =>
      rw [g] at c1
      rw [← c1]
      simp only [Bool.not_false, cond_true, Bool.false_eq_true, if_false]
      exact AgN.no rfl rfl
     | true =>
      have c2 := c2 g
      rw [g] at c1
      rw [← c1, ← c2]
      simp only [Bool.not_true, cond_false, if_true]
      rw [skip_nat]
      by_cases hl : (exprQ s (i + 1)).2 < s.size
      ·
       have d1 : decide (((exprQ s (i + 1)).2 : Int) ≥ (s.size : Int)) = false := by simp; omega
       rw [d1, beq_size (by omega)]
       simp only [cond_false, Bool.not_false, Bool.true_and]
       cases g2 : byteAt s (exprQ s (i + 1)).2 == 41 with
       | true =>
        have g3 : (byteAt s (exprQ s (i + 1)).2 != 41) = false := by simpa using g2
        rw [g3]; exact ⟨rfl, fun _ => rfl⟩
       | false =>
        have g3 : (byteAt s (exprQ s (i + 1)).2 != 41) = true := by simpa using g2
        rw [g3]; exact AgN.no rfl rfl
      ·
       have d1 : decide (((exprQ s (i + 1)).2 : Int) ≥ (s.size : Int)) = true := by simp; omega
       have d2 : (((exprQ s (i + 1)).2 : Int) == (s.size : Int)) = true := by simp; omega
       rw [d1, d2]
       exact AgN.no rfl rfl
    ·
     rw [if_neg b1]
     by_cases b2 : byteAt s i = 91
     ·
      rw [if_pos b2]
      simp only [b2, hs2]
      have t1 : ((91 : Int) == 46) = false := by decide
      have t2 : ((91 : Int) == 92) = false := by decide
      have t3 : ((91 : Int) == 91) = true := by decide
      simp only [t1, t2, t3, Bool.not_true, cond_false, cond_true]
      have hps1 : posS s ((i : Int) + 1) := ⟨by omega, by omega, h2⟩
      unfold brS
      rw [skip_nat, hi1]
      by_cases hl : (i : Int) + 1 < s.size
      ·
       have d1 : decide ((i : Int) + 1 < (s.size : Int)) = true := by simpa using hl
       rw [d1, beq_size hl]
       simp only [cond_true, Bool.not_false, Bool.true_and]
       cases g : byteAt s (i + 1) == 94 with
       | true =>
        obtain ⟨a1, a2⟩ := brQ_eq (s := s) (j := (i : Int) + 2) ⟨by omega, by omega, h2⟩
        simp only [cond_true]
        rw [show (i : Int) + 1 + 1 = (i : Int) + 2 by omega]
        exact ⟨a1, fun h => congrArg Int.toNat (a2 h)⟩
       | false =>
        obtain ⟨a1, a2⟩ := brQ_eq hps1
        simp only [cond_false]
        exact ⟨a1, fun h => congrArg Int.toNat (a2 h)⟩
      ·
       have d1 : decide ((i : Int) + 1 < (s.size : Int)) = false := by simpa using hl
       have d2 : ((i : Int) + 1 == (s.size : Int)) = true := by simp; omega
       obtain ⟨a1, a2⟩ := brQ_eq hps1
       rw [d1, d2]
       simp only [cond_false, Bool.not_true, Bool.false_and]
       exact ⟨a1, fun h => congrArg Int.toNat (a2 h)⟩
     ·
      rw [if_neg b2]
      by_cases b3 : byteAt s i = 46
      ·
       rw [if_pos b3]
       simp only [b3, hs3]
       exact ⟨rfl, fun _ => rfl⟩
      ·
       rw [if_neg b3]
       by_cases b4 : byteAt s i = 92
       ·
        rw [if_pos b4]
        simp only [b4, hs4]
        have t1 : ((92 : Int) == 46) = false := by decide
        have t2 : ((92 : Int) == 92) = true := by decide
        have t3 : ((92 : Int) == 91) = false := by decide
        have t4 : ((92 : Int) != 40) = true := by decide
        simp only [t1, t2, t3, t4, Bool.not_true, cond_false, cond_true]
        unfold escOk
        rw [Int.toNat_natCast, hi1]
        by_cases hl : (i : Int) + 1 < s.size
        ·
         have d1 : decide ((i : Int) + 1 < (s.size : Int)) = true := by simpa using hl
         rw [d1, beq_size hl]
         simp only [cond_true, Bool.not_false, Bool.true_and]
         rw [escE_eq]
         cases escOkC (byteAt s (i + 1)) with
         | true => exact ⟨rfl, fun _ => rfl⟩
         | false => exact AgN.no rfl rfl
        ·
         have d1 : decide ((i : Int) + 1 < (s.size : Int)) = false := by simpa using hl
         have d2 : ((i : Int) + 1 == (s.size : Int)) = true := by simp; omega
         rw [d1, d2]
         exact AgN.no rfl rfl
       ·
        rw [if_neg b4]
        have t1 : (byteAt s i == 46) = false := by simpa using b3
        have t2 : (byteAt s i == 92) = false := by simpa using b4
        have t3 : (byteAt s i == 91) = false := by simpa using b2
        have t4 : (byteAt s i != 40) = true := by simpa using b1
        rw [t1, t2, t3, t4]
        cases specQ (byteAt s i) with
        | true => exact AgN.no rfl rfl
        | false => exact ⟨rfl, fun _ => rfl⟩
   refine ⟨hA, ?_⟩
   have hk0 : ∀ c : Int, byteAt s i ≠ c → skipB s i c = false := fun c hc => by
    rw [skip_nat]
    have : (byteAt s i == c) = false := by simpa using hc
    rw [this]; simp
   unfold exprQ
   rw [dif_pos hlt]
   by_cases b1 : byteAt s i = 41
   ·
    rw [if_pos b1]
    have hS : seqR s i = (true, i) := by unfold seqR; rw [dif_pos hlt, if_pos (.inr b1)]
    unfold choiceR
    rw [hS]
    simp [hk0 124 (by rw [b1]; decide), AgN]
   ·
    rw [if_neg b1]
    by_cases b2 : byteAt s i = 124
    ·
     rw [if_pos b2]
     have hS : seqR s i = (true, i) := by unfold seqR; rw [dif_pos hlt, if_pos (.inl b2)]
     have hk : skipB s i 124 = true := by rw [skip_nat, beq_size (by omega), b2]; rfl
     have hC : choiceR s i = choiceR s (i + 1) := by
      conv => lhs; unfold choiceR
      rw [hS]
      simp [hk, hlt]
     rw [hC]
     exact (ih (i + 1) (by omega) (by omega)).2
    ·
     rw [if_neg b2]
     have hno : ¬ (byteAt s i = 124 ∨ byteAt s i = 41) := by rintro (h | h) <;> contradiction
     obtain ⟨a1, a2⟩ := hA
     have hq := (gramQ_pos s h2 (s.size - i) i hi (by omega)).1
     cases gA : (atomQ s i).1 with
     | false =>
      rw [gA] at a1
      have hF : (factorR s i).1 = false := by unfold factorR; rw [← a1]; rfl
      have hS : (seqR s i).1 = false := by unfold seqR; rw [dif_pos hlt, if_neg hno, hF]; rfl
      simp only [Bool.false_eq_true, if_false]
      refine AgN.no rfl ?_
      unfold choiceR
      rw [hS]; rfl
     | true =>
      have hj := hq.2.2 gA
      have a2 := a2 gA
      rw [gA] at a1
      simp only [if_true]
      rw [dif_pos hj]
      have hjs := hq.2.1
      have hpe := post_eq (s := s) (k := (atomQ s i).2) hjs
      cases gP : postB s (atomQ s i).2 with
      | true =>
       have hjl := posB_lt gP
       rw [gP] at hpe
       have hF : factorR s i = (true, (atomQ s i).2 + 1) := by
        unfold factorR
        rw [← a1, ← a2, hpe]; rfl
       have hS : seqR s i = seqR s ((atomQ s i).2 + 1) := by
        conv => lhs; unfold seqR
        rw [dif_pos hlt, if_neg hno, hF]
        simp only [if_true]
        rw [dif_pos (by omega)]
       have hC := seqC i ((atomQ s i).2 + 1) hi (by omega) hS
       rw [hC]
       simp only [if_true]
       cases gP2 : postB s ((atomQ s i).2 + 1) with
       | true =>
        have hl2 := posB_lt gP2
        have hF2 : (factorR s ((atomQ s i).2 + 1)).1 = false := by unfold factorR; rw [special_post gP2]; rfl
        have hno2 : ¬ (byteAt s ((atomQ s i).2 + 1) = 124 ∨ byteAt s ((atomQ s i).2 + 1) = 41) := by
         unfold postB at gP2
         simp only [bif_or, bif_and, Bool.and_eq_true, Bool.or_eq_true, decide_eq_true_eq, beq_iff_eq] at gP2
         omega
        have hS2 : (seqR s ((atomQ s i).2 + 1)).1 = false := by unfold seqR; rw [dif_pos hl2, if_neg hno2, hF2]; rfl
        refine AgN.no rfl ?_
        unfold choiceR
        rw [hS2]; rfl
       | false =>
        simp only [Bool.false_eq_true, if_false]
        exact (ih _ (by omega) (by omega)).2
      | false =>
       rw [gP] at hpe
       have hF : factorR s i = (true, (atomQ s i).2) := by
        unfold factorR
        rw [← a1, ← a2, hpe]; rfl
       have hS : seqR s i = seqR s (atomQ s i).2 := by
        conv => lhs; unfold seqR
        rw [dif_pos hlt, if_neg hno, hF]
        simp only [if_true]
        rw [dif_pos hj]
       have hC := seqC i (atomQ s i).2 hi hjs hS
       rw [hC]
       simp only [Bool.false_eq_true, if_false]
       exact (ih _ (by omega) (by omega)).2
  ·
   exact ih i hi (by omega)
theorem rx_eq (s : ByteArray) : rxQ s = rxErr s := by
 unfold rxQ rxErr
 by_cases h : s.size ≤ 200
 ·
  have d : decide ((s.size : Int) > 200) = false := by simp; omega
  rw [d]
  simp only [cond_false]
  obtain ⟨e1, e2⟩ := (gram_eq s h s.size 0 (by omega) (by omega)).2
  unfold rxOk
  rw [← e1]
  cases g : (exprQ s 0).1 with
  | false => rfl
  | true =>
   rw [← e2 g]
   simp only [Bool.not_true, cond_false, Bool.true_and]
   by_cases hs : (exprQ s 0).2 = s.size
   ·
    rw [hs]; simp
   ·
    have d1 : (((exprQ s 0).2 : Int) != (s.size : Int)) = true := by simp; omega
    have d2 : ((exprQ s 0).2 == s.size) = false := by simpa using hs
    rw [d1, d2]; rfl
 ·
  have d : decide ((s.size : Int) > 200) = true := by simp; omega
  rw [d]; rfl
mutual
/-- All strings in it are of a length that a world holds. -/
def Bd : D → Prop
 | .lit (.string s) => s.size ≤ 1152921504606846976
 | .agg cs => BdL cs
 | .slice _ _ xs => BdL xs
 | .elem cs => BdL cs
 | _ => True
def BdL : List D → Prop
 | [] => True
 | x :: r => Bd x ∧ BdL r
end
theorem w194 (c : Int) (p : V → Prop) : (evBodyT (Cn T80) T80 noCS 0 noSp noHn 194 [V.d (u8D c)] Heap.empty fun v H => p (freezeR H v)) =
 p
 (V.d
 (D.lit
 (Value.bool
 (bif
 bif
 bif bif decide (c ≥ 97) then decide (c ≤ 122) else false then true
 else bif decide (c ≥ 65) then decide (c ≤ 90) else false then
 true
 else bif decide (c ≥ 48) then decide (c ≤ 57) else false then
 true
 else c == 95)))) := by kernel_rfl
noncomputable def T194 : Tab := T80.add 194 c230
noncomputable def l151 : Code := roundOf (pieceAt (bodyOf Tryz.f151) 4)
theorem b151 (s : ByteArray) (i : Int) (R : X → List V → List Box → Prop) : (roundT (Cn T194) T194 noCS 0 noSp noHn l151 33 [0, 3] [] [] [] [0, 2] [] [lstr s, lint i] [] R) =
 (bif decide (i < (↑s.size : Int)) then
 ((((0 : Int) ≤ i) ∧ i.toNat < s.size) ∧
 (True ∧
 (bif !nameByte (byteAt s i.toNat) then
 (33 = 33 ∧
 R X.ret [V.d (D.lit (Value.string s)), V.d (D.lit (Value.bool false))] []) else
 (33 = 33 ∧
 R X.normal [V.d (D.lit (Value.string s)), V.d (D.lit (Value.int IntKind.i64 (IntKind.i64.wrap (i + 1))))] [])))) else
 (33 = 33 ∧
 R (X.exit 0) [V.d (D.lit (Value.string s)), V.any] [])) := by kernel_rfl
def S151 : Ev.Spec := { L := [0,3], ns := [], L' := [0,2], nm' := [], G := fun N vals bs k => match vals, bs with
 | [.d (.lit (.string s)), .d (.lit (.int .i64 i))], [] => (N = 33 ∧ i = 0 ∧ s.size ≤ 1152921504606846976) ∧ (bif nameFrom s s.size 0 then k (.exit 0) [lstr s, .any] [] else k .ret [lstr s, lbool false] [])
 | _, _ => False }
theorem w151 (s : ByteArray) (p : V → Prop) : (evBodyT (Cn T194) T194 noCS 0 (spL [(4, S151)]) noHn 151 [V.d (sD s)] Heap.empty fun v H => p (freezeR H v)) =
 ((33 = 33 ∧ (((0 : Int) = 0) ∧ s.size ≤ 1152921504606846976)) ∧
 (bif nameFrom s s.size 0 then
 ((((bif decide ((↑s.size : Int) > 0) then decide ((↑s.size : Int) ≤ 60) else false) && true) = true → (((0 : Int) ≤ 0) ∧ 0 < s.size)) ∧
 (((!decide (byteAt s 0 < 48) &&
 ((bif decide ((↑s.size : Int) > 0) then decide ((↑s.size : Int) ≤ 60) else false) && true)) =
 true → (((0 : Int) ≤ 0) ∧ 0 < s.size)) ∧
 p
 (V.d
 (D.lit
 (Value.bool
 (bif bif decide ((↑s.size : Int) > 0) then decide ((↑s.size : Int) ≤ 60) else false then
 bif decide (byteAt s 0 < 48) then true else decide (byteAt s 0 > 57)
 else false)))))) else
 p (V.d (D.lit (Value.bool false))))) := by kernel_rfl
noncomputable def c151 : Ct := ⟨fun | [.lit (.string s)] => s.size ≤ 1152921504606846976 | _ => False, fun | [.lit (.string s)] => some (.lit (.bool (isName s))) | _ => none⟩
noncomputable def T151 : Tab := T194.add 151 c151
theorem w150 (y : D) (p : V → Prop) : (evBodyT (Cn T151) T151 noCS 0 noSp noHn 150 [V.d (mV y)] Heap.empty fun v H => p (freezeR H v)) =
 (bif bif decide (intOf (cellOf y 0) < 1) then true else decide (intOf (cellOf y 0) > 4) then
 p (V.d (D.lit (Value.int IntKind.i64 8))) else
 ((strOf (cellOf y 1)).size.le 1152921504606846976 ∧
 (bif !isName (strOf (cellOf y 1)) then
 p (V.d (D.lit (Value.int IntKind.i64 5))) else
 (bif decide (intOf (cellOf y 0) > 2) then
 (True ∧
 p (V.d (D.lit (Value.int IntKind.i64 (rxQ (strOf (cellOf y 2))))))) else
 (bif decide ((↑(strOf (cellOf y 2)).size : Int) > 200) then
 p (V.d (D.lit (Value.int IntKind.i64 4))) else
 p (V.d (D.lit (Value.int IntKind.i64 0)))))))) := by kernel_rfl
noncomputable def mOneQ (y : D) : Int :=
 (bif bif decide (intOf (cellOf y 0) < 1) then true else decide (intOf (cellOf y 0) > 4) then
 8 else
 (bif !isName (strOf (cellOf y 1)) then
 5 else
 (bif decide (intOf (cellOf y 0) > 2) then
 (rxQ (strOf (cellOf y 2))) else
 (bif decide ((↑(strOf (cellOf y 2)).size : Int) > 200) then
 4 else
 0))))
noncomputable def c150 : Ct := ⟨fun | [x] => FitM x ∧ Bd x | _ => False, fun | [x] => some (.lit (.int .i64 (mOneE x))) | _ => none⟩
noncomputable def T150 : Tab := T151.add 150 c150
noncomputable def l81 : Code := roundOf (pieceAt (bodyOf Tryz.f81) 8)
theorem b81 (xs : List D) (i : Int) (b : Bool) (R : X → List V → List Box → Prop) : (roundT (Cn T150) T150 noCS 0 noSp noHn l81 22 [0, 3] [] [] [] [2] [] [V.d (D.slice b 3 xs), lint i] [] R) =
 (bif decide (i < (↑xs.length : Int)) then
 ((((0 : Int) ≤ i) ∧ (i.toNat < xs.length ∧ mV (xs.getD i.toNat D.any) = xs.getD i.toNat D.any)) ∧
 ((FitM (mV (xs.getD i.toNat D.any)) ∧ Bd (mV (xs.getD i.toNat D.any))) ∧
 (bif mOneE (mV (xs.getD i.toNat D.any)) != 0 then
 (22 = 22 ∧
 R X.ret [V.d (D.lit (Value.int IntKind.i64 (mOneE (mV (xs.getD i.toNat D.any)))))] []) else
 (22 = 22 ∧
 R X.normal [V.d (D.slice b 3 xs), V.d (D.lit (Value.int IntKind.i64 (IntKind.i64.wrap (i + 1))))] [])))) else
 (22 = 22 ∧
 R (X.exit 0) [V.any] [])) := by kernel_rfl
noncomputable def S81 : Ev.Spec := { L := [0,3], ns := [], L' := [2], nm' := [], G := fun N vals bs k => match vals, bs with
 | [.d (.slice b 3 xs), .d (.lit (.int .i64 i))], [] => (N = 22 ∧ i = 0 ∧ xs.length ≤ 16 ∧ ∀ y ∈ xs, FitM y ∧ Bd y) ∧ optE (search (firstF mOneE xs) xs.length) (k (.exit 0) [.any] []) (fun e => k .ret [lint e] [])
 | _, _ => False }
theorem w81 (xs : List D) (b : Bool) (p : V → Prop) : (evBodyT (Cn T150) T150 noCS 0 (spL [(8, S81)]) noHn 81 [V.d (D.slice b 3 xs)] Heap.empty fun v H => p (freezeR H v)) =
 (bif decide ((↑xs.length : Int) > 16) then
 p (V.d (D.lit (Value.int IntKind.i64 4))) else
 ((22 = 22 ∧ (((0 : Int) = 0) ∧ (xs.length ≤ 16 ∧ ∀ (y : D), y ∈ xs → FitM y ∧ Bd y))) ∧
 (match search (firstF mOneE xs) xs.length with
 | some y0 =>
 p (V.d (D.lit (Value.int IntKind.i64 y0)))
 | none => p (V.d (D.lit (Value.int IntKind.i64 0)))))) := by kernel_rfl
noncomputable def c81 : Ct := ⟨fun | [.slice _ z xs] => z = 3 ∧ ∀ y ∈ xs, FitM y ∧ Bd y | _ => False, fun | [.slice _ _ xs] => some (.lit (.int .i64 (matchersE xs))) | _ => none⟩
noncomputable def T81 : Tab := T150.add 81 c81
noncomputable def l82 : Code := roundOf (pieceAt (bodyOf Tryz.f82) 8)
theorem b82 (xs : List D) (i : Int) (b : Bool) (R : X → List V → List Box → Prop) : (roundT (Cn T81) T81 noCS 0 noSp noHn l82 33 [0, 3] [] [] [] [2] [] [V.d (D.slice b 1 xs), lint i] [] R) =
 (bif decide (i < (↑xs.length : Int)) then
 ((((0 : Int) ≤ i) ∧ (i.toNat < xs.length ∧ D.lit (Value.string (strOf (xs.getD i.toNat D.any))) = xs.getD i.toNat D.any)) ∧
 ((strOf (xs.getD i.toNat D.any)).size.le 1152921504606846976 ∧
 (bif !isName (strOf (xs.getD i.toNat D.any)) then
 (33 = 33 ∧
 R X.ret [V.d (D.lit (Value.int IntKind.i64 5))] []) else
 (((decide (i > 0) && true) = true → (((0 : Int) ≤ IntKind.i64.wrap (i - 1)) ∧ ((IntKind.i64.wrap (i - 1)).toNat < xs.length ∧ D.lit (Value.string (strOf (xs.getD (IntKind.i64.wrap (i - 1)).toNat D.any))) =
 xs.getD (IntKind.i64.wrap (i - 1)).toNat D.any))) ∧
 (((decide (i > 0) && true) = true → (((0 : Int) ≤ i) ∧ (i.toNat < xs.length ∧ D.lit (Value.string (strOf (xs.getD i.toNat D.any))) = xs.getD i.toNat D.any))) ∧
 (bif bif decide (i > 0) then
 !Op.bytesLess (strOf (xs.getD (IntKind.i64.wrap (i - 1)).toNat D.any)).toList (strOf (xs.getD i.toNat D.any)).toList
 else false then
 (33 = 33 ∧
 R X.ret [V.d (D.lit (Value.int IntKind.i64 9))] []) else
 (33 = 33 ∧
 R X.normal [V.d (D.slice b 1 xs), V.d (D.lit (Value.int IntKind.i64 (IntKind.i64.wrap (i + 1))))] []))))))) else
 (33 = 33 ∧
 R (X.exit 0) [V.any] [])) := by kernel_rfl
noncomputable def S82 : Ev.Spec := { L := [0,3], ns := [], L' := [2], nm' := [], G := fun N vals bs k => match vals, bs with
 | [.d (.slice b 1 xs), .d (.lit (.int .i64 i))], [] => (N = 33 ∧ i = 0 ∧ xs.length ≤ 16 ∧ ∀ y ∈ xs, FitN y ∧ Bd y) ∧ optE (search (nameErr false xs) xs.length) (k (.exit 0) [.any] []) (fun e => k .ret [lint e] [])
 | _, _ => False }
theorem w82 (xs : List D) (b : Bool) (p : V → Prop) : (evBodyT (Cn T81) T81 noCS 0 (spL [(8, S82)]) noHn 82 [V.d (D.slice b 1 xs)] Heap.empty fun v H => p (freezeR H v)) =
 (bif decide ((↑xs.length : Int) > 16) then
 p (V.d (D.lit (Value.int IntKind.i64 4))) else
 ((33 = 33 ∧ (((0 : Int) = 0) ∧ (xs.length ≤ 16 ∧ ∀ (y : D), y ∈ xs → FitN y ∧ Bd y))) ∧
 (match search (nameErr false xs) xs.length with
 | some y0 =>
 p (V.d (D.lit (Value.int IntKind.i64 y0)))
 | none => p (V.d (D.lit (Value.int IntKind.i64 0)))))) := by kernel_rfl
noncomputable def c82 : Ct := ⟨fun | [.slice _ z xs] => z = 1 ∧ ∀ y ∈ xs, FitN y ∧ Bd y | _ => False, fun | [.slice _ _ xs] => some (.lit (.int .i64 (namesE xs false))) | _ => none⟩
noncomputable def T82 : Tab := T81.add 82 c82
theorem BdL_mem : ∀ {xs : List D} {a : D}, BdL xs → a ∈ xs → Bd a
 | [], _, _, h => by cases h
 | x :: r, a, hb, h => by
  unfold BdL at hb
  rcases List.mem_cons.1 h with rfl | h
  ·
   exact hb.1
  ·
   exact BdL_mem hb.2 h
theorem BdL_of : ∀ {xs : List D}, (∀ a ∈ xs, Bd a) → BdL xs
 | [], _ => by unfold BdL; trivial
 | x :: r, h => by unfold BdL; exact ⟨h x (by simp), BdL_of fun a ha => h a (by simp [ha])⟩
theorem Bd.cells {y : D} (h : Bd y) : ∀ c ∈ y.cells, Bd c := by
 cases y with
 | agg cs => unfold Bd at h; exact fun c hc => BdL_mem h hc
 | _ => intro c hc; simp only [D.cells, List.mem_singleton] at hc; subst hc; exact h
theorem Bd.cell {y : D} (h : Bd y) (i : Nat) : Bd (cellOf y i) := by
 unfold cellOf
 rw [List.getD_eq_getElem?_getD]
 cases hg : y.cells[i]? with
 | none => simp [Bd]
 | some c => exact h.cells c (List.mem_of_getElem? hg)
theorem Bd.seq {y : D} (h : Bd y) {a : D} (ha : a ∈ seqD y) : Bd a := by
 cases y with
 | slice b z xs => unfold Bd at h; exact BdL_mem h ha
 | _ => cases ha
theorem Bd.sub {y a : D} {i : Nat} (h : Bd y) (ha : a ∈ subs y i) : Bd a := (h.cell i).seq ha
theorem Bd.strO {y : D} (h : Bd y) : (strOf y).size ≤ 1152921504606846976 := by
 unfold strOf
 split
 ·
  unfold Bd at h; exact h
 ·
  exact Nat.zero_le _
theorem Bd.str {y : D} (h : Bd y) (i : Nat) : (strOf (cellOf y i)).size ≤ 1152921504606846976 := (h.cell i).strO
theorem Bd.paV {y : D} (h : Bd y) : Bd (paV y) := by
 refine show BdL _ from BdL_of fun a ha => ?_
 simp only [List.mem_cons, List.not_mem_nil, or_false] at ha
 rcases ha with rfl | rfl | rfl
 ·
  simp [Bd]
 ·
  exact show BdL _ from BdL_of fun a ha => h.sub ha
 ·
  exact show BdL _ from BdL_of fun a ha => h.sub ha
theorem bytesLess_tri : ∀ a b : List UInt8, (!Op.bytesLess a b) = (Op.bytesLess b a || b == a)
 | [], [] => rfl
 | [], y :: r => rfl
 | x :: l, [] => rfl
 | x :: l, y :: r => by
  have ih := bytesLess_tri l r
  unfold Op.bytesLess
  by_cases h1 : x < y
  ·
   have h2 : ¬ y < x := by simp only [UInt8.lt_iff_toNat_lt] at *; omega
   have h3 : (y == x) = false := by
    have : y ≠ x := by rintro rfl; simp only [UInt8.lt_iff_toNat_lt] at *; omega
    simpa using this
   simp [h1, h2, h3, List.beq]
  ·
   by_cases h2 : y < x
   ·
    have h3 : (x == y) = false := by
     have : x ≠ y := by rintro rfl; simp only [UInt8.lt_iff_toNat_lt] at *; omega
     simpa using this
    simp only [h1, h2, h3, if_true, if_false, decide_true, decide_false, Bool.true_or, Bool.false_or, Bool.false_and, Bool.not_false]
   ·
    have h3 : x = y := by
     apply UInt8.toNat_inj.1
     simp only [UInt8.lt_iff_toNat_lt] at *; omega
    subst h3
    simp [h1, ih]
theorem k194 : TabOk B T194 := by
 refine add_body base k80 (fn := Tryz.f194) (cd := bodyOf Tryz.f194) (sp := noSp) (hn := noHn) Tryz.func194 (by kernel_rfl) (by kernel_rfl) noSp_ok fun ds r hp hr => ?_
 unfold c230 at hr
 simp only [] at hr
 split at hr
 ·
  rename_i c
  cases hr
  refine keep (w194 c fun v => v = _) ?_
  unfold nameByte
  simp only [bif_or, bif_and, ge_iff_le]
 ·
  cases hr
theorem ok151 : OkS (Cn T194) 0 (.loop l151) S151 := by
 refine okS_loop fun N vals bs K h => ?_
 simp only [S151] at h
 split at h
 case h_2 => exact h.elim
 rename_i s i
 obtain ⟨⟨rfl, rfl, h60⟩, h⟩ := h
 have key : ∀ n i : Nat, i + n = s.size → (bif nameFrom s n i then K (.exit 0) [lstr s, .any] [] else K .ret [lstr s, lbool false] []) → LoopT (Cn T194) 0 l151 33 [0, 3] [] [0, 2] [] [lstr s, lint i] [] K := by
  intro n
  induction n with
  | zero =>
   intro i hi h
   refine loopT_step (tab_fit base k194 noCS_valid) tab_has noSp_ok (hn := noHn) (adsI := []) (nsI := []) (nsX := []) rfl rfl (keep (b151 s i _) ?_)
   have e1 : decide ((i : Int) < s.size) = false := by simp; omega
   rw [e1]
   exact ⟨(by trivial), h⟩
  | succ n ih =>
   intro i hi h
   refine loopT_step (tab_fit base k194 noCS_valid) tab_has noSp_ok (hn := noHn) (adsI := []) (nsI := []) (nsX := []) rfl rfl (keep (b151 s i _) ?_)
   have e1 : decide ((i : Int) < s.size) = true := by simp; omega
   have e2 : IntKind.i64.wrap ((i : Int) + 1) = ((i + 1 : Nat) : Int) := by rw [Go.IntWalk.i64_in _ (by omega)]; omega
   rw [e1]
   unfold nameFrom at h
   simp only [Int.toNat_natCast, e2, cond_true]
   refine ⟨⟨by omega, by omega⟩, (by trivial), ?_⟩
   cases g : nameByte (byteAt s i) with
   | false => rw [g] at h; exact ⟨(by trivial), h⟩
   | true => rw [g] at h; exact ⟨(by trivial), ih (i + 1) (by omega) h⟩
 exact key s.size 0 (by omega) h
theorem k151 : TabOk B T151 := by
 refine add_body base k194 (fn := Tryz.f151) (cd := bodyOf Tryz.f151) (sp := spL [(4, S151)]) (hn := noHn) Tryz.func151 (by kernel_rfl) (by kernel_rfl) (specT_cons (c := .loop l151) (by kernel_rfl) ok151 specT_nil) fun ds r hp hr => ?_
 unfold c151 at hp hr
 simp only [] at hr hp
 split at hr
 ·
  rename_i s
  cases hr
  refine keep (w151 s fun v => v = _) ?_
  refine ⟨⟨(by trivial), (by trivial), hp⟩, ?_⟩
  unfold isName
  cases nameFrom s s.size 0 with
  | false => simp only [cond_false, Bool.and_false]
  | true =>
   simp only [cond_true, Bool.and_true]
   have z : ∀ b : Bool, ((bif decide ((s.size : Int) > 0) then decide ((s.size : Int) ≤ 60) else false) && b) = true → (0 : Int) ≤ 0 ∧ 0 < s.size := fun b h => by
    simp only [bif_and, Bool.and_eq_true, decide_eq_true_eq] at h
    omega
   refine ⟨fun h => z true (by simpa using h), fun h => z true (by simp only [Bool.and_eq_true] at h ⊢; exact ⟨h.2, trivial⟩), ?_⟩
   have e1 : decide ((s.size : Int) > 0) = decide (1 ≤ s.size) := decide_eq_decide.2 (by omega)
   have e2 : decide ((s.size : Int) ≤ 60) = decide (s.size ≤ 60) := decide_eq_decide.2 (by omega)
   have e3 : decide (byteAt s 0 < 48) = !decide (48 ≤ byteAt s 0) := by rw [← decide_not]; exact decide_eq_decide.2 (by omega)
   have e4 : decide (byteAt s 0 > 57) = !decide (byteAt s 0 ≤ 57) := by rw [← decide_not]; exact decide_eq_decide.2 (by omega)
   simp only [e1, e2, e3, e4, bif_or, bif_and, Bool.not_and]
 ·
  cases hr
theorem lbl_ne (s : ByteArray) : (labelsE [.agg [.lit (.string s), .lit (.string (ByteArray.mk (Array.mk [120])))]] != 0) = !isName s := by
 have := isName_labels s
 unfold bne
 rw [this]
theorem mOne_eq (y : D) : mOneQ y = mOneE y := by
 unfold mOneQ mOneE
 rw [lbl_ne, rx_eq]
 generalize intOf (cellOf y 0) = k
 by_cases h1 : k < 1
 ·
  simp [h1]
 ·
  by_cases h2 : k > 4
  ·
   simp [h1, h2]
  ·
   have h3 : k = 1 ∨ k = 2 ∨ k = 3 ∨ k = 4 := by omega
   rcases h3 with rfl | rfl | rfl | rfl <;> rfl
theorem le_of {a b : Nat} (h : a ≤ b) : Nat.le a b := h
theorem k150 : TabOk B T150 := by
 refine add_body base k151 (fn := Tryz.f150) (cd := bodyOf Tryz.f150) (sp := noSp) (hn := noHn) Tryz.func150 (by kernel_rfl) (by kernel_rfl) noSp_ok fun ds r hp hr => ?_
 unfold c150 at hp hr
 simp only [] at hr hp
 split at hr
 ·
  rename_i x
  cases hr
  rw [arg1 (show mV x = x from hp.1), ← mOne_eq]
  refine keep (w150 x fun v => v = _) ?_
  unfold mOneQ
  have hb := hp.2.str 1
  (repeat' (first | with_reducible rfl | (refine cond_split (fun hcw => ?_) (fun hcw => ?_) <;> simp only [hcw, cond_true, cond_false]) | refine and_i ?_ ?_))
  all_goals first | trivial | exact le_of hb
 ·
  cases hr
theorem ok81 : OkS (Cn T150) 0 (.loop l81) S81 := by
 refine okS_loop fun N vals bs K h => ?_
 simp only [S81] at h
 split at h
 case h_2 => exact h.elim
 rename_i b xs i
 obtain ⟨⟨rfl, rfl, h16, hall⟩, h⟩ := h
 refine search_loop (tab_fit base k150 noCS_valid) tab_has noSp_ok (hn := noHn) (adsI := []) (nsI := []) (nsX := []) rfl rfl xs.length
  (fun i => [.d (.slice b 3 xs), lint i]) (fun _ => []) (firstF mOneE xs) (fun e => (.ret, [lint e], [])) (by simp) (.exit 0) [.any] [] (by simp) ?_ ?_ h
 ·
  intro i R hi hR
  refine keep (b81 xs i b R) ?_
  have e1 : decide ((i : Int) < xs.length) = true := by simp; omega
  have e2 : IntKind.i64.wrap ((i : Int) + 1) = ((i + 1 : Nat) : Int) := by rw [Go.IntWalk.i64_in _ (by omega)]; omega
  have hv := hall _ (getD_mem hi)
  rw [e1]
  simp only [Int.toNat_natCast, e2, cond_true, show mV _ = _ from hv.1]
  refine ⟨⟨by omega, hi, (by trivial)⟩, hv, cond_split (fun h1 => ⟨(by trivial), ?_⟩) (fun h1 => ⟨(by trivial), ?_⟩)⟩ <;> (simp only [firstF, h1, cond_true, cond_false, optE] at hR; exact hR)
 ·
  intro R hR
  refine keep (b81 xs xs.length b R) ?_
  have e1 : decide ((xs.length : Int) < xs.length) = false := by simp
  rw [e1]
  exact ⟨(by trivial), hR⟩
theorem k81 : TabOk B T81 := by
 refine add_body base k150 (fn := Tryz.f81) (cd := bodyOf Tryz.f81) (sp := spL [(8, S81)]) (hn := noHn) Tryz.func81 (by kernel_rfl) (by kernel_rfl) (specT_cons (c := .loop l81) (by kernel_rfl) ok81 specT_nil) fun ds r hp hr => ?_
 unfold c81 at hp hr
 simp only [] at hr hp
 split at hr
 ·
  rename_i b z xs
  cases hr
  obtain ⟨rfl, hall⟩ := hp
  refine keep (w81 xs b fun v => v = _) ?_
  unfold matchersE
  refine cond_split (fun h1 => ?_) (fun h1 => ?_) <;> simp only [h1, cond_true, cond_false]
  have h1' : ¬ (xs.length : Int) > 16 := by simpa using h1
  refine ⟨⟨(by trivial), (by trivial), by omega, hall⟩, ?_⟩
  cases search (firstF mOneE xs) xs.length <;> rfl
 ·
  cases hr
theorem nameErr_f (xs : List D) (i : Nat) : nameErr false xs i = bif !isName (strOf (xs.getD i .any)) then some 5 else
  bif (bif decide ((i : Int) > 0) then !Op.bytesLess (strOf (xs.getD (i - 1) .any)).toList (strOf (xs.getD i .any)).toList else false) then some 9 else none := by
 unfold nameErr
 rw [show leS (strOf (xs.getD i .any)) (strOf (xs.getD (i - 1) .any)) = !Op.bytesLess (strOf (xs.getD (i - 1) .any)).toList (strOf (xs.getD i .any)).toList from (bytesLess_tri _ _).symm]
 cases isName (strOf (xs.getD i .any)) <;> rfl
theorem ok82 : OkS (Cn T81) 0 (.loop l82) S82 := by
 refine okS_loop fun N vals bs K h => ?_
 simp only [S82] at h
 split at h
 case h_2 => exact h.elim
 rename_i b xs i
 obtain ⟨⟨rfl, rfl, h16, hall⟩, h⟩ := h
 refine search_loop (tab_fit base k81 noCS_valid) tab_has noSp_ok (hn := noHn) (adsI := []) (nsI := []) (nsX := []) rfl rfl xs.length
  (fun i => [.d (.slice b 1 xs), lint i]) (fun _ => []) (nameErr false xs) (fun e => (.ret, [lint e], [])) (by simp) (.exit 0) [.any] [] (by simp) ?_ ?_ h
 ·
  intro i R hi hR
  refine keep (b82 xs i b R) ?_
  have e1 : decide ((i : Int) < xs.length) = true := by simp; omega
  have e2 : IntKind.i64.wrap ((i : Int) + 1) = ((i + 1 : Nat) : Int) := by rw [Go.IntWalk.i64_in _ (by omega)]; omega
  have hv := hall _ (getD_mem hi)
  have hsz := hv.2.strO
  rw [nameErr_f] at hR
  rw [e1]
  simp only [Int.toNat_natCast, e2, cond_true]
  refine ⟨⟨by omega, hi, hv.1⟩, le_of hsz, cond_split (fun h1 => ⟨(by trivial), ?_⟩) (fun h1 => ?_)⟩
  ·
   rw [h1] at hR; exact hR
  ·
   rw [h1] at hR
   simp only [cond_false] at hR
   by_cases h0 : 0 < i
   ·
    have e4 : IntKind.i64.wrap ((i : Int) - 1) = ((i - 1 : Nat) : Int) := by rw [Go.IntWalk.i64_in _ (by omega)]; omega
    have hv2 := hall _ (getD_mem (xs := xs) (i := i - 1) (by omega))
    simp only [e4, Int.toNat_natCast]
    refine ⟨fun _ => ⟨by omega, by omega, hv2.1⟩, fun _ => ⟨by omega, hi, hv.1⟩, cond_split (fun h2 => ⟨(by trivial), ?_⟩) (fun h2 => ⟨(by trivial), ?_⟩)⟩
    ·
     rw [h2] at hR; exact hR
    ·
     rw [h2] at hR; exact hR
   ·
    have e5 : decide ((i : Int) > 0) = false := by simp; omega
    rw [e5] at hR ⊢
    exact ⟨(fun h => by cases h), (fun h => by cases h), (by trivial), hR⟩
 ·
  intro R hR
  refine keep (b82 xs xs.length b R) ?_
  have e1 : decide ((xs.length : Int) < xs.length) = false := by simp
  rw [e1]
  exact ⟨(by trivial), hR⟩
theorem k82 : TabOk B T82 := by
 refine add_body base k81 (fn := Tryz.f82) (cd := bodyOf Tryz.f82) (sp := spL [(8, S82)]) (hn := noHn) Tryz.func82 (by kernel_rfl) (by kernel_rfl) (specT_cons (c := .loop l82) (by kernel_rfl) ok82 specT_nil) fun ds r hp hr => ?_
 unfold c82 at hp hr
 simp only [] at hr hp
 split at hr
 ·
  rename_i b z xs
  cases hr
  obtain ⟨rfl, hall⟩ := hp
  refine keep (w82 xs b fun v => v = _) ?_
  unfold namesE
  refine cond_split (fun h1 => ?_) (fun h1 => ?_) <;> simp only [h1, cond_true, cond_false]
  have h1' : ¬ (xs.length : Int) > 16 := by simpa using h1
  refine ⟨⟨(by trivial), (by trivial), by omega, hall⟩, ?_⟩
  cases search (nameErr false xs) xs.length <;> rfl
 ·
  cases hr
end Go.Ev.R2
end
section
namespace Go.Ev
set_option linter.unusedSimpArgs false
set_option linter.unusedVariables false
theorem find_part : ∀ (l : List Nat) (j : Nat), j < l.sum → ∃ (i : Nat) (c : Nat), l[i]? = some c ∧ (l.take i).sum ≤ j ∧ j < (l.take i).sum + c
 | [], j, h => by simp at h
 | c :: r, j, h => by
  by_cases hj : j < c
  ·
   exact ⟨0, c, rfl, by simp, by simpa using hj⟩
  ·
   simp only [List.sum_cons] at h
   obtain ⟨i, d, h1, h2, h3⟩ := find_part r (j - c) (by omega)
   exact ⟨i + 1, d, by simpa using h1, by simp only [List.take_succ_cons, List.sum_cons]; omega, by simp only [List.take_succ_cons, List.sum_cons]; omega⟩
end Go.Ev
namespace Go.Ev.R2
open Go Go.Ev Go.Proofs
set_option linter.unusedSimpArgs false
set_option linter.unusedVariables false
theorem BdL_at : ∀ {xs : List D}, (∀ (j : Nat) a, xs[j]? = some a → Bd a) → BdL xs := fun {xs} h => BdL_of fun a ha => by
 obtain ⟨j, hj⟩ := List.getElem?_of_mem ha
 exact h j a hj
theorem bd_fit {P : Program} {T : TypeId → Prop} (hT : Plainly P T) : ∀ (n : Nat) (t : TypeId) (ds : List D), T t → fitC P n t ds → BdL ds := by
 intro n
 induction n with
 | zero => intro t ds _ h; exact h.elim
 | succ n ih =>
  intro t ds ht h
  rcases hT.kinds t ht with ⟨fs, hu⟩ | ⟨hc1, hu | ⟨k, hu⟩ | hu | ⟨e, hu⟩⟩
  ·
   unfold fitC at h
   rw [hu] at h
   obtain ⟨hl, hf⟩ := h
   obtain ⟨g1, g2, g3⟩ := hT.struct t fs ht hu
   refine BdL_at fun j a ha => ?_
   have hj : j < (fs.toList.map fun f => P.cellsOf f.type).sum := by
    rw [← g2, ← hl]; exact (List.getElem?_eq_some_iff.1 ha).1
   obtain ⟨i, c, i1, i2, i3⟩ := find_part _ j hj
   rw [List.getElem?_map] at i1
   cases hfi : fs.toList[i]? with
   | none => rw [hfi] at i1; cases i1
   | some f =>
    rw [hfi] at i1
    simp only [Option.map_some, Option.some.injEq] at i1
    have ho := g3 i f hfi
    rw [← List.map_take] at i2 i3
    rw [← ho] at i2 i3
    have hfit := hf i f (by simpa using hfi)
    refine BdL_mem (ih f.type _ (g1 f (List.mem_of_getElem? hfi)) hfit) ?_
    refine List.mem_of_getElem? (i := j - f.offset) ?_
    rw [List.getElem?_take_of_lt (by omega), List.getElem?_drop, show f.offset + (j - f.offset) = j by omega]
    exact ha
  ·
   unfold fitC at h; rw [hu] at h; obtain ⟨b, rfl⟩ := h; simp [BdL, Bd]
  ·
   unfold fitC at h; rw [hu] at h; obtain ⟨b, rfl, _⟩ := h; simp [BdL, Bd]
  ·
   unfold fitC at h; rw [hu] at h; obtain ⟨s, rfl, hs⟩ := h
   unfold reachBytes at hs
   simp only [BdL, Bd, and_true]
   omega
  ·
   unfold fitC at h; rw [hu] at h; obtain ⟨nil, xs, rfl, _, hx⟩ := h
   simp only [BdL, Bd, and_true]
   refine BdL_of fun a ha => ?_
   obtain ⟨cs, rfl, hc⟩ := hx a ha
   have hb := ih e cs (hT.slice t e ht hu).1 hc
   unfold elemD
   split
   ·
    simpa [Bd] using hb
   ·
    cases cs with
    | nil => simp [Bd]
    | cons x r => unfold BdL at hb; exact hb.1
end Go.Ev.R2
end
section
namespace Go.Ev.R2
open Go Go.Ev Go.Proofs Go.ChangeShapes Go.WideShapes Go.ChangeAt Go.RowKit Go.Proofs.YtnnhlphbfpnaaaaGreatDoor
set_option maxRecDepth 100000
set_option linter.unusedVariables false
set_option linter.unusedSimpArgs false
section
variable {H : Type} {enc : TypeId × Value → H} {W : World} {base : Nat} {v : Value} {d : DataW H} {p : List MemPlace}
theorem arg33b (hv : Value.okWide Tryz.prog W .any base 33 v) (h : DataW.Trod enc Tryz.prog W 0 (fun _ => true) true 33 v d p) (hw : ∀ m ∈ d.weights Tryz.prog 33, m ≤ reachBytes) :
  ∃ x, RepD W (lim0 W) x v ∧ FitE x ∧ Bd x := by
 obtain ⟨fuel, h⟩ := h
 obtain ⟨h1, h2, ds, h3, h4, h5⟩ := trod_rep plainT fuel 33 _ _ (by decide) h hw
 have hagg : ∃ cs, v = .agg cs := by
  unfold Value.okWide at hv
  rw [Tryz.underlying33] at hv
  obtain ⟨cs, hc, _⟩ := hv
  exact ⟨cs, hc⟩
 obtain ⟨cs, rfl⟩ := hagg
 exact ⟨.agg ds, .agg h3 h2, fit33 fuel fuel (Nat.le_refl _) h4, by unfold Bd; exact bd_fit plainT fuel 33 ds (by decide) h4⟩
end
end Go.Ev.R2
end
section
namespace Go.Ev.R2
open Go Go.Ev Go.Proofs
set_option maxRecDepth 100000
theorem w59 (y : D) (p : V → Prop) : (evBodyT (Cn T82) T82 noCS 0 noSp noHn 59 [V.d (gV y)] Heap.empty fun v H => p (freezeR H v)) =
 (bif bif decide (intOf (cellOf y 0) < 1) then true else decide (intOf (cellOf y 0) > 8) then
 p (V.d (D.lit (Value.int IntKind.i64 8))) else
 (bif bif
 bif
 bif
 bif !decide (intOf (cellOf y 0) ≤ 3) then !(strOf (cellOf y 1)).toList == (ByteArray.mk #[]).toList
 else false then
 true
 else !decide (intOf (cellOf y 0) ≥ 6) == decide ((↑(seqD (cellOf y 3)).length : Int) > 0) then
 true
 else !(intOf (cellOf y 0) == 5) == decide ((↑(seqD (cellOf y 2)).length : Int) > 0) then
 true
 else bif decide (intOf (cellOf y 0) ≤ 2) then (strOf (cellOf y 1)).toList == (ByteArray.mk #[]).toList else false then
 p (V.d (D.lit (Value.int IntKind.i64 1))) else
 (bif bif decide (intOf (cellOf y 0) ≤ 2) then decide ((↑(strOf (cellOf y 1)).size : Int) > 200) else false then
 p (V.d (D.lit (Value.int IntKind.i64 4))) else
 (True ∧
 (bif bif intOf (cellOf y 0) == 3 then rxQ (strOf (cellOf y 1)) != 0 else false then
 p (V.d (D.lit (Value.int IntKind.i64 (rxQ (strOf (cellOf y 1)))))) else
 ((3 = 3 ∧ ∀ (y_1 : D), y_1 ∈ seqD (cellOf y 2) → FitM y_1 ∧ Bd y_1) ∧
 (bif matchersE (seqD (cellOf y 2)) != 0 then
 p (V.d (D.lit (Value.int IntKind.i64 (matchersE (seqD (cellOf y 2)))))) else
 ((1 = 1 ∧ ∀ (y_1 : D), y_1 ∈ seqD (cellOf y 3) → FitN y_1 ∧ Bd y_1) ∧
 p (V.d (D.lit (Value.int IntKind.i64 (namesE (seqD (cellOf y 3)) false)))))))))))) := by kernel_rfl
noncomputable def stageQ (y : D) : Int :=
 (bif bif decide (intOf (cellOf y 0) < 1) then true else decide (intOf (cellOf y 0) > 8) then
 8 else
 (bif bif
 bif
 bif
 bif !decide (intOf (cellOf y 0) ≤ 3) then !(strOf (cellOf y 1)).toList == (ByteArray.mk #[]).toList
 else false then
 true
 else !decide (intOf (cellOf y 0) ≥ 6) == decide ((↑(seqD (cellOf y 3)).length : Int) > 0) then
 true
 else !(intOf (cellOf y 0) == 5) == decide ((↑(seqD (cellOf y 2)).length : Int) > 0) then
 true
 else bif decide (intOf (cellOf y 0) ≤ 2) then (strOf (cellOf y 1)).toList == (ByteArray.mk #[]).toList else false then
 1 else
 (bif bif decide (intOf (cellOf y 0) ≤ 2) then decide ((↑(strOf (cellOf y 1)).size : Int) > 200) else false then
 4 else
 (bif bif intOf (cellOf y 0) == 3 then rxQ (strOf (cellOf y 1)) != 0 else false then
 (rxQ (strOf (cellOf y 1))) else
 (bif matchersE (seqD (cellOf y 2)) != 0 then
 (matchersE (seqD (cellOf y 2))) else
 (namesE (seqD (cellOf y 3)) false))))))
noncomputable def c59 : Ct := ⟨fun | [x] => FitG x ∧ Bd x | _ => False, fun | [x] => some (.lit (.int .i64 (stageE x))) | _ => none⟩
noncomputable def T59 : Tab := T82.add 59 c59
noncomputable def l26 : Code := roundOf (pieceAt (bodyOf Tryz.f26) 8)
theorem b26 (xs : List D) (i : Int) (b : Bool) (R : X → List V → List Box → Prop) : (roundT (Cn T59) T59 noCS 0 noSp noHn l26 22 [0, 3] [] [] [] [2] [] [V.d (D.slice b 4 xs), lint i] [] R) =
 (bif decide (i < (↑xs.length : Int)) then
 ((((0 : Int) ≤ i) ∧ (i.toNat < xs.length ∧ gV (xs.getD i.toNat D.any) = xs.getD i.toNat D.any)) ∧
 ((FitG (gV (xs.getD i.toNat D.any)) ∧ Bd (gV (xs.getD i.toNat D.any))) ∧
 (bif stageE (gV (xs.getD i.toNat D.any)) != 0 then
 (22 = 22 ∧
 R X.ret [V.d (D.lit (Value.int IntKind.i64 (stageE (gV (xs.getD i.toNat D.any)))))] []) else
 (22 = 22 ∧
 R X.normal [V.d (D.slice b 4 xs), V.d (D.lit (Value.int IntKind.i64 (IntKind.i64.wrap (i + 1))))] [])))) else
 (22 = 22 ∧
 R (X.exit 0) [V.any] [])) := by kernel_rfl
noncomputable def S26 : Ev.Spec := { L := [0,3], ns := [], L' := [2], nm' := [], G := fun N vals bs k => match vals, bs with
 | [.d (.slice b 4 xs), .d (.lit (.int .i64 i))], [] => (N = 22 ∧ i = 0 ∧ xs.length ≤ 100 ∧ ∀ y ∈ xs, FitG y ∧ Bd y) ∧ optE (search (firstF stageE xs) xs.length) (k (.exit 0) [.any] []) (fun e => k .ret [lint e] [])
 | _, _ => False }
theorem w26 (xs : List D) (b : Bool) (p : V → Prop) : (evBodyT (Cn T59) T59 noCS 0 (spL [(8, S26)]) noHn 26 [V.d (D.slice b 4 xs)] Heap.empty fun v H => p (freezeR H v)) =
 (bif decide ((↑xs.length : Int) > 100) then
 p (V.d (D.lit (Value.int IntKind.i64 4))) else
 ((22 = 22 ∧ (((0 : Int) = 0) ∧ (xs.length ≤ 100 ∧ ∀ (y : D), y ∈ xs → FitG y ∧ Bd y))) ∧
 (match search (firstF stageE xs) xs.length with
 | some y0 =>
 p (V.d (D.lit (Value.int IntKind.i64 y0)))
 | none => p (V.d (D.lit (Value.int IntKind.i64 0)))))) := by kernel_rfl
noncomputable def c26 : Ct := ⟨fun | [.slice _ z xs] => z = 4 ∧ ∀ y ∈ xs, FitG y ∧ Bd y | _ => False, fun | [.slice _ _ xs] => some (.lit (.int .i64 (stagesE xs))) | _ => none⟩
noncomputable def T26 : Tab := T59.add 26 c26
theorem w146 (s : ByteArray) (p : V → Prop) : (evBodyT (Cn T26) T26 noCS 0 noSp noHn 146 [lstr s] Heap.empty fun v H => p (freezeR H v)) =
 p
 (V.d
 (D.lit
 (Value.bool
 (bif s.toList == (ByteArray.mk #[115, 116, 97, 116, 117, 115]).toList then true
 else s.toList == (ByteArray.mk #[100, 117, 114, 97, 116, 105, 111, 110]).toList)))) := by kernel_rfl
noncomputable def T146 : Tab := T26.add 146 c143
theorem w145 (s : ByteArray) (p : V → Prop) : (evBodyT (Cn T146) T146 noCS 0 noSp noHn 145 [lstr s] Heap.empty fun v H => p (freezeR H v)) =
 (((!decide ((↑s.size : Int) < 6) && true) = true → (((0 : Int) ≤ 5) ∧ 5 ≤ s.size)) ∧
 (bif bif decide ((↑s.size : Int) < 6) then true
 else !(s.extract 0 (Int.toNat 5)).toList == (ByteArray.mk #[97, 116, 116, 114, 46]).toList then
 p (V.d (D.tup [D.lit (Value.string (ByteArray.mk (Array.mk []))), D.lit (Value.bool false)])) else
 ((((0 : Int) ≤ 5) ∧ 5 ≤ s.size) ∧
 ((((0 : Int) ≤ 5) ∧ 5 ≤ s.size) ∧
 ((s.extract 5 s.size).size.le 1152921504606846976 ∧
 p (V.d (D.tup [D.lit (Value.string (s.extract 5 s.size)), D.lit (Value.bool (isName (s.extract 5 s.size)))]))))))) := by kernel_rfl
def attrS : ByteArray := ByteArray.mk #[97, 116, 116, 114, 46]
def attrB (s : ByteArray) : Bool := bif (bif decide ((s.size : Int) < 6) then true else !((s.extract 0 5).toList == attrS.toList)) then false else isName (s.extract 5 s.size)
noncomputable def c145 : Ct := ⟨fun | [.lit (.string s)] => s.size ≤ 1152921504606846976 | _ => False, fun | [.lit (.string s)] => some (.tup [.lit (.string (bif (bif decide ((s.size : Int) < 6) then true else !((s.extract 0 5).toList == attrS.toList)) then (ByteArray.mk #[]) else s.extract 5 s.size)), .lit (.bool (attrB s))]) | _ => none⟩
noncomputable def T145 : Tab := T146.add 145 c145
theorem w76 (y : D) (p : V → Prop) : (evBodyT (Cn T145) T145 noCS 0 noSp noHn 76 [V.d (cV y)] Heap.empty fun v H => p (freezeR H v)) =
 ((strOf (cellOf y 0)).size.le 1152921504606846976 ∧
 (True ∧
 (bif bif
 bif
 bif !numericB (strOf (cellOf y 0)) then
 !(strOf (cellOf y 0)).toList == (ByteArray.mk #[115, 101, 114, 118, 105, 99, 101]).toList
 else false then
 !(strOf (cellOf y 0)).toList == (ByteArray.mk #[110, 97, 109, 101]).toList
 else false then
 !attrB (strOf (cellOf y 0))
 else false then
 p (V.d (D.lit (Value.int IntKind.i64 5))) else
 (True ∧
 (bif numericB (strOf (cellOf y 0)) then
 (bif bif bif bif intOf (cellOf y 1) != 1 then intOf (cellOf y 1) != 2 else false then intOf (cellOf y 1) != 5 else false then
 intOf (cellOf y 1) != 6
 else false then
 p (V.d (D.lit (Value.int IntKind.i64 8))) else
 (bif !(strOf (cellOf y 2)).toList == (ByteArray.mk #[]).toList then
 p (V.d (D.lit (Value.int IntKind.i64 1))) else
 (bif bif decide (intOf (cellOf y 3) < 0) then true else decide (intOf (cellOf y 3) > 1099511627776) then
 p (V.d (D.lit (Value.int IntKind.i64 2))) else
 p (V.d (D.lit (Value.int IntKind.i64 0)))))) else
 (bif bif decide (intOf (cellOf y 1) < 1) then true else decide (intOf (cellOf y 1) > 4) then
 p (V.d (D.lit (Value.int IntKind.i64 8))) else
 (bif intOf (cellOf y 3) != 0 then
 p (V.d (D.lit (Value.int IntKind.i64 1))) else
 (bif bif decide (intOf (cellOf y 1) ≤ 2) then decide ((↑(strOf (cellOf y 2)).size : Int) > 200) else false then
 p (V.d (D.lit (Value.int IntKind.i64 4))) else
 (bif decide (intOf (cellOf y 1) ≤ 2) then
 p (V.d (D.lit (Value.int IntKind.i64 0))) else
 (True ∧
 p (V.d (D.lit (Value.int IntKind.i64 (rxQ (strOf (cellOf y 2)))))))))))))))) := by kernel_rfl
noncomputable def condQ (y : D) : Int :=
 (bif bif
 bif
 bif !numericB (strOf (cellOf y 0)) then
 !(strOf (cellOf y 0)).toList == (ByteArray.mk #[115, 101, 114, 118, 105, 99, 101]).toList
 else false then
 !(strOf (cellOf y 0)).toList == (ByteArray.mk #[110, 97, 109, 101]).toList
 else false then
 !attrB (strOf (cellOf y 0))
 else false then
 5 else
 (bif numericB (strOf (cellOf y 0)) then
 (bif bif bif bif intOf (cellOf y 1) != 1 then intOf (cellOf y 1) != 2 else false then intOf (cellOf y 1) != 5 else false then
 intOf (cellOf y 1) != 6
 else false then
 8 else
 (bif !(strOf (cellOf y 2)).toList == (ByteArray.mk #[]).toList then
 1 else
 (bif bif decide (intOf (cellOf y 3) < 0) then true else decide (intOf (cellOf y 3) > 1099511627776) then
 2 else
 0))) else
 (bif bif decide (intOf (cellOf y 1) < 1) then true else decide (intOf (cellOf y 1) > 4) then
 8 else
 (bif intOf (cellOf y 3) != 0 then
 1 else
 (bif bif decide (intOf (cellOf y 1) ≤ 2) then decide ((↑(strOf (cellOf y 2)).size : Int) > 200) else false then
 4 else
 (bif decide (intOf (cellOf y 1) ≤ 2) then
 0 else
 (rxQ (strOf (cellOf y 2)))))))))
noncomputable def c76 : Ct := ⟨fun | [x] => FitC x ∧ Bd x | _ => False, fun | [x] => some (.lit (.int .i64 (condE x))) | _ => none⟩
noncomputable def T76 : Tab := T145.add 76 c76
theorem bne_self (r : Int) : (bif r != 0 then r else 0) = r := by
 by_cases h : r = 0
 ·
  subst h; rfl
 ·
  have : (r != 0) = true := by simpa using h
  rw [this]; rfl
theorem len_nil {xs : List D} (h : decide ((xs.length : Int) > 0) = false) : xs = [] := by
 simp only [decide_eq_false_iff_not] at h
 cases xs with
 | nil => rfl
 | cons a l => simp only [List.length_cons] at h; omega
theorem stage_eq (y : D) : stageQ y = stageE y := by
 unfold stageQ stageE
 rw [rx_eq]
 have hm : decide ((↑(seqD (cellOf y 2)).length : Int) > 0) = false → matchersE (seqD (cellOf y 2)) = 0 := fun h => by rw [len_nil h]; rfl
 have hn : decide ((↑(seqD (cellOf y 3)).length : Int) > 0) = false → namesE (seqD (cellOf y 3)) false = 0 := fun h => by rw [len_nil h]; rfl
 generalize decide ((↑(seqD (cellOf y 2)).length : Int) > 0) = m at hm ⊢
 generalize decide ((↑(seqD (cellOf y 3)).length : Int) > 0) = n at hn ⊢
 generalize matchersE (seqD (cellOf y 2)) = M at hm ⊢
 generalize namesE (seqD (cellOf y 3)) false = N at hn ⊢
 generalize ((strOf (cellOf y 1)).toList == (ByteArray.mk #[]).toList) = t
 generalize decide ((↑(strOf (cellOf y 1)).size : Int) > 200) = g
 generalize rxErr (strOf (cellOf y 1)) = r
 generalize intOf (cellOf y 0) = k
 by_cases h1 : k < 1
 ·
  simp [h1]
 ·
  by_cases h2 : k > 8
  ·
   simp [h1, h2]
  ·
   have h3 : k = 1 ∨ k = 2 ∨ k = 3 ∨ k = 4 ∨ k = 5 ∨ k = 6 ∨ k = 7 ∨ k = 8 := by omega
   rcases h3 with rfl | rfl | rfl | rfl | rfl | rfl | rfl | rfl <;> cases m <;> cases n <;> cases t <;> cases g <;> simp_all [bne_self]
theorem k59 : TabOk B T59 := by
 refine add_body base k82 (fn := Tryz.f59) (cd := bodyOf Tryz.f59) (sp := noSp) (hn := noHn) Tryz.func59 (by kernel_rfl) (by kernel_rfl) noSp_ok fun ds r hp hr => ?_
 unfold c59 at hp hr
 simp only [] at hr hp
 split at hr
 ·
  rename_i x
  cases hr
  rw [arg1 hp.1.v, ← stage_eq]
  refine keep (w59 x fun v => v = _) ?_
  unfold stageQ
  have h2 : ∀ y ∈ seqD (cellOf x 2), FitM y ∧ Bd y := fun y hy => ⟨hp.1.m y hy, hp.2.sub hy⟩
  have h3 : ∀ y ∈ seqD (cellOf x 3), FitN y ∧ Bd y := fun y hy => ⟨hp.1.n y hy, hp.2.sub hy⟩
  (repeat' (first | with_reducible rfl | (refine cond_split (fun hcw => ?_) (fun hcw => ?_) <;> simp only [hcw, cond_true, cond_false]) | refine and_i ?_ ?_))
  all_goals first | trivial | assumption
 ·
  cases hr
theorem ok26 : OkS (Cn T59) 0 (.loop l26) S26 := by
 refine okS_loop fun N vals bs K h => ?_
 simp only [S26] at h
 split at h
 case h_2 => exact h.elim
 rename_i b xs i
 obtain ⟨⟨rfl, rfl, h16, hall⟩, h⟩ := h
 refine search_loop (tab_fit base k59 noCS_valid) tab_has noSp_ok (hn := noHn) (adsI := []) (nsI := []) (nsX := []) rfl rfl xs.length
  (fun i => [.d (.slice b 4 xs), lint i]) (fun _ => []) (firstF stageE xs) (fun e => (.ret, [lint e], [])) (by simp) (.exit 0) [.any] [] (by simp) ?_ ?_ h
 ·
  intro i R hi hR
  refine keep (b26 xs i b R) ?_
  have e1 : decide ((i : Int) < xs.length) = true := by simp; omega
  have e2 : IntKind.i64.wrap ((i : Int) + 1) = ((i + 1 : Nat) : Int) := by rw [Go.IntWalk.i64_in _ (by omega)]; omega
  have hv := hall _ (getD_mem hi)
  rw [e1]
  simp only [Int.toNat_natCast, e2, cond_true, hv.1.v]
  refine ⟨⟨by omega, hi, (by trivial)⟩, hv, cond_split (fun h1 => ⟨(by trivial), ?_⟩) (fun h1 => ⟨(by trivial), ?_⟩)⟩ <;> (simp only [firstF, h1, cond_true, cond_false, optE] at hR; exact hR)
 ·
  intro R hR
  refine keep (b26 xs xs.length b R) ?_
  have e1 : decide ((xs.length : Int) < xs.length) = false := by simp
  rw [e1]
  exact ⟨(by trivial), hR⟩
theorem k26 : TabOk B T26 := by
 refine add_body base k59 (fn := Tryz.f26) (cd := bodyOf Tryz.f26) (sp := spL [(8, S26)]) (hn := noHn) Tryz.func26 (by kernel_rfl) (by kernel_rfl) (specT_cons (c := .loop l26) (by kernel_rfl) ok26 specT_nil) fun ds r hp hr => ?_
 unfold c26 at hp hr
 simp only [] at hr hp
 split at hr
 ·
  rename_i b z xs
  cases hr
  obtain ⟨rfl, hall⟩ := hp
  refine keep (w26 xs b fun v => v = _) ?_
  unfold stagesE
  refine cond_split (fun h1 => ?_) (fun h1 => ?_) <;> simp only [h1, cond_true, cond_false]
  have h1' : ¬ (xs.length : Int) > 100 := by simpa using h1
  refine ⟨⟨(by trivial), (by trivial), by omega, hall⟩, ?_⟩
  cases search (firstF stageE xs) xs.length <;> rfl
 ·
  cases hr
theorem k146 : TabOk B T146 := by
 refine add_body base k26 (fn := Tryz.f146) (cd := bodyOf Tryz.f146) (sp := noSp) (hn := noHn) Tryz.func146 (by kernel_rfl) (by kernel_rfl) noSp_ok fun ds r hp hr => ?_
 unfold c143 at hr
 simp only [] at hr
 split at hr
 ·
  rename_i s
  cases hr
  refine keep (w146 s fun v => v = _) ?_
  unfold numericB
  first | rfl | rw [bif_or]
 ·
  cases hr
theorem k145 : TabOk B T145 := by
 refine add_body base k146 (fn := Tryz.f145) (cd := bodyOf Tryz.f145) (sp := noSp) (hn := noHn) Tryz.func145 (by kernel_rfl) (by kernel_rfl) noSp_ok fun ds r hp hr => ?_
 unfold c145 at hp hr
 simp only [] at hr hp
 split at hr
 ·
  rename_i s
  cases hr
  refine keep (w145 s fun v => v = _) ?_
  unfold attrB attrS
  refine ⟨fun g => ?_, cond_split (fun hc => ?_) (fun hc => ?_)⟩
  ·
   simp only [Bool.and_true, Bool.not_eq_true', decide_eq_false_iff_not] at g
   omega
  ·
   have hc' : (bif decide ((s.size : Int) < 6) then true else !((s.extract 0 5).toList == (ByteArray.mk #[97, 116, 116, 114, 46]).toList)) = true := hc
   rw [hc']; rfl
  ·
   have hc' : (bif decide ((s.size : Int) < 6) then true else !((s.extract 0 5).toList == (ByteArray.mk #[97, 116, 116, 114, 46]).toList)) = false := hc
   have := (or_f' hc').1
   simp only [decide_eq_false_iff_not] at this
   have hs : (s.extract 5 s.size).size ≤ 1152921504606846976 := by
    have hp : s.size ≤ 1152921504606846976 := hp
    rw [ByteArray.size_extract]; omega
   rw [hc']
   exact ⟨⟨by omega, by omega⟩, ⟨by omega, by omega⟩, le_of hs, (by trivial)⟩
 ·
  cases hr
theorem isName_empty {s : ByteArray} (h : s.size = 0) : isName s = false := by unfold isName; simp [h]
theorem attr_eq (s : ByteArray) : attrB s = (bif prefixB s (ByteArray.mk (Array.mk [97, 116, 116, 114, 46])) then isName (bif prefixB s (ByteArray.mk (Array.mk [97, 116, 116, 114, 46])) then s.extract 5 s.size else s) else false) := by
 unfold attrB prefixB
 have e0 : (ByteArray.mk (Array.mk [97, 116, 116, 114, 46])).size = 5 := rfl
 rw [e0]
 show (bif (bif decide ((s.size : Int) < 6) then true else !(eqS (s.extract 0 5) (ByteArray.mk (Array.mk [97, 116, 116, 114, 46])))) then false else isName (s.extract 5 s.size)) = _
 generalize eqS (s.extract 0 5) (ByteArray.mk (Array.mk [97, 116, 116, 114, 46])) = q
 by_cases h : s.size < 6
 ·
  have d1 : decide ((s.size : Int) < 6) = true := by simp; omega
  rw [d1]
  by_cases h5 : s.size = 5
  ·
   have hn : isName (s.extract 5 s.size) = false := isName_empty (by rw [ByteArray.size_extract]; omega)
   have d2 : decide (5 ≤ s.size) = true := by simp; omega
   rw [d2]
   cases q with
   | false => rfl
   | true => exact hn.symm
  ·
   have d2 : decide (5 ≤ s.size) = false := by simp; omega
   rw [d2]; rfl
 ·
  have d1 : decide ((s.size : Int) < 6) = false := by simp; omega
  have d2 : decide (5 ≤ s.size) = true := by simp; omega
  rw [d1, d2]
  cases q <;> rfl
theorem cond_eq (y : D) : condQ y = condE y := by
 unfold condQ condE
 rw [attr_eq, rx_eq]
 generalize (bif prefixB (strOf (cellOf y 0)) (ByteArray.mk (Array.mk [97, 116, 116, 114, 46])) then isName (bif prefixB (strOf (cellOf y 0)) (ByteArray.mk (Array.mk [97, 116, 116, 114, 46])) then (strOf (cellOf y 0)).extract 5 (strOf (cellOf y 0)).size else strOf (cellOf y 0)) else false) = c
 generalize numericB (strOf (cellOf y 0)) = n
 generalize ((strOf (cellOf y 0)).toList == (ByteArray.mk #[115, 101, 114, 118, 105, 99, 101]).toList) = a
 generalize ((strOf (cellOf y 0)).toList == (ByteArray.mk #[110, 97, 109, 101]).toList) = b
 generalize ((strOf (cellOf y 2)).toList == (ByteArray.mk #[]).toList) = t
 generalize decide ((↑(strOf (cellOf y 2)).size : Int) > 200) = g
 generalize rxErr (strOf (cellOf y 2)) = r
 generalize intOf (cellOf y 1) = k
 generalize intOf (cellOf y 3) = m
 cases n with
 | true => cases a <;> cases b <;> cases c <;> rfl
 | false =>
  have key : ∀ (z : Int), (bif (bif decide (k < 1) then true else decide (k > 4)) then 8 else (bif m != 0 then 1 else (bif (bif decide (k ≤ 2) then g else false) then 4 else (bif decide (k ≤ 2) then 0 else r)))) = (bif (bif decide (k < 1) then true else decide (k > 4)) then 8 else (bif m != 0 then 1 else (bif decide (k ≥ 3) then r else (bif g then 4 else 0)))) := fun _ => by
   by_cases h : k ≤ 2
   ·
    have h' : ¬ k ≥ 3 := by omega
    simp [h, h']
   ·
    have h' : k ≥ 3 := by omega
    simp [h, h']
  cases a <;> cases b <;> cases c <;> first | rfl | exact key 0
theorem k76 : TabOk B T76 := by
 refine add_body base k145 (fn := Tryz.f76) (cd := bodyOf Tryz.f76) (sp := noSp) (hn := noHn) Tryz.func76 (by kernel_rfl) (by kernel_rfl) noSp_ok fun ds r hp hr => ?_
 unfold c76 at hp hr
 simp only [] at hr hp
 split at hr
 ·
  rename_i x
  cases hr
  rw [arg1 (show cV x = x from hp.1), ← cond_eq]
  refine keep (w76 x fun v => v = _) ?_
  unfold condQ
  have hb := hp.2.str 0
  (repeat' (first | with_reducible rfl | (refine cond_split (fun hcw => ?_) (fun hcw => ?_) <;> simp only [hcw, cond_true, cond_false]) | refine and_i ?_ ?_))
  all_goals first | trivial | exact le_of hb
 ·
  cases hr
noncomputable def U56 (κ : Nat) : Tab := T76.add 56 (c54.below μ1 κ)
noncomputable def T56 : Tab := T76.add 56 c54
noncomputable def l56 : Code := roundOf (pieceAt (bodyOf Tryz.f56) 6)
theorem b56 (κ : Nat) (q : Int) (cs : List D) (xs : List D) (b1 : Bool) (b2 : Bool) (i : Int) (m : Int) (R : X → List V → List Box → Prop) : (roundT (Cn (U56 κ)) (U56 κ) noCS 0 noSp noHn l56 22 [1, 3, 4] [[5000]] [] [([5000], [5000])] [3] []
 [V.ptr [5000] 0, lint m, lint i] [pBox q b1 cs b2 xs] R) =
 (bif decide (i < (↑xs.length : Int)) then
 ((((0 : Int) ≤ i) ∧ (i.toNat < xs.length ∧ pV (xs.getD i.toNat D.any) = xs.getD i.toNat D.any)) ∧
 (((FitP (pV (xs.getD i.toNat D.any)) ∧ ptot (pV (xs.getD i.toNat D.any)) ≤ 100) ∧ μ1 [pV (xs.getD i.toNat D.any)] < κ) ∧
 (22 = 22 ∧
 R X.normal
 [V.ptr [5000] 0,
 V.d
 (D.lit
 (Value.int IntKind.i64
 (bif true then
 if (↑(pdep (pV (xs.getD i.toNat D.any))) : Int) > m then (↑(pdep (pV (xs.getD i.toNat D.any))) : Int) else m
 else
 if (↑(pdep (pV (xs.getD i.toNat D.any))) : Int) < m then (↑(pdep (pV (xs.getD i.toNat D.any))) : Int)
 else m))),
 V.d (D.lit (Value.int IntKind.i64 (IntKind.i64.wrap (i + 1))))]
 [Box.cells 30 [V.d (D.lit (Value.int IntKind.i64 q)), V.d (D.slice b1 4 cs), V.d (D.slice b2 3 xs)]]))) else
 (22 = 22 ∧
 R (X.exit 0) [V.d (D.lit (Value.int IntKind.i64 m))] [])) := by kernel_rfl
noncomputable def S56 (κ : Nat) : Ev.Spec := { L := [1,3,4], ns := [([5000],[3])], L' := [3], nm' := [], G := fun N vals bs k => match vals, bs with
 | [.ptr [5000] 0, .d (.lit (.int .i64 m)), .d (.lit (.int .i64 i))], [.cells 30 [.d (.lit (.int .i64 q)), .d (.slice b1 4 cs), .d (.slice b2 3 xs)]] => (N = 22 ∧ i = 0 ∧ m = 0 ∧ xs.length ≤ 100 ∧ ∀ y ∈ xs, (FitP y ∧ ptot y ≤ 100) ∧ dsz y < κ) ∧ k (.exit 0) [lint (maxL (xs.map pdep) : Nat)] []
 | _, _ => False }
theorem w56 (κ : Nat) (y : D) (p : V → Prop) : (evBodyT (Cn (U56 κ)) (U56 κ) noCS 0 (spL [(6, S56 κ)]) noHn 56 [V.d (pV y)] Heap.empty fun v H => p (freezeR H v)) =
 ((22 = 22 ∧ (((0 : Int) = 0) ∧ (((0 : Int) = 0) ∧ ((seqD (cellOf y 2)).length ≤ 100 ∧ ∀ (y_1 : D), y_1 ∈ seqD (cellOf y 2) → (FitP y_1 ∧ ptot y_1 ≤ 100) ∧ dsz y_1 < κ)))) ∧
 p (V.d (D.lit (Value.int IntKind.i64 (IntKind.i64.wrap ((↑(maxL (List.map pdep (seqD (cellOf y 2)))) : Int) + 1)))))) := by kernel_rfl
noncomputable def c57 : Ct := ⟨fun | [x] => FitP x ∧ Bd x | _ => False, fun | [x] => some (.lit (.int .i64 (patE x))) | _ => none⟩
noncomputable def U57 (κ : Nat) : Tab := T56.add 57 (c57.below μ1 κ)
noncomputable def T57 : Tab := T56.add 57 c57
noncomputable def l57a : Code := roundOf (pieceAt (bodyOf Tryz.f57) 26)
noncomputable def l57b : Code := roundOf (pieceAt (bodyOf Tryz.f57) 38)
theorem b57a (κ : Nat) (q : Int) (cs : List D) (xs : List D) (b1 : Bool) (b2 : Bool) (i : Int) (R : X → List V → List Box → Prop) : (roundT (Cn (U57 κ)) (U57 κ) noCS 0 noSp noHn l57a 74 [1, 4] [[5000]] [] [([5000], [5000])] [1, 2] [([5000], [5000])]
 [V.ptr [5000] 0, lint i] [pBox q b1 cs b2 xs] R) =
 (bif decide (i < (↑cs.length : Int)) then
 ((((0 : Int) ≤ i) ∧ (i.toNat < cs.length ∧ cV (cs.getD i.toNat D.any) = cs.getD i.toNat D.any)) ∧
 ((FitC (cV (cs.getD i.toNat D.any)) ∧ Bd (cV (cs.getD i.toNat D.any))) ∧
 (bif condE (cV (cs.getD i.toNat D.any)) != 0 then
 (74 = 74 ∧
 R X.ret [V.ptr [5000] 0, V.d (D.lit (Value.int IntKind.i64 (condE (cV (cs.getD i.toNat D.any)))))]
 [Box.cells 30 [V.d (D.lit (Value.int IntKind.i64 q)), V.d (D.slice b1 4 cs), V.d (D.slice b2 3 xs)]]) else
 (74 = 74 ∧
 R X.normal [V.ptr [5000] 0, V.d (D.lit (Value.int IntKind.i64 (IntKind.i64.wrap (i + 1))))]
 [Box.cells 30 [V.d (D.lit (Value.int IntKind.i64 q)), V.d (D.slice b1 4 cs), V.d (D.slice b2 3 xs)]])))) else
 (74 = 74 ∧
 R (X.exit 0) [V.ptr [5000] 0, V.any]
 [Box.cells 30 [V.d (D.lit (Value.int IntKind.i64 q)), V.d (D.slice b1 4 cs), V.d (D.slice b2 3 xs)]])) := by kernel_rfl
theorem b57b (κ : Nat) (q : Int) (cs : List D) (xs : List D) (b1 : Bool) (b2 : Bool) (i : Int) (R : X → List V → List Box → Prop) : (roundT (Cn (U57 κ)) (U57 κ) noCS 0 noSp noHn l57b 74 [1, 6] [[5000]] [] [([5000], [5000])] [2] []
 [V.ptr [5000] 0, lint i] [pBox q b1 cs b2 xs] R) =
 (bif decide (i < (↑xs.length : Int)) then
 ((((0 : Int) ≤ i) ∧ (i.toNat < xs.length ∧ pV (xs.getD i.toNat D.any) = xs.getD i.toNat D.any)) ∧
 (((FitP (pV (xs.getD i.toNat D.any)) ∧ Bd (pV (xs.getD i.toNat D.any))) ∧ μ1 [pV (xs.getD i.toNat D.any)] < κ) ∧
 (bif patE (pV (xs.getD i.toNat D.any)) != 0 then
 (74 = 74 ∧
 R X.ret [V.d (D.lit (Value.int IntKind.i64 (patE (pV (xs.getD i.toNat D.any)))))] []) else
 (74 = 74 ∧
 R X.normal [V.ptr [5000] 0, V.d (D.lit (Value.int IntKind.i64 (IntKind.i64.wrap (i + 1))))]
 [Box.cells 30 [V.d (D.lit (Value.int IntKind.i64 q)), V.d (D.slice b1 4 cs), V.d (D.slice b2 3 xs)]])))) else
 (74 = 74 ∧
 R (X.exit 2) [V.any] [])) := by kernel_rfl
noncomputable def S57a : Ev.Spec := { L := [1,4], ns := [([5000],[3])], L' := [1,2], nm' := [[5000]], G := fun N vals bs k => match vals, bs with
 | [.ptr [5000] 0, .d (.lit (.int .i64 i))], [.cells 30 [.d (.lit (.int .i64 q)), .d (.slice b1 4 cs), .d (.slice b2 3 xs)]] => (N = 74 ∧ i = 0 ∧ cs.length ≤ 16 ∧ ∀ y ∈ cs, FitC y ∧ Bd y) ∧ optE (search (firstF condE cs) cs.length) (k (.exit 0) [.ptr [5000] 0, .any] [pBox q b1 cs b2 xs]) (fun e => k .ret [.ptr [5000] 0, lint e] [pBox q b1 cs b2 xs])
 | _, _ => False }
noncomputable def S57b (rec : D → Int) (κ : Nat) : Ev.Spec := { L := [1,6], ns := [([5000],[5000])], L' := [2], nm' := [], G := fun N vals bs k => match vals, bs with
 | [.ptr [5000] 0, .d (.lit (.int .i64 i))], [.cells 30 [.d (.lit (.int .i64 q)), .d (.slice b1 4 cs), .d (.slice b2 3 xs)]] => (N = 74 ∧ rec = patE ∧ i = 0 ∧ xs.length ≤ 2 ∧ ∀ y ∈ xs, (FitP y ∧ Bd y) ∧ dsz y < κ) ∧ optE (search (firstF rec xs) xs.length) (k (.exit 2) [.any] []) (fun e => k .ret [lint e] [])
 | _, _ => False }
theorem w57 (rec : D → Int) (κ : Nat) (y : D) (p : V → Prop) : (evBodyT (Cn (U57 κ)) (U57 κ) noCS 0 (spL [(26, S57a), (38, S57b rec κ)]) noHn 57 [V.d (pV y)] Heap.empty fun v H =>
 p (freezeR H v)) =
 (bif bif decide (intOf (cellOf y 0) < 1) then true else decide (intOf (cellOf y 0) > 9) then
 p (V.d (D.lit (Value.int IntKind.i64 8))) else
 (bif intOf (cellOf y 0) == 1 then
 (bif intOf (cellOf y 0) == 9 then
 (bif bif (↑(seqD (cellOf y 2)).length : Int) != 1 then true
 else bif intOf (cellOf y 0) != 1 then decide ((↑(seqD (cellOf y 1)).length : Int) > 0) else false then
 p (V.d (D.lit (Value.int IntKind.i64 1))) else
 (bif decide ((↑(seqD (cellOf y 1)).length : Int) > 16) then
 p (V.d (D.lit (Value.int IntKind.i64 4))) else
 ((74 = 74 ∧ (((0 : Int) = 0) ∧ ((seqD (cellOf y 1)).length ≤ 16 ∧ ∀ (y_1 : D), y_1 ∈ seqD (cellOf y 1) → FitC y_1 ∧ Bd y_1))) ∧
 (match search (firstF condE (seqD (cellOf y 1))) (seqD (cellOf y 1)).length with
 | some y1 =>
 p (V.d (D.lit (Value.int IntKind.i64 y1)))
 | none => ((74 = 74 ∧ (rec = patE ∧ (((0 : Int) = 0) ∧ ((seqD (cellOf y 2)).length ≤ 2 ∧ ∀ (y_1 : D), y_1 ∈ seqD (cellOf y 2) → (FitP y_1 ∧ Bd y_1) ∧ dsz y_1 < κ)))) ∧
 (match search (firstF rec (seqD (cellOf y 2))) (seqD (cellOf y 2)).length with
 | some y0 =>
 p (V.d (D.lit (Value.int IntKind.i64 y0)))
 | none => p (V.d (D.lit (Value.int IntKind.i64 0))))))))) else
 (bif bif (↑(seqD (cellOf y 2)).length : Int) != 0 then true
 else bif intOf (cellOf y 0) != 1 then decide ((↑(seqD (cellOf y 1)).length : Int) > 0) else false then
 p (V.d (D.lit (Value.int IntKind.i64 1))) else
 (bif decide ((↑(seqD (cellOf y 1)).length : Int) > 16) then
 p (V.d (D.lit (Value.int IntKind.i64 4))) else
 ((74 = 74 ∧ (((0 : Int) = 0) ∧ ((seqD (cellOf y 1)).length ≤ 16 ∧ ∀ (y_1 : D), y_1 ∈ seqD (cellOf y 1) → FitC y_1 ∧ Bd y_1))) ∧
 (match search (firstF condE (seqD (cellOf y 1))) (seqD (cellOf y 1)).length with
 | some y3 =>
 p (V.d (D.lit (Value.int IntKind.i64 y3)))
 | none => ((74 = 74 ∧ (rec = patE ∧ (((0 : Int) = 0) ∧ ((seqD (cellOf y 2)).length ≤ 2 ∧ ∀ (y_1 : D), y_1 ∈ seqD (cellOf y 2) → (FitP y_1 ∧ Bd y_1) ∧ dsz y_1 < κ)))) ∧
 (match search (firstF rec (seqD (cellOf y 2))) (seqD (cellOf y 2)).length with
 | some y2 =>
 p (V.d (D.lit (Value.int IntKind.i64 y2)))
 | none => p (V.d (D.lit (Value.int IntKind.i64 0)))))))))) else
 (bif intOf (cellOf y 0) == 9 then
 (bif bif (↑(seqD (cellOf y 2)).length : Int) != 1 then true
 else bif intOf (cellOf y 0) != 1 then decide ((↑(seqD (cellOf y 1)).length : Int) > 0) else false then
 p (V.d (D.lit (Value.int IntKind.i64 1))) else
 (bif decide ((↑(seqD (cellOf y 1)).length : Int) > 16) then
 p (V.d (D.lit (Value.int IntKind.i64 4))) else
 ((74 = 74 ∧ (((0 : Int) = 0) ∧ ((seqD (cellOf y 1)).length ≤ 16 ∧ ∀ (y_1 : D), y_1 ∈ seqD (cellOf y 1) → FitC y_1 ∧ Bd y_1))) ∧
 (match search (firstF condE (seqD (cellOf y 1))) (seqD (cellOf y 1)).length with
 | some y5 =>
 p (V.d (D.lit (Value.int IntKind.i64 y5)))
 | none => ((74 = 74 ∧ (rec = patE ∧ (((0 : Int) = 0) ∧ ((seqD (cellOf y 2)).length ≤ 2 ∧ ∀ (y_1 : D), y_1 ∈ seqD (cellOf y 2) → (FitP y_1 ∧ Bd y_1) ∧ dsz y_1 < κ)))) ∧
 (match search (firstF rec (seqD (cellOf y 2))) (seqD (cellOf y 2)).length with
 | some y4 =>
 p (V.d (D.lit (Value.int IntKind.i64 y4)))
 | none => p (V.d (D.lit (Value.int IntKind.i64 0))))))))) else
 (bif bif (↑(seqD (cellOf y 2)).length : Int) != 2 then true
 else bif intOf (cellOf y 0) != 1 then decide ((↑(seqD (cellOf y 1)).length : Int) > 0) else false then
 p (V.d (D.lit (Value.int IntKind.i64 1))) else
 (bif decide ((↑(seqD (cellOf y 1)).length : Int) > 16) then
 p (V.d (D.lit (Value.int IntKind.i64 4))) else
 ((74 = 74 ∧ (((0 : Int) = 0) ∧ ((seqD (cellOf y 1)).length ≤ 16 ∧ ∀ (y_1 : D), y_1 ∈ seqD (cellOf y 1) → FitC y_1 ∧ Bd y_1))) ∧
 (match search (firstF condE (seqD (cellOf y 1))) (seqD (cellOf y 1)).length with
 | some y7 =>
 p (V.d (D.lit (Value.int IntKind.i64 y7)))
 | none => ((74 = 74 ∧ (rec = patE ∧ (((0 : Int) = 0) ∧ ((seqD (cellOf y 2)).length ≤ 2 ∧ ∀ (y_1 : D), y_1 ∈ seqD (cellOf y 2) → (FitP y_1 ∧ Bd y_1) ∧ dsz y_1 < κ)))) ∧
 (match search (firstF rec (seqD (cellOf y 2))) (seqD (cellOf y 2)).length with
 | some y6 =>
 p (V.d (D.lit (Value.int IntKind.i64 y6)))
 | none => p (V.d (D.lit (Value.int IntKind.i64 0)))))))))))) := by kernel_rfl
noncomputable def patQT (rec : D → Int) (y : D) : Int :=
 (bif bif decide (intOf (cellOf y 0) < 1) then true else decide (intOf (cellOf y 0) > 9) then
 8 else
 (bif intOf (cellOf y 0) == 1 then
 (bif intOf (cellOf y 0) == 9 then
 (bif bif (↑(seqD (cellOf y 2)).length : Int) != 1 then true
 else bif intOf (cellOf y 0) != 1 then decide ((↑(seqD (cellOf y 1)).length : Int) > 0) else false then
 1 else
 (bif decide ((↑(seqD (cellOf y 1)).length : Int) > 16) then
 4 else
 (match search (firstF condE (seqD (cellOf y 1))) (seqD (cellOf y 1)).length with
 | some y1 => y1
 | none => (match search (firstF rec (seqD (cellOf y 2))) (seqD (cellOf y 2)).length with
 | some y0 => y0
 | none => 0)))) else
 (bif bif (↑(seqD (cellOf y 2)).length : Int) != 0 then true
 else bif intOf (cellOf y 0) != 1 then decide ((↑(seqD (cellOf y 1)).length : Int) > 0) else false then
 1 else
 (bif decide ((↑(seqD (cellOf y 1)).length : Int) > 16) then
 4 else
 (match search (firstF condE (seqD (cellOf y 1))) (seqD (cellOf y 1)).length with
 | some y3 => y3
 | none => (match search (firstF rec (seqD (cellOf y 2))) (seqD (cellOf y 2)).length with
 | some y2 => y2
 | none => 0))))) else
 (bif intOf (cellOf y 0) == 9 then
 (bif bif (↑(seqD (cellOf y 2)).length : Int) != 1 then true
 else bif intOf (cellOf y 0) != 1 then decide ((↑(seqD (cellOf y 1)).length : Int) > 0) else false then
 1 else
 (bif decide ((↑(seqD (cellOf y 1)).length : Int) > 16) then
 4 else
 (match search (firstF condE (seqD (cellOf y 1))) (seqD (cellOf y 1)).length with
 | some y5 => y5
 | none => (match search (firstF rec (seqD (cellOf y 2))) (seqD (cellOf y 2)).length with
 | some y4 => y4
 | none => 0)))) else
 (bif bif (↑(seqD (cellOf y 2)).length : Int) != 2 then true
 else bif intOf (cellOf y 0) != 1 then decide ((↑(seqD (cellOf y 1)).length : Int) > 0) else false then
 1 else
 (bif decide ((↑(seqD (cellOf y 1)).length : Int) > 16) then
 4 else
 (match search (firstF condE (seqD (cellOf y 1))) (seqD (cellOf y 1)).length with
 | some y7 => y7
 | none => (match search (firstF rec (seqD (cellOf y 2))) (seqD (cellOf y 2)).length with
 | some y6 => y6
 | none => 0)))))))
theorem w24 (y : D) (p : V → Prop) : (evBodyT (Cn T57) T57 noCS 0 noSp noHn 24 [V.d (pV y)] Heap.empty fun v H => p (freezeR H v)) =
 (FitP (pV y) ∧
 (bif decide (cnpE (pV y) 0 > 100) then
 p (V.d (D.lit (Value.int IntKind.i64 4))) else
 ((FitP (pV y) ∧ ptot (pV y) ≤ 100) ∧
 (bif decide ((↑(pdep (pV y)) : Int) > 12) then
 p (V.d (D.lit (Value.int IntKind.i64 30))) else
 ((FitP (pV y) ∧ Bd (pV y)) ∧
 p (V.d (D.lit (Value.int IntKind.i64 (patE (pV y)))))))))) := by kernel_rfl
noncomputable def c24 : Ct := ⟨fun | [x] => FitP x ∧ Bd x | _ => False, fun | [x] => some (.lit (.int .i64 (patCheckE x))) | _ => none⟩
noncomputable def T24 : Tab := T57.add 24 c24
theorem w21 (y : D) (p : V → Prop) : (evBodyT (Cn T24) T24 noCS 0 noSp noHn 21 [V.d (pV y)] Heap.empty fun v H => p (freezeR H v)) =
 (FitP (pV y) ∧
 (((!decide (cnpE (pV y) 0 > 16) && (decide (cnpE (pV y) 0 ≤ 100) && true)) = true → FitP (pV y)) ∧
 p
 (V.d
 (D.lit
 (Value.bool
 (bif decide (cnpE (pV y) 0 ≤ 100) then bif decide (cnpE (pV y) 0 > 16) then true else gpE (pV y) else false)))))) := by kernel_rfl
noncomputable def greatP (y : D) : Bool :=
 (bif decide (cnpE (pV y) 0 ≤ 100) then bif decide (cnpE (pV y) 0 > 16) then true else gpE (pV y) else false)
noncomputable def c21 : Ct := ⟨fun | [x] => FitP x | _ => False, fun | [x] => some (.lit (.bool (greatP x))) | _ => none⟩
noncomputable def T21 : Tab := T24.add 21 c21
theorem ok56 {κ : Nat} (hk : TabOk B (U56 κ)) : OkS (Cn (U56 κ)) 0 (.loop l56) (S56 κ) := by
 refine okS_loop fun N vals bs K h => ?_
 simp only [S56] at h
 split at h
 case h_2 => exact h.elim
 rename_i m i q b1 cs b2 xs
 obtain ⟨⟨rfl, rfl, rfl, hl, hx⟩, h⟩ := h
 have main : ∀ k i, i + k = xs.length → LoopT (Cn (U56 κ)) 0 l56 22 [1,3,4] [[5000]] [3] [] [.ptr [5000] 0, lint (maxL ((xs.take i).map pdep) : Nat), lint i] [pBox q b1 cs b2 xs] K := by
  intro k
  induction k with
  | zero =>
   intro i hi
   have : i = xs.length := by omega
   subst this
   refine loopT_step (tab_fit base hk noCS_valid) tab_has noSp_ok (hn := noHn) (adsI := []) (nsI := [([5000],[5000])]) (nsX := []) rfl rfl (keep (b56 κ q cs xs b1 b2 xs.length _ _) ?_)
   have e1 : decide ((xs.length : Int) < xs.length) = false := by simp
   rw [e1, List.take_length]
   exact ⟨(by trivial), h⟩
  | succ k ih =>
   intro i hi
   refine loopT_step (tab_fit base hk noCS_valid) tab_has noSp_ok (hn := noHn) (adsI := []) (nsI := [([5000],[5000])]) (nsX := []) rfl rfl (keep (b56 κ q cs xs b1 b2 i _ _) ?_)
   have e1 : decide ((i : Int) < xs.length) = true := by simp; omega
   obtain ⟨hf, hlt⟩ := hx _ (getD_mem (xs := xs) (i := i) (by omega))
   have hv := hf.1.v
   rw [e1]
   simp only [Int.toNat_natCast, cond_true, hv]
   refine ⟨⟨by omega, by omega, (by trivial)⟩, ⟨hf, hlt⟩, (by trivial), ?_⟩
   have := ih (i + 1) (by omega)
   rw [Go.IntWalk.i64_in _ (by omega)]
   rw [maxL_take_succ (by omega)] at this
   rw [show (if (pdep (xs.getD i .any) : Int) > (maxL ((xs.take i).map pdep) : Nat) then (pdep (xs.getD i .any) : Int) else (maxL ((xs.take i).map pdep) : Nat)) = (max (maxL ((xs.take i).map pdep)) (pdep (xs.getD i .any)) : Nat) by split <;> omega]
   exact this
 exact main xs.length 0 (by omega)
theorem k56 : TabOk B T56 := by
 refine add_rec base k76 μ1 (fn := Tryz.f56) (cd := bodyOf Tryz.f56) (sp := fun n => spL [(6, S56 n)]) (hn := noHn) Tryz.func56 (by kernel_rfl) (by kernel_rfl) (fun n hk => specT_cons (c := .loop l56) (by kernel_rfl) (ok56 hk) specT_nil) fun κ ds r hp hm hr => ?_
 unfold c54 at hp hr
 simp only [] at hr hp
 split at hr
 ·
  rename_i x
  cases hr
  obtain ⟨hf, h1⟩ := hp
  rw [arg1 hf.v]
  refine keep (w56 κ x fun v => v = _) ?_
  have e1 := ptot_eq x
  have e2 := pdep_eq x
  have e3 := pdep_le _ x (Nat.le_refl _)
  have e4 := len_ptot (xs := subs x 2)
  refine ⟨⟨(by trivial), (by trivial), (by trivial), by unfold subs at *; omega, fun y hy => ⟨⟨hf.a y hy, ?_⟩, ?_⟩⟩, ?_⟩
  ·
   have := le_sum (f := ptot) (xs := subs x 2) hy; omega
  ·
   rw [← hm]; exact subs_lt hy
  ·
   unfold subs at *
   rw [Go.IntWalk.i64_in _ (by omega), show ((maxL (List.map pdep (seqD (cellOf x 2))) : Nat) : Int) + 1 = (pdep x : Nat) by omega]
 ·
  cases hr
theorem ok57a {κ : Nat} (hk : TabOk B (U57 κ)) : OkS (Cn (U57 κ)) 0 (.loop l57a) S57a := by
 refine okS_loop fun N vals bs K h => ?_
 simp only [S57a] at h
 split at h
 case h_2 => exact h.elim
 rename_i i q b1 cs b2 xs
 obtain ⟨⟨rfl, rfl, hsh, hall⟩, h⟩ := h
 refine search_loop (tab_fit base hk noCS_valid) tab_has noSp_ok (hn := noHn) (adsI := []) (nsI := [([5000],[5000])]) (nsX := [([5000],[5000])]) rfl rfl cs.length
  (fun i => [.ptr [5000] 0, lint i]) (fun _ => [pBox q b1 cs b2 xs]) (firstF condE cs) (fun e => (.ret, [.ptr [5000] 0, lint e], [pBox q b1 cs b2 xs])) (by simp) (.exit 0) [.ptr [5000] 0, .any] [pBox q b1 cs b2 xs] (by simp) ?_ ?_ h
 ·
  intro i R hi hR
  refine keep (b57a κ q cs xs b1 b2 i R) ?_
  have e1 : decide ((i : Int) < cs.length) = true := by simp; omega
  have e2 : IntKind.i64.wrap ((i : Int) + 1) = ((i + 1 : Nat) : Int) := by rw [Go.IntWalk.i64_in _ (by omega)]; omega
  have hv := hall _ (getD_mem hi)
  rw [e1]
  simp only [Int.toNat_natCast, e2, cond_true, show cV _ = _ from hv.1]
  refine ⟨⟨by omega, hi, (by trivial)⟩, hv, cond_split (fun h1 => ⟨(by trivial), ?_⟩) (fun h1 => ⟨(by trivial), ?_⟩)⟩ <;> (simp only [firstF, h1, cond_true, cond_false, optE] at hR; exact hR)
 ·
  intro R hR
  refine keep (b57a κ q cs xs b1 b2 cs.length R) ?_
  have e1 : decide ((cs.length : Int) < cs.length) = false := by simp
  rw [e1]
  exact ⟨(by trivial), hR⟩
theorem ok57b {κ : Nat} (hk : TabOk B (U57 κ)) : OkS (Cn (U57 κ)) 0 (.loop l57b) (S57b patE κ) := by
 refine okS_loop fun N vals bs K h => ?_
 simp only [S57b] at h
 split at h
 case h_2 => exact h.elim
 rename_i i q b1 cs b2 xs
 obtain ⟨⟨rfl, _, rfl, hsh, hall⟩, h⟩ := h
 refine search_loop (tab_fit base hk noCS_valid) tab_has noSp_ok (hn := noHn) (adsI := []) (nsI := [([5000],[5000])]) (nsX := []) rfl rfl xs.length
  (fun i => [.ptr [5000] 0, lint i]) (fun _ => [pBox q b1 cs b2 xs]) (firstF patE xs) (fun e => (.ret, [lint e], [])) (by simp) (.exit 2) [.any] [] (by simp) ?_ ?_ h
 ·
  intro i R hi hR
  refine keep (b57b κ q cs xs b1 b2 i R) ?_
  have e1 : decide ((i : Int) < xs.length) = true := by simp; omega
  have e2 : IntKind.i64.wrap ((i : Int) + 1) = ((i + 1 : Nat) : Int) := by rw [Go.IntWalk.i64_in _ (by omega)]; omega
  obtain ⟨hv, hlt⟩ := hall _ (getD_mem hi)
  rw [e1]
  simp only [Int.toNat_natCast, e2, cond_true, hv.1.v]
  refine ⟨⟨by omega, hi, (by trivial)⟩, ⟨hv, hlt⟩, cond_split (fun h1 => ⟨(by trivial), ?_⟩) (fun h1 => ⟨(by trivial), ?_⟩)⟩ <;> (simp only [firstF, h1, cond_true, cond_false, optE] at hR; exact hR)
 ·
  intro R hR
  refine keep (b57b κ q cs xs b1 b2 xs.length R) ?_
  have e1 : decide ((xs.length : Int) < xs.length) = false := by simp
  rw [e1]
  exact ⟨(by trivial), hR⟩
theorem patQ_eq (rec : D → Int) (y : D) : patQT rec y = patT rec y := by
 unfold patQT patT
 generalize search (firstF condE (seqD (cellOf y 1))) (seqD (cellOf y 1)).length = o1
 generalize search (firstF rec (seqD (cellOf y 2))) (seqD (cellOf y 2)).length = o2
 generalize ((↑(seqD (cellOf y 2)).length : Int) != 0) = a0
 generalize ((↑(seqD (cellOf y 2)).length : Int) != 1) = a1
 generalize ((↑(seqD (cellOf y 2)).length : Int) != 2) = a2
 generalize decide ((↑(seqD (cellOf y 1)).length : Int) > 0) = c
 generalize decide ((↑(seqD (cellOf y 1)).length : Int) > 16) = g
 generalize intOf (cellOf y 0) = k
 by_cases h1 : k < 1
 ·
  simp [h1]
 ·
  by_cases h2 : k > 9
  ·
   simp [h1, h2]
  ·
   by_cases h3 : k = 1
   ·
    subst h3; cases a0 <;> cases c <;> cases g <;> rfl
   ·
    by_cases h4 : k = 9
    ·
     subst h4; cases a1 <;> cases c <;> cases g <;> rfl
    ·
     have e1 : (k == 1) = false := by simpa using h3
     have e2 : (k == 9) = false := by simpa using h4
     have e3 : (k != 1) = true := by simpa using h3
     simp only [e1, e2, e3, cond_true, cond_false]
     cases a2 <;> cases c <;> cases g <;> rfl
theorem k57 : TabOk B T57 := by
 refine add_rec base k56 μ1 (fn := Tryz.f57) (cd := bodyOf Tryz.f57) (sp := fun n => spL [(26, S57a), (38, S57b patE n)]) (hn := noHn) Tryz.func57 (by kernel_rfl) (by kernel_rfl) (fun n hk => specT_cons (c := .loop l57a) (by kernel_rfl) (ok57a hk) (specT_cons (c := .loop l57b) (by kernel_rfl) (ok57b hk) specT_nil)) fun κ ds r hp hm hr => ?_
 unfold c57 at hp hr
 simp only [] at hr hp
 split at hr
 ·
  rename_i x
  cases hr
  rw [arg1 hp.1.v, patE_eq, ← patQ_eq]
  refine keep (w57 patE κ x fun v => v = _) ?_
  unfold patQT
  have hc : ∀ y ∈ seqD (cellOf x 1), FitC y ∧ Bd y := fun y hy => ⟨hp.1.c y hy, hp.2.sub hy⟩
  have ha : ∀ y ∈ seqD (cellOf x 2), (FitP y ∧ Bd y) ∧ dsz y < κ := fun y hy => ⟨⟨hp.1.a y hy, hp.2.sub hy⟩, hm ▸ subs_lt hy⟩
  by_cases hl : (seqD (cellOf x 2)).length ≤ 2
  ·
   by_cases hl1 : (seqD (cellOf x 1)).length ≤ 16
   ·
    generalize search (firstF condE (seqD (cellOf x 1))) (seqD (cellOf x 1)).length = o1
    generalize search (firstF patE (seqD (cellOf x 2))) (seqD (cellOf x 2)).length = o2
    cases o1 <;> cases o2 <;> (repeat' (first | with_reducible rfl | (refine cond_split (fun hcw => ?_) (fun hcw => ?_) <;> simp only [hcw, cond_true, cond_false]) | refine and_i ?_ ?_))
    all_goals first | trivial | assumption
   ·
    have e : decide ((↑(seqD (cellOf x 1)).length : Int) > 16) = true := by simp; omega
    simp only [e, cond_true]
    (repeat' (first | with_reducible rfl | (refine cond_split (fun hcw => ?_) (fun hcw => ?_) <;> simp only [hcw, cond_true, cond_false]) | refine and_i ?_ ?_))
  ·
   have e0 : ((↑(seqD (cellOf x 2)).length : Int) != 0) = true := bne_iff_ne.2 (by omega)
   have e1 : ((↑(seqD (cellOf x 2)).length : Int) != 1) = true := bne_iff_ne.2 (by omega)
   have e2 : ((↑(seqD (cellOf x 2)).length : Int) != 2) = true := bne_iff_ne.2 (by omega)
   simp only [e0, e1, e2, cond_true]
   (repeat' (first | with_reducible rfl | (refine cond_split (fun hcw => ?_) (fun hcw => ?_) <;> simp only [hcw, cond_true, cond_false]) | refine and_i ?_ ?_))
 ·
  cases hr
theorem cntL_cap {rec : D → Int → Int} {f : D → Nat} : ∀ {xs : List D} {m : Int}, 0 ≤ m → (∀ a ∈ xs, ∀ n : Int, 0 ≤ n → n ≤ 100 → n ≤ rec a n ∧ min (rec a n) 101 = min (n + (f a : Nat)) 101) →
  m ≤ cntL rec xs m ∧ min (cntL rec xs m) 101 = min (m + ((xs.map f).sum : Nat)) 101
 | [], m, h0, h => by unfold cntL; simp
 | a :: l, m, h0, h => by
  unfold cntL
  by_cases hm : m ≤ 100
  ·
   have d : decide (m ≤ 100) = true := by simpa using hm
   rw [d]
   simp only [cond_true]
   obtain ⟨p1, p2⟩ := h a (by simp) m h0 hm
   obtain ⟨q1, q2⟩ := cntL_cap (rec := rec) (f := f) (xs := l) (m := rec a m) (by omega) fun b hb => h b (by simp [hb])
   simp only [List.map_cons, List.sum_cons]
   omega
  ·
   have d : decide (m ≤ 100) = false := by simpa using hm
   rw [d]
   simp only [cond_false, List.map_cons, List.sum_cons]
   omega
theorem cnp_cap : ∀ (κ : Nat) (y : D), dsz y < κ → ∀ n : Int, 0 ≤ n → n ≤ 100 → n ≤ cnpE y n ∧ min (cnpE y n) 101 = min (n + (ptot y : Nat)) 101
 | 0, _, h, _, _, _ => absurd h (Nat.not_lt_zero _)
 | κ + 1, y, h, n, h0, h1 => by
  rw [cnpE_eq, ptot_eq]
  unfold cnpT
  rw [Go.IntWalk.i64_in _ (by omega)]
  obtain ⟨p1, p2⟩ := cntL_cap (rec := cnpE) (f := ptot) (xs := seqD (cellOf y 2)) (m := n + 1) (by omega) fun a ha => cnp_cap κ a (by have := subs_lt (y := y) (i := 2) ha; omega)
  unfold subs
  constructor
  ·
   omega
  ·
   rw [p2]; congr 1; omega
theorem k24 : TabOk B T24 := by
 refine add_body base k57 (fn := Tryz.f24) (cd := bodyOf Tryz.f24) (sp := noSp) (hn := noHn) Tryz.func24 (by kernel_rfl) (by kernel_rfl) noSp_ok fun ds r hp hr => ?_
 unfold c24 at hp hr
 simp only [] at hr hp
 split at hr
 ·
  rename_i x
  cases hr
  rw [arg1 hp.1.v]
  refine keep (w24 x fun v => v = _) ?_
  unfold patCheckE
  rw [hp.1.v]
  have hc := (cnp_cap _ x (Nat.lt_succ_self _) 0 (by omega) (by omega)).2
  have e : decide (cnpE x 0 > 100) = decide ((↑(cap (0 + ptot x)) : Int) > 100) := decide_eq_decide.2 (by unfold cap; omega)
  rw [e]
  refine ⟨hp.1, cond_split (fun g => ?_) (fun g => ?_)⟩
  ·
   simp only [g, cond_true]
  ·
   simp only [g, cond_false]
   simp only [decide_eq_false_iff_not] at g
   refine ⟨⟨hp.1, by unfold cap at g; omega⟩, cond_split (fun g => ?_) (fun g => ?_)⟩
   ·
    simp only [g, cond_true]
   ·
    simp only [g, cond_false]; exact ⟨hp, (by trivial)⟩
 ·
  cases hr
theorem k21 : TabOk B T21 := by
 refine add_body base k24 (fn := Tryz.f21) (cd := bodyOf Tryz.f21) (sp := noSp) (hn := noHn) Tryz.func21 (by kernel_rfl) (by kernel_rfl) noSp_ok fun ds r hp hr => ?_
 unfold c21 at hp hr
 simp only [] at hr hp
 split at hr
 ·
  rename_i x
  cases hr
  rw [arg1 (FitP.v hp)]
  refine keep (w21 x fun v => v = _) ?_
  unfold greatP
  rw [FitP.v hp]
  exact ⟨hp, fun _ => hp, (by trivial)⟩
 ·
  cases hr
noncomputable def l199 : Code := roundOf (pieceAt (bodyOf Tryz.f199) 2)
theorem b199 (a : Int) (b : Int) (R : X → List V → List Box → Prop) : (roundT (Cn T21) T21 noCS 0 noSp noHn l199 12 [0, 1] [] [] [] [0] [] [lint a, lint b] [] R) =
 (bif decide (b > 0) then
 ((IntKind.i64 = IntKind.i64 ∧ b ≠ 0) ∧
 (12 = 12 ∧
 R X.normal [V.d (D.lit (Value.int IntKind.i64 b)), V.d (D.lit (Value.int IntKind.i64 (a.tmod b)))] [])) else
 (12 = 12 ∧
 R (X.exit 0) [V.d (D.lit (Value.int IntKind.i64 a))] [])) := by kernel_rfl
noncomputable def S199 : Ev.Spec := { L := [0,1], ns := [], L' := [0], nm' := [], G := fun N vals bs k => match vals, bs with
 | [.d (.lit (.int .i64 a)), .d (.lit (.int .i64 b))], [] => ∃ x y : Nat, (N = 12 ∧ a = x ∧ b = y ∧ x < 9223372036854775808 ∧ y < 9223372036854775808) ∧ k (.exit 0) [lint (Nat.gcd x y : Nat)] []
 | _, _ => False }
theorem w199 (a : Int) (b : Int) (p : V → Prop) : (evBodyT (Cn T21) T21 noCS 0 (spL [(2, S199)]) noHn 199 [lint a, lint b] Heap.empty fun v H => p (freezeR H v)) =
 (∃ (x : Nat), (∃ (y : Nat), ((12 = 12 ∧ (((a : Int) = (↑x : Int)) ∧ (((b : Int) = (↑y : Int)) ∧ (x < 9223372036854775808 ∧ y < 9223372036854775808)))) ∧
 p (V.d (D.lit (Value.int IntKind.i64 (↑(x.gcd y) : Int))))))) := by kernel_rfl
noncomputable def c199 : Ct := ⟨fun | [.lit (.int .i64 a), .lit (.int .i64 b)] => 0 ≤ a ∧ a < 9223372036854775808 ∧ 0 ≤ b ∧ b < 9223372036854775808 | _ => False, fun | [.lit (.int .i64 a), .lit (.int .i64 b)] => some (.lit (.int .i64 (Nat.gcd a.toNat b.toNat : Nat))) | _ => none⟩
noncomputable def T199 : Tab := T21.add 199 c199
theorem w166 (n : Int) (p : V → Prop) : (evBodyT (Cn T199) T199 noCS 0 noSp noHn 166 [lint n] Heap.empty fun v H => p (freezeR H v)) =
 (bif decide (n < 0) then
 p (V.d (D.lit (Value.int IntKind.i64 (IntKind.i64.wrap (0 - n))))) else
 p (V.d (D.lit (Value.int IntKind.i64 n)))) := by kernel_rfl
noncomputable def c166 : Ct := ⟨fun | [.lit (.int .i64 n)] => -4611686018427387904 ≤ n ∧ n ≤ 4611686018427387904 | _ => False, fun | [.lit (.int .i64 n)] => some (.lit (.int .i64 (n.natAbs : Nat))) | _ => none⟩
noncomputable def T166 : Tab := T199.add 166 c166
theorem w164 (n : Int) (d : Int) (p : V → Prop) : (evBodyT (Cn T166) T166 noCS 0 noSp noHn 164 [V.d (rV n d)] Heap.empty fun v H => p (freezeR H v)) =
 ((((!bif
 bif bif decide (d < 1) then true else decide (d > 1152921504606846976) then true
 else decide (n < -1152921504606846976) then
 true
 else decide (n > 1152921504606846976)) &&
 true) =
 true → (((-4611686018427387904 : Int) ≤ n) ∧ ((n : Int) ≤ 4611686018427387904))) ∧
 ((((!bif
 bif bif decide (d < 1) then true else decide (d > 1152921504606846976) then true
 else decide (n < -1152921504606846976) then
 true
 else decide (n > 1152921504606846976)) &&
 true) =
 true → (((0 : Int) ≤ (↑n.natAbs : Int)) ∧ ((((↑n.natAbs : Int) : Int) < 9223372036854775808) ∧ (((0 : Int) ≤ d) ∧ ((d : Int) < 9223372036854775808))))) ∧
 (bif bif
 bif
 bif bif decide (d < 1) then true else decide (d > 1152921504606846976) then true
 else decide (n < -1152921504606846976) then
 true
 else decide (n > 1152921504606846976) then
 true
 else (↑((↑n.natAbs : Int).toNat.gcd d.toNat) : Int) != 1 then
 p (V.d (D.lit (Value.int IntKind.i64 1))) else
 p (V.d (D.lit (Value.int IntKind.i64 0)))))) := by kernel_rfl
noncomputable def T164 : Tab := T166.add 164 c154
theorem w139 (y : D) (p : V → Prop) : (evBodyT (Cn T164) T164 noCS 0 noSp noHn 139 [V.d (eV y)] Heap.empty fun v H => p (freezeR H v)) =
 (True ∧
 (bif ratioE (intOf (cellOf y 5)) (intOf (cellOf y 6)) != 0 then
 p (V.d (D.lit (Value.int IntKind.i64 1))) else
 (bif bif bif intOf (cellOf y 0) == 6 then intOf (cellOf y 1) == 7 else false then
 bif bif intOf (cellOf y 6) != 1 then true else decide (intOf (cellOf y 5) < 1) then true
 else decide (intOf (cellOf y 5) > 1000)
 else false then
 p (V.d (D.lit (Value.int IntKind.i64 2))) else
 (bif bif
 bif intOf (cellOf y 0) != 1 then !bif intOf (cellOf y 0) == 6 then intOf (cellOf y 1) == 7 else false
 else false then
 bif decide (intOf (cellOf y 5) < 0) then true else decide (intOf (cellOf y 5) > intOf (cellOf y 6))
 else false then
 p (V.d (D.lit (Value.int IntKind.i64 2))) else
 p (V.d (D.lit (Value.int IntKind.i64 0))))))) := by kernel_rfl
noncomputable def numberQ (y : D) : Int :=
 (bif ratioE (intOf (cellOf y 5)) (intOf (cellOf y 6)) != 0 then
 1 else
 (bif bif bif intOf (cellOf y 0) == 6 then intOf (cellOf y 1) == 7 else false then
 bif bif intOf (cellOf y 6) != 1 then true else decide (intOf (cellOf y 5) < 1) then true
 else decide (intOf (cellOf y 5) > 1000)
 else false then
 2 else
 (bif bif
 bif intOf (cellOf y 0) != 1 then !bif intOf (cellOf y 0) == 6 then intOf (cellOf y 1) == 7 else false
 else false then
 bif decide (intOf (cellOf y 5) < 0) then true else decide (intOf (cellOf y 5) > intOf (cellOf y 6))
 else false then
 2 else
 0)))
noncomputable def T139 : Tab := T164.add 139 c136
noncomputable def l140 : Code := roundOf (pieceAt (bodyOf Tryz.f140) 8)
theorem b140 (y : D) (i : Int) (R : X → List V → List Box → Prop) : (roundT (Cn T139) T139 noCS 0 noSp noHn l140 53 [1, 3] [[5000]] [] [([5000], [5000])] [2] [] [V.ptr [5000] 0, lint i]
 [eBox y] R) =
 (bif decide (i < (↑(seqD (cellOf y 7)).length : Int)) then
 ((((0 : Int) ≤ i) ∧ (i.toNat < (seqD (cellOf y 7)).length ∧ D.lit (Value.string (strOf ((seqD (cellOf y 7)).getD i.toNat D.any))) = (seqD (cellOf y 7)).getD i.toNat D.any)) ∧
 (((!(strOf ((seqD (cellOf y 7)).getD i.toNat D.any)).toList == (ByteArray.mk #[110, 97, 109, 101]).toList && true) = true → (((0 : Int) ≤ i) ∧ (i.toNat < (seqD (cellOf y 7)).length ∧ D.lit (Value.string (strOf ((seqD (cellOf y 7)).getD i.toNat D.any))) = (seqD (cellOf y 7)).getD i.toNat D.any))) ∧
 (bif bif !(strOf ((seqD (cellOf y 7)).getD i.toNat D.any)).toList == (ByteArray.mk #[110, 97, 109, 101]).toList then
 !(strOf ((seqD (cellOf y 7)).getD i.toNat D.any)).toList == (ByteArray.mk #[115, 101, 114, 118, 105, 99, 101]).toList
 else false then
 (53 = 53 ∧
 R X.ret [V.d (D.lit (Value.int IntKind.i64 5))] []) else
 (((decide (i > 0) && true) = true → (((0 : Int) ≤ IntKind.i64.wrap (i - 1)) ∧ ((IntKind.i64.wrap (i - 1)).toNat < (seqD (cellOf y 7)).length ∧ D.lit (Value.string (strOf ((seqD (cellOf y 7)).getD (IntKind.i64.wrap (i - 1)).toNat D.any))) =
 (seqD (cellOf y 7)).getD (IntKind.i64.wrap (i - 1)).toNat D.any))) ∧
 (((decide (i > 0) && true) = true → (((0 : Int) ≤ i) ∧ (i.toNat < (seqD (cellOf y 7)).length ∧ D.lit (Value.string (strOf ((seqD (cellOf y 7)).getD i.toNat D.any))) = (seqD (cellOf y 7)).getD i.toNat D.any))) ∧
 (bif bif decide (i > 0) then
 !Op.bytesLess (strOf ((seqD (cellOf y 7)).getD (IntKind.i64.wrap (i - 1)).toNat D.any)).toList
 (strOf ((seqD (cellOf y 7)).getD i.toNat D.any)).toList
 else false then
 (53 = 53 ∧
 R X.ret [V.d (D.lit (Value.int IntKind.i64 9))] []) else
 (53 = 53 ∧
 R X.normal [V.ptr [5000] 0, V.d (D.lit (Value.int IntKind.i64 (IntKind.i64.wrap (i + 1))))]
 [eBox y]))))))) else
 (53 = 53 ∧
 R (X.exit 0) [V.any] [])) := by kernel_rfl
noncomputable def S140 : Ev.Spec := { L := [1,3], ns := [([5000],[3])], L' := [2], nm' := [], G := fun N vals bs k => match vals, bs with
 | [.ptr [5000] 0, .d (.lit (.int .i64 i))], [.cells 33 [a0, a1, a2, a3, a4, a5, a6, .d (.slice b 1 xs), a8, a9, a10, a11, a12, a13, a14, a15]] => (IsE [a0, a1, a2, a3, a4, a5, a6, .d (.slice b 1 xs), a8, a9, a10, a11, a12, a13, a14, a15] ∧ N = 53 ∧ i = 0 ∧ xs.length ≤ 16 ∧ ∀ y ∈ xs, FitN y) ∧ optE (search (nameErr true xs) xs.length) (k (.exit 0) [.any] []) (fun e => k .ret [lint e] [])
 | _, _ => False }
theorem w140 (y : D) (p : V → Prop) : (evBodyT (Cn T139) T139 noCS 0 (spL [(8, S140)]) noHn 140 [V.d (eV y)] Heap.empty fun v H => p (freezeR H v)) =
 (bif bif intOf (cellOf y 0) != 4 then true else decide ((↑(seqD (cellOf y 7)).length : Int) > 16) then
 ((1 = 1 ∧ ∀ (y_1 : D), y_1 ∈ seqD (cellOf y 7) → FitN y_1 ∧ Bd y_1) ∧
 p (V.d (D.lit (Value.int IntKind.i64 (namesE (seqD (cellOf y 7)) false))))) else
 ((IsE (eCells y) ∧ (53 = 53 ∧ (((0 : Int) = 0) ∧ ((seqD (cellOf y 7)).length ≤ 16 ∧ ∀ (y_1 : D), y_1 ∈ seqD (cellOf y 7) → FitN y_1)))) ∧
 (match search (nameErr true (seqD (cellOf y 7))) (seqD (cellOf y 7)).length with
 | some y0 =>
 p (V.d (D.lit (Value.int IntKind.i64 y0)))
 | none => p (V.d (D.lit (Value.int IntKind.i64 0)))))) := by kernel_rfl
noncomputable def c140 : Ct := ⟨fun | [x] => FitE x ∧ Bd x | _ => False, fun | [x] => some (.lit (.int .i64 (namesE (seqD (cellOf x 7)) (intOf (cellOf x 0) == 4)))) | _ => none⟩
noncomputable def T140 : Tab := T139.add 140 c140
noncomputable def l189 : Code := roundOf (pieceAt (bodyOf Tryz.f189) 4)
theorem b189 (s : ByteArray) (i : Int) (R : X → List V → List Box → Prop) : (roundT (Cn T140) T140 noCS 0 noSp noHn l189 34 [0, 3] [] [] [] [0, 2] [] [lstr s, lint i] [] R) =
  (bif decide (i < (↑s.size : Int)) then
   ((((0 : Int) ≤ i) ∧ i.toNat < s.size) ∧
   (((byteAt s i.toNat != 95 && true) = true → (((0 : Int) ≤ i) ∧ i.toNat < s.size)) ∧
   (((!decide (byteAt s i.toNat < 97) && (byteAt s i.toNat != 95 && true)) = true → (((0 : Int) ≤ i) ∧ i.toNat < s.size)) ∧
   (bif bif byteAt s i.toNat != 95 then bif decide (byteAt s i.toNat < 97) then true else decide (byteAt s i.toNat > 122)
else false then
    (34 = 34 ∧
    R X.ret [V.d (D.lit (Value.string s)), V.d (D.lit (Value.bool false))] []) else
    (34 = 34 ∧
    R X.normal [V.d (D.lit (Value.string s)), V.d (D.lit (Value.int IntKind.i64 (IntKind.i64.wrap (i + 1))))] []))))) else
   (34 = 34 ∧
   R (X.exit 0) [V.d (D.lit (Value.string s)), V.any] [])) := by kernel_rfl
def S189 : Ev.Spec := { L := [0,3], ns := [], L' := [0,2], nm' := [], G := fun N vals bs k => match vals, bs with
 | [.d (.lit (.string s)), .d (.lit (.int .i64 i))], [] => (N = 34 ∧ i = 0 ∧ s.size ≤ 1152921504606846976) ∧ optE (search (byteErr (bytesD s)) (bytesD s).length) (k (.exit 0) [lstr s, .any] []) (fun _ => k .ret [lstr s, lbool false] [])
 | _, _ => False }
theorem w189 (s : ByteArray) (p : V → Prop) : (evBodyT (Cn T140) T140 noCS 0 (spL [(4, S189)]) noHn 189 [V.d (sD s)] Heap.empty fun v H => p (freezeR H v)) =
 ((34 = 34 ∧ (((0 : Int) = 0) ∧ s.size ≤ 1152921504606846976)) ∧
 (match search (byteErr (bytesD s)) (bytesD s).length with
 | some y0 =>
 p (V.d (D.lit (Value.bool false)))
 | none => p (V.d (D.lit (Value.bool (bif decide ((↑s.size : Int) > 0) then decide ((↑s.size : Int) ≤ 60) else false)))))) := by kernel_rfl
noncomputable def viewB (s : ByteArray) : Bool :=
 (match search (byteErr (bytesD s)) (bytesD s).length with
 | some y0 => false
 | none => (bif decide ((↑s.size : Int) > 0) then decide ((↑s.size : Int) ≤ 60) else false))
noncomputable def c189 : Ct := ⟨fun | [.lit (.string s)] => s.size ≤ 1152921504606846976 | _ => False, fun | [.lit (.string s)] => some (.lit (.bool (viewB s))) | _ => none⟩
noncomputable def T189 : Tab := T140.add 189 c189
theorem w141 (y : D) (p : V → Prop) : (evBodyT (Cn T189) T189 noCS 0 noSp noHn 141 [V.d (eV y)] Heap.empty fun v H => p (freezeR H v)) =
 (bif bif intOf (cellOf y 0) == 5 then decide ((↑(strOf (cellOf y 14)).size : Int) > 60) else false then
 p (V.d (D.lit (Value.int IntKind.i64 4))) else
 (((intOf (cellOf y 0) == 13 && true) = true → (strOf (cellOf y 14)).size.le 1152921504606846976) ∧
 ((((bif intOf (cellOf y 0) == 3 then true else intOf (cellOf y 0) == 6) &&
 ((!bif intOf (cellOf y 0) == 13 then !viewB (strOf (cellOf y 14)) else false) && true)) =
 true → (strOf (cellOf y 14)).size.le 1152921504606846976) ∧
 (bif bif bif intOf (cellOf y 0) == 13 then !viewB (strOf (cellOf y 14)) else false then true
 else
 bif bif intOf (cellOf y 0) == 3 then true else intOf (cellOf y 0) == 6 then !isName (strOf (cellOf y 14)) else false then
 p (V.d (D.lit (Value.int IntKind.i64 5))) else
 p (V.d (D.lit (Value.int IntKind.i64 0))))))) := by kernel_rfl
noncomputable def textQ (y : D) : Int :=
 (bif bif intOf (cellOf y 0) == 5 then decide ((↑(strOf (cellOf y 14)).size : Int) > 60) else false then
 4 else
 (bif bif bif intOf (cellOf y 0) == 13 then !viewB (strOf (cellOf y 14)) else false then true
 else
 bif bif intOf (cellOf y 0) == 3 then true else intOf (cellOf y 0) == 6 then !isName (strOf (cellOf y 14)) else false then
 5 else
 0))
noncomputable def c141 : Ct := ⟨fun | [x] => FitE x ∧ Bd x | _ => False, fun | [x] => some (.lit (.int .i64 (textQ x))) | _ => none⟩
noncomputable def T141 : Tab := T189.add 141 c141
theorem ok199 : OkS (Cn T21) 0 (.loop l199) S199 := by
 refine okS_loop fun N vals bs K h => ?_
 simp only [S199] at h
 split at h
 case h_2 => exact h.elim
 rename_i a b
 obtain ⟨x, y, ⟨rfl, rfl, rfl, hx, hy⟩, h⟩ := h
 have main : ∀ (n x y : Nat), y ≤ n → K (.exit 0) [lint (Nat.gcd x y : Nat)] [] → LoopT (Cn T21) 0 l199 12 [0,1] [] [0] [] [lint x, lint y] [] K := by
  intro n
  induction n with
  | zero =>
   intro x y hn h
   have : y = 0 := by omega
   subst this
   refine loopT_step (tab_fit base k21 noCS_valid) tab_has noSp_ok (hn := noHn) (adsI := []) (nsI := []) (nsX := []) rfl rfl (keep (b199 x 0 _) ?_)
   rw [Nat.gcd_zero_right] at h
   exact ⟨(by trivial), h⟩
  | succ n ih =>
   intro x y hn h
   refine loopT_step (tab_fit base k21 noCS_valid) tab_has noSp_ok (hn := noHn) (adsI := []) (nsI := []) (nsX := []) rfl rfl (keep (b199 x y _) ?_)
   refine cond_split (fun h1 => ?_) (fun h1 => ?_)
   ·
    simp only [decide_eq_true_eq] at h1
    refine ⟨⟨(by trivial), by omega⟩, (by trivial), ?_⟩
    have e : ((x : Int)).tmod (y : Int) = ((x % y : Nat) : Int) := by rw [Int.ofNat_tmod]
    rw [e]
    refine ih y (x % y) (by have := Nat.mod_lt x (show y > 0 by omega); omega) ?_
    rw [Nat.gcd_comm y, ← Nat.gcd_rec, Nat.gcd_comm]
    exact h
   ·
    have hy : y = 0 := by simp only [decide_eq_false_iff_not] at h1; omega
    subst hy
    rw [Nat.gcd_zero_right] at h
    exact ⟨(by trivial), h⟩
 exact main y x y (Nat.le_refl _) h
theorem k199 : TabOk B T199 := by
 refine add_body base k21 (fn := Tryz.f199) (cd := bodyOf Tryz.f199) (sp := spL [(2, S199)]) (hn := noHn) Tryz.func199 (by kernel_rfl) (by kernel_rfl) (specT_cons (c := .loop l199) (by kernel_rfl) ok199 specT_nil) fun ds r hp hr => ?_
 unfold c199 at hp hr
 simp only [] at hr hp
 split at hr
 ·
  rename_i a b
  cases hr
  obtain ⟨h1, h2, h3, h4⟩ := hp
  refine keep (w199 a b fun v => v = _) ?_
  exact ⟨a.toNat, b.toNat, ⟨(by trivial), by omega, by omega, by omega, by omega⟩, (by trivial)⟩
 ·
  cases hr
theorem k166 : TabOk B T166 := by
 refine add_body base k199 (fn := Tryz.f166) (cd := bodyOf Tryz.f166) (sp := noSp) (hn := noHn) Tryz.func166 (by kernel_rfl) (by kernel_rfl) noSp_ok fun ds r hp hr => ?_
 unfold c166 at hp hr
 simp only [] at hr hp
 split at hr
 ·
  rename_i n
  cases hr
  obtain ⟨h1, h2⟩ := hp
  refine keep (w166 n fun v => v = _) ?_
  refine cond_split (fun g => ?_) (fun g => ?_)
  ·
   simp only [decide_eq_true_eq] at g
   rw [wr (by omega) (by omega), show 0 - n = (n.natAbs : Int) by omega]
  ·
   simp only [decide_eq_false_iff_not] at g
   rw [show (n.natAbs : Int) = n by omega]
 ·
  cases hr
theorem u64w (x : Int) : IntKind.u64.wrap x = x % 18446744073709551616 := rfl
theorem k164 : TabOk B T164 := by
 refine add_body base k166 (fn := Tryz.f164) (cd := bodyOf Tryz.f164) (sp := noSp) (hn := noHn) Tryz.func164 (by kernel_rfl) (by kernel_rfl) noSp_ok fun ds r hp hr => ?_
 unfold c154 at hr
 simp only [] at hr
 split at hr
 ·
  rename_i n d
  cases hr
  refine keep (w164 n d fun v => v = _) ?_
  have key : ∀ b : Bool, (bif (bif (bif decide (d < 1) then true else decide (d > 1152921504606846976)) then true else decide (n < -1152921504606846976)) then true else decide (n > 1152921504606846976)) = b → b = false → 1 ≤ d ∧ d ≤ 1152921504606846976 ∧ -1152921504606846976 ≤ n ∧ n ≤ 1152921504606846976 := fun b e hb => by
   subst hb
   obtain ⟨e, e4⟩ := or_f' e
   obtain ⟨e, e3⟩ := or_f' e
   obtain ⟨e1, e2⟩ := or_f' e
   simp only [decide_eq_false_iff_not] at e1 e2 e3 e4
   omega
  refine ⟨fun g => ?_, fun g => ?_, ?_⟩
  ·
   have := key _ rfl (by simpa using g)
   omega
  ·
   have := key _ rfl (by simpa using g)
   omega
  ·
   unfold ratioE
   cases hb : (bif (bif (bif decide (d < 1) then true else decide (d > 1152921504606846976)) then true else decide (n < -1152921504606846976)) then true else decide (n > 1152921504606846976)) with
   | true =>
    simp only [cond_true]
    cases h1 : (bif decide (d < 1) then true else decide (d > 1152921504606846976)) with
    | true => simp only [cond_true]
    | false =>
     rw [h1] at hb
     simp only [cond_false] at hb ⊢
     rw [hb]; rfl
   | false =>
    have hk := key _ hb rfl
    obtain ⟨e, e4⟩ := or_f' hb
    obtain ⟨e, e3⟩ := or_f' e
    rw [e, e3, e4]
    simp only [cond_false]
    have em : (magU n).toNat = n.natAbs := by
     unfold magU
     cases hn : decide (n < 0) with
     | true =>
      simp only [decide_eq_true_eq] at hn
      simp only [cond_true]
      rw [show IntKind.u64.wrap n = n + 18446744073709551616 by rw [u64w]; omega]
      rw [show IntKind.u64.wrap (0 - (n + 18446744073709551616)) = -n by rw [u64w]; omega]
      omega
     | false =>
      simp only [decide_eq_false_iff_not] at hn
      simp only [cond_false]
      rw [show IntKind.u64.wrap n = n by rw [u64w]; omega]
      omega
    have ed : (IntKind.u64.wrap d).toNat = d.toNat := by
     rw [show IntKind.u64.wrap d = d by rw [u64w]; omega]
    rw [em, ed, Int.toNat_natCast]
    refine cond_split (fun g => ?_) (fun g => ?_)
    ·
     simp only [g, cond_true]
    ·
     simp only [g, cond_false]
 ·
  cases hr
theorem number_eq (y : D) : numberQ y = numberE y := by
 unfold numberQ numberE
 generalize (ratioE (intOf (cellOf y 5)) (intOf (cellOf y 6)) != 0) = r
 generalize (intOf (cellOf y 1) == 7) = f
 generalize (bif (bif intOf (cellOf y 6) != 1 then true else decide (intOf (cellOf y 5) < 1)) then true else decide (intOf (cellOf y 5) > 1000)) = a
 generalize (bif decide (intOf (cellOf y 5) < 0) then true else decide (intOf (cellOf y 5) > intOf (cellOf y 6))) = b
 generalize intOf (cellOf y 0) = k
 by_cases h1 : k = 1
 ·
  subst h1; cases r <;> cases f <;> cases a <;> cases b <;> rfl
 ·
  have e1 : (k == 1) = false := by simpa using h1
  have e2 : (k != 1) = true := by simpa using h1
  rw [e1, e2]
  cases (k == 6) <;> cases r <;> cases f <;> cases a <;> cases b <;> rfl
theorem k139 : TabOk B T139 := by
 refine add_body base k164 (fn := Tryz.f139) (cd := bodyOf Tryz.f139) (sp := noSp) (hn := noHn) Tryz.func139 (by kernel_rfl) (by kernel_rfl) noSp_ok fun ds r hp hr => ?_
 unfold c136 at hp hr
 simp only [] at hr hp
 split at hr
 ·
  rename_i x
  cases hr
  rw [arg1 (FitE.v hp), ← number_eq]
  refine keep (w139 x fun v => v = _) ?_
  unfold numberQ
  (repeat' (first | with_reducible rfl | (refine cond_split (fun hcw => ?_) (fun hcw => ?_) <;> simp only [hcw, cond_true, cond_false]) | refine and_i ?_ ?_))
  all_goals trivial
 ·
  cases hr
theorem nameErr_t (xs : List D) (i : Nat) : nameErr true xs i = bif (bif !eqS (strOf (xs.getD i .any)) (ByteArray.mk #[110, 97, 109, 101]) then !eqS (strOf (xs.getD i .any)) (ByteArray.mk #[115, 101, 114, 118, 105, 99, 101]) else false) then some 5 else
  bif (bif decide ((i : Int) > 0) then !Op.bytesLess (strOf (xs.getD (i - 1) .any)).toList (strOf (xs.getD i .any)).toList else false) then some 9 else none := by
 unfold nameErr
 rw [show leS (strOf (xs.getD i .any)) (strOf (xs.getD (i - 1) .any)) = !Op.bytesLess (strOf (xs.getD (i - 1) .any)).toList (strOf (xs.getD i .any)).toList from (bytesLess_tri _ _).symm]
 have toL : ∀ a b : ByteArray, eqS a b = true → a = b := fun a b h => by
  have h : a.toList = b.toList := by simpa using h
  rw [Lib.toList_data, Lib.toList_data] at h
  obtain ⟨⟨a⟩⟩ := a
  obtain ⟨⟨b⟩⟩ := b
  exact congrArg (fun l => ByteArray.mk (Array.mk l)) h
 cases h1 : eqS (strOf (xs.getD i .any)) (ByteArray.mk #[110, 97, 109, 101]) with
 | true =>
  rw [toL _ _ h1]
  have : isName (ByteArray.mk #[110, 97, 109, 101]) = true := by decide +kernel
  rw [this]; rfl
 | false =>
  cases h2 : eqS (strOf (xs.getD i .any)) (ByteArray.mk #[115, 101, 114, 118, 105, 99, 101]) with
  | true =>
   rw [toL _ _ h2]
   have : isName (ByteArray.mk #[115, 101, 114, 118, 105, 99, 101]) = true := by decide +kernel
   rw [this]; rfl
  | false => cases isName (strOf (xs.getD i .any)) <;> rfl
theorem ok140 : OkS (Cn T139) 0 (.loop l140) S140 := by
 refine okS_loop fun N vals bs K h => ?_
 simp only [S140] at h
 split at h
 case h_2 => exact h.elim
 rename_i i a0 a1 a2 a3 a4 a5 a6 b xs a8 a9 a10 a11 a12 a13 a14 a15
 obtain ⟨⟨⟨y, hy⟩, rfl, rfl, h16, hall⟩, h⟩ := h
 have hxs : xs = seqD (cellOf y 7) := by
  have := congrArg (fun l : List V => l.getD 7 .any) hy
  simp at this
  exact this.2
 rw [hy]
 subst hxs
 refine search_loop (tab_fit base k139 noCS_valid) tab_has noSp_ok (hn := noHn) (adsI := []) (nsI := [([5000],[5000])]) (nsX := []) rfl rfl (seqD (cellOf y 7)).length
  (fun i => [.ptr [5000] 0, lint i]) (fun _ => [eBox y]) (nameErr true (seqD (cellOf y 7))) (fun e => (.ret, [lint e], [])) (by simp) (.exit 0) [.any] [] (by simp) ?_ ?_ h
 ·
  intro i R hi hR
  refine keep (b140 y i R) ?_
  have e1 : decide ((i : Int) < (seqD (cellOf y 7)).length) = true := by simp; omega
  have e2 : IntKind.i64.wrap ((i : Int) + 1) = ((i + 1 : Nat) : Int) := by rw [Go.IntWalk.i64_in _ (by omega)]; omega
  have hv := hall _ (getD_mem hi)
  rw [nameErr_t] at hR
  rw [e1]
  simp only [Int.toNat_natCast, e2, cond_true]
  refine ⟨⟨by omega, hi, hv⟩, fun _ => ⟨by omega, hi, hv⟩, cond_split (fun h1 => ⟨(by trivial), ?_⟩) (fun h1 => ?_)⟩
  ·
   rw [h1] at hR; exact hR
  ·
   rw [h1] at hR
   simp only [cond_false] at hR
   by_cases h0 : 0 < i
   ·
    have e4 : IntKind.i64.wrap ((i : Int) - 1) = ((i - 1 : Nat) : Int) := by rw [Go.IntWalk.i64_in _ (by omega)]; omega
    have hv2 := hall _ (getD_mem (xs := seqD (cellOf y 7)) (i := i - 1) (by omega))
    simp only [e4, Int.toNat_natCast]
    refine ⟨fun _ => ⟨by omega, by omega, hv2⟩, fun _ => ⟨by omega, hi, hv⟩, cond_split (fun h2 => ⟨(by trivial), ?_⟩) (fun h2 => ⟨(by trivial), ?_⟩)⟩
    ·
     rw [h2] at hR; exact hR
    ·
     rw [h2] at hR; exact hR
   ·
    have e5 : decide ((i : Int) > 0) = false := by simp; omega
    rw [e5] at hR ⊢
    exact ⟨(fun h => by cases h), (fun h => by cases h), (by trivial), hR⟩
 ·
  intro R hR
  refine keep (b140 y (seqD (cellOf y 7)).length R) ?_
  have e1 : decide (((seqD (cellOf y 7)).length : Int) < (seqD (cellOf y 7)).length) = false := by simp
  rw [e1]
  exact ⟨(by trivial), hR⟩
theorem k140 : TabOk B T140 := by
 refine add_body base k139 (fn := Tryz.f140) (cd := bodyOf Tryz.f140) (sp := spL [(8, S140)]) (hn := noHn) Tryz.func140 (by kernel_rfl) (by kernel_rfl) (specT_cons (c := .loop l140) (by kernel_rfl) ok140 specT_nil) fun ds r hp hr => ?_
 unfold c140 at hp hr
 simp only [] at hr hp
 split at hr
 ·
  rename_i x
  cases hr
  rw [arg1 hp.1.v]
  refine keep (w140 x fun v => v = _) ?_
  have hn : ∀ y ∈ seqD (cellOf x 7), FitN y ∧ Bd y := fun y hy => ⟨hp.1.n y hy, hp.2.sub hy⟩
  refine cond_split (fun g => ⟨⟨(by trivial), hn⟩, ?_⟩) (fun g => ?_)
  ·
   by_cases h4 : intOf (cellOf x 0) = 4
   ·
    have e4 : (intOf (cellOf x 0) != 4) = false := by simp [h4]
    rw [e4] at g
    have g : decide ((↑(seqD (cellOf x 7)).length : Int) > 16) = true := g
    unfold namesE
    rw [g]; rfl
   ·
    have e4 : (intOf (cellOf x 0) == 4) = false := by simpa using h4
    rw [e4]
  ·
   obtain ⟨g1, g2⟩ := or_f' g
   have g1 := bne_f g1
   have e4 : (intOf (cellOf x 0) == 4) = true := by simpa using g1
   rw [e4]
   unfold namesE
   rw [g2]
   simp only [decide_eq_false_iff_not] at g2
   simp only [cond_false]
   refine ⟨⟨⟨x, rfl⟩, (by trivial), (by trivial), by omega, fun y hy => (hn y hy).1⟩, ?_⟩
   cases search (nameErr true (seqD (cellOf x 7))) (seqD (cellOf x 7)).length <;> rfl
 ·
  cases hr
theorem byteErr_at {s : ByteArray} {i : Nat} (h : i < s.size) : byteErr (bytesD s) i = bif (bif byteAt s i != 95 then (bif decide (byteAt s i < 97) then true else decide (byteAt s i > 122)) else false) then some 5 else none := by
 unfold byteErr
 have : intOf ((bytesD s).getD i .any) = byteAt s i := by
  unfold bytesD byteAt
  have hl : i < s.data.toList.length := by simpa using h
  rw [List.getD_eq_getElem?_getD, List.getElem?_map, List.getD_eq_getElem?_getD, List.getElem?_eq_getElem hl]
  rfl
 rw [this]
theorem ok189 : OkS (Cn T140) 0 (.loop l189) S189 := by
 refine okS_loop fun N vals bs K h => ?_
 simp only [S189] at h
 split at h
 case h_2 => exact h.elim
 rename_i s i
 obtain ⟨⟨rfl, rfl, hs⟩, h⟩ := h
 rw [bytesD_len] at h
 refine search_loop (tab_fit base k140 noCS_valid) tab_has noSp_ok (hn := noHn) (adsI := []) (nsI := []) (nsX := []) rfl rfl s.size
  (fun i => [lstr s, lint i]) (fun _ => []) (byteErr (bytesD s)) (fun e => (.ret, [lstr s, lbool false], [])) (by simp) (.exit 0) [lstr s, .any] [] (by simp) ?_ ?_ h
 ·
  intro i R hi hR
  refine keep (b189 s i R) ?_
  have e1 : decide ((i : Int) < s.size) = true := by simp; omega
  have e2 : IntKind.i64.wrap ((i : Int) + 1) = ((i + 1 : Nat) : Int) := by rw [Go.IntWalk.i64_in _ (by omega)]; omega
  rw [byteErr_at hi] at hR
  rw [e1]
  simp only [Int.toNat_natCast, e2, cond_true]
  refine ⟨⟨by omega, by omega⟩, fun _ => ⟨by omega, by omega⟩, fun _ => ⟨by omega, by omega⟩, cond_split (fun h1 => ⟨(by trivial), ?_⟩) (fun h1 => ⟨(by trivial), ?_⟩)⟩ <;> (rw [h1] at hR; exact hR)
 ·
  intro R hR
  refine keep (b189 s s.size R) ?_
  have e1 : decide ((s.size : Int) < s.size) = false := by simp
  rw [e1]
  exact ⟨(by trivial), hR⟩
theorem k189 : TabOk B T189 := by
 refine add_body base k140 (fn := Tryz.f189) (cd := bodyOf Tryz.f189) (sp := spL [(4, S189)]) (hn := noHn) Tryz.func189 (by kernel_rfl) (by kernel_rfl) (specT_cons (c := .loop l189) (by kernel_rfl) ok189 specT_nil) fun ds r hp hr => ?_
 unfold c189 at hp hr
 simp only [] at hr hp
 split at hr
 ·
  rename_i s
  cases hr
  refine keep (w189 s fun v => v = _) ?_
  unfold viewB
  refine ⟨⟨(by trivial), (by trivial), hp⟩, ?_⟩
  cases search (byteErr (bytesD s)) (bytesD s).length <;> rfl
 ·
  cases hr
theorem k141 : TabOk B T141 := by
 refine add_body base k189 (fn := Tryz.f141) (cd := bodyOf Tryz.f141) (sp := noSp) (hn := noHn) Tryz.func141 (by kernel_rfl) (by kernel_rfl) noSp_ok fun ds r hp hr => ?_
 unfold c141 at hp hr
 simp only [] at hr hp
 split at hr
 ·
  rename_i x
  cases hr
  rw [arg1 hp.1.v]
  refine keep (w141 x fun v => v = _) ?_
  unfold textQ
  have hb : (strOf (cellOf x 14)).size.le 1152921504606846976 := le_of (hp.2.str 14)
  (repeat' (first | with_reducible rfl | (refine cond_split (fun hcw => ?_) (fun hcw => ?_) <;> simp only [hcw, cond_true, cond_false]) | refine and_i ?_ ?_))
  all_goals first | trivial | assumption | exact fun _ => hb
 ·
  cases hr
end Go.Ev.R2
end
