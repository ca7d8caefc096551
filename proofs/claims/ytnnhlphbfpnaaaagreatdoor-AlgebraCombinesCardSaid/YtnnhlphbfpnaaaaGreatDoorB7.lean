/- What the proofs of the lexer's laws share, part 7 of 13. -/
import Derived.Test.YtnnhlphbfpnaaaaGreatDoorB6
set_option linter.unusedVariables false
set_option linter.unusedSimpArgs false
section
namespace Go.Ev.R2
open Go Go.Ev Go.Proofs
set_option maxRecDepth 100000
set_option linter.unusedVariables false
set_option linter.unusedSimpArgs false
def regOps : Code → Array Oper | .region _ ops _ => ops | _ => #[]
def seqA : Code → Code | .seq a _ => a | _ => .skip
def seqB : Code → Code | .seq _ b => b | _ => .skip
def blkIn : Code → Code | .block _ c => c | _ => .skip
noncomputable def opAt (c : Code) (i : Nat) : Oper := (regOps c).toList.getD i default
noncomputable def m115 : Code := seqA (seqB (bodyOf Tryz.f115))
noncomputable def b115 : Code := roundOf (blkIn (seqB m115))
noncomputable def t115 : Code := blkIn (seqB (seqB b115))
noncomputable def fin115 : Code := seqB (seqB (bodyOf Tryz.f115))
noncomputable def pre115 : List Oper := (regOps (seqA m115)).toList.dropLast
abbrev eBx (k0 : Int) (y1 y2 y3 y4 y5 y6 y7 y8 y9 y10 y11 y12 y13 y14 y15 : D) : Box := .cells 33 [lint k0, .d y1, .d y2, .d y3, .d y4, .d y5, .d y6, .d y7, .d y8, .d y9, .d y10, .d y11, .d y12, .d y13, .d y14, .d y15]
abbrev nBx (l q : Bool) (s : ByteArray) (x : D) : Box := .cells 85 [lbool l, lbool q, lstr s, .d x]
abbrev nmI : List Name := [[0,0],[0,1],[5000]]
abbrev nsI3 : List (Name × Name) := [([0,0],[0,0]),([0,1],[0,1]),([5000],[5000])]
abbrev e01 : List (List (Name × Name)) := [[([0,0],[0,0]),([0,1],[0,1])]]
theorem wa115 (l : Bool) (q : Bool) (s : ByteArray) (x : D) (es : List (D × D)) (k0 : Int) (y1 : D) (y2 : D) (y3 : D) (y4 : D) (y5 : D) (y6 : D) (y7 : D) (y8 : D) (y9 : D) (y10 : D) (y11 : D) (y12 : D) (y13 : D) (y14 : D) (y15 : D) (R : List V → List Box → Prop) : (evCodeT (Cn T13) T13 noCS 2 noSp noHn false (seqA (bodyOf Tryz.f115))
  (St.mk 34
    (fun t =>
      [V.d (D.agg [D.lit (Value.bool l), D.lit (Value.bool q), D.lit (Value.string s), x]), V.ptr [0, 0] 0,
              V.ptr [0, 1] 0][t]?.getD
        vundef)
    (smIn [Box.cells 59 [V.d (D.map es)], eBx k0 y1 y2 y3 y4 y5 y6 y7 y8 y9 y10 y11 y12 y13 y14 y15]))
  fun x s =>
  x = X.normal ∧
    s.N = 34 ∧ go (cutSt 2 [1, 2, 3] [([0, 0], [0, 0]), ([0, 1], [0, 1]), ([5000], [5])] s) fun p => R p.fst p.snd) =
  (X.normal = X.normal ∧
  (34 = 34 ∧
  R [V.ptr [0, 0] 0, V.ptr [0, 1] 0, V.ptr [5000] 0]
  [Box.cells 59 [V.d (D.map es)],
    Box.cells 33
      [V.d (D.lit (Value.int IntKind.i64 k0)), V.d y1, V.d y2, V.d y3, V.d y4, V.d y5, V.d y6, V.d y7, V.d y8, V.d y9,
        V.d y10, V.d y11, V.d y12, V.d y13, V.d y14, V.d y15],
    Box.cells 85 [V.d (D.lit (Value.bool l)), V.d (D.lit (Value.bool q)), V.d (D.lit (Value.string s)), V.d x]])) := by kernel_rfl
theorem ws115 (l : Bool) (q : Bool) (s : ByteArray) (x : D) (es : List (D × D)) (k0 : Int) (y1 : D) (y2 : D) (y3 : D) (y4 : D) (y5 : D) (y6 : D) (y7 : D) (y8 : D) (y9 : D) (y10 : D) (y11 : D) (y12 : D) (y13 : D) (y14 : D) (y15 : D) (R : Nat → List V → List Box → Prop) : (go
  (evOps (Cn T13) false noCS.call (regOps (seqA m115)) pre115
    (stN 34 [1, 2, 3] nmI [V.ptr [0, 0] 0, V.ptr [0, 1] 0, V.ptr [5000] 0]
      [Box.cells 59 [V.d (D.map es)], eBx k0 y1 y2 y3 y4 y5 y6 y7 y8 y9 y10 y11 y12 y13 y14 y15, nBx l q s x]))
  fun s1 =>
  s1.F 7 = V.d (D.map es) ∧
    s1.N = 34 ∧
      ∀ (it : Nat), go (s1.put (some 8) (itV it)) fun s2 => go (cutSt 2 [2, 3, 8] nsI3 s2) fun p => R it p.fst p.snd) =
  (V.d (D.map es) = V.d (D.map es) ∧
  (34 = 34 ∧
  (∀ z0 : Nat, R z0 [V.ptr [0, 1] 0, V.ptr [5000] 0, V.d (D.lit (Value.pointer (some (Addr.mk z0 0 none))))]
  [Box.cells 59 [V.d (D.map es)],
    Box.cells 33
      [V.d (D.lit (Value.int IntKind.i64 k0)), V.d y1, V.d y2, V.d y3, V.d y4, V.d y5, V.d y6, V.d y7, V.d y8, V.d y9,
        V.d y10, V.d y11, V.d y12, V.d y13, V.d y14, V.d y15],
    Box.cells 85 [V.d (D.lit (Value.bool l)), V.d (D.lit (Value.bool q)), V.d (D.lit (Value.string s)), V.d x]]))) := by kernel_rfl
theorem wr115 (l : Bool) (q : Bool) (s : ByteArray) (nm : ByteArray) (x : D) (es : List (D × D)) (k0 : Int) (code : Int) (it : Nat) (c1 : D) (c2 : D) (c3 : D) (c4 : D) (c5 : D) (c6 : D) (c7 : D) (c8 : D) (c9 : D) (c10 : D) (c11 : D) (c12 : D) (c13 : D) (y1 : D) (y2 : D) (y3 : D) (y4 : D) (y5 : D) (y6 : D) (y7 : D) (y8 : D) (y9 : D) (y10 : D) (y11 : D) (y12 : D) (y13 : D) (y14 : D) (y15 : D) (R : List V → List Box → Prop) : (mapRoundT (Cn T13) T13 noCS 2 noSp noHn 9 10 11 (regOps (seqA t115)) (seqB t115) (D.lit (Value.int IntKind.i64 code))
  (D.agg [D.lit (Value.string nm), c1, c2, c3, c4, c5, c6, c7, c8, c9, c10, c11, c12, c13])
  (stN 34 [2, 3, 8] nmI [V.ptr [0, 1] 0, V.ptr [5000] 0, itV it]
    [Box.cells 59 [V.d (D.map es)], eBx k0 y1 y2 y3 y4 y5 y6 y7 y8 y9 y10 y11 y12 y13 y14 y15, nBx l q s x])
  fun x s => s.N = 34 ∧ x = X.normal ∧ go (cutSt 2 [2, 3, 8] nsI3 s) fun p => R p.fst p.snd) =
  (bif nm.toList == s.toList then
   (34 = 34 ∧
   (X.normal = X.normal ∧
   R [V.ptr [0, 1] 0, V.ptr [5000] 0, V.d (D.lit (Value.pointer (some (Addr.mk it 0 none))))]
  [Box.cells 59 [V.d (D.map es)],
    Box.cells 33
      [V.d (D.lit (Value.int IntKind.i64 code)), V.d y1, V.d y2, V.d y3, V.d y4, V.d y5, V.d y6, V.d y7, V.d y8, V.d y9,
        V.d y10, V.d y11, V.d y12, V.d y13, V.d y14, V.d y15],
    Box.cells 85 [V.d (D.lit (Value.bool l)), V.d (D.lit (Value.bool q)), V.d (D.lit (Value.string s)), V.d x]])) else
   (34 = 34 ∧
   (X.normal = X.normal ∧
   R [V.ptr [0, 1] 0, V.ptr [5000] 0, V.d (D.lit (Value.pointer (some (Addr.mk it 0 none))))]
  [Box.cells 59 [V.d (D.map es)],
    Box.cells 33
      [V.d (D.lit (Value.int IntKind.i64 k0)), V.d y1, V.d y2, V.d y3, V.d y4, V.d y5, V.d y6, V.d y7, V.d y8, V.d y9,
        V.d y10, V.d y11, V.d y12, V.d y13, V.d y14, V.d y15],
    Box.cells 85 [V.d (D.lit (Value.bool l)), V.d (D.lit (Value.bool q)), V.d (D.lit (Value.string s)), V.d x]]))) := by kernel_rfl
theorem we115 (l : Bool) (q : Bool) (s : ByteArray) (x : D) (es : List (D × D)) (k0 : Int) (it : Nat) (y1 : D) (y2 : D) (y3 : D) (y4 : D) (y5 : D) (y6 : D) (y7 : D) (y8 : D) (y9 : D) (y10 : D) (y11 : D) (y12 : D) (y13 : D) (y14 : D) (y15 : D) (R : List V → List Box → Prop) : (go
  ((stN 34 [2, 3, 8] nmI [V.ptr [0, 1] 0, V.ptr [5000] 0, itV it]
        [Box.cells 59 [V.d (D.map es)], eBx k0 y1 y2 y3 y4 y5 y6 y7 y8 y9 y10 y11 y12 y13 y14 y15, nBx l q s x]).put
    (some 9) (V.d (D.tup [D.lit (Value.bool false)])))
  fun s => go (s.put (some 10) (lbool false)) fun s => s.N = 34 ∧ go (cutSt 2 [2, 3] nsI3 s) fun p => R p.fst p.snd) =
  (34 = 34 ∧
  R [V.ptr [0, 1] 0, V.ptr [5000] 0]
  [Box.cells 59 [V.d (D.map es)],
    Box.cells 33
      [V.d (D.lit (Value.int IntKind.i64 k0)), V.d y1, V.d y2, V.d y3, V.d y4, V.d y5, V.d y6, V.d y7, V.d y8, V.d y9,
        V.d y10, V.d y11, V.d y12, V.d y13, V.d y14, V.d y15],
    Box.cells 85 [V.d (D.lit (Value.bool l)), V.d (D.lit (Value.bool q)), V.d (D.lit (Value.string s)), V.d x]]) := by kernel_rfl
theorem wf115 (l : Bool) (q : Bool) (s : ByteArray) (x : D) (es : List (D × D)) (k0 : Int) (y1 : D) (y2 : D) (y3 : D) (y4 : D) (y5 : D) (y6 : D) (y7 : D) (y8 : D) (y9 : D) (y10 : D) (y11 : D) (y12 : D) (y13 : D) (y14 : D) (y15 : D) (R : V → List Box → Prop) : (evCodeT (Cn T13) T13 noCS 2 noSp noHn false fin115
  (stN 34 [2, 3] nmI [V.ptr [0, 1] 0, V.ptr [5000] 0]
    [Box.cells 59 [V.d (D.map es)], eBx k0 y1 y2 y3 y4 y5 y6 y7 y8 y9 y10 y11 y12 y13 y14 y15, nBx l q s x])
  (endT 2 [] e01 [4] R)) =
  R (V.d (D.lit (Value.bool (bif bif !l then !q else false then k0 != 0 else false))))
  [Box.cells 59 [V.d (D.map es)],
    Box.cells 33
      [V.d (D.lit (Value.int IntKind.i64 k0)), V.d y1, V.d y2, V.d y3, V.d y4, V.d y5, V.d y6, V.d y7, V.d y8, V.d y9,
        V.d y10, V.d y11, V.d y12, V.d y13, V.d y14, V.d y15]] := by kernel_rfl
def rowOk : D × D → Bool
  | (.lit (.int .i64 _), .agg [.lit (.string _), _, _, _, _, _, _, _, _, _, _, _, _, _]) => true
  | _ => false
def rowCode : D × D → Int
  | (.lit (.int .i64 k), _) => k
  | _ => 0
def rowName : D × D → List UInt8
  | (_, .agg (.lit (.string n) :: _)) => n.toList
  | _ => []
def apartB : List (List UInt8) → Bool
  | [] => true
  | a :: l => l.all (fun b => !(a == b)) && apartB l
def rowsOk (es : List (D × D)) : Bool := es.all rowOk && apartB (es.map rowName)
def kindNo : List (D × D) → List UInt8 → Int → Int
  | [], _, k0 => k0
  | p :: r, s, k0 => bif rowName p == s then rowCode p else kindNo r s k0
def s115 : SmB := ⟨fun _ bs => match bs with
    | .cells 59 [.d (.map es)] :: _ => rowsOk es
    | _ => false, fun vals bs => match vals, bs with
  | [.d (.agg [.lit (.bool l), .lit (.bool q), .lit (.string s), x]), .ptr [0, 0] 0, .ptr [0, 1] 0], [.cells 59 [.d (.map es)], .cells 33 [.d (.lit (.int .i64 k0)), .d y1, .d y2, .d y3, .d y4, .d y5, .d y6, .d y7, .d y8, .d y9, .d y10, .d y11, .d y12, .d y13, .d y14, .d y15]] =>
    some (lbool (bif bif !l then !q else false then kindNo es s.toList k0 != 0 else false), [.cells 59 [.d (.map es)], eBx (kindNo es s.toList k0) y1 y2 y3 y4 y5 y6 y7 y8 y9 y10 y11 y12 y13 y14 y15], [])
  | _, _ => none⟩
theorem rowOk_inv {p : D × D} (h : rowOk p = true) : ∃ k nm c1 c2 c3 c4 c5 c6 c7 c8 c9 c10 c11 c12 c13, p = (.lit (.int .i64 k), .agg [.lit (.string nm), c1, c2, c3, c4, c5, c6, c7, c8, c9, c10, c11, c12, c13]) := by
  unfold rowOk at h
  split at h
  · exact ⟨_, _, _, _, _, _, _, _, _, _, _, _, _, _, _, rfl⟩
  · cases h
def Found (es : List (D × D)) (s : List UInt8) (k0 : Int) (dn : List Nat) (kk : Int) : Prop :=
  (∃ (i : Nat) (p : D × D), es[i]? = some p ∧ rowName p = s ∧ kk = rowCode p) ∨ ((∀ (i : Nat) (p : D × D), i ∈ dn → es[i]? = some p → rowName p ≠ s) ∧ kk = k0)
theorem kindNo_none {s : List UInt8} {k0 : Int} : ∀ {es : List (D × D)}, (∀ p ∈ es, rowName p ≠ s) → kindNo es s k0 = k0
  | [], _ => rfl
  | p :: r, h => by
    have h1 : (rowName p == s) = false := by simpa using h p (by simp)
    simp only [kindNo, h1, cond_false]
    exact kindNo_none fun q hq => h q (by simp [hq])
theorem kindNo_some {s : List UInt8} {k0 : Int} {p : D × D} (hs : rowName p = s) : ∀ {es : List (D × D)}, apartB (es.map rowName) = true → p ∈ es → kindNo es s k0 = rowCode p
  | q :: r, ha, hp => by
    simp only [List.map_cons, apartB, Bool.and_eq_true, List.all_eq_true] at ha
    rcases List.mem_cons.1 hp with rfl | hp
    · have : (rowName p == s) = true := by simpa using hs
      simp only [kindNo, this, cond_true]
    · have h1 := ha.1 (rowName p) (List.mem_map.2 ⟨p, hp, rfl⟩)
      have : (rowName q == s) = false := by rw [← hs]; simpa using h1
      simp only [kindNo, this, cond_false]
      exact kindNo_some hs ha.2 hp
theorem found_all {es : List (D × D)} {s : List UInt8} {k0 kk : Int} {dn : List Nat} (ha : apartB (es.map rowName) = true) (h : Found es s k0 dn kk) (hall : ∀ i, i < es.length → i ∈ dn) : kk = kindNo es s k0 := by
  rcases h with ⟨i, p, hp, hn, rfl⟩ | ⟨h, rfl⟩
  · exact (kindNo_some hn ha (List.mem_of_getElem? hp)).symm
  · refine (kindNo_none fun p hp => ?_).symm
    obtain ⟨i, hi⟩ := List.mem_iff_getElem?.1 hp
    exact h i p (hall i (List.getElem?_eq_some_iff.1 hi).1) hi
theorem form115 : m115 = .seq (.region 1 (regOps (seqA m115)) false) (.block 0 (.loop (.seq (.region 2 #[opAt (seqA b115) 0, opAt (seqA b115) 1] false) (.seq (.cond (.tmp 10) .skip (.exit 0)) (.block 1 (.seq (.region 3 (regOps (seqA t115)) false) (seqB t115))))))) := by kernel_rfl
theorem body115 : bodyOf Tryz.f115 = .seq (seqA (bodyOf Tryz.f115)) (.seq m115 fin115) := by kernel_rfl
theorem ok115 : ∀ vals bs r bs' news, s115.pre vals bs = true → s115.f vals bs = some (r, bs', news) → Enters B.P 115 ∧ SoundQ B 115 vals (smIn bs) fun r' H' => r' = r ∧ H' = smOut bs' news := by
  intro vals bs r bs' news hpre hf
  unfold s115 at hpre hf
  simp only [] at hf
  split at hf
  case h_2 => cases hf
  rename_i l q s x es k0 y1 y2 y3 y4 y5 y6 y7 y8 y9 y10 y11 y12 y13 y14 y15
  simp only [Option.some.injEq, Prod.mk.injEq] at hf
  obtain ⟨rfl, rfl, rfl⟩ := hf
  have hrows : rowsOk es = true := hpre
  unfold rowsOk at hrows
  simp only [Bool.and_eq_true] at hrows
  obtain ⟨hro, hap⟩ := hrows
  have F : Fit2 (B.tab T13) noCS.call := tab_fit base k13 noCS_valid
  refine sm_bodyT (stb := noSm) (etb := T13) base (fn := Tryz.f115) (cd := bodyOf Tryz.f115) (k := 2) (ads := []) (ends := e01) (L := [4]) Tryz.func115 (by kernel_rfl) (by kernel_rfl) (by kernel_rfl) (by kernel_rfl) (by kernel_rfl) rfl rfl ?_
  rw [body115]
  refine T_seq ?_
  have hA := evCodeT_K (k := 2) F (tab_has (B := B) (tb := T13)) noSp_ok (keep (wa115 l q s x es k0 y1 y2 y3 y4 y5 y6 y7 y8 y9 y10 y11 y12 y13 y14 y15 fun vs bx => vs = [.ptr [0,0] 0, .ptr [0,1] 0, .ptr [5000] 0] ∧ bx = [.cells 59 [.d (.map es)], eBx k0 y1 y2 y3 y4 y5 y6 y7 y8 y9 y10 y11 y12 y13 y14 y15, nBx l q s x]) ⟨rfl, rfl, rfl, rfl⟩)
  refine T_post hA ?_
  rintro X s1 ⟨rfl, hN, hc⟩
  obtain ⟨⟨vs, bx⟩, hcut, rfl, rfl⟩ := go_prop hc
  have hw := cut_weak (C := B.tab T13) hcut
  rw [hN] at hw
  refine ⟨_, hw, ?_⟩
  show T (B.tab T13) 2 (.seq m115 fin115) (stN 34 [1,2,3] nmI _ _) _
  refine T_seq ?_
  rw [form115]
  let I : Nat → List Nat → List V → List Box → Prop := fun it dn vs bx => ∃ kk, Found es s.toList k0 dn kk ∧ vs = [.ptr [0,1] 0, .ptr [5000] 0, itV it] ∧ bx = [.cells 59 [.d (.map es)], eBx kk y1 y2 y3 y4 y5 y6 y7 y8 y9 y10 y11 y12 y13 y14 y15, nBx l q s x]
  refine mapRange_T (t := 59) F (tab_has (B := B) (tb := T13)) (sp := noSp) (hn := noHn) (d7 := 7) (d8 := 8) (d9 := 9) (d10 := 10) (d11 := 11) (pre := pre115) (oR := opAt (seqA m115) 1) (oE := opAt (seqA t115) 0) (rest := (regOps (seqA t115)).toList.tail) (by kernel_rfl) (by kernel_rfl) (by kernel_rfl) (by kernel_rfl) Tryz.underlying59
    (by kernel_rfl) (by kernel_rfl) (by kernel_rfl) (by kernel_rfl) (by kernel_rfl) (by kernel_rfl) (by kernel_rfl) (by kernel_rfl) (by kernel_rfl) (by kernel_rfl) (by decide) (by decide) noSp_ok
    (es := es) (N := 34) (L := [2,3,8]) (L' := [2,3]) (nm := nmI) (nm' := nmI) (ns0 := nsI3) (nsI := nsI3) (nsX := nsI3) rfl rfl rfl I (fun vs bx => vs = [.ptr [0,1] 0, .ptr [5000] 0] ∧ bx = [.cells 59 [.d (.map es)], eBx (kindNo es s.toList k0) y1 y2 y3 y4 y5 y6 y7 y8 y9 y10 y11 y12 y13 y14 y15, nBx l q s x]) ?_ ?_ ?_ ?_ ?_
  · rintro vs bx ⟨rfl, rfl⟩
    have hF := evCodeT_K (k := 2) F (tab_has (B := B) (tb := T13)) noSp_ok (keep (wf115 l q s x es (kindNo es s.toList k0) y1 y2 y3 y4 y5 y6 y7 y8 y9 y10 y11 y12 y13 y14 y15 (fun r' bx => r' = lbool (bif bif !l then !q else false then kindNo es s.toList k0 != 0 else false) ∧ bx = [.cells 59 [.d (.map es)], eBx (kindNo es s.toList k0) y1 y2 y3 y4 y5 y6 y7 y8 y9 y10 y11 y12 y13 y14 y15] ++ [])) ⟨rfl, rfl⟩)
    exact hF
  · rintro it dn vals bs ⟨kk, _, rfl, rfl⟩
    rfl
  · refine keep (ws115 l q s x es k0 y1 y2 y3 y4 y5 y6 y7 y8 y9 y10 y11 y12 y13 y14 y15 fun it vs bx => I it [] vs bx) ?_
    exact ⟨rfl, rfl, fun it => ⟨k0, .inr ⟨(fun i p hi => by cases hi), rfl⟩, rfl, rfl⟩⟩
  · rintro it dn vals bs i p ⟨kk, hfd, rfl, rfl⟩ hnd hp
    obtain ⟨code, nm, c1, c2, c3, c4, c5, c6, c7, c8, c9, c10, c11, c12, c13, rfl⟩ := rowOk_inv (List.all_eq_true.1 hro p (List.mem_of_getElem? hp))
    refine keep (wr115 l q s nm x es kk code it c1 c2 c3 c4 c5 c6 c7 c8 c9 c10 c11 c12 c13 y1 y2 y3 y4 y5 y6 y7 y8 y9 y10 y11 y12 y13 y14 y15 fun vs bx => I it (i :: dn) vs bx) ?_
    cases hcs : (nm.toList == s.toList) with
    | true =>
      refine ⟨rfl, rfl, code, .inl ⟨i, _, hp, ?_, rfl⟩, rfl, rfl⟩
      simpa [rowName] using hcs
    | false =>
      refine ⟨rfl, rfl, kk, ?_, rfl, rfl⟩
      rcases hfd with h | ⟨h, rfl⟩
      · exact .inl h
      · refine .inr ⟨fun j p' hj hp' => ?_, rfl⟩
        rcases List.mem_cons.1 hj with rfl | hj
        · rw [hp] at hp'; cases hp'
          have : ¬ nm.toList = s.toList := by simpa using hcs
          exact this
        · exact h j p' hj hp'
  · rintro it dn vals bs ⟨kk, hfd, rfl, rfl⟩ hall
    refine keep (we115 l q s x es kk it y1 y2 y3 y4 y5 y6 y7 y8 y9 y10 y11 y12 y13 y14 y15 (fun vs bx => vs = [.ptr [0,1] 0, .ptr [5000] 0] ∧ bx = [.cells 59 [.d (.map es)], eBx (kindNo es s.toList k0) y1 y2 y3 y4 y5 y6 y7 y8 y9 y10 y11 y12 y13 y14 y15, nBx l q s x])) ?_
    have hk := found_all hap hfd hall
    subst hk
    exact ⟨rfl, rfl, rfl⟩
end Go.Ev.R2
end
