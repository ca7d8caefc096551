/- What the proofs of the lexer's laws share, part 9 of 15. -/
import Derived.Test.YtnnhlphbfpnaaaaGreatDoorI4
import Derived.Test.YtnnhlphbfpnaaaaGreatDoorI6
import Derived.Test.YtnnhlphbfpnaaaaGreatDoorI5
import Derived.Test.YtnnhlphbfpnaaaaGreatDoorI8
import Derived.Test.YtnnhlphbfpnaaaaGreatDoorI7
set_option linter.unusedVariables false
set_option linter.unusedSimpArgs false
section
namespace Go.Ev
def Cx.blobs (C:Cx) (b:TypeId→Option (Nat×Nat)):Cx:={C with blob:=b }
def b3t:List (FuncId×Ct)→FuncId→Option Ct
 | [],_=>none
 | (a,S)::r,n=>bif n==a then some S else b3t r n
def Tab.addG (tb:Tab) (grp:List (FuncId×Ct)):Tab:=fun n=>match b3t grp n with|some S=>some S|none=>tb n
def c5e (grp:List (FuncId×Ct)) (μ:FuncId→List D→Nat) (n:Nat):List (FuncId×Ct):=grp.map fun p=>(p.1,p.2.below (μ p.1) n)
section
variable {B : Cx} {tb : Tab} {stb : L4}
theorem b7w.blobs (hB:b7w B) (b:TypeId→Option (Nat×Nat)):b7w (B.blobs b):=⟨{plain:=hB.ok.plain,mixed:=hB.ok.mixed },hB.prim⟩
theorem C3.of {C C':Cx} (hP:C'.P=C.P) (hg:C'.glob=C.glob) (h:C3 C tb):C3 C' tb:=fun K ct ds r h1 h2 h3=>(h K ct ds r h1 h2 h3).of hP hg
theorem a4c (hB:b7w B) (h:C3 B tb) (hs:H9 B stb) (b:TypeId→Option (Nat×Nat)) {K:FuncId} {fn:Func} {cd:Code} {sp:Nat→Option Spec} {hn:Nat→Option j5} (hf:B.P.funcs[K]?=some fn) (hb:fn.body=some cd) (hr:(fn.name == "runtime.NumGoroutine")=false)
  (ok:s6 ((B.blobs b).tab tb) 0 sp (K3 false cd)) {ds:List D} {r:D}
  (hc:a6d (B6 ((B.blobs b).tab tb) tb (H7 stb) 0 sp hn K (ds.map .d) B3.empty fun v H=>B4 H v= .d r)):a6o B K ds r:=by
 have he:N8 B.P K:=⟨fn,hf,by simpa using hr,by rw[hb];rfl⟩
 have h':C3 (B.blobs b) tb:=h.of rfl rfl
 have hs':H9 (B.blobs b) stb:=hs.of rfl rfl
 have:=a2o (C:=(B.blobs b).tab tb) he (a3p (L8 (hB.blobs b) h' hs') C0 (C:=(B.blobs b).tab tb) hf hb (fun m hm=>by cases hm) ok hc.h)
 exact this.of rfl rfl
theorem k9 (hB:b7w B) (h:C3 B tb) (hs:H9 B stb) (b:TypeId→Option (Nat×Nat)):b4v ((B.blobs b).tab tb) (H7 stb).call :=
 L8 (hB.blobs b) (h.of rfl rfl) (hs.of rfl rfl)
theorem c6x:∀{grp:List (FuncId×Ct)} {n:FuncId} {S:Ct},b3t grp n=some S→(n,S)∈grp
 | [],n,S,h=>by cases h
 | (a,T)::r,n,S,h=>by
  unfold b3t at h
  by_cases e:n=a
  ·subst e;simp at h;subst h;simp
  ·have:(n==a)=false:=by simpa using e
   rw[this] at h
   exact List.mem_cons_of_mem _ (c6x h)
theorem a3y {μ:FuncId→List D→Nat} {m:Nat}:∀{grp:List (FuncId×Ct)} {n:FuncId},b3t (c5e grp μ m) n=match b3t grp n with|some S=>some (S.below (μ n) m)|none=>none
 | [],n=>rfl
 | (a,T)::r,n=>by
  simp only[c5e,List.map_cons,b3t]
  by_cases e:n=a
  ·subst e;simp
  ·have:(n==a)=false:=by simpa using e
   rw[this]
   exact a3y
theorem f3t (h:C3 B tb) (grp:List (FuncId×Ct)) (μ:FuncId→List D→Nat)
  (hc:∀n,C3 B (tb.addG (c5e grp μ n))→∀K S,(K,S)∈grp→∀ds r,S.pre ds→μ K ds=n→S.f ds=some r→a6o B K ds r):C3 B (tb.addG grp):=by
 have all:∀n,C3 B (tb.addG (c5e grp μ n)):=by
  intro n
  induction n with
  | zero =>
   intro K f ds r h1 h2 h3
   unfold Tab.addG at h1
   rw[a3y] at h1
   cases hl:b3t grp K with
   | none=>rw[hl] at h1;exact h K f ds r h1 h2 h3
   | some S =>
    rw[hl] at h1
    simp only[Option.some.injEq] at h1
    subst h1
    exact absurd h2.2 (Nat.not_lt_zero _)
  | succ n ih =>
   intro K f ds r h1 h2 h3
   unfold Tab.addG at h1
   rw[a3y] at h1
   cases hl:b3t grp K with
   | none=>rw[hl] at h1;exact h K f ds r h1 h2 h3
   | some S =>
    rw[hl] at h1
    simp only[Option.some.injEq] at h1
    subst h1
    by_cases hlt:μ K ds<n
    ·refine ih K (S.below (μ K) n) ds r ?_ ⟨h2.1,hlt⟩ h3
     unfold Tab.addG
     rw[a3y,hl]
    ·have e:μ K ds=n:=by have:=h2.2;omega
     exact hc n ih K S (c6x hl) ds r h2.1 e h3
 intro K f ds r h1 h2 h3
 unfold Tab.addG at h1
 cases hl:b3t grp K with
 | none=>rw[hl] at h1;exact h K f ds r h1 h2 h3
 | some S =>
  rw[hl] at h1
  simp only[Option.some.injEq] at h1
  subst h1
  refine all (μ K ds+1) K (S.below (μ K) (μ K ds+1)) ds r ?_ ⟨h2,by omega⟩ h3
  unfold Tab.addG
  rw[a3y,hl]
end
end Go.Ev
end
section
namespace Go.Ev.R2
open Go Go.Ev Go.Proofs
set_option maxRecDepth 100000
abbrev Q1:List D:=d6v 1 257 0 259
def a4g (t:TypeId):Option (Nat×Nat):=bif t==176 then some (1,257) else none
noncomputable def CnB (tb:Tab):Cx:=(B.blobs a4g).tab tb
abbrev u8D (c:Int):D:=.lit (.int .u8 c)
abbrev sD (s:ByteArray):D:=.lit (.string s)
abbrev ntD (i:Int):D:=.lit (.int .i64 i)
theorem i3m (c:Int) (p:V→Prop):(B6 (Cn T13) T13 D5 0 B8 B1 249 [V.d (u8D c)] B3.empty fun v H=>p (B4 H v)) =
 p
 (A6 (bif
 bif bif decide (c≥97) then decide (c≤122) else false then true
 else bif decide (c≥65) then decide (c≤90) else false then
 true
 else bif decide (c≥48) then decide (c≤57) else false)):=by kernel_rfl
noncomputable def c5i (c:Int):Bool :=
 (bif
 bif bif decide (c≥97) then decide (c≤122) else false then true
 else bif decide (c≥65) then decide (c≤90) else false then
 true
 else bif decide (c≥48) then decide (c≤57) else false)
noncomputable def h7j:Ct:=⟨fun _=>True,fun | [.lit (.int .u8 c)]=>some (.lit (.bool (c5i c)))|_=>none⟩
noncomputable def f9y:Tab:=T13.add 249 h7j
theorem i3n (c:Int) (p:V→Prop):(B6 (Cn f9y) f9y D5 0 B8 B1 248 [V.d (u8D c)] B3.empty fun v H=>p (B4 H v)) =
 (bif c==110 then
 p (V.d (D.tup [D.lit (Value.int IntKind.u8 10),oD true])) else
 (bif c==116 then
 p (V.d (D.tup [D.lit (Value.int IntKind.u8 9),oD true])) else
 (True∧
 p (V.d (D.tup [D.lit (Value.int IntKind.u8 c),oD (!c5i c)]))))):=by kernel_rfl
def c4t (c:Int):Int:=bif c==110 then 10 else bif c==116 then 9 else c
noncomputable def c9z (c:Int):Bool:=bif c==110 then true else bif c==116 then true else !c5i c
noncomputable def h7k:Ct:=⟨fun _=>True,fun | [.lit (.int .u8 c)]=>some (.tup [.lit (.int .u8 (c4t c)), .lit (.bool (c9z c))])|_=>none⟩
noncomputable def f9z:Tab:=f9y.add 248 h7k
theorem i3s (c:Int) (p:V→Prop):(B6 (Cn f9z) f9z D5 0 B8 B1 233 [V.d (u8D c)] B3.empty fun v H=>p (B4 H v)) =
 p
 (A6 (bif
 bif
 bif
 bif
 bif
 bif
 bif bif bif c==46 then true else c==91 then true else c==93 then true
 else c==40 then
 true
 else c==41 then
 true
 else c==124 then
 true
 else c==42 then
 true
 else c==43 then
 true
 else c==63 then
 true
 else c==92)):=by kernel_rfl
noncomputable def a9g (c:Int):Bool :=
 (bif
 bif
 bif
 bif
 bif
 bif
 bif bif bif c==46 then true else c==91 then true else c==93 then true
 else c==40 then
 true
 else c==41 then
 true
 else c==124 then
 true
 else c==42 then
 true
 else c==43 then
 true
 else c==63 then
 true
 else c==92)
noncomputable def c233:Ct:=⟨fun _=>True,fun | [.lit (.int .u8 c)]=>some (.lit (.bool (a9g c)))|_=>none⟩
noncomputable def g2c:Tab:=f9z.add 233 c233
theorem i3r (c:Int) (p:V→Prop):(B6 (CnB g2c) g2c (H7 a6s) 0 B8 B1 234 [V.d (u8D c)] B3.empty fun v H=>p (B4 H v)) =
 ((((0:Int)≤c)∧c.toNat<256)∧
 (1+c.toNat*1<259∧
 p
 (V.d
 (D.agg
 Q1)))):=by kernel_rfl
noncomputable def h7o:Ct:=⟨fun | [.lit (.int .u8 c)]=>0≤c∧c<256|_=>False,fun | [.lit (.int .u8 c)]=>some (.agg Q1)|_=>none⟩
noncomputable def g2b:Tab:=g2c.add 234 h7o
theorem i3w (c:Int) (p:V→Prop):(B6 (CnB g2b) g2b (H7 a6s) 0 B8 B1 217 [V.d (D.agg Q1),V.d (u8D c)] B3.empty fun v H =>
 p (B4 H v)) =
 (bif c==42 then
 p
 (V.d
 (D.agg
 Q1)) else
 (bif c==43 then
 p
 (V.d
 (D.agg
 Q1)) else
 p
 (V.d
 (D.agg
 Q1)))):=by kernel_rfl
noncomputable def h7p:Ct:=⟨fun | [x, .lit (.int .u8 c)]=>x= .agg Q1|_=>False,fun | [x, .lit (.int .u8 c)]=>some (.agg Q1)|_=>none⟩
noncomputable def d7e:Tab:=g2b.add 217 h7p
noncomputable def f7j:Code:=D7 (C5 (A7 Tryz.f235) 12)
abbrev nB:Box:=.blob 176 259 1 257
abbrev z8:List (B2×B2):=[([5000],[5000]),([5001],[5001])]
theorem h9f (c:Int) (i:Int) (R:X→List V→List Box→Prop):(E1 (CnB d7e) d7e (H7 a6s) 0 B8 B1 f7j 52 [0,2,4,7] [[5000], [5001]] [] z8 [2,4] z8
 [V.d (u8D c),V.ptr [5000] 0,V.ptr [5001] 0,A3 i] [nB,nB] R) =
 (bif decide (i<256) then
 (((c==119&&((!bif decide (IntKind.u8.wrap i≥48) then decide (IntKind.u8.wrap i≤57) else false)&&true))=true→True)∧
 ((((0:Int)≤i)∧i.toNat<256)∧
 (1+i.toNat*1<259∧
 (52=52∧
 R X.normal
 [V.d (D.lit (Value.int IntKind.u8 c)),V.ptr [5000] 0,V.ptr [5001] 0,
 A3 (IntKind.i64.wrap (i+1))]
 [Box.blob 176 259 1 257,Box.blob 176 259 1 257])))) else
 (52=52∧
 R (X.exit 0) [V.ptr [5000] 0,V.ptr [5001] 0] [Box.blob 176 259 1 257,Box.blob 176 259 1 257])):=by kernel_rfl
def g3w:Ev.Spec:={L:=[0,2,4,7],ns:=[([5000],[4]),([5001],[6])],L':=[2,4],nm':=[[5000],[5001]],G:=fun N vals bs k=>match vals,bs with
 | [.d (.lit (.int .u8 c)), .ptr [5000] 0, .ptr [5001] 0, .d (.lit (.int .i64 i))], [.blob 176 259 1 257, .blob 176 259 1 257]=>(N=52∧i=0∧0≤c∧c<256)∧k (.exit 0) [.ptr [5000] 0, .ptr [5001] 0] [nB,nB]
 | _,_=>False }
theorem i3q (c:Int) (p:V→Prop):(B6 (CnB d7e) d7e (H7 a6s) 0 (spL [(12,g3w)]) B1 235 [V.d (u8D c)] B3.empty fun v H=>p (B4 H v)) =
 (bif bif c !=100 then c !=119 else false then
 (True∧
 ((((0:Int)≤c4t c)∧((c4t c:Int)<256))∧
 p
 (V.d
 (D.tup
 [D.agg
 Q1,
 oD (c9z c)])))) else
 ((52=52∧(((0:Int)=0)∧(((0:Int)≤c)∧((c:Int)<256))))∧
 p
 (V.d
 (D.tup
 [D.agg
 Q1,
 oD true])))):=by kernel_rfl
noncomputable def e7o (c:Int):Bool:=bif (bif c !=100 then c !=119 else false) then c9z c else true
noncomputable def h7n:Ct:=⟨fun | [.lit (.int .u8 c)]=>0≤c∧c<256|_=>False,fun | [.lit (.int .u8 c)]=>some (.tup [.agg Q1, .lit (.bool (e7o c))])|_=>none⟩
noncomputable def g2a:Tab:=d7e.add 235 h7n
theorem i3k (s : ByteArray) (i : Int) (p : V → Prop) : (B6 (Cn g2a) g2a D5 0 B8 B1 250 [V.d (sD s), V.d (ntD i)] B3.empty fun v H => p (B4 H v)) =
  (((!decide (i ≥ (↑s.size : Int)) && true) = true → (((0 : Int) ≤ i) ∧ i.toNat < s.size)) ∧
  (bif bif decide (i ≥ (↑s.size : Int)) then true else A9 s i.toNat == 93 then
   p (V.d (D.tup [D.lit (Value.int IntKind.u8 0), iD i, oD false])) else
   ((((0 : Int) ≤ i) ∧ i.toNat < s.size) ∧
   (bif A9 s i.toNat != 92 then
    ((((0 : Int) ≤ i) ∧ i.toNat < s.size) ∧
    p
  (V.d
    (D.tup
      [D.lit (Value.int IntKind.u8 (A9 s i.toNat)), iD (IntKind.i64.wrap (i + 1)),
        oD true]))) else
    (bif decide (IntKind.i64.wrap (i + 1) ≥ (↑s.size : Int)) then
     p (V.d (D.tup [D.lit (Value.int IntKind.u8 0), iD i, oD false])) else
     ((((0 : Int) ≤ IntKind.i64.wrap (i + 1)) ∧ (IntKind.i64.wrap (i + 1)).toNat < s.size) ∧
     (True ∧
     p
  (V.d
    (D.tup
      [D.lit (Value.int IntKind.u8 (c4t (A9 s (IntKind.i64.wrap (i + 1)).toNat))),
        iD (IntKind.i64.wrap (i + 2)),
        oD (c9z (A9 s (IntKind.i64.wrap (i + 1)).toNat))]))))))))) := by kernel_rfl
noncomputable def it3 (s:ByteArray) (i:Int):Int×Int×Bool :=
 bif (bif decide (i≥(s.size:Int)) then true else A9 s i.toNat==93) then (0,i,false) else
 bif A9 s i.toNat !=92 then (A9 s i.toNat,i+1,true) else
 bif decide (i+1≥(s.size:Int)) then (0,i,false) else (c4t (A9 s (i+1).toNat),i+2,c9z (A9 s (i+1).toNat))
def a4j (s:ByteArray) (i:Int):Prop:=0≤i∧i≤s.size∧s.size≤200
noncomputable def h7i:Ct:=⟨fun | [.lit (.string s), .lit (.int .i64 i)]=>a4j s i|_=>False,fun | [.lit (.string s), .lit (.int .i64 i)]=>some (.tup [.lit (.int .u8 (it3 s i).1), .lit (.int .i64 (it3 s i).2.1), .lit (.bool (it3 s i).2.2)])|_=>none⟩
noncomputable def b2h:Tab:=g2a.add 250 h7i
noncomputable def c6y:Code:=D7 (C5 (A7 Tryz.f236) 6)
noncomputable def e3q:Code:=D7 (e3c c6y 22)
noncomputable def e3p:Code:=D7 (C5 (A7 Tryz.f236) 36)
theorem g5m (s:ByteArray) (inv:Bool) (st:Int) (nx:Int) (hi:Int) (c:Int) (R:X→List V→List Box→Prop):(E1 (CnB b2h) b2h (H7 a6s) 0 B8 B1 e3q 114 [0,2,6,9,10,12,14,15] [[5000], [5001]] [] z8
 [0,2,6,9,10,12] z8 [C6 s,A6 inv,V.ptr [5000] 0,V.ptr [5001] 0,A3 st,A3 nx,V.d (u8D hi),A3 c]
 [nB,nB] R) =
 (bif decide (c≤IntKind.i64.wrap hi) then
 ((((0:Int)≤c)∧c.toNat<256)∧
 (1+c.toNat*1<259∧
 (114=114∧
 R X.normal
 [C6 s,A6 inv,V.ptr [5000] 0,V.ptr [5001] 0,
 A3 st,A3 nx,
 V.d (D.lit (Value.int IntKind.u8 hi)),A3 (IntKind.i64.wrap (c+1))]
 [Box.blob 176 259 1 257,Box.blob 176 259 1 257]))) else
 (114=114∧
 R (X.exit 2)
 [C6 s,A6 inv,V.ptr [5000] 0,V.ptr [5001] 0,
 A3 st,A3 nx]
 [Box.blob 176 259 1 257,Box.blob 176 259 1 257])):=by kernel_rfl
def e5b:Ev.Spec:={L:=[0,2,6,9,10,12,14,15],ns:=z8,L':=[0,2,6,9,10,12],nm':=[[5000],[5001]],G:=fun N vals bs k=>match vals,bs with
 | [.d (.lit (.string s)), .d (.lit (.bool inv)), .ptr [5000] 0, .ptr [5001] 0, .d (.lit (.int .i64 st)), .d (.lit (.int .i64 nx)), .d (.lit (.int .u8 hi)), .d (.lit (.int .i64 c))], [.blob 176 259 1 257, .blob 176 259 1 257]=>(N=114∧0≤c∧c<256∧0≤hi∧hi<256)∧k (.exit 2) [C6 s,A6 inv, .ptr [5000] 0, .ptr [5001] 0,A3 st,A3 nx] [nB,nB]
 | _,_=>False }
theorem h9e (s : ByteArray) (inv : Bool) (st : Int) (i : Int) (R : X → List V → List Box → Prop) : (E1 (CnB b2h) b2h (H7 a6s) 0 (spL [(22, e5b)]) B1 c6y 114 [0, 1, 2, 6, 9, 10] [[5000], [5001]] [] z8
  [0, 1, 2, 6, 7, 8, 9, 10] z8 [C6 s, A3 i, A6 inv, V.ptr [5000] 0, V.ptr [5001] 0, A3 st] [nB, nB] R) =
  (((decide (i < (↑s.size : Int)) && true) = true → (((0 : Int) ≤ i) ∧ i.toNat < s.size)) ∧
  (bif bif decide (i < (↑s.size : Int)) then A9 s i.toNat != 93 else false then
   ((((0 : Int) ≤ i) ∧ (((i : Int) ≤ (↑s.size : Int)) ∧ s.size ≤ 200)) ∧
   ((((bif (it3 s i).snd.snd then decide (IntKind.i64.wrap ((it3 s i).snd.fst + 1) < (↑s.size : Int)) else false) && true) =
  true → (((0 : Int) ≤ (it3 s i).snd.fst) ∧ (it3 s i).snd.fst.toNat < s.size)) ∧
   ((((bif bif (it3 s i).snd.snd then decide (IntKind.i64.wrap ((it3 s i).snd.fst + 1) < (↑s.size : Int)) else false then
      A9 s (it3 s i).snd.fst.toNat == 45
    else false) &&
    true) =
  true → (((0 : Int) ≤ IntKind.i64.wrap ((it3 s i).snd.fst + 1)) ∧ (IntKind.i64.wrap ((it3 s i).snd.fst + 1)).toNat < s.size)) ∧
   (bif bif
    bif bif (it3 s i).snd.snd then decide (IntKind.i64.wrap ((it3 s i).snd.fst + 1) < (↑s.size : Int)) else false then
      A9 s (it3 s i).snd.fst.toNat == 45
    else false then
  A9 s (IntKind.i64.wrap ((it3 s i).snd.fst + 1)).toNat != 93
else false then
    ((((0 : Int) ≤ IntKind.i64.wrap ((it3 s i).snd.fst + 1)) ∧ (((IntKind.i64.wrap ((it3 s i).snd.fst + 1) : Int) ≤ (↑s.size : Int)) ∧ s.size ≤ 200)) ∧
    (bif bif !(it3 s (IntKind.i64.wrap ((it3 s i).snd.fst + 1))).snd.snd then true
else decide ((it3 s (IntKind.i64.wrap ((it3 s i).snd.fst + 1))).fst < (it3 s i).fst) then
     (114 = 114 ∧
     R X.ret
  [C6 s, A3 i, A6 inv, V.ptr [5000] 0,
    A3 i, A6 false, V.ptr [5001] 0,
    A3 st]
  [Box.blob 176 259 1 257, Box.blob 176 259 1 257]) else
     ((114 = 114 ∧ (((0 : Int) ≤ IntKind.i64.wrap (it3 s i).fst) ∧ (((IntKind.i64.wrap (it3 s i).fst : Int) < 256) ∧ (((0 : Int) ≤ (it3 s (IntKind.i64.wrap ((it3 s i).snd.fst + 1))).fst) ∧ (((it3 s (IntKind.i64.wrap ((it3 s i).snd.fst + 1))).fst : Int) < 256))))) ∧
     (114 = 114 ∧
     R X.normal
  [C6 s,
    A3 ((it3 s (IntKind.i64.wrap ((it3 s i).snd.fst + 1))).snd.fst),
    A6 inv, V.ptr [5000] 0, V.ptr [5001] 0, A3 st]
  [Box.blob 176 259 1 257, Box.blob 176 259 1 257])))) else
    (bif bif !(it3 s i).snd.snd then true else decide ((it3 s i).fst < (it3 s i).fst) then
     (114 = 114 ∧
     R X.ret
  [C6 s, A3 i, A6 inv, V.ptr [5000] 0,
    A3 i, A6 false, V.ptr [5001] 0,
    A3 st]
  [Box.blob 176 259 1 257, Box.blob 176 259 1 257]) else
     ((114 = 114 ∧ (((0 : Int) ≤ IntKind.i64.wrap (it3 s i).fst) ∧ (((IntKind.i64.wrap (it3 s i).fst : Int) < 256) ∧ (((0 : Int) ≤ (it3 s i).fst) ∧ (((it3 s i).fst : Int) < 256))))) ∧
     (114 = 114 ∧
     R X.normal
  [C6 s, A3 ((it3 s i).snd.fst), A6 inv,
    V.ptr [5000] 0, V.ptr [5001] 0, A3 st]
  [Box.blob 176 259 1 257, Box.blob 176 259 1 257]))))))) else
   (114 = 114 ∧
   R (X.exit 0)
  [C6 s, A3 i, A6 inv, V.ptr [5000] 0,
    V.any, V.any, V.ptr [5001] 0, A3 st]
  [Box.blob 176 259 1 257, Box.blob 176 259 1 257]))) := by kernel_rfl
theorem g5k (inv:Bool) (i:Int) (k:Int) (R:X→List V→List Box→Prop):(E1 (CnB b2h) b2h (H7 a6s) 0 B8 B1 e3p 114 [1,2,6,9,16] [[5000], [5001]] [] z8 [1,6,9] z8
 [A3 i,A6 inv,V.ptr [5000] 0,V.ptr [5001] 0,A3 k] [nB,nB] R) =
 (bif decide (k<256) then
 ((((0:Int)≤k)∧k.toNat<256)∧
 ((1≤1+k.toNat*1∧1+k.toNat*1<257)∧
 ((((0:Int)≤k)∧k.toNat<256)∧
 (1+k.toNat*1<259∧
 (114=114∧
 R X.normal
 [A3 i,A6 inv,V.ptr [5000] 0,V.ptr [5001] 0,
 A3 (IntKind.i64.wrap (k+1))]
 [Box.blob 176 259 1 257,Box.blob 176 259 1 257]))))) else
 (114=114∧
 R (X.exit 4) [A3 i,V.ptr [5000] 0,V.ptr [5001] 0]
 [Box.blob 176 259 1 257,Box.blob 176 259 1 257])):=by kernel_rfl
noncomputable def rgQ (s:ByteArray) (i:Int):Bool:=bif (bif (bif (it3 s i).2.2 then decide ((it3 s i).2.1+1<(s.size:Int)) else false) then A9 s (it3 s i).2.1.toNat==45 else false) then A9 s ((it3 s i).2.1+1).toNat !=93 else false
noncomputable def brT (s:ByteArray) (i:Int):Int×Int×Bool:=bif rgQ s i then it3 s ((it3 s i).2.1+1) else it3 s i
noncomputable def b2f (s:ByteArray) (i:Int):Bool:=bif !(brT s i).2.2 then true else decide ((brT s i).1<(it3 s i).1)
noncomputable def brL (s:ByteArray):Nat→Int→Bool×Int
 | 0,i=>(false,i)
 | n+1,i=>bif (bif decide (i<(s.size:Int)) then A9 s i.toNat !=93 else false) then (bif b2f s i then (false,i) else brL s n (brT s i).2.1) else (true,i)
noncomputable def brQ (s:ByteArray) (i:Int):Bool×Int :=
 bif (brL s 201 i).1 then (bif (bif decide ((brL s 201 i).2≥(s.size:Int)) then true else (brL s 201 i).2==i) then (false,(brL s 201 i).2) else (true,(brL s 201 i).2+1)) else (false,(brL s 201 i).2)
noncomputable def e4z : Ev.Spec := { L := [0,1,2,6,9,10], ns := [([5000],[8]),([5001],[11])], L' := [0,1,2,6,7,8,9,10], nm' := [[5000],[5001]], G := fun N vals bs k => match vals, bs with
  | [.d (.lit (.string s)), .d (.lit (.int .i64 i)), .d (.lit (.bool inv)), .ptr [5000] 0, .ptr [5001] 0, .d (.lit (.int .i64 st))], [.blob 176 259 1 257, .blob 176 259 1 257] => (N = 114 ∧ i = st ∧ a4j s i) ∧
      (bif (brL s 201 i).1 then k (.exit 0) [C6 s, A3 (brL s 201 i).2, A6 inv, .ptr [5000] 0, .any, .any, .ptr [5001] 0, A3 st] [nB, nB]
       else k .ret [C6 s, A3 (brL s 201 i).2, A6 inv, .ptr [5000] 0, A3 (brL s 201 i).2, A6 false, .ptr [5001] 0, A3 st] [nB, nB])
  | _, _ => False }
def e5a:Ev.Spec:={L:=[1,2,6,9,16],ns:=z8,L':=[1,6,9],nm':=[[5000],[5001]],G:=fun N vals bs k=>match vals,bs with
 | [.d (.lit (.int .i64 i)), .d (.lit (.bool inv)), .ptr [5000] 0, .ptr [5001] 0, .d (.lit (.int .i64 m))], [.blob 176 259 1 257, .blob 176 259 1 257]=>(N=114∧m=0)∧k (.exit 4) [A3 i, .ptr [5000] 0, .ptr [5001] 0] [nB,nB]
 | _,_=>False }
theorem i3p (s:ByteArray) (i:Int) (inv:Bool) (p:V→Prop):(B6 (CnB b2h) b2h (H7 a6s) 0 (spL [(6,e4z),(36,e5a)]) B1 236 [V.d (sD s),V.d (ntD i),A6 inv]
 B3.empty fun v H=>p (B4 H v)) =
 ((114=114∧(((i:Int)=i)∧a4j s i))∧
 (bif (brL s 201 i).fst then
 (bif bif decide ((brL s 201 i).snd≥(↑s.size:Int)) then true else (brL s 201 i).snd==i then
 p
 (V.d
 (D.tup
 [D.agg
 Q1,
 iD ((brL s 201 i).snd),oD false])) else
 ((114=114∧((0:Int)=0))∧
 p
 (V.d
 (D.tup
 [D.agg
 Q1,
 iD (IntKind.i64.wrap ((brL s 201 i).snd+1)),oD true])))) else
 p
 (V.d
 (D.tup
 [D.agg
 Q1,
 iD ((brL s 201 i).snd),oD false])))):=by kernel_rfl
noncomputable def h7m:Ct:=⟨fun | [.lit (.string s), .lit (.int .i64 i), .lit (.bool _)]=>a4j s i|_=>False,fun | [.lit (.string s), .lit (.int .i64 i), .lit (.bool _)]=>some (.tup [.agg Q1, .lit (.int .i64 (brQ s i).2), .lit (.bool (brQ s i).1)])|_=>none⟩
noncomputable def h2n:Tab:=b2h.add 236 h7m
theorem i8b:C3 B f9y:=by
 refine C4 B9 k13 (fn:=Tryz.f249) (cd:=A7 Tryz.f249) (sp:=B8) (hn:=B1) Tryz.func249 (by kernel_rfl) (by kernel_rfl) A8 fun ds r hp hr=>?_
 unfold h7j at hr
 simp only[] at hr
 split at hr
 ·cases hr
  refine keep (i3m _ fun v=>v=_) ?_
  rfl
 ·cases hr
theorem i8c:C3 B f9z:=by
 refine C4 B9 i8b (fn:=Tryz.f248) (cd:=A7 Tryz.f248) (sp:=B8) (hn:=B1) Tryz.func248 (by kernel_rfl) (by kernel_rfl) A8 fun ds r hp hr=>?_
 unfold h7k at hr
 simp only[] at hr
 split at hr
 ·rename_i c
  cases hr
  refine keep (i3n c fun v=>v=_) ?_
  unfold c4t c9z
  (repeat' (first|with_reducible rfl | (refine A5 (fun hcw=>?_) (fun hcw=>?_)<;>simp only[hcw,cond_true,cond_false])|refine V8 ?_ ?_))
  all_goals trivial
 ·cases hr
theorem h6a:C3 B g2c:=by
 refine C4 B9 i8c (fn:=Tryz.f233) (cd:=A7 Tryz.f233) (sp:=B8) (hn:=B1) Tryz.func233 (by kernel_rfl) (by kernel_rfl) A8 fun ds r hp hr=>?_
 unfold c233 at hr
 simp only[] at hr
 split at hr
 ·cases hr
  refine keep (i3s _ fun v=>v=_) ?_
  rfl
 ·cases hr
theorem h5z:C3 B g2b:=by
 refine Y8 h6a fun ds r hp hr=>?_
 unfold h7o at hp hr
 simp only[] at hr hp
 split at hr
 ·rename_i c
  cases hr
  obtain ⟨h0,h1⟩:=hp
  refine a4c B9 h6a N3 a4g (fn:=Tryz.f234) (cd:=A7 Tryz.f234) (sp:=B8) (hn:=B1) Tryz.func234 (by kernel_rfl) (by kernel_rfl) A8 (keep (i3r c fun v=>v=_) ?_)
  exact ⟨⟨h0,by omega⟩,by omega,(by trivial)⟩
 ·cases hr
theorem f7y:C3 B d7e:=by
 refine Y8 h5z fun ds r hp hr=>?_
 unfold h7p at hp hr
 simp only[] at hr hp
 split at hr
 ·rename_i x c
  cases hr
  subst hp
  refine a4c B9 h5z N3 a4g (fn:=Tryz.f217) (cd:=A7 Tryz.f217) (sp:=B8) (hn:=B1) Tryz.func217 (by kernel_rfl) (by kernel_rfl) A8 (keep (i3w c fun v=>v=_) ?_)
  exact A5 (fun _=>rfl) (fun _=>A5 (fun _=>rfl) (fun _=>rfl))
 ·cases hr
theorem h5c:OkS (CnB d7e) 0 (.loop f7j) g3w:=by
 refine D0 fun N vals bs K h=>?_
 simp only[g3w] at h
 split at h
 case h_2=>exact h.elim
 rename_i c i
 obtain ⟨⟨rfl,rfl,h0,h1⟩,h⟩:=h
 have main:∀k i:Nat,i+k=256→J2 (CnB d7e) 0 f7j 52 [0,2,4,7] [[5000],[5001]] [2,4] [[5000],[5001]] [.d (u8D c), .ptr [5000] 0, .ptr [5001] 0,A3 i] [nB,nB] K:=by
  intro k
  induction k with
  | zero =>
   intro i hi
   refine B5 (k9 B9 f7y N3 a4g) C0 A8 (hn:=B1) (adsI:=[]) (nsI:=z8) (nsX:=z8) rfl rfl (keep (h9f c i _) ?_)
   have e1:decide ((i:Int)<256)=false:=by simp;omega
   rw[e1]
   exact ⟨(by trivial),h⟩
  | succ k ih =>
   intro i hi
   refine B5 (k9 B9 f7y N3 a4g) C0 A8 (hn:=B1) (adsI:=[]) (nsI:=z8) (nsX:=z8) rfl rfl (keep (h9f c i _) ?_)
   have e1:decide ((i:Int)<256)=true:=by simp;omega
   have e2:IntKind.i64.wrap ((i:Int)+1)=((i+1:Nat):Int):=by rw[Go.IntWalk.i64_in _ (by omega)];omega
   rw[e1]
   simp only[e2,cond_true]
   exact ⟨fun _=>trivial,⟨by omega,by omega⟩,by omega,(by trivial),ih (i+1) (by omega)⟩
 exact main 256 0 (by omega)
theorem e4c {c:Int} (h:0≤c∧c<256):0≤c4t c∧c4t c<256:=by
 unfold c4t
 cases (c==110)<;>cases (c==116)<;>simp<;>omega
theorem i8e:C3 B g2a:=by
 refine Y8 f7y fun ds r hp hr=>?_
 unfold h7n at hp hr
 simp only[] at hr hp
 split at hr
 ·rename_i c
  cases hr
  refine a4c B9 f7y N3 a4g (fn:=Tryz.f235) (cd:=A7 Tryz.f235) (sp:=spL [(12,g3w)]) (hn:=B1) Tryz.func235 (by kernel_rfl) (by kernel_rfl) (B7 (c:=.loop f7j) (by kernel_rfl) h5c C8) (keep (i3q c fun v=>v=_) ?_)
  unfold e7o
  refine A5 (fun hc=>?_) (fun hc=>?_)
  ·simp only[hc,cond_true]
   exact ⟨(by trivial),e4c hp,(by trivial)⟩
  ·simp only[hc,cond_false]
   exact ⟨⟨(by trivial),(by trivial),hp⟩,(by trivial)⟩
 ·cases hr
theorem a3u {a b:Bool} (h:(bif a then true else b)=false):a=false∧b=false:=by
 cases a with
 | true=>cases h
 | false=>exact ⟨(by trivial),h⟩
theorem Y7 {a b:Bool} (h:(bif a then b else false)=true):a=true∧b=true:=by
 cases a with
 | true=>exact ⟨(by trivial),h⟩
 | false=>cases h
theorem wr {x:Int} (h: -9000000000000000000≤x) (h':x≤9000000000000000000):IntKind.i64.wrap x=x:=Go.IntWalk.i64_in _ (by omega)
theorem d8o:C3 B b2h:=by
 refine C4 B9 i8e (fn:=Tryz.f250) (cd:=A7 Tryz.f250) (sp:=B8) (hn:=B1) Tryz.func250 (by kernel_rfl) (by kernel_rfl) A8 fun ds r hp hr=>?_
 unfold h7i at hp hr
 simp only[] at hr hp
 split at hr
 ·rename_i s i
  cases hr
  obtain ⟨h0,h1,h2⟩:=hp
  refine keep (i3k s i fun v=>v=_) ?_
  rw[wr (x:=i+1) (by omega) (by omega),wr (x:=i+2) (by omega) (by omega)]
  unfold it3
  refine ⟨fun g=>?_,A5 (fun hc=>?_) (fun hc=>?_)⟩
  ·simp only[Bool.and_true,Bool.not_eq_true',decide_eq_false_iff_not] at g
   omega
  ·simp only[hc,cond_true]
  ·have:=(a3u hc).1
   simp only[decide_eq_false_iff_not] at this
   simp only[hc,cond_false]
   refine ⟨by omega,A5 (fun hc=>?_) (fun hc=>?_)⟩
   ·simp only[hc,cond_true];exact ⟨by omega,(by trivial)⟩
   ·simp only[hc,cond_false]
    refine A5 (fun hc=>?_) (fun hc=>?_)
    ·simp only[hc,cond_true]
    ·simp only[hc,cond_false]
     simp only[decide_eq_false_iff_not] at hc
     exact ⟨⟨by omega,by omega⟩,(by trivial),(by trivial)⟩
 ·cases hr
theorem b9n {s:ByteArray} {i:Int} (h:a4j s i):(0≤(it3 s i).1∧(it3 s i).1<256)∧(i≤(it3 s i).2.1∧(it3 s i).2.1≤s.size)∧((it3 s i).2.2=true→i<(it3 s i).2.1∧i<s.size):=by
 obtain ⟨h0,h1,h2⟩:=h
 unfold it3
 cases g1:(bif decide (i≥(s.size:Int)) then true else A9 s i.toNat==93) with
 | true=>simp only[cond_true];refine ⟨by omega,by omega,fun h=>by cases h⟩
 | false =>
  have hlt:=(a3u g1).1
  simp only[decide_eq_false_iff_not] at hlt
  simp only[cond_false]
  cases g2:(A9 s i.toNat !=92) with
  | true=>simp only[cond_true];exact ⟨n7 _ _,by omega,fun _=>by omega⟩
  | false =>
   simp only[cond_false]
   cases g3:decide (i+1≥(s.size:Int)) with
   | true=>simp only[cond_true];refine ⟨by omega,by omega,fun h=>by cases h⟩
   | false =>
    simp only[decide_eq_false_iff_not] at g3
    simp only[cond_false]
    exact ⟨e4c (n7 _ _),by omega,fun _=>by omega⟩
theorem g7f:OkS (CnB b2h) 0 (.loop e3q) e5b:=by
 refine D0 fun N vals bs K h=>?_
 simp only[e5b] at h
 split at h
 case h_2=>exact h.elim
 rename_i s inv st nx hi c
 obtain ⟨⟨rfl,h0,h1,h2,h3⟩,h⟩:=h
 have main:∀(k:Nat) (c:Int),0≤c→c≤256→c+k=256→J2 (CnB b2h) 0 e3q 114 [0,2,6,9,10,12,14,15] [[5000],[5001]] [0,2,6,9,10,12] [[5000],[5001]] [C6 s,A6 inv, .ptr [5000] 0, .ptr [5001] 0,A3 st,A3 nx, .d (u8D hi),A3 c] [nB,nB] K:=by
  intro k
  induction k with
  | zero =>
   intro c c0 c1 hc
   refine B5 (k9 B9 d8o N3 a4g) C0 A8 (hn:=B1) (adsI:=[]) (nsI:=z8) (nsX:=z8) rfl rfl (keep (g5m s inv st nx hi c _) ?_)
   have e1:decide (c≤IntKind.i64.wrap hi)=false:=by rw[wr (by omega) (by omega)];simp;omega
   rw[e1]
   exact ⟨(by trivial),h⟩
  | succ k ih =>
   intro c c0 c1 hc
   refine B5 (k9 B9 d8o N3 a4g) C0 A8 (hn:=B1) (adsI:=[]) (nsI:=z8) (nsX:=z8) rfl rfl (keep (g5m s inv st nx hi c _) ?_)
   rw[wr (x:=hi) (by omega) (by omega),wr (x:=c+1) (by omega) (by omega)]
   refine A5 (fun g=>?_) (fun g=>⟨(by trivial),h⟩)
   exact ⟨⟨by omega,by omega⟩,by omega,(by trivial),ih (c+1) (by omega) (by omega) (by omega)⟩
 exact main (256-c).toNat c h0 (by omega) (by omega)
theorem d2m {s:ByteArray} {i:Int} (h:a4j s i):(0≤(brT s i).1∧(brT s i).1<256)∧(i≤(brT s i).2.1∧(brT s i).2.1≤s.size)∧((brT s i).2.2=true→i<(brT s i).2.1):=by
 have h1:=b9n h
 unfold brT
 cases hr:rgQ s i with
 | false=>simp only[cond_false];exact ⟨h1.1,h1.2.1,fun g=>(h1.2.2 g).1⟩
 | true =>
  simp only[cond_true]
  unfold rgQ at hr
  have a1:=(Y7 (Y7 (Y7 hr).1).1)
  have a2:(it3 s i).2.1+1<(s.size:Int):=by simpa using a1.2
  obtain ⟨p0,p1,p2⟩:=h
  have h2:=b9n (s:=s) (i:=(it3 s i).2.1+1) ⟨by omega,by omega,p2⟩
  exact ⟨h2.1,by omega,fun g=>by have:=h2.2.2 g;omega⟩
theorem g7d : OkS (CnB b2h) 0 (.loop c6y) e4z := by
  refine D0 fun N vals bs K h => ?_
  simp only [e4z] at h
  split at h
  case h_2 => exact h.elim
  rename_i s i inv st
  obtain ⟨⟨rfl, rfl, hp⟩, h⟩ := h
  have hok : s6 (CnB b2h) 0 (spL [(22, e5b)]) (K3 true c6y) := B7 (c := .loop e3q) (by kernel_rfl) g7f C8
  have main : ∀ (n : Nat) (j : Int), a4j s j → s.size - j < n →
      (bif (brL s n j).1 then K (.exit 0) [C6 s, A3 (brL s n j).2, A6 inv, .ptr [5000] 0, .any, .any, .ptr [5001] 0, A3 i] [nB, nB]
       else K .ret [C6 s, A3 (brL s n j).2, A6 inv, .ptr [5000] 0, A3 (brL s n j).2, A6 false, .ptr [5001] 0, A3 i] [nB, nB]) →
      J2 (CnB b2h) 0 c6y 114 [0,1,2,6,9,10] [[5000],[5001]] [0,1,2,6,7,8,9,10] [[5000],[5001]] [C6 s, A3 j, A6 inv, .ptr [5000] 0, .ptr [5001] 0, A3 i] [nB, nB] K := by
    intro n
    induction n with
    | zero => intro j hj hn; obtain ⟨_, _, _⟩ := hj; omega
    | succ n ih =>
      intro j hj hn h
      have hj' := hj
      obtain ⟨j0, j1, j2⟩ := hj'
      have p1 := b9n hj
      have p2 := d2m hj
      refine B5 (k9 B9 d8o N3 a4g) C0 hok (hn := B1) (adsI := []) (nsI := z8) (nsX := z8) rfl rfl (keep (h9e s inv i j _) ?_)
      have hw1 : IntKind.i64.wrap ((it3 s j).2.1 + 1) = (it3 s j).2.1 + 1 := wr (by omega) (by omega)
      have hw2 : IntKind.i64.wrap (it3 s j).1 = (it3 s j).1 := wr (by omega) (by omega)
      rw [hw1, hw2]
      unfold brL at h
      refine ⟨fun g => ?_, A5 (fun g => ?_) (fun g => ?_)⟩
      · simp only [Bool.and_true, decide_eq_true_eq] at g; omega
      · rw [g] at h
        simp only [cond_true] at h
        have glt := (Y7 g).1
        simp only [decide_eq_true_eq] at glt
        refine ⟨hj, fun g2 => ?_, fun g2 => ?_, ?_⟩
        · simp only [Bool.and_true] at g2
          have := (Y7 g2).2
          simp only [decide_eq_true_eq] at this
          omega
        · simp only [Bool.and_true] at g2
          have := (Y7 (Y7 g2).1).2
          simp only [decide_eq_true_eq] at this
          omega
        · show (bif rgQ s j then _ else _)
          have fin : b2f s j = false → (brT s j).2.2 = true ∧ ¬ (brT s j).1 < (it3 s j).1 := fun hb => by
            have := a3u hb
            simpa using this
          cases hr : rgQ s j with
          | true =>
            have hT : brT s j = it3 s ((it3 s j).2.1 + 1) := by unfold brT; rw [hr]; rfl
            have hps : a4j s ((it3 s j).2.1 + 1) := by
              unfold rgQ at hr
              have := (Y7 (Y7 (Y7 hr).1).1).2
              simp only [decide_eq_true_eq] at this
              exact ⟨by omega, by omega, j2⟩
            have hB : b2f s j = (bif !(it3 s ((it3 s j).2.1 + 1)).2.2 then true else decide ((it3 s ((it3 s j).2.1 + 1)).1 < (it3 s j).1)) := by unfold b2f; rw [hT]
            simp only [cond_true]
            refine ⟨hps, ?_⟩
            rw [← hB]
            rw [hT] at fin h p2
            refine A5 (fun g3 => ?_) (fun g3 => ?_)
            · rw [g3] at h; exact ⟨(by trivial), h⟩
            · rw [g3] at h
              exact ⟨⟨(by trivial), p1.1.1, p1.1.2, p2.1.1, p2.1.2⟩, (by trivial), ih _ ⟨by omega, by omega, j2⟩ (by have := p2.2.2 (fin g3).1; omega) h⟩
          | false =>
            have hT : brT s j = it3 s j := by unfold brT; rw [hr]; rfl
            have hB : b2f s j = (bif !(it3 s j).2.2 then true else decide ((it3 s j).1 < (it3 s j).1)) := by unfold b2f; rw [hT]
            simp only [cond_false]
            rw [← hB]
            rw [hT] at fin h p2
            refine A5 (fun g3 => ?_) (fun g3 => ?_)
            · rw [g3] at h; exact ⟨(by trivial), h⟩
            · rw [g3] at h
              exact ⟨⟨(by trivial), p1.1.1, p1.1.2, p2.1.1, p2.1.2⟩, (by trivial), ih _ ⟨by omega, by omega, j2⟩ (by have := p2.2.2 (fin g3).1; omega) h⟩
      · rw [g] at h
        exact ⟨(by trivial), h⟩
  exact main 201 i hp (by obtain ⟨_, _, _⟩ := hp; omega) h
theorem g7e:OkS (CnB b2h) 0 (.loop e3p) e5a:=by
 refine D0 fun N vals bs K h=>?_
 simp only[e5a] at h
 split at h
 case h_2=>exact h.elim
 rename_i i inv m
 obtain ⟨⟨rfl,rfl⟩,h⟩:=h
 have main:∀k j:Nat,j+k=256→J2 (CnB b2h) 0 e3p 114 [1,2,6,9,16] [[5000],[5001]] [1,6,9] [[5000],[5001]] [A3 i,A6 inv, .ptr [5000] 0, .ptr [5001] 0,A3 j] [nB,nB] K:=by
  intro k
  induction k with
  | zero =>
   intro j hj
   refine B5 (k9 B9 d8o N3 a4g) C0 A8 (hn:=B1) (adsI:=[]) (nsI:=z8) (nsX:=z8) rfl rfl (keep (g5k inv i j _) ?_)
   have e1:decide ((j:Int)<256)=false:=by simp;omega
   rw[e1]
   exact ⟨(by trivial),h⟩
  | succ k ih =>
   intro j hj
   refine B5 (k9 B9 d8o N3 a4g) C0 A8 (hn:=B1) (adsI:=[]) (nsI:=z8) (nsX:=z8) rfl rfl (keep (g5k inv i j _) ?_)
   have e1:decide ((j:Int)<256)=true:=by simp;omega
   have e2:IntKind.i64.wrap ((j:Int)+1)=((j+1:Nat):Int):=by rw[Go.IntWalk.i64_in _ (by omega)];omega
   rw[e1]
   simp only[e2,cond_true]
   exact ⟨⟨by omega,by omega⟩,⟨by omega,by omega⟩,⟨by omega,by omega⟩,by omega,(by trivial),ih (j+1) (by omega)⟩
 exact main 256 0 (by omega)
theorem d2n {s:ByteArray}:∀{n:Nat} {i:Int},a4j s i→i≤(brL s n i).2∧(brL s n i).2≤s.size
 | 0,i,h=>by obtain ⟨_,_,_⟩:=h;unfold brL;simp only[];omega
 | n+1,i,h=>by
  have p2:=d2m h
  unfold brL
  cases (bif decide (i<(s.size:Int)) then A9 s i.toNat !=93 else false) with
  | false=>obtain ⟨_,_,_⟩:=h;simp only[cond_false];omega
  | true =>
   simp only[cond_true]
   cases b2f s i with
   | true=>obtain ⟨_,_,_⟩:=h;simp only[cond_true];omega
   | false =>
    simp only[cond_false]
    have:=d2n (s:=s) (n:=n) (i:=(brT s i).2.1) ⟨by have:=h.1;omega,p2.2.1.2,h.2.2⟩
    omega
theorem i8d:C3 B h2n:=by
 refine Y8 d8o fun ds r hp hr=>?_
 unfold h7m at hp hr
 simp only[] at hr hp
 split at hr
 ·rename_i s i inv
  cases hr
  have hpp:a4j s i:=hp
  obtain ⟨h0,h1,h2⟩:=hpp
  have hps:=d2n (n:=201) hp
  refine a4c B9 d8o N3 a4g (fn:=Tryz.f236) (cd:=A7 Tryz.f236) (sp:=spL [(6,e4z),(36,e5a)]) (hn:=B1) Tryz.func236 (by kernel_rfl) (by kernel_rfl) (B7 (c:=.loop c6y) (by kernel_rfl) g7d (B7 (c:=.loop e3p) (by kernel_rfl) g7e C8)) (keep (i3p s i inv fun v=>v=_) ?_)
  rw[wr (x:=(brL s 201 i).2+1) (by omega) (by omega)]
  unfold brQ
  refine ⟨⟨(by trivial),(by trivial),hp⟩,A5 (fun g=>?_) (fun g=>?_)⟩
  ·simp only[g,cond_true]
   refine A5 (fun g=>?_) (fun g=>?_)
   ·simp only[g,cond_true]
   ·simp only[g,cond_false];exact ⟨⟨(by trivial),(by trivial)⟩,(by trivial)⟩
  ·simp only[g,cond_false]
 ·cases hr
def a4p (s:ByteArray) (k:Nat):Bool:=bif decide ((k:Int)<(s.size:Int)) then (bif (bif A9 s k==42 then true else A9 s k==43) then true else A9 s k==63) else false
mutual
noncomputable def E7 (s:ByteArray) (i:Nat):Bool×Nat :=
 if h:i<s.size then
  (bif !a9g (A9 s i) then (true,i+1) else
  bif A9 s i==46 then (true,i+1) else
  bif (bif A9 s i==92 then decide ((i:Int)+1<(s.size:Int)) else false) then (e7o (A9 s (i+1)),i+2) else
  bif (bif (bif A9 s i==91 then decide ((i:Int)+1<(s.size:Int)) else false) then A9 s (i+1)==94 else false) then ((brQ s ((i:Int)+2)).1,(brQ s ((i:Int)+2)).2.toNat) else
  bif A9 s i==91 then ((brQ s ((i:Int)+1)).1,(brQ s ((i:Int)+1)).2.toNat) else
  bif A9 s i !=40 then (false,i) else
  bif (bif (bif !(H5 s (i+1)).1 then true else decide (((H5 s (i+1)).2:Int)≥(s.size:Int))) then true else A9 s (H5 s (i+1)).2 !=41) then (false,i) else (true,(H5 s (i+1)).2+1))
 else (false,i)
termination_by (s.size-i)*2
noncomputable def H5 (s : ByteArray) (i : Nat) : Bool × Nat :=
 if h : i < s.size then
  (if A9 s i = 41 then (true, i)
  else if A9 s i = 124 then H5 s (i + 1)
  else if (E7 s i).1 then
   (if h2 : i < (E7 s i).2 then
    (if a4p s (E7 s i).2 then (if a4p s ((E7 s i).2 + 1) then (false, (E7 s i).2 + 1) else H5 s ((E7 s i).2 + 1)) else H5 s (E7 s i).2)
   else (false, i))
  else (false, i))
 else (true, i)
termination_by (s.size - i) * 2 + 1
end
noncomputable def h7q:Ct:=⟨fun | [.lit (.string s), .lit (.int .i64 i)]=>a4j s i∧i<s.size|_=>False,fun | [.lit (.string s), .lit (.int .i64 i)]=>some (.tup [.agg Q1, .lit (.int .i64 (E7 s i.toNat).2), .lit (.bool (E7 s i.toNat).1)])|_=>none⟩
noncomputable def h7u:Ct:=⟨fun | [.lit (.string s), .lit (.int .i64 i)]=>a4j s i|_=>False,fun | [.lit (.string s), .lit (.int .i64 i)]=>some (.tup [.agg Q1, .lit (.int .i64 (H5 s i.toNat).2), .lit (.bool (H5 s i.toNat).1)])|_=>none⟩
noncomputable def f8h:List (FuncId×Ct):=[(216,h7q),(193,h7u)]
def muQ (K:FuncId) (ds:List D):Nat:=match ds with
 | [.lit (.string s), .lit (.int _ i)]=>(s.size-i.toNat)*2+(bif K==216 then 0 else 1)
 | _=>0
noncomputable def UQ (n:Nat):Tab:=h2n.addG (c5e f8h muQ n)
noncomputable def f7k:Code:=D7 (C5 (A7 Tryz.f216) 14)
theorem h9g (n:Nat) (i:Int) (k:Int) (R:X→List V→List Box→Prop):(E1 (CnB (UQ n)) (UQ n) (H7 a6s) 0 B8 B1 f7k 122 [1,4,8,9] [[5000], [5001]] [] z8 [1,4,8] z8
 [A3 i,V.ptr [5000] 0,V.ptr [5001] 0,A3 k] [nB,nB] R) =
 (bif decide (k<256) then
 ((((0:Int)≤k)∧k.toNat<256)∧
 (1+k.toNat*1<259∧
 (122=122∧
 R X.normal
 [A3 i,V.ptr [5000] 0,V.ptr [5001] 0,
 A3 (IntKind.i64.wrap (k+1))]
 [Box.blob 176 259 1 257,Box.blob 176 259 1 257]))) else
 (122=122∧
 R (X.exit 0) [A3 i,V.ptr [5000] 0,V.ptr [5001] 0]
 [Box.blob 176 259 1 257,Box.blob 176 259 1 257])):=by kernel_rfl
def g3x:Ev.Spec:={L:=[1,4,8,9],ns:=[([5000],[6]),([5001],[10])],L':=[1,4,8],nm':=[[5000],[5001]],G:=fun N vals bs k=>match vals,bs with
 | [.d (.lit (.int .i64 i)), .ptr [5000] 0, .ptr [5001] 0, .d (.lit (.int .i64 m))], [.blob 176 259 1 257, .blob 176 259 1 257]=>(N=122∧m=0)∧k (.exit 0) [A3 i, .ptr [5000] 0, .ptr [5001] 0] [nB,nB]
 | _,_=>False }
theorem i3x (n : Nat) (s : ByteArray) (i : Int) (p : V → Prop) : (B6 (CnB (UQ n)) (UQ n) (H7 a6s) 0 (spL [(14, g3x)]) B1 216 [V.d (sD s), V.d (ntD i)] B3.empty fun v H =>
  p (B4 H v)) =
  ((((0 : Int) ≤ i) ∧ i.toNat < s.size) ∧
  (True ∧
  (bif !a9g (A9 s i.toNat) then
   ((((0 : Int) ≤ A9 s i.toNat) ∧ ((A9 s i.toNat : Int) < 256)) ∧
   p
  (V.d
    (D.tup
      [D.agg
          Q1,
        iD (IntKind.i64.wrap (i + 1)), oD true]))) else
   (bif A9 s i.toNat == 46 then
    ((122 = 122 ∧ ((0 : Int) = 0)) ∧
    p
  (V.d
    (D.tup
      [D.agg
          Q1,
        iD (IntKind.i64.wrap (i + 1)), oD true]))) else
    (bif bif A9 s i.toNat == 92 then decide (IntKind.i64.wrap (i + 1) < (↑s.size : Int)) else false then
     ((((0 : Int) ≤ IntKind.i64.wrap (i + 1)) ∧ (IntKind.i64.wrap (i + 1)).toNat < s.size) ∧
     ((((0 : Int) ≤ A9 s (IntKind.i64.wrap (i + 1)).toNat) ∧ ((A9 s (IntKind.i64.wrap (i + 1)).toNat : Int) < 256)) ∧
     p
  (V.d
    (D.tup
      [D.agg
          Q1,
        iD (IntKind.i64.wrap (i + 2)),
        oD (e7o (A9 s (IntKind.i64.wrap (i + 1)).toNat))])))) else
     ((((bif A9 s i.toNat == 91 then decide (IntKind.i64.wrap (i + 1) < (↑s.size : Int)) else false) && true) = true → (((0 : Int) ≤ IntKind.i64.wrap (i + 1)) ∧ (IntKind.i64.wrap (i + 1)).toNat < s.size)) ∧
     (bif bif bif A9 s i.toNat == 91 then decide (IntKind.i64.wrap (i + 1) < (↑s.size : Int)) else false then
  A9 s (IntKind.i64.wrap (i + 1)).toNat == 94
else false then
      ((((0 : Int) ≤ IntKind.i64.wrap (i + 2)) ∧ (((IntKind.i64.wrap (i + 2) : Int) ≤ (↑s.size : Int)) ∧ s.size ≤ 200)) ∧
      p
  (V.d
    (D.tup
      [D.agg
          Q1,
        iD ((brQ s (IntKind.i64.wrap (i + 2))).snd),
        oD ((brQ s (IntKind.i64.wrap (i + 2))).fst)]))) else
      (bif A9 s i.toNat == 91 then
       ((((0 : Int) ≤ IntKind.i64.wrap (i + 1)) ∧ (((IntKind.i64.wrap (i + 1) : Int) ≤ (↑s.size : Int)) ∧ s.size ≤ 200)) ∧
       p
  (V.d
    (D.tup
      [D.agg
          Q1,
        iD ((brQ s (IntKind.i64.wrap (i + 1))).snd),
        oD ((brQ s (IntKind.i64.wrap (i + 1))).fst)]))) else
       (bif A9 s i.toNat != 40 then
        p
  (V.d
    (D.tup
      [D.agg
          Q1,
        iD i, oD false])) else
        (((((0 : Int) ≤ IntKind.i64.wrap (i + 1)) ∧ (((IntKind.i64.wrap (i + 1) : Int) ≤ (↑s.size : Int)) ∧ s.size ≤ 200)) ∧ muQ 193 [zD s, iD (IntKind.i64.wrap (i + 1))] < n) ∧
        ((((!bif !(H5 s (IntKind.i64.wrap (i + 1)).toNat).fst then true
      else decide ((↑(H5 s (IntKind.i64.wrap (i + 1)).toNat).snd : Int) ≥ (↑s.size : Int))) &&
    true) =
  true → (((0 : Int) ≤ (↑(H5 s (IntKind.i64.wrap (i + 1)).toNat).snd : Int)) ∧ (↑(H5 s (IntKind.i64.wrap (i + 1)).toNat).snd : Int).toNat < s.size)) ∧
        (bif bif
    bif !(H5 s (IntKind.i64.wrap (i + 1)).toNat).fst then true
    else decide ((↑(H5 s (IntKind.i64.wrap (i + 1)).toNat).snd : Int) ≥ (↑s.size : Int)) then
  true
else A9 s (↑(H5 s (IntKind.i64.wrap (i + 1)).toNat).snd : Int).toNat != 41 then
         p
  (V.d
    (D.tup
      [D.agg
          Q1,
        iD i, oD false])) else
         p
  (V.d
    (D.tup
      [D.agg
          Q1,
        iD (IntKind.i64.wrap ((↑(H5 s (IntKind.i64.wrap (i + 1)).toNat).snd : Int) + 1)),
        oD true])))))))))))))) := by kernel_rfl
abbrev U8 (k:Int) (r:V):List V:=A3 k::(List.replicate 256 (A6 false)++ [A6 false,r])
abbrev h5w (k:Int) (r:D):List D:=.lit (.int .i64 k)::(List.replicate 256 (.lit (.bool false))++ [.lit (.bool false),r])
abbrev h5x:V:=.d (.slice true 0 [])
abbrev nm5:List (B2×B2):=[([5000],[5000]),([5001],[5001]),([5002],[5002]),([5003],[5003]),([5004],[5004])]
abbrev f7b:List B2:=[[5000],[5001],[5002],[5003],[5004]]
abbrev f5x (nl:Bool) (xs:List D):Box:=.arr true nl 176 259 xs []
abbrev bx5 (n1 n2:Bool) (xs ys:List D):List Box:=[.cells 176 (U8 0 h5x), .cells 176 (U8 3 (.ref [5003])), .cells 176 (U8 2 (.ref [5004])),f5x n1 xs,f5x n2 ys]
abbrev h8u (n1 n2:Bool) (xs ys:List D):List Box:=[nB, .cells 176 (U8 3 (.ref [5003])), .cells 176 (U8 2 (.ref [5004])),f5x n1 xs,f5x n2 ys]
noncomputable def f7q:Code:=D7 (C5 (A7 Tryz.f193) 6)
def f2v:Nat→Option j5:=fun id=>match id with
 | 7=>some {ads:=[.cell [5002] 258 176 259 [6000]],cut:=[([0,1,4,7,8], [([5000],[5000]),([5001],[5001]),([5002],[5002]),([5003],[34]),([5004],[6000])])] }
 | 17=>some {cut:=[([0,1,4,7,8], [([5000],[5000]),([5001],[5001]),([5002],[5002]),([5003],[5003]),([5004],[108])])] }
 | 10=>some {ads:=[.blob [5000] 1 257] }
 | 16=>some {ads:=[.blob [5000] 1 257] }
 | 19=>some {ads:=[.blob [5000] 1 257] }
 | _=>none
def f7a (_:TypeId):Option (Nat×Nat):=none
noncomputable def CnP (tb:Tab):Cx:=(B.blobs f7a).tab tb
theorem h9m (n : Nat) (s : ByteArray) (i : Int) (n1 : Bool) (n2 : Bool) (xs : List D) (ys : List D) (R : X → List V → List Box → Prop) : (E1 (CnP (UQ n)) (UQ n) (H7 a6s) 0 B8 f2v f7q 116 [0, 1, 4, 7, 8] f7b [] nm5 [1, 4, 5, 6, 7, 8] nm5
  [C6 s, A3 i, V.ptr [5000] 0, V.ptr [5001] 0, V.ptr [5002] 0] (bx5 n1 n2 xs ys) R) =
  (((decide (i < (↑s.size : Int)) && true) = true → (((0 : Int) ≤ i) ∧ i.toNat < s.size)) ∧
  (bif bif decide (i < (↑s.size : Int)) then A9 s i.toNat != 41 else false then
   ((((0 : Int) ≤ i) ∧ i.toNat < s.size) ∧
   (bif A9 s i.toNat == 124 then
    (bif ((xs.length + 1) * 296).ble 70368744177664 then
     (116 = 116 ∧
     R X.normal
  [C6 s, A3 (IntKind.i64.wrap (i + 1)), V.ptr [5000] 0,
    V.ptr [5001] 0, V.ptr [5002] 0]
  [Box.cells 176
      (U8 0 (V.d (D.slice true 0 []))),
    Box.cells 176
      (U8 3 (V.ref [5003])),
    Box.cells 176
      (U8 2 (V.ref [5004])),
    Box.arr true (n1 && false) 176 259
      (xs ++
        [D.agg
            (h5w 2 (D.slice n2 259 ys))])
      [],
    Box.arr true true 176 259 [] []]) else
     False) else
    (((a4j s i ∧ ((i : Int) < (↑s.size : Int))) ∧ muQ 216 [zD s, iD i] < n) ∧
    (bif !(E7 s i.toNat).fst then
     (116 = 116 ∧
     R X.ret
  [A3 i, V.ptr [5000] 0, A3 i,
    A6 false, V.ptr [5001] 0, V.ptr [5002] 0]
  [Box.blob 176 259 1 257,
    Box.cells 176
      (U8 3 (V.ref [5003])),
    Box.cells 176
      (U8 2 (V.ref [5004])),
    Box.arr true n1 176 259 xs [], Box.arr true n2 176 259 ys []]) else
     (((decide ((↑(E7 s i.toNat).snd : Int) < (↑s.size : Int)) && true) = true → (((0 : Int) ≤ (↑(E7 s i.toNat).snd : Int)) ∧ (↑(E7 s i.toNat).snd : Int).toNat < s.size)) ∧
     (((!A9 s (↑(E7 s i.toNat).snd : Int).toNat == 42 &&
    (decide ((↑(E7 s i.toNat).snd : Int) < (↑s.size : Int)) && true)) =
  true → (((0 : Int) ≤ (↑(E7 s i.toNat).snd : Int)) ∧ (↑(E7 s i.toNat).snd : Int).toNat < s.size)) ∧
     ((((!bif A9 s (↑(E7 s i.toNat).snd : Int).toNat == 42 then true
      else A9 s (↑(E7 s i.toNat).snd : Int).toNat == 43) &&
    (decide ((↑(E7 s i.toNat).snd : Int) < (↑s.size : Int)) && true)) =
  true → (((0 : Int) ≤ (↑(E7 s i.toNat).snd : Int)) ∧ (↑(E7 s i.toNat).snd : Int).toNat < s.size)) ∧
     (bif bif decide ((↑(E7 s i.toNat).snd : Int) < (↑s.size : Int)) then
  bif
      bif A9 s (↑(E7 s i.toNat).snd : Int).toNat == 42 then true
      else A9 s (↑(E7 s i.toNat).snd : Int).toNat == 43 then
    true
  else A9 s (↑(E7 s i.toNat).snd : Int).toNat == 63
else false then
      ((((0 : Int) ≤ (↑(E7 s i.toNat).snd : Int)) ∧ (↑(E7 s i.toNat).snd : Int).toNat < s.size) ∧
      (D.agg
    Q1 =
  D.agg
    Q1 ∧
      (((decide (IntKind.i64.wrap ((↑(E7 s i.toNat).snd : Int) + 1) < (↑s.size : Int)) && true) = true → (((0 : Int) ≤ IntKind.i64.wrap ((↑(E7 s i.toNat).snd : Int) + 1)) ∧ (IntKind.i64.wrap ((↑(E7 s i.toNat).snd : Int) + 1)).toNat < s.size)) ∧
      (((!A9 s (IntKind.i64.wrap ((↑(E7 s i.toNat).snd : Int) + 1)).toNat == 42 &&
    (decide (IntKind.i64.wrap ((↑(E7 s i.toNat).snd : Int) + 1) < (↑s.size : Int)) && true)) =
  true → (((0 : Int) ≤ IntKind.i64.wrap ((↑(E7 s i.toNat).snd : Int) + 1)) ∧ (IntKind.i64.wrap ((↑(E7 s i.toNat).snd : Int) + 1)).toNat < s.size)) ∧
      ((((!bif A9 s (IntKind.i64.wrap ((↑(E7 s i.toNat).snd : Int) + 1)).toNat == 42 then true
      else A9 s (IntKind.i64.wrap ((↑(E7 s i.toNat).snd : Int) + 1)).toNat == 43) &&
    (decide (IntKind.i64.wrap ((↑(E7 s i.toNat).snd : Int) + 1) < (↑s.size : Int)) && true)) =
  true → (((0 : Int) ≤ IntKind.i64.wrap ((↑(E7 s i.toNat).snd : Int) + 1)) ∧ (IntKind.i64.wrap ((↑(E7 s i.toNat).snd : Int) + 1)).toNat < s.size)) ∧
      (bif bif decide (IntKind.i64.wrap ((↑(E7 s i.toNat).snd : Int) + 1) < (↑s.size : Int)) then
  bif
      bif A9 s (IntKind.i64.wrap ((↑(E7 s i.toNat).snd : Int) + 1)).toNat == 42 then true
      else A9 s (IntKind.i64.wrap ((↑(E7 s i.toNat).snd : Int) + 1)).toNat == 43 then
    true
  else A9 s (IntKind.i64.wrap ((↑(E7 s i.toNat).snd : Int) + 1)).toNat == 63
else false then
       (116 = 116 ∧
       R X.ret
  [A3 (IntKind.i64.wrap ((↑(E7 s i.toNat).snd : Int) + 1)), V.ptr [5000] 0,
    A3 (IntKind.i64.wrap ((↑(E7 s i.toNat).snd : Int) + 1)),
    A6 false, V.ptr [5001] 0, V.ptr [5002] 0]
  [Box.blob 176 259 1 257,
    Box.cells 176
      (U8 3 (V.ref [5003])),
    Box.cells 176
      (U8 2 (V.ref [5004])),
    Box.arr true n1 176 259 xs [], Box.arr true n2 176 259 ys []]) else
       (bif ((ys.length + 1) * 296).ble 70368744177664 then
        (116 = 116 ∧
        R X.normal
  [C6 s,
    A3 (IntKind.i64.wrap ((↑(E7 s i.toNat).snd : Int) + 1)), V.ptr [5000] 0,
    V.ptr [5001] 0, V.ptr [5002] 0]
  [Box.cells 176
      (U8 0 (V.d (D.slice true 0 []))),
    Box.cells 176
      (U8 3 (V.ref [5003])),
    Box.cells 176
      (U8 2 (V.ref [5004])),
    Box.arr true n1 176 259 xs [],
    Box.arr true (n2 && false) 176 259
      (ys ++
        [D.agg
            Q1])
      []]) else
        False))))))) else
      (bif ((ys.length + 1) * 296).ble 70368744177664 then
       (116 = 116 ∧
       R X.normal
  [C6 s, A3 (↑(E7 s i.toNat).snd : Int), V.ptr [5000] 0,
    V.ptr [5001] 0, V.ptr [5002] 0]
  [Box.cells 176
      (U8 0 (V.d (D.slice true 0 []))),
    Box.cells 176
      (U8 3 (V.ref [5003])),
    Box.cells 176
      (U8 2 (V.ref [5004])),
    Box.arr true n1 176 259 xs [],
    Box.arr true (n2 && false) 176 259
      (ys ++
        [D.agg
            Q1])
      []]) else
       False))))))))) else
   (116 = 116 ∧
   R (X.exit 0) [A3 i, V.ptr [5000] 0, V.any, V.any, V.ptr [5001] 0, V.ptr [5002] 0]
  [Box.cells 176
      (U8 0 (V.d (D.slice true 0 []))),
    Box.cells 176
      (U8 3 (V.ref [5003])),
    Box.cells 176
      (U8 2 (V.ref [5004])),
    Box.arr true n1 176 259 xs [], Box.arr true n2 176 259 ys []]))) := by kernel_rfl
noncomputable def g4c (n:Nat):Ev.Spec:={L:=[0,1,4,7,8],ns:=[([5000],[6]),([5001],[9]),([5002],[10]),([5003],[6003]),([5004],[6004])],ads:=[.cell [9] 258 176 259 [6003], .cell [10] 258 176 259 [6004]],L':=[1,4,5,6,7,8],nm':=f7b,G:=fun N vals bs k=>match vals,bs with
 | [.d (.lit (.string s)), .d (.lit (.int .i64 i)), .ptr [5000] 0, .ptr [5001] 0, .ptr [5002] 0], [.cells 176 c0, .cells 176 c1, .cells 176 c2, .arr true n1 176 259 [] [], .arr true n2 176 259 [] []]=>(N=116∧a4j s i∧(s.size-i.toNat)*2+1≤n∧c0=U8 0 h5x∧c1=U8 3 (.ref [5003])∧c2=U8 2 (.ref [5004]))∧
  ∀(n1 n2:Bool) (xs ys:List D),xs.length≤200→ys.length≤200→(bif (H5 s i.toNat).1 then k (.exit 0) [A3 (H5 s i.toNat).2, .ptr [5000] 0, .any, .any, .ptr [5001] 0, .ptr [5002] 0] (bx5 n1 n2 xs ys)
   else k .ret [A3 (H5 s i.toNat).2, .ptr [5000] 0,A3 (H5 s i.toNat).2,A6 false, .ptr [5001] 0, .ptr [5002] 0] (h8u n1 n2 xs ys))
 | _,_=>False }
theorem i4g (n:Nat) (s:ByteArray) (i:Int) (p:V→Prop):(B6 (CnP (UQ n)) (UQ n) (H7 a6s) 0 (spL [(6,g4c n)]) f2v 193 [V.d (sD s),V.d (ntD i)] B3.empty fun v H =>
 p (B4 H v)) =
 ((116=116∧(a4j s i∧((s.size-i.toNat)*2+1≤n∧((U8 0 (V.d (D.slice true 0 []))) =
 (U8 0 (V.d (D.slice true 0 [])))∧((U8 3 (V.ref [5003])) =
 (U8 3 (V.ref [5003]))∧(U8 2 (V.ref [5004])) =
 (U8 2 (V.ref [5004])))))))∧
 (∀z0:Bool,(∀z1:Bool,(∀z2:List D,(∀z3:List D,(z2.length≤200→(z3.length≤200→(bif (H5 s i.toNat).fst then
 (bif ((z2.length+1)*296).ble 70368744177664 then
 p
 (V.d
 (D.tup
 [D.agg
 Q1,
 iD (↑(H5 s i.toNat).snd:Int),oD true])) else
 False) else
 p
 (V.d
 (D.tup
 [D.agg
 Q1,
 iD (↑(H5 s i.toNat).snd:Int),oD false])))))))))):=by kernel_rfl
noncomputable def TQ:Tab:=h2n.addG f8h
noncomputable def rxQ (s:ByteArray):Int:=bif decide ((s.size:Int)>200) then 4 else bif (bif !(H5 s 0).1 then true else ((H5 s 0).2:Int) !=(s.size:Int)) then 3 else 0
theorem i5d (s:ByteArray) (p:V→Prop):(B6 (CnB TQ) TQ (H7 a6s) 0 B8 B1 149 [V.d (sD s)] B3.empty fun v H=>p (B4 H v)) =
 (bif decide ((↑s.size:Int)>200) then
 p
 (V.d
 (D.tup
 [D.agg
 Q1,
 iD 4])) else
 ((((0:Int)≤0)∧(((0:Int)≤(↑s.size:Int))∧s.size≤200))∧
 (bif bif !(H5 s 0).fst then true else (↑(H5 s 0).snd:Int) !=(↑s.size:Int) then
 p
 (V.d
 (D.tup
 [D.agg
 Q1,
 iD 3])) else
 p
 (V.d
 (D.tup
 [D.agg
 Q1,
 iD 0]))))):=by kernel_rfl
noncomputable def h8b:Ct:=⟨fun _=>True,fun | [.lit (.string s)]=>some (.tup [.agg Q1, .lit (.int .i64 (rxQ s))])|_=>none⟩
noncomputable def g2v:Tab:=TQ.add 149 h8b
theorem w80 (s:ByteArray) (p:V→Prop):(B6 (CnB g2v) g2v (H7 a6s) 0 B8 B1 80 [V.d (sD s)] B3.empty fun v H=>p (B4 H v)) =
 (True∧
 p (A3 (rxQ s))):=by kernel_rfl
noncomputable def c80:Ct:=⟨fun _=>True,fun | [.lit (.string s)]=>some (.lit (.int .i64 (rxQ s)))|_=>none⟩
noncomputable def T80:Tab:=g2v.add 80 c80
theorem b9s {s:ByteArray} {i:Int} (h:a4j s i):i≤(brQ s i).2∧(brQ s i).2≤s.size:=by
 have hp:=d2n (n:=201) h
 unfold brQ
 cases (brL s 201 i).1 with
 | false=>simp only[cond_false];exact hp
 | true =>
  simp only[cond_true]
  cases g:(bif decide ((brL s 201 i).2≥(s.size:Int)) then true else (brL s 201 i).2==i) with
  | true=>simp only[cond_true];exact hp
  | false =>
   have:=(a3u g).1
   simp only[decide_eq_false_iff_not] at this
   simp only[cond_false];omega
theorem f4e {a b:Int} (h:(a !=b)=true):a≠b:=by simpa using h
theorem e4s {a b:Int} (h:(a !=b)=false):a=b:=by simpa using h
theorem b2x (s:ByteArray) (h2:s.size≤200):∀(n i:Nat),i≤s.size→s.size-i≤n→
  (i≤(E7 s i).2∧(E7 s i).2≤s.size∧((E7 s i).1=true→i<(E7 s i).2))∧(i≤(H5 s i).2∧(H5 s i).2≤s.size):=by
 intro n
 induction n with
 | zero =>
  intro i hi hn
  have hlt:¬i<s.size:=by omega
  have hA:E7 s i=(false,i):=by unfold E7;rw[dif_neg hlt]
  have hE:H5 s i=(true,i):=by unfold H5;rw[dif_neg hlt]
  rw[hA,hE]
  exact ⟨⟨Nat.le_refl _,hi,fun h=>by cases h⟩,Nat.le_refl _,hi⟩
 | succ n ih =>
  intro i hi hn
  by_cases hlt:i<s.size
  ·have hA:i≤(E7 s i).2∧(E7 s i).2≤s.size∧((E7 s i).1=true→i<(E7 s i).2):=by
    have hc:=(ih (i+1) (by omega) (by omega)).2
    have hb1:=b9s (s:=s) (i:=(i:Int)+1) ⟨by omega,by omega,h2⟩
    unfold E7
    rw[dif_pos hlt]
    cases !a9g (A9 s i) with
    | true=>simp only[cond_true];omega
    | false =>
    simp only[cond_false]
    cases A9 s i==46 with
    | true=>simp only[cond_true];omega
    | false =>
    simp only[cond_false]
    cases g1:(bif A9 s i==92 then decide ((i:Int)+1<(s.size:Int)) else false) with
    | true =>
     have:=(Y7 g1).2
     simp only[decide_eq_true_eq] at this
     simp only[cond_true];omega
    | false =>
    simp only[cond_false]
    cases g2:(bif (bif A9 s i==91 then decide ((i:Int)+1<(s.size:Int)) else false) then A9 s (i+1)==94 else false) with
    | true =>
     have:=(Y7 (Y7 g2).1).2
     simp only[decide_eq_true_eq] at this
     have hb2:=b9s (s:=s) (i:=(i:Int)+2) ⟨by omega,by omega,h2⟩
     simp only[cond_true];omega
    | false =>
    simp only[cond_false]
    cases A9 s i==91 with
    | true=>simp only[cond_true];omega
    | false =>
    simp only[cond_false]
    cases A9 s i !=40 with
    | true=>simp only[cond_true];exact ⟨Nat.le_refl _,hi,fun h=>by cases h⟩
    | false =>
    simp only[cond_false]
    cases g3:(bif (bif !(H5 s (i+1)).1 then true else decide (((H5 s (i+1)).2:Int)≥(s.size:Int))) then true else A9 s (H5 s (i+1)).2 !=41) with
    | true=>simp only[cond_true];exact ⟨Nat.le_refl _,hi,fun h=>by cases h⟩
    | false =>
     have:=(a3u (a3u g3).1).2
     simp only[decide_eq_false_iff_not] at this
     simp only[cond_false];omega
   refine ⟨hA, ?_⟩
   unfold H5
   rw[dif_pos hlt]
   split
   ·exact ⟨Nat.le_refl _,hi⟩
   ·split
    ·have:=(ih (i+1) (by omega) (by omega)).2;omega
    ·split
     ·split
      ·rename_i g
       split
       ·rename_i g1
        have hlt2:(E7 s i).2<s.size:=by
         unfold a4p at g1
         have:=(Y7 g1).1
         simp only[decide_eq_true_eq] at this
         omega
        split
        ·simp only[];omega
        ·have:=(ih ((E7 s i).2+1) (by omega) (by omega)).2;omega
       ·have:=(ih ((E7 s i).2) (by omega) (by omega)).2;omega
      ·exact ⟨Nat.le_refl _,hi⟩
     ·exact ⟨Nat.le_refl _,hi⟩
  ·exact ih i hi (by omega)
theorem h5d {n:Nat} (hk:C3 B (UQ n)):OkS (CnB (UQ n)) 0 (.loop f7k) g3x:=by
 refine D0 fun N vals bs K h=>?_
 simp only[g3x] at h
 split at h
 case h_2=>exact h.elim
 rename_i i m
 obtain ⟨⟨rfl,rfl⟩,h⟩:=h
 have main:∀k j:Nat,j+k=256→J2 (CnB (UQ n)) 0 f7k 122 [1,4,8,9] [[5000],[5001]] [1,4,8] [[5000],[5001]] [A3 i, .ptr [5000] 0, .ptr [5001] 0,A3 j] [nB,nB] K:=by
  intro k
  induction k with
  | zero =>
   intro j hj
   refine B5 (k9 B9 hk N3 a4g) C0 A8 (hn:=B1) (adsI:=[]) (nsI:=z8) (nsX:=z8) rfl rfl (keep (h9g n i j _) ?_)
   have e1:decide ((j:Int)<256)=false:=by simp;omega
   rw[e1]
   exact ⟨(by trivial),h⟩
  | succ k ih =>
   intro j hj
   refine B5 (k9 B9 hk N3 a4g) C0 A8 (hn:=B1) (adsI:=[]) (nsI:=z8) (nsX:=z8) rfl rfl (keep (h9g n i j _) ?_)
   have e1:decide ((j:Int)<256)=true:=by simp;omega
   have e2:IntKind.i64.wrap ((j:Int)+1)=((j+1:Nat):Int):=by rw[Go.IntWalk.i64_in _ (by omega)];omega
   rw[e1]
   simp only[e2,cond_true]
   exact ⟨⟨by omega,by omega⟩,by omega,(by trivial),ih (j+1) (by omega)⟩
 exact main 256 0 (by omega)
theorem b9i {s:ByteArray} {k:Nat} (h:a4p s k=true):k<s.size:=by
 unfold a4p at h
 have:=(Y7 h).1
 simp only[decide_eq_true_eq] at this
 omega
theorem h5i {n : Nat} (hk : C3 B (UQ n)) : OkS (CnP (UQ n)) 0 (.loop f7q) (g4c n) := by
  refine D0 fun N vals bs K h => ?_
  simp only [g4c] at h
  split at h
  case h_2 => exact h.elim
  rename_i s i c0 c1 c2 n1 n2
  obtain ⟨⟨rfl, ⟨h0, h1, h2⟩, hm, rfl, rfl, rfl⟩, h⟩ := h
  obtain ⟨i, rfl⟩ := Int.eq_ofNat_of_zero_le h0
  rw [Int.toNat_natCast] at h hm
  have key : ∀ (k i : Nat) (n1 n2 : Bool) (xs ys : List D), i ≤ s.size → s.size - i ≤ k → (s.size - i) * 2 + 1 ≤ n → xs.length ≤ i → ys.length ≤ i →
      (∀ (n1 n2 : Bool) (xs ys : List D), xs.length ≤ 200 → ys.length ≤ 200 → (bif (H5 s i).1 then K (.exit 0) [A3 (H5 s i).2, .ptr [5000] 0, .any, .any, .ptr [5001] 0, .ptr [5002] 0] (bx5 n1 n2 xs ys)
       else K .ret [A3 (H5 s i).2, .ptr [5000] 0, A3 (H5 s i).2, A6 false, .ptr [5001] 0, .ptr [5002] 0] (h8u n1 n2 xs ys))) →
      J2 (CnP (UQ n)) 0 f7q 116 [0,1,4,7,8] f7b [1,4,5,6,7,8] f7b [C6 s, A3 i, .ptr [5000] 0, .ptr [5001] 0, .ptr [5002] 0] (bx5 n1 n2 xs ys) K := by
    intro k
    induction k with
    | zero =>
      intro i n1 n2 xs ys hi hn hm hx hy h
      have hlt : ¬ i < s.size := by omega
      have hE : H5 s i = (true, i) := by unfold H5; rw [dif_neg hlt]
      rw [hE] at h
      refine B5 (k9 B9 hk N3 f7a) C0 A8 (hn := f2v) (adsI := []) (nsI := nm5) (nsX := nm5) rfl rfl (keep (h9m n s i n1 n2 xs ys _) ?_)
      have e1 : decide ((i : Int) < (s.size : Int)) = false := by simp; omega
      rw [e1]
      simp only [cond_false]
      exact ⟨(fun g => by cases g), (by trivial), h n1 n2 xs ys (by omega) (by omega)⟩
    | succ k ih =>
      intro i n1 n2 xs ys hi hn hm hx hy h
      by_cases hlt : i < s.size
      · have hps := (b2x s h2 (s.size - i) i hi (by omega)).1
        have e1 : decide ((i : Int) < (s.size : Int)) = true := by simp; omega
        have hxr : ((xs.length + 1) * 296).ble 70368744177664 = true := by rw [Nat.ble_eq]; omega
        have hyr : ((ys.length + 1) * 296).ble 70368744177664 = true := by rw [Nat.ble_eq]; omega
        unfold H5 at h
        rw [dif_pos hlt] at h
        refine B5 (k9 B9 hk N3 f7a) C0 A8 (hn := f2v) (adsI := []) (nsI := nm5) (nsX := nm5) rfl rfl (keep (h9m n s i n1 n2 xs ys _) ?_)
        rw [e1, hxr, hyr]
        simp only [cond_true, Int.toNat_natCast]
        refine ⟨fun _ => by omega, A5 (fun g => ?_) (fun g => ?_)⟩
        · have g := f4e g
          rw [if_neg g] at h
          refine ⟨by omega, A5 (fun g1 => ?_) (fun g1 => ?_)⟩
          · have g1 : A9 s i = 124 := by simpa using g1
            rw [if_pos g1] at h
            have e2 : IntKind.i64.wrap ((i : Int) + 1) = ((i + 1 : Nat) : Int) := by rw [Go.IntWalk.i64_in _ (by omega)]; omega
            rw [e2]
            exact ⟨(by trivial), ih (i + 1) _ _ _ _ (by omega) (by omega) (by omega) (by simp; omega) (by simp) h⟩
          · have g1 : ¬ A9 s i = 124 := by simpa using g1
            rw [if_neg g1] at h
            have hA : a4j s ((i : Nat) : Int) := ⟨by omega, by omega, h2⟩
            refine ⟨⟨⟨hA, by omega⟩, by show (s.size - ((i : Nat) : Int).toNat) * 2 + 0 < n; rw [Int.toNat_natCast]; omega⟩, ?_⟩
            cases gA : (E7 s i).1 with
            | false =>
              rw [gA] at h
              simp only [Bool.false_eq_true, if_false] at h
              exact ⟨(by trivial), h n1 n2 xs ys (by omega) (by omega)⟩
            | true =>
              have hj := hps.2.2 gA
              have hj2 := hps.2.1
              rw [gA] at h
              simp only [if_true] at h
              rw [dif_pos hj] at h
              simp only [Bool.not_true, cond_false]
              refine ⟨fun g2 => ?_, fun g2 => ?_, fun g2 => ?_, ?_⟩
              · simp only [Bool.and_true, decide_eq_true_eq] at g2; omega
              · simp only [Bool.and_true, Bool.and_eq_true, decide_eq_true_eq] at g2; omega
              · simp only [Bool.and_true, Bool.and_eq_true, decide_eq_true_eq] at g2; omega
              · have e2 : IntKind.i64.wrap (((E7 s i).2 : Int) + 1) = (((E7 s i).2 + 1 : Nat) : Int) := by rw [Go.IntWalk.i64_in _ (by omega)]; omega
                simp only [e2, Int.toNat_natCast]
                show (bif a4p s (E7 s i).2 then _ else _)
                cases gP : a4p s (E7 s i).2 with
                | true =>
                  have hjlt := b9i gP
                  rw [gP] at h
                  simp only [if_true] at h
                  simp only [cond_true]
                  refine ⟨by omega, (by trivial), fun g2 => ?_, fun g2 => ?_, fun g2 => ?_, ?_⟩
                  · simp only [Bool.and_true, decide_eq_true_eq] at g2; omega
                  · simp only [Bool.and_true, Bool.and_eq_true, decide_eq_true_eq] at g2; omega
                  · simp only [Bool.and_true, Bool.and_eq_true, decide_eq_true_eq] at g2; omega
                  · show (bif a4p s ((E7 s i).2 + 1) then _ else _)
                    cases gP2 : a4p s ((E7 s i).2 + 1) with
                    | true =>
                      rw [gP2] at h
                      simp only [if_true] at h
                      simp only [cond_true]
                      exact ⟨(by trivial), h n1 n2 xs ys (by omega) (by omega)⟩
                    | false =>
                      rw [gP2] at h
                      simp only [Bool.false_eq_true, if_false] at h
                      simp only [cond_false]
                      exact ⟨(by trivial), ih ((E7 s i).2 + 1) _ _ _ _ (by omega) (by omega) (by omega) (by omega) (by simp; omega) h⟩
                | false =>
                  rw [gP] at h
                  simp only [Bool.false_eq_true, if_false] at h
                  simp only [cond_false]
                  exact ⟨(by trivial), ih (E7 s i).2 _ _ _ _ (by omega) (by omega) (by omega) (by omega) (by simp; omega) h⟩
        · have g := e4s g
          rw [if_pos g] at h
          exact ⟨(by trivial), h n1 n2 xs ys (by omega) (by omega)⟩
      · exact ih i n1 n2 xs ys hi (by omega) hm hx hy h
  exact key (s.size - i) i n1 n2 [] [] (by omega) (by omega) hm (by simp) (by simp) h
theorem kQ:C3 B TQ:=by
 refine f3t i8d f8h muQ fun n hk K S hmem ds r hp hm hr=>?_
 simp only[f8h,List.mem_cons,Prod.mk.injEq,List.not_mem_nil,or_false] at hmem
 rcases hmem with ⟨rfl,rfl⟩|⟨rfl,rfl⟩
 ·unfold h7q at hp hr
  simp only[] at hr hp
  split at hr
  ·rename_i s i
   cases hr
   obtain ⟨hps,hlt⟩:=hp
   have hps':=hps
   obtain ⟨h0,h1,h2⟩:=hps'
   obtain ⟨i,rfl⟩:=Int.eq_ofNat_of_zero_le h0
   have hm:(s.size-((i:Nat):Int).toNat)*2+0=n:=hm
   rw[Int.toNat_natCast] at hm
   refine a4c B9 hk N3 a4g (fn:=Tryz.f216) (cd:=A7 Tryz.f216) (sp:=spL [(14,g3x)]) (hn:=B1) Tryz.func216 (by kernel_rfl) (by kernel_rfl) (B7 (c:=.loop f7k) (by kernel_rfl) (h5d hk) C8) (keep (i3x n s i fun v=>v=_) ?_)
   have e1:IntKind.i64.wrap ((i:Int)+1)=(i:Int)+1:=wr (by omega) (by omega)
   have e2:IntKind.i64.wrap ((i:Int)+2)=(i:Int)+2:=wr (by omega) (by omega)
   have e3:((i:Int)+1).toNat=i+1:=by omega
   have hb:=n7 s i
   have hb1:=n7 s (i+1)
   have hlt':i<s.size:=by omega
   have hE:=(b2x s h2 (s.size-(i+1)) (i+1) (by omega) (by omega)).2
   have e4:IntKind.i64.wrap (((H5 s (i+1)).2:Int)+1)=((H5 s (i+1)).2+1:Nat):=by rw[wr (by omega) (by omega)];omega
   have hq1:=b9s (s:=s) (i:=(i:Int)+1) ⟨by omega,by omega,h2⟩
   simp only[e1,e2,e3,e4,Int.toNat_natCast]
   unfold E7
   rw[dif_pos hlt']
   refine ⟨⟨by omega,by omega⟩,(by trivial),A5 (fun g=>?_) (fun g=>?_)⟩
   ·simp only[g,cond_true];exact ⟨hb,(by trivial)⟩
   simp only[g,cond_false]
   refine A5 (fun g=>?_) (fun g=>?_)
   ·simp only[g,cond_true];exact ⟨⟨(by trivial),(by trivial)⟩,(by trivial)⟩
   simp only[g,cond_false]
   refine A5 (fun g=>?_) (fun g=>?_)
   ·have:=(Y7 g).2
    simp only[decide_eq_true_eq] at this
    simp only[g,cond_true];exact ⟨⟨by omega,by omega⟩,hb1,(by trivial)⟩
   simp only[g,cond_false]
   refine ⟨fun g=>?_,A5 (fun g=>?_) (fun g=>?_)⟩
   ·simp only[Bool.and_true] at g
    have:=(Y7 g).2
    simp only[decide_eq_true_eq] at this
    exact ⟨by omega,by omega⟩
   ·have:=(Y7 (Y7 g).1).2
    simp only[decide_eq_true_eq] at this
    have hq2:=b9s (s:=s) (i:=(i:Int)+2) ⟨by omega,by omega,h2⟩
    simp only[g,cond_true]
    rw[Int.toNat_of_nonneg (by omega)]
    exact ⟨⟨by omega,by omega,h2⟩,(by trivial)⟩
   simp only[g,cond_false]
   refine A5 (fun g=>?_) (fun g=>?_)
   ·simp only[g,cond_true]
    rw[Int.toNat_of_nonneg (by omega)]
    exact ⟨⟨by omega,by omega,h2⟩,(by trivial)⟩
   simp only[g,cond_false]
   refine A5 (fun g=>?_) (fun g=>?_)
   ·simp only[g,cond_true]
   simp only[g,cond_false]
   refine ⟨⟨⟨by omega,by omega,h2⟩, ?_⟩,fun g=>?_,A5 (fun g=>?_) (fun g=>?_)⟩
   ·show (s.size-((i:Int)+1).toNat)*2+1<n
    omega
   ·simp only[Bool.and_true,Bool.not_eq_true'] at g
    have:=(a3u g).2
    simp only[decide_eq_false_iff_not] at this
    exact ⟨by omega,by omega⟩
   ·simp only[g,cond_true]
   ·simp only[g,cond_false]
  ·cases hr
 ·unfold h7u at hp hr
  simp only[] at hr hp
  split at hr
  ·rename_i s i
   cases hr
   have hps':a4j s i:=hp
   obtain ⟨h0,h1,h2⟩:=hps'
   have hm:(s.size-i.toNat)*2+1=n:=hm
   refine a4c B9 hk N3 f7a (fn:=Tryz.f193) (cd:=A7 Tryz.f193) (sp:=spL [(6,g4c n)]) (hn:=f2v) Tryz.func193 (by kernel_rfl) (by kernel_rfl) (B7 (c:=.loop f7q) (by kernel_rfl) (h5i hk) C8) (keep (i4g n s i fun v=>v=_) ?_)
   refine ⟨⟨(by trivial),hp,by omega,(by trivial),(by trivial),(by trivial)⟩,fun n1 n2 xs ys hx hy=>?_⟩
   have hxr:((xs.length+1)*296).ble 70368744177664=true:=by rw[Nat.ble_eq];omega
   rw[hxr]
   cases g:(H5 s i.toNat).1 with
   | true=>simp only[cond_true,g]
   | false=>simp only[cond_false,g]
  ·cases hr
theorem h6d:C3 B g2v:=by
 refine Y8 kQ fun ds r hp hr=>?_
 unfold h8b at hp hr
 simp only[] at hr hp
 split at hr
 ·rename_i s
  cases hr
  refine a4c B9 kQ N3 a4g (fn:=Tryz.f149) (cd:=A7 Tryz.f149) (sp:=B8) (hn:=B1) Tryz.func149 (by kernel_rfl) (by kernel_rfl) A8 (keep (i5d s fun v=>v=_) ?_)
  unfold rxQ
  refine A5 (fun g=>?_) (fun g=>?_)
  ·simp only[g,cond_true]
  ·simp only[g,cond_false]
   simp only[decide_eq_false_iff_not] at g
   refine ⟨⟨by omega,by omega,by omega⟩,A5 (fun g=>?_) (fun g=>?_)⟩
   ·simp only[g,cond_true]
   ·simp only[g,cond_false]
 ·cases hr
theorem k80:C3 B T80:=by
 refine Y8 h6d fun ds r hp hr=>?_
 unfold c80 at hp hr
 simp only[] at hr hp
 split at hr
 ·rename_i s
  cases hr
  refine a4c B9 h6d N3 a4g (fn:=Tryz.f80) (cd:=A7 Tryz.f80) (sp:=B8) (hn:=B1) Tryz.func80 (by kernel_rfl) (by kernel_rfl) A8 (keep (w80 s fun v=>v=_) ?_)
  exact ⟨(by trivial),(by trivial)⟩
 ·cases hr
theorem a6a (a b:Bool):(bif a then true else b)=(a||b):=by cases a<;>rfl
theorem a4z (a b:Bool):(bif a then b else false)=(a&&b):=by cases a<;>rfl
theorem f4q (c:Int):c5i c=(V3 c||p8 c):=by
 unfold c5i V3 p8
 simp only[a6a,a4z,ge_iff_le]
theorem e4d (c:Int):c9z c=(a5x c&&r7 c):=by
 unfold c9z a5x r7
 rw[f4q]
 simp only[a6a]
 by_cases h1:c=110
 ·subst h1;rfl
 ·by_cases h2:c=116
  ·subst h2;rfl
  ·by_cases h3:c=100
   ·subst h3;rfl
   ·by_cases h4:c=119
    ·subst h4;rfl
    ·have e1:(c==110)=false:=by simpa using h1
     have e2:(c==116)=false:=by simpa using h2
     have e3:(c==100)=false:=by simpa using h3
     have e4:(c==119)=false:=by simpa using h4
     rw[e1,e2,e3,e4];simp
theorem f8r (c:Int):e7o c=a5x c:=by
 unfold e7o
 simp only[a4z]
 by_cases h3:c=100
 ·subst h3;rfl
 ·by_cases h4:c=119
  ·subst h4;rfl
  ·have e3:(c==100)=false:=by simpa using h3
   have e4:(c==119)=false:=by simpa using h4
   have e5:(c !=100)=true:=by simpa using h3
   have e6:(c !=119)=true:=by simpa using h4
   rw[e5,e6]
   simp only[Bool.and_self,cond_true]
   rw[e4d]
   unfold r7
   rw[e3,e4];simp
theorem f8q {c:Int} (h:c9z c=true):c4t c=a3q c:=by
 unfold c4t a3q
 by_cases h3:c=100
 ·subst h3;cases h
 ·by_cases h4:c=119
  ·subst h4;cases h
  ·have e3:(c==100)=false:=by simpa using h3
   have e4:(c==119)=false:=by simpa using h4
   rw[e3,e4];rfl
theorem a4h {i:Int} {n:Nat} (h:i<n):(i==(n:Int))=false:=by
 have:i≠n:=by omega
 simpa using this
theorem f2p {s:ByteArray} {i:Int} (h:a4j s i):(it3 s i).2.2=N7 s i∧((it3 s i).2.2=true→(it3 s i).1=p7 s i∧(it3 s i).2.1=G3 s i):=by
 obtain ⟨h0,h1,h2⟩:=h
 unfold it3 N7
 by_cases hlt:i<s.size
 ·have e0:decide (i≥(s.size:Int))=false:=by simp;omega
  rw[e0,a4h hlt]
  simp only[cond_false]
  cases g1:A9 s i.toNat==93 with
  | true=>simp
  | false =>
   simp only[cond_false]
   cases g2:A9 s i.toNat !=92 with
   | true=>simp[p7,G3,g2]
   | false =>
    simp only[cond_false]
    by_cases hl2:i+1<s.size
    ·have e1:decide (i+1≥(s.size:Int))=false:=by simp;omega
     rw[e1]
     simp only[cond_false,V6,a4h hl2,Bool.not_false,Bool.true_and,Bool.false_or]
     rw[←e4d]
     refine ⟨rfl,fun hk=>?_⟩
     rw[f8q hk]
     simp only[p7,G3,g2,cond_false]
     exact ⟨trivial,by omega⟩
    ·have e1:decide (i+1≥(s.size:Int))=true:=by simp;omega
     have e2:(i+1==(s.size:Int))=true:=by simp;omega
     rw[e1]
     simp[V6,e2]
 ·have e0:decide (i≥(s.size:Int))=true:=by simp;omega
  have e2:(i==(s.size:Int))=true:=by simp;omega
  rw[e0,e2]
  simp
theorem f5p {s:ByteArray} {j:Int} (h:a4j s j):(M5 s j).1= !b2f s j∧((M5 s j).1=true→(M5 s j).2=(brT s j).2.1):=by
 obtain ⟨e1,e2⟩:=f2p h
 have hp:=b9n h
 unfold M5 b2f brT
 rw[←e1]
 cases g1:(it3 s j).2.2 with
 | false =>
  have:rgQ s j=false:=by unfold rgQ;rw[g1];rfl
  rw[this]
  simp[g1]
 | true =>
  obtain ⟨e3,e4⟩:=e2 g1
  have er:rgQ s j=a4i s (G3 s j):=by
   unfold rgQ a4i
   rw[g1, ←e4]
   simp only[cond_true,a4z,Bool.and_assoc]
  rw[er]
  simp only[cond_true]
  cases g2:a4i s (G3 s j) with
  | false =>
   simp only[cond_false]
   rw[g1]
   simp[e4]
  | true =>
   have hp2:a4j s ((it3 s j).2.1+1):=by
    rw[e4]
    unfold a4i at g2
    simp only[Bool.and_eq_true,decide_eq_true_eq] at g2
    have:=hp.2.1
    rw[e4] at this
    exact ⟨by have:=h.1;omega,by omega,h.2.2⟩
   obtain ⟨f1,f2⟩:=f2p hp2
   simp only[cond_true]
   rw[e4] at f1 f2 ⊢
   rw[←f1]
   cases g3:(it3 s (G3 s j+1)).2.2 with
   | false=>simp
   | true =>
    obtain ⟨f3,f4⟩:=f2 g3
    simp only[cond_true,Bool.not_true,cond_false]
    simp[f3,f4,e3]
def Ag (a b:Bool×Int):Prop:=a.1=b.1∧(a.1=true→a.2=b.2)
def f3h (s:ByteArray) (i:Int) (r:Bool×Int):Bool×Int:=bif r.1 then (bif (bif decide (r.2≥(s.size:Int)) then true else r.2==i) then (false,r.2) else (true,r.2+1)) else (false,r.2)
theorem h8v {s:ByteArray} {st:Int}:∀(n:Nat) (j:Int),a4j s j→s.size-j<n→st≤j→(j=st∨¬(j<s.size∧A9 s j.toNat=93))→Ag (f3h s st (brL s n j)) (brR s n j):=by
 intro n
 induction n with
 | zero=>intro j hj hn;obtain ⟨_,_,_⟩:=hj;omega
 | succ n ih =>
  intro j hj hn hst hd
  obtain ⟨e1,e2⟩:=f5p hj
  have hp:=d2m hj
  unfold brL brR
  by_cases hlt:j<s.size
  ·have d1:decide (j<(s.size:Int))=true:=by simpa using hlt
   rw[d1]
   simp only[cond_true]
   by_cases h93:A9 s j.toNat=93
   ·have d2:(A9 s j.toNat !=93)=false:=by simp[h93]
    rw[d2]
    simp only[cond_false]
    have hjs:j=st:=by
     rcases hd with h|h
     ·exact h
     ·exact absurd ⟨hlt,h93⟩ h
    have d3:decide (j≥(s.size:Int))=false:=by simp;omega
    have hno:(M5 s j).1=false:=by
     unfold M5 N7
     have:(A9 s j.toNat==93)=true:=by simpa using h93
     rw[this];simp
    rw[hno]
    unfold f3h Ag
    simp[d3,hjs]
   ·have d2:(A9 s j.toNat !=93)=true:=by simpa using h93
    rw[d2]
    simp only[cond_true]
    cases gb:b2f s j with
    | true =>
     rw[gb] at e1
     rw[e1]
     unfold f3h Ag
     simp
    | false =>
     rw[gb] at e1
     have ek:(brT s j).2.2=true:=by
      unfold b2f at gb
      have:=(a3u gb).1
      simpa using this
     have hgt:=hp.2.2 ek
     rw[e1,e2 (by rw[e1];rfl)]
     simp only[Bool.not_false,cond_true,cond_false]
     have hps:a4j s (brT s j).2.1:=⟨by have:=hj.1;omega,hp.2.1.2,hj.2.2⟩
     cases gs:L5 s (brT s j).2.1 93 with
     | true =>
      unfold L5 at gs
      simp only[Bool.and_eq_true,Bool.not_eq_true',beq_eq_false_iff_ne,beq_iff_eq] at gs
      have hpl:(brT s j).2.1<s.size:=by have:=hp.2.1.2;omega
      cases n with
      | zero=>omega
      | succ n =>
       unfold brL
       have d3:decide ((brT s j).2.1<(s.size:Int))=true:=by simpa using hpl
       have d4:(A9 s (brT s j).2.1.toNat !=93)=false:=by simp[gs.2]
       have d5:decide ((brT s j).2.1≥(s.size:Int))=false:=by simp;omega
       have d6:((brT s j).2.1==st)=false:=by simp;omega
       rw[d3,d4]
       unfold f3h Ag
       simp[d5,d6]
     | false =>
      simp only[cond_false]
      refine ih _ hps (by omega) (by omega) (.inr fun ⟨h1,h2⟩=>?_)
      unfold L5 at gs
      rw[a4h h1] at gs
      have:(A9 s (brT s j).2.1.toNat==93)=true:=by simpa using h2
      rw[this] at gs
      cases gs
  ·have d1:decide (j<(s.size:Int))=false:=by simpa using hlt
   have d3:decide (j≥(s.size:Int))=true:=by simp;omega
   have hno:(M5 s j).1=false:=by
    unfold M5 N7
    have:(j==(s.size:Int))=true:=by have:=hj.2.1;simp;omega
    rw[this];simp
   rw[d1,hno]
   unfold f3h Ag
   simp[d3]
theorem d9r {s:ByteArray} {j:Int} (h:a4j s j):Ag (brQ s j) (brR s 201 j):=by
 have:=h8v (st:=j) 201 j h (by obtain ⟨_,_,_⟩:=h;omega) (by omega) (.inl rfl)
 exact this
theorem f5q {c:Int} (h:0≤c∧c<256):a9f c=a9g c:=by
 have key:∀k:Fin 256,a9f (k.val:Int)=a9g (k.val:Int):=by decide +kernel
 obtain ⟨k,rfl⟩:=Int.eq_ofNat_of_zero_le h.1
 exact key ⟨k,by omega⟩
def AgN (a b:Bool×Nat):Prop:=a.1=b.1∧(a.1=true→a.2=b.2)
theorem AgN.no {a b:Bool×Nat} (h1:a.1=false) (h2:b.1=false):AgN a b:=⟨h1.trans h2.symm,fun h=>by rw[h1] at h;cases h⟩
theorem a5i {s:ByteArray} {k:Nat} {c:Int}:L5 s (k:Int) c=(!((k:Int)==(s.size:Int))&&A9 s k==c):=by
 unfold L5;rw[Int.toNat_natCast]
theorem f6e {s:ByteArray} {k:Nat} (hk:k≤s.size):(L5 s k 42||(L5 s k 43||L5 s k 63))=a4p s k:=by
 rw[a5i,a5i,a5i]
 unfold a4p
 simp only[a6a,a4z]
 by_cases h:k<s.size
 ·have d1:decide ((k:Int)<(s.size:Int))=true:=by simpa using h
  rw[a4h (by omega),d1]
  simp[Bool.or_assoc]
 ·have d1:decide ((k:Int)<(s.size:Int))=false:=by simpa using h
  have d2:((k:Int)==(s.size:Int))=true:=by simp;omega
  rw[d1,d2];simp
theorem c8g {s:ByteArray} {k:Nat} (h:a4p s k=true):(M0 s k).1=false:=by
 have hlt:=b9i h
 unfold a4p at h
 simp only[a6a,a4z,Bool.and_eq_true,Bool.or_eq_true,decide_eq_true_eq,beq_iff_eq] at h
 unfold M0
 rw[dif_pos hlt]
 rcases h.2 with (h|h)|h<;>(rw[h,if_neg (by decide),if_neg (by decide),if_neg (by decide),if_neg (by decide)];simp only[Bool.not_eq_false'];decide +kernel)
theorem f8i (s:ByteArray) (h2:s.size≤200):∀(n i:Nat),i≤s.size→s.size-i≤n→AgN (E7 s i) (M0 s i)∧AgN (H5 s i) (E0 s i):=by
 have seqC:∀i j:Nat,i≤s.size→j≤s.size→N0 s i=N0 s j→E0 s i=E0 s j:=fun i j hi hj h=>by
  have p1:=(a5u s (s.size-i) i hi (by omega)).2.2.1
  have p2:=(a5u s (s.size-j) j hj (by omega)).2.2.1
  unfold E0
  rw[h] at p1 ⊢
  cases (N0 s j).1 with
  | false=>rfl
  | true =>
   simp only[if_true]
   cases g:L5 s (N0 s j).2 124 with
   | false=>rfl
   | true =>
    have:=Z8 g (by omega)
    rw[dif_pos ⟨p1.1,by omega⟩,dif_pos ⟨p2.1,by omega⟩]
 intro n
 induction n with
 | zero =>
  intro i hi hn
  have hlt:¬i<s.size:=by omega
  have hA:E7 s i=(false,i):=by unfold E7;rw[dif_neg hlt]
  have hE:H5 s i=(true,i):=by unfold H5;rw[dif_neg hlt]
  have hA':M0 s i=(false,i):=by unfold M0;rw[dif_neg hlt]
  have hS':N0 s i=(true,i):=by unfold N0;rw[dif_neg hlt]
  have hk:L5 s (i:Int) 124=false:=by
   have:((i:Int)==(s.size:Int))=true:=by simp;omega
   simp[L5,this]
  have hC':E0 s i=(true,i):=by unfold E0;rw[hS'];simp[hk]
  rw[hA,hE,hA',hC']
  exact ⟨⟨rfl,fun _=>rfl⟩,rfl,fun _=>rfl⟩
 | succ n ih =>
  intro i hi hn
  by_cases hlt:i<s.size
  ·have hb:=n7 s i
   have hA:AgN (E7 s i) (M0 s i):=by
    obtain ⟨c1,c2⟩:=(ih (i+1) (by omega) (by omega)).2
    have hq:=(b2x s h2 (s.size-(i+1)) (i+1) (by omega) (by omega)).2
    unfold E7 M0
    rw[dif_pos hlt,dif_pos hlt]
    rw[f5q hb]
    have hs1:a9g 40=true:=by decide +kernel
    have hs2:a9g 91=true:=by decide +kernel
    have hs3:a9g 46=true:=by decide +kernel
    have hs4:a9g 92=true:=by decide +kernel
    have hi1:(((i+1:Nat):Int))=(i:Int)+1:=by omega
    by_cases b1:A9 s i=40
    ·rw[if_pos b1]
     simp only[b1,hs1]
     have t1:((40:Int)==46)=false:=by decide
     have t2:((40:Int)==92)=false:=by decide
     have t3:((40:Int)==91)=false:=by decide
     have t4:((40:Int) !=40)=false:=by decide
     simp only[t1,t2,t3,t4,Bool.not_true,cond_false]
     cases g:(H5 s (i+1)).1 with
     | false =>
      rw[g] at c1
      rw[←c1]
      simp only[Bool.not_false,cond_true,Bool.false_eq_true,if_false]
      exact AgN.no rfl rfl
     | true =>
      have c2:=c2 g
      rw[g] at c1
      rw[←c1, ←c2]
      simp only[Bool.not_true,cond_false,if_true]
      rw[a5i]
      by_cases hl:(H5 s (i+1)).2<s.size
      ·have d1:decide (((H5 s (i+1)).2:Int)≥(s.size:Int))=false:=by simp;omega
       rw[d1,a4h (by omega)]
       simp only[cond_false,Bool.not_false,Bool.true_and]
       cases g2:A9 s (H5 s (i+1)).2==41 with
       | true =>
        have g3:(A9 s (H5 s (i+1)).2 !=41)=false:=by simpa using g2
        rw[g3];exact ⟨rfl,fun _=>rfl⟩
       | false =>
        have g3:(A9 s (H5 s (i+1)).2 !=41)=true:=by simpa using g2
        rw[g3];exact AgN.no rfl rfl
      ·have d1:decide (((H5 s (i+1)).2:Int)≥(s.size:Int))=true:=by simp;omega
       have d2:(((H5 s (i+1)).2:Int)==(s.size:Int))=true:=by simp;omega
       rw[d1,d2]
       exact AgN.no rfl rfl
    ·rw[if_neg b1]
     by_cases b2:A9 s i=91
     ·rw[if_pos b2]
      simp only[b2,hs2]
      have t1:((91:Int)==46)=false:=by decide
      have t2:((91:Int)==92)=false:=by decide
      have t3:((91:Int)==91)=true:=by decide
      simp only[t1,t2,t3,Bool.not_true,cond_false,cond_true]
      have hps1:a4j s ((i:Int)+1):=⟨by omega,by omega,h2⟩
      unfold brS
      rw[a5i,hi1]
      by_cases hl:(i:Int)+1<s.size
      ·have d1:decide ((i:Int)+1<(s.size:Int))=true:=by simpa using hl
       rw[d1,a4h hl]
       simp only[cond_true,Bool.not_false,Bool.true_and]
       cases g:A9 s (i+1)==94 with
       | true =>
        obtain ⟨a1,a2⟩:=d9r (s:=s) (j:=(i:Int)+2) ⟨by omega,by omega,h2⟩
        simp only[cond_true]
        rw[show (i:Int)+1+1=(i:Int)+2 by omega]
        exact ⟨a1,fun h=>congrArg Int.toNat (a2 h)⟩
       | false =>
        obtain ⟨a1,a2⟩:=d9r hps1
        simp only[cond_false]
        exact ⟨a1,fun h=>congrArg Int.toNat (a2 h)⟩
      ·have d1:decide ((i:Int)+1<(s.size:Int))=false:=by simpa using hl
       have d2:((i:Int)+1==(s.size:Int))=true:=by simp;omega
       obtain ⟨a1,a2⟩:=d9r hps1
       rw[d1,d2]
       simp only[cond_false,Bool.not_true,Bool.false_and]
       exact ⟨a1,fun h=>congrArg Int.toNat (a2 h)⟩
     ·rw[if_neg b2]
      by_cases b3:A9 s i=46
      ·rw[if_pos b3]
       simp only[b3,hs3]
       exact ⟨rfl,fun _=>rfl⟩
      ·rw[if_neg b3]
       by_cases b4:A9 s i=92
       ·rw[if_pos b4]
        simp only[b4,hs4]
        have t1:((92:Int)==46)=false:=by decide
        have t2:((92:Int)==92)=true:=by decide
        have t3:((92:Int)==91)=false:=by decide
        have t4:((92:Int) !=40)=true:=by decide
        simp only[t1,t2,t3,t4,Bool.not_true,cond_false,cond_true]
        unfold V6
        rw[Int.toNat_natCast,hi1]
        by_cases hl:(i:Int)+1<s.size
        ·have d1:decide ((i:Int)+1<(s.size:Int))=true:=by simpa using hl
         rw[d1,a4h hl]
         simp only[cond_true,Bool.not_false,Bool.true_and]
         rw[f8r]
         cases a5x (A9 s (i+1)) with
         | true=>exact ⟨rfl,fun _=>rfl⟩
         | false=>exact AgN.no rfl rfl
        ·have d1:decide ((i:Int)+1<(s.size:Int))=false:=by simpa using hl
         have d2:((i:Int)+1==(s.size:Int))=true:=by simp;omega
         rw[d1,d2]
         exact AgN.no rfl rfl
       ·rw[if_neg b4]
        have t1:(A9 s i==46)=false:=by simpa using b3
        have t2:(A9 s i==92)=false:=by simpa using b4
        have t3:(A9 s i==91)=false:=by simpa using b2
        have t4:(A9 s i !=40)=true:=by simpa using b1
        rw[t1,t2,t3,t4]
        cases a9g (A9 s i) with
        | true=>exact AgN.no rfl rfl
        | false=>exact ⟨rfl,fun _=>rfl⟩
   refine ⟨hA, ?_⟩
   have hk0:∀c:Int,A9 s i≠c→L5 s i c=false:=fun c hc=>by
    rw[a5i]
    have:(A9 s i==c)=false:=by simpa using hc
    rw[this];simp
   unfold H5
   rw[dif_pos hlt]
   by_cases b1:A9 s i=41
   ·rw[if_pos b1]
    have hS:N0 s i=(true,i):=by unfold N0;rw[dif_pos hlt,if_pos (.inr b1)]
    unfold E0
    rw[hS]
    simp[hk0 124 (by rw[b1];decide),AgN]
   ·rw[if_neg b1]
    by_cases b2:A9 s i=124
    ·rw[if_pos b2]
     have hS:N0 s i=(true,i):=by unfold N0;rw[dif_pos hlt,if_pos (.inl b2)]
     have hk:L5 s i 124=true:=by rw[a5i,a4h (by omega),b2];rfl
     have hC:E0 s i=E0 s (i+1):=by
      conv=>lhs;unfold E0
      rw[hS]
      simp[hk,hlt]
     rw[hC]
     exact (ih (i+1) (by omega) (by omega)).2
    ·rw[if_neg b2]
     have hno:¬(A9 s i=124∨A9 s i=41):=by rintro (h|h)<;>contradiction
     obtain ⟨a1,a2⟩:=hA
     have hq:=(b2x s h2 (s.size-i) i hi (by omega)).1
     cases gA:(E7 s i).1 with
     | false =>
      rw[gA] at a1
      have hF:(J4 s i).1=false:=by unfold J4;rw[←a1];rfl
      have hS:(N0 s i).1=false:=by unfold N0;rw[dif_pos hlt,if_neg hno,hF];rfl
      simp only[Bool.false_eq_true,if_false]
      refine AgN.no rfl ?_
      unfold E0
      rw[hS];rfl
     | true =>
      have hj:=hq.2.2 gA
      have a2:=a2 gA
      rw[gA] at a1
      simp only[if_true]
      rw[dif_pos hj]
      have hjs:=hq.2.1
      have hpe:=f6e (s:=s) (k:=(E7 s i).2) hjs
      cases gP:a4p s (E7 s i).2 with
      | true =>
       have hjl:=b9i gP
       rw[gP] at hpe
       have hF:J4 s i=(true,(E7 s i).2+1):=by
        unfold J4
        rw[←a1, ←a2,hpe];rfl
       have hS:N0 s i=N0 s ((E7 s i).2+1):=by
        conv=>lhs;unfold N0
        rw[dif_pos hlt,if_neg hno,hF]
        simp only[if_true]
        rw[dif_pos (by omega)]
       have hC:=seqC i ((E7 s i).2+1) hi (by omega) hS
       rw[hC]
       simp only[if_true]
       cases gP2:a4p s ((E7 s i).2+1) with
       | true =>
        have hl2:=b9i gP2
        have hF2:(J4 s ((E7 s i).2+1)).1=false:=by unfold J4;rw[c8g gP2];rfl
        have hno2:¬(A9 s ((E7 s i).2+1)=124∨A9 s ((E7 s i).2+1)=41):=by
         unfold a4p at gP2
         simp only[a6a,a4z,Bool.and_eq_true,Bool.or_eq_true,decide_eq_true_eq,beq_iff_eq] at gP2
         omega
        have hS2:(N0 s ((E7 s i).2+1)).1=false:=by unfold N0;rw[dif_pos hl2,if_neg hno2,hF2];rfl
        refine AgN.no rfl ?_
        unfold E0
        rw[hS2];rfl
       | false =>
        simp only[Bool.false_eq_true,if_false]
        exact (ih _ (by omega) (by omega)).2
      | false =>
       rw[gP] at hpe
       have hF:J4 s i=(true,(E7 s i).2):=by
        unfold J4
        rw[←a1, ←a2,hpe];rfl
       have hS:N0 s i=N0 s (E7 s i).2:=by
        conv=>lhs;unfold N0
        rw[dif_pos hlt,if_neg hno,hF]
        simp only[if_true]
        rw[dif_pos hj]
       have hC:=seqC i (E7 s i).2 hi hjs hS
       rw[hC]
       simp only[Bool.false_eq_true,if_false]
       exact (ih _ (by omega) (by omega)).2
  ·exact ih i hi (by omega)
theorem e9d (s:ByteArray):rxQ s=a6g s:=by
 unfold rxQ a6g
 by_cases h:s.size≤200
 ·have d:decide ((s.size:Int)>200)=false:=by simp;omega
  rw[d]
  simp only[cond_false]
  obtain ⟨e1,e2⟩:=(f8i s h s.size 0 (by omega) (by omega)).2
  unfold e5q
  rw[←e1]
  cases g:(H5 s 0).1 with
  | false=>rfl
  | true =>
   rw[←e2 g]
   simp only[Bool.not_true,cond_false,Bool.true_and]
   by_cases hs:(H5 s 0).2=s.size
   ·rw[hs];simp
   ·have d1:(((H5 s 0).2:Int) !=(s.size:Int))=true:=by simp;omega
    have d2:((H5 s 0).2==s.size)=false:=by simpa using hs
    rw[d1,d2];rfl
 ·have d:decide ((s.size:Int)>200)=true:=by simp;omega
  rw[d];rfl
mutual
/-- All strings in it are of a length that a world holds. -/
def Bd:D→Prop
 | .lit (.string s)=>s.size≤1152921504606846976
 | .agg cs=>BdL cs
 | .slice _ _ xs=>BdL xs
 | .elem cs=>BdL cs
 | _=>True
def BdL:List D→Prop
 | []=>True
 | x::r=>Bd x∧BdL r
end
theorem i4f (c:Int) (p:V→Prop):(B6 (Cn T80) T80 D5 0 B8 B1 194 [V.d (u8D c)] B3.empty fun v H=>p (B4 H v)) =
 p
 (A6 (bif
 bif
 bif bif decide (c≥97) then decide (c≤122) else false then true
 else bif decide (c≥65) then decide (c≤90) else false then
 true
 else bif decide (c≥48) then decide (c≤57) else false then
 true
 else c==95)):=by kernel_rfl
noncomputable def d7f:Tab:=T80.add 194 f4d
noncomputable def f7s:Code:=D7 (C5 (A7 Tryz.f151) 4)
theorem h9r (s:ByteArray) (i:Int) (R:X→List V→List Box→Prop):(E1 (Cn d7f) d7f D5 0 B8 B1 f7s 33 [0,3] [] [] [] [0,2] [] [C6 s,A3 i] [] R) =
 (bif decide (i<(↑s.size:Int)) then
 ((((0:Int)≤i)∧i.toNat<s.size)∧
 (True∧
 (bif !a3v (A9 s i.toNat) then
 (33=33∧
 R X.ret [C6 s,A6 false] []) else
 (33=33∧
 R X.normal [C6 s,A3 (IntKind.i64.wrap (i+1))] [])))) else
 (33=33∧
 R (X.exit 0) [C6 s,V.any] [])):=by kernel_rfl
def g4h:Ev.Spec:={L:=[0,3],ns:=[],L':=[0,2],nm':=[],G:=fun N vals bs k=>match vals,bs with
 | [.d (.lit (.string s)), .d (.lit (.int .i64 i))], []=>(N=33∧i=0∧s.size≤1152921504606846976)∧(bif Z2 s s.size 0 then k (.exit 0) [C6 s, .any] [] else k .ret [C6 s,A6 false] [])
 | _,_=>False }
theorem i5b (s:ByteArray) (p:V→Prop):(B6 (Cn d7f) d7f D5 0 (spL [(4,g4h)]) B1 151 [V.d (sD s)] B3.empty fun v H=>p (B4 H v)) =
 ((33=33∧(((0:Int)=0)∧s.size≤1152921504606846976))∧
 (bif Z2 s s.size 0 then
 ((((bif decide ((↑s.size:Int)>0) then decide ((↑s.size:Int)≤60) else false)&&true)=true→(((0:Int)≤0)∧0<s.size))∧
 (((!decide (A9 s 0<48) &&
 ((bif decide ((↑s.size:Int)>0) then decide ((↑s.size:Int)≤60) else false)&&true)) =
 true→(((0:Int)≤0)∧0<s.size))∧
 p
 (A6 (bif bif decide ((↑s.size:Int)>0) then decide ((↑s.size:Int)≤60) else false then
 bif decide (A9 s 0<48) then true else decide (A9 s 0>57)
 else false)))) else
 p (A6 false))):=by kernel_rfl
noncomputable def h7z:Ct:=⟨fun | [.lit (.string s)]=>s.size≤1152921504606846976|_=>False,fun | [.lit (.string s)]=>some (.lit (.bool (H8 s)))|_=>none⟩
noncomputable def g2u:Tab:=d7f.add 151 h7z
theorem i5c (y:D) (p:V→Prop):(B6 (Cn g2u) g2u D5 0 B8 B1 150 [V.d (mV y)] B3.empty fun v H=>p (B4 H v)) =
 (bif bif decide (A1 (A0 y 0)<1) then true else decide (A1 (A0 y 0)>4) then
 p (A3 8) else
 ((A4 (A0 y 1)).size.le 1152921504606846976∧
 (bif !H8 (A4 (A0 y 1)) then
 p (A3 5) else
 (bif decide (A1 (A0 y 0)>2) then
 (True∧
 p (A3 (rxQ (A4 (A0 y 2))))) else
 (bif decide ((↑(A4 (A0 y 2)).size:Int)>200) then
 p (A3 4) else
 p (A3 0)))))):=by kernel_rfl
noncomputable def f2d (y:D):Int :=
 (bif bif decide (A1 (A0 y 0)<1) then true else decide (A1 (A0 y 0)>4) then
 8 else
 (bif !H8 (A4 (A0 y 1)) then
 5 else
 (bif decide (A1 (A0 y 0)>2) then
 (rxQ (A4 (A0 y 2))) else
 (bif decide ((↑(A4 (A0 y 2)).size:Int)>200) then
 4 else
 0))))
noncomputable def h8a:Ct:=⟨fun | [x]=>w3 x∧Bd x|_=>False,fun | [x]=>some (.lit (.int .i64 (p6 x)))|_=>none⟩
noncomputable def d9z:Tab:=g2u.add 150 h8a
noncomputable def l81:Code:=D7 (C5 (A7 Tryz.f81) 8)
theorem b81 (xs:List D) (i:Int) (b:Bool) (R:X→List V→List Box→Prop):(E1 (Cn d9z) d9z D5 0 B8 B1 l81 22 [0,3] [] [] [] [2] [] [V.d (D.slice b 3 xs),A3 i] [] R) =
 (bif decide (i<(↑xs.length:Int)) then
 ((((0:Int)≤i)∧(i.toNat<xs.length∧mV (xs.getD i.toNat D.any)=xs.getD i.toNat D.any))∧
 ((w3 (mV (xs.getD i.toNat D.any))∧Bd (mV (xs.getD i.toNat D.any)))∧
 (bif p6 (mV (xs.getD i.toNat D.any)) !=0 then
 (22=22∧
 R X.ret [A3 (p6 (mV (xs.getD i.toNat D.any)))] []) else
 (22=22∧
 R X.normal [V.d (D.slice b 3 xs),A3 (IntKind.i64.wrap (i+1))] [])))) else
 (22=22∧
 R (X.exit 0) [V.any] [])):=by kernel_rfl
noncomputable def S81:Ev.Spec:={L:=[0,3],ns:=[],L':=[2],nm':=[],G:=fun N vals bs k=>match vals,bs with
 | [.d (.slice b 3 xs), .d (.lit (.int .i64 i))], []=>(N=22∧i=0∧xs.length≤16∧∀y∈xs,w3 y∧Bd y)∧S3 (C1 (C9 p6 xs) xs.length) (k (.exit 0) [.any] []) (fun e=>k .ret [A3 e] [])
 | _,_=>False }
theorem w81 (xs:List D) (b:Bool) (p:V→Prop):(B6 (Cn d9z) d9z D5 0 (spL [(8,S81)]) B1 81 [V.d (D.slice b 3 xs)] B3.empty fun v H=>p (B4 H v)) =
 (bif decide ((↑xs.length:Int)>16) then
 p (A3 4) else
 ((22=22∧(((0:Int)=0)∧(xs.length≤16∧∀(y:D),y∈xs→w3 y∧Bd y)))∧
 (match C1 (C9 p6 xs) xs.length with
 | some y0 =>
 p (A3 y0)
 | none=>p (A3 0)))):=by kernel_rfl
noncomputable def c81:Ct:=⟨fun | [.slice _ z xs]=>z=3∧∀y∈xs,w3 y∧Bd y|_=>False,fun | [.slice _ _ xs]=>some (.lit (.int .i64 (G1 xs)))|_=>none⟩
noncomputable def T81:Tab:=d9z.add 81 c81
noncomputable def l82:Code:=D7 (C5 (A7 Tryz.f82) 8)
theorem b82 (xs:List D) (i:Int) (b:Bool) (R:X→List V→List Box→Prop):(E1 (Cn T81) T81 D5 0 B8 B1 l82 33 [0,3] [] [] [] [2] [] [V.d (D.slice b 1 xs),A3 i] [] R) =
 (bif decide (i<(↑xs.length:Int)) then
 ((((0:Int)≤i)∧(i.toNat<xs.length∧zD (A4 (xs.getD i.toNat D.any))=xs.getD i.toNat D.any))∧
 ((A4 (xs.getD i.toNat D.any)).size.le 1152921504606846976∧
 (bif !H8 (A4 (xs.getD i.toNat D.any)) then
 (33=33∧
 R X.ret [A3 5] []) else
 (((decide (i>0)&&true)=true→(((0:Int)≤IntKind.i64.wrap (i-1))∧((IntKind.i64.wrap (i-1)).toNat<xs.length∧zD (A4 (xs.getD (IntKind.i64.wrap (i-1)).toNat D.any)) =
 xs.getD (IntKind.i64.wrap (i-1)).toNat D.any)))∧
 (((decide (i>0)&&true)=true→(((0:Int)≤i)∧(i.toNat<xs.length∧zD (A4 (xs.getD i.toNat D.any))=xs.getD i.toNat D.any)))∧
 (bif bif decide (i>0) then
 !Op.bytesLess (A4 (xs.getD (IntKind.i64.wrap (i-1)).toNat D.any)).toList (A4 (xs.getD i.toNat D.any)).toList
 else false then
 (33=33∧
 R X.ret [A3 9] []) else
 (33=33∧
 R X.normal [V.d (D.slice b 1 xs),A3 (IntKind.i64.wrap (i+1))] []))))))) else
 (33=33∧
 R (X.exit 0) [V.any] [])):=by kernel_rfl
noncomputable def S82:Ev.Spec:={L:=[0,3],ns:=[],L':=[2],nm':=[],G:=fun N vals bs k=>match vals,bs with
 | [.d (.slice b 1 xs), .d (.lit (.int .i64 i))], []=>(N=33∧i=0∧xs.length≤16∧∀y∈xs,a3a y∧Bd y)∧S3 (C1 (P0 false xs) xs.length) (k (.exit 0) [.any] []) (fun e=>k .ret [A3 e] [])
 | _,_=>False }
theorem w82 (xs:List D) (b:Bool) (p:V→Prop):(B6 (Cn T81) T81 D5 0 (spL [(8,S82)]) B1 82 [V.d (D.slice b 1 xs)] B3.empty fun v H=>p (B4 H v)) =
 (bif decide ((↑xs.length:Int)>16) then
 p (A3 4) else
 ((33=33∧(((0:Int)=0)∧(xs.length≤16∧∀(y:D),y∈xs→a3a y∧Bd y)))∧
 (match C1 (P0 false xs) xs.length with
 | some y0 =>
 p (A3 y0)
 | none=>p (A3 0)))):=by kernel_rfl
noncomputable def c82:Ct:=⟨fun | [.slice _ z xs]=>z=1∧∀y∈xs,a3a y∧Bd y|_=>False,fun | [.slice _ _ xs]=>some (.lit (.int .i64 (P4 xs false)))|_=>none⟩
noncomputable def T82:Tab:=T81.add 82 c82
theorem b9x:∀{xs:List D} {a:D},BdL xs→a∈xs→Bd a
 | [],_,_,h=>by cases h
 | x::r,a,hb,h=>by
  unfold BdL at hb
  rcases List.mem_cons.1 h with rfl|h
  ·exact hb.1
  ·exact b9x hb.2 h
theorem b2k:∀{xs:List D},(∀a∈xs,Bd a)→BdL xs
 | [],_=>by unfold BdL;trivial
 | x::r,h=>by unfold BdL;exact ⟨h x (by simp),b2k fun a ha=>h a (by simp[ha])⟩
theorem Bd.cells {y:D} (h:Bd y):∀c∈y.cells,Bd c:=by
 cases y with
 | agg cs=>unfold Bd at h;exact fun c hc=>b9x h hc
 | _=>intro c hc;simp only[D.cells,List.mem_singleton] at hc;subst hc;exact h
theorem Bd.cell {y:D} (h:Bd y) (i:Nat):Bd (A0 y i):=by
 unfold A0
 rw[List.getD_eq_getElem?_getD]
 cases hg:y.cells[i]? with
 | none=>simp[Bd]
 | some c=>exact h.cells c (List.mem_of_getElem? hg)
theorem Bd.seq {y:D} (h:Bd y) {a:D} (ha:a∈A2 y):Bd a:=by
 cases y with
 | slice b z xs=>unfold Bd at h;exact b9x h ha
 | _=>cases ha
theorem Bd.sub {y a:D} {i:Nat} (h:Bd y) (ha:a∈E6 y i):Bd a:=(h.cell i).seq ha
theorem Bd.strO {y:D} (h:Bd y):(A4 y).size≤1152921504606846976:=by
 unfold A4
 split
 ·unfold Bd at h;exact h
 ·exact Nat.zero_le _
theorem Bd.str {y:D} (h:Bd y) (i:Nat):(A4 (A0 y i)).size≤1152921504606846976:=(h.cell i).strO
theorem Bd.paV {y:D} (h:Bd y):Bd (paV y):=by
 refine show BdL _ from b2k fun a ha=>?_
 simp only[List.mem_cons,List.not_mem_nil,or_false] at ha
 rcases ha with rfl|rfl|rfl
 ·simp[Bd]
 ·exact show BdL _ from b2k fun a ha=>h.sub ha
 ·exact show BdL _ from b2k fun a ha=>h.sub ha
theorem a6z:∀a b:List UInt8,(!Op.bytesLess a b)=(Op.bytesLess b a||b==a)
 | [], []=>rfl
 | [],y::r=>rfl
 | x::l, []=>rfl
 | x::l,y::r=>by
  have ih:=a6z l r
  unfold Op.bytesLess
  by_cases h1:x<y
  ·have h2:¬y<x:=by simp only[UInt8.lt_iff_toNat_lt] at *;omega
   have h3:(y==x)=false:=by
    have:y≠x:=by rintro rfl;simp only[UInt8.lt_iff_toNat_lt] at *;omega
    simpa using this
   simp[h1,h2,h3,List.beq]
  ·by_cases h2:y<x
   ·have h3:(x==y)=false:=by
     have:x≠y:=by rintro rfl;simp only[UInt8.lt_iff_toNat_lt] at *;omega
     simpa using this
    simp only[h1,h2,h3,if_true,if_false,decide_true,decide_false,Bool.true_or,Bool.false_or,Bool.false_and,Bool.not_false]
   ·have h3:x=y:=by
     apply UInt8.toNat_inj.1
     simp only[UInt8.lt_iff_toNat_lt] at *;omega
    subst h3
    simp[h1,ih]
theorem g8f:C3 B d7f:=by
 refine C4 B9 k80 (fn:=Tryz.f194) (cd:=A7 Tryz.f194) (sp:=B8) (hn:=B1) Tryz.func194 (by kernel_rfl) (by kernel_rfl) A8 fun ds r hp hr=>?_
 unfold f4d at hr
 simp only[] at hr
 split at hr
 ·rename_i c
  cases hr
  refine keep (i4f c fun v=>v=_) ?_
  unfold a3v
  simp only[a6a,a4z,ge_iff_le]
 ·cases hr
theorem h5o:OkS (Cn d7f) 0 (.loop f7s) g4h:=by
 refine D0 fun N vals bs K h=>?_
 simp only[g4h] at h
 split at h
 case h_2=>exact h.elim
 rename_i s i
 obtain ⟨⟨rfl,rfl,h60⟩,h⟩:=h
 have key:∀n i:Nat,i+n=s.size→(bif Z2 s n i then K (.exit 0) [C6 s, .any] [] else K .ret [C6 s,A6 false] [])→J2 (Cn d7f) 0 f7s 33 [0,3] [] [0,2] [] [C6 s,A3 i] [] K:=by
  intro n
  induction n with
  | zero =>
   intro i hi h
   refine B5 (D3 B9 g8f C2) C0 A8 (hn:=B1) (adsI:=[]) (nsI:=[]) (nsX:=[]) rfl rfl (keep (h9r s i _) ?_)
   have e1:decide ((i:Int)<s.size)=false:=by simp;omega
   rw[e1]
   exact ⟨(by trivial),h⟩
  | succ n ih =>
   intro i hi h
   refine B5 (D3 B9 g8f C2) C0 A8 (hn:=B1) (adsI:=[]) (nsI:=[]) (nsX:=[]) rfl rfl (keep (h9r s i _) ?_)
   have e1:decide ((i:Int)<s.size)=true:=by simp;omega
   have e2:IntKind.i64.wrap ((i:Int)+1)=((i+1:Nat):Int):=by rw[Go.IntWalk.i64_in _ (by omega)];omega
   rw[e1]
   unfold Z2 at h
   simp only[Int.toNat_natCast,e2,cond_true]
   refine ⟨⟨by omega,by omega⟩,(by trivial), ?_⟩
   cases g:a3v (A9 s i) with
   | false=>rw[g] at h;exact ⟨(by trivial),h⟩
   | true=>rw[g] at h;exact ⟨(by trivial),ih (i+1) (by omega) h⟩
 exact key s.size 0 (by omega) h
theorem i8w:C3 B g2u:=by
 refine C4 B9 g8f (fn:=Tryz.f151) (cd:=A7 Tryz.f151) (sp:=spL [(4,g4h)]) (hn:=B1) Tryz.func151 (by kernel_rfl) (by kernel_rfl) (B7 (c:=.loop f7s) (by kernel_rfl) h5o C8) fun ds r hp hr=>?_
 unfold h7z at hp hr
 simp only[] at hr hp
 split at hr
 ·rename_i s
  cases hr
  refine keep (i5b s fun v=>v=_) ?_
  refine ⟨⟨(by trivial),(by trivial),hp⟩, ?_⟩
  unfold H8
  cases Z2 s s.size 0 with
  | false=>simp only[cond_false,Bool.and_false]
  | true =>
   simp only[cond_true,Bool.and_true]
   have z:∀b:Bool,((bif decide ((s.size:Int)>0) then decide ((s.size:Int)≤60) else false)&&b)=true→(0:Int)≤0∧0<s.size:=fun b h=>by
    simp only[a4z,Bool.and_eq_true,decide_eq_true_eq] at h
    omega
   refine ⟨fun h=>z true (by simpa using h),fun h=>z true (by simp only[Bool.and_eq_true] at h ⊢;exact ⟨h.2,trivial⟩), ?_⟩
   have e1:decide ((s.size:Int)>0)=decide (1≤s.size):=decide_eq_decide.2 (by omega)
   have e2:decide ((s.size:Int)≤60)=decide (s.size≤60):=decide_eq_decide.2 (by omega)
   have e3:decide (A9 s 0<48)= !decide (48≤A9 s 0):=by rw[←decide_not];exact decide_eq_decide.2 (by omega)
   have e4:decide (A9 s 0>57)= !decide (A9 s 0≤57):=by rw[←decide_not];exact decide_eq_decide.2 (by omega)
   simp only[e1,e2,e3,e4,a6a,a4z,Bool.not_and]
 ·cases hr
theorem g7r (s:ByteArray):(a8d [.agg [.lit (.string s), .lit (.string (ByteArray.mk (Array.mk [120])))]] !=0)= !H8 s:=by
 have:=a6v s
 unfold bne
 rw[this]
theorem f7g (y:D):f2d y=p6 y:=by
 unfold f2d p6
 rw[g7r,e9d]
 generalize A1 (A0 y 0)=k
 by_cases h1:k<1
 ·simp[h1]
 ·by_cases h2:k>4
  ·simp[h1,h2]
  ·have h3:k=1∨k=2∨k=3∨k=4:=by omega
   rcases h3 with rfl|rfl|rfl|rfl<;>rfl
theorem d4u {a b:Nat} (h:a≤b):Nat.le a b:=h
theorem h6c:C3 B d9z:=by
 refine C4 B9 i8w (fn:=Tryz.f150) (cd:=A7 Tryz.f150) (sp:=B8) (hn:=B1) Tryz.func150 (by kernel_rfl) (by kernel_rfl) A8 fun ds r hp hr=>?_
 unfold h8a at hp hr
 simp only[] at hr hp
 split at hr
 ·rename_i x
  cases hr
  rw[X9 (show mV x=x from hp.1), ←f7g]
  refine keep (i5c x fun v=>v=_) ?_
  unfold f2d
  have hb:=hp.2.str 1
  (repeat' (first|with_reducible rfl | (refine A5 (fun hcw=>?_) (fun hcw=>?_)<;>simp only[hcw,cond_true,cond_false])|refine V8 ?_ ?_))
  all_goals first|trivial|exact d4u hb
 ·cases hr
theorem i6z:OkS (Cn d9z) 0 (.loop l81) S81:=by
 refine D0 fun N vals bs K h=>?_
 simp only[S81] at h
 split at h
 case h_2=>exact h.elim
 rename_i b xs i
 obtain ⟨⟨rfl,rfl,h16,hall⟩,h⟩:=h
 refine G0 (D3 B9 h6c C2) C0 A8 (hn:=B1) (adsI:=[]) (nsI:=[]) (nsX:=[]) rfl rfl xs.length
  (fun i=>[.d (.slice b 3 xs),A3 i]) (fun _=>[]) (C9 p6 xs) (fun e=>(.ret, [A3 e], [])) (by simp) (.exit 0) [.any] [] (by simp) ?_ ?_ h
 ·intro i R hi hR
  refine keep (b81 xs i b R) ?_
  have e1:decide ((i:Int)<xs.length)=true:=by simp;omega
  have e2:IntKind.i64.wrap ((i:Int)+1)=((i+1:Nat):Int):=by rw[Go.IntWalk.i64_in _ (by omega)];omega
  have hv:=hall _ (D8 hi)
  rw[e1]
  simp only[Int.toNat_natCast,e2,cond_true,show mV _=_ from hv.1]
  refine ⟨⟨by omega,hi,(by trivial)⟩,hv,A5 (fun h1=>⟨(by trivial), ?_⟩) (fun h1=>⟨(by trivial), ?_⟩)⟩<;>(simp only[C9,h1,cond_true,cond_false,S3] at hR;exact hR)
 ·intro R hR
  refine keep (b81 xs xs.length b R) ?_
  have e1:decide ((xs.length:Int)<xs.length)=false:=by simp
  rw[e1]
  exact ⟨(by trivial),hR⟩
theorem k81:C3 B T81:=by
 refine C4 B9 h6c (fn:=Tryz.f81) (cd:=A7 Tryz.f81) (sp:=spL [(8,S81)]) (hn:=B1) Tryz.func81 (by kernel_rfl) (by kernel_rfl) (B7 (c:=.loop l81) (by kernel_rfl) i6z C8) fun ds r hp hr=>?_
 unfold c81 at hp hr
 simp only[] at hr hp
 split at hr
 ·rename_i b z xs
  cases hr
  obtain ⟨rfl,hall⟩:=hp
  refine keep (w81 xs b fun v=>v=_) ?_
  unfold G1
  refine A5 (fun h1=>?_) (fun h1=>?_)<;>simp only[h1,cond_true,cond_false]
  have h1':¬(xs.length:Int)>16:=by simpa using h1
  refine ⟨⟨(by trivial),(by trivial),by omega,hall⟩, ?_⟩
  cases C1 (C9 p6 xs) xs.length<;>rfl
 ·cases hr
theorem e6g (xs:List D) (i:Nat):P0 false xs i=bif !H8 (A4 (xs.getD i .any)) then some 5 else
  bif (bif decide ((i:Int)>0) then !Op.bytesLess (A4 (xs.getD (i-1) .any)).toList (A4 (xs.getD i .any)).toList else false) then some 9 else none:=by
 unfold P0
 rw[show leS (A4 (xs.getD i .any)) (A4 (xs.getD (i-1) .any))= !Op.bytesLess (A4 (xs.getD (i-1) .any)).toList (A4 (xs.getD i .any)).toList from (a6z _ _).symm]
 cases H8 (A4 (xs.getD i .any))<;>rfl
theorem i6y:OkS (Cn T81) 0 (.loop l82) S82:=by
 refine D0 fun N vals bs K h=>?_
 simp only[S82] at h
 split at h
 case h_2=>exact h.elim
 rename_i b xs i
 obtain ⟨⟨rfl,rfl,h16,hall⟩,h⟩:=h
 refine G0 (D3 B9 k81 C2) C0 A8 (hn:=B1) (adsI:=[]) (nsI:=[]) (nsX:=[]) rfl rfl xs.length
  (fun i=>[.d (.slice b 1 xs),A3 i]) (fun _=>[]) (P0 false xs) (fun e=>(.ret, [A3 e], [])) (by simp) (.exit 0) [.any] [] (by simp) ?_ ?_ h
 ·intro i R hi hR
  refine keep (b82 xs i b R) ?_
  have e1:decide ((i:Int)<xs.length)=true:=by simp;omega
  have e2:IntKind.i64.wrap ((i:Int)+1)=((i+1:Nat):Int):=by rw[Go.IntWalk.i64_in _ (by omega)];omega
  have hv:=hall _ (D8 hi)
  have hsz:=hv.2.strO
  rw[e6g] at hR
  rw[e1]
  simp only[Int.toNat_natCast,e2,cond_true]
  refine ⟨⟨by omega,hi,hv.1⟩,d4u hsz,A5 (fun h1=>⟨(by trivial), ?_⟩) (fun h1=>?_)⟩
  ·rw[h1] at hR;exact hR
  ·rw[h1] at hR
   simp only[cond_false] at hR
   by_cases h0:0<i
   ·have e4:IntKind.i64.wrap ((i:Int)-1)=((i-1:Nat):Int):=by rw[Go.IntWalk.i64_in _ (by omega)];omega
    have hv2:=hall _ (D8 (xs:=xs) (i:=i-1) (by omega))
    simp only[e4,Int.toNat_natCast]
    refine ⟨fun _=>⟨by omega,by omega,hv2.1⟩,fun _=>⟨by omega,hi,hv.1⟩,A5 (fun h2=>⟨(by trivial), ?_⟩) (fun h2=>⟨(by trivial), ?_⟩)⟩
    ·rw[h2] at hR;exact hR
    ·rw[h2] at hR;exact hR
   ·have e5:decide ((i:Int)>0)=false:=by simp;omega
    rw[e5] at hR ⊢
    exact ⟨(fun h=>by cases h),(fun h=>by cases h),(by trivial),hR⟩
 ·intro R hR
  refine keep (b82 xs xs.length b R) ?_
  have e1:decide ((xs.length:Int)<xs.length)=false:=by simp
  rw[e1]
  exact ⟨(by trivial),hR⟩
theorem k82:C3 B T82:=by
 refine C4 B9 k81 (fn:=Tryz.f82) (cd:=A7 Tryz.f82) (sp:=spL [(8,S82)]) (hn:=B1) Tryz.func82 (by kernel_rfl) (by kernel_rfl) (B7 (c:=.loop l82) (by kernel_rfl) i6y C8) fun ds r hp hr=>?_
 unfold c82 at hp hr
 simp only[] at hr hp
 split at hr
 ·rename_i b z xs
  cases hr
  obtain ⟨rfl,hall⟩:=hp
  refine keep (w82 xs b fun v=>v=_) ?_
  unfold P4
  refine A5 (fun h1=>?_) (fun h1=>?_)<;>simp only[h1,cond_true,cond_false]
  have h1':¬(xs.length:Int)>16:=by simpa using h1
  refine ⟨⟨(by trivial),(by trivial),by omega,hall⟩, ?_⟩
  cases C1 (P0 false xs) xs.length<;>rfl
 ·cases hr
end Go.Ev.R2
end
section
namespace Go.Ev
theorem c7h:∀(l:List Nat) (j:Nat),j<l.sum→∃(i:Nat) (c:Nat),l[i]?=some c∧(l.take i).sum≤j∧j<(l.take i).sum+c
 | [],j,h=>by simp at h
 | c::r,j,h=>by
  by_cases hj:j<c
  ·exact ⟨0,c,rfl,by simp,by simpa using hj⟩
  ·simp only[List.sum_cons] at h
   obtain ⟨i,d,h1,h2,h3⟩:=c7h r (j-c) (by omega)
   exact ⟨i+1,d,by simpa using h1,by simp only[List.take_succ_cons,List.sum_cons];omega,by simp only[List.take_succ_cons,List.sum_cons];omega⟩
end Go.Ev
namespace Go.Ev.R2
open Go Go.Ev Go.Proofs
theorem h2v:∀{xs:List D},(∀(j:Nat) a,xs[j]?=some a→Bd a)→BdL xs:=fun {xs} h=>b2k fun a ha=>by
 obtain ⟨j,hj⟩:=List.getElem?_of_mem ha
 exact h j a hj
theorem g9o {P:Program} {T:TypeId→Prop} (hT:b9w P T):∀(n:Nat) (t:TypeId) (ds:List D),T t→W2 P n t ds→BdL ds:=by
 intro n
 induction n with
 | zero=>intro t ds _ h;exact h.elim
 | succ n ih =>
  intro t ds ht h
  rcases hT.kinds t ht with ⟨fs,hu⟩|⟨hc1,hu|⟨k,hu⟩|hu|⟨e,hu⟩⟩
  ·unfold W2 at h
   rw[hu] at h
   obtain ⟨hl,hf⟩:=h
   obtain ⟨g1,g2,g3⟩:=hT.struct t fs ht hu
   refine h2v fun j a ha=>?_
   have hj:j<(fs.toList.map fun f=>P.cellsOf f.type).sum:=by
    rw[←g2, ←hl];exact (List.getElem?_eq_some_iff.1 ha).1
   obtain ⟨i,c,i1,i2,i3⟩:=c7h _ j hj
   rw[List.getElem?_map] at i1
   cases hfi:fs.toList[i]? with
   | none=>rw[hfi] at i1;cases i1
   | some f =>
    rw[hfi] at i1
    simp only[Option.map_some,Option.some.injEq] at i1
    have ho:=g3 i f hfi
    rw[←List.map_take] at i2 i3
    rw[←ho] at i2 i3
    have hfit:=hf i f (by simpa using hfi)
    refine b9x (ih f.type _ (g1 f (List.mem_of_getElem? hfi)) hfit) ?_
    refine List.mem_of_getElem? (i:=j-f.offset) ?_
    rw[List.getElem?_take_of_lt (by omega),List.getElem?_drop,show f.offset+(j-f.offset)=j by omega]
    exact ha
  ·unfold W2 at h;rw[hu] at h;obtain ⟨b,rfl⟩:=h;simp[BdL,Bd]
  ·unfold W2 at h;rw[hu] at h;obtain ⟨b,rfl,_⟩:=h;simp[BdL,Bd]
  ·unfold W2 at h;rw[hu] at h;obtain ⟨s,rfl,hs⟩:=h
   unfold reachBytes at hs
   simp only[BdL,Bd,and_true]
   omega
  ·unfold W2 at h;rw[hu] at h;obtain ⟨nil,xs,rfl,_,hx⟩:=h
   simp only[BdL,Bd,and_true]
   refine b2k fun a ha=>?_
   obtain ⟨cs,rfl,hc⟩:=hx a ha
   have hb:=ih e cs (hT.slice t e ht hu).1 hc
   unfold w8
   split
   ·simpa [Bd] using hb
   ·cases cs with
    | nil=>simp[Bd]
    | cons x r=>unfold BdL at hb;exact hb.1
end Go.Ev.R2
end
section
namespace Go.Ev.R2
open Go Go.Ev Go.Proofs Go.ChangeShapes Go.WideShapes Go.ChangeAt Go.RowKit Go.Proofs.YtnnhlphbfpnaaaaGreatDoor
set_option maxRecDepth 100000
section
variable {H : Type} {enc : TypeId × Value → H} {W : World} {B9 : Nat} {v : Value} {d : DataW H} {p : List MemPlace}
theorem f4p (hv:Value.okWide Tryz.prog W .any B9 33 v) (h:DataW.Trod enc Tryz.prog W 0 (fun _=>true) true 33 v d p) (hw:∀m∈d.weights Tryz.prog 33,m≤reachBytes) :
  ∃x,S1 W (a8z W) x v∧D1 x∧Bd x:=by
 obtain ⟨fuel,h⟩:=h
 obtain ⟨h1,h2,ds,h3,h4,h5⟩:=e8m b7d fuel 33 _ _ (by decide) h hw
 have hagg:∃cs,v= .agg cs:=by
  unfold Value.okWide at hv
  rw[Tryz.underlying33] at hv
  obtain ⟨cs,hc,_⟩:=hv
  exact ⟨cs,hc⟩
 obtain ⟨cs,rfl⟩:=hagg
 exact ⟨.agg ds, .agg h3 h2,g4x fuel fuel (Nat.le_refl _) h4,by unfold Bd;exact g9o b7d fuel 33 ds (by decide) h4⟩
end
end Go.Ev.R2
end
section
namespace Go.Ev.R2
open Go Go.Ev Go.Proofs
set_option maxRecDepth 100000
abbrev bD8 (c:Int):D:=.lit (.int .u8 c)
def qB (c:Int):List D:=bif (bif c==92 then true else c==34) then [bD8 92,bD8 c] else bif c==10 then [bD8 92,bD8 110] else [bD8 c]
def qL (s:ByteArray):Nat→Nat→List D
 | 0,_=>[]
 | n+1,i=>qB (A9 s i)++qL s n (i+1)
def c3a (s:ByteArray):List D:=[bD8 34]++qL s s.size 0++ [bD8 34]
noncomputable def K4 (s:ByteArray):ByteArray:=b3h (c3a s)
theorem c8n {s:ByteArray}:∀{n i:Nat},(qL s n i).length≤2*n
 | 0,_=>by simp[qL]
 | n+1,i=>by
  have:=c8n (s:=s) (n:=n) (i:=i+1)
  have hq:(qB (A9 s i)).length≤2:=by
   unfold qB
   cases (bif A9 s i==92 then true else A9 s i==34)<;>cases (A9 s i==10)<;>simp
  simp only[qL,List.length_append];omega
theorem e9f {s:ByteArray}:∀{n i:Nat},c5t (qL s n i)
 | 0,_=>fun d h=>by simp[qL] at h
 | n+1,i=>fun d h=>by
  simp only[qL,List.mem_append] at h
  have hb:=n7 s i
  rcases h with h|h
  ·unfold qB at h
   have h8:∀c:Int,0≤c∧c<256→a7q (bD8 c)=true:=fun c hc=>by
    simp[a7q];omega
   cases g1:(bif A9 s i==92 then true else A9 s i==34) with
   | true =>
    rw[g1] at h
    simp only[cond_true,List.mem_cons,List.not_mem_nil,or_false] at h
    rcases h with rfl|rfl
    ·exact h8 _ (by decide)
    ·exact h8 _ hb
   | false =>
    rw[g1] at h
    simp only[cond_false] at h
    cases g2:A9 s i==10 with
    | true =>
     rw[g2] at h
     simp only[cond_true,List.mem_cons,List.not_mem_nil,or_false] at h
     rcases h with rfl|rfl<;>exact h8 _ (by decide)
    | false =>
     rw[g2] at h
     simp only[cond_false,List.mem_cons,List.not_mem_nil,or_false] at h
     subst h
     exact h8 _ hb
  ·exact e9f d h
theorem c6m (s:ByteArray):c5t (c3a s):=fun d h=>by
 unfold c3a at h
 simp only[List.mem_append,List.mem_cons,List.not_mem_nil,or_false] at h
 rcases h with (rfl|h)|rfl
 ·rfl
 ·exact e9f d h
 ·rfl
theorem U7 (a b:ByteArray):(a++b).size=a.size+b.size:=by simp
abbrev uB (n:B2):Box:=.cells 73 [.opt [0,0] 0, .ref n]
abbrev wB (n:B2) (t:D) (fi:Bool):Box:=.cells 75 [.opt [0,0] 0, .ref n, .d t,A6 fi]
abbrev buf (nl:Bool) (xs:List D):Box:=.arr true nl 5 1 xs []
def UB:L4:=(a6s.add 195 c2s.sm).add 61 s61.sm
abbrev adW:List Ad:=[.opt [0,0] 0 [0,0] 0]
abbrev e4h:List (List (B2×B2)):=[[([0,0],[0,0]),([0,1],[0,1]),([2],[16])]]
abbrev W3 (nl:Bool) (xs:List D):Box:=.arr false nl 5 1 xs []
def P2 (n:Nat):Prop:=n≤70368744177664
def b8x:Sm:=⟨fun _ bs=>match bs with | [_, .arr _ _ _ _ xs _]=>P2 (xs.length+1)|_=>False,fun vals bs=>match vals,bs with
 | [.ptr [0,0] 0, .d (.lit (.int .u8 c))], [.cells 73 [.opt [0,0] 0, .ref [0,1]], .arr true nl 5 1 xs []]=>one (.d (.lit .nilIface)) [uB [2],W3 nl xs] [buf false (xs++ [bD8 c])]
 | [.ptr [0,0] 0, .d (.lit (.int .u8 c))], [.cells 75 [.opt [0,0] 0, .ref [0,1], .d t, .d (.lit (.bool fi))], .arr true nl 5 1 xs []]=>one (.d (.lit .nilIface)) [wB [2] t fi,W3 nl xs] [buf false (xs++ [bD8 c])]
 | _,_=>none⟩
def e9b:Sm:=⟨fun vals bs=>match vals,bs with | [_, .d (.lit (.string s))], [_, .arr _ _ _ _ xs _]=>P2 (xs.length+s.size)|_,_=>False,fun vals bs=>match vals,bs with
 | [.ptr [0,0] 0, .d (.lit (.string s))], [.cells 73 [.opt [0,0] 0, .ref [0,1]], .arr true nl 5 1 xs []]=>one (.d (.tup [.lit (.int .i64 s.size), .lit .nilIface])) [uB [2],W3 nl xs] [buf (nl&&(D9 s).isEmpty) (xs++D9 s)]
 | [.ptr [0,0] 0, .d (.lit (.string s))], [.cells 75 [.opt [0,0] 0, .ref [0,1], .d t, .d (.lit (.bool fi))], .arr true nl 5 1 xs []]=>one (.d (.tup [.lit (.int .i64 s.size), .lit .nilIface])) [wB [2] t fi,W3 nl xs] [buf (nl&&(D9 s).isEmpty) (xs++D9 s)]
 | _,_=>none⟩
def f9r:L4:=UB.add 152 b8x
def f9q:L4:=f9r.add 153 e9b
theorem h4b (c:Int) (nl:Bool) (xs:List D) (R:V→List Box→Prop):(F3 (Cn T13) T13 (H7 UB) 2 B8 B1 adW e4h 152 [V.ptr [0,0] 0,V.d (D.lit (Value.int IntKind.u8 c))]
 (H6 [uB [0,1],buf nl xs]) R) =
 (c2s.sm.pre [V.ptr [0,0] 0] [Box.cells 73 [V.opt [0,0] 0,V.ref [0,1]],Box.arr true nl 5 1 xs []]∧
 (bif ((xs.length+1)*1).ble 70368744177664 then
 R (V.d (D.lit Value.nilIface))
 [Box.cells 73 [V.opt [0,0] 0,V.ref [2]],Box.arr false nl 5 1 xs [],
 Box.arr true (nl&&false) 5 1 (xs++ [D.lit (Value.int IntKind.u8 c)]) []] else
 False)):=by kernel_rfl
theorem h4a (c:Int) (nl:Bool) (xs:List D) (t:D) (fi:Bool) (R:V→List Box→Prop):(F3 (Cn T13) T13 (H7 UB) 2 B8 B1 adW e4h 152 [V.ptr [0,0] 0,V.d (D.lit (Value.int IntKind.u8 c))]
 (H6 [wB [0,1] t fi,buf nl xs]) R) =
 (c2s.sm.pre [V.ptr [0,0] 0]
 [Box.cells 75 [V.opt [0,0] 0,V.ref [0,1],V.d t,A6 fi],Box.arr true nl 5 1 xs []]∧
 (bif ((xs.length+1)*1).ble 70368744177664 then
 R (V.d (D.lit Value.nilIface))
 [Box.cells 75 [V.opt [0,0] 0,V.ref [2],V.d t,A6 fi],Box.arr false nl 5 1 xs [],
 Box.arr true (nl&&false) 5 1 (xs++ [D.lit (Value.int IntKind.u8 c)]) []] else
 False)):=by kernel_rfl
abbrev e4g:List (List (B2×B2)):=[[([0,0],[0,0]),([0,1],[0,1]),([2],[16])]]
theorem h3z (s : ByteArray) (nl : Bool) (xs : List D) (R : V → List Box → Prop) : (F3 (Cn T13) T13 (H7 f9r) 2 B8 B1 adW e4g 153 [V.ptr [0, 0] 0, C6 s]
  (H6 [uB [0, 1], buf nl xs]) R) =
  (c2s.sm.pre [V.ptr [0, 0] 0] [Box.cells 73 [V.opt [0, 0] 0, V.ref [0, 1]], Box.arr true nl 5 1 xs []] ∧
  (bif ((xs.length + ((D9 s).length + 0)) * 1).ble 70368744177664 then
   R (V.d (D.tup [iD (↑s.size : Int), D.lit Value.nilIface]))
  [Box.cells 73 [V.opt [0, 0] 0, V.ref [2]], Box.arr false nl 5 1 xs [],
    Box.arr true (nl && ((D9 s).isEmpty && true)) 5 1 (xs ++ D9 s) []] else
   False)) := by kernel_rfl
theorem h3y (s : ByteArray) (nl : Bool) (xs : List D) (t : D) (fi : Bool) (R : V → List Box → Prop) : (F3 (Cn T13) T13 (H7 f9r) 2 B8 B1 adW e4g 153 [V.ptr [0, 0] 0, C6 s]
  (H6 [wB [0, 1] t fi, buf nl xs]) R) =
  (c2s.sm.pre [V.ptr [0, 0] 0]
  [Box.cells 75 [V.opt [0, 0] 0, V.ref [0, 1], V.d t, A6 fi], Box.arr true nl 5 1 xs []] ∧
  (bif ((xs.length + ((D9 s).length + 0)) * 1).ble 70368744177664 then
   R (V.d (D.tup [iD (↑s.size : Int), D.lit Value.nilIface]))
  [Box.cells 75 [V.opt [0, 0] 0, V.ref [2], V.d t, A6 fi], Box.arr false nl 5 1 xs [],
    Box.arr true (nl && ((D9 s).isEmpty && true)) 5 1 (xs ++ D9 s) []] else
   False)) := by kernel_rfl
theorem e8v:H9 B UB:=by
 refine P9 (P9 N3 fun vals bs c x y hp hf=>?_) fun vals bs c x y hp hf=>?_
 ·have hf':(match c2s.f vals bs with|some (r,bs',news)=>one r bs' news|none=>none)=some (c,x,y):=hf
  cases h:c2s.f vals bs with
  | none=>rw[h] at hf';cases hf'
  | some q =>
   obtain ⟨r,b1,b2⟩:=q
   rw[h] at hf'
   simp only[one,Option.some.injEq,Prod.mk.injEq] at hf'
   obtain ⟨rfl,rfl,rfl⟩:=hf'
   exact g4u vals bs r b1 b2 rfl h
 ·have hf':(match s61.f vals bs with|some (r,bs',news)=>one r bs' news|none=>none)=some (c,x,y):=hf
  cases h:s61.f vals bs with
  | none=>rw[h] at hf';cases hf'
  | some q =>
   obtain ⟨r,b1,b2⟩:=q
   rw[h] at hf'
   simp only[one,Option.some.injEq,Prod.mk.injEq] at hf'
   obtain ⟨rfl,rfl,rfl⟩:=hf'
   exact f6z vals bs r b1 b2 rfl h
theorem d2o {a b:Nat} (h:a≤b):Nat.ble a b=true:=by rw[Nat.ble_eq];exact h
theorem g6s:H9 B f9r:=by
 refine P9 e8v fun vals bs c x y hp hf=>?_
 unfold b8x at hp hf
 simp only[] at hp hf
 split at hf
 ·rename_i c nl xs
  simp only[one,Option.some.injEq,Prod.mk.injEq] at hf
  obtain ⟨rfl,rfl,rfl⟩:=hf
  refine F6 B9 k13 e8v (fn:=Tryz.f152) (cd:=A7 Tryz.f152) (sp:=B8) (hn:=B1) (k:=2) (ads:=adW) (ends:=e4h) Tryz.func152 (by kernel_rfl) (by kernel_rfl) (by kernel_rfl) (by kernel_rfl) A8 rfl rfl (keep (h4b c nl xs _) ?_)
  refine ⟨rfl, ?_⟩
  rw[d2o (by have:xs.length+1≤70368744177664:=hp;omega)]
  exact ⟨rfl,by simp⟩
 ·rename_i c t fi nl xs
  simp only[one,Option.some.injEq,Prod.mk.injEq] at hf
  obtain ⟨rfl,rfl,rfl⟩:=hf
  refine F6 B9 k13 e8v (fn:=Tryz.f152) (cd:=A7 Tryz.f152) (sp:=B8) (hn:=B1) (k:=2) (ads:=adW) (ends:=e4h) Tryz.func152 (by kernel_rfl) (by kernel_rfl) (by kernel_rfl) (by kernel_rfl) A8 rfl rfl (keep (h4a c nl xs t fi _) ?_)
  refine ⟨rfl, ?_⟩
  rw[d2o (by have:xs.length+1≤70368744177664:=hp;omega)]
  exact ⟨rfl,by simp⟩
 ·cases hf
theorem g6r:H9 B f9q:=by
 refine P9 g6s fun vals bs c x y hp hf=>?_
 unfold e9b at hp hf
 simp only[] at hp hf
 split at hf
 ·rename_i s nl xs
  simp only[one,Option.some.injEq,Prod.mk.injEq] at hf
  obtain ⟨rfl,rfl,rfl⟩:=hf
  refine F6 B9 k13 g6s (fn:=Tryz.f153) (cd:=A7 Tryz.f153) (sp:=B8) (hn:=B1) (k:=2) (ads:=adW) (ends:=e4g) Tryz.func153 (by kernel_rfl) (by kernel_rfl) (by kernel_rfl) (by kernel_rfl) A8 rfl rfl (keep (h3z s nl xs _) ?_)
  refine ⟨rfl, ?_⟩
  rw[d2o (by have:xs.length+s.size≤70368744177664:=hp;rw[v7];omega)]
  exact ⟨rfl,by simp⟩
 ·rename_i s t fi nl xs
  simp only[one,Option.some.injEq,Prod.mk.injEq] at hf
  obtain ⟨rfl,rfl,rfl⟩:=hf
  refine F6 B9 k13 g6s (fn:=Tryz.f153) (cd:=A7 Tryz.f153) (sp:=B8) (hn:=B1) (k:=2) (ads:=adW) (ends:=e4g) Tryz.func153 (by kernel_rfl) (by kernel_rfl) (by kernel_rfl) (by kernel_rfl) A8 rfl rfl (keep (h3y s nl xs t fi _) ?_)
  refine ⟨rfl, ?_⟩
  rw[d2o (by have:xs.length+s.size≤70368744177664:=hp;rw[v7];omega)]
  exact ⟨rfl,by simp⟩
 ·cases hf
abbrev sep:D:=.lit (.int .u8 32)
def D2 (fi:Bool) (xs:List D) (s:ByteArray):List D:=bif fi then xs++D9 s else (xs++ [sep])++D9 s
def J6 (fi nl:Bool) (s:ByteArray):Bool:=bif fi then nl&&(D9 s).isEmpty else false
def s86:Sm:=⟨fun vals bs=>match vals,bs with | [_, .d (.lit (.string s))], [_, .arr _ _ _ _ xs _]=>P2 (xs.length+1+s.size)|_,_=>False,fun vals bs=>match vals,bs with
 | [.ptr [0,0] 0, .d (.lit (.string s))], [.cells 75 [.opt [0,0] 0, .ref [0,1], .d t, .d (.lit (.bool fi))], .arr true nl 5 1 xs []]=>one (.d (.tup [])) [wB [2] t false,W3 nl xs] [buf (J6 fi nl s) (D2 fi xs s)]
 | _,_=>none⟩
def U86:L4:=f9q.add 86 s86
abbrev e4f:List (List (B2×B2)):=[[([0,0],[0,0]),([0,1],[0,1]),([2],[19,2])]]
theorem i2n (s:ByteArray) (nl:Bool) (xs:List D) (t:D) (R:V→List Box→Prop):(F3 (Cn T13) T13 (H7 f9q) 2 B8 B1 adW e4f 86 [V.ptr [0,0] 0,C6 s]
 (H6 [wB [0,1] t false,buf nl xs]) R) =
 (b8x.pre [V.ptr [0,0] 0,V.d (D.lit (Value.int IntKind.u8 32))]
 [Box.cells 75 [V.opt [0,0] 0,V.ref [0,1],V.d t,A6 false],Box.arr true nl 5 1 xs []]∧
 (e9b.pre [V.ptr [0,0] 0,C6 s]
 [Box.cells 75 [V.opt [0,0] 0,V.ref [0,1],V.d t,A6 false],
  Box.arr true false 5 1 (xs++ [D.lit (Value.int IntKind.u8 32)]) []]∧
 R (V.d (D.tup []))
 [Box.cells 75 [V.opt [0,0] 0,V.ref [2],V.d t,A6 false],Box.arr false nl 5 1 xs [],
  Box.arr true false 5 1 (xs++ [D.lit (Value.int IntKind.u8 32)]++D9 s) []])):=by kernel_rfl
theorem i2m (s:ByteArray) (nl:Bool) (xs:List D) (t:D) (R:V→List Box→Prop):(F3 (Cn T13) T13 (H7 f9q) 2 B8 B1 adW e4f 86 [V.ptr [0,0] 0,C6 s]
 (H6 [wB [0,1] t true,buf nl xs]) R) =
 (e9b.pre [V.ptr [0,0] 0,C6 s]
 [Box.cells 75 [V.opt [0,0] 0,V.ref [0,1],V.d t,A6 true],Box.arr true nl 5 1 xs []]∧
 R (V.d (D.tup []))
 [Box.cells 75 [V.opt [0,0] 0,V.ref [2],V.d t,A6 false],Box.arr false nl 5 1 xs [],
  Box.arr true (nl&&(D9 s).isEmpty) 5 1 (xs++D9 s) []]):=by kernel_rfl
theorem q86:H9 B U86:=by
 refine P9 g6r fun vals bs c x y hp hf=>?_
 unfold s86 at hp hf
 simp only[] at hp hf
 split at hf
 ·rename_i s t fi nl xs
  simp only[one,Option.some.injEq,Prod.mk.injEq] at hf
  obtain ⟨rfl,rfl,rfl⟩:=hf
  have hr:xs.length+1+s.size≤70368744177664:=hp
  cases fi
  ·refine F6 B9 k13 g6r (fn:=Tryz.f86) (cd:=A7 Tryz.f86) (sp:=B8) (hn:=B1) (k:=2) (ads:=adW) (ends:=e4f) Tryz.func86 (by kernel_rfl) (by kernel_rfl) (by kernel_rfl) (by kernel_rfl) A8 rfl rfl (keep (i2n s nl xs t _) ?_)
   refine ⟨?_, ?_,rfl,rfl⟩
   ·show xs.length+1≤70368744177664
    omega
   ·show (xs++ [D.lit (Value.int IntKind.u8 32)]).length+s.size≤70368744177664
    simp only[List.length_append,List.length_cons,List.length_nil]
    omega
  ·refine F6 B9 k13 g6r (fn:=Tryz.f86) (cd:=A7 Tryz.f86) (sp:=B8) (hn:=B1) (k:=2) (ads:=adW) (ends:=e4f) Tryz.func86 (by kernel_rfl) (by kernel_rfl) (by kernel_rfl) (by kernel_rfl) A8 rfl rfl (keep (i2m s nl xs t _) ?_)
   refine ⟨?_,rfl,rfl⟩
   show xs.length+s.size≤70368744177664
   omega
 ·cases hf
def c3x (n:Int):Prop:= -9223372036854775808≤n∧n≤9223372036854775807
def g9 (n:Int):ByteArray:=⟨(b6b n).toArray⟩
noncomputable def h7y:Ct:=⟨fun | [.lit (.int .i64 n)]=>c3x n|_=>False,fun | [.lit (.int .i64 n)]=>some (.lit (.string (g9 n)))|_=>none⟩
noncomputable def b2i:Tab:=T14.add 155 h7y
def s94:Sm:=⟨fun vals bs=>match vals,bs with | [_, .d (.lit (.int .i64 n))], [_, .arr _ _ _ _ xs _]=>c3x n∧P2 (xs.length+1+(g9 n).size)|_,_=>False,fun vals bs=>match vals,bs with
 | [.ptr [0,0] 0, .d (.lit (.int .i64 n))], [.cells 75 [.opt [0,0] 0, .ref [0,1], .d t, .d (.lit (.bool fi))], .arr true nl 5 1 xs []]=>one (.d (.tup [])) [wB [2] t false,W3 nl xs] [buf (J6 fi nl (g9 n)) (D2 fi xs (g9 n))]
 | _,_=>none⟩
def U94:L4:=U86.add 94 s94
abbrev g5f:List (List (B2×B2)):=[[([0,0],[0,0]),([0,1],[0,1]),([2],[9,2])]]
theorem w94 (n:Int) (nl:Bool) (fi:Bool) (xs:List D) (t:D) (R:V→List Box→Prop):(F3 (Cn b2i) b2i (H7 U86) 2 B8 B1 adW g5f 94 [V.ptr [0,0] 0,A3 n]
 (H6 [wB [0,1] t fi,buf nl xs]) R) =
 ((((-9223372036854775808:Int)≤n)∧((n:Int)≤9223372036854775807))∧
 (s86.pre [V.ptr [0,0] 0,C6 (g9 n)]
 [Box.cells 75 [V.opt [0,0] 0,V.ref [0,1],V.d t,A6 fi],Box.arr true nl 5 1 xs []]∧
 R (V.d (D.tup []))
 [Box.cells 75 [V.opt [0,0] 0,V.ref [2],V.d t,A6 false],Box.arr false nl 5 1 xs [],
 Box.arr true (J6 fi nl (g9 n)) 5 1 (D2 fi xs (g9 n)) []])):=by kernel_rfl
theorem d4w:C3 B b2i:=by
 refine Y8 k14 fun ds r hp hr=>?_
 unfold h7y at hp hr
 simp only[] at hr hp
 split at hr
 ·rename_i n
  obtain ⟨h0,h1⟩:c3x n:=hp
  refine (h6z ?_).of rfl rfl
  cases hr
  show (bif decide (-9223372036854775808≤n)&&decide (n≤9223372036854775807) then some (Y2 (b6b n)) else none)=_
  rw[decide_eq_true h0,decide_eq_true h1]
  rfl
 ·cases hr
theorem q94:H9 B U94:=by
 refine P9 q86 fun vals bs c x y hp hf=>?_
 unfold s94 at hp hf
 simp only[] at hp hf
 split at hf
 ·rename_i n t fi nl xs
  simp only[one,Option.some.injEq,Prod.mk.injEq] at hf
  obtain ⟨rfl,rfl,rfl⟩:=hf
  obtain ⟨hn,hr⟩:=hp
  refine F6 B9 d4w q86 (fn:=Tryz.f94) (cd:=A7 Tryz.f94) (sp:=B8) (hn:=B1) (k:=2) (ads:=adW) (ends:=g5f) Tryz.func94 (by kernel_rfl) (by kernel_rfl) (by kernel_rfl) (by kernel_rfl) A8 rfl rfl (keep (w94 n nl fi xs t _) ?_)
  exact ⟨hn,hr,rfl,rfl⟩
 ·cases hf
end Go.Ev.R2
end
section
namespace Go.Ev
end Go.Ev
end
section
namespace Go.Ev.R2
open Go Go.Ev Go.Proofs
set_option maxRecDepth 100000
theorem w59 (y:D) (p:V→Prop):(B6 (Cn T82) T82 D5 0 B8 B1 59 [V.d (gV y)] B3.empty fun v H=>p (B4 H v)) =
 (bif bif decide (A1 (A0 y 0)<1) then true else decide (A1 (A0 y 0)>8) then
 p (A3 8) else
 (bif bif
 bif
 bif
 bif !decide (A1 (A0 y 0)≤3) then !(A4 (A0 y 1)).toList==(ByteArray.mk #[]).toList
 else false then
 true
 else !decide (A1 (A0 y 0)≥6)==decide ((↑(A2 (A0 y 3)).length:Int)>0) then
 true
 else !(A1 (A0 y 0)==5)==decide ((↑(A2 (A0 y 2)).length:Int)>0) then
 true
 else bif decide (A1 (A0 y 0)≤2) then (A4 (A0 y 1)).toList==(ByteArray.mk #[]).toList else false then
 p (A3 1) else
 (bif bif decide (A1 (A0 y 0)≤2) then decide ((↑(A4 (A0 y 1)).size:Int)>200) else false then
 p (A3 4) else
 (True∧
 (bif bif A1 (A0 y 0)==3 then rxQ (A4 (A0 y 1)) !=0 else false then
 p (A3 (rxQ (A4 (A0 y 1)))) else
 ((3=3∧∀(y_1:D),y_1∈A2 (A0 y 2)→w3 y_1∧Bd y_1)∧
 (bif G1 (A2 (A0 y 2)) !=0 then
 p (A3 (G1 (A2 (A0 y 2)))) else
 ((1=1∧∀(y_1:D),y_1∈A2 (A0 y 3)→a3a y_1∧Bd y_1)∧
 p (A3 (P4 (A2 (A0 y 3)) false)))))))))):=by kernel_rfl
noncomputable def d7t (y:D):Int :=
 (bif bif decide (A1 (A0 y 0)<1) then true else decide (A1 (A0 y 0)>8) then
 8 else
 (bif bif
 bif
 bif
 bif !decide (A1 (A0 y 0)≤3) then !(A4 (A0 y 1)).toList==(ByteArray.mk #[]).toList
 else false then
 true
 else !decide (A1 (A0 y 0)≥6)==decide ((↑(A2 (A0 y 3)).length:Int)>0) then
 true
 else !(A1 (A0 y 0)==5)==decide ((↑(A2 (A0 y 2)).length:Int)>0) then
 true
 else bif decide (A1 (A0 y 0)≤2) then (A4 (A0 y 1)).toList==(ByteArray.mk #[]).toList else false then
 1 else
 (bif bif decide (A1 (A0 y 0)≤2) then decide ((↑(A4 (A0 y 1)).size:Int)>200) else false then
 4 else
 (bif bif A1 (A0 y 0)==3 then rxQ (A4 (A0 y 1)) !=0 else false then
 (rxQ (A4 (A0 y 1))) else
 (bif G1 (A2 (A0 y 2)) !=0 then
 (G1 (A2 (A0 y 2))) else
 (P4 (A2 (A0 y 3)) false))))))
noncomputable def c59:Ct:=⟨fun | [x]=>a2a x∧Bd x|_=>False,fun | [x]=>some (.lit (.int .i64 (W0 x)))|_=>none⟩
noncomputable def T59:Tab:=T82.add 59 c59
noncomputable def l26:Code:=D7 (C5 (A7 Tryz.f26) 8)
theorem b26 (xs:List D) (i:Int) (b:Bool) (R:X→List V→List Box→Prop):(E1 (Cn T59) T59 D5 0 B8 B1 l26 22 [0,3] [] [] [] [2] [] [V.d (D.slice b 4 xs),A3 i] [] R) =
 (bif decide (i<(↑xs.length:Int)) then
 ((((0:Int)≤i)∧(i.toNat<xs.length∧gV (xs.getD i.toNat D.any)=xs.getD i.toNat D.any))∧
 ((a2a (gV (xs.getD i.toNat D.any))∧Bd (gV (xs.getD i.toNat D.any)))∧
 (bif W0 (gV (xs.getD i.toNat D.any)) !=0 then
 (22=22∧
 R X.ret [A3 (W0 (gV (xs.getD i.toNat D.any)))] []) else
 (22=22∧
 R X.normal [V.d (D.slice b 4 xs),A3 (IntKind.i64.wrap (i+1))] [])))) else
 (22=22∧
 R (X.exit 0) [V.any] [])):=by kernel_rfl
noncomputable def S26:Ev.Spec:={L:=[0,3],ns:=[],L':=[2],nm':=[],G:=fun N vals bs k=>match vals,bs with
 | [.d (.slice b 4 xs), .d (.lit (.int .i64 i))], []=>(N=22∧i=0∧xs.length≤100∧∀y∈xs,a2a y∧Bd y)∧S3 (C1 (C9 W0 xs) xs.length) (k (.exit 0) [.any] []) (fun e=>k .ret [A3 e] [])
 | _,_=>False }
theorem w26 (xs:List D) (b:Bool) (p:V→Prop):(B6 (Cn T59) T59 D5 0 (spL [(8,S26)]) B1 26 [V.d (D.slice b 4 xs)] B3.empty fun v H=>p (B4 H v)) =
 (bif decide ((↑xs.length:Int)>100) then
 p (A3 4) else
 ((22=22∧(((0:Int)=0)∧(xs.length≤100∧∀(y:D),y∈xs→a2a y∧Bd y)))∧
 (match C1 (C9 W0 xs) xs.length with
 | some y0 =>
 p (A3 y0)
 | none=>p (A3 0)))):=by kernel_rfl
noncomputable def c26:Ct:=⟨fun | [.slice _ z xs]=>z=4∧∀y∈xs,a2a y∧Bd y|_=>False,fun | [.slice _ _ xs]=>some (.lit (.int .i64 (V4 xs)))|_=>none⟩
noncomputable def T26:Tab:=T59.add 26 c26
theorem i5g (s:ByteArray) (p:V→Prop):(B6 (Cn T26) T26 D5 0 B8 B1 146 [C6 s] B3.empty fun v H=>p (B4 H v)) =
 p
 (A6 (bif s.toList==(ByteArray.mk #[115,116,97,116,117,115]).toList then true
 else s.toList==(ByteArray.mk #[100,117,114,97,116,105,111,110]).toList)):=by kernel_rfl
noncomputable def g2x:Tab:=T26.add 146 c143
theorem i5h (s:ByteArray) (p:V→Prop):(B6 (Cn g2x) g2x D5 0 B8 B1 145 [C6 s] B3.empty fun v H=>p (B4 H v)) =
 (((!decide ((↑s.size:Int)<6)&&true)=true→(((0:Int)≤5)∧5≤s.size))∧
 (bif bif decide ((↑s.size:Int)<6) then true
 else !(s.extract 0 (Int.toNat 5)).toList==(ByteArray.mk #[97,116,116,114,46]).toList then
 p (V.d (D.tup [zD (bA []),oD false])) else
 ((((0:Int)≤5)∧5≤s.size)∧
 ((((0:Int)≤5)∧5≤s.size)∧
 ((s.extract 5 s.size).size.le 1152921504606846976∧
 p (V.d (D.tup [zD (s.extract 5 s.size),oD (H8 (s.extract 5 s.size))]))))))):=by kernel_rfl
def f4m:ByteArray:=ByteArray.mk #[97,116,116,114,46]
def c7w (s:ByteArray):Bool:=bif (bif decide ((s.size:Int)<6) then true else !((s.extract 0 5).toList==f4m.toList)) then false else H8 (s.extract 5 s.size)
noncomputable def c145:Ct:=⟨fun | [.lit (.string s)]=>s.size≤1152921504606846976|_=>False,fun | [.lit (.string s)]=>some (.tup [.lit (.string (bif (bif decide ((s.size:Int)<6) then true else !((s.extract 0 5).toList==f4m.toList)) then (ByteArray.mk #[]) else s.extract 5 s.size)), .lit (.bool (c7w s))])|_=>none⟩
noncomputable def g2y:Tab:=g2x.add 145 c145
theorem w76 (y:D) (p:V→Prop):(B6 (Cn g2y) g2y D5 0 B8 B1 76 [V.d (cV y)] B3.empty fun v H=>p (B4 H v)) =
 ((A4 (A0 y 0)).size.le 1152921504606846976∧
 (True∧
 (bif bif
 bif
 bif !K0 (A4 (A0 y 0)) then
 !(A4 (A0 y 0)).toList==(ByteArray.mk #[115,101,114,118,105,99,101]).toList
 else false then
 !(A4 (A0 y 0)).toList==(ByteArray.mk #[110,97,109,101]).toList
 else false then
 !c7w (A4 (A0 y 0))
 else false then
 p (A3 5) else
 (True∧
 (bif K0 (A4 (A0 y 0)) then
 (bif bif bif bif A1 (A0 y 1) !=1 then A1 (A0 y 1) !=2 else false then A1 (A0 y 1) !=5 else false then
 A1 (A0 y 1) !=6
 else false then
 p (A3 8) else
 (bif !(A4 (A0 y 2)).toList==(ByteArray.mk #[]).toList then
 p (A3 1) else
 (bif bif decide (A1 (A0 y 3)<0) then true else decide (A1 (A0 y 3)>1099511627776) then
 p (A3 2) else
 p (A3 0)))) else
 (bif bif decide (A1 (A0 y 1)<1) then true else decide (A1 (A0 y 1)>4) then
 p (A3 8) else
 (bif A1 (A0 y 3) !=0 then
 p (A3 1) else
 (bif bif decide (A1 (A0 y 1)≤2) then decide ((↑(A4 (A0 y 2)).size:Int)>200) else false then
 p (A3 4) else
 (bif decide (A1 (A0 y 1)≤2) then
 p (A3 0) else
 (True∧
 p (A3 (rxQ (A4 (A0 y 2)))))))))))))):=by kernel_rfl
noncomputable def f3w (y:D):Int :=
 (bif bif
 bif
 bif !K0 (A4 (A0 y 0)) then
 !(A4 (A0 y 0)).toList==(ByteArray.mk #[115,101,114,118,105,99,101]).toList
 else false then
 !(A4 (A0 y 0)).toList==(ByteArray.mk #[110,97,109,101]).toList
 else false then
 !c7w (A4 (A0 y 0))
 else false then
 5 else
 (bif K0 (A4 (A0 y 0)) then
 (bif bif bif bif A1 (A0 y 1) !=1 then A1 (A0 y 1) !=2 else false then A1 (A0 y 1) !=5 else false then
 A1 (A0 y 1) !=6
 else false then
 8 else
 (bif !(A4 (A0 y 2)).toList==(ByteArray.mk #[]).toList then
 1 else
 (bif bif decide (A1 (A0 y 3)<0) then true else decide (A1 (A0 y 3)>1099511627776) then
 2 else
 0))) else
 (bif bif decide (A1 (A0 y 1)<1) then true else decide (A1 (A0 y 1)>4) then
 8 else
 (bif A1 (A0 y 3) !=0 then
 1 else
 (bif bif decide (A1 (A0 y 1)≤2) then decide ((↑(A4 (A0 y 2)).size:Int)>200) else false then
 4 else
 (bif decide (A1 (A0 y 1)≤2) then
 0 else
 (rxQ (A4 (A0 y 2)))))))))
noncomputable def c76:Ct:=⟨fun | [x]=>a3m x∧Bd x|_=>False,fun | [x]=>some (.lit (.int .i64 (P1 x)))|_=>none⟩
noncomputable def T76:Tab:=g2y.add 76 c76
theorem f4f (r:Int):(bif r !=0 then r else 0)=r:=by
 by_cases h:r=0
 ·subst h;rfl
 ·have:(r !=0)=true:=by simpa using h
  rw[this];rfl
theorem c9c {xs:List D} (h:decide ((xs.length:Int)>0)=false):xs= []:=by
 simp only[decide_eq_false_iff_not] at h
 cases xs with
 | nil=>rfl
 | cons a l=>simp only[List.length_cons] at h;omega
theorem e8s (y:D):d7t y=W0 y:=by
 unfold d7t W0
 rw[e9d]
 have hm:decide ((↑(A2 (A0 y 2)).length:Int)>0)=false→G1 (A2 (A0 y 2))=0:=fun h=>by rw[c9c h];rfl
 have hn:decide ((↑(A2 (A0 y 3)).length:Int)>0)=false→P4 (A2 (A0 y 3)) false=0:=fun h=>by rw[c9c h];rfl
 generalize decide ((↑(A2 (A0 y 2)).length:Int)>0)=m at hm ⊢
 generalize decide ((↑(A2 (A0 y 3)).length:Int)>0)=n at hn ⊢
 generalize G1 (A2 (A0 y 2))=M at hm ⊢
 generalize P4 (A2 (A0 y 3)) false=N at hn ⊢
 generalize ((A4 (A0 y 1)).toList==(ByteArray.mk #[]).toList)=t
 generalize decide ((↑(A4 (A0 y 1)).size:Int)>200)=g
 generalize a6g (A4 (A0 y 1))=r
 generalize A1 (A0 y 0)=k
 by_cases h1:k<1
 ·simp[h1]
 ·by_cases h2:k>8
  ·simp[h1,h2]
  ·have h3:k=1∨k=2∨k=3∨k=4∨k=5∨k=6∨k=7∨k=8:=by omega
   rcases h3 with rfl|rfl|rfl|rfl|rfl|rfl|rfl|rfl<;>cases m<;>cases n<;>cases t<;>cases g<;>simp_all [f4f]
theorem k59:C3 B T59:=by
 refine C4 B9 k82 (fn:=Tryz.f59) (cd:=A7 Tryz.f59) (sp:=B8) (hn:=B1) Tryz.func59 (by kernel_rfl) (by kernel_rfl) A8 fun ds r hp hr=>?_
 unfold c59 at hp hr
 simp only[] at hr hp
 split at hr
 ·rename_i x
  cases hr
  rw[X9 hp.1.v, ←e8s]
  refine keep (w59 x fun v=>v=_) ?_
  unfold d7t
  have h2:∀y∈A2 (A0 x 2),w3 y∧Bd y:=fun y hy=>⟨hp.1.m y hy,hp.2.sub hy⟩
  have h3:∀y∈A2 (A0 x 3),a3a y∧Bd y:=fun y hy=>⟨hp.1.n y hy,hp.2.sub hy⟩
  (repeat' (first|with_reducible rfl | (refine A5 (fun hcw=>?_) (fun hcw=>?_)<;>simp only[hcw,cond_true,cond_false])|refine V8 ?_ ?_))
  all_goals first|trivial|assumption
 ·cases hr
theorem i7t:OkS (Cn T59) 0 (.loop l26) S26:=by
 refine D0 fun N vals bs K h=>?_
 simp only[S26] at h
 split at h
 case h_2=>exact h.elim
 rename_i b xs i
 obtain ⟨⟨rfl,rfl,h16,hall⟩,h⟩:=h
 refine G0 (D3 B9 k59 C2) C0 A8 (hn:=B1) (adsI:=[]) (nsI:=[]) (nsX:=[]) rfl rfl xs.length
  (fun i=>[.d (.slice b 4 xs),A3 i]) (fun _=>[]) (C9 W0 xs) (fun e=>(.ret, [A3 e], [])) (by simp) (.exit 0) [.any] [] (by simp) ?_ ?_ h
 ·intro i R hi hR
  refine keep (b26 xs i b R) ?_
  have e1:decide ((i:Int)<xs.length)=true:=by simp;omega
  have e2:IntKind.i64.wrap ((i:Int)+1)=((i+1:Nat):Int):=by rw[Go.IntWalk.i64_in _ (by omega)];omega
  have hv:=hall _ (D8 hi)
  rw[e1]
  simp only[Int.toNat_natCast,e2,cond_true,hv.1.v]
  refine ⟨⟨by omega,hi,(by trivial)⟩,hv,A5 (fun h1=>⟨(by trivial), ?_⟩) (fun h1=>⟨(by trivial), ?_⟩)⟩<;>(simp only[C9,h1,cond_true,cond_false,S3] at hR;exact hR)
 ·intro R hR
  refine keep (b26 xs xs.length b R) ?_
  have e1:decide ((xs.length:Int)<xs.length)=false:=by simp
  rw[e1]
  exact ⟨(by trivial),hR⟩
theorem k26:C3 B T26:=by
 refine C4 B9 k59 (fn:=Tryz.f26) (cd:=A7 Tryz.f26) (sp:=spL [(8,S26)]) (hn:=B1) Tryz.func26 (by kernel_rfl) (by kernel_rfl) (B7 (c:=.loop l26) (by kernel_rfl) i7t C8) fun ds r hp hr=>?_
 unfold c26 at hp hr
 simp only[] at hr hp
 split at hr
 ·rename_i b z xs
  cases hr
  obtain ⟨rfl,hall⟩:=hp
  refine keep (w26 xs b fun v=>v=_) ?_
  unfold V4
  refine A5 (fun h1=>?_) (fun h1=>?_)<;>simp only[h1,cond_true,cond_false]
  have h1':¬(xs.length:Int)>100:=by simpa using h1
  refine ⟨⟨(by trivial),(by trivial),by omega,hall⟩, ?_⟩
  cases C1 (C9 W0 xs) xs.length<;>rfl
 ·cases hr
theorem i8y:C3 B g2x:=by
 refine C4 B9 k26 (fn:=Tryz.f146) (cd:=A7 Tryz.f146) (sp:=B8) (hn:=B1) Tryz.func146 (by kernel_rfl) (by kernel_rfl) A8 fun ds r hp hr=>?_
 unfold c143 at hr
 simp only[] at hr
 split at hr
 ·rename_i s
  cases hr
  refine keep (i5g s fun v=>v=_) ?_
  unfold K0
  first|rfl|rw[a6a]
 ·cases hr
theorem i8z:C3 B g2y:=by
 refine C4 B9 i8y (fn:=Tryz.f145) (cd:=A7 Tryz.f145) (sp:=B8) (hn:=B1) Tryz.func145 (by kernel_rfl) (by kernel_rfl) A8 fun ds r hp hr=>?_
 unfold c145 at hp hr
 simp only[] at hr hp
 split at hr
 ·rename_i s
  cases hr
  refine keep (i5h s fun v=>v=_) ?_
  unfold c7w f4m
  refine ⟨fun g=>?_,A5 (fun hc=>?_) (fun hc=>?_)⟩
  ·simp only[Bool.and_true,Bool.not_eq_true',decide_eq_false_iff_not] at g
   omega
  ·have hc':(bif decide ((s.size:Int)<6) then true else !((s.extract 0 5).toList==(ByteArray.mk #[97,116,116,114,46]).toList))=true:=hc
   rw[hc'];rfl
  ·have hc':(bif decide ((s.size:Int)<6) then true else !((s.extract 0 5).toList==(ByteArray.mk #[97,116,116,114,46]).toList))=false:=hc
   have:=(a3u hc').1
   simp only[decide_eq_false_iff_not] at this
   have hs:(s.extract 5 s.size).size≤1152921504606846976:=by
    have hp:s.size≤1152921504606846976:=hp
    rw[ByteArray.size_extract];omega
   rw[hc']
   exact ⟨⟨by omega,by omega⟩,⟨by omega,by omega⟩,d4u hs,(by trivial)⟩
 ·cases hr
theorem c9i {s:ByteArray} (h:s.size=0):H8 s=false:=by unfold H8;simp[h]
theorem f9i (s:ByteArray):c7w s=(bif P6 s (ByteArray.mk (Array.mk [97,116,116,114,46])) then H8 (bif P6 s (ByteArray.mk (Array.mk [97,116,116,114,46])) then s.extract 5 s.size else s) else false):=by
 unfold c7w P6
 have e0:(ByteArray.mk (Array.mk [97,116,116,114,46])).size=5:=rfl
 rw[e0]
 show (bif (bif decide ((s.size:Int)<6) then true else !(eqS (s.extract 0 5) (ByteArray.mk (Array.mk [97,116,116,114,46])))) then false else H8 (s.extract 5 s.size))=_
 generalize eqS (s.extract 0 5) (ByteArray.mk (Array.mk [97,116,116,114,46]))=q
 by_cases h:s.size<6
 ·have d1:decide ((s.size:Int)<6)=true:=by simp;omega
  rw[d1]
  by_cases h5:s.size=5
  ·have hn:H8 (s.extract 5 s.size)=false:=c9i (by rw[ByteArray.size_extract];omega)
   have d2:decide (5≤s.size)=true:=by simp;omega
   rw[d2]
   cases q with
   | false=>rfl
   | true=>exact hn.symm
  ·have d2:decide (5≤s.size)=false:=by simp;omega
   rw[d2];rfl
 ·have d1:decide ((s.size:Int)<6)=false:=by simp;omega
  have d2:decide (5≤s.size)=true:=by simp;omega
  rw[d1,d2]
  cases q<;>rfl
theorem f8z (y:D):f3w y=P1 y:=by
 unfold f3w P1
 rw[f9i,e9d]
 generalize (bif P6 (A4 (A0 y 0)) (ByteArray.mk (Array.mk [97,116,116,114,46])) then H8 (bif P6 (A4 (A0 y 0)) (ByteArray.mk (Array.mk [97,116,116,114,46])) then (A4 (A0 y 0)).extract 5 (A4 (A0 y 0)).size else A4 (A0 y 0)) else false)=c
 generalize K0 (A4 (A0 y 0))=n
 generalize ((A4 (A0 y 0)).toList==(ByteArray.mk #[115,101,114,118,105,99,101]).toList)=a
 generalize ((A4 (A0 y 0)).toList==(ByteArray.mk #[110,97,109,101]).toList)=b
 generalize ((A4 (A0 y 2)).toList==(ByteArray.mk #[]).toList)=t
 generalize decide ((↑(A4 (A0 y 2)).size:Int)>200)=g
 generalize a6g (A4 (A0 y 2))=r
 generalize A1 (A0 y 1)=k
 generalize A1 (A0 y 3)=m
 cases n with
 | true=>cases a<;>cases b<;>cases c<;>rfl
 | false =>
  have key:∀(z:Int),(bif (bif decide (k<1) then true else decide (k>4)) then 8 else (bif m !=0 then 1 else (bif (bif decide (k≤2) then g else false) then 4 else (bif decide (k≤2) then 0 else r))))=(bif (bif decide (k<1) then true else decide (k>4)) then 8 else (bif m !=0 then 1 else (bif decide (k≥3) then r else (bif g then 4 else 0)))):=fun _=>by
   by_cases h:k≤2
   ·have h':¬k≥3:=by omega
    simp[h,h']
   ·have h':k≥3:=by omega
    simp[h,h']
  cases a<;>cases b<;>cases c<;>first|rfl|exact key 0
theorem k76:C3 B T76:=by
 refine C4 B9 i8z (fn:=Tryz.f76) (cd:=A7 Tryz.f76) (sp:=B8) (hn:=B1) Tryz.func76 (by kernel_rfl) (by kernel_rfl) A8 fun ds r hp hr=>?_
 unfold c76 at hp hr
 simp only[] at hr hp
 split at hr
 ·rename_i x
  cases hr
  rw[X9 (show cV x=x from hp.1), ←f8z]
  refine keep (w76 x fun v=>v=_) ?_
  unfold f3w
  have hb:=hp.2.str 0
  (repeat' (first|with_reducible rfl | (refine A5 (fun hcw=>?_) (fun hcw=>?_)<;>simp only[hcw,cond_true,cond_false])|refine V8 ?_ ?_))
  all_goals first|trivial|exact d4u hb
 ·cases hr
noncomputable def U56 (κ:Nat):Tab:=T76.add 56 (c54.below μ1 κ)
noncomputable def T56:Tab:=T76.add 56 c54
noncomputable def l56:Code:=D7 (C5 (A7 Tryz.f56) 6)
theorem b56 (κ:Nat) (q:Int) (cs:List D) (xs:List D) (b1:Bool) (b2:Bool) (i:Int) (m:Int) (R:X→List V→List Box→Prop):(E1 (Cn (U56 κ)) (U56 κ) D5 0 B8 B1 l56 22 [1,3,4] [[5000]] [] [([5000], [5000])] [3] []
 [V.ptr [5000] 0,A3 m,A3 i] [u6 q b1 cs b2 xs] R) =
 (bif decide (i<(↑xs.length:Int)) then
 ((((0:Int)≤i)∧(i.toNat<xs.length∧pV (xs.getD i.toNat D.any)=xs.getD i.toNat D.any))∧
 (((J1 (pV (xs.getD i.toNat D.any))∧N6 (pV (xs.getD i.toNat D.any))≤100)∧μ1 [pV (xs.getD i.toNat D.any)]<κ)∧
 (22=22∧
 R X.normal
 [V.ptr [5000] 0,
 A3 (bif true then
 if (↑(Y0 (pV (xs.getD i.toNat D.any))):Int)>m then (↑(Y0 (pV (xs.getD i.toNat D.any))):Int) else m
 else
 if (↑(Y0 (pV (xs.getD i.toNat D.any))):Int)<m then (↑(Y0 (pV (xs.getD i.toNat D.any))):Int)
 else m),
 A3 (IntKind.i64.wrap (i+1))]
 [Box.cells 30 [A3 q,V.d (D.slice b1 4 cs),V.d (D.slice b2 3 xs)]]))) else
 (22=22∧
 R (X.exit 0) [A3 m] [])):=by kernel_rfl
noncomputable def S56 (κ:Nat):Ev.Spec:={L:=[1,3,4],ns:=[([5000],[3])],L':=[3],nm':=[],G:=fun N vals bs k=>match vals,bs with
 | [.ptr [5000] 0, .d (.lit (.int .i64 m)), .d (.lit (.int .i64 i))], [.cells 30 [.d (.lit (.int .i64 q)), .d (.slice b1 4 cs), .d (.slice b2 3 xs)]]=>(N=22∧i=0∧m=0∧xs.length≤100∧∀y∈xs,(J1 y∧N6 y≤100)∧dsz y<κ)∧k (.exit 0) [A3 (U0 (xs.map Y0):Nat)] []
 | _,_=>False }
theorem w56 (κ:Nat) (y:D) (p:V→Prop):(B6 (Cn (U56 κ)) (U56 κ) D5 0 (spL [(6,S56 κ)]) B1 56 [V.d (pV y)] B3.empty fun v H=>p (B4 H v)) =
 ((22=22∧(((0:Int)=0)∧(((0:Int)=0)∧((A2 (A0 y 2)).length≤100∧∀(y_1:D),y_1∈A2 (A0 y 2)→(J1 y_1∧N6 y_1≤100)∧dsz y_1<κ))))∧
 p (A3 (IntKind.i64.wrap ((↑(U0 (List.map Y0 (A2 (A0 y 2)))):Int)+1)))):=by kernel_rfl
noncomputable def c57:Ct:=⟨fun | [x]=>J1 x∧Bd x|_=>False,fun | [x]=>some (.lit (.int .i64 (f0 x)))|_=>none⟩
noncomputable def U57 (κ:Nat):Tab:=T56.add 57 (c57.below μ1 κ)
noncomputable def T57:Tab:=T56.add 57 c57
noncomputable def g7t:Code:=D7 (C5 (A7 Tryz.f57) 26)
noncomputable def g7s:Code:=D7 (C5 (A7 Tryz.f57) 38)
theorem h8z (κ:Nat) (q:Int) (cs:List D) (xs:List D) (b1:Bool) (b2:Bool) (i:Int) (R:X→List V→List Box→Prop):(E1 (Cn (U57 κ)) (U57 κ) D5 0 B8 B1 g7t 74 [1,4] [[5000]] [] [([5000], [5000])] [1,2] [([5000], [5000])]
 [V.ptr [5000] 0,A3 i] [u6 q b1 cs b2 xs] R) =
 (bif decide (i<(↑cs.length:Int)) then
 ((((0:Int)≤i)∧(i.toNat<cs.length∧cV (cs.getD i.toNat D.any)=cs.getD i.toNat D.any))∧
 ((a3m (cV (cs.getD i.toNat D.any))∧Bd (cV (cs.getD i.toNat D.any)))∧
 (bif P1 (cV (cs.getD i.toNat D.any)) !=0 then
 (74=74∧
 R X.ret [V.ptr [5000] 0,A3 (P1 (cV (cs.getD i.toNat D.any)))]
 [Box.cells 30 [A3 q,V.d (D.slice b1 4 cs),V.d (D.slice b2 3 xs)]]) else
 (74=74∧
 R X.normal [V.ptr [5000] 0,A3 (IntKind.i64.wrap (i+1))]
 [Box.cells 30 [A3 q,V.d (D.slice b1 4 cs),V.d (D.slice b2 3 xs)]])))) else
 (74=74∧
 R (X.exit 0) [V.ptr [5000] 0,V.any]
 [Box.cells 30 [A3 q,V.d (D.slice b1 4 cs),V.d (D.slice b2 3 xs)]])):=by kernel_rfl
theorem h8y (κ:Nat) (q:Int) (cs:List D) (xs:List D) (b1:Bool) (b2:Bool) (i:Int) (R:X→List V→List Box→Prop):(E1 (Cn (U57 κ)) (U57 κ) D5 0 B8 B1 g7s 74 [1,6] [[5000]] [] [([5000], [5000])] [2] []
 [V.ptr [5000] 0,A3 i] [u6 q b1 cs b2 xs] R) =
 (bif decide (i<(↑xs.length:Int)) then
 ((((0:Int)≤i)∧(i.toNat<xs.length∧pV (xs.getD i.toNat D.any)=xs.getD i.toNat D.any))∧
 (((J1 (pV (xs.getD i.toNat D.any))∧Bd (pV (xs.getD i.toNat D.any)))∧μ1 [pV (xs.getD i.toNat D.any)]<κ)∧
 (bif f0 (pV (xs.getD i.toNat D.any)) !=0 then
 (74=74∧
 R X.ret [A3 (f0 (pV (xs.getD i.toNat D.any)))] []) else
 (74=74∧
 R X.normal [V.ptr [5000] 0,A3 (IntKind.i64.wrap (i+1))]
 [Box.cells 30 [A3 q,V.d (D.slice b1 4 cs),V.d (D.slice b2 3 xs)]])))) else
 (74=74∧
 R (X.exit 2) [V.any] [])):=by kernel_rfl
noncomputable def g3p:Ev.Spec:={L:=[1,4],ns:=[([5000],[3])],L':=[1,2],nm':=[[5000]],G:=fun N vals bs k=>match vals,bs with
 | [.ptr [5000] 0, .d (.lit (.int .i64 i))], [.cells 30 [.d (.lit (.int .i64 q)), .d (.slice b1 4 cs), .d (.slice b2 3 xs)]]=>(N=74∧i=0∧cs.length≤16∧∀y∈cs,a3m y∧Bd y)∧S3 (C1 (C9 P1 cs) cs.length) (k (.exit 0) [.ptr [5000] 0, .any] [u6 q b1 cs b2 xs]) (fun e=>k .ret [.ptr [5000] 0,A3 e] [u6 q b1 cs b2 xs])
 | _,_=>False }
noncomputable def g3o (rec:D→Int) (κ:Nat):Ev.Spec:={L:=[1,6],ns:=[([5000],[5000])],L':=[2],nm':=[],G:=fun N vals bs k=>match vals,bs with
 | [.ptr [5000] 0, .d (.lit (.int .i64 i))], [.cells 30 [.d (.lit (.int .i64 q)), .d (.slice b1 4 cs), .d (.slice b2 3 xs)]]=>(N=74∧rec=f0∧i=0∧xs.length≤2∧∀y∈xs,(J1 y∧Bd y)∧dsz y<κ)∧S3 (C1 (C9 rec xs) xs.length) (k (.exit 2) [.any] []) (fun e=>k .ret [A3 e] [])
 | _,_=>False }
theorem w57 (rec:D→Int) (κ:Nat) (y:D) (p:V→Prop):(B6 (Cn (U57 κ)) (U57 κ) D5 0 (spL [(26,g3p),(38,g3o rec κ)]) B1 57 [V.d (pV y)] B3.empty fun v H =>
 p (B4 H v)) =
 (bif bif decide (A1 (A0 y 0)<1) then true else decide (A1 (A0 y 0)>9) then
 p (A3 8) else
 (bif A1 (A0 y 0)==1 then
 (bif A1 (A0 y 0)==9 then
 (bif bif (↑(A2 (A0 y 2)).length:Int) !=1 then true
 else bif A1 (A0 y 0) !=1 then decide ((↑(A2 (A0 y 1)).length:Int)>0) else false then
 p (A3 1) else
 (bif decide ((↑(A2 (A0 y 1)).length:Int)>16) then
 p (A3 4) else
 ((74=74∧(((0:Int)=0)∧((A2 (A0 y 1)).length≤16∧∀(y_1:D),y_1∈A2 (A0 y 1)→a3m y_1∧Bd y_1)))∧
 (match C1 (C9 P1 (A2 (A0 y 1))) (A2 (A0 y 1)).length with
 | some y1 =>
 p (A3 y1)
 | none=>((74=74∧(rec=f0∧(((0:Int)=0)∧((A2 (A0 y 2)).length≤2∧∀(y_1:D),y_1∈A2 (A0 y 2)→(J1 y_1∧Bd y_1)∧dsz y_1<κ))))∧
 (match C1 (C9 rec (A2 (A0 y 2))) (A2 (A0 y 2)).length with
 | some y0 =>
 p (A3 y0)
 | none=>p (A3 0))))))) else
 (bif bif (↑(A2 (A0 y 2)).length:Int) !=0 then true
 else bif A1 (A0 y 0) !=1 then decide ((↑(A2 (A0 y 1)).length:Int)>0) else false then
 p (A3 1) else
 (bif decide ((↑(A2 (A0 y 1)).length:Int)>16) then
 p (A3 4) else
 ((74=74∧(((0:Int)=0)∧((A2 (A0 y 1)).length≤16∧∀(y_1:D),y_1∈A2 (A0 y 1)→a3m y_1∧Bd y_1)))∧
 (match C1 (C9 P1 (A2 (A0 y 1))) (A2 (A0 y 1)).length with
 | some y3 =>
 p (A3 y3)
 | none=>((74=74∧(rec=f0∧(((0:Int)=0)∧((A2 (A0 y 2)).length≤2∧∀(y_1:D),y_1∈A2 (A0 y 2)→(J1 y_1∧Bd y_1)∧dsz y_1<κ))))∧
 (match C1 (C9 rec (A2 (A0 y 2))) (A2 (A0 y 2)).length with
 | some y2 =>
 p (A3 y2)
 | none=>p (A3 0)))))))) else
 (bif A1 (A0 y 0)==9 then
 (bif bif (↑(A2 (A0 y 2)).length:Int) !=1 then true
 else bif A1 (A0 y 0) !=1 then decide ((↑(A2 (A0 y 1)).length:Int)>0) else false then
 p (A3 1) else
 (bif decide ((↑(A2 (A0 y 1)).length:Int)>16) then
 p (A3 4) else
 ((74=74∧(((0:Int)=0)∧((A2 (A0 y 1)).length≤16∧∀(y_1:D),y_1∈A2 (A0 y 1)→a3m y_1∧Bd y_1)))∧
 (match C1 (C9 P1 (A2 (A0 y 1))) (A2 (A0 y 1)).length with
 | some y5 =>
 p (A3 y5)
 | none=>((74=74∧(rec=f0∧(((0:Int)=0)∧((A2 (A0 y 2)).length≤2∧∀(y_1:D),y_1∈A2 (A0 y 2)→(J1 y_1∧Bd y_1)∧dsz y_1<κ))))∧
 (match C1 (C9 rec (A2 (A0 y 2))) (A2 (A0 y 2)).length with
 | some y4 =>
 p (A3 y4)
 | none=>p (A3 0))))))) else
 (bif bif (↑(A2 (A0 y 2)).length:Int) !=2 then true
 else bif A1 (A0 y 0) !=1 then decide ((↑(A2 (A0 y 1)).length:Int)>0) else false then
 p (A3 1) else
 (bif decide ((↑(A2 (A0 y 1)).length:Int)>16) then
 p (A3 4) else
 ((74=74∧(((0:Int)=0)∧((A2 (A0 y 1)).length≤16∧∀(y_1:D),y_1∈A2 (A0 y 1)→a3m y_1∧Bd y_1)))∧
 (match C1 (C9 P1 (A2 (A0 y 1))) (A2 (A0 y 1)).length with
 | some y7 =>
 p (A3 y7)
 | none=>((74=74∧(rec=f0∧(((0:Int)=0)∧((A2 (A0 y 2)).length≤2∧∀(y_1:D),y_1∈A2 (A0 y 2)→(J1 y_1∧Bd y_1)∧dsz y_1<κ))))∧
 (match C1 (C9 rec (A2 (A0 y 2))) (A2 (A0 y 2)).length with
 | some y6 =>
 p (A3 y6)
 | none=>p (A3 0)))))))))):=by kernel_rfl
noncomputable def e9s (rec:D→Int) (y:D):Int :=
 (bif bif decide (A1 (A0 y 0)<1) then true else decide (A1 (A0 y 0)>9) then
 8 else
 (bif A1 (A0 y 0)==1 then
 (bif A1 (A0 y 0)==9 then
 (bif bif (↑(A2 (A0 y 2)).length:Int) !=1 then true
 else bif A1 (A0 y 0) !=1 then decide ((↑(A2 (A0 y 1)).length:Int)>0) else false then
 1 else
 (bif decide ((↑(A2 (A0 y 1)).length:Int)>16) then
 4 else
 (match C1 (C9 P1 (A2 (A0 y 1))) (A2 (A0 y 1)).length with
 | some y1=>y1
 | none=>(match C1 (C9 rec (A2 (A0 y 2))) (A2 (A0 y 2)).length with
 | some y0=>y0
 | none=>0)))) else
 (bif bif (↑(A2 (A0 y 2)).length:Int) !=0 then true
 else bif A1 (A0 y 0) !=1 then decide ((↑(A2 (A0 y 1)).length:Int)>0) else false then
 1 else
 (bif decide ((↑(A2 (A0 y 1)).length:Int)>16) then
 4 else
 (match C1 (C9 P1 (A2 (A0 y 1))) (A2 (A0 y 1)).length with
 | some y3=>y3
 | none=>(match C1 (C9 rec (A2 (A0 y 2))) (A2 (A0 y 2)).length with
 | some y2=>y2
 | none=>0))))) else
 (bif A1 (A0 y 0)==9 then
 (bif bif (↑(A2 (A0 y 2)).length:Int) !=1 then true
 else bif A1 (A0 y 0) !=1 then decide ((↑(A2 (A0 y 1)).length:Int)>0) else false then
 1 else
 (bif decide ((↑(A2 (A0 y 1)).length:Int)>16) then
 4 else
 (match C1 (C9 P1 (A2 (A0 y 1))) (A2 (A0 y 1)).length with
 | some y5=>y5
 | none=>(match C1 (C9 rec (A2 (A0 y 2))) (A2 (A0 y 2)).length with
 | some y4=>y4
 | none=>0)))) else
 (bif bif (↑(A2 (A0 y 2)).length:Int) !=2 then true
 else bif A1 (A0 y 0) !=1 then decide ((↑(A2 (A0 y 1)).length:Int)>0) else false then
 1 else
 (bif decide ((↑(A2 (A0 y 1)).length:Int)>16) then
 4 else
 (match C1 (C9 P1 (A2 (A0 y 1))) (A2 (A0 y 1)).length with
 | some y7=>y7
 | none=>(match C1 (C9 rec (A2 (A0 y 2))) (A2 (A0 y 2)).length with
 | some y6=>y6
 | none=>0)))))))
theorem w24 (y:D) (p:V→Prop):(B6 (Cn T57) T57 D5 0 B8 B1 24 [V.d (pV y)] B3.empty fun v H=>p (B4 H v)) =
 (J1 (pV y)∧
 (bif decide (a4y (pV y) 0>100) then
 p (A3 4) else
 ((J1 (pV y)∧N6 (pV y)≤100)∧
 (bif decide ((↑(Y0 (pV y)):Int)>12) then
 p (A3 30) else
 ((J1 (pV y)∧Bd (pV y))∧
 p (A3 (f0 (pV y)))))))):=by kernel_rfl
noncomputable def c24:Ct:=⟨fun | [x]=>J1 x∧Bd x|_=>False,fun | [x]=>some (.lit (.int .i64 (P3 x)))|_=>none⟩
noncomputable def T24:Tab:=T57.add 24 c24
theorem w21 (y:D) (p:V→Prop):(B6 (Cn T24) T24 D5 0 B8 B1 21 [V.d (pV y)] B3.empty fun v H=>p (B4 H v)) =
 (J1 (pV y)∧
 (((!decide (a4y (pV y) 0>16)&&(decide (a4y (pV y) 0≤100)&&true))=true→J1 (pV y))∧
 p
 (A6 (bif decide (a4y (pV y) 0≤100) then bif decide (a4y (pV y) 0>16) then true else gpE (pV y) else false)))):=by kernel_rfl
noncomputable def f2y (y:D):Bool :=
 (bif decide (a4y (pV y) 0≤100) then bif decide (a4y (pV y) 0>16) then true else gpE (pV y) else false)
noncomputable def c21:Ct:=⟨fun | [x]=>J1 x|_=>False,fun | [x]=>some (.lit (.bool (f2y x)))|_=>none⟩
noncomputable def T21:Tab:=T24.add 21 c21
theorem i7d {κ:Nat} (hk:C3 B (U56 κ)):OkS (Cn (U56 κ)) 0 (.loop l56) (S56 κ):=by
 refine D0 fun N vals bs K h=>?_
 simp only[S56] at h
 split at h
 case h_2=>exact h.elim
 rename_i m i q b1 cs b2 xs
 obtain ⟨⟨rfl,rfl,rfl,hl,hx⟩,h⟩:=h
 have main:∀k i,i+k=xs.length→J2 (Cn (U56 κ)) 0 l56 22 [1,3,4] [[5000]] [3] [] [.ptr [5000] 0,A3 (U0 ((xs.take i).map Y0):Nat),A3 i] [u6 q b1 cs b2 xs] K:=by
  intro k
  induction k with
  | zero =>
   intro i hi
   have:i=xs.length:=by omega
   subst this
   refine B5 (D3 B9 hk C2) C0 A8 (hn:=B1) (adsI:=[]) (nsI:=[([5000],[5000])]) (nsX:=[]) rfl rfl (keep (b56 κ q cs xs b1 b2 xs.length _ _) ?_)
   have e1:decide ((xs.length:Int)<xs.length)=false:=by simp
   rw[e1,List.take_length]
   exact ⟨(by trivial),h⟩
  | succ k ih =>
   intro i hi
   refine B5 (D3 B9 hk C2) C0 A8 (hn:=B1) (adsI:=[]) (nsI:=[([5000],[5000])]) (nsX:=[]) rfl rfl (keep (b56 κ q cs xs b1 b2 i _ _) ?_)
   have e1:decide ((i:Int)<xs.length)=true:=by simp;omega
   obtain ⟨hf,hlt⟩:=hx _ (D8 (xs:=xs) (i:=i) (by omega))
   have hv:=hf.1.v
   rw[e1]
   simp only[Int.toNat_natCast,cond_true,hv]
   refine ⟨⟨by omega,by omega,(by trivial)⟩,⟨hf,hlt⟩,(by trivial), ?_⟩
   have:=ih (i+1) (by omega)
   rw[Go.IntWalk.i64_in _ (by omega)]
   rw[a2g (by omega)] at this
   rw[show (if (Y0 (xs.getD i .any):Int)>(U0 ((xs.take i).map Y0):Nat) then (Y0 (xs.getD i .any):Int) else (U0 ((xs.take i).map Y0):Nat))=(max (U0 ((xs.take i).map Y0)) (Y0 (xs.getD i .any)):Nat) by split<;>omega]
   exact this
 exact main xs.length 0 (by omega)
theorem k56:C3 B T56:=by
 refine S4 B9 k76 μ1 (fn:=Tryz.f56) (cd:=A7 Tryz.f56) (sp:=fun n=>spL [(6,S56 n)]) (hn:=B1) Tryz.func56 (by kernel_rfl) (by kernel_rfl) (fun n hk=>B7 (c:=.loop l56) (by kernel_rfl) (i7d hk) C8) fun κ ds r hp hm hr=>?_
 unfold c54 at hp hr
 simp only[] at hr hp
 split at hr
 ·rename_i x
  cases hr
  obtain ⟨hf,h1⟩:=hp
  rw[X9 hf.v]
  refine keep (w56 κ x fun v=>v=_) ?_
  have e1:=a2e x
  have e2:=c8o x
  have e3:=e3d _ x (Nat.le_refl _)
  have e4:=c3s (xs:=E6 x 2)
  refine ⟨⟨(by trivial),(by trivial),(by trivial),by unfold E6 at *;omega,fun y hy=>⟨⟨hf.a y hy, ?_⟩, ?_⟩⟩, ?_⟩
  ·have:=a4k (f:=N6) (xs:=E6 x 2) hy;omega
  ·rw[←hm];exact G6 hy
  ·unfold E6 at *
   rw[Go.IntWalk.i64_in _ (by omega),show ((U0 (List.map Y0 (A2 (A0 x 2))):Nat):Int)+1=(Y0 x:Nat) by omega]
 ·cases hr
theorem h4v {κ:Nat} (hk:C3 B (U57 κ)):OkS (Cn (U57 κ)) 0 (.loop g7t) g3p:=by
 refine D0 fun N vals bs K h=>?_
 simp only[g3p] at h
 split at h
 case h_2=>exact h.elim
 rename_i i q b1 cs b2 xs
 obtain ⟨⟨rfl,rfl,hsh,hall⟩,h⟩:=h
 refine G0 (D3 B9 hk C2) C0 A8 (hn:=B1) (adsI:=[]) (nsI:=[([5000],[5000])]) (nsX:=[([5000],[5000])]) rfl rfl cs.length
  (fun i=>[.ptr [5000] 0,A3 i]) (fun _=>[u6 q b1 cs b2 xs]) (C9 P1 cs) (fun e=>(.ret, [.ptr [5000] 0,A3 e], [u6 q b1 cs b2 xs])) (by simp) (.exit 0) [.ptr [5000] 0, .any] [u6 q b1 cs b2 xs] (by simp) ?_ ?_ h
 ·intro i R hi hR
  refine keep (h8z κ q cs xs b1 b2 i R) ?_
  have e1:decide ((i:Int)<cs.length)=true:=by simp;omega
  have e2:IntKind.i64.wrap ((i:Int)+1)=((i+1:Nat):Int):=by rw[Go.IntWalk.i64_in _ (by omega)];omega
  have hv:=hall _ (D8 hi)
  rw[e1]
  simp only[Int.toNat_natCast,e2,cond_true,show cV _=_ from hv.1]
  refine ⟨⟨by omega,hi,(by trivial)⟩,hv,A5 (fun h1=>⟨(by trivial), ?_⟩) (fun h1=>⟨(by trivial), ?_⟩)⟩<;>(simp only[C9,h1,cond_true,cond_false,S3] at hR;exact hR)
 ·intro R hR
  refine keep (h8z κ q cs xs b1 b2 cs.length R) ?_
  have e1:decide ((cs.length:Int)<cs.length)=false:=by simp
  rw[e1]
  exact ⟨(by trivial),hR⟩
theorem h4u {κ:Nat} (hk:C3 B (U57 κ)):OkS (Cn (U57 κ)) 0 (.loop g7s) (g3o f0 κ):=by
 refine D0 fun N vals bs K h=>?_
 simp only[g3o] at h
 split at h
 case h_2=>exact h.elim
 rename_i i q b1 cs b2 xs
 obtain ⟨⟨rfl,_,rfl,hsh,hall⟩,h⟩:=h
 refine G0 (D3 B9 hk C2) C0 A8 (hn:=B1) (adsI:=[]) (nsI:=[([5000],[5000])]) (nsX:=[]) rfl rfl xs.length
  (fun i=>[.ptr [5000] 0,A3 i]) (fun _=>[u6 q b1 cs b2 xs]) (C9 f0 xs) (fun e=>(.ret, [A3 e], [])) (by simp) (.exit 2) [.any] [] (by simp) ?_ ?_ h
 ·intro i R hi hR
  refine keep (h8y κ q cs xs b1 b2 i R) ?_
  have e1:decide ((i:Int)<xs.length)=true:=by simp;omega
  have e2:IntKind.i64.wrap ((i:Int)+1)=((i+1:Nat):Int):=by rw[Go.IntWalk.i64_in _ (by omega)];omega
  obtain ⟨hv,hlt⟩:=hall _ (D8 hi)
  rw[e1]
  simp only[Int.toNat_natCast,e2,cond_true,hv.1.v]
  refine ⟨⟨by omega,hi,(by trivial)⟩,⟨hv,hlt⟩,A5 (fun h1=>⟨(by trivial), ?_⟩) (fun h1=>⟨(by trivial), ?_⟩)⟩<;>(simp only[C9,h1,cond_true,cond_false,S3] at hR;exact hR)
 ·intro R hR
  refine keep (h8y κ q cs xs b1 b2 xs.length R) ?_
  have e1:decide ((xs.length:Int)<xs.length)=false:=by simp
  rw[e1]
  exact ⟨(by trivial),hR⟩
theorem f6g (rec:D→Int) (y:D):e9s rec y=c8p rec y:=by
 unfold e9s c8p
 generalize C1 (C9 P1 (A2 (A0 y 1))) (A2 (A0 y 1)).length=o1
 generalize C1 (C9 rec (A2 (A0 y 2))) (A2 (A0 y 2)).length=o2
 generalize ((↑(A2 (A0 y 2)).length:Int) !=0)=a0
 generalize ((↑(A2 (A0 y 2)).length:Int) !=1)=a1
 generalize ((↑(A2 (A0 y 2)).length:Int) !=2)=a2
 generalize decide ((↑(A2 (A0 y 1)).length:Int)>0)=c
 generalize decide ((↑(A2 (A0 y 1)).length:Int)>16)=g
 generalize A1 (A0 y 0)=k
 by_cases h1:k<1
 ·simp[h1]
 ·by_cases h2:k>9
  ·simp[h1,h2]
  ·by_cases h3:k=1
   ·subst h3;cases a0<;>cases c<;>cases g<;>rfl
   ·by_cases h4:k=9
    ·subst h4;cases a1<;>cases c<;>cases g<;>rfl
    ·have e1:(k==1)=false:=by simpa using h3
     have e2:(k==9)=false:=by simpa using h4
     have e3:(k !=1)=true:=by simpa using h3
     simp only[e1,e2,e3,cond_true,cond_false]
     cases a2<;>cases c<;>cases g<;>rfl
theorem k57:C3 B T57:=by
 refine S4 B9 k56 μ1 (fn:=Tryz.f57) (cd:=A7 Tryz.f57) (sp:=fun n=>spL [(26,g3p),(38,g3o f0 n)]) (hn:=B1) Tryz.func57 (by kernel_rfl) (by kernel_rfl) (fun n hk=>B7 (c:=.loop g7t) (by kernel_rfl) (h4v hk) (B7 (c:=.loop g7s) (by kernel_rfl) (h4u hk) C8)) fun κ ds r hp hm hr=>?_
 unfold c57 at hp hr
 simp only[] at hr hp
 split at hr
 ·rename_i x
  cases hr
  rw[X9 hp.1.v,c8q, ←f6g]
  refine keep (w57 f0 κ x fun v=>v=_) ?_
  unfold e9s
  have hc:∀y∈A2 (A0 x 1),a3m y∧Bd y:=fun y hy=>⟨hp.1.c y hy,hp.2.sub hy⟩
  have ha:∀y∈A2 (A0 x 2),(J1 y∧Bd y)∧dsz y<κ:=fun y hy=>⟨⟨hp.1.a y hy,hp.2.sub hy⟩,hm▸G6 hy⟩
  by_cases hl:(A2 (A0 x 2)).length≤2
  ·by_cases hl1:(A2 (A0 x 1)).length≤16
   ·generalize C1 (C9 P1 (A2 (A0 x 1))) (A2 (A0 x 1)).length=o1
    generalize C1 (C9 f0 (A2 (A0 x 2))) (A2 (A0 x 2)).length=o2
    cases o1<;>cases o2<;>(repeat' (first|with_reducible rfl | (refine A5 (fun hcw=>?_) (fun hcw=>?_)<;>simp only[hcw,cond_true,cond_false])|refine V8 ?_ ?_))
    all_goals first|trivial|assumption
   ·have e:decide ((↑(A2 (A0 x 1)).length:Int)>16)=true:=by simp;omega
    simp only[e,cond_true]
    (repeat' (first|with_reducible rfl | (refine A5 (fun hcw=>?_) (fun hcw=>?_)<;>simp only[hcw,cond_true,cond_false])|refine V8 ?_ ?_))
  ·have e0:((↑(A2 (A0 x 2)).length:Int) !=0)=true:=bne_iff_ne.2 (by omega)
   have e1:((↑(A2 (A0 x 2)).length:Int) !=1)=true:=bne_iff_ne.2 (by omega)
   have e2:((↑(A2 (A0 x 2)).length:Int) !=2)=true:=bne_iff_ne.2 (by omega)
   simp only[e0,e1,e2,cond_true]
   (repeat' (first|with_reducible rfl | (refine A5 (fun hcw=>?_) (fun hcw=>?_)<;>simp only[hcw,cond_true,cond_false])|refine V8 ?_ ?_))
 ·cases hr
theorem b2d {rec:D→Int→Int} {f:D→Nat}:∀{xs:List D} {m:Int},0≤m→(∀a∈xs,∀n:Int,0≤n→n≤100→n≤rec a n∧min (rec a n) 101=min (n+(f a:Nat)) 101)→
  m≤a6c rec xs m∧min (a6c rec xs m) 101=min (m+((xs.map f).sum:Nat)) 101
 | [],m,h0,h=>by unfold a6c;simp
 | a::l,m,h0,h=>by
  unfold a6c
  by_cases hm:m≤100
  ·have d:decide (m≤100)=true:=by simpa using hm
   rw[d]
   simp only[cond_true]
   obtain ⟨p1,p2⟩:=h a (by simp) m h0 hm
   obtain ⟨q1,q2⟩:=b2d (rec:=rec) (f:=f) (xs:=l) (m:=rec a m) (by omega) fun b hb=>h b (by simp[hb])
   simp only[List.map_cons,List.sum_cons]
   omega
  ·have d:decide (m≤100)=false:=by simpa using hm
   rw[d]
   simp only[cond_false,List.map_cons,List.sum_cons]
   omega
theorem d2i:∀(κ:Nat) (y:D),dsz y<κ→∀n:Int,0≤n→n≤100→n≤a4y y n∧min (a4y y n) 101=min (n+(N6 y:Nat)) 101
 | 0,_,h,_,_,_=>absurd h (Nat.not_lt_zero _)
 | κ+1,y,h,n,h0,h1=>by
  rw[e4o,a2e]
  unfold d9m
  rw[Go.IntWalk.i64_in _ (by omega)]
  obtain ⟨p1,p2⟩:=b2d (rec:=a4y) (f:=N6) (xs:=A2 (A0 y 2)) (m:=n+1) (by omega) fun a ha=>d2i κ a (by have:=G6 (y:=y) (i:=2) ha;omega)
  unfold E6
  constructor
  ·omega
  ·rw[p2];congr 1;omega
theorem k24:C3 B T24:=by
 refine C4 B9 k57 (fn:=Tryz.f24) (cd:=A7 Tryz.f24) (sp:=B8) (hn:=B1) Tryz.func24 (by kernel_rfl) (by kernel_rfl) A8 fun ds r hp hr=>?_
 unfold c24 at hp hr
 simp only[] at hr hp
 split at hr
 ·rename_i x
  cases hr
  rw[X9 hp.1.v]
  refine keep (w24 x fun v=>v=_) ?_
  unfold P3
  rw[hp.1.v]
  have hc:=(d2i _ x (Nat.lt_succ_self _) 0 (by omega) (by omega)).2
  have e:decide (a4y x 0>100)=decide ((↑(cap (0+N6 x)):Int)>100):=decide_eq_decide.2 (by unfold cap;omega)
  rw[e]
  refine ⟨hp.1,A5 (fun g=>?_) (fun g=>?_)⟩
  ·simp only[g,cond_true]
  ·simp only[g,cond_false]
   simp only[decide_eq_false_iff_not] at g
   refine ⟨⟨hp.1,by unfold cap at g;omega⟩,A5 (fun g=>?_) (fun g=>?_)⟩
   ·simp only[g,cond_true]
   ·simp only[g,cond_false];exact ⟨hp,(by trivial)⟩
 ·cases hr
theorem k21:C3 B T21:=by
 refine C4 B9 k24 (fn:=Tryz.f21) (cd:=A7 Tryz.f21) (sp:=B8) (hn:=B1) Tryz.func21 (by kernel_rfl) (by kernel_rfl) A8 fun ds r hp hr=>?_
 unfold c21 at hp hr
 simp only[] at hr hp
 split at hr
 ·rename_i x
  cases hr
  rw[X9 (J1.v hp)]
  refine keep (w21 x fun v=>v=_) ?_
  unfold f2y
  rw[J1.v hp]
  exact ⟨hp,fun _=>hp,(by trivial)⟩
 ·cases hr
end Go.Ev.R2
end
