/- What the proofs of the lexer's laws share, part 9 of 14. -/
import Derived.Test.YtnnhlphbfpnaaaaGreatDoorU4
import Derived.Test.YtnnhlphbfpnaaaaGreatDoorU6
import Derived.Test.YtnnhlphbfpnaaaaGreatDoorU5
import Derived.Test.YtnnhlphbfpnaaaaGreatDoorU8
set_option linter.unusedVariables false
set_option linter.unusedSimpArgs false
section
namespace Go.Ev
def Cx.blobs (C:Cx) (b:TypeId→Option (Nat×Nat)):Cx:={C with blob:=b }
def b2h:List (FuncId×Ct)→FuncId→Option Ct
 | [],_=>none
 | (a,S)::r,n=>bif n==a then some S else b2h r n
def Tab.addG (tb:Tab) (grp:List (FuncId×Ct)):Tab:=fun n=>match b2h grp n with|some S=>some S|none=>tb n
def c2z (grp:List (FuncId×Ct)) (μ:FuncId→List D→Nat) (n:Nat):List (FuncId×Ct):=grp.map fun p=>(p.1,p.2.below (μ p.1) n)
section
variable {B : Cx} {tb : Tab} {stb : Y7}
theorem b4t.blobs (hB:b4t B) (b:TypeId→Option (Nat×Nat)):b4t (B.blobs b):=⟨{plain:=hB.ok.plain,mixed:=hB.ok.mixed },hB.prim⟩
theorem C2.of {C C':Cx} (hP:C'.P=C.P) (hg:C'.glob=C.glob) (h:C2 C tb):C2 C' tb:=fun K ct ds r h1 h2 h3=>(h K ct ds r h1 h2 h3).of hP hg
theorem a3d (hB:b4t B) (h:C2 B tb) (hs:S6 B stb) (b:TypeId→Option (Nat×Nat)) {K:FuncId} {fn:Func} {cd:Code} {sp:Nat→Option Spec} {hn:Nat→Option o9} (hf:B.P.funcs[K]?=some fn) (hb:fn.body=some cd) (hr:(fn.name == "runtime.NumGoroutine")=false)
  (ok:o8 ((B.blobs b).tab tb) 0 sp (H8 false cd)) {ds:List D} {r:D}
  (hc:a5c (B7 ((B.blobs b).tab tb) tb (L6 stb) 0 sp hn K (ds.map .d) B4.empty fun v H=>B5 H v= .d r)):a5a B K ds r:=by
 have he:Q0 B.P K:=⟨fn,hf,by simpa using hr,by rw[hb];rfl⟩
 have h':C2 (B.blobs b) tb:=h.of rfl rfl
 have hs':S6 (B.blobs b) stb:=hs.of rfl rfl
 have:=u6 (C:=(B.blobs b).tab tb) he (a2t (U8 (hB.blobs b) h' hs') C1 (C:=(B.blobs b).tab tb) hf hb (fun m hm=>by cases hm) ok hc.h)
 exact this.of rfl rfl
theorem Z9 (hB:b4t B) (h:C2 B tb) (hs:S6 B stb) (b:TypeId→Option (Nat×Nat)):a9y ((B.blobs b).tab tb) (L6 stb).call :=
 U8 (hB.blobs b) (h.of rfl rfl) (hs.of rfl rfl)
theorem c4t:∀{grp:List (FuncId×Ct)} {n:FuncId} {S:Ct},b2h grp n=some S→(n,S)∈grp
 | [],n,S,h=>by cases h
 | (a,T)::r,n,S,h=>by
  unfold b2h at h
  by_cases e:n=a
  ·subst e;simp at h;subst h;simp
  ·have:(n==a)=false:=by simpa using e
   rw[this] at h
   exact List.mem_cons_of_mem _ (c4t h)
theorem a3b {μ:FuncId→List D→Nat} {m:Nat}:∀{grp:List (FuncId×Ct)} {n:FuncId},b2h (c2z grp μ m) n=match b2h grp n with|some S=>some (S.below (μ n) m)|none=>none
 | [],n=>rfl
 | (a,T)::r,n=>by
  simp only[c2z,List.map_cons,b2h]
  by_cases e:n=a
  ·subst e;simp
  ·have:(n==a)=false:=by simpa using e
   rw[this]
   exact a3b
theorem e8h (h:C2 B tb) (grp:List (FuncId×Ct)) (μ:FuncId→List D→Nat)
  (hc:∀n,C2 B (tb.addG (c2z grp μ n))→∀K S,(K,S)∈grp→∀ds r,S.pre ds→μ K ds=n→S.f ds=some r→a5a B K ds r):C2 B (tb.addG grp):=by
 have all:∀n,C2 B (tb.addG (c2z grp μ n)):=by
  intro n
  induction n with
  | zero =>
   intro K f ds r h1 h2 h3
   unfold Tab.addG at h1
   rw[a3b] at h1
   cases hl:b2h grp K with
   | none=>rw[hl] at h1;exact h K f ds r h1 h2 h3
   | some S =>
    rw[hl] at h1
    simp only[Option.some.injEq] at h1
    subst h1
    exact absurd h2.2 (Nat.not_lt_zero _)
  | succ n ih =>
   intro K f ds r h1 h2 h3
   unfold Tab.addG at h1
   rw[a3b] at h1
   cases hl:b2h grp K with
   | none=>rw[hl] at h1;exact h K f ds r h1 h2 h3
   | some S =>
    rw[hl] at h1
    simp only[Option.some.injEq] at h1
    subst h1
    by_cases hlt:μ K ds<n
    ·refine ih K (S.below (μ K) n) ds r ?_ ⟨h2.1,hlt⟩ h3
     unfold Tab.addG
     rw[a3b,hl]
    ·have e:μ K ds=n:=by have:=h2.2;omega
     exact hc n ih K S (c4t hl) ds r h2.1 e h3
 intro K f ds r h1 h2 h3
 unfold Tab.addG at h1
 cases hl:b2h grp K with
 | none=>rw[hl] at h1;exact h K f ds r h1 h2 h3
 | some S =>
  rw[hl] at h1
  simp only[Option.some.injEq] at h1
  subst h1
  refine all (μ K ds+1) K (S.below (μ K) (μ K ds+1)) ds r ?_ ⟨h2,by omega⟩ h3
  unfold Tab.addG
  rw[a3b,hl]
end
end Go.Ev
end
section
namespace Go.Ev.R2
open Go Go.Ev Go.Proofs
set_option maxRecDepth 100000
abbrev N3:List D:=d4e 1 257 0 259
def a3h (t:TypeId):Option (Nat×Nat):=bif t==176 then some (1,257) else none
noncomputable def CnB (tb:Tab):Cx:=(B.blobs a3h).tab tb
abbrev u8D (c:Int):D:=.lit (.int .u8 c)
abbrev sD (s:ByteArray):D:=.lit (.string s)
abbrev ntD (i:Int):D:=.lit (.int .i64 i)
theorem h4u (c:Int) (p:V→Prop):(B7 (Cn T13) T13 D4 0 C5 B1 249 [V.d (u8D c)] B4.empty fun v H=>p (B5 H v)) =
 p
 (A9 (bif
 bif bif decide (c≥97) then decide (c≤122) else false then true
 else bif decide (c≥65) then decide (c≤90) else false then
 true
 else bif decide (c≥48) then decide (c≤57) else false)):=by kernel_rfl
noncomputable def c3d (c:Int):Bool :=
 (bif
 bif bif decide (c≥97) then decide (c≤122) else false then true
 else bif decide (c≥65) then decide (c≤90) else false then
 true
 else bif decide (c≥48) then decide (c≤57) else false)
noncomputable def g9c:Ct:=⟨fun _=>True,fun | [.lit (.int .u8 c)]=>some (.lit (.bool (c3d c)))|_=>none⟩
noncomputable def f5u:Tab:=T13.add 249 g9c
theorem h4v (c:Int) (p:V→Prop):(B7 (Cn f5u) f5u D4 0 C5 B1 248 [V.d (u8D c)] B4.empty fun v H=>p (B5 H v)) =
 (bif c==110 then
 p (V.d (D.tup [D.lit (Value.int IntKind.u8 10),oD true])) else
 (bif c==116 then
 p (V.d (D.tup [D.lit (Value.int IntKind.u8 9),oD true])) else
 (True∧
 p (V.d (D.tup [D.lit (Value.int IntKind.u8 c),oD (!c3d c)]))))):=by kernel_rfl
def c2p (c:Int):Int:=bif c==110 then 10 else bif c==116 then 9 else c
noncomputable def c7r (c:Int):Bool:=bif c==110 then true else bif c==116 then true else !c3d c
noncomputable def g9d:Ct:=⟨fun _=>True,fun | [.lit (.int .u8 c)]=>some (.tup [.lit (.int .u8 (c2p c)), .lit (.bool (c7r c))])|_=>none⟩
noncomputable def f5v:Tab:=f5u.add 248 g9d
theorem h5a (c:Int) (p:V→Prop):(B7 (Cn f5v) f5v D4 0 C5 B1 233 [V.d (u8D c)] B4.empty fun v H=>p (B5 H v)) =
 p
 (A9 (bif
 bif
 bif
 bif
 bif
 bif
 bif bif bif c==46 then true else c==91 then true else c==93 then true
 else c==40 then
 true
 else c==41 then
 true
 else c==124 then
 true
 else c==42 then
 true
 else c==43 then
 true
 else c==63 then
 true
 else c==92)):=by kernel_rfl
noncomputable def a7z (c:Int):Bool :=
 (bif
 bif
 bif
 bif
 bif
 bif
 bif bif bif c==46 then true else c==91 then true else c==93 then true
 else c==40 then
 true
 else c==41 then
 true
 else c==124 then
 true
 else c==42 then
 true
 else c==43 then
 true
 else c==63 then
 true
 else c==92)
noncomputable def c233:Ct:=⟨fun _=>True,fun | [.lit (.int .u8 c)]=>some (.lit (.bool (a7z c)))|_=>none⟩
noncomputable def f5y:Tab:=f5v.add 233 c233
theorem h4z (c:Int) (p:V→Prop):(B7 (CnB f5y) f5y (L6 a5u) 0 C5 B1 234 [V.d (u8D c)] B4.empty fun v H=>p (B5 H v)) =
 ((((0:Int)≤c)∧c.toNat<256)∧
 (1+c.toNat*1<259∧
 p
 (V.d
 (D.agg
 N3)))):=by kernel_rfl
noncomputable def g9g:Ct:=⟨fun | [.lit (.int .u8 c)]=>0≤c∧c<256|_=>False,fun | [.lit (.int .u8 c)]=>some (.agg N3)|_=>none⟩
noncomputable def f5x:Tab:=f5y.add 234 g9g
theorem h5e (c:Int) (p:V→Prop):(B7 (CnB f5x) f5x (L6 a5u) 0 C5 B1 217 [V.d (D.agg N3),V.d (u8D c)] B4.empty fun v H =>
 p (B5 H v)) =
 (bif c==42 then
 p
 (V.d
 (D.agg
 N3)) else
 (bif c==43 then
 p
 (V.d
 (D.agg
 N3)) else
 p
 (V.d
 (D.agg
 N3)))):=by kernel_rfl
noncomputable def g9h:Ct:=⟨fun | [x, .lit (.int .u8 c)]=>x= .agg N3|_=>False,fun | [x, .lit (.int .u8 c)]=>some (.agg N3)|_=>none⟩
noncomputable def d4o:Tab:=f5x.add 217 g9h
noncomputable def f3k:Code:=D6 (C6 (A7 Tryz.f235) 12)
abbrev nB:Box:=.blob 176 259 1 257
abbrev s9:List (B2×B2):=[([5000],[5000]),([5001],[5001])]
theorem h3d (c:Int) (i:Int) (R:X→List V→List Box→Prop):(D7 (CnB d4o) d4o (L6 a5u) 0 C5 B1 f3k 52 [0,2,4,7] [[5000], [5001]] [] s9 [2,4] s9
 [V.d (u8D c),V.ptr [5000] 0,V.ptr [5001] 0,A3 i] [nB,nB] R) =
 (bif decide (i<256) then
 (((c==119&&((!bif decide (IntKind.u8.wrap i≥48) then decide (IntKind.u8.wrap i≤57) else false)&&true))=true→True)∧
 ((((0:Int)≤i)∧i.toNat<256)∧
 (1+i.toNat*1<259∧
 (52=52∧
 R X.normal
 [V.d (D.lit (Value.int IntKind.u8 c)),V.ptr [5000] 0,V.ptr [5001] 0,
 A3 (IntKind.i64.wrap (i+1))]
 [Box.blob 176 259 1 257,Box.blob 176 259 1 257])))) else
 (52=52∧
 R (X.exit 0) [V.ptr [5000] 0,V.ptr [5001] 0] [Box.blob 176 259 1 257,Box.blob 176 259 1 257])):=by kernel_rfl
def f7s:Ev.Spec:={L:=[0,2,4,7],ns:=[([5000],[4]),([5001],[6])],L':=[2,4],nm':=[[5000],[5001]],G:=fun N vals bs k=>match vals,bs with
 | [.d (.lit (.int .u8 c)), .ptr [5000] 0, .ptr [5001] 0, .d (.lit (.int .i64 i))], [.blob 176 259 1 257, .blob 176 259 1 257]=>(N=52∧i=0∧0≤c∧c<256)∧k (.exit 0) [.ptr [5000] 0, .ptr [5001] 0] [nB,nB]
 | _,_=>False }
theorem h4y (c:Int) (p:V→Prop):(B7 (CnB d4o) d4o (L6 a5u) 0 (spL [(12,f7s)]) B1 235 [V.d (u8D c)] B4.empty fun v H=>p (B5 H v)) =
 (bif bif c !=100 then c !=119 else false then
 (True∧
 ((((0:Int)≤c2p c)∧((c2p c:Int)<256))∧
 p
 (V.d
 (D.tup
 [D.agg
 N3,
 oD (c7r c)])))) else
 ((52=52∧(((0:Int)=0)∧(((0:Int)≤c)∧((c:Int)<256))))∧
 p
 (V.d
 (D.tup
 [D.agg
 N3,
 oD true])))):=by kernel_rfl
noncomputable def e4r (c:Int):Bool:=bif (bif c !=100 then c !=119 else false) then c7r c else true
noncomputable def g9f:Ct:=⟨fun | [.lit (.int .u8 c)]=>0≤c∧c<256|_=>False,fun | [.lit (.int .u8 c)]=>some (.tup [.agg N3, .lit (.bool (e4r c))])|_=>none⟩
noncomputable def f5w:Tab:=d4o.add 235 g9f
theorem h4t (s : ByteArray) (i : Int) (p : V → Prop) : (B7 (Cn f5w) f5w D4 0 C5 B1 250 [V.d (sD s), V.d (ntD i)] B4.empty fun v H => p (B5 H v)) =
  (((!decide (i ≥ (↑s.size : Int)) && true) = true → (((0 : Int) ≤ i) ∧ i.toNat < s.size)) ∧
  (bif bif decide (i ≥ (↑s.size : Int)) then true else A6 s i.toNat == 93 then
   p (V.d (D.tup [D.lit (Value.int IntKind.u8 0), iD i, oD false])) else
   ((((0 : Int) ≤ i) ∧ i.toNat < s.size) ∧
   (bif A6 s i.toNat != 92 then
    ((((0 : Int) ≤ i) ∧ i.toNat < s.size) ∧
    p
  (V.d
    (D.tup
      [D.lit (Value.int IntKind.u8 (A6 s i.toNat)), iD (IntKind.i64.wrap (i + 1)),
        oD true]))) else
    (bif decide (IntKind.i64.wrap (i + 1) ≥ (↑s.size : Int)) then
     p (V.d (D.tup [D.lit (Value.int IntKind.u8 0), iD i, oD false])) else
     ((((0 : Int) ≤ IntKind.i64.wrap (i + 1)) ∧ (IntKind.i64.wrap (i + 1)).toNat < s.size) ∧
     (True ∧
     p
  (V.d
    (D.tup
      [D.lit (Value.int IntKind.u8 (c2p (A6 s (IntKind.i64.wrap (i + 1)).toNat))),
        iD (IntKind.i64.wrap (i + 2)),
        oD (c7r (A6 s (IntKind.i64.wrap (i + 1)).toNat))]))))))))) := by kernel_rfl
noncomputable def it3 (s:ByteArray) (i:Int):Int×Int×Bool :=
 bif (bif decide (i≥(s.size:Int)) then true else A6 s i.toNat==93) then (0,i,false) else
 bif A6 s i.toNat !=92 then (A6 s i.toNat,i+1,true) else
 bif decide (i+1≥(s.size:Int)) then (0,i,false) else (c2p (A6 s (i+1).toNat),i+2,c7r (A6 s (i+1).toNat))
def a3k (s:ByteArray) (i:Int):Prop:=0≤i∧i≤s.size∧s.size≤200
noncomputable def g9b:Ct:=⟨fun | [.lit (.string s), .lit (.int .i64 i)]=>a3k s i|_=>False,fun | [.lit (.string s), .lit (.int .i64 i)]=>some (.tup [.lit (.int .u8 (it3 s i).1), .lit (.int .i64 (it3 s i).2.1), .lit (.bool (it3 s i).2.2)])|_=>none⟩
noncomputable def a9b:Tab:=f5w.add 250 g9b
noncomputable def c4u:Code:=D6 (C6 (A7 Tryz.f236) 6)
noncomputable def d9c:Code:=D6 (d8o c4u 22)
noncomputable def d9b:Code:=D6 (C6 (A7 Tryz.f236) 36)
theorem f9g (s:ByteArray) (inv:Bool) (st:Int) (nx:Int) (hi:Int) (c:Int) (R:X→List V→List Box→Prop):(D7 (CnB a9b) a9b (L6 a5u) 0 C5 B1 d9c 114 [0,2,6,9,10,12,14,15] [[5000], [5001]] [] s9
 [0,2,6,9,10,12] s9 [C9 s,A9 inv,V.ptr [5000] 0,V.ptr [5001] 0,A3 st,A3 nx,V.d (u8D hi),A3 c]
 [nB,nB] R) =
 (bif decide (c≤IntKind.i64.wrap hi) then
 ((((0:Int)≤c)∧c.toNat<256)∧
 (1+c.toNat*1<259∧
 (114=114∧
 R X.normal
 [C9 s,A9 inv,V.ptr [5000] 0,V.ptr [5001] 0,
 A3 st,A3 nx,
 V.d (D.lit (Value.int IntKind.u8 hi)),A3 (IntKind.i64.wrap (c+1))]
 [Box.blob 176 259 1 257,Box.blob 176 259 1 257]))) else
 (114=114∧
 R (X.exit 2)
 [C9 s,A9 inv,V.ptr [5000] 0,V.ptr [5001] 0,
 A3 st,A3 nx]
 [Box.blob 176 259 1 257,Box.blob 176 259 1 257])):=by kernel_rfl
def e2f:Ev.Spec:={L:=[0,2,6,9,10,12,14,15],ns:=s9,L':=[0,2,6,9,10,12],nm':=[[5000],[5001]],G:=fun N vals bs k=>match vals,bs with
 | [.d (.lit (.string s)), .d (.lit (.bool inv)), .ptr [5000] 0, .ptr [5001] 0, .d (.lit (.int .i64 st)), .d (.lit (.int .i64 nx)), .d (.lit (.int .u8 hi)), .d (.lit (.int .i64 c))], [.blob 176 259 1 257, .blob 176 259 1 257]=>(N=114∧0≤c∧c<256∧0≤hi∧hi<256)∧k (.exit 2) [C9 s,A9 inv, .ptr [5000] 0, .ptr [5001] 0,A3 st,A3 nx] [nB,nB]
 | _,_=>False }
theorem h3c (s : ByteArray) (inv : Bool) (st : Int) (i : Int) (R : X → List V → List Box → Prop) : (D7 (CnB a9b) a9b (L6 a5u) 0 (spL [(22, e2f)]) B1 c4u 114 [0, 1, 2, 6, 9, 10] [[5000], [5001]] [] s9
  [0, 1, 2, 6, 7, 8, 9, 10] s9 [C9 s, A3 i, A9 inv, V.ptr [5000] 0, V.ptr [5001] 0, A3 st] [nB, nB] R) =
  (((decide (i < (↑s.size : Int)) && true) = true → (((0 : Int) ≤ i) ∧ i.toNat < s.size)) ∧
  (bif bif decide (i < (↑s.size : Int)) then A6 s i.toNat != 93 else false then
   ((((0 : Int) ≤ i) ∧ (((i : Int) ≤ (↑s.size : Int)) ∧ s.size ≤ 200)) ∧
   ((((bif (it3 s i).snd.snd then decide (IntKind.i64.wrap ((it3 s i).snd.fst + 1) < (↑s.size : Int)) else false) && true) =
  true → (((0 : Int) ≤ (it3 s i).snd.fst) ∧ (it3 s i).snd.fst.toNat < s.size)) ∧
   ((((bif bif (it3 s i).snd.snd then decide (IntKind.i64.wrap ((it3 s i).snd.fst + 1) < (↑s.size : Int)) else false then
      A6 s (it3 s i).snd.fst.toNat == 45
    else false) &&
    true) =
  true → (((0 : Int) ≤ IntKind.i64.wrap ((it3 s i).snd.fst + 1)) ∧ (IntKind.i64.wrap ((it3 s i).snd.fst + 1)).toNat < s.size)) ∧
   (bif bif
    bif bif (it3 s i).snd.snd then decide (IntKind.i64.wrap ((it3 s i).snd.fst + 1) < (↑s.size : Int)) else false then
      A6 s (it3 s i).snd.fst.toNat == 45
    else false then
  A6 s (IntKind.i64.wrap ((it3 s i).snd.fst + 1)).toNat != 93
else false then
    ((((0 : Int) ≤ IntKind.i64.wrap ((it3 s i).snd.fst + 1)) ∧ (((IntKind.i64.wrap ((it3 s i).snd.fst + 1) : Int) ≤ (↑s.size : Int)) ∧ s.size ≤ 200)) ∧
    (bif bif !(it3 s (IntKind.i64.wrap ((it3 s i).snd.fst + 1))).snd.snd then true
else decide ((it3 s (IntKind.i64.wrap ((it3 s i).snd.fst + 1))).fst < (it3 s i).fst) then
     (114 = 114 ∧
     R X.ret
  [C9 s, A3 i, A9 inv, V.ptr [5000] 0,
    A3 i, A9 false, V.ptr [5001] 0,
    A3 st]
  [Box.blob 176 259 1 257, Box.blob 176 259 1 257]) else
     ((114 = 114 ∧ (((0 : Int) ≤ IntKind.i64.wrap (it3 s i).fst) ∧ (((IntKind.i64.wrap (it3 s i).fst : Int) < 256) ∧ (((0 : Int) ≤ (it3 s (IntKind.i64.wrap ((it3 s i).snd.fst + 1))).fst) ∧ (((it3 s (IntKind.i64.wrap ((it3 s i).snd.fst + 1))).fst : Int) < 256))))) ∧
     (114 = 114 ∧
     R X.normal
  [C9 s,
    A3 ((it3 s (IntKind.i64.wrap ((it3 s i).snd.fst + 1))).snd.fst),
    A9 inv, V.ptr [5000] 0, V.ptr [5001] 0, A3 st]
  [Box.blob 176 259 1 257, Box.blob 176 259 1 257])))) else
    (bif bif !(it3 s i).snd.snd then true else decide ((it3 s i).fst < (it3 s i).fst) then
     (114 = 114 ∧
     R X.ret
  [C9 s, A3 i, A9 inv, V.ptr [5000] 0,
    A3 i, A9 false, V.ptr [5001] 0,
    A3 st]
  [Box.blob 176 259 1 257, Box.blob 176 259 1 257]) else
     ((114 = 114 ∧ (((0 : Int) ≤ IntKind.i64.wrap (it3 s i).fst) ∧ (((IntKind.i64.wrap (it3 s i).fst : Int) < 256) ∧ (((0 : Int) ≤ (it3 s i).fst) ∧ (((it3 s i).fst : Int) < 256))))) ∧
     (114 = 114 ∧
     R X.normal
  [C9 s, A3 ((it3 s i).snd.fst), A9 inv,
    V.ptr [5000] 0, V.ptr [5001] 0, A3 st]
  [Box.blob 176 259 1 257, Box.blob 176 259 1 257]))))))) else
   (114 = 114 ∧
   R (X.exit 0)
  [C9 s, A3 i, A9 inv, V.ptr [5000] 0,
    V.any, V.any, V.ptr [5001] 0, A3 st]
  [Box.blob 176 259 1 257, Box.blob 176 259 1 257]))) := by kernel_rfl
theorem f9f (inv:Bool) (i:Int) (k:Int) (R:X→List V→List Box→Prop):(D7 (CnB a9b) a9b (L6 a5u) 0 C5 B1 d9b 114 [1,2,6,9,16] [[5000], [5001]] [] s9 [1,6,9] s9
 [A3 i,A9 inv,V.ptr [5000] 0,V.ptr [5001] 0,A3 k] [nB,nB] R) =
 (bif decide (k<256) then
 ((((0:Int)≤k)∧k.toNat<256)∧
 ((1≤1+k.toNat*1∧1+k.toNat*1<257)∧
 ((((0:Int)≤k)∧k.toNat<256)∧
 (1+k.toNat*1<259∧
 (114=114∧
 R X.normal
 [A3 i,A9 inv,V.ptr [5000] 0,V.ptr [5001] 0,
 A3 (IntKind.i64.wrap (k+1))]
 [Box.blob 176 259 1 257,Box.blob 176 259 1 257]))))) else
 (114=114∧
 R (X.exit 4) [A3 i,V.ptr [5000] 0,V.ptr [5001] 0]
 [Box.blob 176 259 1 257,Box.blob 176 259 1 257])):=by kernel_rfl
noncomputable def rgQ (s:ByteArray) (i:Int):Bool:=bif (bif (bif (it3 s i).2.2 then decide ((it3 s i).2.1+1<(s.size:Int)) else false) then A6 s (it3 s i).2.1.toNat==45 else false) then A6 s ((it3 s i).2.1+1).toNat !=93 else false
noncomputable def brT (s:ByteArray) (i:Int):Int×Int×Bool:=bif rgQ s i then it3 s ((it3 s i).2.1+1) else it3 s i
noncomputable def a8z (s:ByteArray) (i:Int):Bool:=bif !(brT s i).2.2 then true else decide ((brT s i).1<(it3 s i).1)
noncomputable def brL (s:ByteArray):Nat→Int→Bool×Int
 | 0,i=>(false,i)
 | n+1,i=>bif (bif decide (i<(s.size:Int)) then A6 s i.toNat !=93 else false) then (bif a8z s i then (false,i) else brL s n (brT s i).2.1) else (true,i)
noncomputable def brQ (s:ByteArray) (i:Int):Bool×Int :=
 bif (brL s 201 i).1 then (bif (bif decide ((brL s 201 i).2≥(s.size:Int)) then true else (brL s 201 i).2==i) then (false,(brL s 201 i).2) else (true,(brL s 201 i).2+1)) else (false,(brL s 201 i).2)
noncomputable def e2d : Ev.Spec := { L := [0,1,2,6,9,10], ns := [([5000],[8]),([5001],[11])], L' := [0,1,2,6,7,8,9,10], nm' := [[5000],[5001]], G := fun N vals bs k => match vals, bs with
  | [.d (.lit (.string s)), .d (.lit (.int .i64 i)), .d (.lit (.bool inv)), .ptr [5000] 0, .ptr [5001] 0, .d (.lit (.int .i64 st))], [.blob 176 259 1 257, .blob 176 259 1 257] => (N = 114 ∧ i = st ∧ a3k s i) ∧
      (bif (brL s 201 i).1 then k (.exit 0) [C9 s, A3 (brL s 201 i).2, A9 inv, .ptr [5000] 0, .any, .any, .ptr [5001] 0, A3 st] [nB, nB]
       else k .ret [C9 s, A3 (brL s 201 i).2, A9 inv, .ptr [5000] 0, A3 (brL s 201 i).2, A9 false, .ptr [5001] 0, A3 st] [nB, nB])
  | _, _ => False }
def e2e:Ev.Spec:={L:=[1,2,6,9,16],ns:=s9,L':=[1,6,9],nm':=[[5000],[5001]],G:=fun N vals bs k=>match vals,bs with
 | [.d (.lit (.int .i64 i)), .d (.lit (.bool inv)), .ptr [5000] 0, .ptr [5001] 0, .d (.lit (.int .i64 m))], [.blob 176 259 1 257, .blob 176 259 1 257]=>(N=114∧m=0)∧k (.exit 4) [A3 i, .ptr [5000] 0, .ptr [5001] 0] [nB,nB]
 | _,_=>False }
theorem h4x (s:ByteArray) (i:Int) (inv:Bool) (p:V→Prop):(B7 (CnB a9b) a9b (L6 a5u) 0 (spL [(6,e2d),(36,e2e)]) B1 236 [V.d (sD s),V.d (ntD i),A9 inv]
 B4.empty fun v H=>p (B5 H v)) =
 ((114=114∧(((i:Int)=i)∧a3k s i))∧
 (bif (brL s 201 i).fst then
 (bif bif decide ((brL s 201 i).snd≥(↑s.size:Int)) then true else (brL s 201 i).snd==i then
 p
 (V.d
 (D.tup
 [D.agg
 N3,
 iD ((brL s 201 i).snd),oD false])) else
 ((114=114∧((0:Int)=0))∧
 p
 (V.d
 (D.tup
 [D.agg
 N3,
 iD (IntKind.i64.wrap ((brL s 201 i).snd+1)),oD true])))) else
 p
 (V.d
 (D.tup
 [D.agg
 N3,
 iD ((brL s 201 i).snd),oD false])))):=by kernel_rfl
noncomputable def g9e:Ct:=⟨fun | [.lit (.string s), .lit (.int .i64 i), .lit (.bool _)]=>a3k s i|_=>False,fun | [.lit (.string s), .lit (.int .i64 i), .lit (.bool _)]=>some (.tup [.agg N3, .lit (.int .i64 (brQ s i).2), .lit (.bool (brQ s i).1)])|_=>none⟩
noncomputable def g5c:Tab:=a9b.add 236 g9e
theorem h8p:C2 B f5u:=by
 refine C3 C4 k13 (fn:=Tryz.f249) (cd:=A7 Tryz.f249) (sp:=C5) (hn:=B1) Tryz.func249 (by kernel_rfl) (by kernel_rfl) A8 fun ds r hp hr=>?_
 unfold g9c at hr
 simp only[] at hr
 split at hr
 ·cases hr
  refine keep (h4u _ fun v=>v=_) ?_
  rfl
 ·cases hr
theorem h8q:C2 B f5v:=by
 refine C3 C4 h8p (fn:=Tryz.f248) (cd:=A7 Tryz.f248) (sp:=C5) (hn:=B1) Tryz.func248 (by kernel_rfl) (by kernel_rfl) A8 fun ds r hp hr=>?_
 unfold g9d at hr
 simp only[] at hr
 split at hr
 ·rename_i c
  cases hr
  refine keep (h4v c fun v=>v=_) ?_
  unfold c2p c7r
  (repeat' (first|with_reducible rfl | (refine A4 (fun hcw=>?_) (fun hcw=>?_)<;>simp only[hcw,cond_true,cond_false])|refine S4 ?_ ?_))
  all_goals trivial
 ·cases hr
theorem g7s:C2 B f5y:=by
 refine C3 C4 h8q (fn:=Tryz.f233) (cd:=A7 Tryz.f233) (sp:=C5) (hn:=B1) Tryz.func233 (by kernel_rfl) (by kernel_rfl) A8 fun ds r hp hr=>?_
 unfold c233 at hr
 simp only[] at hr
 split at hr
 ·cases hr
  refine keep (h5a _ fun v=>v=_) ?_
  rfl
 ·cases hr
theorem g7r:C2 B f5x:=by
 refine Y1 g7s fun ds r hp hr=>?_
 unfold g9g at hp hr
 simp only[] at hr hp
 split at hr
 ·rename_i c
  cases hr
  obtain ⟨h0,h1⟩:=hp
  refine a3d C4 g7s L8 a3h (fn:=Tryz.f234) (cd:=A7 Tryz.f234) (sp:=C5) (hn:=B1) Tryz.func234 (by kernel_rfl) (by kernel_rfl) A8 (keep (h4z c fun v=>v=_) ?_)
  exact ⟨⟨h0,by omega⟩,by omega,(by trivial)⟩
 ·cases hr
theorem f3y:C2 B d4o:=by
 refine Y1 g7r fun ds r hp hr=>?_
 unfold g9h at hp hr
 simp only[] at hr hp
 split at hr
 ·rename_i x c
  cases hr
  subst hp
  refine a3d C4 g7r L8 a3h (fn:=Tryz.f217) (cd:=A7 Tryz.f217) (sp:=C5) (hn:=B1) Tryz.func217 (by kernel_rfl) (by kernel_rfl) A8 (keep (h5e c fun v=>v=_) ?_)
  exact A4 (fun _=>rfl) (fun _=>A4 (fun _=>rfl) (fun _=>rfl))
 ·cases hr
theorem g6s:OkS (CnB d4o) 0 (.loop f3k) f7s:=by
 refine D2 fun N vals bs K h=>?_
 simp only[f7s] at h
 split at h
 case h_2=>exact h.elim
 rename_i c i
 obtain ⟨⟨rfl,rfl,h0,h1⟩,h⟩:=h
 have main:∀k i:Nat,i+k=256→J5 (CnB d4o) 0 f3k 52 [0,2,4,7] [[5000],[5001]] [2,4] [[5000],[5001]] [.d (u8D c), .ptr [5000] 0, .ptr [5001] 0,A3 i] [nB,nB] K:=by
  intro k
  induction k with
  | zero =>
   intro i hi
   refine B6 (Z9 C4 f3y L8 a3h) C1 A8 (hn:=B1) (adsI:=[]) (nsI:=s9) (nsX:=s9) rfl rfl (keep (h3d c i _) ?_)
   have e1:decide ((i:Int)<256)=false:=by simp;omega
   rw[e1]
   exact ⟨(by trivial),h⟩
  | succ k ih =>
   intro i hi
   refine B6 (Z9 C4 f3y L8 a3h) C1 A8 (hn:=B1) (adsI:=[]) (nsI:=s9) (nsX:=s9) rfl rfl (keep (h3d c i _) ?_)
   have e1:decide ((i:Int)<256)=true:=by simp;omega
   have e2:IntKind.i64.wrap ((i:Int)+1)=((i+1:Nat):Int):=by rw[Go.IntWalk.i64_in _ (by omega)];omega
   rw[e1]
   simp only[e2,cond_true]
   exact ⟨fun _=>trivial,⟨by omega,by omega⟩,by omega,(by trivial),ih (i+1) (by omega)⟩
 exact main 256 0 (by omega)
theorem d9m {c:Int} (h:0≤c∧c<256):0≤c2p c∧c2p c<256:=by
 unfold c2p
 cases (c==110)<;>cases (c==116)<;>simp<;>omega
theorem h8s:C2 B f5w:=by
 refine Y1 f3y fun ds r hp hr=>?_
 unfold g9f at hp hr
 simp only[] at hr hp
 split at hr
 ·rename_i c
  cases hr
  refine a3d C4 f3y L8 a3h (fn:=Tryz.f235) (cd:=A7 Tryz.f235) (sp:=spL [(12,f7s)]) (hn:=B1) Tryz.func235 (by kernel_rfl) (by kernel_rfl) (B8 (c:=.loop f3k) (by kernel_rfl) g6s C8) (keep (h4y c fun v=>v=_) ?_)
  unfold e4r
  refine A4 (fun hc=>?_) (fun hc=>?_)
  ·simp only[hc,cond_true]
   exact ⟨(by trivial),d9m hp,(by trivial)⟩
  ·simp only[hc,cond_false]
   exact ⟨⟨(by trivial),(by trivial),hp⟩,(by trivial)⟩
 ·cases hr
theorem a2x {a b:Bool} (h:(bif a then true else b)=false):a=false∧b=false:=by
 cases a with
 | true=>cases h
 | false=>exact ⟨(by trivial),h⟩
theorem W6 {a b:Bool} (h:(bif a then b else false)=true):a=true∧b=true:=by
 cases a with
 | true=>exact ⟨(by trivial),h⟩
 | false=>cases h
theorem wr {x:Int} (h: -9000000000000000000≤x) (h':x≤9000000000000000000):IntKind.i64.wrap x=x:=Go.IntWalk.i64_in _ (by omega)
theorem d5z:C2 B a9b:=by
 refine C3 C4 h8s (fn:=Tryz.f250) (cd:=A7 Tryz.f250) (sp:=C5) (hn:=B1) Tryz.func250 (by kernel_rfl) (by kernel_rfl) A8 fun ds r hp hr=>?_
 unfold g9b at hp hr
 simp only[] at hr hp
 split at hr
 ·rename_i s i
  cases hr
  obtain ⟨h0,h1,h2⟩:=hp
  refine keep (h4t s i fun v=>v=_) ?_
  rw[wr (x:=i+1) (by omega) (by omega),wr (x:=i+2) (by omega) (by omega)]
  unfold it3
  refine ⟨fun g=>?_,A4 (fun hc=>?_) (fun hc=>?_)⟩
  ·simp only[Bool.and_true,Bool.not_eq_true',decide_eq_false_iff_not] at g
   omega
  ·simp only[hc,cond_true]
  ·have:=(a2x hc).1
   simp only[decide_eq_false_iff_not] at this
   simp only[hc,cond_false]
   refine ⟨by omega,A4 (fun hc=>?_) (fun hc=>?_)⟩
   ·simp only[hc,cond_true];exact ⟨by omega,(by trivial)⟩
   ·simp only[hc,cond_false]
    refine A4 (fun hc=>?_) (fun hc=>?_)
    ·simp only[hc,cond_true]
    ·simp only[hc,cond_false]
     simp only[decide_eq_false_iff_not] at hc
     exact ⟨⟨by omega,by omega⟩,(by trivial),(by trivial)⟩
 ·cases hr
theorem b7n {s:ByteArray} {i:Int} (h:a3k s i):(0≤(it3 s i).1∧(it3 s i).1<256)∧(i≤(it3 s i).2.1∧(it3 s i).2.1≤s.size)∧((it3 s i).2.2=true→i<(it3 s i).2.1∧i<s.size):=by
 obtain ⟨h0,h1,h2⟩:=h
 unfold it3
 cases g1:(bif decide (i≥(s.size:Int)) then true else A6 s i.toNat==93) with
 | true=>simp only[cond_true];refine ⟨by omega,by omega,fun h=>by cases h⟩
 | false =>
  have hlt:=(a2x g1).1
  simp only[decide_eq_false_iff_not] at hlt
  simp only[cond_false]
  cases g2:(A6 s i.toNat !=92) with
  | true=>simp only[cond_true];exact ⟨j6 _ _,by omega,fun _=>by omega⟩
  | false =>
   simp only[cond_false]
   cases g3:decide (i+1≥(s.size:Int)) with
   | true=>simp only[cond_true];refine ⟨by omega,by omega,fun h=>by cases h⟩
   | false =>
    simp only[decide_eq_false_iff_not] at g3
    simp only[cond_false]
    exact ⟨d9m (j6 _ _),by omega,fun _=>by omega⟩
theorem g2g:OkS (CnB a9b) 0 (.loop d9c) e2f:=by
 refine D2 fun N vals bs K h=>?_
 simp only[e2f] at h
 split at h
 case h_2=>exact h.elim
 rename_i s inv st nx hi c
 obtain ⟨⟨rfl,h0,h1,h2,h3⟩,h⟩:=h
 have main:∀(k:Nat) (c:Int),0≤c→c≤256→c+k=256→J5 (CnB a9b) 0 d9c 114 [0,2,6,9,10,12,14,15] [[5000],[5001]] [0,2,6,9,10,12] [[5000],[5001]] [C9 s,A9 inv, .ptr [5000] 0, .ptr [5001] 0,A3 st,A3 nx, .d (u8D hi),A3 c] [nB,nB] K:=by
  intro k
  induction k with
  | zero =>
   intro c c0 c1 hc
   refine B6 (Z9 C4 d5z L8 a3h) C1 A8 (hn:=B1) (adsI:=[]) (nsI:=s9) (nsX:=s9) rfl rfl (keep (f9g s inv st nx hi c _) ?_)
   have e1:decide (c≤IntKind.i64.wrap hi)=false:=by rw[wr (by omega) (by omega)];simp;omega
   rw[e1]
   exact ⟨(by trivial),h⟩
  | succ k ih =>
   intro c c0 c1 hc
   refine B6 (Z9 C4 d5z L8 a3h) C1 A8 (hn:=B1) (adsI:=[]) (nsI:=s9) (nsX:=s9) rfl rfl (keep (f9g s inv st nx hi c _) ?_)
   rw[wr (x:=hi) (by omega) (by omega),wr (x:=c+1) (by omega) (by omega)]
   refine A4 (fun g=>?_) (fun g=>⟨(by trivial),h⟩)
   exact ⟨⟨by omega,by omega⟩,by omega,(by trivial),ih (c+1) (by omega) (by omega) (by omega)⟩
 exact main (256-c).toNat c h0 (by omega) (by omega)
theorem c8b {s:ByteArray} {i:Int} (h:a3k s i):(0≤(brT s i).1∧(brT s i).1<256)∧(i≤(brT s i).2.1∧(brT s i).2.1≤s.size)∧((brT s i).2.2=true→i<(brT s i).2.1):=by
 have h1:=b7n h
 unfold brT
 cases hr:rgQ s i with
 | false=>simp only[cond_false];exact ⟨h1.1,h1.2.1,fun g=>(h1.2.2 g).1⟩
 | true =>
  simp only[cond_true]
  unfold rgQ at hr
  have a1:=(W6 (W6 (W6 hr).1).1)
  have a2:(it3 s i).2.1+1<(s.size:Int):=by simpa using a1.2
  obtain ⟨p0,p1,p2⟩:=h
  have h2:=b7n (s:=s) (i:=(it3 s i).2.1+1) ⟨by omega,by omega,p2⟩
  exact ⟨h2.1,by omega,fun g=>by have:=h2.2.2 g;omega⟩
theorem g2e : OkS (CnB a9b) 0 (.loop c4u) e2d := by
  refine D2 fun N vals bs K h => ?_
  simp only [e2d] at h
  split at h
  case h_2 => exact h.elim
  rename_i s i inv st
  obtain ⟨⟨rfl, rfl, hp⟩, h⟩ := h
  have hok : o8 (CnB a9b) 0 (spL [(22, e2f)]) (H8 true c4u) := B8 (c := .loop d9c) (by kernel_rfl) g2g C8
  have main : ∀ (n : Nat) (j : Int), a3k s j → s.size - j < n →
      (bif (brL s n j).1 then K (.exit 0) [C9 s, A3 (brL s n j).2, A9 inv, .ptr [5000] 0, .any, .any, .ptr [5001] 0, A3 i] [nB, nB]
       else K .ret [C9 s, A3 (brL s n j).2, A9 inv, .ptr [5000] 0, A3 (brL s n j).2, A9 false, .ptr [5001] 0, A3 i] [nB, nB]) →
      J5 (CnB a9b) 0 c4u 114 [0,1,2,6,9,10] [[5000],[5001]] [0,1,2,6,7,8,9,10] [[5000],[5001]] [C9 s, A3 j, A9 inv, .ptr [5000] 0, .ptr [5001] 0, A3 i] [nB, nB] K := by
    intro n
    induction n with
    | zero => intro j hj hn; obtain ⟨_, _, _⟩ := hj; omega
    | succ n ih =>
      intro j hj hn h
      have hj' := hj
      obtain ⟨j0, j1, j2⟩ := hj'
      have p1 := b7n hj
      have p2 := c8b hj
      refine B6 (Z9 C4 d5z L8 a3h) C1 hok (hn := B1) (adsI := []) (nsI := s9) (nsX := s9) rfl rfl (keep (h3c s inv i j _) ?_)
      have hw1 : IntKind.i64.wrap ((it3 s j).2.1 + 1) = (it3 s j).2.1 + 1 := wr (by omega) (by omega)
      have hw2 : IntKind.i64.wrap (it3 s j).1 = (it3 s j).1 := wr (by omega) (by omega)
      rw [hw1, hw2]
      unfold brL at h
      refine ⟨fun g => ?_, A4 (fun g => ?_) (fun g => ?_)⟩
      · simp only [Bool.and_true, decide_eq_true_eq] at g; omega
      · rw [g] at h
        simp only [cond_true] at h
        have glt := (W6 g).1
        simp only [decide_eq_true_eq] at glt
        refine ⟨hj, fun g2 => ?_, fun g2 => ?_, ?_⟩
        · simp only [Bool.and_true] at g2
          have := (W6 g2).2
          simp only [decide_eq_true_eq] at this
          omega
        · simp only [Bool.and_true] at g2
          have := (W6 (W6 g2).1).2
          simp only [decide_eq_true_eq] at this
          omega
        · show (bif rgQ s j then _ else _)
          have fin : a8z s j = false → (brT s j).2.2 = true ∧ ¬ (brT s j).1 < (it3 s j).1 := fun hb => by
            have := a2x hb
            simpa using this
          cases hr : rgQ s j with
          | true =>
            have hT : brT s j = it3 s ((it3 s j).2.1 + 1) := by unfold brT; rw [hr]; rfl
            have hps : a3k s ((it3 s j).2.1 + 1) := by
              unfold rgQ at hr
              have := (W6 (W6 (W6 hr).1).1).2
              simp only [decide_eq_true_eq] at this
              exact ⟨by omega, by omega, j2⟩
            have hB : a8z s j = (bif !(it3 s ((it3 s j).2.1 + 1)).2.2 then true else decide ((it3 s ((it3 s j).2.1 + 1)).1 < (it3 s j).1)) := by unfold a8z; rw [hT]
            simp only [cond_true]
            refine ⟨hps, ?_⟩
            rw [← hB]
            rw [hT] at fin h p2
            refine A4 (fun g3 => ?_) (fun g3 => ?_)
            · rw [g3] at h; exact ⟨(by trivial), h⟩
            · rw [g3] at h
              exact ⟨⟨(by trivial), p1.1.1, p1.1.2, p2.1.1, p2.1.2⟩, (by trivial), ih _ ⟨by omega, by omega, j2⟩ (by have := p2.2.2 (fin g3).1; omega) h⟩
          | false =>
            have hT : brT s j = it3 s j := by unfold brT; rw [hr]; rfl
            have hB : a8z s j = (bif !(it3 s j).2.2 then true else decide ((it3 s j).1 < (it3 s j).1)) := by unfold a8z; rw [hT]
            simp only [cond_false]
            rw [← hB]
            rw [hT] at fin h p2
            refine A4 (fun g3 => ?_) (fun g3 => ?_)
            · rw [g3] at h; exact ⟨(by trivial), h⟩
            · rw [g3] at h
              exact ⟨⟨(by trivial), p1.1.1, p1.1.2, p2.1.1, p2.1.2⟩, (by trivial), ih _ ⟨by omega, by omega, j2⟩ (by have := p2.2.2 (fin g3).1; omega) h⟩
      · rw [g] at h
        exact ⟨(by trivial), h⟩
  exact main 201 i hp (by obtain ⟨_, _, _⟩ := hp; omega) h
theorem g2f:OkS (CnB a9b) 0 (.loop d9b) e2e:=by
 refine D2 fun N vals bs K h=>?_
 simp only[e2e] at h
 split at h
 case h_2=>exact h.elim
 rename_i i inv m
 obtain ⟨⟨rfl,rfl⟩,h⟩:=h
 have main:∀k j:Nat,j+k=256→J5 (CnB a9b) 0 d9b 114 [1,2,6,9,16] [[5000],[5001]] [1,6,9] [[5000],[5001]] [A3 i,A9 inv, .ptr [5000] 0, .ptr [5001] 0,A3 j] [nB,nB] K:=by
  intro k
  induction k with
  | zero =>
   intro j hj
   refine B6 (Z9 C4 d5z L8 a3h) C1 A8 (hn:=B1) (adsI:=[]) (nsI:=s9) (nsX:=s9) rfl rfl (keep (f9f inv i j _) ?_)
   have e1:decide ((j:Int)<256)=false:=by simp;omega
   rw[e1]
   exact ⟨(by trivial),h⟩
  | succ k ih =>
   intro j hj
   refine B6 (Z9 C4 d5z L8 a3h) C1 A8 (hn:=B1) (adsI:=[]) (nsI:=s9) (nsX:=s9) rfl rfl (keep (f9f inv i j _) ?_)
   have e1:decide ((j:Int)<256)=true:=by simp;omega
   have e2:IntKind.i64.wrap ((j:Int)+1)=((j+1:Nat):Int):=by rw[Go.IntWalk.i64_in _ (by omega)];omega
   rw[e1]
   simp only[e2,cond_true]
   exact ⟨⟨by omega,by omega⟩,⟨by omega,by omega⟩,⟨by omega,by omega⟩,by omega,(by trivial),ih (j+1) (by omega)⟩
 exact main 256 0 (by omega)
theorem c8c {s:ByteArray}:∀{n:Nat} {i:Int},a3k s i→i≤(brL s n i).2∧(brL s n i).2≤s.size
 | 0,i,h=>by obtain ⟨_,_,_⟩:=h;unfold brL;simp only[];omega
 | n+1,i,h=>by
  have p2:=c8b h
  unfold brL
  cases (bif decide (i<(s.size:Int)) then A6 s i.toNat !=93 else false) with
  | false=>obtain ⟨_,_,_⟩:=h;simp only[cond_false];omega
  | true =>
   simp only[cond_true]
   cases a8z s i with
   | true=>obtain ⟨_,_,_⟩:=h;simp only[cond_true];omega
   | false =>
    simp only[cond_false]
    have:=c8c (s:=s) (n:=n) (i:=(brT s i).2.1) ⟨by have:=h.1;omega,p2.2.1.2,h.2.2⟩
    omega
theorem h8r:C2 B g5c:=by
 refine Y1 d5z fun ds r hp hr=>?_
 unfold g9e at hp hr
 simp only[] at hr hp
 split at hr
 ·rename_i s i inv
  cases hr
  have hpp:a3k s i:=hp
  obtain ⟨h0,h1,h2⟩:=hpp
  have hps:=c8c (n:=201) hp
  refine a3d C4 d5z L8 a3h (fn:=Tryz.f236) (cd:=A7 Tryz.f236) (sp:=spL [(6,e2d),(36,e2e)]) (hn:=B1) Tryz.func236 (by kernel_rfl) (by kernel_rfl) (B8 (c:=.loop c4u) (by kernel_rfl) g2e (B8 (c:=.loop d9b) (by kernel_rfl) g2f C8)) (keep (h4x s i inv fun v=>v=_) ?_)
  rw[wr (x:=(brL s 201 i).2+1) (by omega) (by omega)]
  unfold brQ
  refine ⟨⟨(by trivial),(by trivial),hp⟩,A4 (fun g=>?_) (fun g=>?_)⟩
  ·simp only[g,cond_true]
   refine A4 (fun g=>?_) (fun g=>?_)
   ·simp only[g,cond_true]
   ·simp only[g,cond_false];exact ⟨⟨(by trivial),(by trivial)⟩,(by trivial)⟩
  ·simp only[g,cond_false]
 ·cases hr
def a3p (s:ByteArray) (k:Nat):Bool:=bif decide ((k:Int)<(s.size:Int)) then (bif (bif A6 s k==42 then true else A6 s k==43) then true else A6 s k==63) else false
mutual
noncomputable def E6 (s:ByteArray) (i:Nat):Bool×Nat :=
 if h:i<s.size then
  (bif !a7z (A6 s i) then (true,i+1) else
  bif A6 s i==46 then (true,i+1) else
  bif (bif A6 s i==92 then decide ((i:Int)+1<(s.size:Int)) else false) then (e4r (A6 s (i+1)),i+2) else
  bif (bif (bif A6 s i==91 then decide ((i:Int)+1<(s.size:Int)) else false) then A6 s (i+1)==94 else false) then ((brQ s ((i:Int)+2)).1,(brQ s ((i:Int)+2)).2.toNat) else
  bif A6 s i==91 then ((brQ s ((i:Int)+1)).1,(brQ s ((i:Int)+1)).2.toNat) else
  bif A6 s i !=40 then (false,i) else
  bif (bif (bif !(G2 s (i+1)).1 then true else decide (((G2 s (i+1)).2:Int)≥(s.size:Int))) then true else A6 s (G2 s (i+1)).2 !=41) then (false,i) else (true,(G2 s (i+1)).2+1))
 else (false,i)
termination_by (s.size-i)*2
noncomputable def G2 (s : ByteArray) (i : Nat) : Bool × Nat :=
 if h : i < s.size then
  (if A6 s i = 41 then (true, i)
  else if A6 s i = 124 then G2 s (i + 1)
  else if (E6 s i).1 then
   (if h2 : i < (E6 s i).2 then
    (if a3p s (E6 s i).2 then (if a3p s ((E6 s i).2 + 1) then (false, (E6 s i).2 + 1) else G2 s ((E6 s i).2 + 1)) else G2 s (E6 s i).2)
   else (false, i))
  else (false, i))
 else (true, i)
termination_by (s.size - i) * 2 + 1
end
noncomputable def g9i:Ct:=⟨fun | [.lit (.string s), .lit (.int .i64 i)]=>a3k s i∧i<s.size|_=>False,fun | [.lit (.string s), .lit (.int .i64 i)]=>some (.tup [.agg N3, .lit (.int .i64 (E6 s i.toNat).2), .lit (.bool (E6 s i.toNat).1)])|_=>none⟩
noncomputable def g9n:Ct:=⟨fun | [.lit (.string s), .lit (.int .i64 i)]=>a3k s i|_=>False,fun | [.lit (.string s), .lit (.int .i64 i)]=>some (.tup [.agg N3, .lit (.int .i64 (G2 s i.toNat).2), .lit (.bool (G2 s i.toNat).1)])|_=>none⟩
noncomputable def f4h:List (FuncId×Ct):=[(216,g9i),(193,g9n)]
def muQ (K:FuncId) (ds:List D):Nat:=match ds with
 | [.lit (.string s), .lit (.int _ i)]=>(s.size-i.toNat)*2+(bif K==216 then 0 else 1)
 | _=>0
noncomputable def UQ (n:Nat):Tab:=g5c.addG (c2z f4h muQ n)
noncomputable def f3m:Code:=D6 (C6 (A7 Tryz.f216) 14)
theorem h3e (n:Nat) (i:Int) (k:Int) (R:X→List V→List Box→Prop):(D7 (CnB (UQ n)) (UQ n) (L6 a5u) 0 C5 B1 f3m 122 [1,4,8,9] [[5000], [5001]] [] s9 [1,4,8] s9
 [A3 i,V.ptr [5000] 0,V.ptr [5001] 0,A3 k] [nB,nB] R) =
 (bif decide (k<256) then
 ((((0:Int)≤k)∧k.toNat<256)∧
 (1+k.toNat*1<259∧
 (122=122∧
 R X.normal
 [A3 i,V.ptr [5000] 0,V.ptr [5001] 0,
 A3 (IntKind.i64.wrap (k+1))]
 [Box.blob 176 259 1 257,Box.blob 176 259 1 257]))) else
 (122=122∧
 R (X.exit 0) [A3 i,V.ptr [5000] 0,V.ptr [5001] 0]
 [Box.blob 176 259 1 257,Box.blob 176 259 1 257])):=by kernel_rfl
def f7t:Ev.Spec:={L:=[1,4,8,9],ns:=[([5000],[6]),([5001],[10])],L':=[1,4,8],nm':=[[5000],[5001]],G:=fun N vals bs k=>match vals,bs with
 | [.d (.lit (.int .i64 i)), .ptr [5000] 0, .ptr [5001] 0, .d (.lit (.int .i64 m))], [.blob 176 259 1 257, .blob 176 259 1 257]=>(N=122∧m=0)∧k (.exit 0) [A3 i, .ptr [5000] 0, .ptr [5001] 0] [nB,nB]
 | _,_=>False }
theorem h5f (n : Nat) (s : ByteArray) (i : Int) (p : V → Prop) : (B7 (CnB (UQ n)) (UQ n) (L6 a5u) 0 (spL [(14, f7t)]) B1 216 [V.d (sD s), V.d (ntD i)] B4.empty fun v H =>
  p (B5 H v)) =
  ((((0 : Int) ≤ i) ∧ i.toNat < s.size) ∧
  (True ∧
  (bif !a7z (A6 s i.toNat) then
   ((((0 : Int) ≤ A6 s i.toNat) ∧ ((A6 s i.toNat : Int) < 256)) ∧
   p
  (V.d
    (D.tup
      [D.agg
          N3,
        iD (IntKind.i64.wrap (i + 1)), oD true]))) else
   (bif A6 s i.toNat == 46 then
    ((122 = 122 ∧ ((0 : Int) = 0)) ∧
    p
  (V.d
    (D.tup
      [D.agg
          N3,
        iD (IntKind.i64.wrap (i + 1)), oD true]))) else
    (bif bif A6 s i.toNat == 92 then decide (IntKind.i64.wrap (i + 1) < (↑s.size : Int)) else false then
     ((((0 : Int) ≤ IntKind.i64.wrap (i + 1)) ∧ (IntKind.i64.wrap (i + 1)).toNat < s.size) ∧
     ((((0 : Int) ≤ A6 s (IntKind.i64.wrap (i + 1)).toNat) ∧ ((A6 s (IntKind.i64.wrap (i + 1)).toNat : Int) < 256)) ∧
     p
  (V.d
    (D.tup
      [D.agg
          N3,
        iD (IntKind.i64.wrap (i + 2)),
        oD (e4r (A6 s (IntKind.i64.wrap (i + 1)).toNat))])))) else
     ((((bif A6 s i.toNat == 91 then decide (IntKind.i64.wrap (i + 1) < (↑s.size : Int)) else false) && true) = true → (((0 : Int) ≤ IntKind.i64.wrap (i + 1)) ∧ (IntKind.i64.wrap (i + 1)).toNat < s.size)) ∧
     (bif bif bif A6 s i.toNat == 91 then decide (IntKind.i64.wrap (i + 1) < (↑s.size : Int)) else false then
  A6 s (IntKind.i64.wrap (i + 1)).toNat == 94
else false then
      ((((0 : Int) ≤ IntKind.i64.wrap (i + 2)) ∧ (((IntKind.i64.wrap (i + 2) : Int) ≤ (↑s.size : Int)) ∧ s.size ≤ 200)) ∧
      p
  (V.d
    (D.tup
      [D.agg
          N3,
        iD ((brQ s (IntKind.i64.wrap (i + 2))).snd),
        oD ((brQ s (IntKind.i64.wrap (i + 2))).fst)]))) else
      (bif A6 s i.toNat == 91 then
       ((((0 : Int) ≤ IntKind.i64.wrap (i + 1)) ∧ (((IntKind.i64.wrap (i + 1) : Int) ≤ (↑s.size : Int)) ∧ s.size ≤ 200)) ∧
       p
  (V.d
    (D.tup
      [D.agg
          N3,
        iD ((brQ s (IntKind.i64.wrap (i + 1))).snd),
        oD ((brQ s (IntKind.i64.wrap (i + 1))).fst)]))) else
       (bif A6 s i.toNat != 40 then
        p
  (V.d
    (D.tup
      [D.agg
          N3,
        iD i, oD false])) else
        (((((0 : Int) ≤ IntKind.i64.wrap (i + 1)) ∧ (((IntKind.i64.wrap (i + 1) : Int) ≤ (↑s.size : Int)) ∧ s.size ≤ 200)) ∧ muQ 193 [zD s, iD (IntKind.i64.wrap (i + 1))] < n) ∧
        ((((!bif !(G2 s (IntKind.i64.wrap (i + 1)).toNat).fst then true
      else decide ((↑(G2 s (IntKind.i64.wrap (i + 1)).toNat).snd : Int) ≥ (↑s.size : Int))) &&
    true) =
  true → (((0 : Int) ≤ (↑(G2 s (IntKind.i64.wrap (i + 1)).toNat).snd : Int)) ∧ (↑(G2 s (IntKind.i64.wrap (i + 1)).toNat).snd : Int).toNat < s.size)) ∧
        (bif bif
    bif !(G2 s (IntKind.i64.wrap (i + 1)).toNat).fst then true
    else decide ((↑(G2 s (IntKind.i64.wrap (i + 1)).toNat).snd : Int) ≥ (↑s.size : Int)) then
  true
else A6 s (↑(G2 s (IntKind.i64.wrap (i + 1)).toNat).snd : Int).toNat != 41 then
         p
  (V.d
    (D.tup
      [D.agg
          N3,
        iD i, oD false])) else
         p
  (V.d
    (D.tup
      [D.agg
          N3,
        iD (IntKind.i64.wrap ((↑(G2 s (IntKind.i64.wrap (i + 1)).toNat).snd : Int) + 1)),
        oD true])))))))))))))) := by kernel_rfl
abbrev Q7 (k:Int) (r:V):List V:=A3 k::(List.replicate 256 (A9 false)++ [A9 false,r])
abbrev g7o (k:Int) (r:D):List D:=.lit (.int .i64 k)::(List.replicate 256 (.lit (.bool false))++ [.lit (.bool false),r])
abbrev g7p:V:=.d (.slice true 0 [])
abbrev nm5:List (B2×B2):=[([5000],[5000]),([5001],[5001]),([5002],[5002]),([5003],[5003]),([5004],[5004])]
abbrev f3e:List B2:=[[5000],[5001],[5002],[5003],[5004]]
abbrev f2f (nl:Bool) (xs:List D):Box:=.arr true nl 176 259 xs []
abbrev bx5 (n1 n2:Bool) (xs ys:List D):List Box:=[.cells 176 (Q7 0 g7p), .cells 176 (Q7 3 (.ref [5003])), .cells 176 (Q7 2 (.ref [5004])),f2f n1 xs,f2f n2 ys]
abbrev h2m (n1 n2:Bool) (xs ys:List D):List Box:=[nB, .cells 176 (Q7 3 (.ref [5003])), .cells 176 (Q7 2 (.ref [5004])),f2f n1 xs,f2f n2 ys]
noncomputable def f3r:Code:=D6 (C6 (A7 Tryz.f193) 6)
def e7m:Nat→Option o9:=fun id=>match id with
 | 7=>some {ads:=[.cell [5002] 258 176 259 [6000]],cut:=[([0,1,4,7,8], [([5000],[5000]),([5001],[5001]),([5002],[5002]),([5003],[34]),([5004],[6000])])] }
 | 17=>some {cut:=[([0,1,4,7,8], [([5000],[5000]),([5001],[5001]),([5002],[5002]),([5003],[5003]),([5004],[108])])] }
 | 10=>some {ads:=[.blob [5000] 1 257] }
 | 16=>some {ads:=[.blob [5000] 1 257] }
 | 19=>some {ads:=[.blob [5000] 1 257] }
 | _=>none
def f3d (_:TypeId):Option (Nat×Nat):=none
noncomputable def CnP (tb:Tab):Cx:=(B.blobs f3d).tab tb
theorem h3j (n : Nat) (s : ByteArray) (i : Int) (n1 : Bool) (n2 : Bool) (xs : List D) (ys : List D) (R : X → List V → List Box → Prop) : (D7 (CnP (UQ n)) (UQ n) (L6 a5u) 0 C5 e7m f3r 116 [0, 1, 4, 7, 8] f3e [] nm5 [1, 4, 5, 6, 7, 8] nm5
  [C9 s, A3 i, V.ptr [5000] 0, V.ptr [5001] 0, V.ptr [5002] 0] (bx5 n1 n2 xs ys) R) =
  (((decide (i < (↑s.size : Int)) && true) = true → (((0 : Int) ≤ i) ∧ i.toNat < s.size)) ∧
  (bif bif decide (i < (↑s.size : Int)) then A6 s i.toNat != 41 else false then
   ((((0 : Int) ≤ i) ∧ i.toNat < s.size) ∧
   (bif A6 s i.toNat == 124 then
    (bif ((xs.length + 1) * 296).ble 70368744177664 then
     (116 = 116 ∧
     R X.normal
  [C9 s, A3 (IntKind.i64.wrap (i + 1)), V.ptr [5000] 0,
    V.ptr [5001] 0, V.ptr [5002] 0]
  [Box.cells 176
      (Q7 0 (V.d (D.slice true 0 []))),
    Box.cells 176
      (Q7 3 (V.ref [5003])),
    Box.cells 176
      (Q7 2 (V.ref [5004])),
    Box.arr true (n1 && false) 176 259
      (xs ++
        [D.agg
            (g7o 2 (D.slice n2 259 ys))])
      [],
    Box.arr true true 176 259 [] []]) else
     False) else
    (((a3k s i ∧ ((i : Int) < (↑s.size : Int))) ∧ muQ 216 [zD s, iD i] < n) ∧
    (bif !(E6 s i.toNat).fst then
     (116 = 116 ∧
     R X.ret
  [A3 i, V.ptr [5000] 0, A3 i,
    A9 false, V.ptr [5001] 0, V.ptr [5002] 0]
  [Box.blob 176 259 1 257,
    Box.cells 176
      (Q7 3 (V.ref [5003])),
    Box.cells 176
      (Q7 2 (V.ref [5004])),
    Box.arr true n1 176 259 xs [], Box.arr true n2 176 259 ys []]) else
     (((decide ((↑(E6 s i.toNat).snd : Int) < (↑s.size : Int)) && true) = true → (((0 : Int) ≤ (↑(E6 s i.toNat).snd : Int)) ∧ (↑(E6 s i.toNat).snd : Int).toNat < s.size)) ∧
     (((!A6 s (↑(E6 s i.toNat).snd : Int).toNat == 42 &&
    (decide ((↑(E6 s i.toNat).snd : Int) < (↑s.size : Int)) && true)) =
  true → (((0 : Int) ≤ (↑(E6 s i.toNat).snd : Int)) ∧ (↑(E6 s i.toNat).snd : Int).toNat < s.size)) ∧
     ((((!bif A6 s (↑(E6 s i.toNat).snd : Int).toNat == 42 then true
      else A6 s (↑(E6 s i.toNat).snd : Int).toNat == 43) &&
    (decide ((↑(E6 s i.toNat).snd : Int) < (↑s.size : Int)) && true)) =
  true → (((0 : Int) ≤ (↑(E6 s i.toNat).snd : Int)) ∧ (↑(E6 s i.toNat).snd : Int).toNat < s.size)) ∧
     (bif bif decide ((↑(E6 s i.toNat).snd : Int) < (↑s.size : Int)) then
  bif
      bif A6 s (↑(E6 s i.toNat).snd : Int).toNat == 42 then true
      else A6 s (↑(E6 s i.toNat).snd : Int).toNat == 43 then
    true
  else A6 s (↑(E6 s i.toNat).snd : Int).toNat == 63
else false then
      ((((0 : Int) ≤ (↑(E6 s i.toNat).snd : Int)) ∧ (↑(E6 s i.toNat).snd : Int).toNat < s.size) ∧
      (D.agg
    N3 =
  D.agg
    N3 ∧
      (((decide (IntKind.i64.wrap ((↑(E6 s i.toNat).snd : Int) + 1) < (↑s.size : Int)) && true) = true → (((0 : Int) ≤ IntKind.i64.wrap ((↑(E6 s i.toNat).snd : Int) + 1)) ∧ (IntKind.i64.wrap ((↑(E6 s i.toNat).snd : Int) + 1)).toNat < s.size)) ∧
      (((!A6 s (IntKind.i64.wrap ((↑(E6 s i.toNat).snd : Int) + 1)).toNat == 42 &&
    (decide (IntKind.i64.wrap ((↑(E6 s i.toNat).snd : Int) + 1) < (↑s.size : Int)) && true)) =
  true → (((0 : Int) ≤ IntKind.i64.wrap ((↑(E6 s i.toNat).snd : Int) + 1)) ∧ (IntKind.i64.wrap ((↑(E6 s i.toNat).snd : Int) + 1)).toNat < s.size)) ∧
      ((((!bif A6 s (IntKind.i64.wrap ((↑(E6 s i.toNat).snd : Int) + 1)).toNat == 42 then true
      else A6 s (IntKind.i64.wrap ((↑(E6 s i.toNat).snd : Int) + 1)).toNat == 43) &&
    (decide (IntKind.i64.wrap ((↑(E6 s i.toNat).snd : Int) + 1) < (↑s.size : Int)) && true)) =
  true → (((0 : Int) ≤ IntKind.i64.wrap ((↑(E6 s i.toNat).snd : Int) + 1)) ∧ (IntKind.i64.wrap ((↑(E6 s i.toNat).snd : Int) + 1)).toNat < s.size)) ∧
      (bif bif decide (IntKind.i64.wrap ((↑(E6 s i.toNat).snd : Int) + 1) < (↑s.size : Int)) then
  bif
      bif A6 s (IntKind.i64.wrap ((↑(E6 s i.toNat).snd : Int) + 1)).toNat == 42 then true
      else A6 s (IntKind.i64.wrap ((↑(E6 s i.toNat).snd : Int) + 1)).toNat == 43 then
    true
  else A6 s (IntKind.i64.wrap ((↑(E6 s i.toNat).snd : Int) + 1)).toNat == 63
else false then
       (116 = 116 ∧
       R X.ret
  [A3 (IntKind.i64.wrap ((↑(E6 s i.toNat).snd : Int) + 1)), V.ptr [5000] 0,
    A3 (IntKind.i64.wrap ((↑(E6 s i.toNat).snd : Int) + 1)),
    A9 false, V.ptr [5001] 0, V.ptr [5002] 0]
  [Box.blob 176 259 1 257,
    Box.cells 176
      (Q7 3 (V.ref [5003])),
    Box.cells 176
      (Q7 2 (V.ref [5004])),
    Box.arr true n1 176 259 xs [], Box.arr true n2 176 259 ys []]) else
       (bif ((ys.length + 1) * 296).ble 70368744177664 then
        (116 = 116 ∧
        R X.normal
  [C9 s,
    A3 (IntKind.i64.wrap ((↑(E6 s i.toNat).snd : Int) + 1)), V.ptr [5000] 0,
    V.ptr [5001] 0, V.ptr [5002] 0]
  [Box.cells 176
      (Q7 0 (V.d (D.slice true 0 []))),
    Box.cells 176
      (Q7 3 (V.ref [5003])),
    Box.cells 176
      (Q7 2 (V.ref [5004])),
    Box.arr true n1 176 259 xs [],
    Box.arr true (n2 && false) 176 259
      (ys ++
        [D.agg
            N3])
      []]) else
        False))))))) else
      (bif ((ys.length + 1) * 296).ble 70368744177664 then
       (116 = 116 ∧
       R X.normal
  [C9 s, A3 (↑(E6 s i.toNat).snd : Int), V.ptr [5000] 0,
    V.ptr [5001] 0, V.ptr [5002] 0]
  [Box.cells 176
      (Q7 0 (V.d (D.slice true 0 []))),
    Box.cells 176
      (Q7 3 (V.ref [5003])),
    Box.cells 176
      (Q7 2 (V.ref [5004])),
    Box.arr true n1 176 259 xs [],
    Box.arr true (n2 && false) 176 259
      (ys ++
        [D.agg
            N3])
      []]) else
       False))))))))) else
   (116 = 116 ∧
   R (X.exit 0) [A3 i, V.ptr [5000] 0, V.any, V.any, V.ptr [5001] 0, V.ptr [5002] 0]
  [Box.cells 176
      (Q7 0 (V.d (D.slice true 0 []))),
    Box.cells 176
      (Q7 3 (V.ref [5003])),
    Box.cells 176
      (Q7 2 (V.ref [5004])),
    Box.arr true n1 176 259 xs [], Box.arr true n2 176 259 ys []]))) := by kernel_rfl
noncomputable def f7y (n:Nat):Ev.Spec:={L:=[0,1,4,7,8],ns:=[([5000],[6]),([5001],[9]),([5002],[10]),([5003],[6003]),([5004],[6004])],ads:=[.cell [9] 258 176 259 [6003], .cell [10] 258 176 259 [6004]],L':=[1,4,5,6,7,8],nm':=f3e,G:=fun N vals bs k=>match vals,bs with
 | [.d (.lit (.string s)), .d (.lit (.int .i64 i)), .ptr [5000] 0, .ptr [5001] 0, .ptr [5002] 0], [.cells 176 c0, .cells 176 c1, .cells 176 c2, .arr true n1 176 259 [] [], .arr true n2 176 259 [] []]=>(N=116∧a3k s i∧(s.size-i.toNat)*2+1≤n∧c0=Q7 0 g7p∧c1=Q7 3 (.ref [5003])∧c2=Q7 2 (.ref [5004]))∧
  ∀(n1 n2:Bool) (xs ys:List D),xs.length≤200→ys.length≤200→(bif (G2 s i.toNat).1 then k (.exit 0) [A3 (G2 s i.toNat).2, .ptr [5000] 0, .any, .any, .ptr [5001] 0, .ptr [5002] 0] (bx5 n1 n2 xs ys)
   else k .ret [A3 (G2 s i.toNat).2, .ptr [5000] 0,A3 (G2 s i.toNat).2,A9 false, .ptr [5001] 0, .ptr [5002] 0] (h2m n1 n2 xs ys))
 | _,_=>False }
theorem h5p (n:Nat) (s:ByteArray) (i:Int) (p:V→Prop):(B7 (CnP (UQ n)) (UQ n) (L6 a5u) 0 (spL [(6,f7y n)]) e7m 193 [V.d (sD s),V.d (ntD i)] B4.empty fun v H =>
 p (B5 H v)) =
 ((116=116∧(a3k s i∧((s.size-i.toNat)*2+1≤n∧((Q7 0 (V.d (D.slice true 0 []))) =
 (Q7 0 (V.d (D.slice true 0 [])))∧((Q7 3 (V.ref [5003])) =
 (Q7 3 (V.ref [5003]))∧(Q7 2 (V.ref [5004])) =
 (Q7 2 (V.ref [5004])))))))∧
 (∀z0:Bool,(∀z1:Bool,(∀z2:List D,(∀z3:List D,(z2.length≤200→(z3.length≤200→(bif (G2 s i.toNat).fst then
 (bif ((z2.length+1)*296).ble 70368744177664 then
 p
 (V.d
 (D.tup
 [D.agg
 N3,
 iD (↑(G2 s i.toNat).snd:Int),oD true])) else
 False) else
 p
 (V.d
 (D.tup
 [D.agg
 N3,
 iD (↑(G2 s i.toNat).snd:Int),oD false])))))))))):=by kernel_rfl
noncomputable def TQ:Tab:=g5c.addG f4h
noncomputable def rxQ (s:ByteArray):Int:=bif decide ((s.size:Int)>200) then 4 else bif (bif !(G2 s 0).1 then true else ((G2 s 0).2:Int) !=(s.size:Int)) then 3 else 0
theorem h6d (s:ByteArray) (p:V→Prop):(B7 (CnB TQ) TQ (L6 a5u) 0 C5 B1 149 [V.d (sD s)] B4.empty fun v H=>p (B5 H v)) =
 (bif decide ((↑s.size:Int)>200) then
 p
 (V.d
 (D.tup
 [D.agg
 N3,
 iD 4])) else
 ((((0:Int)≤0)∧(((0:Int)≤(↑s.size:Int))∧s.size≤200))∧
 (bif bif !(G2 s 0).fst then true else (↑(G2 s 0).snd:Int) !=(↑s.size:Int) then
 p
 (V.d
 (D.tup
 [D.agg
 N3,
 iD 3])) else
 p
 (V.d
 (D.tup
 [D.agg
 N3,
 iD 0]))))):=by kernel_rfl
noncomputable def g9t:Ct:=⟨fun _=>True,fun | [.lit (.string s)]=>some (.tup [.agg N3, .lit (.int .i64 (rxQ s))])|_=>none⟩
noncomputable def f6o:Tab:=TQ.add 149 g9t
theorem w80 (s:ByteArray) (p:V→Prop):(B7 (CnB f6o) f6o (L6 a5u) 0 C5 B1 80 [V.d (sD s)] B4.empty fun v H=>p (B5 H v)) =
 (True∧
 p (A3 (rxQ s))):=by kernel_rfl
noncomputable def c80:Ct:=⟨fun _=>True,fun | [.lit (.string s)]=>some (.lit (.int .i64 (rxQ s)))|_=>none⟩
noncomputable def T80:Tab:=f6o.add 80 c80
theorem b7r {s:ByteArray} {i:Int} (h:a3k s i):i≤(brQ s i).2∧(brQ s i).2≤s.size:=by
 have hp:=c8c (n:=201) h
 unfold brQ
 cases (brL s 201 i).1 with
 | false=>simp only[cond_false];exact hp
 | true =>
  simp only[cond_true]
  cases g:(bif decide ((brL s 201 i).2≥(s.size:Int)) then true else (brL s 201 i).2==i) with
  | true=>simp only[cond_true];exact hp
  | false =>
   have:=(a2x g).1
   simp only[decide_eq_false_iff_not] at this
   simp only[cond_false];omega
theorem e8u {a b:Int} (h:(a !=b)=true):a≠b:=by simpa using h
theorem d9w {a b:Int} (h:(a !=b)=false):a=b:=by simpa using h
theorem a9q (s:ByteArray) (h2:s.size≤200):∀(n i:Nat),i≤s.size→s.size-i≤n→
  (i≤(E6 s i).2∧(E6 s i).2≤s.size∧((E6 s i).1=true→i<(E6 s i).2))∧(i≤(G2 s i).2∧(G2 s i).2≤s.size):=by
 intro n
 induction n with
 | zero =>
  intro i hi hn
  have hlt:¬i<s.size:=by omega
  have hA:E6 s i=(false,i):=by unfold E6;rw[dif_neg hlt]
  have hE:G2 s i=(true,i):=by unfold G2;rw[dif_neg hlt]
  rw[hA,hE]
  exact ⟨⟨Nat.le_refl _,hi,fun h=>by cases h⟩,Nat.le_refl _,hi⟩
 | succ n ih =>
  intro i hi hn
  by_cases hlt:i<s.size
  ·have hA:i≤(E6 s i).2∧(E6 s i).2≤s.size∧((E6 s i).1=true→i<(E6 s i).2):=by
    have hc:=(ih (i+1) (by omega) (by omega)).2
    have hb1:=b7r (s:=s) (i:=(i:Int)+1) ⟨by omega,by omega,h2⟩
    unfold E6
    rw[dif_pos hlt]
    cases !a7z (A6 s i) with
    | true=>simp only[cond_true];omega
    | false =>
    simp only[cond_false]
    cases A6 s i==46 with
    | true=>simp only[cond_true];omega
    | false =>
    simp only[cond_false]
    cases g1:(bif A6 s i==92 then decide ((i:Int)+1<(s.size:Int)) else false) with
    | true =>
     have:=(W6 g1).2
     simp only[decide_eq_true_eq] at this
     simp only[cond_true];omega
    | false =>
    simp only[cond_false]
    cases g2:(bif (bif A6 s i==91 then decide ((i:Int)+1<(s.size:Int)) else false) then A6 s (i+1)==94 else false) with
    | true =>
     have:=(W6 (W6 g2).1).2
     simp only[decide_eq_true_eq] at this
     have hb2:=b7r (s:=s) (i:=(i:Int)+2) ⟨by omega,by omega,h2⟩
     simp only[cond_true];omega
    | false =>
    simp only[cond_false]
    cases A6 s i==91 with
    | true=>simp only[cond_true];omega
    | false =>
    simp only[cond_false]
    cases A6 s i !=40 with
    | true=>simp only[cond_true];exact ⟨Nat.le_refl _,hi,fun h=>by cases h⟩
    | false =>
    simp only[cond_false]
    cases g3:(bif (bif !(G2 s (i+1)).1 then true else decide (((G2 s (i+1)).2:Int)≥(s.size:Int))) then true else A6 s (G2 s (i+1)).2 !=41) with
    | true=>simp only[cond_true];exact ⟨Nat.le_refl _,hi,fun h=>by cases h⟩
    | false =>
     have:=(a2x (a2x g3).1).2
     simp only[decide_eq_false_iff_not] at this
     simp only[cond_false];omega
   refine ⟨hA, ?_⟩
   unfold G2
   rw[dif_pos hlt]
   split
   ·exact ⟨Nat.le_refl _,hi⟩
   ·split
    ·have:=(ih (i+1) (by omega) (by omega)).2;omega
    ·split
     ·split
      ·rename_i g
       split
       ·rename_i g1
        have hlt2:(E6 s i).2<s.size:=by
         unfold a3p at g1
         have:=(W6 g1).1
         simp only[decide_eq_true_eq] at this
         omega
        split
        ·simp only[];omega
        ·have:=(ih ((E6 s i).2+1) (by omega) (by omega)).2;omega
       ·have:=(ih ((E6 s i).2) (by omega) (by omega)).2;omega
      ·exact ⟨Nat.le_refl _,hi⟩
     ·exact ⟨Nat.le_refl _,hi⟩
  ·exact ih i hi (by omega)
theorem g6t {n:Nat} (hk:C2 B (UQ n)):OkS (CnB (UQ n)) 0 (.loop f3m) f7t:=by
 refine D2 fun N vals bs K h=>?_
 simp only[f7t] at h
 split at h
 case h_2=>exact h.elim
 rename_i i m
 obtain ⟨⟨rfl,rfl⟩,h⟩:=h
 have main:∀k j:Nat,j+k=256→J5 (CnB (UQ n)) 0 f3m 122 [1,4,8,9] [[5000],[5001]] [1,4,8] [[5000],[5001]] [A3 i, .ptr [5000] 0, .ptr [5001] 0,A3 j] [nB,nB] K:=by
  intro k
  induction k with
  | zero =>
   intro j hj
   refine B6 (Z9 C4 hk L8 a3h) C1 A8 (hn:=B1) (adsI:=[]) (nsI:=s9) (nsX:=s9) rfl rfl (keep (h3e n i j _) ?_)
   have e1:decide ((j:Int)<256)=false:=by simp;omega
   rw[e1]
   exact ⟨(by trivial),h⟩
  | succ k ih =>
   intro j hj
   refine B6 (Z9 C4 hk L8 a3h) C1 A8 (hn:=B1) (adsI:=[]) (nsI:=s9) (nsX:=s9) rfl rfl (keep (h3e n i j _) ?_)
   have e1:decide ((j:Int)<256)=true:=by simp;omega
   have e2:IntKind.i64.wrap ((j:Int)+1)=((j+1:Nat):Int):=by rw[Go.IntWalk.i64_in _ (by omega)];omega
   rw[e1]
   simp only[e2,cond_true]
   exact ⟨⟨by omega,by omega⟩,by omega,(by trivial),ih (j+1) (by omega)⟩
 exact main 256 0 (by omega)
theorem b7i {s:ByteArray} {k:Nat} (h:a3p s k=true):k<s.size:=by
 unfold a3p at h
 have:=(W6 h).1
 simp only[decide_eq_true_eq] at this
 omega
theorem g6z {n : Nat} (hk : C2 B (UQ n)) : OkS (CnP (UQ n)) 0 (.loop f3r) (f7y n) := by
  refine D2 fun N vals bs K h => ?_
  simp only [f7y] at h
  split at h
  case h_2 => exact h.elim
  rename_i s i c0 c1 c2 n1 n2
  obtain ⟨⟨rfl, ⟨h0, h1, h2⟩, hm, rfl, rfl, rfl⟩, h⟩ := h
  obtain ⟨i, rfl⟩ := Int.eq_ofNat_of_zero_le h0
  rw [Int.toNat_natCast] at h hm
  have key : ∀ (k i : Nat) (n1 n2 : Bool) (xs ys : List D), i ≤ s.size → s.size - i ≤ k → (s.size - i) * 2 + 1 ≤ n → xs.length ≤ i → ys.length ≤ i →
      (∀ (n1 n2 : Bool) (xs ys : List D), xs.length ≤ 200 → ys.length ≤ 200 → (bif (G2 s i).1 then K (.exit 0) [A3 (G2 s i).2, .ptr [5000] 0, .any, .any, .ptr [5001] 0, .ptr [5002] 0] (bx5 n1 n2 xs ys)
       else K .ret [A3 (G2 s i).2, .ptr [5000] 0, A3 (G2 s i).2, A9 false, .ptr [5001] 0, .ptr [5002] 0] (h2m n1 n2 xs ys))) →
      J5 (CnP (UQ n)) 0 f3r 116 [0,1,4,7,8] f3e [1,4,5,6,7,8] f3e [C9 s, A3 i, .ptr [5000] 0, .ptr [5001] 0, .ptr [5002] 0] (bx5 n1 n2 xs ys) K := by
    intro k
    induction k with
    | zero =>
      intro i n1 n2 xs ys hi hn hm hx hy h
      have hlt : ¬ i < s.size := by omega
      have hE : G2 s i = (true, i) := by unfold G2; rw [dif_neg hlt]
      rw [hE] at h
      refine B6 (Z9 C4 hk L8 f3d) C1 A8 (hn := e7m) (adsI := []) (nsI := nm5) (nsX := nm5) rfl rfl (keep (h3j n s i n1 n2 xs ys _) ?_)
      have e1 : decide ((i : Int) < (s.size : Int)) = false := by simp; omega
      rw [e1]
      simp only [cond_false]
      exact ⟨(fun g => by cases g), (by trivial), h n1 n2 xs ys (by omega) (by omega)⟩
    | succ k ih =>
      intro i n1 n2 xs ys hi hn hm hx hy h
      by_cases hlt : i < s.size
      · have hps := (a9q s h2 (s.size - i) i hi (by omega)).1
        have e1 : decide ((i : Int) < (s.size : Int)) = true := by simp; omega
        have hxr : ((xs.length + 1) * 296).ble 70368744177664 = true := by rw [Nat.ble_eq]; omega
        have hyr : ((ys.length + 1) * 296).ble 70368744177664 = true := by rw [Nat.ble_eq]; omega
        unfold G2 at h
        rw [dif_pos hlt] at h
        refine B6 (Z9 C4 hk L8 f3d) C1 A8 (hn := e7m) (adsI := []) (nsI := nm5) (nsX := nm5) rfl rfl (keep (h3j n s i n1 n2 xs ys _) ?_)
        rw [e1, hxr, hyr]
        simp only [cond_true, Int.toNat_natCast]
        refine ⟨fun _ => by omega, A4 (fun g => ?_) (fun g => ?_)⟩
        · have g := e8u g
          rw [if_neg g] at h
          refine ⟨by omega, A4 (fun g1 => ?_) (fun g1 => ?_)⟩
          · have g1 : A6 s i = 124 := by simpa using g1
            rw [if_pos g1] at h
            have e2 : IntKind.i64.wrap ((i : Int) + 1) = ((i + 1 : Nat) : Int) := by rw [Go.IntWalk.i64_in _ (by omega)]; omega
            rw [e2]
            exact ⟨(by trivial), ih (i + 1) _ _ _ _ (by omega) (by omega) (by omega) (by simp; omega) (by simp) h⟩
          · have g1 : ¬ A6 s i = 124 := by simpa using g1
            rw [if_neg g1] at h
            have hA : a3k s ((i : Nat) : Int) := ⟨by omega, by omega, h2⟩
            refine ⟨⟨⟨hA, by omega⟩, by show (s.size - ((i : Nat) : Int).toNat) * 2 + 0 < n; rw [Int.toNat_natCast]; omega⟩, ?_⟩
            cases gA : (E6 s i).1 with
            | false =>
              rw [gA] at h
              simp only [Bool.false_eq_true, if_false] at h
              exact ⟨(by trivial), h n1 n2 xs ys (by omega) (by omega)⟩
            | true =>
              have hj := hps.2.2 gA
              have hj2 := hps.2.1
              rw [gA] at h
              simp only [if_true] at h
              rw [dif_pos hj] at h
              simp only [Bool.not_true, cond_false]
              refine ⟨fun g2 => ?_, fun g2 => ?_, fun g2 => ?_, ?_⟩
              · simp only [Bool.and_true, decide_eq_true_eq] at g2; omega
              · simp only [Bool.and_true, Bool.and_eq_true, decide_eq_true_eq] at g2; omega
              · simp only [Bool.and_true, Bool.and_eq_true, decide_eq_true_eq] at g2; omega
              · have e2 : IntKind.i64.wrap (((E6 s i).2 : Int) + 1) = (((E6 s i).2 + 1 : Nat) : Int) := by rw [Go.IntWalk.i64_in _ (by omega)]; omega
                simp only [e2, Int.toNat_natCast]
                show (bif a3p s (E6 s i).2 then _ else _)
                cases gP : a3p s (E6 s i).2 with
                | true =>
                  have hjlt := b7i gP
                  rw [gP] at h
                  simp only [if_true] at h
                  simp only [cond_true]
                  refine ⟨by omega, (by trivial), fun g2 => ?_, fun g2 => ?_, fun g2 => ?_, ?_⟩
                  · simp only [Bool.and_true, decide_eq_true_eq] at g2; omega
                  · simp only [Bool.and_true, Bool.and_eq_true, decide_eq_true_eq] at g2; omega
                  · simp only [Bool.and_true, Bool.and_eq_true, decide_eq_true_eq] at g2; omega
                  · show (bif a3p s ((E6 s i).2 + 1) then _ else _)
                    cases gP2 : a3p s ((E6 s i).2 + 1) with
                    | true =>
                      rw [gP2] at h
                      simp only [if_true] at h
                      simp only [cond_true]
                      exact ⟨(by trivial), h n1 n2 xs ys (by omega) (by omega)⟩
                    | false =>
                      rw [gP2] at h
                      simp only [Bool.false_eq_true, if_false] at h
                      simp only [cond_false]
                      exact ⟨(by trivial), ih ((E6 s i).2 + 1) _ _ _ _ (by omega) (by omega) (by omega) (by omega) (by simp; omega) h⟩
                | false =>
                  rw [gP] at h
                  simp only [Bool.false_eq_true, if_false] at h
                  simp only [cond_false]
                  exact ⟨(by trivial), ih (E6 s i).2 _ _ _ _ (by omega) (by omega) (by omega) (by omega) (by simp; omega) h⟩
        · have g := d9w g
          rw [if_pos g] at h
          exact ⟨(by trivial), h n1 n2 xs ys (by omega) (by omega)⟩
      · exact ih i n1 n2 xs ys hi (by omega) hm hx hy h
  exact key (s.size - i) i n1 n2 [] [] (by omega) (by omega) hm (by simp) (by simp) h
theorem kQ:C2 B TQ:=by
 refine e8h h8r f4h muQ fun n hk K S hmem ds r hp hm hr=>?_
 simp only[f4h,List.mem_cons,Prod.mk.injEq,List.not_mem_nil,or_false] at hmem
 rcases hmem with ⟨rfl,rfl⟩|⟨rfl,rfl⟩
 ·unfold g9i at hp hr
  simp only[] at hr hp
  split at hr
  ·rename_i s i
   cases hr
   obtain ⟨hps,hlt⟩:=hp
   have hps':=hps
   obtain ⟨h0,h1,h2⟩:=hps'
   obtain ⟨i,rfl⟩:=Int.eq_ofNat_of_zero_le h0
   have hm:(s.size-((i:Nat):Int).toNat)*2+0=n:=hm
   rw[Int.toNat_natCast] at hm
   refine a3d C4 hk L8 a3h (fn:=Tryz.f216) (cd:=A7 Tryz.f216) (sp:=spL [(14,f7t)]) (hn:=B1) Tryz.func216 (by kernel_rfl) (by kernel_rfl) (B8 (c:=.loop f3m) (by kernel_rfl) (g6t hk) C8) (keep (h5f n s i fun v=>v=_) ?_)
   have e1:IntKind.i64.wrap ((i:Int)+1)=(i:Int)+1:=wr (by omega) (by omega)
   have e2:IntKind.i64.wrap ((i:Int)+2)=(i:Int)+2:=wr (by omega) (by omega)
   have e3:((i:Int)+1).toNat=i+1:=by omega
   have hb:=j6 s i
   have hb1:=j6 s (i+1)
   have hlt':i<s.size:=by omega
   have hE:=(a9q s h2 (s.size-(i+1)) (i+1) (by omega) (by omega)).2
   have e4:IntKind.i64.wrap (((G2 s (i+1)).2:Int)+1)=((G2 s (i+1)).2+1:Nat):=by rw[wr (by omega) (by omega)];omega
   have hq1:=b7r (s:=s) (i:=(i:Int)+1) ⟨by omega,by omega,h2⟩
   simp only[e1,e2,e3,e4,Int.toNat_natCast]
   unfold E6
   rw[dif_pos hlt']
   refine ⟨⟨by omega,by omega⟩,(by trivial),A4 (fun g=>?_) (fun g=>?_)⟩
   ·simp only[g,cond_true];exact ⟨hb,(by trivial)⟩
   simp only[g,cond_false]
   refine A4 (fun g=>?_) (fun g=>?_)
   ·simp only[g,cond_true];exact ⟨⟨(by trivial),(by trivial)⟩,(by trivial)⟩
   simp only[g,cond_false]
   refine A4 (fun g=>?_) (fun g=>?_)
   ·have:=(W6 g).2
    simp only[decide_eq_true_eq] at this
    simp only[g,cond_true];exact ⟨⟨by omega,by omega⟩,hb1,(by trivial)⟩
   simp only[g,cond_false]
   refine ⟨fun g=>?_,A4 (fun g=>?_) (fun g=>?_)⟩
   ·simp only[Bool.and_true] at g
    have:=(W6 g).2
    simp only[decide_eq_true_eq] at this
    exact ⟨by omega,by omega⟩
   ·have:=(W6 (W6 g).1).2
    simp only[decide_eq_true_eq] at this
    have hq2:=b7r (s:=s) (i:=(i:Int)+2) ⟨by omega,by omega,h2⟩
    simp only[g,cond_true]
    rw[Int.toNat_of_nonneg (by omega)]
    exact ⟨⟨by omega,by omega,h2⟩,(by trivial)⟩
   simp only[g,cond_false]
   refine A4 (fun g=>?_) (fun g=>?_)
   ·simp only[g,cond_true]
    rw[Int.toNat_of_nonneg (by omega)]
    exact ⟨⟨by omega,by omega,h2⟩,(by trivial)⟩
   simp only[g,cond_false]
   refine A4 (fun g=>?_) (fun g=>?_)
   ·simp only[g,cond_true]
   simp only[g,cond_false]
   refine ⟨⟨⟨by omega,by omega,h2⟩, ?_⟩,fun g=>?_,A4 (fun g=>?_) (fun g=>?_)⟩
   ·show (s.size-((i:Int)+1).toNat)*2+1<n
    omega
   ·simp only[Bool.and_true,Bool.not_eq_true'] at g
    have:=(a2x g).2
    simp only[decide_eq_false_iff_not] at this
    exact ⟨by omega,by omega⟩
   ·simp only[g,cond_true]
   ·simp only[g,cond_false]
  ·cases hr
 ·unfold g9n at hp hr
  simp only[] at hr hp
  split at hr
  ·rename_i s i
   cases hr
   have hps':a3k s i:=hp
   obtain ⟨h0,h1,h2⟩:=hps'
   have hm:(s.size-i.toNat)*2+1=n:=hm
   refine a3d C4 hk L8 f3d (fn:=Tryz.f193) (cd:=A7 Tryz.f193) (sp:=spL [(6,f7y n)]) (hn:=e7m) Tryz.func193 (by kernel_rfl) (by kernel_rfl) (B8 (c:=.loop f3r) (by kernel_rfl) (g6z hk) C8) (keep (h5p n s i fun v=>v=_) ?_)
   refine ⟨⟨(by trivial),hp,by omega,(by trivial),(by trivial),(by trivial)⟩,fun n1 n2 xs ys hx hy=>?_⟩
   have hxr:((xs.length+1)*296).ble 70368744177664=true:=by rw[Nat.ble_eq];omega
   rw[hxr]
   cases g:(G2 s i.toNat).1 with
   | true=>simp only[cond_true,g]
   | false=>simp only[cond_false,g]
  ·cases hr
theorem g7v:C2 B f6o:=by
 refine Y1 kQ fun ds r hp hr=>?_
 unfold g9t at hp hr
 simp only[] at hr hp
 split at hr
 ·rename_i s
  cases hr
  refine a3d C4 kQ L8 a3h (fn:=Tryz.f149) (cd:=A7 Tryz.f149) (sp:=C5) (hn:=B1) Tryz.func149 (by kernel_rfl) (by kernel_rfl) A8 (keep (h6d s fun v=>v=_) ?_)
  unfold rxQ
  refine A4 (fun g=>?_) (fun g=>?_)
  ·simp only[g,cond_true]
  ·simp only[g,cond_false]
   simp only[decide_eq_false_iff_not] at g
   refine ⟨⟨by omega,by omega,by omega⟩,A4 (fun g=>?_) (fun g=>?_)⟩
   ·simp only[g,cond_true]
   ·simp only[g,cond_false]
 ·cases hr
theorem k80:C2 B T80:=by
 refine Y1 g7v fun ds r hp hr=>?_
 unfold c80 at hp hr
 simp only[] at hr hp
 split at hr
 ·rename_i s
  cases hr
  refine a3d C4 g7v L8 a3h (fn:=Tryz.f80) (cd:=A7 Tryz.f80) (sp:=C5) (hn:=B1) Tryz.func80 (by kernel_rfl) (by kernel_rfl) A8 (keep (w80 s fun v=>v=_) ?_)
  exact ⟨(by trivial),(by trivial)⟩
 ·cases hr
theorem a4x (a b:Bool):(bif a then true else b)=(a||b):=by cases a<;>rfl
theorem a3y (a b:Bool):(bif a then b else false)=(a&&b):=by cases a<;>rfl
theorem e9e (c:Int):c3d c=(R9 c||n7 c):=by
 unfold c3d R9 n7
 simp only[a4x,a3y,ge_iff_le]
theorem d9n (c:Int):c7r c=(a4u c&&o4 c):=by
 unfold c7r a4u o4
 rw[e9e]
 simp only[a4x]
 by_cases h1:c=110
 ·subst h1;rfl
 ·by_cases h2:c=116
  ·subst h2;rfl
  ·by_cases h3:c=100
   ·subst h3;rfl
   ·by_cases h4:c=119
    ·subst h4;rfl
    ·have e1:(c==110)=false:=by simpa using h1
     have e2:(c==116)=false:=by simpa using h2
     have e3:(c==100)=false:=by simpa using h3
     have e4:(c==119)=false:=by simpa using h4
     rw[e1,e2,e3,e4];simp
theorem f4r (c:Int):e4r c=a4u c:=by
 unfold e4r
 simp only[a3y]
 by_cases h3:c=100
 ·subst h3;rfl
 ·by_cases h4:c=119
  ·subst h4;rfl
  ·have e3:(c==100)=false:=by simpa using h3
   have e4:(c==119)=false:=by simpa using h4
   have e5:(c !=100)=true:=by simpa using h3
   have e6:(c !=119)=true:=by simpa using h4
   rw[e5,e6]
   simp only[Bool.and_self,cond_true]
   rw[d9n]
   unfold o4
   rw[e3,e4];simp
theorem f4q {c:Int} (h:c7r c=true):c2p c=a2u c:=by
 unfold c2p a2u
 by_cases h3:c=100
 ·subst h3;cases h
 ·by_cases h4:c=119
  ·subst h4;cases h
  ·have e3:(c==100)=false:=by simpa using h3
   have e4:(c==119)=false:=by simpa using h4
   rw[e3,e4];rfl
theorem a3i {i:Int} {n:Nat} (h:i<n):(i==(n:Int))=false:=by
 have:i≠n:=by omega
 simpa using this
theorem e7f {s:ByteArray} {i:Int} (h:a3k s i):(it3 s i).2.2=M0 s i∧((it3 s i).2.2=true→(it3 s i).1=n6 s i∧(it3 s i).2.1=F7 s i):=by
 obtain ⟨h0,h1,h2⟩:=h
 unfold it3 M0
 by_cases hlt:i<s.size
 ·have e0:decide (i≥(s.size:Int))=false:=by simp;omega
  rw[e0,a3i hlt]
  simp only[cond_false]
  cases g1:A6 s i.toNat==93 with
  | true=>simp
  | false =>
   simp only[cond_false]
   cases g2:A6 s i.toNat !=92 with
   | true=>simp[n6,F7,g2]
   | false =>
    simp only[cond_false]
    by_cases hl2:i+1<s.size
    ·have e1:decide (i+1≥(s.size:Int))=false:=by simp;omega
     rw[e1]
     simp only[cond_false,S2,a3i hl2,Bool.not_false,Bool.true_and,Bool.false_or]
     rw[←d9n]
     refine ⟨rfl,fun hk=>?_⟩
     rw[f4q hk]
     simp only[n6,F7,g2,cond_false]
     exact ⟨trivial,by omega⟩
    ·have e1:decide (i+1≥(s.size:Int))=true:=by simp;omega
     have e2:(i+1==(s.size:Int))=true:=by simp;omega
     rw[e1]
     simp[S2,e2]
 ·have e0:decide (i≥(s.size:Int))=true:=by simp;omega
  have e2:(i==(s.size:Int))=true:=by simp;omega
  rw[e0,e2]
  simp
theorem e9x {s:ByteArray} {j:Int} (h:a3k s j):(L0 s j).1= !a8z s j∧((L0 s j).1=true→(L0 s j).2=(brT s j).2.1):=by
 obtain ⟨e1,e2⟩:=e7f h
 have hp:=b7n h
 unfold L0 a8z brT
 rw[←e1]
 cases g1:(it3 s j).2.2 with
 | false =>
  have:rgQ s j=false:=by unfold rgQ;rw[g1];rfl
  rw[this]
  simp[g1]
 | true =>
  obtain ⟨e3,e4⟩:=e2 g1
  have er:rgQ s j=a3j s (F7 s j):=by
   unfold rgQ a3j
   rw[g1, ←e4]
   simp only[cond_true,a3y,Bool.and_assoc]
  rw[er]
  simp only[cond_true]
  cases g2:a3j s (F7 s j) with
  | false =>
   simp only[cond_false]
   rw[g1]
   simp[e4]
  | true =>
   have hp2:a3k s ((it3 s j).2.1+1):=by
    rw[e4]
    unfold a3j at g2
    simp only[Bool.and_eq_true,decide_eq_true_eq] at g2
    have:=hp.2.1
    rw[e4] at this
    exact ⟨by have:=h.1;omega,by omega,h.2.2⟩
   obtain ⟨f1,f2⟩:=e7f hp2
   simp only[cond_true]
   rw[e4] at f1 f2 ⊢
   rw[←f1]
   cases g3:(it3 s (F7 s j+1)).2.2 with
   | false=>simp
   | true =>
    obtain ⟨f3,f4⟩:=f2 g3
    simp only[cond_true,Bool.not_true,cond_false]
    simp[f3,f4,e3]
def Ag (a b:Bool×Int):Prop:=a.1=b.1∧(a.1=true→a.2=b.2)
def e7v (s:ByteArray) (i:Int) (r:Bool×Int):Bool×Int:=bif r.1 then (bif (bif decide (r.2≥(s.size:Int)) then true else r.2==i) then (false,r.2) else (true,r.2+1)) else (false,r.2)
theorem h2n {s:ByteArray} {st:Int}:∀(n:Nat) (j:Int),a3k s j→s.size-j<n→st≤j→(j=st∨¬(j<s.size∧A6 s j.toNat=93))→Ag (e7v s st (brL s n j)) (brR s n j):=by
 intro n
 induction n with
 | zero=>intro j hj hn;obtain ⟨_,_,_⟩:=hj;omega
 | succ n ih =>
  intro j hj hn hst hd
  obtain ⟨e1,e2⟩:=e9x hj
  have hp:=c8b hj
  unfold brL brR
  by_cases hlt:j<s.size
  ·have d1:decide (j<(s.size:Int))=true:=by simpa using hlt
   rw[d1]
   simp only[cond_true]
   by_cases h93:A6 s j.toNat=93
   ·have d2:(A6 s j.toNat !=93)=false:=by simp[h93]
    rw[d2]
    simp only[cond_false]
    have hjs:j=st:=by
     rcases hd with h|h
     ·exact h
     ·exact absurd ⟨hlt,h93⟩ h
    have d3:decide (j≥(s.size:Int))=false:=by simp;omega
    have hno:(L0 s j).1=false:=by
     unfold L0 M0
     have:(A6 s j.toNat==93)=true:=by simpa using h93
     rw[this];simp
    rw[hno]
    unfold e7v Ag
    simp[d3,hjs]
   ·have d2:(A6 s j.toNat !=93)=true:=by simpa using h93
    rw[d2]
    simp only[cond_true]
    cases gb:a8z s j with
    | true =>
     rw[gb] at e1
     rw[e1]
     unfold e7v Ag
     simp
    | false =>
     rw[gb] at e1
     have ek:(brT s j).2.2=true:=by
      unfold a8z at gb
      have:=(a2x gb).1
      simpa using this
     have hgt:=hp.2.2 ek
     rw[e1,e2 (by rw[e1];rfl)]
     simp only[Bool.not_false,cond_true,cond_false]
     have hps:a3k s (brT s j).2.1:=⟨by have:=hj.1;omega,hp.2.1.2,hj.2.2⟩
     cases gs:J8 s (brT s j).2.1 93 with
     | true =>
      unfold J8 at gs
      simp only[Bool.and_eq_true,Bool.not_eq_true',beq_eq_false_iff_ne,beq_iff_eq] at gs
      have hpl:(brT s j).2.1<s.size:=by have:=hp.2.1.2;omega
      cases n with
      | zero=>omega
      | succ n =>
       unfold brL
       have d3:decide ((brT s j).2.1<(s.size:Int))=true:=by simpa using hpl
       have d4:(A6 s (brT s j).2.1.toNat !=93)=false:=by simp[gs.2]
       have d5:decide ((brT s j).2.1≥(s.size:Int))=false:=by simp;omega
       have d6:((brT s j).2.1==st)=false:=by simp;omega
       rw[d3,d4]
       unfold e7v Ag
       simp[d5,d6]
     | false =>
      simp only[cond_false]
      refine ih _ hps (by omega) (by omega) (.inr fun ⟨h1,h2⟩=>?_)
      unfold J8 at gs
      rw[a3i h1] at gs
      have:(A6 s (brT s j).2.1.toNat==93)=true:=by simpa using h2
      rw[this] at gs
      cases gs
  ·have d1:decide (j<(s.size:Int))=false:=by simpa using hlt
   have d3:decide (j≥(s.size:Int))=true:=by simp;omega
   have hno:(L0 s j).1=false:=by
    unfold L0 M0
    have:(j==(s.size:Int))=true:=by have:=hj.2.1;simp;omega
    rw[this];simp
   rw[d1,hno]
   unfold e7v Ag
   simp[d3]
theorem d7c {s:ByteArray} {j:Int} (h:a3k s j):Ag (brQ s j) (brR s 201 j):=by
 have:=h2n (st:=j) 201 j h (by obtain ⟨_,_,_⟩:=h;omega) (by omega) (.inl rfl)
 exact this
theorem e9y {c:Int} (h:0≤c∧c<256):a7y c=a7z c:=by
 have key:∀k:Fin 256,a7y (k.val:Int)=a7z (k.val:Int):=by decide +kernel
 obtain ⟨k,rfl⟩:=Int.eq_ofNat_of_zero_le h.1
 exact key ⟨k,by omega⟩
def AgN (a b:Bool×Nat):Prop:=a.1=b.1∧(a.1=true→a.2=b.2)
theorem AgN.no {a b:Bool×Nat} (h1:a.1=false) (h2:b.1=false):AgN a b:=⟨h1.trans h2.symm,fun h=>by rw[h1] at h;cases h⟩
theorem a4g {s:ByteArray} {k:Nat} {c:Int}:J8 s (k:Int) c=(!((k:Int)==(s.size:Int))&&A6 s k==c):=by
 unfold J8;rw[Int.toNat_natCast]
theorem f2j {s:ByteArray} {k:Nat} (hk:k≤s.size):(J8 s k 42||(J8 s k 43||J8 s k 63))=a3p s k:=by
 rw[a4g,a4g,a4g]
 unfold a3p
 simp only[a4x,a3y]
 by_cases h:k<s.size
 ·have d1:decide ((k:Int)<(s.size:Int))=true:=by simpa using h
  rw[a3i (by omega),d1]
  simp[Bool.or_assoc]
 ·have d1:decide ((k:Int)<(s.size:Int))=false:=by simpa using h
  have d2:((k:Int)==(s.size:Int))=true:=by simp;omega
  rw[d1,d2];simp
theorem c6c {s:ByteArray} {k:Nat} (h:a3p s k=true):(K4 s k).1=false:=by
 have hlt:=b7i h
 unfold a3p at h
 simp only[a4x,a3y,Bool.and_eq_true,Bool.or_eq_true,decide_eq_true_eq,beq_iff_eq] at h
 unfold K4
 rw[dif_pos hlt]
 rcases h.2 with (h|h)|h<;>(rw[h,if_neg (by decide),if_neg (by decide),if_neg (by decide),if_neg (by decide)];simp only[Bool.not_eq_false'];decide +kernel)
theorem f4i (s:ByteArray) (h2:s.size≤200):∀(n i:Nat),i≤s.size→s.size-i≤n→AgN (E6 s i) (K4 s i)∧AgN (G2 s i) (D8 s i):=by
 have seqC:∀i j:Nat,i≤s.size→j≤s.size→L4 s i=L4 s j→D8 s i=D8 s j:=fun i j hi hj h=>by
  have p1:=(a4r s (s.size-i) i hi (by omega)).2.2.1
  have p2:=(a4r s (s.size-j) j hj (by omega)).2.2.1
  unfold D8
  rw[h] at p1 ⊢
  cases (L4 s j).1 with
  | false=>rfl
  | true =>
   simp only[if_true]
   cases g:J8 s (L4 s j).2 124 with
   | false=>rfl
   | true =>
    have:=X5 g (by omega)
    rw[dif_pos ⟨p1.1,by omega⟩,dif_pos ⟨p2.1,by omega⟩]
 intro n
 induction n with
 | zero =>
  intro i hi hn
  have hlt:¬i<s.size:=by omega
  have hA:E6 s i=(false,i):=by unfold E6;rw[dif_neg hlt]
  have hE:G2 s i=(true,i):=by unfold G2;rw[dif_neg hlt]
  have hA':K4 s i=(false,i):=by unfold K4;rw[dif_neg hlt]
  have hS':L4 s i=(true,i):=by unfold L4;rw[dif_neg hlt]
  have hk:J8 s (i:Int) 124=false:=by
   have:((i:Int)==(s.size:Int))=true:=by simp;omega
   simp[J8,this]
  have hC':D8 s i=(true,i):=by unfold D8;rw[hS'];simp[hk]
  rw[hA,hE,hA',hC']
  exact ⟨⟨rfl,fun _=>rfl⟩,rfl,fun _=>rfl⟩
 | succ n ih =>
  intro i hi hn
  by_cases hlt:i<s.size
  ·have hb:=j6 s i
   have hA:AgN (E6 s i) (K4 s i):=by
    obtain ⟨c1,c2⟩:=(ih (i+1) (by omega) (by omega)).2
    have hq:=(a9q s h2 (s.size-(i+1)) (i+1) (by omega) (by omega)).2
    unfold E6 K4
    rw[dif_pos hlt,dif_pos hlt]
    rw[e9y hb]
    have hs1:a7z 40=true:=by decide +kernel
    have hs2:a7z 91=true:=by decide +kernel
    have hs3:a7z 46=true:=by decide +kernel
    have hs4:a7z 92=true:=by decide +kernel
    have hi1:(((i+1:Nat):Int))=(i:Int)+1:=by omega
    by_cases b1:A6 s i=40
    ·rw[if_pos b1]
     simp only[b1,hs1]
     have t1:((40:Int)==46)=false:=by decide
     have t2:((40:Int)==92)=false:=by decide
     have t3:((40:Int)==91)=false:=by decide
     have t4:((40:Int) !=40)=false:=by decide
     simp only[t1,t2,t3,t4,Bool.not_true,cond_false]
     cases g:(G2 s (i+1)).1 with
     | false =>
      rw[g] at c1
      rw[←c1]
      simp only[Bool.not_false,cond_true,Bool.false_eq_true,if_false]
      exact AgN.no rfl rfl
     | true =>
      have c2:=c2 g
      rw[g] at c1
      rw[←c1, ←c2]
      simp only[Bool.not_true,cond_false,if_true]
      rw[a4g]
      by_cases hl:(G2 s (i+1)).2<s.size
      ·have d1:decide (((G2 s (i+1)).2:Int)≥(s.size:Int))=false:=by simp;omega
       rw[d1,a3i (by omega)]
       simp only[cond_false,Bool.not_false,Bool.true_and]
       cases g2:A6 s (G2 s (i+1)).2==41 with
       | true =>
        have g3:(A6 s (G2 s (i+1)).2 !=41)=false:=by simpa using g2
        rw[g3];exact ⟨rfl,fun _=>rfl⟩
       | false =>
        have g3:(A6 s (G2 s (i+1)).2 !=41)=true:=by simpa using g2
        rw[g3];exact AgN.no rfl rfl
      ·have d1:decide (((G2 s (i+1)).2:Int)≥(s.size:Int))=true:=by simp;omega
       have d2:(((G2 s (i+1)).2:Int)==(s.size:Int))=true:=by simp;omega
       rw[d1,d2]
       exact AgN.no rfl rfl
    ·rw[if_neg b1]
     by_cases b2:A6 s i=91
     ·rw[if_pos b2]
      simp only[b2,hs2]
      have t1:((91:Int)==46)=false:=by decide
      have t2:((91:Int)==92)=false:=by decide
      have t3:((91:Int)==91)=true:=by decide
      simp only[t1,t2,t3,Bool.not_true,cond_false,cond_true]
      have hps1:a3k s ((i:Int)+1):=⟨by omega,by omega,h2⟩
      unfold brS
      rw[a4g,hi1]
      by_cases hl:(i:Int)+1<s.size
      ·have d1:decide ((i:Int)+1<(s.size:Int))=true:=by simpa using hl
       rw[d1,a3i hl]
       simp only[cond_true,Bool.not_false,Bool.true_and]
       cases g:A6 s (i+1)==94 with
       | true =>
        obtain ⟨a1,a2⟩:=d7c (s:=s) (j:=(i:Int)+2) ⟨by omega,by omega,h2⟩
        simp only[cond_true]
        rw[show (i:Int)+1+1=(i:Int)+2 by omega]
        exact ⟨a1,fun h=>congrArg Int.toNat (a2 h)⟩
       | false =>
        obtain ⟨a1,a2⟩:=d7c hps1
        simp only[cond_false]
        exact ⟨a1,fun h=>congrArg Int.toNat (a2 h)⟩
      ·have d1:decide ((i:Int)+1<(s.size:Int))=false:=by simpa using hl
       have d2:((i:Int)+1==(s.size:Int))=true:=by simp;omega
       obtain ⟨a1,a2⟩:=d7c hps1
       rw[d1,d2]
       simp only[cond_false,Bool.not_true,Bool.false_and]
       exact ⟨a1,fun h=>congrArg Int.toNat (a2 h)⟩
     ·rw[if_neg b2]
      by_cases b3:A6 s i=46
      ·rw[if_pos b3]
       simp only[b3,hs3]
       exact ⟨rfl,fun _=>rfl⟩
      ·rw[if_neg b3]
       by_cases b4:A6 s i=92
       ·rw[if_pos b4]
        simp only[b4,hs4]
        have t1:((92:Int)==46)=false:=by decide
        have t2:((92:Int)==92)=true:=by decide
        have t3:((92:Int)==91)=false:=by decide
        have t4:((92:Int) !=40)=true:=by decide
        simp only[t1,t2,t3,t4,Bool.not_true,cond_false,cond_true]
        unfold S2
        rw[Int.toNat_natCast,hi1]
        by_cases hl:(i:Int)+1<s.size
        ·have d1:decide ((i:Int)+1<(s.size:Int))=true:=by simpa using hl
         rw[d1,a3i hl]
         simp only[cond_true,Bool.not_false,Bool.true_and]
         rw[f4r]
         cases a4u (A6 s (i+1)) with
         | true=>exact ⟨rfl,fun _=>rfl⟩
         | false=>exact AgN.no rfl rfl
        ·have d1:decide ((i:Int)+1<(s.size:Int))=false:=by simpa using hl
         have d2:((i:Int)+1==(s.size:Int))=true:=by simp;omega
         rw[d1,d2]
         exact AgN.no rfl rfl
       ·rw[if_neg b4]
        have t1:(A6 s i==46)=false:=by simpa using b3
        have t2:(A6 s i==92)=false:=by simpa using b4
        have t3:(A6 s i==91)=false:=by simpa using b2
        have t4:(A6 s i !=40)=true:=by simpa using b1
        rw[t1,t2,t3,t4]
        cases a7z (A6 s i) with
        | true=>exact AgN.no rfl rfl
        | false=>exact ⟨rfl,fun _=>rfl⟩
   refine ⟨hA, ?_⟩
   have hk0:∀c:Int,A6 s i≠c→J8 s i c=false:=fun c hc=>by
    rw[a4g]
    have:(A6 s i==c)=false:=by simpa using hc
    rw[this];simp
   unfold G2
   rw[dif_pos hlt]
   by_cases b1:A6 s i=41
   ·rw[if_pos b1]
    have hS:L4 s i=(true,i):=by unfold L4;rw[dif_pos hlt,if_pos (.inr b1)]
    unfold D8
    rw[hS]
    simp[hk0 124 (by rw[b1];decide),AgN]
   ·rw[if_neg b1]
    by_cases b2:A6 s i=124
    ·rw[if_pos b2]
     have hS:L4 s i=(true,i):=by unfold L4;rw[dif_pos hlt,if_pos (.inl b2)]
     have hk:J8 s i 124=true:=by rw[a4g,a3i (by omega),b2];rfl
     have hC:D8 s i=D8 s (i+1):=by
      conv=>lhs;unfold D8
      rw[hS]
      simp[hk,hlt]
     rw[hC]
     exact (ih (i+1) (by omega) (by omega)).2
    ·rw[if_neg b2]
     have hno:¬(A6 s i=124∨A6 s i=41):=by rintro (h|h)<;>contradiction
     obtain ⟨a1,a2⟩:=hA
     have hq:=(a9q s h2 (s.size-i) i hi (by omega)).1
     cases gA:(E6 s i).1 with
     | false =>
      rw[gA] at a1
      have hF:(H4 s i).1=false:=by unfold H4;rw[←a1];rfl
      have hS:(L4 s i).1=false:=by unfold L4;rw[dif_pos hlt,if_neg hno,hF];rfl
      simp only[Bool.false_eq_true,if_false]
      refine AgN.no rfl ?_
      unfold D8
      rw[hS];rfl
     | true =>
      have hj:=hq.2.2 gA
      have a2:=a2 gA
      rw[gA] at a1
      simp only[if_true]
      rw[dif_pos hj]
      have hjs:=hq.2.1
      have hpe:=f2j (s:=s) (k:=(E6 s i).2) hjs
      cases gP:a3p s (E6 s i).2 with
      | true =>
       have hjl:=b7i gP
       rw[gP] at hpe
       have hF:H4 s i=(true,(E6 s i).2+1):=by
        unfold H4
        rw[←a1, ←a2,hpe];rfl
       have hS:L4 s i=L4 s ((E6 s i).2+1):=by
        conv=>lhs;unfold L4
        rw[dif_pos hlt,if_neg hno,hF]
        simp only[if_true]
        rw[dif_pos (by omega)]
       have hC:=seqC i ((E6 s i).2+1) hi (by omega) hS
       rw[hC]
       simp only[if_true]
       cases gP2:a3p s ((E6 s i).2+1) with
       | true =>
        have hl2:=b7i gP2
        have hF2:(H4 s ((E6 s i).2+1)).1=false:=by unfold H4;rw[c6c gP2];rfl
        have hno2:¬(A6 s ((E6 s i).2+1)=124∨A6 s ((E6 s i).2+1)=41):=by
         unfold a3p at gP2
         simp only[a4x,a3y,Bool.and_eq_true,Bool.or_eq_true,decide_eq_true_eq,beq_iff_eq] at gP2
         omega
        have hS2:(L4 s ((E6 s i).2+1)).1=false:=by unfold L4;rw[dif_pos hl2,if_neg hno2,hF2];rfl
        refine AgN.no rfl ?_
        unfold D8
        rw[hS2];rfl
       | false =>
        simp only[Bool.false_eq_true,if_false]
        exact (ih _ (by omega) (by omega)).2
      | false =>
       rw[gP] at hpe
       have hF:H4 s i=(true,(E6 s i).2):=by
        unfold H4
        rw[←a1, ←a2,hpe];rfl
       have hS:L4 s i=L4 s (E6 s i).2:=by
        conv=>lhs;unfold L4
        rw[dif_pos hlt,if_neg hno,hF]
        simp only[if_true]
        rw[dif_pos hj]
       have hC:=seqC i (E6 s i).2 hi hjs hS
       rw[hC]
       simp only[Bool.false_eq_true,if_false]
       exact (ih _ (by omega) (by omega)).2
  ·exact ih i hi (by omega)
theorem e5z (s:ByteArray):rxQ s=a5f s:=by
 unfold rxQ a5f
 by_cases h:s.size≤200
 ·have d:decide ((s.size:Int)>200)=false:=by simp;omega
  rw[d]
  simp only[cond_false]
  obtain ⟨e1,e2⟩:=(f4i s h s.size 0 (by omega) (by omega)).2
  unfold e2u
  rw[←e1]
  cases g:(G2 s 0).1 with
  | false=>rfl
  | true =>
   rw[←e2 g]
   simp only[Bool.not_true,cond_false,Bool.true_and]
   by_cases hs:(G2 s 0).2=s.size
   ·rw[hs];simp
   ·have d1:(((G2 s 0).2:Int) !=(s.size:Int))=true:=by simp;omega
    have d2:((G2 s 0).2==s.size)=false:=by simpa using hs
    rw[d1,d2];rfl
 ·have d:decide ((s.size:Int)>200)=true:=by simp;omega
  rw[d];rfl
mutual
/-- All strings in it are of a length that a world holds. -/
def Bd:D→Prop
 | .lit (.string s)=>s.size≤1152921504606846976
 | .agg cs=>BdL cs
 | .slice _ _ xs=>BdL xs
 | .elem cs=>BdL cs
 | _=>True
def BdL:List D→Prop
 | []=>True
 | x::r=>Bd x∧BdL r
end
theorem h5o (c:Int) (p:V→Prop):(B7 (Cn T80) T80 D4 0 C5 B1 194 [V.d (u8D c)] B4.empty fun v H=>p (B5 H v)) =
 p
 (A9 (bif
 bif
 bif bif decide (c≥97) then decide (c≤122) else false then true
 else bif decide (c≥65) then decide (c≤90) else false then
 true
 else bif decide (c≥48) then decide (c≤57) else false then
 true
 else c==95)):=by kernel_rfl
noncomputable def d4p:Tab:=T80.add 194 e8s
noncomputable def f3t:Code:=D6 (C6 (A7 Tryz.f151) 4)
theorem h3o (s:ByteArray) (i:Int) (R:X→List V→List Box→Prop):(D7 (Cn d4p) d4p D4 0 C5 B1 f3t 33 [0,3] [] [] [] [0,2] [] [C9 s,A3 i] [] R) =
 (bif decide (i<(↑s.size:Int)) then
 ((((0:Int)≤i)∧i.toNat<s.size)∧
 (True∧
 (bif !a2y (A6 s i.toNat) then
 (33=33∧
 R X.ret [C9 s,A9 false] []) else
 (33=33∧
 R X.normal [C9 s,A3 (IntKind.i64.wrap (i+1))] [])))) else
 (33=33∧
 R (X.exit 0) [C9 s,V.any] [])):=by kernel_rfl
def f8c:Ev.Spec:={L:=[0,3],ns:=[],L':=[0,2],nm':=[],G:=fun N vals bs k=>match vals,bs with
 | [.d (.lit (.string s)), .d (.lit (.int .i64 i))], []=>(N=33∧i=0∧s.size≤1152921504606846976)∧(bif X0 s s.size 0 then k (.exit 0) [C9 s, .any] [] else k .ret [C9 s,A9 false] [])
 | _,_=>False }
theorem h6b (s:ByteArray) (p:V→Prop):(B7 (Cn d4p) d4p D4 0 (spL [(4,f8c)]) B1 151 [V.d (sD s)] B4.empty fun v H=>p (B5 H v)) =
 ((33=33∧(((0:Int)=0)∧s.size≤1152921504606846976))∧
 (bif X0 s s.size 0 then
 ((((bif decide ((↑s.size:Int)>0) then decide ((↑s.size:Int)≤60) else false)&&true)=true→(((0:Int)≤0)∧0<s.size))∧
 (((!decide (A6 s 0<48) &&
 ((bif decide ((↑s.size:Int)>0) then decide ((↑s.size:Int)≤60) else false)&&true)) =
 true→(((0:Int)≤0)∧0<s.size))∧
 p
 (A9 (bif bif decide ((↑s.size:Int)>0) then decide ((↑s.size:Int)≤60) else false then
 bif decide (A6 s 0<48) then true else decide (A6 s 0>57)
 else false)))) else
 p (A9 false))):=by kernel_rfl
noncomputable def g9r:Ct:=⟨fun | [.lit (.string s)]=>s.size≤1152921504606846976|_=>False,fun | [.lit (.string s)]=>some (.lit (.bool (G4 s)))|_=>none⟩
noncomputable def f6n:Tab:=d4p.add 151 g9r
theorem h6c (y:D) (p:V→Prop):(B7 (Cn f6n) f6n D4 0 C5 B1 150 [V.d (mV y)] B4.empty fun v H=>p (B5 H v)) =
 (bif bif decide (A1 (A0 y 0)<1) then true else decide (A1 (A0 y 0)>4) then
 p (A3 8) else
 ((A5 (A0 y 1)).size.le 1152921504606846976∧
 (bif !G4 (A5 (A0 y 1)) then
 p (A3 5) else
 (bif decide (A1 (A0 y 0)>2) then
 (True∧
 p (A3 (rxQ (A5 (A0 y 2))))) else
 (bif decide ((↑(A5 (A0 y 2)).size:Int)>200) then
 p (A3 4) else
 p (A3 0)))))):=by kernel_rfl
noncomputable def e6w (y:D):Int :=
 (bif bif decide (A1 (A0 y 0)<1) then true else decide (A1 (A0 y 0)>4) then
 8 else
 (bif !G4 (A5 (A0 y 1)) then
 5 else
 (bif decide (A1 (A0 y 0)>2) then
 (rxQ (A5 (A0 y 2))) else
 (bif decide ((↑(A5 (A0 y 2)).size:Int)>200) then
 4 else
 0))))
noncomputable def g9s:Ct:=⟨fun | [x]=>a2a x∧Bd x|_=>False,fun | [x]=>some (.lit (.int .i64 (n3 x)))|_=>none⟩
noncomputable def d7m:Tab:=f6n.add 150 g9s
noncomputable def l81:Code:=D6 (C6 (A7 Tryz.f81) 8)
theorem b81 (xs:List D) (i:Int) (b:Bool) (R:X→List V→List Box→Prop):(D7 (Cn d7m) d7m D4 0 C5 B1 l81 22 [0,3] [] [] [] [2] [] [V.d (D.slice b 3 xs),A3 i] [] R) =
 (bif decide (i<(↑xs.length:Int)) then
 ((((0:Int)≤i)∧(i.toNat<xs.length∧mV (xs.getD i.toNat D.any)=xs.getD i.toNat D.any))∧
 ((a2a (mV (xs.getD i.toNat D.any))∧Bd (mV (xs.getD i.toNat D.any)))∧
 (bif n3 (mV (xs.getD i.toNat D.any)) !=0 then
 (22=22∧
 R X.ret [A3 (n3 (mV (xs.getD i.toNat D.any)))] []) else
 (22=22∧
 R X.normal [V.d (D.slice b 3 xs),A3 (IntKind.i64.wrap (i+1))] [])))) else
 (22=22∧
 R (X.exit 0) [V.any] [])):=by kernel_rfl
noncomputable def S81:Ev.Spec:={L:=[0,3],ns:=[],L':=[2],nm':=[],G:=fun N vals bs k=>match vals,bs with
 | [.d (.slice b 3 xs), .d (.lit (.int .i64 i))], []=>(N=22∧i=0∧xs.length≤16∧∀y∈xs,a2a y∧Bd y)∧P7 (C0 (C7 n3 xs) xs.length) (k (.exit 0) [.any] []) (fun e=>k .ret [A3 e] [])
 | _,_=>False }
theorem w81 (xs:List D) (b:Bool) (p:V→Prop):(B7 (Cn d7m) d7m D4 0 (spL [(8,S81)]) B1 81 [V.d (D.slice b 3 xs)] B4.empty fun v H=>p (B5 H v)) =
 (bif decide ((↑xs.length:Int)>16) then
 p (A3 4) else
 ((22=22∧(((0:Int)=0)∧(xs.length≤16∧∀(y:D),y∈xs→a2a y∧Bd y)))∧
 (match C0 (C7 n3 xs) xs.length with
 | some y0 =>
 p (A3 y0)
 | none=>p (A3 0)))):=by kernel_rfl
noncomputable def c81:Ct:=⟨fun | [.slice _ z xs]=>z=3∧∀y∈xs,a2a y∧Bd y|_=>False,fun | [.slice _ _ xs]=>some (.lit (.int .i64 (F6 xs)))|_=>none⟩
noncomputable def T81:Tab:=d7m.add 81 c81
noncomputable def l82:Code:=D6 (C6 (A7 Tryz.f82) 8)
theorem b82 (xs:List D) (i:Int) (b:Bool) (R:X→List V→List Box→Prop):(D7 (Cn T81) T81 D4 0 C5 B1 l82 33 [0,3] [] [] [] [2] [] [V.d (D.slice b 1 xs),A3 i] [] R) =
 (bif decide (i<(↑xs.length:Int)) then
 ((((0:Int)≤i)∧(i.toNat<xs.length∧zD (A5 (xs.getD i.toNat D.any))=xs.getD i.toNat D.any))∧
 ((A5 (xs.getD i.toNat D.any)).size.le 1152921504606846976∧
 (bif !G4 (A5 (xs.getD i.toNat D.any)) then
 (33=33∧
 R X.ret [A3 5] []) else
 (((decide (i>0)&&true)=true→(((0:Int)≤IntKind.i64.wrap (i-1))∧((IntKind.i64.wrap (i-1)).toNat<xs.length∧zD (A5 (xs.getD (IntKind.i64.wrap (i-1)).toNat D.any)) =
 xs.getD (IntKind.i64.wrap (i-1)).toNat D.any)))∧
 (((decide (i>0)&&true)=true→(((0:Int)≤i)∧(i.toNat<xs.length∧zD (A5 (xs.getD i.toNat D.any))=xs.getD i.toNat D.any)))∧
 (bif bif decide (i>0) then
 !Op.bytesLess (A5 (xs.getD (IntKind.i64.wrap (i-1)).toNat D.any)).toList (A5 (xs.getD i.toNat D.any)).toList
 else false then
 (33=33∧
 R X.ret [A3 9] []) else
 (33=33∧
 R X.normal [V.d (D.slice b 1 xs),A3 (IntKind.i64.wrap (i+1))] []))))))) else
 (33=33∧
 R (X.exit 0) [V.any] [])):=by kernel_rfl
noncomputable def S82:Ev.Spec:={L:=[0,3],ns:=[],L':=[2],nm':=[],G:=fun N vals bs k=>match vals,bs with
 | [.d (.slice b 1 xs), .d (.lit (.int .i64 i))], []=>(N=33∧i=0∧xs.length≤16∧∀y∈xs,a2d y∧Bd y)∧P7 (C0 (M2 false xs) xs.length) (k (.exit 0) [.any] []) (fun e=>k .ret [A3 e] [])
 | _,_=>False }
theorem w82 (xs:List D) (b:Bool) (p:V→Prop):(B7 (Cn T81) T81 D4 0 (spL [(8,S82)]) B1 82 [V.d (D.slice b 1 xs)] B4.empty fun v H=>p (B5 H v)) =
 (bif decide ((↑xs.length:Int)>16) then
 p (A3 4) else
 ((33=33∧(((0:Int)=0)∧(xs.length≤16∧∀(y:D),y∈xs→a2d y∧Bd y)))∧
 (match C0 (M2 false xs) xs.length with
 | some y0 =>
 p (A3 y0)
 | none=>p (A3 0)))):=by kernel_rfl
noncomputable def c82:Ct:=⟨fun | [.slice _ z xs]=>z=1∧∀y∈xs,a2d y∧Bd y|_=>False,fun | [.slice _ _ xs]=>some (.lit (.int .i64 (M6 xs false)))|_=>none⟩
noncomputable def T82:Tab:=T81.add 82 c82
theorem b7w:∀{xs:List D} {a:D},BdL xs→a∈xs→Bd a
 | [],_,_,h=>by cases h
 | x::r,a,hb,h=>by
  unfold BdL at hb
  rcases List.mem_cons.1 h with rfl|h
  ·exact hb.1
  ·exact b7w hb.2 h
theorem a9d:∀{xs:List D},(∀a∈xs,Bd a)→BdL xs
 | [],_=>by unfold BdL;trivial
 | x::r,h=>by unfold BdL;exact ⟨h x (by simp),a9d fun a ha=>h a (by simp[ha])⟩
theorem Bd.cells {y:D} (h:Bd y):∀c∈y.cells,Bd c:=by
 cases y with
 | agg cs=>unfold Bd at h;exact fun c hc=>b7w h hc
 | _=>intro c hc;simp only[D.cells,List.mem_singleton] at hc;subst hc;exact h
theorem Bd.cell {y:D} (h:Bd y) (i:Nat):Bd (A0 y i):=by
 unfold A0
 rw[List.getD_eq_getElem?_getD]
 cases hg:y.cells[i]? with
 | none=>simp[Bd]
 | some c=>exact h.cells c (List.mem_of_getElem? hg)
theorem Bd.seq {y:D} (h:Bd y) {a:D} (ha:a∈A2 y):Bd a:=by
 cases y with
 | slice b z xs=>unfold Bd at h;exact b7w h ha
 | _=>cases ha
theorem Bd.sub {y a:D} {i:Nat} (h:Bd y) (ha:a∈E3 y i):Bd a:=(h.cell i).seq ha
theorem Bd.strO {y:D} (h:Bd y):(A5 y).size≤1152921504606846976:=by
 unfold A5
 split
 ·unfold Bd at h;exact h
 ·exact Nat.zero_le _
theorem Bd.str {y:D} (h:Bd y) (i:Nat):(A5 (A0 y i)).size≤1152921504606846976:=(h.cell i).strO
theorem Bd.paV {y:D} (h:Bd y):Bd (paV y):=by
 refine show BdL _ from a9d fun a ha=>?_
 simp only[List.mem_cons,List.not_mem_nil,or_false] at ha
 rcases ha with rfl|rfl|rfl
 ·simp[Bd]
 ·exact show BdL _ from a9d fun a ha=>h.sub ha
 ·exact show BdL _ from a9d fun a ha=>h.sub ha
theorem a6a:∀a b:List UInt8,(!Op.bytesLess a b)=(Op.bytesLess b a||b==a)
 | [], []=>rfl
 | [],y::r=>rfl
 | x::l, []=>rfl
 | x::l,y::r=>by
  have ih:=a6a l r
  unfold Op.bytesLess
  by_cases h1:x<y
  ·have h2:¬y<x:=by simp only[UInt8.lt_iff_toNat_lt] at *;omega
   have h3:(y==x)=false:=by
    have:y≠x:=by rintro rfl;simp only[UInt8.lt_iff_toNat_lt] at *;omega
    simpa using this
   simp[h1,h2,h3,List.beq]
  ·by_cases h2:y<x
   ·have h3:(x==y)=false:=by
     have:x≠y:=by rintro rfl;simp only[UInt8.lt_iff_toNat_lt] at *;omega
     simpa using this
    simp only[h1,h2,h3,if_true,if_false,decide_true,decide_false,Bool.true_or,Bool.false_or,Bool.false_and,Bool.not_false]
   ·have h3:x=y:=by
     apply UInt8.toNat_inj.1
     simp only[UInt8.lt_iff_toNat_lt] at *;omega
    subst h3
    simp[h1,ih]
theorem g3b:C2 B d4p:=by
 refine C3 C4 k80 (fn:=Tryz.f194) (cd:=A7 Tryz.f194) (sp:=C5) (hn:=B1) Tryz.func194 (by kernel_rfl) (by kernel_rfl) A8 fun ds r hp hr=>?_
 unfold e8s at hr
 simp only[] at hr
 split at hr
 ·rename_i c
  cases hr
  refine keep (h5o c fun v=>v=_) ?_
  unfold a2y
  simp only[a4x,a3y,ge_iff_le]
 ·cases hr
theorem g7f:OkS (Cn d4p) 0 (.loop f3t) f8c:=by
 refine D2 fun N vals bs K h=>?_
 simp only[f8c] at h
 split at h
 case h_2=>exact h.elim
 rename_i s i
 obtain ⟨⟨rfl,rfl,h60⟩,h⟩:=h
 have key:∀n i:Nat,i+n=s.size→(bif X0 s n i then K (.exit 0) [C9 s, .any] [] else K .ret [C9 s,A9 false] [])→J5 (Cn d4p) 0 f3t 33 [0,3] [] [0,2] [] [C9 s,A3 i] [] K:=by
  intro n
  induction n with
  | zero =>
   intro i hi h
   refine B6 (D1 C4 g3b B9) C1 A8 (hn:=B1) (adsI:=[]) (nsI:=[]) (nsX:=[]) rfl rfl (keep (h3o s i _) ?_)
   have e1:decide ((i:Int)<s.size)=false:=by simp;omega
   rw[e1]
   exact ⟨(by trivial),h⟩
  | succ n ih =>
   intro i hi h
   refine B6 (D1 C4 g3b B9) C1 A8 (hn:=B1) (adsI:=[]) (nsI:=[]) (nsX:=[]) rfl rfl (keep (h3o s i _) ?_)
   have e1:decide ((i:Int)<s.size)=true:=by simp;omega
   have e2:IntKind.i64.wrap ((i:Int)+1)=((i+1:Nat):Int):=by rw[Go.IntWalk.i64_in _ (by omega)];omega
   rw[e1]
   unfold X0 at h
   simp only[Int.toNat_natCast,e2,cond_true]
   refine ⟨⟨by omega,by omega⟩,(by trivial), ?_⟩
   cases g:a2y (A6 s i) with
   | false=>rw[g] at h;exact ⟨(by trivial),h⟩
   | true=>rw[g] at h;exact ⟨(by trivial),ih (i+1) (by omega) h⟩
 exact key s.size 0 (by omega) h
theorem h9g:C2 B f6n:=by
 refine C3 C4 g3b (fn:=Tryz.f151) (cd:=A7 Tryz.f151) (sp:=spL [(4,f8c)]) (hn:=B1) Tryz.func151 (by kernel_rfl) (by kernel_rfl) (B8 (c:=.loop f3t) (by kernel_rfl) g7f C8) fun ds r hp hr=>?_
 unfold g9r at hp hr
 simp only[] at hr hp
 split at hr
 ·rename_i s
  cases hr
  refine keep (h6b s fun v=>v=_) ?_
  refine ⟨⟨(by trivial),(by trivial),hp⟩, ?_⟩
  unfold G4
  cases X0 s s.size 0 with
  | false=>simp only[cond_false,Bool.and_false]
  | true =>
   simp only[cond_true,Bool.and_true]
   have z:∀b:Bool,((bif decide ((s.size:Int)>0) then decide ((s.size:Int)≤60) else false)&&b)=true→(0:Int)≤0∧0<s.size:=fun b h=>by
    simp only[a3y,Bool.and_eq_true,decide_eq_true_eq] at h
    omega
   refine ⟨fun h=>z true (by simpa using h),fun h=>z true (by simp only[Bool.and_eq_true] at h ⊢;exact ⟨h.2,trivial⟩), ?_⟩
   have e1:decide ((s.size:Int)>0)=decide (1≤s.size):=decide_eq_decide.2 (by omega)
   have e2:decide ((s.size:Int)≤60)=decide (s.size≤60):=decide_eq_decide.2 (by omega)
   have e3:decide (A6 s 0<48)= !decide (48≤A6 s 0):=by rw[←decide_not];exact decide_eq_decide.2 (by omega)
   have e4:decide (A6 s 0>57)= !decide (A6 s 0≤57):=by rw[←decide_not];exact decide_eq_decide.2 (by omega)
   simp only[e1,e2,e3,e4,a4x,a3y,Bool.not_and]
 ·cases hr
theorem g2p (s:ByteArray):(a6z [.agg [.lit (.string s), .lit (.string (ByteArray.mk (Array.mk [120])))]] !=0)= !G4 s:=by
 have:=a5w s
 unfold bne
 rw[this]
theorem f3i (y:D):e6w y=n3 y:=by
 unfold e6w n3
 rw[g2p,e5z]
 generalize A1 (A0 y 0)=k
 by_cases h1:k<1
 ·simp[h1]
 ·by_cases h2:k>4
  ·simp[h1,h2]
  ·have h3:k=1∨k=2∨k=3∨k=4:=by omega
   rcases h3 with rfl|rfl|rfl|rfl<;>rfl
theorem d2g {a b:Nat} (h:a≤b):Nat.le a b:=h
theorem g7u:C2 B d7m:=by
 refine C3 C4 h9g (fn:=Tryz.f150) (cd:=A7 Tryz.f150) (sp:=C5) (hn:=B1) Tryz.func150 (by kernel_rfl) (by kernel_rfl) A8 fun ds r hp hr=>?_
 unfold g9s at hp hr
 simp only[] at hr hp
 split at hr
 ·rename_i x
  cases hr
  rw[W1 (show mV x=x from hp.1), ←f3i]
  refine keep (h6c x fun v=>v=_) ?_
  unfold e6w
  have hb:=hp.2.str 1
  (repeat' (first|with_reducible rfl | (refine A4 (fun hcw=>?_) (fun hcw=>?_)<;>simp only[hcw,cond_true,cond_false])|refine S4 ?_ ?_))
  all_goals first|trivial|exact d2g hb
 ·cases hr
theorem h7k:OkS (Cn d7m) 0 (.loop l81) S81:=by
 refine D2 fun N vals bs K h=>?_
 simp only[S81] at h
 split at h
 case h_2=>exact h.elim
 rename_i b xs i
 obtain ⟨⟨rfl,rfl,h16,hall⟩,h⟩:=h
 refine F5 (D1 C4 g7u B9) C1 A8 (hn:=B1) (adsI:=[]) (nsI:=[]) (nsX:=[]) rfl rfl xs.length
  (fun i=>[.d (.slice b 3 xs),A3 i]) (fun _=>[]) (C7 n3 xs) (fun e=>(.ret, [A3 e], [])) (by simp) (.exit 0) [.any] [] (by simp) ?_ ?_ h
 ·intro i R hi hR
  refine keep (b81 xs i b R) ?_
  have e1:decide ((i:Int)<xs.length)=true:=by simp;omega
  have e2:IntKind.i64.wrap ((i:Int)+1)=((i+1:Nat):Int):=by rw[Go.IntWalk.i64_in _ (by omega)];omega
  have hv:=hall _ (E1 hi)
  rw[e1]
  simp only[Int.toNat_natCast,e2,cond_true,show mV _=_ from hv.1]
  refine ⟨⟨by omega,hi,(by trivial)⟩,hv,A4 (fun h1=>⟨(by trivial), ?_⟩) (fun h1=>⟨(by trivial), ?_⟩)⟩<;>(simp only[C7,h1,cond_true,cond_false,P7] at hR;exact hR)
 ·intro R hR
  refine keep (b81 xs xs.length b R) ?_
  have e1:decide ((xs.length:Int)<xs.length)=false:=by simp
  rw[e1]
  exact ⟨(by trivial),hR⟩
theorem k81:C2 B T81:=by
 refine C3 C4 g7u (fn:=Tryz.f81) (cd:=A7 Tryz.f81) (sp:=spL [(8,S81)]) (hn:=B1) Tryz.func81 (by kernel_rfl) (by kernel_rfl) (B8 (c:=.loop l81) (by kernel_rfl) h7k C8) fun ds r hp hr=>?_
 unfold c81 at hp hr
 simp only[] at hr hp
 split at hr
 ·rename_i b z xs
  cases hr
  obtain ⟨rfl,hall⟩:=hp
  refine keep (w81 xs b fun v=>v=_) ?_
  unfold F6
  refine A4 (fun h1=>?_) (fun h1=>?_)<;>simp only[h1,cond_true,cond_false]
  have h1':¬(xs.length:Int)>16:=by simpa using h1
  refine ⟨⟨(by trivial),(by trivial),by omega,hall⟩, ?_⟩
  cases C0 (C7 n3 xs) xs.length<;>rfl
 ·cases hr
theorem e3i (xs:List D) (i:Nat):M2 false xs i=bif !G4 (A5 (xs.getD i .any)) then some 5 else
  bif (bif decide ((i:Int)>0) then !Op.bytesLess (A5 (xs.getD (i-1) .any)).toList (A5 (xs.getD i .any)).toList else false) then some 9 else none:=by
 unfold M2
 rw[show leS (A5 (xs.getD i .any)) (A5 (xs.getD (i-1) .any))= !Op.bytesLess (A5 (xs.getD (i-1) .any)).toList (A5 (xs.getD i .any)).toList from (a6a _ _).symm]
 cases G4 (A5 (xs.getD i .any))<;>rfl
theorem h7j:OkS (Cn T81) 0 (.loop l82) S82:=by
 refine D2 fun N vals bs K h=>?_
 simp only[S82] at h
 split at h
 case h_2=>exact h.elim
 rename_i b xs i
 obtain ⟨⟨rfl,rfl,h16,hall⟩,h⟩:=h
 refine F5 (D1 C4 k81 B9) C1 A8 (hn:=B1) (adsI:=[]) (nsI:=[]) (nsX:=[]) rfl rfl xs.length
  (fun i=>[.d (.slice b 1 xs),A3 i]) (fun _=>[]) (M2 false xs) (fun e=>(.ret, [A3 e], [])) (by simp) (.exit 0) [.any] [] (by simp) ?_ ?_ h
 ·intro i R hi hR
  refine keep (b82 xs i b R) ?_
  have e1:decide ((i:Int)<xs.length)=true:=by simp;omega
  have e2:IntKind.i64.wrap ((i:Int)+1)=((i+1:Nat):Int):=by rw[Go.IntWalk.i64_in _ (by omega)];omega
  have hv:=hall _ (E1 hi)
  have hsz:=hv.2.strO
  rw[e3i] at hR
  rw[e1]
  simp only[Int.toNat_natCast,e2,cond_true]
  refine ⟨⟨by omega,hi,hv.1⟩,d2g hsz,A4 (fun h1=>⟨(by trivial), ?_⟩) (fun h1=>?_)⟩
  ·rw[h1] at hR;exact hR
  ·rw[h1] at hR
   simp only[cond_false] at hR
   by_cases h0:0<i
   ·have e4:IntKind.i64.wrap ((i:Int)-1)=((i-1:Nat):Int):=by rw[Go.IntWalk.i64_in _ (by omega)];omega
    have hv2:=hall _ (E1 (xs:=xs) (i:=i-1) (by omega))
    simp only[e4,Int.toNat_natCast]
    refine ⟨fun _=>⟨by omega,by omega,hv2.1⟩,fun _=>⟨by omega,hi,hv.1⟩,A4 (fun h2=>⟨(by trivial), ?_⟩) (fun h2=>⟨(by trivial), ?_⟩)⟩
    ·rw[h2] at hR;exact hR
    ·rw[h2] at hR;exact hR
   ·have e5:decide ((i:Int)>0)=false:=by simp;omega
    rw[e5] at hR ⊢
    exact ⟨(fun h=>by cases h),(fun h=>by cases h),(by trivial),hR⟩
 ·intro R hR
  refine keep (b82 xs xs.length b R) ?_
  have e1:decide ((xs.length:Int)<xs.length)=false:=by simp
  rw[e1]
  exact ⟨(by trivial),hR⟩
theorem k82:C2 B T82:=by
 refine C3 C4 k81 (fn:=Tryz.f82) (cd:=A7 Tryz.f82) (sp:=spL [(8,S82)]) (hn:=B1) Tryz.func82 (by kernel_rfl) (by kernel_rfl) (B8 (c:=.loop l82) (by kernel_rfl) h7j C8) fun ds r hp hr=>?_
 unfold c82 at hp hr
 simp only[] at hr hp
 split at hr
 ·rename_i b z xs
  cases hr
  obtain ⟨rfl,hall⟩:=hp
  refine keep (w82 xs b fun v=>v=_) ?_
  unfold M6
  refine A4 (fun h1=>?_) (fun h1=>?_)<;>simp only[h1,cond_true,cond_false]
  have h1':¬(xs.length:Int)>16:=by simpa using h1
  refine ⟨⟨(by trivial),(by trivial),by omega,hall⟩, ?_⟩
  cases C0 (M2 false xs) xs.length<;>rfl
 ·cases hr
end Go.Ev.R2
end
section
namespace Go.Ev
theorem c5d:∀(l:List Nat) (j:Nat),j<l.sum→∃(i:Nat) (c:Nat),l[i]?=some c∧(l.take i).sum≤j∧j<(l.take i).sum+c
 | [],j,h=>by simp at h
 | c::r,j,h=>by
  by_cases hj:j<c
  ·exact ⟨0,c,rfl,by simp,by simpa using hj⟩
  ·simp only[List.sum_cons] at h
   obtain ⟨i,d,h1,h2,h3⟩:=c5d r (j-c) (by omega)
   exact ⟨i+1,d,by simpa using h1,by simp only[List.take_succ_cons,List.sum_cons];omega,by simp only[List.take_succ_cons,List.sum_cons];omega⟩
end Go.Ev
namespace Go.Ev.R2
open Go Go.Ev Go.Proofs
theorem g5j:∀{xs:List D},(∀(j:Nat) a,xs[j]?=some a→Bd a)→BdL xs:=fun {xs} h=>a9d fun a ha=>by
 obtain ⟨j,hj⟩:=List.getElem?_of_mem ha
 exact h j a hj
theorem g4i {P:Program} {T:TypeId→Prop} (hT:b7v P T):∀(n:Nat) (t:TypeId) (ds:List D),T t→U0 P n t ds→BdL ds:=by
 intro n
 induction n with
 | zero=>intro t ds _ h;exact h.elim
 | succ n ih =>
  intro t ds ht h
  rcases hT.kinds t ht with ⟨fs,hu⟩|⟨hc1,hu|⟨k,hu⟩|hu|⟨e,hu⟩⟩
  ·unfold U0 at h
   rw[hu] at h
   obtain ⟨hl,hf⟩:=h
   obtain ⟨g1,g2,g3⟩:=hT.struct t fs ht hu
   refine g5j fun j a ha=>?_
   have hj:j<(fs.toList.map fun f=>P.cellsOf f.type).sum:=by
    rw[←g2, ←hl];exact (List.getElem?_eq_some_iff.1 ha).1
   obtain ⟨i,c,i1,i2,i3⟩:=c5d _ j hj
   rw[List.getElem?_map] at i1
   cases hfi:fs.toList[i]? with
   | none=>rw[hfi] at i1;cases i1
   | some f =>
    rw[hfi] at i1
    simp only[Option.map_some,Option.some.injEq] at i1
    have ho:=g3 i f hfi
    rw[←List.map_take] at i2 i3
    rw[←ho] at i2 i3
    have hfit:=hf i f (by simpa using hfi)
    refine b7w (ih f.type _ (g1 f (List.mem_of_getElem? hfi)) hfit) ?_
    refine List.mem_of_getElem? (i:=j-f.offset) ?_
    rw[List.getElem?_take_of_lt (by omega),List.getElem?_drop,show f.offset+(j-f.offset)=j by omega]
    exact ha
  ·unfold U0 at h;rw[hu] at h;obtain ⟨b,rfl⟩:=h;simp[BdL,Bd]
  ·unfold U0 at h;rw[hu] at h;obtain ⟨b,rfl,_⟩:=h;simp[BdL,Bd]
  ·unfold U0 at h;rw[hu] at h;obtain ⟨s,rfl,hs⟩:=h
   unfold reachBytes at hs
   simp only[BdL,Bd,and_true]
   omega
  ·unfold U0 at h;rw[hu] at h;obtain ⟨nil,xs,rfl,_,hx⟩:=h
   simp only[BdL,Bd,and_true]
   refine a9d fun a ha=>?_
   obtain ⟨cs,rfl,hc⟩:=hx a ha
   have hb:=ih e cs (hT.slice t e ht hu).1 hc
   unfold s8
   split
   ·simpa [Bd] using hb
   ·cases cs with
    | nil=>simp[Bd]
    | cons x r=>unfold BdL at hb;exact hb.1
end Go.Ev.R2
end
section
namespace Go.Ev.R2
open Go Go.Ev Go.Proofs Go.ChangeShapes Go.WideShapes Go.ChangeAt Go.RowKit Go.Proofs.YtnnhlphbfpnaaaaGreatDoor
set_option maxRecDepth 100000
section
variable {H : Type} {enc : TypeId × Value → H} {W : World} {C4 : Nat} {v : Value} {d : DataW H} {p : List MemPlace}
theorem e9d (hv:Value.okWide Tryz.prog W .any C4 33 v) (h:DataW.Trod enc Tryz.prog W 0 (fun _=>true) true 33 v d p) (hw:∀m∈d.weights Tryz.prog 33,m≤reachBytes) :
  ∃x,N7 W (a7s W) x v∧D0 x∧Bd x:=by
 obtain ⟨fuel,h⟩:=h
 obtain ⟨h1,h2,ds,h3,h4,h5⟩:=e5k b5e fuel 33 _ _ (by decide) h hw
 have hagg:∃cs,v= .agg cs:=by
  unfold Value.okWide at hv
  rw[Tryz.underlying33] at hv
  obtain ⟨cs,hc,_⟩:=hv
  exact ⟨cs,hc⟩
 obtain ⟨cs,rfl⟩:=hagg
 exact ⟨.agg ds, .agg h3 h2,f8u fuel fuel (Nat.le_refl _) h4,by unfold Bd;exact g4i b5e fuel 33 ds (by decide) h4⟩
end
end Go.Ev.R2
end
section
namespace Go.Ev.R2
open Go Go.Ev Go.Proofs
set_option maxRecDepth 100000
theorem w59 (y:D) (p:V→Prop):(B7 (Cn T82) T82 D4 0 C5 B1 59 [V.d (gV y)] B4.empty fun v H=>p (B5 H v)) =
 (bif bif decide (A1 (A0 y 0)<1) then true else decide (A1 (A0 y 0)>8) then
 p (A3 8) else
 (bif bif
 bif
 bif
 bif !decide (A1 (A0 y 0)≤3) then !(A5 (A0 y 1)).toList==(ByteArray.mk #[]).toList
 else false then
 true
 else !decide (A1 (A0 y 0)≥6)==decide ((↑(A2 (A0 y 3)).length:Int)>0) then
 true
 else !(A1 (A0 y 0)==5)==decide ((↑(A2 (A0 y 2)).length:Int)>0) then
 true
 else bif decide (A1 (A0 y 0)≤2) then (A5 (A0 y 1)).toList==(ByteArray.mk #[]).toList else false then
 p (A3 1) else
 (bif bif decide (A1 (A0 y 0)≤2) then decide ((↑(A5 (A0 y 1)).size:Int)>200) else false then
 p (A3 4) else
 (True∧
 (bif bif A1 (A0 y 0)==3 then rxQ (A5 (A0 y 1)) !=0 else false then
 p (A3 (rxQ (A5 (A0 y 1)))) else
 ((3=3∧∀(y_1:D),y_1∈A2 (A0 y 2)→a2a y_1∧Bd y_1)∧
 (bif F6 (A2 (A0 y 2)) !=0 then
 p (A3 (F6 (A2 (A0 y 2)))) else
 ((1=1∧∀(y_1:D),y_1∈A2 (A0 y 3)→a2d y_1∧Bd y_1)∧
 p (A3 (M6 (A2 (A0 y 3)) false)))))))))):=by kernel_rfl
noncomputable def d5b (y:D):Int :=
 (bif bif decide (A1 (A0 y 0)<1) then true else decide (A1 (A0 y 0)>8) then
 8 else
 (bif bif
 bif
 bif
 bif !decide (A1 (A0 y 0)≤3) then !(A5 (A0 y 1)).toList==(ByteArray.mk #[]).toList
 else false then
 true
 else !decide (A1 (A0 y 0)≥6)==decide ((↑(A2 (A0 y 3)).length:Int)>0) then
 true
 else !(A1 (A0 y 0)==5)==decide ((↑(A2 (A0 y 2)).length:Int)>0) then
 true
 else bif decide (A1 (A0 y 0)≤2) then (A5 (A0 y 1)).toList==(ByteArray.mk #[]).toList else false then
 1 else
 (bif bif decide (A1 (A0 y 0)≤2) then decide ((↑(A5 (A0 y 1)).size:Int)>200) else false then
 4 else
 (bif bif A1 (A0 y 0)==3 then rxQ (A5 (A0 y 1)) !=0 else false then
 (rxQ (A5 (A0 y 1))) else
 (bif F6 (A2 (A0 y 2)) !=0 then
 (F6 (A2 (A0 y 2))) else
 (M6 (A2 (A0 y 3)) false))))))
noncomputable def c59:Ct:=⟨fun | [x]=>a2e x∧Bd x|_=>False,fun | [x]=>some (.lit (.int .i64 (S8 x)))|_=>none⟩
noncomputable def T59:Tab:=T82.add 59 c59
noncomputable def l26:Code:=D6 (C6 (A7 Tryz.f26) 8)
theorem b26 (xs:List D) (i:Int) (b:Bool) (R:X→List V→List Box→Prop):(D7 (Cn T59) T59 D4 0 C5 B1 l26 22 [0,3] [] [] [] [2] [] [V.d (D.slice b 4 xs),A3 i] [] R) =
 (bif decide (i<(↑xs.length:Int)) then
 ((((0:Int)≤i)∧(i.toNat<xs.length∧gV (xs.getD i.toNat D.any)=xs.getD i.toNat D.any))∧
 ((a2e (gV (xs.getD i.toNat D.any))∧Bd (gV (xs.getD i.toNat D.any)))∧
 (bif S8 (gV (xs.getD i.toNat D.any)) !=0 then
 (22=22∧
 R X.ret [A3 (S8 (gV (xs.getD i.toNat D.any)))] []) else
 (22=22∧
 R X.normal [V.d (D.slice b 4 xs),A3 (IntKind.i64.wrap (i+1))] [])))) else
 (22=22∧
 R (X.exit 0) [V.any] [])):=by kernel_rfl
noncomputable def S26:Ev.Spec:={L:=[0,3],ns:=[],L':=[2],nm':=[],G:=fun N vals bs k=>match vals,bs with
 | [.d (.slice b 4 xs), .d (.lit (.int .i64 i))], []=>(N=22∧i=0∧xs.length≤100∧∀y∈xs,a2e y∧Bd y)∧P7 (C0 (C7 S8 xs) xs.length) (k (.exit 0) [.any] []) (fun e=>k .ret [A3 e] [])
 | _,_=>False }
theorem w26 (xs:List D) (b:Bool) (p:V→Prop):(B7 (Cn T59) T59 D4 0 (spL [(8,S26)]) B1 26 [V.d (D.slice b 4 xs)] B4.empty fun v H=>p (B5 H v)) =
 (bif decide ((↑xs.length:Int)>100) then
 p (A3 4) else
 ((22=22∧(((0:Int)=0)∧(xs.length≤100∧∀(y:D),y∈xs→a2e y∧Bd y)))∧
 (match C0 (C7 S8 xs) xs.length with
 | some y0 =>
 p (A3 y0)
 | none=>p (A3 0)))):=by kernel_rfl
noncomputable def c26:Ct:=⟨fun | [.slice _ z xs]=>z=4∧∀y∈xs,a2e y∧Bd y|_=>False,fun | [.slice _ _ xs]=>some (.lit (.int .i64 (S0 xs)))|_=>none⟩
noncomputable def T26:Tab:=T59.add 26 c26
theorem h6g (s:ByteArray) (p:V→Prop):(B7 (Cn T26) T26 D4 0 C5 B1 146 [C9 s] B4.empty fun v H=>p (B5 H v)) =
 p
 (A9 (bif s.toList==(ByteArray.mk #[115,116,97,116,117,115]).toList then true
 else s.toList==(ByteArray.mk #[100,117,114,97,116,105,111,110]).toList)):=by kernel_rfl
noncomputable def f6q:Tab:=T26.add 146 c143
theorem h6h (s:ByteArray) (p:V→Prop):(B7 (Cn f6q) f6q D4 0 C5 B1 145 [C9 s] B4.empty fun v H=>p (B5 H v)) =
 (((!decide ((↑s.size:Int)<6)&&true)=true→(((0:Int)≤5)∧5≤s.size))∧
 (bif bif decide ((↑s.size:Int)<6) then true
 else !(s.extract 0 (Int.toNat 5)).toList==(ByteArray.mk #[97,116,116,114,46]).toList then
 p (V.d (D.tup [zD (bA []),oD false])) else
 ((((0:Int)≤5)∧5≤s.size)∧
 ((((0:Int)≤5)∧5≤s.size)∧
 ((s.extract 5 s.size).size.le 1152921504606846976∧
 p (V.d (D.tup [zD (s.extract 5 s.size),oD (G4 (s.extract 5 s.size))]))))))):=by kernel_rfl
def e9a:ByteArray:=ByteArray.mk #[97,116,116,114,46]
def c5s (s:ByteArray):Bool:=bif (bif decide ((s.size:Int)<6) then true else !((s.extract 0 5).toList==e9a.toList)) then false else G4 (s.extract 5 s.size)
noncomputable def c145:Ct:=⟨fun | [.lit (.string s)]=>s.size≤1152921504606846976|_=>False,fun | [.lit (.string s)]=>some (.tup [.lit (.string (bif (bif decide ((s.size:Int)<6) then true else !((s.extract 0 5).toList==e9a.toList)) then (ByteArray.mk #[]) else s.extract 5 s.size)), .lit (.bool (c5s s))])|_=>none⟩
noncomputable def f6r:Tab:=f6q.add 145 c145
theorem w76 (y:D) (p:V→Prop):(B7 (Cn f6r) f6r D4 0 C5 B1 76 [V.d (cV y)] B4.empty fun v H=>p (B5 H v)) =
 ((A5 (A0 y 0)).size.le 1152921504606846976∧
 (True∧
 (bif bif
 bif
 bif !L7 (A5 (A0 y 0)) then
 !(A5 (A0 y 0)).toList==(ByteArray.mk #[115,101,114,118,105,99,101]).toList
 else false then
 !(A5 (A0 y 0)).toList==(ByteArray.mk #[110,97,109,101]).toList
 else false then
 !c5s (A5 (A0 y 0))
 else false then
 p (A3 5) else
 (True∧
 (bif L7 (A5 (A0 y 0)) then
 (bif bif bif bif A1 (A0 y 1) !=1 then A1 (A0 y 1) !=2 else false then A1 (A0 y 1) !=5 else false then
 A1 (A0 y 1) !=6
 else false then
 p (A3 8) else
 (bif !(A5 (A0 y 2)).toList==(ByteArray.mk #[]).toList then
 p (A3 1) else
 (bif bif decide (A1 (A0 y 3)<0) then true else decide (A1 (A0 y 3)>1099511627776) then
 p (A3 2) else
 p (A3 0)))) else
 (bif bif decide (A1 (A0 y 1)<1) then true else decide (A1 (A0 y 1)>4) then
 p (A3 8) else
 (bif A1 (A0 y 3) !=0 then
 p (A3 1) else
 (bif bif decide (A1 (A0 y 1)≤2) then decide ((↑(A5 (A0 y 2)).size:Int)>200) else false then
 p (A3 4) else
 (bif decide (A1 (A0 y 1)≤2) then
 p (A3 0) else
 (True∧
 p (A3 (rxQ (A5 (A0 y 2)))))))))))))):=by kernel_rfl
noncomputable def e8k (y:D):Int :=
 (bif bif
 bif
 bif !L7 (A5 (A0 y 0)) then
 !(A5 (A0 y 0)).toList==(ByteArray.mk #[115,101,114,118,105,99,101]).toList
 else false then
 !(A5 (A0 y 0)).toList==(ByteArray.mk #[110,97,109,101]).toList
 else false then
 !c5s (A5 (A0 y 0))
 else false then
 5 else
 (bif L7 (A5 (A0 y 0)) then
 (bif bif bif bif A1 (A0 y 1) !=1 then A1 (A0 y 1) !=2 else false then A1 (A0 y 1) !=5 else false then
 A1 (A0 y 1) !=6
 else false then
 8 else
 (bif !(A5 (A0 y 2)).toList==(ByteArray.mk #[]).toList then
 1 else
 (bif bif decide (A1 (A0 y 3)<0) then true else decide (A1 (A0 y 3)>1099511627776) then
 2 else
 0))) else
 (bif bif decide (A1 (A0 y 1)<1) then true else decide (A1 (A0 y 1)>4) then
 8 else
 (bif A1 (A0 y 3) !=0 then
 1 else
 (bif bif decide (A1 (A0 y 1)≤2) then decide ((↑(A5 (A0 y 2)).size:Int)>200) else false then
 4 else
 (bif decide (A1 (A0 y 1)≤2) then
 0 else
 (rxQ (A5 (A0 y 2)))))))))
noncomputable def c76:Ct:=⟨fun | [x]=>a4z x∧Bd x|_=>False,fun | [x]=>some (.lit (.int .i64 (M3 x)))|_=>none⟩
noncomputable def T76:Tab:=f6r.add 76 c76
theorem e8v (r:Int):(bif r !=0 then r else 0)=r:=by
 by_cases h:r=0
 ·subst h;rfl
 ·have:(r !=0)=true:=by simpa using h
  rw[this];rfl
theorem c6u {xs:List D} (h:decide ((xs.length:Int)>0)=false):xs= []:=by
 simp only[decide_eq_false_iff_not] at h
 cases xs with
 | nil=>rfl
 | cons a l=>simp only[List.length_cons] at h;omega
theorem e5r (y:D):d5b y=S8 y:=by
 unfold d5b S8
 rw[e5z]
 have hm:decide ((↑(A2 (A0 y 2)).length:Int)>0)=false→F6 (A2 (A0 y 2))=0:=fun h=>by rw[c6u h];rfl
 have hn:decide ((↑(A2 (A0 y 3)).length:Int)>0)=false→M6 (A2 (A0 y 3)) false=0:=fun h=>by rw[c6u h];rfl
 generalize decide ((↑(A2 (A0 y 2)).length:Int)>0)=m at hm ⊢
 generalize decide ((↑(A2 (A0 y 3)).length:Int)>0)=n at hn ⊢
 generalize F6 (A2 (A0 y 2))=M at hm ⊢
 generalize M6 (A2 (A0 y 3)) false=N at hn ⊢
 generalize ((A5 (A0 y 1)).toList==(ByteArray.mk #[]).toList)=t
 generalize decide ((↑(A5 (A0 y 1)).size:Int)>200)=g
 generalize a5f (A5 (A0 y 1))=r
 generalize A1 (A0 y 0)=k
 by_cases h1:k<1
 ·simp[h1]
 ·by_cases h2:k>8
  ·simp[h1,h2]
  ·have h3:k=1∨k=2∨k=3∨k=4∨k=5∨k=6∨k=7∨k=8:=by omega
   rcases h3 with rfl|rfl|rfl|rfl|rfl|rfl|rfl|rfl<;>cases m<;>cases n<;>cases t<;>cases g<;>simp_all [e8v]
theorem k59:C2 B T59:=by
 refine C3 C4 k82 (fn:=Tryz.f59) (cd:=A7 Tryz.f59) (sp:=C5) (hn:=B1) Tryz.func59 (by kernel_rfl) (by kernel_rfl) A8 fun ds r hp hr=>?_
 unfold c59 at hp hr
 simp only[] at hr hp
 split at hr
 ·rename_i x
  cases hr
  rw[W1 hp.1.v, ←e5r]
  refine keep (w59 x fun v=>v=_) ?_
  unfold d5b
  have h2:∀y∈A2 (A0 x 2),a2a y∧Bd y:=fun y hy=>⟨hp.1.m y hy,hp.2.sub hy⟩
  have h3:∀y∈A2 (A0 x 3),a2d y∧Bd y:=fun y hy=>⟨hp.1.n y hy,hp.2.sub hy⟩
  (repeat' (first|with_reducible rfl | (refine A4 (fun hcw=>?_) (fun hcw=>?_)<;>simp only[hcw,cond_true,cond_false])|refine S4 ?_ ?_))
  all_goals first|trivial|assumption
 ·cases hr
theorem h8f:OkS (Cn T59) 0 (.loop l26) S26:=by
 refine D2 fun N vals bs K h=>?_
 simp only[S26] at h
 split at h
 case h_2=>exact h.elim
 rename_i b xs i
 obtain ⟨⟨rfl,rfl,h16,hall⟩,h⟩:=h
 refine F5 (D1 C4 k59 B9) C1 A8 (hn:=B1) (adsI:=[]) (nsI:=[]) (nsX:=[]) rfl rfl xs.length
  (fun i=>[.d (.slice b 4 xs),A3 i]) (fun _=>[]) (C7 S8 xs) (fun e=>(.ret, [A3 e], [])) (by simp) (.exit 0) [.any] [] (by simp) ?_ ?_ h
 ·intro i R hi hR
  refine keep (b26 xs i b R) ?_
  have e1:decide ((i:Int)<xs.length)=true:=by simp;omega
  have e2:IntKind.i64.wrap ((i:Int)+1)=((i+1:Nat):Int):=by rw[Go.IntWalk.i64_in _ (by omega)];omega
  have hv:=hall _ (E1 hi)
  rw[e1]
  simp only[Int.toNat_natCast,e2,cond_true,hv.1.v]
  refine ⟨⟨by omega,hi,(by trivial)⟩,hv,A4 (fun h1=>⟨(by trivial), ?_⟩) (fun h1=>⟨(by trivial), ?_⟩)⟩<;>(simp only[C7,h1,cond_true,cond_false,P7] at hR;exact hR)
 ·intro R hR
  refine keep (b26 xs xs.length b R) ?_
  have e1:decide ((xs.length:Int)<xs.length)=false:=by simp
  rw[e1]
  exact ⟨(by trivial),hR⟩
theorem k26:C2 B T26:=by
 refine C3 C4 k59 (fn:=Tryz.f26) (cd:=A7 Tryz.f26) (sp:=spL [(8,S26)]) (hn:=B1) Tryz.func26 (by kernel_rfl) (by kernel_rfl) (B8 (c:=.loop l26) (by kernel_rfl) h8f C8) fun ds r hp hr=>?_
 unfold c26 at hp hr
 simp only[] at hr hp
 split at hr
 ·rename_i b z xs
  cases hr
  obtain ⟨rfl,hall⟩:=hp
  refine keep (w26 xs b fun v=>v=_) ?_
  unfold S0
  refine A4 (fun h1=>?_) (fun h1=>?_)<;>simp only[h1,cond_true,cond_false]
  have h1':¬(xs.length:Int)>100:=by simpa using h1
  refine ⟨⟨(by trivial),(by trivial),by omega,hall⟩, ?_⟩
  cases C0 (C7 S8 xs) xs.length<;>rfl
 ·cases hr
theorem h9i:C2 B f6q:=by
 refine C3 C4 k26 (fn:=Tryz.f146) (cd:=A7 Tryz.f146) (sp:=C5) (hn:=B1) Tryz.func146 (by kernel_rfl) (by kernel_rfl) A8 fun ds r hp hr=>?_
 unfold c143 at hr
 simp only[] at hr
 split at hr
 ·rename_i s
  cases hr
  refine keep (h6g s fun v=>v=_) ?_
  unfold L7
  first|rfl|rw[a4x]
 ·cases hr
theorem h9j:C2 B f6r:=by
 refine C3 C4 h9i (fn:=Tryz.f145) (cd:=A7 Tryz.f145) (sp:=C5) (hn:=B1) Tryz.func145 (by kernel_rfl) (by kernel_rfl) A8 fun ds r hp hr=>?_
 unfold c145 at hp hr
 simp only[] at hr hp
 split at hr
 ·rename_i s
  cases hr
  refine keep (h6h s fun v=>v=_) ?_
  unfold c5s e9a
  refine ⟨fun g=>?_,A4 (fun hc=>?_) (fun hc=>?_)⟩
  ·simp only[Bool.and_true,Bool.not_eq_true',decide_eq_false_iff_not] at g
   omega
  ·have hc':(bif decide ((s.size:Int)<6) then true else !((s.extract 0 5).toList==(ByteArray.mk #[97,116,116,114,46]).toList))=true:=hc
   rw[hc'];rfl
  ·have hc':(bif decide ((s.size:Int)<6) then true else !((s.extract 0 5).toList==(ByteArray.mk #[97,116,116,114,46]).toList))=false:=hc
   have:=(a2x hc').1
   simp only[decide_eq_false_iff_not] at this
   have hs:(s.extract 5 s.size).size≤1152921504606846976:=by
    have hp:s.size≤1152921504606846976:=hp
    rw[ByteArray.size_extract];omega
   rw[hc']
   exact ⟨⟨by omega,by omega⟩,⟨by omega,by omega⟩,d2g hs,(by trivial)⟩
 ·cases hr
theorem c7a {s:ByteArray} (h:s.size=0):G4 s=false:=by unfold G4;simp[h]
theorem f5i (s:ByteArray):c5s s=(bif M8 s (ByteArray.mk (Array.mk [97,116,116,114,46])) then G4 (bif M8 s (ByteArray.mk (Array.mk [97,116,116,114,46])) then s.extract 5 s.size else s) else false):=by
 unfold c5s M8
 have e0:(ByteArray.mk (Array.mk [97,116,116,114,46])).size=5:=rfl
 rw[e0]
 show (bif (bif decide ((s.size:Int)<6) then true else !(eqS (s.extract 0 5) (ByteArray.mk (Array.mk [97,116,116,114,46])))) then false else G4 (s.extract 5 s.size))=_
 generalize eqS (s.extract 0 5) (ByteArray.mk (Array.mk [97,116,116,114,46]))=q
 by_cases h:s.size<6
 ·have d1:decide ((s.size:Int)<6)=true:=by simp;omega
  rw[d1]
  by_cases h5:s.size=5
  ·have hn:G4 (s.extract 5 s.size)=false:=c7a (by rw[ByteArray.size_extract];omega)
   have d2:decide (5≤s.size)=true:=by simp;omega
   rw[d2]
   cases q with
   | false=>rfl
   | true=>exact hn.symm
  ·have d2:decide (5≤s.size)=false:=by simp;omega
   rw[d2];rfl
 ·have d1:decide ((s.size:Int)<6)=false:=by simp;omega
  have d2:decide (5≤s.size)=true:=by simp;omega
  rw[d1,d2]
  cases q<;>rfl
theorem f4z (y:D):e8k y=M3 y:=by
 unfold e8k M3
 rw[f5i,e5z]
 generalize (bif M8 (A5 (A0 y 0)) (ByteArray.mk (Array.mk [97,116,116,114,46])) then G4 (bif M8 (A5 (A0 y 0)) (ByteArray.mk (Array.mk [97,116,116,114,46])) then (A5 (A0 y 0)).extract 5 (A5 (A0 y 0)).size else A5 (A0 y 0)) else false)=c
 generalize L7 (A5 (A0 y 0))=n
 generalize ((A5 (A0 y 0)).toList==(ByteArray.mk #[115,101,114,118,105,99,101]).toList)=a
 generalize ((A5 (A0 y 0)).toList==(ByteArray.mk #[110,97,109,101]).toList)=b
 generalize ((A5 (A0 y 2)).toList==(ByteArray.mk #[]).toList)=t
 generalize decide ((↑(A5 (A0 y 2)).size:Int)>200)=g
 generalize a5f (A5 (A0 y 2))=r
 generalize A1 (A0 y 1)=k
 generalize A1 (A0 y 3)=m
 cases n with
 | true=>cases a<;>cases b<;>cases c<;>rfl
 | false =>
  have key:∀(z:Int),(bif (bif decide (k<1) then true else decide (k>4)) then 8 else (bif m !=0 then 1 else (bif (bif decide (k≤2) then g else false) then 4 else (bif decide (k≤2) then 0 else r))))=(bif (bif decide (k<1) then true else decide (k>4)) then 8 else (bif m !=0 then 1 else (bif decide (k≥3) then r else (bif g then 4 else 0)))):=fun _=>by
   by_cases h:k≤2
   ·have h':¬k≥3:=by omega
    simp[h,h']
   ·have h':k≥3:=by omega
    simp[h,h']
  cases a<;>cases b<;>cases c<;>first|rfl|exact key 0
theorem k76:C2 B T76:=by
 refine C3 C4 h9j (fn:=Tryz.f76) (cd:=A7 Tryz.f76) (sp:=C5) (hn:=B1) Tryz.func76 (by kernel_rfl) (by kernel_rfl) A8 fun ds r hp hr=>?_
 unfold c76 at hp hr
 simp only[] at hr hp
 split at hr
 ·rename_i x
  cases hr
  rw[W1 (show cV x=x from hp.1), ←f4z]
  refine keep (w76 x fun v=>v=_) ?_
  unfold e8k
  have hb:=hp.2.str 0
  (repeat' (first|with_reducible rfl | (refine A4 (fun hcw=>?_) (fun hcw=>?_)<;>simp only[hcw,cond_true,cond_false])|refine S4 ?_ ?_))
  all_goals first|trivial|exact d2g hb
 ·cases hr
noncomputable def U56 (κ:Nat):Tab:=T76.add 56 (c54.below μ1 κ)
noncomputable def T56:Tab:=T76.add 56 c54
noncomputable def l56:Code:=D6 (C6 (A7 Tryz.f56) 6)
theorem b56 (κ:Nat) (q:Int) (cs:List D) (xs:List D) (b1:Bool) (b2:Bool) (i:Int) (m:Int) (R:X→List V→List Box→Prop):(D7 (Cn (U56 κ)) (U56 κ) D4 0 C5 B1 l56 22 [1,3,4] [[5000]] [] [([5000], [5000])] [3] []
 [V.ptr [5000] 0,A3 m,A3 i] [r5 q b1 cs b2 xs] R) =
 (bif decide (i<(↑xs.length:Int)) then
 ((((0:Int)≤i)∧(i.toNat<xs.length∧pV (xs.getD i.toNat D.any)=xs.getD i.toNat D.any))∧
 (((G7 (pV (xs.getD i.toNat D.any))∧M4 (pV (xs.getD i.toNat D.any))≤100)∧μ1 [pV (xs.getD i.toNat D.any)]<κ)∧
 (22=22∧
 R X.normal
 [V.ptr [5000] 0,
 A3 (bif true then
 if (↑(V9 (pV (xs.getD i.toNat D.any))):Int)>m then (↑(V9 (pV (xs.getD i.toNat D.any))):Int) else m
 else
 if (↑(V9 (pV (xs.getD i.toNat D.any))):Int)<m then (↑(V9 (pV (xs.getD i.toNat D.any))):Int)
 else m),
 A3 (IntKind.i64.wrap (i+1))]
 [Box.cells 30 [A3 q,V.d (D.slice b1 4 cs),V.d (D.slice b2 3 xs)]]))) else
 (22=22∧
 R (X.exit 0) [A3 m] [])):=by kernel_rfl
noncomputable def S56 (κ:Nat):Ev.Spec:={L:=[1,3,4],ns:=[([5000],[3])],L':=[3],nm':=[],G:=fun N vals bs k=>match vals,bs with
 | [.ptr [5000] 0, .d (.lit (.int .i64 m)), .d (.lit (.int .i64 i))], [.cells 30 [.d (.lit (.int .i64 q)), .d (.slice b1 4 cs), .d (.slice b2 3 xs)]]=>(N=22∧i=0∧m=0∧xs.length≤100∧∀y∈xs,(G7 y∧M4 y≤100)∧dsz y<κ)∧k (.exit 0) [A3 (Q2 (xs.map V9):Nat)] []
 | _,_=>False }
theorem w56 (κ:Nat) (y:D) (p:V→Prop):(B7 (Cn (U56 κ)) (U56 κ) D4 0 (spL [(6,S56 κ)]) B1 56 [V.d (pV y)] B4.empty fun v H=>p (B5 H v)) =
 ((22=22∧(((0:Int)=0)∧(((0:Int)=0)∧((A2 (A0 y 2)).length≤100∧∀(y_1:D),y_1∈A2 (A0 y 2)→(G7 y_1∧M4 y_1≤100)∧dsz y_1<κ))))∧
 p (A3 (IntKind.i64.wrap ((↑(Q2 (List.map V9 (A2 (A0 y 2)))):Int)+1)))):=by kernel_rfl
noncomputable def c57:Ct:=⟨fun | [x]=>G7 x∧Bd x|_=>False,fun | [x]=>some (.lit (.int .i64 (X9 x)))|_=>none⟩
noncomputable def U57 (κ:Nat):Tab:=T56.add 57 (c57.below μ1 κ)
noncomputable def T57:Tab:=T56.add 57 c57
noncomputable def g2r:Code:=D6 (C6 (A7 Tryz.f57) 26)
noncomputable def g2q:Code:=D6 (C6 (A7 Tryz.f57) 38)
theorem h2r (κ:Nat) (q:Int) (cs:List D) (xs:List D) (b1:Bool) (b2:Bool) (i:Int) (R:X→List V→List Box→Prop):(D7 (Cn (U57 κ)) (U57 κ) D4 0 C5 B1 g2r 74 [1,4] [[5000]] [] [([5000], [5000])] [1,2] [([5000], [5000])]
 [V.ptr [5000] 0,A3 i] [r5 q b1 cs b2 xs] R) =
 (bif decide (i<(↑cs.length:Int)) then
 ((((0:Int)≤i)∧(i.toNat<cs.length∧cV (cs.getD i.toNat D.any)=cs.getD i.toNat D.any))∧
 ((a4z (cV (cs.getD i.toNat D.any))∧Bd (cV (cs.getD i.toNat D.any)))∧
 (bif M3 (cV (cs.getD i.toNat D.any)) !=0 then
 (74=74∧
 R X.ret [V.ptr [5000] 0,A3 (M3 (cV (cs.getD i.toNat D.any)))]
 [Box.cells 30 [A3 q,V.d (D.slice b1 4 cs),V.d (D.slice b2 3 xs)]]) else
 (74=74∧
 R X.normal [V.ptr [5000] 0,A3 (IntKind.i64.wrap (i+1))]
 [Box.cells 30 [A3 q,V.d (D.slice b1 4 cs),V.d (D.slice b2 3 xs)]])))) else
 (74=74∧
 R (X.exit 0) [V.ptr [5000] 0,V.any]
 [Box.cells 30 [A3 q,V.d (D.slice b1 4 cs),V.d (D.slice b2 3 xs)]])):=by kernel_rfl
theorem h2q (κ:Nat) (q:Int) (cs:List D) (xs:List D) (b1:Bool) (b2:Bool) (i:Int) (R:X→List V→List Box→Prop):(D7 (Cn (U57 κ)) (U57 κ) D4 0 C5 B1 g2q 74 [1,6] [[5000]] [] [([5000], [5000])] [2] []
 [V.ptr [5000] 0,A3 i] [r5 q b1 cs b2 xs] R) =
 (bif decide (i<(↑xs.length:Int)) then
 ((((0:Int)≤i)∧(i.toNat<xs.length∧pV (xs.getD i.toNat D.any)=xs.getD i.toNat D.any))∧
 (((G7 (pV (xs.getD i.toNat D.any))∧Bd (pV (xs.getD i.toNat D.any)))∧μ1 [pV (xs.getD i.toNat D.any)]<κ)∧
 (bif X9 (pV (xs.getD i.toNat D.any)) !=0 then
 (74=74∧
 R X.ret [A3 (X9 (pV (xs.getD i.toNat D.any)))] []) else
 (74=74∧
 R X.normal [V.ptr [5000] 0,A3 (IntKind.i64.wrap (i+1))]
 [Box.cells 30 [A3 q,V.d (D.slice b1 4 cs),V.d (D.slice b2 3 xs)]])))) else
 (74=74∧
 R (X.exit 2) [V.any] [])):=by kernel_rfl
noncomputable def f7i:Ev.Spec:={L:=[1,4],ns:=[([5000],[3])],L':=[1,2],nm':=[[5000]],G:=fun N vals bs k=>match vals,bs with
 | [.ptr [5000] 0, .d (.lit (.int .i64 i))], [.cells 30 [.d (.lit (.int .i64 q)), .d (.slice b1 4 cs), .d (.slice b2 3 xs)]]=>(N=74∧i=0∧cs.length≤16∧∀y∈cs,a4z y∧Bd y)∧P7 (C0 (C7 M3 cs) cs.length) (k (.exit 0) [.ptr [5000] 0, .any] [r5 q b1 cs b2 xs]) (fun e=>k .ret [.ptr [5000] 0,A3 e] [r5 q b1 cs b2 xs])
 | _,_=>False }
noncomputable def f7h (rec:D→Int) (κ:Nat):Ev.Spec:={L:=[1,6],ns:=[([5000],[5000])],L':=[2],nm':=[],G:=fun N vals bs k=>match vals,bs with
 | [.ptr [5000] 0, .d (.lit (.int .i64 i))], [.cells 30 [.d (.lit (.int .i64 q)), .d (.slice b1 4 cs), .d (.slice b2 3 xs)]]=>(N=74∧rec=X9∧i=0∧xs.length≤2∧∀y∈xs,(G7 y∧Bd y)∧dsz y<κ)∧P7 (C0 (C7 rec xs) xs.length) (k (.exit 2) [.any] []) (fun e=>k .ret [A3 e] [])
 | _,_=>False }
theorem w57 (rec:D→Int) (κ:Nat) (y:D) (p:V→Prop):(B7 (Cn (U57 κ)) (U57 κ) D4 0 (spL [(26,f7i),(38,f7h rec κ)]) B1 57 [V.d (pV y)] B4.empty fun v H =>
 p (B5 H v)) =
 (bif bif decide (A1 (A0 y 0)<1) then true else decide (A1 (A0 y 0)>9) then
 p (A3 8) else
 (bif A1 (A0 y 0)==1 then
 (bif A1 (A0 y 0)==9 then
 (bif bif (↑(A2 (A0 y 2)).length:Int) !=1 then true
 else bif A1 (A0 y 0) !=1 then decide ((↑(A2 (A0 y 1)).length:Int)>0) else false then
 p (A3 1) else
 (bif decide ((↑(A2 (A0 y 1)).length:Int)>16) then
 p (A3 4) else
 ((74=74∧(((0:Int)=0)∧((A2 (A0 y 1)).length≤16∧∀(y_1:D),y_1∈A2 (A0 y 1)→a4z y_1∧Bd y_1)))∧
 (match C0 (C7 M3 (A2 (A0 y 1))) (A2 (A0 y 1)).length with
 | some y1 =>
 p (A3 y1)
 | none=>((74=74∧(rec=X9∧(((0:Int)=0)∧((A2 (A0 y 2)).length≤2∧∀(y_1:D),y_1∈A2 (A0 y 2)→(G7 y_1∧Bd y_1)∧dsz y_1<κ))))∧
 (match C0 (C7 rec (A2 (A0 y 2))) (A2 (A0 y 2)).length with
 | some y0 =>
 p (A3 y0)
 | none=>p (A3 0))))))) else
 (bif bif (↑(A2 (A0 y 2)).length:Int) !=0 then true
 else bif A1 (A0 y 0) !=1 then decide ((↑(A2 (A0 y 1)).length:Int)>0) else false then
 p (A3 1) else
 (bif decide ((↑(A2 (A0 y 1)).length:Int)>16) then
 p (A3 4) else
 ((74=74∧(((0:Int)=0)∧((A2 (A0 y 1)).length≤16∧∀(y_1:D),y_1∈A2 (A0 y 1)→a4z y_1∧Bd y_1)))∧
 (match C0 (C7 M3 (A2 (A0 y 1))) (A2 (A0 y 1)).length with
 | some y3 =>
 p (A3 y3)
 | none=>((74=74∧(rec=X9∧(((0:Int)=0)∧((A2 (A0 y 2)).length≤2∧∀(y_1:D),y_1∈A2 (A0 y 2)→(G7 y_1∧Bd y_1)∧dsz y_1<κ))))∧
 (match C0 (C7 rec (A2 (A0 y 2))) (A2 (A0 y 2)).length with
 | some y2 =>
 p (A3 y2)
 | none=>p (A3 0)))))))) else
 (bif A1 (A0 y 0)==9 then
 (bif bif (↑(A2 (A0 y 2)).length:Int) !=1 then true
 else bif A1 (A0 y 0) !=1 then decide ((↑(A2 (A0 y 1)).length:Int)>0) else false then
 p (A3 1) else
 (bif decide ((↑(A2 (A0 y 1)).length:Int)>16) then
 p (A3 4) else
 ((74=74∧(((0:Int)=0)∧((A2 (A0 y 1)).length≤16∧∀(y_1:D),y_1∈A2 (A0 y 1)→a4z y_1∧Bd y_1)))∧
 (match C0 (C7 M3 (A2 (A0 y 1))) (A2 (A0 y 1)).length with
 | some y5 =>
 p (A3 y5)
 | none=>((74=74∧(rec=X9∧(((0:Int)=0)∧((A2 (A0 y 2)).length≤2∧∀(y_1:D),y_1∈A2 (A0 y 2)→(G7 y_1∧Bd y_1)∧dsz y_1<κ))))∧
 (match C0 (C7 rec (A2 (A0 y 2))) (A2 (A0 y 2)).length with
 | some y4 =>
 p (A3 y4)
 | none=>p (A3 0))))))) else
 (bif bif (↑(A2 (A0 y 2)).length:Int) !=2 then true
 else bif A1 (A0 y 0) !=1 then decide ((↑(A2 (A0 y 1)).length:Int)>0) else false then
 p (A3 1) else
 (bif decide ((↑(A2 (A0 y 1)).length:Int)>16) then
 p (A3 4) else
 ((74=74∧(((0:Int)=0)∧((A2 (A0 y 1)).length≤16∧∀(y_1:D),y_1∈A2 (A0 y 1)→a4z y_1∧Bd y_1)))∧
 (match C0 (C7 M3 (A2 (A0 y 1))) (A2 (A0 y 1)).length with
 | some y7 =>
 p (A3 y7)
 | none=>((74=74∧(rec=X9∧(((0:Int)=0)∧((A2 (A0 y 2)).length≤2∧∀(y_1:D),y_1∈A2 (A0 y 2)→(G7 y_1∧Bd y_1)∧dsz y_1<κ))))∧
 (match C0 (C7 rec (A2 (A0 y 2))) (A2 (A0 y 2)).length with
 | some y6 =>
 p (A3 y6)
 | none=>p (A3 0)))))))))):=by kernel_rfl
noncomputable def e6n (rec:D→Int) (y:D):Int :=
 (bif bif decide (A1 (A0 y 0)<1) then true else decide (A1 (A0 y 0)>9) then
 8 else
 (bif A1 (A0 y 0)==1 then
 (bif A1 (A0 y 0)==9 then
 (bif bif (↑(A2 (A0 y 2)).length:Int) !=1 then true
 else bif A1 (A0 y 0) !=1 then decide ((↑(A2 (A0 y 1)).length:Int)>0) else false then
 1 else
 (bif decide ((↑(A2 (A0 y 1)).length:Int)>16) then
 4 else
 (match C0 (C7 M3 (A2 (A0 y 1))) (A2 (A0 y 1)).length with
 | some y1=>y1
 | none=>(match C0 (C7 rec (A2 (A0 y 2))) (A2 (A0 y 2)).length with
 | some y0=>y0
 | none=>0)))) else
 (bif bif (↑(A2 (A0 y 2)).length:Int) !=0 then true
 else bif A1 (A0 y 0) !=1 then decide ((↑(A2 (A0 y 1)).length:Int)>0) else false then
 1 else
 (bif decide ((↑(A2 (A0 y 1)).length:Int)>16) then
 4 else
 (match C0 (C7 M3 (A2 (A0 y 1))) (A2 (A0 y 1)).length with
 | some y3=>y3
 | none=>(match C0 (C7 rec (A2 (A0 y 2))) (A2 (A0 y 2)).length with
 | some y2=>y2
 | none=>0))))) else
 (bif A1 (A0 y 0)==9 then
 (bif bif (↑(A2 (A0 y 2)).length:Int) !=1 then true
 else bif A1 (A0 y 0) !=1 then decide ((↑(A2 (A0 y 1)).length:Int)>0) else false then
 1 else
 (bif decide ((↑(A2 (A0 y 1)).length:Int)>16) then
 4 else
 (match C0 (C7 M3 (A2 (A0 y 1))) (A2 (A0 y 1)).length with
 | some y5=>y5
 | none=>(match C0 (C7 rec (A2 (A0 y 2))) (A2 (A0 y 2)).length with
 | some y4=>y4
 | none=>0)))) else
 (bif bif (↑(A2 (A0 y 2)).length:Int) !=2 then true
 else bif A1 (A0 y 0) !=1 then decide ((↑(A2 (A0 y 1)).length:Int)>0) else false then
 1 else
 (bif decide ((↑(A2 (A0 y 1)).length:Int)>16) then
 4 else
 (match C0 (C7 M3 (A2 (A0 y 1))) (A2 (A0 y 1)).length with
 | some y7=>y7
 | none=>(match C0 (C7 rec (A2 (A0 y 2))) (A2 (A0 y 2)).length with
 | some y6=>y6
 | none=>0)))))))
theorem w24 (y:D) (p:V→Prop):(B7 (Cn T57) T57 D4 0 C5 B1 24 [V.d (pV y)] B4.empty fun v H=>p (B5 H v)) =
 (G7 (pV y)∧
 (bif decide (a3x (pV y) 0>100) then
 p (A3 4) else
 ((G7 (pV y)∧M4 (pV y)≤100)∧
 (bif decide ((↑(V9 (pV y)):Int)>12) then
 p (A3 30) else
 ((G7 (pV y)∧Bd (pV y))∧
 p (A3 (X9 (pV y)))))))):=by kernel_rfl
noncomputable def c24:Ct:=⟨fun | [x]=>G7 x∧Bd x|_=>False,fun | [x]=>some (.lit (.int .i64 (M5 x)))|_=>none⟩
noncomputable def T24:Tab:=T57.add 24 c24
theorem w21 (y:D) (p:V→Prop):(B7 (Cn T24) T24 D4 0 C5 B1 21 [V.d (pV y)] B4.empty fun v H=>p (B5 H v)) =
 (G7 (pV y)∧
 (((!decide (a3x (pV y) 0>16)&&(decide (a3x (pV y) 0≤100)&&true))=true→G7 (pV y))∧
 p
 (A9 (bif decide (a3x (pV y) 0≤100) then bif decide (a3x (pV y) 0>16) then true else gpE (pV y) else false)))):=by kernel_rfl
noncomputable def e7p (y:D):Bool :=
 (bif decide (a3x (pV y) 0≤100) then bif decide (a3x (pV y) 0>16) then true else gpE (pV y) else false)
noncomputable def c21:Ct:=⟨fun | [x]=>G7 x|_=>False,fun | [x]=>some (.lit (.bool (e7p x)))|_=>none⟩
noncomputable def T21:Tab:=T24.add 21 c21
theorem h7q {κ:Nat} (hk:C2 B (U56 κ)):OkS (Cn (U56 κ)) 0 (.loop l56) (S56 κ):=by
 refine D2 fun N vals bs K h=>?_
 simp only[S56] at h
 split at h
 case h_2=>exact h.elim
 rename_i m i q b1 cs b2 xs
 obtain ⟨⟨rfl,rfl,rfl,hl,hx⟩,h⟩:=h
 have main:∀k i,i+k=xs.length→J5 (Cn (U56 κ)) 0 l56 22 [1,3,4] [[5000]] [3] [] [.ptr [5000] 0,A3 (Q2 ((xs.take i).map V9):Nat),A3 i] [r5 q b1 cs b2 xs] K:=by
  intro k
  induction k with
  | zero =>
   intro i hi
   have:i=xs.length:=by omega
   subst this
   refine B6 (D1 C4 hk B9) C1 A8 (hn:=B1) (adsI:=[]) (nsI:=[([5000],[5000])]) (nsX:=[]) rfl rfl (keep (b56 κ q cs xs b1 b2 xs.length _ _) ?_)
   have e1:decide ((xs.length:Int)<xs.length)=false:=by simp
   rw[e1,List.take_length]
   exact ⟨(by trivial),h⟩
  | succ k ih =>
   intro i hi
   refine B6 (D1 C4 hk B9) C1 A8 (hn:=B1) (adsI:=[]) (nsI:=[([5000],[5000])]) (nsX:=[]) rfl rfl (keep (b56 κ q cs xs b1 b2 i _ _) ?_)
   have e1:decide ((i:Int)<xs.length)=true:=by simp;omega
   obtain ⟨hf,hlt⟩:=hx _ (E1 (xs:=xs) (i:=i) (by omega))
   have hv:=hf.1.v
   rw[e1]
   simp only[Int.toNat_natCast,cond_true,hv]
   refine ⟨⟨by omega,by omega,(by trivial)⟩,⟨hf,hlt⟩,(by trivial), ?_⟩
   have:=ih (i+1) (by omega)
   rw[Go.IntWalk.i64_in _ (by omega)]
   rw[t8 (by omega)] at this
   rw[show (if (V9 (xs.getD i .any):Int)>(Q2 ((xs.take i).map V9):Nat) then (V9 (xs.getD i .any):Int) else (Q2 ((xs.take i).map V9):Nat))=(max (Q2 ((xs.take i).map V9)) (V9 (xs.getD i .any)):Nat) by split<;>omega]
   exact this
 exact main xs.length 0 (by omega)
theorem k56:C2 B T56:=by
 refine P9 C4 k76 μ1 (fn:=Tryz.f56) (cd:=A7 Tryz.f56) (sp:=fun n=>spL [(6,S56 n)]) (hn:=B1) Tryz.func56 (by kernel_rfl) (by kernel_rfl) (fun n hk=>B8 (c:=.loop l56) (by kernel_rfl) (h7q hk) C8) fun κ ds r hp hm hr=>?_
 unfold c54 at hp hr
 simp only[] at hr hp
 split at hr
 ·rename_i x
  cases hr
  obtain ⟨hf,h1⟩:=hp
  rw[W1 hf.v]
  refine keep (w56 κ x fun v=>v=_) ?_
  have e1:=a3u x
  have e2:=c6i x
  have e3:=d8p _ x (Nat.le_refl _)
  have e4:=b9r (xs:=E3 x 2)
  refine ⟨⟨(by trivial),(by trivial),(by trivial),by unfold E3 at *;omega,fun y hy=>⟨⟨hf.a y hy, ?_⟩, ?_⟩⟩, ?_⟩
  ·have:=a2j (f:=M4) (xs:=E3 x 2) hy;omega
  ·rw[←hm];exact G3 hy
  ·unfold E3 at *
   rw[Go.IntWalk.i64_in _ (by omega),show ((Q2 (List.map V9 (A2 (A0 x 2))):Nat):Int)+1=(V9 x:Nat) by omega]
 ·cases hr
theorem g6i {κ:Nat} (hk:C2 B (U57 κ)):OkS (Cn (U57 κ)) 0 (.loop g2r) f7i:=by
 refine D2 fun N vals bs K h=>?_
 simp only[f7i] at h
 split at h
 case h_2=>exact h.elim
 rename_i i q b1 cs b2 xs
 obtain ⟨⟨rfl,rfl,hsh,hall⟩,h⟩:=h
 refine F5 (D1 C4 hk B9) C1 A8 (hn:=B1) (adsI:=[]) (nsI:=[([5000],[5000])]) (nsX:=[([5000],[5000])]) rfl rfl cs.length
  (fun i=>[.ptr [5000] 0,A3 i]) (fun _=>[r5 q b1 cs b2 xs]) (C7 M3 cs) (fun e=>(.ret, [.ptr [5000] 0,A3 e], [r5 q b1 cs b2 xs])) (by simp) (.exit 0) [.ptr [5000] 0, .any] [r5 q b1 cs b2 xs] (by simp) ?_ ?_ h
 ·intro i R hi hR
  refine keep (h2r κ q cs xs b1 b2 i R) ?_
  have e1:decide ((i:Int)<cs.length)=true:=by simp;omega
  have e2:IntKind.i64.wrap ((i:Int)+1)=((i+1:Nat):Int):=by rw[Go.IntWalk.i64_in _ (by omega)];omega
  have hv:=hall _ (E1 hi)
  rw[e1]
  simp only[Int.toNat_natCast,e2,cond_true,show cV _=_ from hv.1]
  refine ⟨⟨by omega,hi,(by trivial)⟩,hv,A4 (fun h1=>⟨(by trivial), ?_⟩) (fun h1=>⟨(by trivial), ?_⟩)⟩<;>(simp only[C7,h1,cond_true,cond_false,P7] at hR;exact hR)
 ·intro R hR
  refine keep (h2r κ q cs xs b1 b2 cs.length R) ?_
  have e1:decide ((cs.length:Int)<cs.length)=false:=by simp
  rw[e1]
  exact ⟨(by trivial),hR⟩
theorem g6h {κ:Nat} (hk:C2 B (U57 κ)):OkS (Cn (U57 κ)) 0 (.loop g2q) (f7h X9 κ):=by
 refine D2 fun N vals bs K h=>?_
 simp only[f7h] at h
 split at h
 case h_2=>exact h.elim
 rename_i i q b1 cs b2 xs
 obtain ⟨⟨rfl,_,rfl,hsh,hall⟩,h⟩:=h
 refine F5 (D1 C4 hk B9) C1 A8 (hn:=B1) (adsI:=[]) (nsI:=[([5000],[5000])]) (nsX:=[]) rfl rfl xs.length
  (fun i=>[.ptr [5000] 0,A3 i]) (fun _=>[r5 q b1 cs b2 xs]) (C7 X9 xs) (fun e=>(.ret, [A3 e], [])) (by simp) (.exit 2) [.any] [] (by simp) ?_ ?_ h
 ·intro i R hi hR
  refine keep (h2q κ q cs xs b1 b2 i R) ?_
  have e1:decide ((i:Int)<xs.length)=true:=by simp;omega
  have e2:IntKind.i64.wrap ((i:Int)+1)=((i+1:Nat):Int):=by rw[Go.IntWalk.i64_in _ (by omega)];omega
  obtain ⟨hv,hlt⟩:=hall _ (E1 hi)
  rw[e1]
  simp only[Int.toNat_natCast,e2,cond_true,hv.1.v]
  refine ⟨⟨by omega,hi,(by trivial)⟩,⟨hv,hlt⟩,A4 (fun h1=>⟨(by trivial), ?_⟩) (fun h1=>⟨(by trivial), ?_⟩)⟩<;>(simp only[C7,h1,cond_true,cond_false,P7] at hR;exact hR)
 ·intro R hR
  refine keep (h2q κ q cs xs b1 b2 xs.length R) ?_
  have e1:decide ((xs.length:Int)<xs.length)=false:=by simp
  rw[e1]
  exact ⟨(by trivial),hR⟩
theorem f2m (rec:D→Int) (y:D):e6n rec y=c6j rec y:=by
 unfold e6n c6j
 generalize C0 (C7 M3 (A2 (A0 y 1))) (A2 (A0 y 1)).length=o1
 generalize C0 (C7 rec (A2 (A0 y 2))) (A2 (A0 y 2)).length=o2
 generalize ((↑(A2 (A0 y 2)).length:Int) !=0)=a0
 generalize ((↑(A2 (A0 y 2)).length:Int) !=1)=a1
 generalize ((↑(A2 (A0 y 2)).length:Int) !=2)=a2
 generalize decide ((↑(A2 (A0 y 1)).length:Int)>0)=c
 generalize decide ((↑(A2 (A0 y 1)).length:Int)>16)=g
 generalize A1 (A0 y 0)=k
 by_cases h1:k<1
 ·simp[h1]
 ·by_cases h2:k>9
  ·simp[h1,h2]
  ·by_cases h3:k=1
   ·subst h3;cases a0<;>cases c<;>cases g<;>rfl
   ·by_cases h4:k=9
    ·subst h4;cases a1<;>cases c<;>cases g<;>rfl
    ·have e1:(k==1)=false:=by simpa using h3
     have e2:(k==9)=false:=by simpa using h4
     have e3:(k !=1)=true:=by simpa using h3
     simp only[e1,e2,e3,cond_true,cond_false]
     cases a2<;>cases c<;>cases g<;>rfl
theorem k57:C2 B T57:=by
 refine P9 C4 k56 μ1 (fn:=Tryz.f57) (cd:=A7 Tryz.f57) (sp:=fun n=>spL [(26,f7i),(38,f7h X9 n)]) (hn:=B1) Tryz.func57 (by kernel_rfl) (by kernel_rfl) (fun n hk=>B8 (c:=.loop g2r) (by kernel_rfl) (g6i hk) (B8 (c:=.loop g2q) (by kernel_rfl) (g6h hk) C8)) fun κ ds r hp hm hr=>?_
 unfold c57 at hp hr
 simp only[] at hr hp
 split at hr
 ·rename_i x
  cases hr
  rw[W1 hp.1.v,c6k, ←f2m]
  refine keep (w57 X9 κ x fun v=>v=_) ?_
  unfold e6n
  have hc:∀y∈A2 (A0 x 1),a4z y∧Bd y:=fun y hy=>⟨hp.1.c y hy,hp.2.sub hy⟩
  have ha:∀y∈A2 (A0 x 2),(G7 y∧Bd y)∧dsz y<κ:=fun y hy=>⟨⟨hp.1.a y hy,hp.2.sub hy⟩,hm▸G3 hy⟩
  by_cases hl:(A2 (A0 x 2)).length≤2
  ·by_cases hl1:(A2 (A0 x 1)).length≤16
   ·generalize C0 (C7 M3 (A2 (A0 x 1))) (A2 (A0 x 1)).length=o1
    generalize C0 (C7 X9 (A2 (A0 x 2))) (A2 (A0 x 2)).length=o2
    cases o1<;>cases o2<;>(repeat' (first|with_reducible rfl | (refine A4 (fun hcw=>?_) (fun hcw=>?_)<;>simp only[hcw,cond_true,cond_false])|refine S4 ?_ ?_))
    all_goals first|trivial|assumption
   ·have e:decide ((↑(A2 (A0 x 1)).length:Int)>16)=true:=by simp;omega
    simp only[e,cond_true]
    (repeat' (first|with_reducible rfl | (refine A4 (fun hcw=>?_) (fun hcw=>?_)<;>simp only[hcw,cond_true,cond_false])|refine S4 ?_ ?_))
  ·have e0:((↑(A2 (A0 x 2)).length:Int) !=0)=true:=bne_iff_ne.2 (by omega)
   have e1:((↑(A2 (A0 x 2)).length:Int) !=1)=true:=bne_iff_ne.2 (by omega)
   have e2:((↑(A2 (A0 x 2)).length:Int) !=2)=true:=bne_iff_ne.2 (by omega)
   simp only[e0,e1,e2,cond_true]
   (repeat' (first|with_reducible rfl | (refine A4 (fun hcw=>?_) (fun hcw=>?_)<;>simp only[hcw,cond_true,cond_false])|refine S4 ?_ ?_))
 ·cases hr
theorem a8w {rec:D→Int→Int} {f:D→Nat}:∀{xs:List D} {m:Int},0≤m→(∀a∈xs,∀n:Int,0≤n→n≤100→n≤rec a n∧min (rec a n) 101=min (n+(f a:Nat)) 101)→
  m≤a5b rec xs m∧min (a5b rec xs m) 101=min (m+((xs.map f).sum:Nat)) 101
 | [],m,h0,h=>by unfold a5b;simp
 | a::l,m,h0,h=>by
  unfold a5b
  by_cases hm:m≤100
  ·have d:decide (m≤100)=true:=by simpa using hm
   rw[d]
   simp only[cond_true]
   obtain ⟨p1,p2⟩:=h a (by simp) m h0 hm
   obtain ⟨q1,q2⟩:=a8w (rec:=rec) (f:=f) (xs:=l) (m:=rec a m) (by omega) fun b hb=>h b (by simp[hb])
   simp only[List.map_cons,List.sum_cons]
   omega
  ·have d:decide (m≤100)=false:=by simpa using hm
   rw[d]
   simp only[cond_false,List.map_cons,List.sum_cons]
   omega
theorem c7y:∀(κ:Nat) (y:D),dsz y<κ→∀n:Int,0≤n→n≤100→n≤a3x y n∧min (a3x y n) 101=min (n+(M4 y:Nat)) 101
 | 0,_,h,_,_,_=>absurd h (Nat.not_lt_zero _)
 | κ+1,y,h,n,h0,h1=>by
  rw[d9u,a3u]
  unfold d6y
  rw[Go.IntWalk.i64_in _ (by omega)]
  obtain ⟨p1,p2⟩:=a8w (rec:=a3x) (f:=M4) (xs:=A2 (A0 y 2)) (m:=n+1) (by omega) fun a ha=>c7y κ a (by have:=G3 (y:=y) (i:=2) ha;omega)
  unfold E3
  constructor
  ·omega
  ·rw[p2];congr 1;omega
theorem k24:C2 B T24:=by
 refine C3 C4 k57 (fn:=Tryz.f24) (cd:=A7 Tryz.f24) (sp:=C5) (hn:=B1) Tryz.func24 (by kernel_rfl) (by kernel_rfl) A8 fun ds r hp hr=>?_
 unfold c24 at hp hr
 simp only[] at hr hp
 split at hr
 ·rename_i x
  cases hr
  rw[W1 hp.1.v]
  refine keep (w24 x fun v=>v=_) ?_
  unfold M5
  rw[hp.1.v]
  have hc:=(c7y _ x (Nat.lt_succ_self _) 0 (by omega) (by omega)).2
  have e:decide (a3x x 0>100)=decide ((↑(cap (0+M4 x)):Int)>100):=decide_eq_decide.2 (by unfold cap;omega)
  rw[e]
  refine ⟨hp.1,A4 (fun g=>?_) (fun g=>?_)⟩
  ·simp only[g,cond_true]
  ·simp only[g,cond_false]
   simp only[decide_eq_false_iff_not] at g
   refine ⟨⟨hp.1,by unfold cap at g;omega⟩,A4 (fun g=>?_) (fun g=>?_)⟩
   ·simp only[g,cond_true]
   ·simp only[g,cond_false];exact ⟨hp,(by trivial)⟩
 ·cases hr
theorem k21:C2 B T21:=by
 refine C3 C4 k24 (fn:=Tryz.f21) (cd:=A7 Tryz.f21) (sp:=C5) (hn:=B1) Tryz.func21 (by kernel_rfl) (by kernel_rfl) A8 fun ds r hp hr=>?_
 unfold c21 at hp hr
 simp only[] at hr hp
 split at hr
 ·rename_i x
  cases hr
  rw[W1 (G7.v hp)]
  refine keep (w21 x fun v=>v=_) ?_
  unfold e7p
  rw[G7.v hp]
  exact ⟨hp,fun _=>hp,(by trivial)⟩
 ·cases hr
noncomputable def f3p:Code:=D6 (C6 (A7 Tryz.f199) 2)
theorem h3h (a:Int) (b:Int) (R:X→List V→List Box→Prop):(D7 (Cn T21) T21 D4 0 C5 B1 f3p 12 [0,1] [] [] [] [0] [] [A3 a,A3 b] [] R) =
 (bif decide (b>0) then
 ((IntKind.i64=IntKind.i64∧b≠0)∧
 (12=12∧
 R X.normal [A3 b,A3 (a.tmod b)] [])) else
 (12=12∧
 R (X.exit 0) [A3 a] [])):=by kernel_rfl
noncomputable def f7w:Ev.Spec:={L:=[0,1],ns:=[],L':=[0],nm':=[],G:=fun N vals bs k=>match vals,bs with
 | [.d (.lit (.int .i64 a)), .d (.lit (.int .i64 b))], []=>∃x y:Nat,(N=12∧a=x∧b=y∧x<9223372036854775808∧y<9223372036854775808)∧k (.exit 0) [A3 (Nat.gcd x y:Nat)] []
 | _,_=>False }
theorem h5k (a:Int) (b:Int) (p:V→Prop):(B7 (Cn T21) T21 D4 0 (spL [(2,f7w)]) B1 199 [A3 a,A3 b] B4.empty fun v H=>p (B5 H v)) =
 (∃(x:Nat),(∃(y:Nat),((12=12∧(((a:Int)=(↑x:Int))∧(((b:Int)=(↑y:Int))∧(x<9223372036854775808∧y<9223372036854775808))))∧
 p (A3 (↑(x.gcd y):Int))))):=by kernel_rfl
noncomputable def g9j:Ct:=⟨fun | [.lit (.int .i64 a), .lit (.int .i64 b)]=>0≤a∧a<9223372036854775808∧0≤b∧b<9223372036854775808|_=>False,fun | [.lit (.int .i64 a), .lit (.int .i64 b)]=>some (.lit (.int .i64 (Nat.gcd a.toNat b.toNat:Nat)))|_=>none⟩
noncomputable def f6a:Tab:=T21.add 199 g9j
theorem h5x (n:Int) (p:V→Prop):(B7 (Cn f6a) f6a D4 0 C5 B1 166 [A3 n] B4.empty fun v H=>p (B5 H v)) =
 (bif decide (n<0) then
 p (A3 (IntKind.i64.wrap (0-n))) else
 p (A3 n)):=by kernel_rfl
noncomputable def g9q:Ct:=⟨fun | [.lit (.int .i64 n)]=> -4611686018427387904≤n∧n≤4611686018427387904|_=>False,fun | [.lit (.int .i64 n)]=>some (.lit (.int .i64 (n.natAbs:Nat)))|_=>none⟩
noncomputable def f6j:Tab:=f6a.add 166 g9q
theorem h5z (n:Int) (d:Int) (p:V→Prop):(B7 (Cn f6j) f6j D4 0 C5 B1 164 [V.d (rV n d)] B4.empty fun v H=>p (B5 H v)) =
 ((((!bif
 bif bif decide (d<1) then true else decide (d>1152921504606846976) then true
 else decide (n< -1152921504606846976) then
 true
 else decide (n>1152921504606846976)) &&
 true) =
 true→(((-4611686018427387904:Int)≤n)∧((n:Int)≤4611686018427387904)))∧
 ((((!bif
 bif bif decide (d<1) then true else decide (d>1152921504606846976) then true
 else decide (n< -1152921504606846976) then
 true
 else decide (n>1152921504606846976)) &&
 true) =
 true→(((0:Int)≤(↑n.natAbs:Int))∧((((↑n.natAbs:Int):Int)<9223372036854775808)∧(((0:Int)≤d)∧((d:Int)<9223372036854775808)))))∧
 (bif bif
 bif
 bif bif decide (d<1) then true else decide (d>1152921504606846976) then true
 else decide (n< -1152921504606846976) then
 true
 else decide (n>1152921504606846976) then
 true
 else (↑((↑n.natAbs:Int).toNat.gcd d.toNat):Int) !=1 then
 p (A3 1) else
 p (A3 0)))):=by kernel_rfl
noncomputable def f6k:Tab:=f6j.add 164 f5d
theorem h6o (y:D) (p:V→Prop):(B7 (Cn f6k) f6k D4 0 C5 B1 139 [V.d (eV y)] B4.empty fun v H=>p (B5 H v)) =
 (True∧
 (bif m3 (A1 (A0 y 5)) (A1 (A0 y 6)) !=0 then
 p (A3 1) else
 (bif bif bif A1 (A0 y 0)==6 then A1 (A0 y 1)==7 else false then
 bif bif A1 (A0 y 6) !=1 then true else decide (A1 (A0 y 5)<1) then true
 else decide (A1 (A0 y 5)>1000)
 else false then
 p (A3 2) else
 (bif bif
 bif A1 (A0 y 0) !=1 then !bif A1 (A0 y 0)==6 then A1 (A0 y 1)==7 else false
 else false then
 bif decide (A1 (A0 y 5)<0) then true else decide (A1 (A0 y 5)>A1 (A0 y 6))
 else false then
 p (A3 2) else
 p (A3 0))))):=by kernel_rfl
noncomputable def c6s (y:D):Int :=
 (bif m3 (A1 (A0 y 5)) (A1 (A0 y 6)) !=0 then
 1 else
 (bif bif bif A1 (A0 y 0)==6 then A1 (A0 y 1)==7 else false then
 bif bif A1 (A0 y 6) !=1 then true else decide (A1 (A0 y 5)<1) then true
 else decide (A1 (A0 y 5)>1000)
 else false then
 2 else
 (bif bif
 bif A1 (A0 y 0) !=1 then !bif A1 (A0 y 0)==6 then A1 (A0 y 1)==7 else false
 else false then
 bif decide (A1 (A0 y 5)<0) then true else decide (A1 (A0 y 5)>A1 (A0 y 6))
 else false then
 2 else
 0)))
noncomputable def d7p:Tab:=f6k.add 139 f5e
noncomputable def g2y:Code:=D6 (C6 (A7 Tryz.f140) 8)
theorem h3p (y:D) (i:Int) (R:X→List V→List Box→Prop):(D7 (Cn d7p) d7p D4 0 C5 B1 g2y 53 [1,3] [[5000]] [] [([5000], [5000])] [2] [] [V.ptr [5000] 0,A3 i]
 [G5 y] R) =
 (bif decide (i<(↑(A2 (A0 y 7)).length:Int)) then
 ((((0:Int)≤i)∧(i.toNat<(A2 (A0 y 7)).length∧zD (A5 ((A2 (A0 y 7)).getD i.toNat D.any))=(A2 (A0 y 7)).getD i.toNat D.any))∧
 (((!(A5 ((A2 (A0 y 7)).getD i.toNat D.any)).toList==(ByteArray.mk #[110,97,109,101]).toList&&true)=true→(((0:Int)≤i)∧(i.toNat<(A2 (A0 y 7)).length∧zD (A5 ((A2 (A0 y 7)).getD i.toNat D.any))=(A2 (A0 y 7)).getD i.toNat D.any)))∧
 (bif bif !(A5 ((A2 (A0 y 7)).getD i.toNat D.any)).toList==(ByteArray.mk #[110,97,109,101]).toList then
 !(A5 ((A2 (A0 y 7)).getD i.toNat D.any)).toList==(ByteArray.mk #[115,101,114,118,105,99,101]).toList
 else false then
 (53=53∧
 R X.ret [A3 5] []) else
 (((decide (i>0)&&true)=true→(((0:Int)≤IntKind.i64.wrap (i-1))∧((IntKind.i64.wrap (i-1)).toNat<(A2 (A0 y 7)).length∧zD (A5 ((A2 (A0 y 7)).getD (IntKind.i64.wrap (i-1)).toNat D.any)) =
 (A2 (A0 y 7)).getD (IntKind.i64.wrap (i-1)).toNat D.any)))∧
 (((decide (i>0)&&true)=true→(((0:Int)≤i)∧(i.toNat<(A2 (A0 y 7)).length∧zD (A5 ((A2 (A0 y 7)).getD i.toNat D.any))=(A2 (A0 y 7)).getD i.toNat D.any)))∧
 (bif bif decide (i>0) then
 !Op.bytesLess (A5 ((A2 (A0 y 7)).getD (IntKind.i64.wrap (i-1)).toNat D.any)).toList
 (A5 ((A2 (A0 y 7)).getD i.toNat D.any)).toList
 else false then
 (53=53∧
 R X.ret [A3 9] []) else
 (53=53∧
 R X.normal [V.ptr [5000] 0,A3 (IntKind.i64.wrap (i+1))]
 [Box.cells 33
 [A3 (A1 (A0 y 0)),
 A3 (A1 (A0 y 1)),
 V.d (D.slice (K3 (A0 y 2)) 3 (A2 (A0 y 2))),
 A3 (A1 (A0 y 3)),
 A3 (A1 (A0 y 4)),
 A3 (A1 (A0 y 5)),
 A3 (A1 (A0 y 6)),
 V.d (D.slice (K3 (A0 y 7)) 1 (A2 (A0 y 7))),A9 (Z8 (A0 y 8)),
 A3 (A1 (A0 y 9)),
 V.d (D.slice (K3 (A0 y 10)) 4 (A2 (A0 y 10))),
 A3 (A1 (A0 y 11)),
 V.d (D.slice (K3 (A0 y 12)) 4 (A2 (A0 y 12))),
 V.d (D.slice (K3 (A0 y 13)) 3 (A2 (A0 y 13))),C9 (A5 (A0 y 14)),
 V.d (D.slice (K3 (A0 y 15)) 16 (A2 (A0 y 15)))]]))))))) else
 (53=53∧
 R (X.exit 0) [V.any] [])):=by kernel_rfl
noncomputable def f8d:Ev.Spec:={L:=[1,3],ns:=[([5000],[3])],L':=[2],nm':=[],G:=fun N vals bs k=>match vals,bs with
 | [.ptr [5000] 0, .d (.lit (.int .i64 i))], [.cells 33 [a0,a1,a2,a3,a4,a5,a6, .d (.slice b 1 xs),a8,a9,a10,a11,a12,a13,a14,a15]]=>(IsE [a0,a1,a2,a3,a4,a5,a6, .d (.slice b 1 xs),a8,a9,a10,a11,a12,a13,a14,a15]∧N=53∧i=0∧xs.length≤16∧∀y∈xs,a2d y)∧P7 (C0 (M2 true xs) xs.length) (k (.exit 0) [.any] []) (fun e=>k .ret [A3 e] [])
 | _,_=>False }
theorem h6n (y:D) (p:V→Prop):(B7 (Cn d7p) d7p D4 0 (spL [(8,f8d)]) B1 140 [V.d (eV y)] B4.empty fun v H=>p (B5 H v)) =
 (bif bif A1 (A0 y 0) !=4 then true else decide ((↑(A2 (A0 y 7)).length:Int)>16) then
 ((1=1∧∀(y_1:D),y_1∈A2 (A0 y 7)→a2d y_1∧Bd y_1)∧
 p (A3 (M6 (A2 (A0 y 7)) false))) else
 ((IsE
 [A3 (A1 (A0 y 0)),A3 (A1 (A0 y 1)),
 V.d (D.slice (K3 (A0 y 2)) 3 (A2 (A0 y 2))),A3 (A1 (A0 y 3)),
 A3 (A1 (A0 y 4)),A3 (A1 (A0 y 5)),
 A3 (A1 (A0 y 6)),V.d (D.slice (K3 (A0 y 7)) 1 (A2 (A0 y 7))),
 A9 (Z8 (A0 y 8)),A3 (A1 (A0 y 9)),
 V.d (D.slice (K3 (A0 y 10)) 4 (A2 (A0 y 10))),
 A3 (A1 (A0 y 11)),
 V.d (D.slice (K3 (A0 y 12)) 4 (A2 (A0 y 12))),
 V.d (D.slice (K3 (A0 y 13)) 3 (A2 (A0 y 13))),C9 (A5 (A0 y 14)),
 V.d (D.slice (K3 (A0 y 15)) 16 (A2 (A0 y 15)))]∧(53=53∧(((0:Int)=0)∧((A2 (A0 y 7)).length≤16∧∀(y_1:D),y_1∈A2 (A0 y 7)→a2d y_1))))∧
 (match C0 (M2 true (A2 (A0 y 7))) (A2 (A0 y 7)).length with
 | some y0 =>
 p (A3 y0)
 | none=>p (A3 0)))):=by kernel_rfl
noncomputable def g9y:Ct:=⟨fun | [x]=>D0 x∧Bd x|_=>False,fun | [x]=>some (.lit (.int .i64 (M6 (A2 (A0 x 7)) (A1 (A0 x 0)==4))))|_=>none⟩
noncomputable def d7o:Tab:=d7p.add 140 g9y
noncomputable def g2x:Code:=D6 (C6 (A7 Tryz.f189) 4)
theorem h3n (s : ByteArray) (i : Int) (R : X → List V → List Box → Prop) : (D7 (Cn d7o) d7o D4 0 C5 B1 g2x 34 [0, 3] [] [] [] [0, 2] [] [C9 s, A3 i] [] R) =
  (bif decide (i < (↑s.size : Int)) then
   ((((0 : Int) ≤ i) ∧ i.toNat < s.size) ∧
   (((A6 s i.toNat != 95 && true) = true → (((0 : Int) ≤ i) ∧ i.toNat < s.size)) ∧
   (((!decide (A6 s i.toNat < 97) && (A6 s i.toNat != 95 && true)) = true → (((0 : Int) ≤ i) ∧ i.toNat < s.size)) ∧
   (bif bif A6 s i.toNat != 95 then bif decide (A6 s i.toNat < 97) then true else decide (A6 s i.toNat > 122)
else false then
    (34 = 34 ∧
    R X.ret [C9 s, A9 false] []) else
    (34 = 34 ∧
    R X.normal [C9 s, A3 (IntKind.i64.wrap (i + 1))] []))))) else
   (34 = 34 ∧
   R (X.exit 0) [C9 s, V.any] [])) := by kernel_rfl
def f8b:Ev.Spec:={L:=[0,3],ns:=[],L':=[0,2],nm':=[],G:=fun N vals bs k=>match vals,bs with
 | [.d (.lit (.string s)), .d (.lit (.int .i64 i))], []=>(N=34∧i=0∧s.size≤1152921504606846976)∧P7 (C0 (U5 (G9 s)) (G9 s).length) (k (.exit 0) [C9 s, .any] []) (fun _=>k .ret [C9 s,A9 false] [])
 | _,_=>False }
theorem h5t (s:ByteArray) (p:V→Prop):(B7 (Cn d7o) d7o D4 0 (spL [(4,f8b)]) B1 189 [V.d (sD s)] B4.empty fun v H=>p (B5 H v)) =
 ((34=34∧(((0:Int)=0)∧s.size≤1152921504606846976))∧
 (match C0 (U5 (G9 s)) (G9 s).length with
 | some y0 =>
 p (A9 false)
 | none=>p (A9 (bif decide ((↑s.size:Int)>0) then decide ((↑s.size:Int)≤60) else false)))):=by kernel_rfl
noncomputable def a7v (s:ByteArray):Bool :=
 (match C0 (U5 (G9 s)) (G9 s).length with
 | some y0=>false
 | none=>(bif decide ((↑s.size:Int)>0) then decide ((↑s.size:Int)≤60) else false))
noncomputable def g9p:Ct:=⟨fun | [.lit (.string s)]=>s.size≤1152921504606846976|_=>False,fun | [.lit (.string s)]=>some (.lit (.bool (a7v s)))|_=>none⟩
noncomputable def f6f:Tab:=d7o.add 189 g9p
theorem h6m (y:D) (p:V→Prop):(B7 (Cn f6f) f6f D4 0 C5 B1 141 [V.d (eV y)] B4.empty fun v H=>p (B5 H v)) =
 (bif bif A1 (A0 y 0)==5 then decide ((↑(A5 (A0 y 14)).size:Int)>60) else false then
 p (A3 4) else
 (((A1 (A0 y 0)==13&&true)=true→(A5 (A0 y 14)).size.le 1152921504606846976)∧
 ((((bif A1 (A0 y 0)==3 then true else A1 (A0 y 0)==6) &&
 ((!bif A1 (A0 y 0)==13 then !a7v (A5 (A0 y 14)) else false)&&true)) =
 true→(A5 (A0 y 14)).size.le 1152921504606846976)∧
 (bif bif bif A1 (A0 y 0)==13 then !a7v (A5 (A0 y 14)) else false then true
 else
 bif bif A1 (A0 y 0)==3 then true else A1 (A0 y 0)==6 then !G4 (A5 (A0 y 14)) else false then
 p (A3 5) else
 p (A3 0))))):=by kernel_rfl
noncomputable def b6a (y:D):Int :=
 (bif bif A1 (A0 y 0)==5 then decide ((↑(A5 (A0 y 14)).size:Int)>60) else false then
 4 else
 (bif bif bif A1 (A0 y 0)==13 then !a7v (A5 (A0 y 14)) else false then true
 else
 bif bif A1 (A0 y 0)==3 then true else A1 (A0 y 0)==6 then !G4 (A5 (A0 y 14)) else false then
 5 else
 0))
noncomputable def g9x:Ct:=⟨fun | [x]=>D0 x∧Bd x|_=>False,fun | [x]=>some (.lit (.int .i64 (b6a x)))|_=>none⟩
noncomputable def f6v:Tab:=f6f.add 141 g9x
theorem g6w:OkS (Cn T21) 0 (.loop f3p) f7w:=by
 refine D2 fun N vals bs K h=>?_
 simp only[f7w] at h
 split at h
 case h_2=>exact h.elim
 rename_i a b
 obtain ⟨x,y,⟨rfl,rfl,rfl,hx,hy⟩,h⟩:=h
 have main:∀(n x y:Nat),y≤n→K (.exit 0) [A3 (Nat.gcd x y:Nat)] []→J5 (Cn T21) 0 f3p 12 [0,1] [] [0] [] [A3 x,A3 y] [] K:=by
  intro n
  induction n with
  | zero =>
   intro x y hn h
   have:y=0:=by omega
   subst this
   refine B6 (D1 C4 k21 B9) C1 A8 (hn:=B1) (adsI:=[]) (nsI:=[]) (nsX:=[]) rfl rfl (keep (h3h x 0 _) ?_)
   rw[Nat.gcd_zero_right] at h
   exact ⟨(by trivial),h⟩
  | succ n ih =>
   intro x y hn h
   refine B6 (D1 C4 k21 B9) C1 A8 (hn:=B1) (adsI:=[]) (nsI:=[]) (nsX:=[]) rfl rfl (keep (h3h x y _) ?_)
   refine A4 (fun h1=>?_) (fun h1=>?_)
   ·simp only[decide_eq_true_eq] at h1
    refine ⟨⟨(by trivial),by omega⟩,(by trivial), ?_⟩
    have e:((x:Int)).tmod (y:Int)=((x % y:Nat):Int):=by rw[Int.ofNat_tmod]
    rw[e]
    refine ih y (x % y) (by have:=Nat.mod_lt x (show y>0 by omega);omega) ?_
    rw[Nat.gcd_comm y, ←Nat.gcd_rec,Nat.gcd_comm]
    exact h
   ·have hy:y=0:=by simp only[decide_eq_false_iff_not] at h1;omega
    subst hy
    rw[Nat.gcd_zero_right] at h
    exact ⟨(by trivial),h⟩
 exact main y x y (Nat.le_refl _) h
theorem h8u:C2 B f6a:=by
 refine C3 C4 k21 (fn:=Tryz.f199) (cd:=A7 Tryz.f199) (sp:=spL [(2,f7w)]) (hn:=B1) Tryz.func199 (by kernel_rfl) (by kernel_rfl) (B8 (c:=.loop f3p) (by kernel_rfl) g6w C8) fun ds r hp hr=>?_
 unfold g9j at hp hr
 simp only[] at hr hp
 split at hr
 ·rename_i a b
  cases hr
  obtain ⟨h1,h2,h3,h4⟩:=hp
  refine keep (h5k a b fun v=>v=_) ?_
  exact ⟨a.toNat,b.toNat,⟨(by trivial),by omega,by omega,by omega,by omega⟩,(by trivial)⟩
 ·cases hr
theorem h9d:C2 B f6j:=by
 refine C3 C4 h8u (fn:=Tryz.f166) (cd:=A7 Tryz.f166) (sp:=C5) (hn:=B1) Tryz.func166 (by kernel_rfl) (by kernel_rfl) A8 fun ds r hp hr=>?_
 unfold g9q at hp hr
 simp only[] at hr hp
 split at hr
 ·rename_i n
  cases hr
  obtain ⟨h1,h2⟩:=hp
  refine keep (h5x n fun v=>v=_) ?_
  refine A4 (fun g=>?_) (fun g=>?_)
  ·simp only[decide_eq_true_eq] at g
   rw[wr (by omega) (by omega),show 0-n=(n.natAbs:Int) by omega]
  ·simp only[decide_eq_false_iff_not] at g
   rw[show (n.natAbs:Int)=n by omega]
 ·cases hr
theorem e9r (x:Int):IntKind.u64.wrap x=x % 18446744073709551616:=rfl
theorem h9e:C2 B f6k:=by
 refine C3 C4 h9d (fn:=Tryz.f164) (cd:=A7 Tryz.f164) (sp:=C5) (hn:=B1) Tryz.func164 (by kernel_rfl) (by kernel_rfl) A8 fun ds r hp hr=>?_
 unfold f5d at hr
 simp only[] at hr
 split at hr
 ·rename_i n d
  cases hr
  refine keep (h5z n d fun v=>v=_) ?_
  have key:∀b:Bool,(bif (bif (bif decide (d<1) then true else decide (d>1152921504606846976)) then true else decide (n< -1152921504606846976)) then true else decide (n>1152921504606846976))=b→b=false→1≤d∧d≤1152921504606846976∧ -1152921504606846976≤n∧n≤1152921504606846976:=fun b e hb=>by
   subst hb
   obtain ⟨e,e4⟩:=a2x e
   obtain ⟨e,e3⟩:=a2x e
   obtain ⟨e1,e2⟩:=a2x e
   simp only[decide_eq_false_iff_not] at e1 e2 e3 e4
   omega
  refine ⟨fun g=>?_,fun g=>?_, ?_⟩
  ·have:=key _ rfl (by simpa using g)
   omega
  ·have:=key _ rfl (by simpa using g)
   omega
  ·unfold m3
   cases hb:(bif (bif (bif decide (d<1) then true else decide (d>1152921504606846976)) then true else decide (n< -1152921504606846976)) then true else decide (n>1152921504606846976)) with
   | true =>
    simp only[cond_true]
    cases h1:(bif decide (d<1) then true else decide (d>1152921504606846976)) with
    | true=>simp only[cond_true]
    | false =>
     rw[h1] at hb
     simp only[cond_false] at hb ⊢
     rw[hb];rfl
   | false =>
    have hk:=key _ hb rfl
    obtain ⟨e,e4⟩:=a2x hb
    obtain ⟨e,e3⟩:=a2x e
    rw[e,e3,e4]
    simp only[cond_false]
    have em:(b9p n).toNat=n.natAbs:=by
     unfold b9p
     cases hn:decide (n<0) with
     | true =>
      simp only[decide_eq_true_eq] at hn
      simp only[cond_true]
      rw[show IntKind.u64.wrap n=n+18446744073709551616 by rw[e9r];omega]
      rw[show IntKind.u64.wrap (0-(n+18446744073709551616))= -n by rw[e9r];omega]
      omega
     | false =>
      simp only[decide_eq_false_iff_not] at hn
      simp only[cond_false]
      rw[show IntKind.u64.wrap n=n by rw[e9r];omega]
      omega
    have ed:(IntKind.u64.wrap d).toNat=d.toNat:=by
     rw[show IntKind.u64.wrap d=d by rw[e9r];omega]
    rw[em,ed,Int.toNat_natCast]
    refine A4 (fun g=>?_) (fun g=>?_)
    ·simp only[g,cond_true]
    ·simp only[g,cond_false]
 ·cases hr
theorem e3d (y:D):c6s y=N9 y:=by
 unfold c6s N9
 generalize (m3 (A1 (A0 y 5)) (A1 (A0 y 6)) !=0)=r
 generalize (A1 (A0 y 1)==7)=f
 generalize (bif (bif A1 (A0 y 6) !=1 then true else decide (A1 (A0 y 5)<1)) then true else decide (A1 (A0 y 5)>1000))=a
 generalize (bif decide (A1 (A0 y 5)<0) then true else decide (A1 (A0 y 5)>A1 (A0 y 6)))=b
 generalize A1 (A0 y 0)=k
 by_cases h1:k=1
 ·subst h1;cases r<;>cases f<;>cases a<;>cases b<;>rfl
 ·have e1:(k==1)=false:=by simpa using h1
  have e2:(k !=1)=true:=by simpa using h1
  rw[e1,e2]
  cases (k==6)<;>cases r<;>cases f<;>cases a<;>cases b<;>rfl
theorem g7z:C2 B d7p:=by
 refine C3 C4 h9e (fn:=Tryz.f139) (cd:=A7 Tryz.f139) (sp:=C5) (hn:=B1) Tryz.func139 (by kernel_rfl) (by kernel_rfl) A8 fun ds r hp hr=>?_
 unfold f5e at hp hr
 simp only[] at hr hp
 split at hr
 ·rename_i x
  cases hr
  rw[W1 (D0.v hp), ←e3d]
  refine keep (h6o x fun v=>v=_) ?_
  unfold c6s
  (repeat' (first|with_reducible rfl | (refine A4 (fun hcw=>?_) (fun hcw=>?_)<;>simp only[hcw,cond_true,cond_false])|refine S4 ?_ ?_))
  all_goals trivial
 ·cases hr
theorem e3h (xs:List D) (i:Nat):M2 true xs i=bif (bif !eqS (A5 (xs.getD i .any)) (ByteArray.mk #[110,97,109,101]) then !eqS (A5 (xs.getD i .any)) (ByteArray.mk #[115,101,114,118,105,99,101]) else false) then some 5 else
  bif (bif decide ((i:Int)>0) then !Op.bytesLess (A5 (xs.getD (i-1) .any)).toList (A5 (xs.getD i .any)).toList else false) then some 9 else none:=by
 unfold M2
 rw[show leS (A5 (xs.getD i .any)) (A5 (xs.getD (i-1) .any))= !Op.bytesLess (A5 (xs.getD (i-1) .any)).toList (A5 (xs.getD i .any)).toList from (a6a _ _).symm]
 have toL:∀a b:ByteArray,eqS a b=true→a=b:=fun a b h=>by
  have h:a.toList=b.toList:=by simpa using h
  rw[Lib.toList_data,Lib.toList_data] at h
  obtain ⟨⟨a⟩⟩:=a
  obtain ⟨⟨b⟩⟩:=b
  exact congrArg (fun l=>ByteArray.mk (Array.mk l)) h
 cases h1:eqS (A5 (xs.getD i .any)) (ByteArray.mk #[110,97,109,101]) with
 | true =>
  rw[toL _ _ h1]
  have:G4 (ByteArray.mk #[110,97,109,101])=true:=by decide +kernel
  rw[this];rfl
 | false =>
  cases h2:eqS (A5 (xs.getD i .any)) (ByteArray.mk #[115,101,114,118,105,99,101]) with
  | true =>
   rw[toL _ _ h2]
   have:G4 (ByteArray.mk #[115,101,114,118,105,99,101])=true:=by decide +kernel
   rw[this];rfl
  | false=>cases G4 (A5 (xs.getD i .any))<;>rfl
theorem g7g:OkS (Cn d7p) 0 (.loop g2y) f8d:=by
 refine D2 fun N vals bs K h=>?_
 simp only[f8d] at h
 split at h
 case h_2=>exact h.elim
 rename_i i a0 a1 a2 a3 a4 a5 a6 b xs a8 a9 a10 a11 a12 a13 a14 a15
 obtain ⟨⟨⟨y,hy⟩,rfl,rfl,h16,hall⟩,h⟩:=h
 have hxs:xs=A2 (A0 y 7):=by
  have:=congrArg (fun l:List V=>l.getD 7 .any) hy
  simp at this
  exact this.2
 rw[hy]
 subst hxs
 refine F5 (D1 C4 g7z B9) C1 A8 (hn:=B1) (adsI:=[]) (nsI:=[([5000],[5000])]) (nsX:=[]) rfl rfl (A2 (A0 y 7)).length
  (fun i=>[.ptr [5000] 0,A3 i]) (fun _=>[G5 y]) (M2 true (A2 (A0 y 7))) (fun e=>(.ret, [A3 e], [])) (by simp) (.exit 0) [.any] [] (by simp) ?_ ?_ h
 ·intro i R hi hR
  refine keep (h3p y i R) ?_
  have e1:decide ((i:Int)<(A2 (A0 y 7)).length)=true:=by simp;omega
  have e2:IntKind.i64.wrap ((i:Int)+1)=((i+1:Nat):Int):=by rw[Go.IntWalk.i64_in _ (by omega)];omega
  have hv:=hall _ (E1 hi)
  rw[e3h] at hR
  rw[e1]
  simp only[Int.toNat_natCast,e2,cond_true]
  refine ⟨⟨by omega,hi,hv⟩,fun _=>⟨by omega,hi,hv⟩,A4 (fun h1=>⟨(by trivial), ?_⟩) (fun h1=>?_)⟩
  ·rw[h1] at hR;exact hR
  ·rw[h1] at hR
   simp only[cond_false] at hR
   by_cases h0:0<i
   ·have e4:IntKind.i64.wrap ((i:Int)-1)=((i-1:Nat):Int):=by rw[Go.IntWalk.i64_in _ (by omega)];omega
    have hv2:=hall _ (E1 (xs:=A2 (A0 y 7)) (i:=i-1) (by omega))
    simp only[e4,Int.toNat_natCast]
    refine ⟨fun _=>⟨by omega,by omega,hv2⟩,fun _=>⟨by omega,hi,hv⟩,A4 (fun h2=>⟨(by trivial), ?_⟩) (fun h2=>⟨(by trivial), ?_⟩)⟩
    ·rw[h2] at hR;exact hR
    ·rw[h2] at hR;exact hR
   ·have e5:decide ((i:Int)>0)=false:=by simp;omega
    rw[e5] at hR ⊢
    exact ⟨(fun h=>by cases h),(fun h=>by cases h),(by trivial),hR⟩
 ·intro R hR
  refine keep (h3p y (A2 (A0 y 7)).length R) ?_
  have e1:decide (((A2 (A0 y 7)).length:Int)<(A2 (A0 y 7)).length)=false:=by simp
  rw[e1]
  exact ⟨(by trivial),hR⟩
theorem g7y:C2 B d7o:=by
 refine C3 C4 g7z (fn:=Tryz.f140) (cd:=A7 Tryz.f140) (sp:=spL [(8,f8d)]) (hn:=B1) Tryz.func140 (by kernel_rfl) (by kernel_rfl) (B8 (c:=.loop g2y) (by kernel_rfl) g7g C8) fun ds r hp hr=>?_
 unfold g9y at hp hr
 simp only[] at hr hp
 split at hr
 ·rename_i x
  cases hr
  rw[W1 hp.1.v]
  refine keep (h6n x fun v=>v=_) ?_
  have hn:∀y∈A2 (A0 x 7),a2d y∧Bd y:=fun y hy=>⟨hp.1.n y hy,hp.2.sub hy⟩
  refine A4 (fun g=>⟨⟨(by trivial),hn⟩, ?_⟩) (fun g=>?_)
  ·by_cases h4:A1 (A0 x 0)=4
   ·have e4:(A1 (A0 x 0) !=4)=false:=by simp[h4]
    rw[e4] at g
    have g:decide ((↑(A2 (A0 x 7)).length:Int)>16)=true:=g
    unfold M6
    rw[g];rfl
   ·have e4:(A1 (A0 x 0)==4)=false:=by simpa using h4
    rw[e4]
  ·obtain ⟨g1,g2⟩:=a2x g
   have g1:=d9w g1
   have e4:(A1 (A0 x 0)==4)=true:=by simpa using g1
   rw[e4]
   unfold M6
   rw[g2]
   simp only[decide_eq_false_iff_not] at g2
   simp only[cond_false]
   refine ⟨⟨⟨x,rfl⟩,(by trivial),(by trivial),by omega,fun y hy=>(hn y hy).1⟩, ?_⟩
   cases C0 (M2 true (A2 (A0 x 7))) (A2 (A0 x 7)).length<;>rfl
 ·cases hr
theorem d7a {s:ByteArray} {i:Nat} (h:i<s.size):U5 (G9 s) i=bif (bif A6 s i !=95 then (bif decide (A6 s i<97) then true else decide (A6 s i>122)) else false) then some 5 else none:=by
 unfold U5
 have:A1 ((G9 s).getD i .any)=A6 s i:=by
  unfold G9 A6
  have hl:i<s.data.toList.length:=by simpa using h
  rw[List.getD_eq_getElem?_getD,List.getElem?_map,List.getD_eq_getElem?_getD,List.getElem?_eq_getElem hl]
  rfl
 rw[this]
theorem g7e:OkS (Cn d7o) 0 (.loop g2x) f8b:=by
 refine D2 fun N vals bs K h=>?_
 simp only[f8b] at h
 split at h
 case h_2=>exact h.elim
 rename_i s i
 obtain ⟨⟨rfl,rfl,hs⟩,h⟩:=h
 rw[c2w] at h
 refine F5 (D1 C4 g7y B9) C1 A8 (hn:=B1) (adsI:=[]) (nsI:=[]) (nsX:=[]) rfl rfl s.size
  (fun i=>[C9 s,A3 i]) (fun _=>[]) (U5 (G9 s)) (fun e=>(.ret, [C9 s,A9 false], [])) (by simp) (.exit 0) [C9 s, .any] [] (by simp) ?_ ?_ h
 ·intro i R hi hR
  refine keep (h3n s i R) ?_
  have e1:decide ((i:Int)<s.size)=true:=by simp;omega
  have e2:IntKind.i64.wrap ((i:Int)+1)=((i+1:Nat):Int):=by rw[Go.IntWalk.i64_in _ (by omega)];omega
  rw[d7a hi] at hR
  rw[e1]
  simp only[Int.toNat_natCast,e2,cond_true]
  refine ⟨⟨by omega,by omega⟩,fun _=>⟨by omega,by omega⟩,fun _=>⟨by omega,by omega⟩,A4 (fun h1=>⟨(by trivial), ?_⟩) (fun h1=>⟨(by trivial), ?_⟩)⟩<;>(rw[h1] at hR;exact hR)
 ·intro R hR
  refine keep (h3n s s.size R) ?_
  have e1:decide ((s.size:Int)<s.size)=false:=by simp
  rw[e1]
  exact ⟨(by trivial),hR⟩
theorem h8z:C2 B f6f:=by
 refine C3 C4 g7y (fn:=Tryz.f189) (cd:=A7 Tryz.f189) (sp:=spL [(4,f8b)]) (hn:=B1) Tryz.func189 (by kernel_rfl) (by kernel_rfl) (B8 (c:=.loop g2x) (by kernel_rfl) g7e C8) fun ds r hp hr=>?_
 unfold g9p at hp hr
 simp only[] at hr hp
 split at hr
 ·rename_i s
  cases hr
  refine keep (h5t s fun v=>v=_) ?_
  unfold a7v
  refine ⟨⟨(by trivial),(by trivial),hp⟩, ?_⟩
  cases C0 (U5 (G9 s)) (G9 s).length<;>rfl
 ·cases hr
theorem h9n:C2 B f6v:=by
 refine C3 C4 h8z (fn:=Tryz.f141) (cd:=A7 Tryz.f141) (sp:=C5) (hn:=B1) Tryz.func141 (by kernel_rfl) (by kernel_rfl) A8 fun ds r hp hr=>?_
 unfold g9x at hp hr
 simp only[] at hr hp
 split at hr
 ·rename_i x
  cases hr
  rw[W1 hp.1.v]
  refine keep (h6m x fun v=>v=_) ?_
  unfold b6a
  have hb:(A5 (A0 x 14)).size.le 1152921504606846976:=d2g (hp.2.str 14)
  (repeat' (first|with_reducible rfl | (refine A4 (fun hcw=>?_) (fun hcw=>?_)<;>simp only[hcw,cond_true,cond_false])|refine S4 ?_ ?_))
  all_goals first|trivial|assumption|exact fun _=>hb
 ·cases hr
end Go.Ev.R2
end
