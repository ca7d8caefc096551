/- What the proofs of the lexer's laws share, part 9 of 13. -/
import Derived.Test.YtnnhlphbfpnaaaaGreatDoorC4
import Derived.Test.YtnnhlphbfpnaaaaGreatDoorC6
import Derived.Test.YtnnhlphbfpnaaaaGreatDoorC5
import Derived.Test.YtnnhlphbfpnaaaaGreatDoorC8
import Derived.Test.YtnnhlphbfpnaaaaGreatDoorC7
set_option linter.unusedVariables false
set_option linter.unusedSimpArgs false
section
namespace Go.Ev
def f7e:List (FuncId×Ct)→FuncId→Option Ct
 | [],_=>none
 | (a,S)::r,n=>bif n==a then some S else f7e r n
def Tab.addG (tb:Tab) (grp:List (FuncId×Ct)):Tab:=fun n=>match f7e grp n with|some S=>some S|none=>tb n
section
variable {B : Cx} {tb : Tab} {stb : J5}
theorem D0.of {C C':Cx} (hP:C'.P=C.P) (hg:C'.glob=C.glob) (h:D0 C tb):D0 C' tb:=fun K ct ds r h1 h2 h3=>(h K ct ds r h1 h2 h3).of hP hg
end
end Go.Ev
end
section
namespace Go.Ev.R2
open Go Go.Ev Go.Proofs
set_option maxRecDepth 100000
noncomputable def g3g (c:Int):Bool :=
 (bif
 bif bif decide (c≥97) then decide (c≤122) else false then true
 else bif decide (c≥65) then decide (c≤90) else false then
 true
 else bif decide (c≥48) then decide (c≤57) else false)
def h5q (c:Int):Int:=bif c==110 then 10 else bif c==116 then 9 else c
noncomputable def g7k (c:Int):Bool:=bif c==110 then true else bif c==116 then true else !g3g c
noncomputable def f6w (c:Int):Bool :=
 (bif
 bif
 bif
 bif
 bif
 bif
 bif bif bif c==46 then true else c==91 then true else c==93 then true
 else c==40 then
 true
 else c==41 then
 true
 else c==124 then
 true
 else c==42 then
 true
 else c==43 then
 true
 else c==63 then
 true
 else c==92)
noncomputable def c233:Ct:=⟨fun _=>True,fun | [.lit (.int .u8 c)]=>some (.lit (.bool (f6w c)))|_=>none⟩
noncomputable def h5r (c:Int):Bool:=bif (bif c !=100 then c !=119 else false) then g7k c else true
noncomputable def it3 (s:ByteArray) (i:Int):Int×Int×Bool :=
 bif (bif decide (i≥(s.size:Int)) then true else B3 s i.toNat==93) then (0,i,false) else
 bif B3 s i.toNat !=92 then (B3 s i.toNat,i+1,true) else
 bif decide (i+1≥(s.size:Int)) then (0,i,false) else (h5q (B3 s (i+1).toNat),i+2,g7k (B3 s (i+1).toNat))
noncomputable def rgQ (s:ByteArray) (i:Int):Bool:=bif (bif (bif (it3 s i).2.2 then decide ((it3 s i).2.1+1<(s.size:Int)) else false) then B3 s (it3 s i).2.1.toNat==45 else false) then B3 s ((it3 s i).2.1+1).toNat !=93 else false
noncomputable def brT (s:ByteArray) (i:Int):Int×Int×Bool:=bif rgQ s i then it3 s ((it3 s i).2.1+1) else it3 s i
noncomputable def g8n (s:ByteArray) (i:Int):Bool:=bif !(brT s i).2.2 then true else decide ((brT s i).1<(it3 s i).1)
noncomputable def brL (s:ByteArray):Nat→Int→Bool×Int
 | 0,i=>(false,i)
 | n+1,i=>bif (bif decide (i<(s.size:Int)) then B3 s i.toNat !=93 else false) then (bif g8n s i then (false,i) else brL s n (brT s i).2.1) else (true,i)
noncomputable def brQ (s:ByteArray) (i:Int):Bool×Int :=
 bif (brL s 201 i).1 then (bif (bif decide ((brL s 201 i).2≥(s.size:Int)) then true else (brL s 201 i).2==i) then (false,(brL s 201 i).2) else (true,(brL s 201 i).2+1)) else (false,(brL s 201 i).2)
theorem g6d {a b:Bool} (h:(bif a then true else b)=false):a=false∧b=false:=by
 cases a with
 | true=>cases h
 | false=>exact ⟨(by trivial),h⟩
def f6z (s:ByteArray) (k:Nat):Bool:=bif decide ((k:Int)<(s.size:Int)) then (bif (bif B3 s k==42 then true else B3 s k==43) then true else B3 s k==63) else false
mutual
noncomputable def c3z (s:ByteArray) (i:Nat):Bool×Nat :=
 if h:i<s.size then
  (bif !f6w (B3 s i) then (true,i+1) else
  bif B3 s i==46 then (true,i+1) else
  bif (bif B3 s i==92 then decide ((i:Int)+1<(s.size:Int)) else false) then (h5r (B3 s (i+1)),i+2) else
  bif (bif (bif B3 s i==91 then decide ((i:Int)+1<(s.size:Int)) else false) then B3 s (i+1)==94 else false) then ((brQ s ((i:Int)+2)).1,(brQ s ((i:Int)+2)).2.toNat) else
  bif B3 s i==91 then ((brQ s ((i:Int)+1)).1,(brQ s ((i:Int)+1)).2.toNat) else
  bif B3 s i !=40 then (false,i) else
  bif (bif (bif !(b4x s (i+1)).1 then true else decide (((b4x s (i+1)).2:Int)≥(s.size:Int))) then true else B3 s (b4x s (i+1)).2 !=41) then (false,i) else (true,(b4x s (i+1)).2+1))
 else (false,i)
termination_by (s.size-i)*2
noncomputable def b4x (s : ByteArray) (i : Nat) : Bool × Nat :=
 if h : i < s.size then
  (if B3 s i = 41 then (true, i)
  else if B3 s i = 124 then b4x s (i + 1)
  else if (c3z s i).1 then
   (if h2 : i < (c3z s i).2 then
    (if f6z s (c3z s i).2 then (if f6z s ((c3z s i).2 + 1) then (false, (c3z s i).2 + 1) else b4x s ((c3z s i).2 + 1)) else b4x s (c3z s i).2)
   else (false, i))
  else (false, i))
 else (true, i)
termination_by (s.size - i) * 2 + 1
end
noncomputable def rxQ (s:ByteArray):Int:=bif decide ((s.size:Int)>200) then 4 else bif (bif !(b4x s 0).1 then true else ((b4x s 0).2:Int) !=(s.size:Int)) then 3 else 0
noncomputable def c80:Ct:=⟨fun _=>True,fun | [.lit (.string s)]=>some (.lit (.int .i64 (rxQ s)))|_=>none⟩
def AgN (a b:Bool×Nat):Prop:=a.1=b.1∧(a.1=true→a.2=b.2)
theorem AgN.no {a b:Bool×Nat} (h1:a.1=false) (h2:b.1=false):AgN a b:=⟨h1.trans h2.symm,fun h=>by rw[h1] at h;cases h⟩
mutual
/-- All strings in it are of a length that a world holds. -/
def Bd:D→Prop
 | .lit (.string s)=>s.size≤1152921504606846976
 | .agg cs=>BdL cs
 | .slice _ _ xs=>BdL xs
 | .elem cs=>BdL cs
 | _=>True
def BdL:List D→Prop
 | []=>True
 | x::r=>Bd x∧BdL r
end
theorem b8t:∀{xs:List D} {a:D},BdL xs→a∈xs→Bd a
 | [],_,_,h=>by cases h
 | x::r,a,hb,h=>by
  unfold BdL at hb
  rcases List.mem_cons.1 h with rfl|h
  ·
   exact hb.1
  ·
   exact b8t hb.2 h
theorem b6r:∀{xs:List D},(∀a∈xs,Bd a)→BdL xs
 | [],_=>by unfold BdL;trivial
 | x::r,h=>by unfold BdL;exact ⟨h x (by simp),b6r fun a ha=>h a (by simp[ha])⟩
theorem Bd.cells {y:D} (h:Bd y):∀c∈y.cells,Bd c:=by
 cases y with
 | agg cs=>unfold Bd at h;exact fun c hc=>b8t h hc
 | _=>intro c hc;simp only[D.cells,List.mem_singleton] at hc;subst hc;exact h
theorem Bd.cell {y:D} (h:Bd y) (i:Nat):Bd (A0 y i):=by
 unfold A0
 rw[List.getD_eq_getElem?_getD]
 cases hg:y.cells[i]? with
 | none=>simp[Bd]
 | some c=>exact h.cells c (List.mem_of_getElem? hg)
theorem Bd.seq {y:D} (h:Bd y) {a:D} (ha:a∈A3 y):Bd a:=by
 cases y with
 | slice b z xs=>unfold Bd at h;exact b8t h ha
 | _=>cases ha
theorem Bd.sub {y a:D} {i:Nat} (h:Bd y) (ha:a∈F0 y i):Bd a:=(h.cell i).seq ha
theorem Bd.paV {y:D} (h:Bd y):Bd (paV y):=by
 refine show BdL _ from b6r fun a ha=>?_
 simp only[List.mem_cons,List.not_mem_nil,or_false] at ha
 rcases ha with rfl|rfl|rfl
 ·
  simp[Bd]
 ·
  exact show BdL _ from b6r fun a ha=>h.sub ha
 ·
  exact show BdL _ from b6r fun a ha=>h.sub ha
end Go.Ev.R2
end
section
namespace Go.Ev
theorem c6a:∀(l:List Nat) (j:Nat),j<l.sum→∃(i:Nat) (c:Nat),l[i]?=some c∧(l.take i).sum≤j∧j<(l.take i).sum+c
 | [],j,h=>by simp at h
 | c::r,j,h=>by
  by_cases hj:j<c
  ·
   exact ⟨0,c,rfl,by simp,by simpa using hj⟩
  ·
   simp only[List.sum_cons] at h
   obtain ⟨i,d,h1,h2,h3⟩:=c6a r (j-c) (by omega)
   exact ⟨i+1,d,by simpa using h1,by simp only[List.take_succ_cons,List.sum_cons];omega,by simp only[List.take_succ_cons,List.sum_cons];omega⟩
end Go.Ev
namespace Go.Ev.R2
open Go Go.Ev Go.Proofs
theorem g4i:∀{xs:List D},(∀(j:Nat) a,xs[j]?=some a→Bd a)→BdL xs:=fun {xs} h=>b6r fun a ha=>by
 obtain ⟨j,hj⟩:=List.getElem?_of_mem ha
 exact h j a hj
theorem g3c {P:Program} {T:TypeId→Prop} (hT:b8s P T):∀(n:Nat) (t:TypeId) (ds:List D),T t→S1 P n t ds→BdL ds:=by
 intro n
 induction n with
 | zero=>intro t ds _ h;exact h.elim
 | succ n ih =>
  intro t ds ht h
  rcases hT.kinds t ht with ⟨fs,hu⟩|⟨hc1,hu|⟨k,hu⟩|hu|⟨e,hu⟩⟩
  ·
   unfold S1 at h
   rw[hu] at h
   obtain ⟨hl,hf⟩:=h
   obtain ⟨g1,g2,g3⟩:=hT.struct t fs ht hu
   refine g4i fun j a ha=>?_
   have hj:j<(fs.toList.map fun f=>P.cellsOf f.type).sum:=by
    rw[←g2, ←hl];exact (List.getElem?_eq_some_iff.1 ha).1
   obtain ⟨i,c,i1,i2,i3⟩:=c6a _ j hj
   rw[List.getElem?_map] at i1
   cases hfi:fs.toList[i]? with
   | none=>rw[hfi] at i1;cases i1
   | some f =>
    rw[hfi] at i1
    simp only[Option.map_some,Option.some.injEq] at i1
    have ho:=g3 i f hfi
    rw[←List.map_take] at i2 i3
    rw[←ho] at i2 i3
    have hfit:=hf i f (by simpa using hfi)
    refine b8t (ih f.type _ (g1 f (List.mem_of_getElem? hfi)) hfit) ?_
    refine List.mem_of_getElem? (i:=j-f.offset) ?_
    rw[List.getElem?_take_of_lt (by omega),List.getElem?_drop,show f.offset+(j-f.offset)=j by omega]
    exact ha
  ·
   unfold S1 at h;rw[hu] at h;obtain ⟨b,rfl⟩:=h;simp[BdL,Bd]
  ·
   unfold S1 at h;rw[hu] at h;obtain ⟨b,rfl,_⟩:=h;simp[BdL,Bd]
  ·
   unfold S1 at h;rw[hu] at h;obtain ⟨s,rfl,hs⟩:=h
   unfold reachBytes at hs
   simp only[BdL,Bd,and_true]
   omega
  ·
   unfold S1 at h;rw[hu] at h;obtain ⟨nil,xs,rfl,_,hx⟩:=h
   simp only[BdL,Bd,and_true]
   refine b6r fun a ha=>?_
   obtain ⟨cs,rfl,hc⟩:=hx a ha
   have hb:=ih e cs (hT.slice t e ht hu).1 hc
   unfold n6
   split
   ·
    simpa [Bd] using hb
   ·
    cases cs with
    | nil=>simp[Bd]
    | cons x r=>unfold BdL at hb;exact hb.1
end Go.Ev.R2
end
section
namespace Go.Ev.R2
open Go Go.Ev Go.Proofs Go.ChangeShapes Go.WideShapes Go.ChangeAt Go.RowKit Go.Proofs.YtnnhlphbfpnaaaaGreatDoor
set_option maxRecDepth 100000
section
variable {H : Type} {enc : TypeId × Value → H} {W : World} {B9 : Nat} {v : Value} {d : DataW H} {p : List MemPlace}
theorem e9t (hv:Value.okWide Tryz.prog W .any B9 33 v) (h:DataW.Trod enc Tryz.prog W 0 (fun _=>true) true 33 v d p) (hw:∀m∈d.weights Tryz.prog 33,m≤reachBytes) :
  ∃x,P2 W (a7g W) x v∧C8 x∧Bd x:=by
 obtain ⟨fuel,h⟩:=h
 obtain ⟨h1,h2,ds,h3,h4,h5⟩:=e5v b5x fuel 33 _ _ (by decide) h hw
 have hagg:∃cs,v= .agg cs:=by
  unfold Value.okWide at hv
  rw[Tryz.underlying33] at hv
  obtain ⟨cs,hc,_⟩:=hv
  exact ⟨cs,hc⟩
 obtain ⟨cs,rfl⟩:=hagg
 exact ⟨.agg ds, .agg h3 h2,f7h fuel fuel (Nat.le_refl _) h4,by unfold Bd;exact g3c b5x fuel 33 ds (by decide) h4⟩
end
end Go.Ev.R2
end
section
namespace Go.Ev.R2
open Go Go.Ev Go.Proofs
set_option maxRecDepth 100000
abbrev bD8 (c:Int):D:=.lit (.int .u8 c)
def qB (c:Int):List D:=bif (bif c==92 then true else c==34) then [bD8 92,bD8 c] else bif c==10 then [bD8 92,bD8 110] else [bD8 c]
def qL (s:ByteArray):Nat→Nat→List D
 | 0,_=>[]
 | n+1,i=>qB (B3 s i)++qL s n (i+1)
def b5v (s:ByteArray):List D:=[bD8 34]++qL s s.size 0++ [bD8 34]
noncomputable def L7 (s:ByteArray):ByteArray:=c4f (b5v s)
theorem d5v {s:ByteArray}:∀{n i:Nat},(qL s n i).length≤2*n
 | 0,_=>by simp[qL]
 | n+1,i=>by
  have:=d5v (s:=s) (n:=n) (i:=i+1)
  have hq:(qB (B3 s i)).length≤2:=by
   unfold qB
   cases (bif B3 s i==92 then true else B3 s i==34)<;>cases (B3 s i==10)<;>simp
  simp only[qL,List.length_append];omega
theorem e6r {s:ByteArray}:∀{n i:Nat},e5n (qL s n i)
 | 0,_=>fun d h=>by simp[qL] at h
 | n+1,i=>fun d h=>by
  simp only[qL,List.mem_append] at h
  have hb:=a9r s i
  rcases h with h|h
  ·
   unfold qB at h
   have h8:∀c:Int,0≤c∧c<256→a6z (bD8 c)=true:=fun c hc=>by
    simp[a6z];omega
   cases g1:(bif B3 s i==92 then true else B3 s i==34) with
   | true =>
    rw[g1] at h
    simp only[cond_true,List.mem_cons,List.not_mem_nil,or_false] at h
    rcases h with rfl|rfl
    ·
     exact h8 _ (by decide)
    ·
     exact h8 _ hb
   | false =>
    rw[g1] at h
    simp only[cond_false] at h
    cases g2:B3 s i==10 with
    | true =>
     rw[g2] at h
     simp only[cond_true,List.mem_cons,List.not_mem_nil,or_false] at h
     rcases h with rfl|rfl<;>exact h8 _ (by decide)
    | false =>
     rw[g2] at h
     simp only[cond_false,List.mem_cons,List.not_mem_nil,or_false] at h
     subst h
     exact h8 _ hb
  ·
   exact e6r d h
theorem e2z (s:ByteArray):e5n (b5v s):=fun d h=>by
 unfold b5v at h
 simp only[List.mem_append,List.mem_cons,List.not_mem_nil,or_false] at h
 rcases h with (rfl|h)|rfl
 ·
  rfl
 ·
  exact e6r d h
 ·
  rfl
theorem a3h (a b:ByteArray):(a++b).size=a.size+b.size:=by simp
abbrev uB (n:A6):Box:=.cells 73 [.opt [0,0] 0, .ref n]
abbrev wB (n:A6) (t:D) (fi:Bool):Box:=.cells 75 [.opt [0,0] 0, .ref n, .d t,A7 fi]
abbrev buf (nl:Bool) (xs:List D):Box:=.arr true nl 5 1 xs []
def UB:J5:=(e7g.add 195 b9s.sm).add 61 s61.sm
abbrev adW:List Ad:=[.opt [0,0] 0 [0,0] 0]
abbrev d9v:List (List (A6×A6)):=[[([0,0],[0,0]),([0,1],[0,1]),([2],[16])]]
abbrev S2 (nl:Bool) (xs:List D):Box:=.arr false nl 5 1 xs []
def M2 (n:Nat):Prop:=n≤70368744177664
def b7t:Sm:=⟨fun _ bs=>match bs with | [_, .arr _ _ _ _ xs _]=>M2 (xs.length+1)|_=>False,fun vals bs=>match vals,bs with
 | [.ptr [0,0] 0, .d (.lit (.int .u8 c))], [.cells 73 [.opt [0,0] 0, .ref [0,1]], .arr true nl 5 1 xs []]=>one (.d (.lit .nilIface)) [uB [2],S2 nl xs] [buf false (xs++ [bD8 c])]
 | [.ptr [0,0] 0, .d (.lit (.int .u8 c))], [.cells 75 [.opt [0,0] 0, .ref [0,1], .d t, .d (.lit (.bool fi))], .arr true nl 5 1 xs []]=>one (.d (.lit .nilIface)) [wB [2] t fi,S2 nl xs] [buf false (xs++ [bD8 c])]
 | _,_=>none⟩
def e6m:Sm:=⟨fun vals bs=>match vals,bs with | [_, .d (.lit (.string s))], [_, .arr _ _ _ _ xs _]=>M2 (xs.length+s.size)|_,_=>False,fun vals bs=>match vals,bs with
 | [.ptr [0,0] 0, .d (.lit (.string s))], [.cells 73 [.opt [0,0] 0, .ref [0,1]], .arr true nl 5 1 xs []]=>one (.d (.tup [.lit (.int .i64 s.size), .lit .nilIface])) [uB [2],S2 nl xs] [buf (nl&&(D5 s).isEmpty) (xs++D5 s)]
 | [.ptr [0,0] 0, .d (.lit (.string s))], [.cells 75 [.opt [0,0] 0, .ref [0,1], .d t, .d (.lit (.bool fi))], .arr true nl 5 1 xs []]=>one (.d (.tup [.lit (.int .i64 s.size), .lit .nilIface])) [wB [2] t fi,S2 nl xs] [buf (nl&&(D5 s).isEmpty) (xs++D5 s)]
 | _,_=>none⟩
def f5k:J5:=UB.add 152 b7t
def f5j:J5:=f5k.add 153 e6m
theorem g5p (c:Int) (nl:Bool) (xs:List D) (R:V→List Box→Prop):(E4 (Cn T13) T13 (K4 UB) 2 B6 B1 adW d9v 152 [V.ptr [0,0] 0,V.d (D.lit (Value.int IntKind.u8 c))]
 (G3 [uB [0,1],buf nl xs]) R) =
 (b9s.sm.pre [V.ptr [0,0] 0] [Box.cells 73 [V.opt [0,0] 0,V.ref [0,1]],Box.arr true nl 5 1 xs []]∧
 (bif ((xs.length+1)*1).ble 70368744177664 then
 R (V.d (D.lit Value.nilIface))
 [Box.cells 73 [V.opt [0,0] 0,V.ref [2]],Box.arr false nl 5 1 xs [],
 Box.arr true (nl&&false) 5 1 (xs++ [D.lit (Value.int IntKind.u8 c)]) []] else
 False)):=by kernel_rfl
theorem g5o (c:Int) (nl:Bool) (xs:List D) (t:D) (fi:Bool) (R:V→List Box→Prop):(E4 (Cn T13) T13 (K4 UB) 2 B6 B1 adW d9v 152 [V.ptr [0,0] 0,V.d (D.lit (Value.int IntKind.u8 c))]
 (G3 [wB [0,1] t fi,buf nl xs]) R) =
 (b9s.sm.pre [V.ptr [0,0] 0]
 [Box.cells 75 [V.opt [0,0] 0,V.ref [0,1],V.d t,A7 fi],Box.arr true nl 5 1 xs []]∧
 (bif ((xs.length+1)*1).ble 70368744177664 then
 R (V.d (D.lit Value.nilIface))
 [Box.cells 75 [V.opt [0,0] 0,V.ref [2],V.d t,A7 fi],Box.arr false nl 5 1 xs [],
 Box.arr true (nl&&false) 5 1 (xs++ [D.lit (Value.int IntKind.u8 c)]) []] else
 False)):=by kernel_rfl
abbrev d9u:List (List (A6×A6)):=[[([0,0],[0,0]),([0,1],[0,1]),([2],[16])]]
theorem g5n (s : ByteArray) (nl : Bool) (xs : List D) (R : V → List Box → Prop) : (E4 (Cn T13) T13 (K4 f5k) 2 B6 B1 adW d9u 153 [V.ptr [0, 0] 0, C0 s]
  (G3 [uB [0, 1], buf nl xs]) R) =
  (b9s.sm.pre [V.ptr [0, 0] 0] [Box.cells 73 [V.opt [0, 0] 0, V.ref [0, 1]], Box.arr true nl 5 1 xs []] ∧
  (bif ((xs.length + ((D5 s).length + 0)) * 1).ble 70368744177664 then
   R (V.d (D.tup [iD (↑s.size : Int), D.lit Value.nilIface]))
  [Box.cells 73 [V.opt [0, 0] 0, V.ref [2]], Box.arr false nl 5 1 xs [],
    Box.arr true (nl && ((D5 s).isEmpty && true)) 5 1 (xs ++ D5 s) []] else
   False)) := by kernel_rfl
theorem g5m (s : ByteArray) (nl : Bool) (xs : List D) (t : D) (fi : Bool) (R : V → List Box → Prop) : (E4 (Cn T13) T13 (K4 f5k) 2 B6 B1 adW d9u 153 [V.ptr [0, 0] 0, C0 s]
  (G3 [wB [0, 1] t fi, buf nl xs]) R) =
  (b9s.sm.pre [V.ptr [0, 0] 0]
  [Box.cells 75 [V.opt [0, 0] 0, V.ref [0, 1], V.d t, A7 fi], Box.arr true nl 5 1 xs []] ∧
  (bif ((xs.length + ((D5 s).length + 0)) * 1).ble 70368744177664 then
   R (V.d (D.tup [iD (↑s.size : Int), D.lit Value.nilIface]))
  [Box.cells 75 [V.opt [0, 0] 0, V.ref [2], V.d t, A7 fi], Box.arr false nl 5 1 xs [],
    Box.arr true (nl && ((D5 s).isEmpty && true)) 5 1 (xs ++ D5 s) []] else
   False)) := by kernel_rfl
theorem e6e:H5 B UB:=by
 refine M8 (M8 c7f fun vals bs c x y hp hf=>?_) fun vals bs c x y hp hf=>?_
 ·
  have hf':(match b9s.f vals bs with|some (r,bs',news)=>one r bs' news|none=>none)=some (c,x,y):=hf
  cases h:b9s.f vals bs with
  | none=>rw[h] at hf';cases hf'
  | some q =>
   obtain ⟨r,b1,b2⟩:=q
   rw[h] at hf'
   simp only[one,Option.some.injEq,Prod.mk.injEq] at hf'
   obtain ⟨rfl,rfl,rfl⟩:=hf'
   exact f7b vals bs r b1 b2 rfl h
 ·
  have hf':(match s61.f vals bs with|some (r,bs',news)=>one r bs' news|none=>none)=some (c,x,y):=hf
  cases h:s61.f vals bs with
  | none=>rw[h] at hf';cases hf'
  | some q =>
   obtain ⟨r,b1,b2⟩:=q
   rw[h] at hf'
   simp only[one,Option.some.injEq,Prod.mk.injEq] at hf'
   obtain ⟨rfl,rfl,rfl⟩:=hf'
   exact f3m vals bs r b1 b2 rfl h
theorem c8q {a b:Nat} (h:a≤b):Nat.ble a b=true:=by rw[Nat.ble_eq];exact h
theorem f9e:H5 B f5k:=by
 refine M8 e6e fun vals bs c x y hp hf=>?_
 unfold b7t at hp hf
 simp only[] at hp hf
 split at hf
 ·
  rename_i c nl xs
  simp only[one,Option.some.injEq,Prod.mk.injEq] at hf
  obtain ⟨rfl,rfl,rfl⟩:=hf
  refine E9 B9 k13 e6e (fn:=Tryz.f152) (cd:=B2 Tryz.f152) (sp:=B6) (hn:=B1) (k:=2) (ads:=adW) (ends:=d9v) Tryz.func152 (by kernel_rfl) (by kernel_rfl) (by kernel_rfl) (by kernel_rfl) A8 rfl rfl (keep (g5p c nl xs _) ?_)
  refine ⟨rfl, ?_⟩
  rw[c8q (by have:xs.length+1≤70368744177664:=hp;omega)]
  exact ⟨rfl,by simp⟩
 ·
  rename_i c t fi nl xs
  simp only[one,Option.some.injEq,Prod.mk.injEq] at hf
  obtain ⟨rfl,rfl,rfl⟩:=hf
  refine E9 B9 k13 e6e (fn:=Tryz.f152) (cd:=B2 Tryz.f152) (sp:=B6) (hn:=B1) (k:=2) (ads:=adW) (ends:=d9v) Tryz.func152 (by kernel_rfl) (by kernel_rfl) (by kernel_rfl) (by kernel_rfl) A8 rfl rfl (keep (g5o c nl xs t fi _) ?_)
  refine ⟨rfl, ?_⟩
  rw[c8q (by have:xs.length+1≤70368744177664:=hp;omega)]
  exact ⟨rfl,by simp⟩
 ·
  cases hf
theorem f9d:H5 B f5j:=by
 refine M8 f9e fun vals bs c x y hp hf=>?_
 unfold e6m at hp hf
 simp only[] at hp hf
 split at hf
 ·
  rename_i s nl xs
  simp only[one,Option.some.injEq,Prod.mk.injEq] at hf
  obtain ⟨rfl,rfl,rfl⟩:=hf
  refine E9 B9 k13 f9e (fn:=Tryz.f153) (cd:=B2 Tryz.f153) (sp:=B6) (hn:=B1) (k:=2) (ads:=adW) (ends:=d9u) Tryz.func153 (by kernel_rfl) (by kernel_rfl) (by kernel_rfl) (by kernel_rfl) A8 rfl rfl (keep (g5n s nl xs _) ?_)
  refine ⟨rfl, ?_⟩
  rw[c8q (by have:xs.length+s.size≤70368744177664:=hp;rw[m8];omega)]
  exact ⟨rfl,by simp⟩
 ·
  rename_i s t fi nl xs
  simp only[one,Option.some.injEq,Prod.mk.injEq] at hf
  obtain ⟨rfl,rfl,rfl⟩:=hf
  refine E9 B9 k13 f9e (fn:=Tryz.f153) (cd:=B2 Tryz.f153) (sp:=B6) (hn:=B1) (k:=2) (ads:=adW) (ends:=d9u) Tryz.func153 (by kernel_rfl) (by kernel_rfl) (by kernel_rfl) (by kernel_rfl) A8 rfl rfl (keep (g5m s nl xs t fi _) ?_)
  refine ⟨rfl, ?_⟩
  rw[c8q (by have:xs.length+s.size≤70368744177664:=hp;rw[m8];omega)]
  exact ⟨rfl,by simp⟩
 ·
  cases hf
abbrev sep:D:=.lit (.int .u8 32)
def B7 (fi:Bool) (xs:List D) (s:ByteArray):List D:=bif fi then xs++D5 s else (xs++ [sep])++D5 s
def G6 (fi nl:Bool) (s:ByteArray):Bool:=bif fi then nl&&(D5 s).isEmpty else false
def s86:Sm:=⟨fun vals bs=>match vals,bs with | [_, .d (.lit (.string s))], [_, .arr _ _ _ _ xs _]=>M2 (xs.length+1+s.size)|_,_=>False,fun vals bs=>match vals,bs with
 | [.ptr [0,0] 0, .d (.lit (.string s))], [.cells 75 [.opt [0,0] 0, .ref [0,1], .d t, .d (.lit (.bool fi))], .arr true nl 5 1 xs []]=>one (.d (.tup [])) [wB [2] t false,S2 nl xs] [buf (G6 fi nl s) (B7 fi xs s)]
 | _,_=>none⟩
def U86:J5:=f5j.add 86 s86
abbrev d9t:List (List (A6×A6)):=[[([0,0],[0,0]),([0,1],[0,1]),([2],[19,2])]]
theorem g9j (s:ByteArray) (nl:Bool) (xs:List D) (t:D) (R:V→List Box→Prop):(E4 (Cn T13) T13 (K4 f5j) 2 B6 B1 adW d9t 86 [V.ptr [0,0] 0,C0 s]
 (G3 [wB [0,1] t false,buf nl xs]) R) =
 (b7t.pre [V.ptr [0,0] 0,V.d (D.lit (Value.int IntKind.u8 32))]
 [Box.cells 75 [V.opt [0,0] 0,V.ref [0,1],V.d t,A7 false],Box.arr true nl 5 1 xs []]∧
 (e6m.pre [V.ptr [0,0] 0,C0 s]
 [Box.cells 75 [V.opt [0,0] 0,V.ref [0,1],V.d t,A7 false],
  Box.arr true false 5 1 (xs++ [D.lit (Value.int IntKind.u8 32)]) []]∧
 R (V.d (D.tup []))
 [Box.cells 75 [V.opt [0,0] 0,V.ref [2],V.d t,A7 false],Box.arr false nl 5 1 xs [],
  Box.arr true false 5 1 (xs++ [D.lit (Value.int IntKind.u8 32)]++D5 s) []])):=by kernel_rfl
theorem g9i (s:ByteArray) (nl:Bool) (xs:List D) (t:D) (R:V→List Box→Prop):(E4 (Cn T13) T13 (K4 f5j) 2 B6 B1 adW d9t 86 [V.ptr [0,0] 0,C0 s]
 (G3 [wB [0,1] t true,buf nl xs]) R) =
 (e6m.pre [V.ptr [0,0] 0,C0 s]
 [Box.cells 75 [V.opt [0,0] 0,V.ref [0,1],V.d t,A7 true],Box.arr true nl 5 1 xs []]∧
 R (V.d (D.tup []))
 [Box.cells 75 [V.opt [0,0] 0,V.ref [2],V.d t,A7 false],Box.arr false nl 5 1 xs [],
  Box.arr true (nl&&(D5 s).isEmpty) 5 1 (xs++D5 s) []]):=by kernel_rfl
theorem q86:H5 B U86:=by
 refine M8 f9d fun vals bs c x y hp hf=>?_
 unfold s86 at hp hf
 simp only[] at hp hf
 split at hf
 ·
  rename_i s t fi nl xs
  simp only[one,Option.some.injEq,Prod.mk.injEq] at hf
  obtain ⟨rfl,rfl,rfl⟩:=hf
  have hr:xs.length+1+s.size≤70368744177664:=hp
  cases fi
  ·
   refine E9 B9 k13 f9d (fn:=Tryz.f86) (cd:=B2 Tryz.f86) (sp:=B6) (hn:=B1) (k:=2) (ads:=adW) (ends:=d9t) Tryz.func86 (by kernel_rfl) (by kernel_rfl) (by kernel_rfl) (by kernel_rfl) A8 rfl rfl (keep (g9j s nl xs t _) ?_)
   refine ⟨?_, ?_,rfl,rfl⟩
   ·
    show xs.length+1≤70368744177664
    omega
   ·
    show (xs++ [D.lit (Value.int IntKind.u8 32)]).length+s.size≤70368744177664
    simp only[List.length_append,List.length_cons,List.length_nil]
    omega
  ·
   refine E9 B9 k13 f9d (fn:=Tryz.f86) (cd:=B2 Tryz.f86) (sp:=B6) (hn:=B1) (k:=2) (ads:=adW) (ends:=d9t) Tryz.func86 (by kernel_rfl) (by kernel_rfl) (by kernel_rfl) (by kernel_rfl) A8 rfl rfl (keep (g9i s nl xs t _) ?_)
   refine ⟨?_,rfl,rfl⟩
   show xs.length+s.size≤70368744177664
   omega
 ·
  cases hf
def c2t (n:Int):Prop:= -9223372036854775808≤n∧n≤9223372036854775807
def X2 (n:Int):ByteArray:=⟨(b4r n).toArray⟩
noncomputable def g8d:Ct:=⟨fun | [.lit (.int .i64 n)]=>c2t n|_=>False,fun | [.lit (.int .i64 n)]=>some (.lit (.string (X2 n)))|_=>none⟩
noncomputable def a8t:Tab:=T14.add 155 g8d
def s94:Sm:=⟨fun vals bs=>match vals,bs with | [_, .d (.lit (.int .i64 n))], [_, .arr _ _ _ _ xs _]=>c2t n∧M2 (xs.length+1+(X2 n).size)|_,_=>False,fun vals bs=>match vals,bs with
 | [.ptr [0,0] 0, .d (.lit (.int .i64 n))], [.cells 75 [.opt [0,0] 0, .ref [0,1], .d t, .d (.lit (.bool fi))], .arr true nl 5 1 xs []]=>one (.d (.tup [])) [wB [2] t false,S2 nl xs] [buf (G6 fi nl (X2 n)) (B7 fi xs (X2 n))]
 | _,_=>none⟩
def U94:J5:=U86.add 94 s94
abbrev f7q:List (List (A6×A6)):=[[([0,0],[0,0]),([0,1],[0,1]),([2],[9,2])]]
theorem w94 (n:Int) (nl:Bool) (fi:Bool) (xs:List D) (t:D) (R:V→List Box→Prop):(E4 (Cn a8t) a8t (K4 U86) 2 B6 B1 adW f7q 94 [V.ptr [0,0] 0,A4 n]
 (G3 [wB [0,1] t fi,buf nl xs]) R) =
 ((((-9223372036854775808:Int)≤n)∧((n:Int)≤9223372036854775807))∧
 (s86.pre [V.ptr [0,0] 0,C0 (X2 n)]
 [Box.cells 75 [V.opt [0,0] 0,V.ref [0,1],V.d t,A7 fi],Box.arr true nl 5 1 xs []]∧
 R (V.d (D.tup []))
 [Box.cells 75 [V.opt [0,0] 0,V.ref [2],V.d t,A7 false],Box.arr false nl 5 1 xs [],
 Box.arr true (G6 fi nl (X2 n)) 5 1 (B7 fi xs (X2 n)) []])):=by kernel_rfl
theorem d2w:D0 B a8t:=by
 refine a6w k14 fun ds r hp hr=>?_
 unfold g8d at hp hr
 simp only[] at hr hp
 split at hr
 ·
  rename_i n
  obtain ⟨h0,h1⟩:c2t n:=hp
  refine (g7q ?_).of rfl rfl
  cases hr
  show (bif decide (-9223372036854775808≤n)&&decide (n≤9223372036854775807) then some (V5 (b4r n)) else none)=_
  rw[decide_eq_true h0,decide_eq_true h1]
  rfl
 ·
  cases hr
theorem q94:H5 B U94:=by
 refine M8 q86 fun vals bs c x y hp hf=>?_
 unfold s94 at hp hf
 simp only[] at hp hf
 split at hf
 ·
  rename_i n t fi nl xs
  simp only[one,Option.some.injEq,Prod.mk.injEq] at hf
  obtain ⟨rfl,rfl,rfl⟩:=hf
  obtain ⟨hn,hr⟩:=hp
  refine E9 B9 d2w q86 (fn:=Tryz.f94) (cd:=B2 Tryz.f94) (sp:=B6) (hn:=B1) (k:=2) (ads:=adW) (ends:=f7q) Tryz.func94 (by kernel_rfl) (by kernel_rfl) (by kernel_rfl) (by kernel_rfl) A8 rfl rfl (keep (w94 n nl fi xs t _) ?_)
  exact ⟨hn,hr,rfl,rfl⟩
 ·
  cases hf
end Go.Ev.R2
end
section
namespace Go.Ev
end Go.Ev
end
section
namespace Go.Ev.R2
open Go Go.Ev Go.Proofs
set_option maxRecDepth 100000
def f7y:ByteArray:=ByteArray.mk #[97,116,116,114,46]
def g8z (s:ByteArray):Bool:=bif (bif decide ((s.size:Int)<6) then true else !((s.extract 0 5).toList==f7y.toList)) then false else K7 (s.extract 5 s.size)
noncomputable def c145:Ct:=⟨fun | [.lit (.string s)]=>s.size≤1152921504606846976|_=>False,fun | [.lit (.string s)]=>some (.tup [.lit (.string (bif (bif decide ((s.size:Int)<6) then true else !((s.extract 0 5).toList==f7y.toList)) then (ByteArray.mk #[]) else s.extract 5 s.size)), .lit (.bool (g8z s))])|_=>none⟩
noncomputable def c76:Ct:=⟨fun | [x]=>a5f x∧Bd x|_=>False,fun | [x]=>some (.lit (.int .i64 (W2 x)))|_=>none⟩
noncomputable def g2i (y:D):Bool :=
 (bif decide (b5d (pV y) 0≤100) then bif decide (b5d (pV y) 0>16) then true else gpE (pV y) else false)
noncomputable def c21:Ct:=⟨fun | [x]=>J9 x|_=>False,fun | [x]=>some (.lit (.bool (g2i x)))|_=>none⟩
end Go.Ev.R2
end
section
namespace Go.Ev.R2
open Go Go.Ev Go.Proofs
set_option maxRecDepth 100000
end Go.Ev.R2
end
section
namespace Go.Ev.R2
open Go Go.Ev Go.Proofs
set_option maxRecDepth 100000
abbrev sB (l:List UInt8):D:=.lit (.string (ByteArray.mk (Array.mk l)))
def a2u (k:Int):List D:=bif k==2 then [sB [],sB [108,97,115,116],sB [99,111,117,110,116],sB [115,117,109],sB [109,105,110],sB [109,97,120],sB [97,118,103],sB [100,101,108,116,97],sB [105,110,99,114,101,97,115,101],sB [114,97,116,101],sB [113,117,97,110,116,105,108,101],sB [104,105,115,116,113,117,97,110,116,105,108,101]] else bif k==3 then [sB [],sB [108,105,110,101,115],sB [98,121,116,101,115],sB [117,110,119,114,97,112]] else bif k==6 then [sB [],sB [115,117,109],sB [99,111,117,110,116],sB [109,105,110],sB [109,97,120],sB [97,118,103],sB [113,117,97,110,116,105,108,101],sB [116,111,112],sB [100,105,115,116,105,110,99,116],sB [115,107,101,116,99,104]] else bif k==7 then [sB [],sB [43],sB [45],sB [42],sB [47],sB [61,61],sB [33,61],sB [60],sB [60,61],sB [62],sB [62,61]] else []
theorem d3k (y:D):a4q y=c7u (A1 (A0 y 0)) (A1 (A0 y 1)) (eV y):=rfl
theorem a4p (k:Int):decide (((a2u k).length:Int)>0)=hF k∧(hF k=true→((a2u k).length:Int)=nF k+1):=by
 unfold a2u hF nF
 by_cases h2:k=2
 ·
  subst h2;exact ⟨rfl,fun _=>rfl⟩
 by_cases h3:k=3
 ·
  subst h3;exact ⟨rfl,fun _=>rfl⟩
 by_cases h6:k=6
 ·
  subst h6;exact ⟨rfl,fun _=>rfl⟩
 by_cases h7:k=7
 ·
  subst h7;exact ⟨rfl,fun _=>rfl⟩
 have e2:(k==2)=false:=by simpa using h2
 have e3:(k==3)=false:=by simpa using h3
 have e6:(k==6)=false:=by simpa using h6
 have e7:(k==7)=false:=by simpa using h7
 rw[e2,e3,e6,e7]
 exact ⟨rfl,fun h=>by cases h⟩
theorem f7f (k f:Int):gT k f=hT k f:=by
 unfold gT c4u hT
 by_cases h2:k=2
 ·
  subst h2;rfl
 by_cases h3:k=3
 ·
  subst h3
  show (f==3)=ob (ob (ob (f==3) false) false) false
  cases (f==3)<;>rfl
 by_cases h6:k=6
 ·
  subst h6
  show (f==8)=ob (ob (ob false false) (f==8)) false
  cases (f==8)<;>rfl
 have e2:(k==2)=false:=by simpa using h2
 have e3:(k==3)=false:=by simpa using h3
 have e6:(k==6)=false:=by simpa using h6
 rw[e2,e3,e6]
 cases (k==5)<;>cases (k==13)<;>rfl
theorem e8j {k f:Int} (h:ab (hF k) (ob (decide (f<1)) (decide (f>nF k)))=false):gN k f=hN k f:=by
 unfold gN e3h hN
 by_cases h2:k=2
 ·
  subst h2
  have h:ob (decide (f<1)) (decide (f>11))=false:=h
  have:=(g6d h).2
  simp only[decide_eq_false_iff_not] at this
  show (ob (f==10) (f==11))=ob (ob false (decide (f≥10))) false
  by_cases h10:f≥10
  ·
   have:f=10∨f=11:=by omega
   rcases this with rfl|rfl<;>rfl
  ·
   have d:decide (f≥10)=false:=by simpa using h10
   have e1:(f==10)=false:=by simp;omega
   have e2:(f==11)=false:=by simp;omega
   rw[d,e1,e2];rfl
 by_cases h3:k=3
 ·
  subst h3;rfl
 by_cases h6:k=6
 ·
  subst h6;rfl
 have e2:(k==2)=false:=by simpa using h2
 have e3:(k==3)=false:=by simpa using h3
 have e6:(k==6)=false:=by simpa using h6
 rw[e2,e3,e6]
 cases (k==1)<;>rfl
noncomputable def c46:Ct:=⟨fun | [x]=>C8 x∧Bd x|_=>False,fun | [x]=>some (.lit (.int .i64 (K6 x)))|_=>none⟩
def b7y:Nat→Nat→List UInt8
 | 0,_=>[]
 | k+1,n=>bif decide (n<10) then [UInt8.ofNat (48+n)] else b7y k (n / 10)++ [UInt8.ofNat (48+n % 10)]
def a2c (n:Int):ByteArray:=⟨(b7y 20 n.toNat).toArray⟩
def u5:Bool→ByteArray→List D→ByteArray
 | _,a, []=>a
 | f,a,x::r=>u5 false (bif f then a++A2 x else a++ByteArray.mk (Array.mk [32])++A2 x) r
def G7 (l:List D):ByteArray:=u5 true (ByteArray.mk (Array.mk [40])) l++ByteArray.mk (Array.mk [41])
noncomputable def b4q (l:List D):ByteArray:=u5 true (ByteArray.mk (Array.mk [40])) l
theorem g3d (a b:List UInt8):ByteArray.mk (a++b).toArray=ByteArray.mk a.toArray++ByteArray.mk b.toArray:=ByteArray.ext (by simp[ByteArray.data_append])
theorem d4o:∀(k n:Nat),(b7y k n).length≤k
 | 0,n=>by simp[b7y]
 | k+1,n=>by
  have:=d4o k (n / 10)
  unfold b7y
  cases decide (n<10)<;>simp<;>omega
theorem a8p (n:Int):(a2c n).size≤20:=by
 have:=d4o 20 n.toNat
 exact this
abbrev lst (b:Bool) (e:Nat) (ys:List D):V:=.d (.slice b e ys)
def C7:Bool→Bool→List D→List D→Bool×List D
 | _,nl,xs, []=>(nl,xs)
 | fi,nl,xs,y::ys=>C7 false (G6 fi nl (A2 y)) (B7 fi xs (A2 y)) ys
def H8:List D→Nat
 | []=>0
 | y::ys=>(A2 y).size+1+H8 ys
def h5z (y:D):Prop:=.lit (.string (A2 y))=y
def b3h (ys:List D):Prop:=∀z∈ys,h5z z
abbrev a4c (fi nl:Bool) (xs its:List D):Box:=buf (C7 fi nl xs its).1 (C7 fi nl xs its).2
def fiA (fi:Bool) (its:List D):Bool:=fi&&its.isEmpty
noncomputable def f9y:Code:=F5 (F9 (B2 Tryz.f163) 2)
abbrev wI:List (A6×A6):=[([0,0],[0,0]),([5000],[0,1])]
abbrev wJ (n:A6):List (A6×A6):=[([0,0],[0,0]),([5000],n),([0,1],[0,1])]
abbrev wX:List (A6×A6):=wJ [5000]
abbrev e5s:List (A6×A6):=wJ [16,2]
theorem g8x (t:D) (fi:Bool) (nl:Bool) (b:Bool) (xs:List D) (ys:List D) (n:Int) (i:Int) (R:X→List V→List Box→Prop):(G0 (Cn a8t) a8t (K4 U94) 2 B6 B1 f9y 16 [0,6,7,8] [[0,0], [5000], [0,1]] [] e5s [] wX
 [V.ptr [0,0] 0,lst b 1 ys,A4 n,A4 i] [wB [5000] t fi,buf nl xs,Box.junk] R) =
 (bif decide (i<n) then
 ((((0:Int)≤i)∧(i.toNat<ys.length∧zD (A2 (ys.getD i.toNat D.any))=ys.getD i.toNat D.any))∧
 (s86.pre [V.ptr [0,0] 0,C0 (A2 (ys.getD i.toNat D.any))]
 [Box.cells 75 [V.opt [0,0] 0,V.ref [0,1],V.d t,A7 fi],Box.arr true nl 5 1 xs []]∧
 (16=16∧
 R X.normal
 [V.ptr [0,0] 0,V.d (D.slice b 1 ys),A4 n,
 A4 (IntKind.i64.wrap (i+1))]
 [Box.cells 75 [V.opt [0,0] 0,V.ref [5000],V.d t,A7 false],
 Box.arr true (G6 fi nl (A2 (ys.getD i.toNat D.any))) 5 1 (B7 fi xs (A2 (ys.getD i.toNat D.any))) [],
 Box.junk]))) else
 (16=16∧
 R (X.exit 0) []
 [Box.cells 75 [V.opt [0,0] 0,V.ref [5000],V.d t,A7 fi],Box.arr true nl 5 1 xs [],Box.junk])):=by kernel_rfl
noncomputable def f6t:Ev.Spec:={L:=[0,6,7,8],ns:=wI,L':=[],nm':=U0 wI,G:=fun N vals bs k=>match vals,bs with
 | [.ptr [0,0] 0, .d (.slice b 1 ys), .d (.lit (.int .i64 n)), .d (.lit (.int .i64 i))], [.cells 75 [.opt [0,0] 0, .ref [5000], .d t, .d (.lit (.bool fi))], .arr true nl 5 1 xs [], .junk]=>(N=16∧i=0∧n=ys.length∧b3h ys∧M2 (xs.length+H8 ys))∧k (.exit 0) [] [wB [5000] t (fiA fi ys),a4c fi nl xs ys, .junk]
 | _,_=>False }
abbrev eW1:List (List (A6×A6)):=[[([0,0],[0,0]),([0,1],[0,1]),([2],[5000])]]
theorem h2s (t:D) (fi:Bool) (nl:Bool) (b:Bool) (xs:List D) (ys:List D) (R:V→List Box→Prop):(E4 (Cn a8t) a8t (K4 U94) 2 (spL [(2,f6t)]) B1 adW eW1 163 [V.ptr [0,0] 0,lst b 1 ys]
 (G3 [wB [0,1] t fi,buf nl xs]) R) =
 ((16=16∧(((0:Int)=0)∧((((↑ys.length:Int):Int)=(↑ys.length:Int))∧(b3h ys∧M2 (xs.length+H8 ys)))))∧
 R (V.d (D.tup []))
 [Box.cells 75 [V.opt [0,0] 0,V.ref [2],V.d t,A7 (fiA fi ys)],Box.junk,
 Box.arr true (C7 fi nl xs ys).fst 5 1 (C7 fi nl xs ys).snd []]):=by kernel_rfl
def e2w:Sm:=⟨fun vals bs=>match vals,bs with | [_, .d (.slice _ _ ys)], [_, .arr _ _ _ _ xs _]=>b3h ys∧M2 (xs.length+H8 ys)|_,_=>False,fun vals bs=>match vals,bs with
 | [.ptr [0,0] 0, .d (.slice _ 1 ys)], [.cells 75 [.opt [0,0] 0, .ref [0,1], .d t, .d (.lit (.bool fi))], .arr true nl 5 1 xs []]=>one (.d (.tup [])) [wB [2] t (fiA fi ys), .junk] [buf (C7 fi nl xs ys).1 (C7 fi nl xs ys).2]
 | _,_=>none⟩
def g3t:J5:=U94.add 163 e2w
theorem P8 (fi:Bool) (xs:List D) (s:ByteArray):(B7 fi xs s).length≤xs.length+1+s.size:=by
 have h:=m8 s
 cases fi<;>simp[B7,h]<;>omega
theorem c8h {α:Type} {ys rest:List α} {y d:α} {i:Nat} (h:ys.drop i=y::rest):i<ys.length∧ys.getD i d=y∧ys.drop (i+1)=rest:=by
 have h1:i<ys.length:=by
  have:=congrArg List.length h
  simp at this;omega
 have h2:=List.drop_eq_getElem_cons h1
 rw[h2] at h
 injection h with h3 h4
 exact ⟨h1,by rw[←h3];simp[List.getD,List.getElem?_eq_getElem h1],h4⟩
theorem f2f (ys:List D):ys.length≤H8 ys:=by
 induction ys with
 | nil=>simp[H8]
 | cons y ys ih=>simp only[H8,List.length_cons];omega
theorem b3i (l m:List D):H8 (l++m)=H8 l+H8 m:=by
 induction l with
 | nil=>simp[H8]
 | cons y l ih=>simp only[List.cons_append,H8,ih];omega
theorem a3r:∀(l m:List D) (fi nl:Bool) (xs:List D),C7 fi nl xs (l++m)=C7 (fiA fi l) (C7 fi nl xs l).1 (C7 fi nl xs l).2 m
 | [],m,fi,nl,xs=>by simp[C7,fiA]
 | y::l,m,fi,nl,xs=>by
  simp only[List.cons_append,C7]
  rw[a3r l m]
  simp[fiA]
theorem k9:∀(l:List D) (fi nl:Bool) (xs:List D),(C7 fi nl xs l).2.length≤xs.length+H8 l
 | [],_,_,_=>by simp[C7,H8]
 | y::l,fi,nl,xs=>by
  have:=k9 l false (G6 fi nl (A2 y)) (B7 fi xs (A2 y))
  have:=P8 fi xs (A2 y)
  simp only[C7,H8];omega
theorem d8e {C:Cx} {k:Nat} {l:Code} {N e:Nat} {L L':List Nat} {nm nm':List A6} {vals:Int→List V} {valsX:List V} {bsO:Bool→Box→List Box} {K:X→List V→List Box→Prop} (ys:List D) (g:D→D) (c:Nat)
  (hs:∀(i:Nat) fi nl xs,i<ys.length→M2 (xs.length+1+(A2 (g (ys.getD i .any))).size+c)→N2 C k l N L nm L' nm' (vals ((i+1:Nat):Int)) (bsO false (buf (G6 fi nl (A2 (g (ys.getD i .any)))) (B7 fi xs (A2 (g (ys.getD i .any)))))) K→N2 C k l N L nm L' nm' (vals i) (bsO fi (buf nl xs)) K)
  (he:∀fi nl xs,K (.exit e) valsX (bsO fi (buf nl xs))→N2 C k l N L nm L' nm' (vals ys.length) (bsO fi (buf nl xs)) K) :
  ∀(rest:List D) (i:Nat) fi nl xs,ys.drop i=rest→i+rest.length=ys.length→M2 (xs.length+H8 (rest.map g)+c)→K (.exit e) valsX (bsO (fiA fi rest) (a4c fi nl xs (rest.map g)))→N2 C k l N L nm L' nm' (vals i) (bsO fi (buf nl xs)) K:=by
 intro rest
 induction rest with
 | nil =>
  intro i fi nl xs hd hi hr hk
  simp only[List.length_nil,Nat.add_zero] at hi
  subst hi
  refine he fi nl xs ?_
  simpa [fiA,a4c,C7] using hk
 | cons y rest ih =>
  intro i fi nl xs hd hi hr hk
  obtain ⟨g1,g2,g3⟩:=c8h (d:=D.any) hd
  simp only[List.map_cons,H8] at hr
  have hp:=P8 fi xs (A2 (g y))
  have hr:xs.length+((A2 (g y)).size+1+H8 (rest.map g))+c≤70368744177664:=hr
  simp only[List.length_cons] at hi
  refine hs i fi nl xs g1 (by rw[g2];show _≤_;omega) ?_
  rw[g2]
  refine ih (i+1) false _ _ g3 (by omega) (by show _≤_;omega) ?_
  simpa [fiA,a4c,C7] using hk
theorem g6p:OkS (Cn a8t) 2 (.loop f9y) f6t:=by
 refine F3 fun N vals bs K h=>?_
 simp only[f6t] at h
 split at h
 case h_2=>exact h.elim
 rename_i b ys n i t fi nl xs
 obtain ⟨⟨rfl,rfl,rfl,hall,hr⟩,h⟩:=h
 have hr:xs.length+H8 ys≤70368744177664:=hr
 have hw:=f2f ys
 refine d8e (vals:=fun i=>[.ptr [0,0] 0,lst b 1 ys,A4 ys.length,A4 i]) (bsO:=fun fi r=>[wB [5000] t fi,r, .junk]) (e:=0) (valsX:=[]) ys id 0 ?_ ?_ ys 0 fi nl xs rfl (by simp) (by simpa using (show M2 (xs.length+H8 ys) from hr)) (by simpa using h)
 ·
  intro i fi nl xs hi hr hK
  refine C1 (M7 B9 d2w q94) C4 A8 (hn:=B1) (adsI:=[]) (nsI:=e5s) (nsX:=wX) rfl rfl (keep (g8x t fi nl b xs ys ys.length i _) ?_)
  have e1:decide ((i:Int)<ys.length)=true:=by simp;omega
  have e2:IntKind.i64.wrap ((i:Int)+1)=((i+1:Nat):Int):=by rw[Go.IntWalk.i64_in _ (by omega)];omega
  simp only[e1,Int.toNat_natCast,e2,cond_true]
  exact ⟨⟨by omega,hi,hall _ (F4 hi)⟩,hr,(by trivial),hK⟩
 ·
  intro fi nl xs hK
  refine C1 (M7 B9 d2w q94) C4 A8 (hn:=B1) (adsI:=[]) (nsI:=e5s) (nsX:=wX) rfl rfl (keep (g8x t fi nl b xs ys ys.length ys.length _) ?_)
  have e1:decide ((ys.length:Int)<ys.length)=false:=by simp
  rw[e1]
  exact ⟨(by trivial),hK⟩
theorem g6b:H5 B g3t:=by
 refine M8 q94 fun vals bs c x y hp hf=>?_
 unfold e2w at hp hf
 simp only[] at hp hf
 split at hf
 case h_2=>cases hf
 rename_i b ys t fi nl xs
 simp only[one,Option.some.injEq,Prod.mk.injEq] at hf
 obtain ⟨rfl,rfl,rfl⟩:=hf
 refine E9 B9 d2w q94 (fn:=Tryz.f163) (cd:=B2 Tryz.f163) (sp:=spL [(2,f6t)]) (hn:=B1) (k:=2) (ads:=adW) (ends:=eW1) Tryz.func163 (by kernel_rfl) (by kernel_rfl) (by kernel_rfl) (by kernel_rfl) (C9 (c:=.loop f9y) (by kernel_rfl) g6p E5) rfl rfl (keep (h2s t fi nl b xs ys _) ?_)
 exact ⟨⟨rfl,rfl,rfl,hp⟩,rfl,rfl⟩
noncomputable def c4j (n d:Int):ByteArray:=bif k8 n d !=0 then ByteArray.mk (Array.mk []) else bif decide (n<0) then (bif decide (d>1) then ByteArray.mk (Array.mk [45])++a2c (n.natAbs:Nat)++ByteArray.mk (Array.mk [47])++a2c d else ByteArray.mk (Array.mk [45])++a2c (n.natAbs:Nat)) else (bif decide (d>1) then a2c (n.natAbs:Nat)++ByteArray.mk (Array.mk [47])++a2c d else a2c (n.natAbs:Nat))
noncomputable def opR:List D:=([[], [61], [33,61], [61,126], [33,126], [60], [62]]:List (List UInt8)).map sB
noncomputable def L9:List D:=([[], [99,111,110,116,97,105,110,115], [110,111,116,99,111,110,116,97,105,110,115], [114,101,103,101,120], [112,97,114,115,101], [102,105,101,108,100], [107,101,101,112], [100,114,111,112], [108,97,98,101,108]]:List (List UInt8)).map sB
noncomputable def a6e:List D:=([[], [115,112,97,110], [99,104,105,108,100], [100,101,115,99,101,110,100,97,110,116], [115,105,98,108,105,110,103], [102,111,108,108,111,119,115], [108,105,110,107,101,100], [97,110,100], [111,114], [110,111,116]]:List (List UInt8)).map sB
noncomputable def a3w:List D:=([[111,110,101], [109,97,110,121,116,111,111,110,101], [111,110,101,116,111,109,97,110,121]]:List (List UInt8)).map sB
noncomputable def a3y:List D:=([[], [110,117,109,98,101,114], [119,105,110,100,111,119], [108,111,103,99,111,117,110,116], [116,114,97,99,101,99,111,117,110,116], [102,108,97,109,101,119,101,105,103,104,116], [97,103,103,114,101,103,97,116,101], [98,105,110,97,114,121], [108,111,103,115], [116,114,97,99,101,115], [102,108,97,109,101], [101,120,101,109,112,108,97,114,116,114,97,99,101,115], [108,111,103,115,111,102], [118,105,101,119]]:List (List UInt8)).map sB
def MTx (y:D):Prop:=a4h y∧1≤A1 (A0 y 0)∧(A1 (A0 y 0)).toNat<opR.length∧(A2 (A0 y 1)).size≤4096∧(A2 (A0 y 2)).size≤4096
def c4o (xs:List D):Prop:=xs.length≤128∧∀y∈xs,MTx y
def wdD (l:List D) (k:Int):D:=.lit (.string (A2 (l.getD k.toNat .any)))
def sDD (y:D) (i:Nat):D:=.lit (.string (A2 (A0 y i)))
noncomputable def qDD (y:D) (i:Nat):D:=.lit (.string (L7 (A2 (A0 y i))))
noncomputable def S0 (y:D):D:=.lit (.string (G7 [wdD opR (A1 (A0 y 0)),sDD y 1,qDD y 2]))
def e5m (xs:List D):Prop:=xs.length≤128∧∀y∈xs,a7j y∧(A2 y).size≤4096
def STx (y:D):Prop:=a4g y∧1≤A1 (A0 y 0)∧(A1 (A0 y 0)).toNat<L9.length∧(A2 (A0 y 1)).size≤4096∧c4o (A3 (A0 y 2))∧e5m (A3 (A0 y 3))
def d5g (xs:List D):Prop:=xs.length≤128∧∀y∈xs,STx y
noncomputable def o6 (y:D):List D:=(bif decide (A1 (A0 y 0)≤3) then [wdD L9 (A1 (A0 y 0)),qDD y 1] else [wdD L9 (A1 (A0 y 0))])++(A3 (A0 y 2)).map S0++A3 (A0 y 3)
noncomputable def b5t (y:D):D:=.lit (.string (G7 (o6 y)))
def Lim (M:Nat) (l:List D):Prop:=∀y∈l,a7j y∧(A2 y).size≤M
theorem Lim.nil {M:Nat}:Lim M []:=fun y hy=>by simp at hy
theorem Lim.cons {M:Nat} {l:List D} {s:ByteArray} (hs:s.size≤M) (h:Lim M l):Lim M (.lit (.string s)::l):=fun y hy=>by
 rcases List.mem_cons.1 hy with rfl|hy
 ·
  exact ⟨rfl,hs⟩
 ·
  exact h y hy
theorem Lim.app {M:Nat} {l m:List D} (h:Lim M l) (h':Lim M m):Lim M (l++m):=fun y hy=>by
 rcases List.mem_append.1 hy with hy|hy
 ·
  exact h y hy
 ·
  exact h' y hy
theorem Lim.map {M:Nat} {f:D→ByteArray} {l:List D} (h:∀y∈l,(f y).size≤M):Lim M (l.map fun y=>.lit (.string (f y))):=fun y hy=>by
 obtain ⟨a,ha,rfl⟩:=List.mem_map.1 hy
 exact ⟨rfl,h a ha⟩
theorem Lim.mono {M M':Nat} {l:List D} (h:Lim M l) (hm:M≤M'):Lim M' l:=fun y hy=>⟨(h y hy).1,Nat.le_trans (h y hy).2 hm⟩
theorem d2z {M:Nat}:∀{l:List D} {f:Bool} {a:ByteArray},Lim M l→(u5 f a l).size≤a.size+l.length*(M+1)
 | [],f,a,_=>by simp[u5]
 | x::r,f,a,h=>by
  unfold u5
  refine Nat.le_trans (d2z fun y hy=>h y (List.mem_cons_of_mem _ hy)) ?_
  have hx:=(h x (by simp)).2
  have h1:(ByteArray.mk (Array.mk [32])).size=1:=rfl
  rw[List.length_cons,Nat.add_mul]
  cases f<;>simp only[cond_true,cond_false,a3h]<;>omega
theorem a9b {l:List D} {M n b:Nat} (h:Lim M l) (hc:l.length≤n) (hb:n*(M+1)+2≤b):(b4q l).size<b∧(G7 l).size≤b:=by
 have h1:=d2z (f:=true) (a:=ByteArray.mk (Array.mk [40])) h
 have h2:l.length*(M+1)≤n*(M+1):=Nat.mul_le_mul_right _ hc
 have h3:(ByteArray.mk (Array.mk [40])).size=1:=rfl
 have h4:(ByteArray.mk (Array.mk [41])).size=1:=rfl
 unfold b4q G7
 rw[a3h]
 omega
theorem b4a (s:ByteArray):(L7 s).size≤2*s.size+2:=by
 show ((b5v s).map _).length≤_
 have:=d5v (s:=s) (n:=s.size) (i:=0)
 unfold b5v
 simp only[List.length_map,List.length_append,List.length_cons,List.length_nil]
 omega
theorem a5n {l:List (List UInt8)} (h:l.all (fun b=>b.length.ble 16)=true):Lim 16 (l.map sB):=fun y hy=>by
 obtain ⟨a,ha,rfl⟩:=List.mem_map.1 hy
 exact ⟨rfl,Nat.le_of_ble_eq_true (List.all_eq_true.1 h a ha)⟩
theorem b8g:Lim 16 opR:=a5n rfl
theorem b9k:Lim 16 L9:=a5n rfl
theorem c9z:Lim 16 a6e:=a5n rfl
theorem c2m:Lim 16 a3w:=a5n rfl
theorem e3t:Lim 16 a3y:=a5n rfl
theorem b8y {l:List D} {k:Int} (h:Lim 16 l) (hk:k.toNat<l.length):wdD l k=l.getD k.toNat .any∧(A2 (l.getD k.toNat .any)).size≤16 :=
 h _ (F4 hk)
theorem c5f {n d:Int} (h:(k8 n d !=0)=false):(1≤d∧d≤1152921504606846976)∧ -1152921504606846976≤n∧n≤1152921504606846976:=by
 have two:∀{a b:Prop} [Decidable a] [Decidable b],(bif decide a then true else decide b)=false→¬a∧¬b:=by
  intro a b _ _ h
  by_cases ha:a
  ·
   rw[decide_eq_true ha] at h;cases h
  ·
   rw[decide_eq_false ha] at h
   exact ⟨ha,of_decide_eq_false h⟩
 unfold k8 at h
 cases h1:(bif decide (d<1) then true else decide (d>1152921504606846976)) with
 | true=>rw[h1,cond_true] at h;exact absurd h (by decide)
 | false =>
  rw[h1] at h
  simp only[cond_false] at h
  cases h2:(bif decide (n< -1152921504606846976) then true else decide (n>1152921504606846976)) with
  | true=>rw[h2,cond_true] at h;exact absurd h (by decide)
  | false =>
   have a:=two h1
   have b:=two h2
   omega
theorem d9c {y:D} (h:MTx y):(G7 [wdD opR (A1 (A0 y 0)),sDD y 1,qDD y 2]).size≤32768:=by
 obtain ⟨_,h0,h1,h2,h3⟩:=h
 have hq:=b4a (A2 (A0 y 2))
 refine (a9b (M:=8194) (n:=3) (b:=32768) (.cons ?_ (.cons ?_ (.cons ?_ .nil))) (by simp) (by decide)).2
 ·
  exact Nat.le_trans (b8y b8g h1).2 (by decide)
 ·
  exact Nat.le_trans h2 (by decide)
 ·
  exact Nat.le_trans hq (by omega)
theorem e5x {y:D} (h:STx y) {hd:List D} (hh:Lim 32768 hd) (hl:hd.length≤2):Lim 32768 (hd++(A3 (A0 y 2)).map S0++A3 (A0 y 3))∧(hd++(A3 (A0 y 2)).map S0++A3 (A0 y 3)).length≤258:=by
 obtain ⟨_,_,_,_,⟨hm,hma⟩,hn,hna⟩:=h
 refine ⟨(hh.app (Lim.map fun a ha=>d9c (hma a ha))).app fun a ha=>⟨(hna a ha).1,Nat.le_trans (hna a ha).2 (by decide)⟩, ?_⟩
 simp only[List.length_append,List.length_map];omega
theorem e2t {y:D} (h:STx y):Lim 32768 (o6 y)∧(o6 y).length≤258:=by
 have hw:(A2 (L9.getD (A1 (A0 y 0)).toNat .any)).size≤32768:=Nat.le_trans (b8y b9k h.2.2.1).2 (by decide)
 have hq:(L7 (A2 (A0 y 1))).size≤32768:=Nat.le_trans (b4a _) (by have:=h.2.2.2.1;omega)
 refine e5x h ?_ ?_
 ·
  cases decide (A1 (A0 y 0)≤3)
  ·
   exact .cons hw .nil
  ·
   exact .cons hw (.cons hq .nil)
 ·
  cases decide (A1 (A0 y 0)≤3)<;>simp
def CTx (y:D):Prop:=a5f y∧1≤A1 (A0 y 1)∧(A1 (A0 y 1)).toNat<opR.length∧(A2 (A0 y 0)).size≤4096∧(A2 (A0 y 2)).size≤4096∧(J6 (A2 (A0 y 0))=true→0≤A1 (A0 y 3)∧A1 (A0 y 3)≤1152921504606846976)
noncomputable def a6r (y:D):D:=.lit (.string (G7 [wdD opR (A1 (A0 y 1)),sDD y 0,bif J6 (A2 (A0 y 0)) then .lit (.string (a2c (A1 (A0 y 3)))) else qDD y 2]))
def f2e (xs:List D):Prop:=xs.length≤128∧∀y∈xs,CTx y
def g4e:Nat→D→Prop
 | 0,_=>True
 | n+1,y=>(J9 y∧1≤A1 (A0 y 0)∧(A1 (A0 y 0)).toNat<a6e.length∧f2e (A3 (A0 y 1))∧P9 y≤100)∧∀a∈F0 y 2,g4e n a
structure PTx (y:D):Prop where
 h:∀n,g4e n y
noncomputable def f3e (rec:D→ByteArray) (y:D):ByteArray:=G7 ([wdD a6e (A1 (A0 y 0))]++(A3 (A0 y 1)).map a6r++(F0 y 2).map fun a=>.lit (.string (rec a)))
noncomputable def b4e (y:D):ByteArray:=b4u f3e (ByteArray.mk (Array.mk [])) (dsz y+1) y
noncomputable def pD (y:D):D:=.lit (.string (b4e y))
def g4j (κ:Nat) (xs:List D):Prop:=xs.length≤4096∧∀y∈xs,PTx y∧dsz y<κ
theorem PTx.l {y:D} (h:PTx y):J9 y∧1≤A1 (A0 y 0)∧(A1 (A0 y 0)).toNat<a6e.length∧f2e (A3 (A0 y 1))∧P9 y≤100:=(h.h 1).1
theorem PTx.a {y:D} (h:PTx y) {a:D} (ha:a∈F0 y 2):PTx a:=⟨fun n=>(h.h (n+1)).2 a ha⟩
theorem d6a (r r':D→ByteArray) (y:D) (h:∀a∈F0 y 2,r a=r' a):f3e r y=f3e r' y:=by
 unfold f3e
 rw[show (F0 y 2).map (fun a=>D.lit (.string (r a)))=(F0 y 2).map (fun a=>D.lit (.string (r' a))) from List.map_congr_left fun a ha=>by rw[h a ha]]
theorem b8f (y:D):b4e y=G7 ([wdD a6e (A1 (A0 y 0))]++(A3 (A0 y 1)).map a6r++(A3 (A0 y 2)).map pD):=Z3 d6a y
def tot (l:List D):Nat:=(l.map fun y=>(A2 y).size+1).sum
theorem c6s (l m:List D):tot (l++m)=tot l+tot m:=by simp[tot]
theorem d8j {M:Nat} {l:List D} (h:Lim M l):tot l≤l.length*(M+1):=by
 induction l with
 | nil=>simp[tot]
 | cons x r ih =>
  have h1:=(h x (by simp)).2
  have h2:=ih fun y hy=>h y (List.mem_cons_of_mem _ hy)
  simp only[tot,List.map_cons,List.sum_cons,List.length_cons,Nat.add_mul] at h2 ⊢
  omega
theorem c5u:∀{l:List D} {f:Bool} {a:ByteArray},(u5 f a l).size≤a.size+tot l
 | [],f,a=>by simp[u5,tot]
 | x::r,f,a=>by
  unfold u5
  refine Nat.le_trans c5u ?_
  have h1:(ByteArray.mk (Array.mk [32])).size=1:=rfl
  simp only[tot,List.map_cons,List.sum_cons]
  cases f<;>simp only[cond_true,cond_false,a3h]<;>omega
theorem d2s (l:List D):(b4q l).size≤tot l+1∧(G7 l).size≤tot l+2:=by
 have h1:=c5u (l:=l) (f:=true) (a:=ByteArray.mk (Array.mk [40]))
 have h3:(ByteArray.mk (Array.mk [40])).size=1:=rfl
 have h4:(ByteArray.mk (Array.mk [41])).size=1:=rfl
 unfold b4q G7
 rw[a3h]
 omega
theorem e9j {y:D} (h:CTx y):Lim 8194 [wdD opR (A1 (A0 y 1)),sDD y 0,bif J6 (A2 (A0 y 0)) then .lit (.string (a2c (A1 (A0 y 3)))) else qDD y 2]:=by
 obtain ⟨_,h0,h1,h2,h3,_⟩:=h
 have hq:=b4a (A2 (A0 y 2))
 refine .cons (Nat.le_trans (b8y b8g h1).2 (by decide)) (.cons (Nat.le_trans h2 (by decide)) ?_)
 cases J6 (A2 (A0 y 0))
 ·
  exact .cons (Nat.le_trans hq (by omega)) .nil
 ·
  exact .cons (Nat.le_trans (a8p _) (by decide)) .nil
theorem e9k {l:List D} (h:f2e l):Lim 32768 (l.map a6r):=Lim.map fun y hy=>(a9b (n:=3) (b:=32768) (e9j (h.2 y hy)) (by simp) (by decide)).2
theorem g6c:∀{n:Nat} {y:D},PTx y→dsz y<n→(b4e y).size+1≤P9 y*8388608:=by
 intro n
 induction n with
 | zero=>intro y _ h;omega
 | succ n ih =>
  intro y h hn
  have key:∀l:List D,(∀a∈l,a∈F0 y 2)→tot (l.map pD)≤(l.map P9).sum*8388608:=by
   intro l hl
   induction l with
   | nil=>simp[tot]
   | cons x r ih2 =>
    have hx:=hl x (by simp)
    have h1:=ih (h.a hx) (by have:=J0 hx;omega)
    have h2:=ih2 fun a ha=>hl a (List.mem_cons_of_mem _ ha)
    simp only[tot,List.map_cons,List.sum_cons,Nat.add_mul] at h2 ⊢
    have h3:(A2 (pD x)).size=(b4e x).size:=rfl
    omega
  have h1:=key (F0 y 2) fun a ha=>ha
  have h2:=d8j (e9k h.l.2.2.2.1)
  have h3:(A3 (A0 y 1)).length≤128:=h.l.2.2.2.1.1
  rw[List.length_map] at h2
  have h4:(A3 (A0 y 1)).length*(32768+1)≤128*(32768+1):=Nat.mul_le_mul_right _ h3
  have h5:=(b8y c9z h.l.2.2.1).2
  have h6:=(d2s ([wdD a6e (A1 (A0 y 0))]++(A3 (A0 y 1)).map a6r++(A3 (A0 y 2)).map pD)).2
  have h7:tot [wdD a6e (A1 (A0 y 0))]≤17:=by
   show (A2 (a6e.getD (A1 (A0 y 0)).toNat .any)).size+1+0≤17
   omega
  rw[b8f,a4k,Nat.add_mul]
  rw[c6s,c6s] at h6
  unfold F0 at h1
  unfold F0
  omega
end Go.Ev.R2
end
section
namespace Go.Ev
end Go.Ev
end
section
namespace Go.Ev.R2
open Go Go.Ev Go.Proofs
set_option maxRecDepth 100000
def b2w (y:D):ByteArray:=bif L5 (A0 y 8) then G7 ([sB [119,105,116,104,111,117,116]]++A3 (A0 y 7)) else G7 ([sB [98,121]]++A3 (A0 y 7))
def yOf (cs:List V):D:=.agg (cs.map fun v=>match v with | .d d=>d|_=>.any)
abbrev kd (y:D):Int:=A1 (A0 y 0)
abbrev fc (y:D):Int:=A1 (A0 y 1)
def N7 (i:Nat) (y:D):Bool:=match i with
 | 11=>decide (((a2u (kd y)).length:Int)>0) | 15=>hN (kd y) (fc y) | 19=>ab (hT (kd y) (fc y)) (kd y !=5) | 23=>kd y==7 | 27=>hP (kd y)
 | 31=>hM (kd y) | 35=>hS (kd y) | 39=>hW (kd y) | 43=>hNm (kd y)|_=>kd y==5
noncomputable def u6 (i:Nat) (y:D):List D:=match i with
 | 11=>[wdD (a2u (kd y)) (fc y)] | 15=>[.lit (.string (c4j (A1 (A0 y 5)) (A1 (A0 y 6))))] | 19=>[sDD y 14] | 23=>[wdD a3w (A1 (A0 y 9))] | 27=>[pD (paV y)]
 | 31=>[.lit (.string (G7 ((A3 (A0 y 2)).map S0)))] | 35=>[.lit (.string (G7 ((A3 (A0 y 10)).map b5t)))] | 39=>[.lit (.string (a2c (A1 (A0 y 3)))), .lit (.string (a2c (A1 (A0 y 4))))] | 43=>[.lit (.string (b2w y))]|_=>[qDD y 14]
noncomputable def D9 (i:Nat) (y:D):List D:=bif N7 i y then u6 i y else []
def c9y (i:Nat) (y:D):Prop:=match i with
 | 11=>1≤fc y∧(fc y).toNat<(a2u (kd y)).length | 23=>0≤A1 (A0 y 9)∧(A1 (A0 y 9)).toNat<a3w.length | 27=>PTx (paV y)
 | 31=>c4o (A3 (A0 y 2)) | 35=>d5g (A3 (A0 y 10)) | 39=>(0≤A1 (A0 y 3)∧A1 (A0 y 3)≤1152921504606846976)∧(0≤A1 (A0 y 4)∧A1 (A0 y 4)≤1152921504606846976)
 | 43=>C8 y∧e5m (A3 (A0 y 7)) | 15=>k8 (A1 (A0 y 5)) (A1 (A0 y 6))=0 | 19=>True|_=>(A2 (A0 y 14)).size≤4096
def g4h:Nat→D→Prop
 | 0,_=>True
 | n+1,y=>(C8 y∧(1≤kd y∧(kd y).toNat<a3y.length)∧M3 y≤100∧(A2 (A0 y 14)).size≤4096∧∀i,N7 i y=true→c9y i y)∧∀a∈F0 y 15,g4h n a
structure ETx (y:D):Prop where
 h:∀n,g4h n y
noncomputable def a4t (y:D):List D:=[wdD a3y (kd y)]++D9 11 y++D9 15 y++D9 19 y++D9 23 y++D9 27 y++D9 31 y++D9 35 y++D9 39 y++D9 43 y++D9 47 y
noncomputable def f2j (rec:D→ByteArray) (y:D):ByteArray:=G7 (a4t y++(F0 y 15).map fun a=>.lit (.string (rec a)))
noncomputable def n8 (y:D):ByteArray:=b4u f2j (ByteArray.mk (Array.mk [])) (dsz y+1) y
noncomputable def eD (y:D):D:=.lit (.string (n8 y))
def g4k (κ:Nat) (xs:List D):Prop:=xs.length≤4096∧∀y∈xs,ETx y∧dsz y<κ
theorem b9w {ts:List D} {k:Nat} (h:ts.length≤20) (hk:k≤20):((ts.length+k)*16).ble 70368744177664=true:=by rw[Nat.ble_eq];omega
theorem d9k (k:Int):Lim 16 (a2u k):=by
 unfold a2u
 cases k==2<;>simp only[cond_true,cond_false]
 ·
  cases k==3<;>simp only[cond_true,cond_false]
  ·
   cases k==6<;>simp only[cond_true,cond_false]
   ·
    cases k==7<;>simp only[cond_true,cond_false]
    ·
     exact .nil
    ·
     repeat first|exact .nil|refine .cons (by decide) ?_
   ·
    repeat first|exact .nil|refine .cons (by decide) ?_
  ·
   repeat first|exact .nil|refine .cons (by decide) ?_
 ·
  repeat first|exact .nil|refine .cons (by decide) ?_
theorem ETx.l {y:D} (h:ETx y):C8 y∧(1≤kd y∧(kd y).toNat<a3y.length)∧M3 y≤100∧(A2 (A0 y 14)).size≤4096∧∀i,N7 i y=true→c9y i y:=(h.h 1).1
theorem ETx.a {y:D} (h:ETx y) {a:D} (ha:a∈F0 y 15):ETx a:=⟨fun n=>(h.h (n+1)).2 a ha⟩
theorem d5i (r r':D→ByteArray) (y:D) (h:∀a∈F0 y 15,r a=r' a):f2j r y=f2j r' y:=by
 unfold f2j
 rw[show (F0 y 15).map (fun a=>D.lit (.string (r a)))=(F0 y 15).map (fun a=>D.lit (.string (r' a))) from List.map_congr_left fun a ha=>by rw[h a ha]]
theorem a9p (y:D):n8 y=G7 (a4t y++(A3 (A0 y 15)).map eD):=Z3 d5i y
theorem a4y {i n:Nat} {y:D} (h:(u6 i y).length≤n):(D9 i y).length≤n:=by
 unfold D9;cases N7 i y
 ·
  exact Nat.zero_le _
 ·
  exact h
theorem a4x {i M:Nat} {y:D} (h:N7 i y=true→Lim M (u6 i y)):Lim M (D9 i y):=by
 unfold D9;cases hc:N7 i y
 ·
  exact .nil
 ·
  exact h hc
theorem e5h (y:D):(a4t y).length≤12:=by
 have l11:(D9 11 y).length≤1:=a4y (Nat.le_refl _)
 have l15:(D9 15 y).length≤1:=a4y (Nat.le_refl _)
 have l19:(D9 19 y).length≤1:=a4y (Nat.le_refl _)
 have l23:(D9 23 y).length≤1:=a4y (Nat.le_refl _)
 have l27:(D9 27 y).length≤1:=a4y (Nat.le_refl _)
 have l31:(D9 31 y).length≤1:=a4y (Nat.le_refl _)
 have l35:(D9 35 y).length≤1:=a4y (Nat.le_refl _)
 have l39:(D9 39 y).length≤2:=a4y (Nat.le_refl _)
 have l43:(D9 43 y).length≤1:=a4y (Nat.le_refl _)
 have l47:(D9 47 y).length≤1:=a4y (Nat.le_refl _)
 unfold a4t
 simp only[List.length_append,List.length_cons,List.length_nil]
 omega
theorem d4b (y:D):1+((F0 y 15).map M3).sum≤M3 y:=by
 rw[a2h y];omega
theorem e8m (n d:Int):(c4j n d).size≤4096:=by
 have l1:=a8p (n.natAbs:Nat)
 have l2:=a8p d
 have l3:(ByteArray.mk (Array.mk [47])).size=1:=rfl
 have l4:(ByteArray.mk (Array.mk [45])).size=1:=rfl
 have l5:(ByteArray.mk (Array.mk [])).size=0:=rfl
 unfold c4j
 cases k8 n d !=0<;>cases decide (n<0)<;>cases decide (d>1)<;>simp only[cond_true,cond_false,a3h]<;>omega
theorem f5e {y:D} (h:ETx y):Lim 4294967296 (a4t y):=by
 obtain ⟨hf,⟨k0,k1⟩,ht,hx,hp⟩:=h.l
 have w:∀{s:ByteArray} {M:Nat},s.size≤M→M≤4294967296→Lim 4294967296 [.lit (.string s)]:=fun h1 h2=>.cons (Nat.le_trans h1 h2) .nil
 unfold a4t
 refine ((((((((((Lim.app ?_ ?_).app ?_).app ?_).app ?_).app ?_).app ?_).app ?_).app ?_).app ?_).app ?_)
 ·
  exact w (b8y e3t k1).2 (by decide)
 ·
  exact a4x fun hc=>w (b8y (d9k _) (hp 11 hc).2).2 (by decide)
 ·
  exact a4x fun _=>w (e8m _ _) (by decide)
 ·
  exact a4x fun _=>w hx (by decide)
 ·
  exact a4x fun hc=>w (b8y c2m (hp 23 hc).2).2 (by decide)
 ·
  refine a4x fun hc=>w (s:=b4e (paV y)) (M:=838860800) ?_ (by decide)
  have hq:PTx (paV y):=hp 27 hc
  have h1:=g6c hq (Nat.lt_succ_self _)
  have h2:P9 (paV y)*8388608≤100*8388608:=Nat.mul_le_mul_right _ hq.l.2.2.2.2
  omega
 ·
  refine a4x fun hc=>w (M:=4194434) ?_ (by decide)
  have hm:c4o (A3 (A0 y 2)):=hp 31 hc
  have hl:Lim 32768 ((A3 (A0 y 2)).map S0):=Lim.map fun a ha=>d9c (hm.2 a ha)
  exact (a9b (n:=128) (b:=4194434) hl (by rw[List.length_map];exact hm.1) (by decide)).2
 ·
  refine a4x fun hc=>w (M:=2147483778) ?_ (by decide)
  have hm:d5g (A3 (A0 y 10)):=hp 35 hc
  have hl:Lim 16777216 ((A3 (A0 y 10)).map b5t):=Lim.map fun a ha=>by
   have hlim:=e2t (hm.2 a ha)
   exact (a9b (n:=258) (b:=16777216) hlim.1 hlim.2 (by decide)).2
  exact (a9b (n:=128) (b:=2147483778) hl (by rw[List.length_map];exact hm.1) (by decide)).2
 ·
  exact a4x fun _=>.cons (Nat.le_trans (a8p _) (by decide)) (.cons (Nat.le_trans (a8p _) (by decide)) .nil)
 ·
  refine a4x fun hc=>w (s:=b2w y) (M:=528515) ?_ (by decide)
  have hm:e5m (A3 (A0 y 7)):=(hp 43 hc).2
  have hl:∀b:List UInt8,b.length≤7→(G7 ([sB b]++A3 (A0 y 7))).size≤528515:=fun b hb =>
   (a9b (n:=129) (b:=528515) (Lim.app (.cons (Nat.le_trans hb (by decide)) .nil) hm.2) (by have:=hm.1;simp only[List.length_append,List.length_cons,List.length_nil];omega) (by decide)).2
  unfold b2w
  cases L5 (A0 y 8)
  ·
   exact hl [98,121] (by decide)
  ·
   exact hl [119,105,116,104,111,117,116] (by decide)
 ·
  exact a4x fun _=>w (Nat.le_trans (b4a _) (show 2*(A2 (A0 y 14)).size+2≤8194 by omega)) (by decide)
theorem g7n:∀{n:Nat} {y:D},ETx y→dsz y<n→(n8 y).size+1≤M3 y*68719476736:=by
 intro n
 induction n with
 | zero=>intro y _ h;omega
 | succ n ih =>
  intro y h hn
  have key:∀l:List D,(∀a∈l,a∈F0 y 15)→tot (l.map eD)≤(l.map M3).sum*68719476736:=by
   intro l hl
   induction l with
   | nil=>simp[tot]
   | cons x r ih2 =>
    have hx:=hl x (by simp)
    have h1:=ih (h.a hx) (by have:=J0 hx;omega)
    have h2:=ih2 fun a ha=>hl a (List.mem_cons_of_mem _ ha)
    simp only[tot,List.map_cons,List.sum_cons,Nat.add_mul] at h2 ⊢
    have h3:(A2 (eD x)).size=(n8 x).size:=rfl
    omega
  have h1:=key (F0 y 15) fun a ha=>ha
  have h2:=d8j (f5e h)
  have h3:(a4t y).length≤12:=e5h y
  have h4:(a4t y).length*(4294967296+1)≤12*(4294967296+1):=Nat.mul_le_mul_right _ h3
  have h6:=(d2s (a4t y++(A3 (A0 y 15)).map eD)).2
  have h7:=d4b y
  have h8:(1+((F0 y 15).map M3).sum)*68719476736≤M3 y*68719476736:=Nat.mul_le_mul_right _ h7
  rw[Nat.add_mul] at h8
  rw[a9p]
  rw[c6s] at h6
  unfold F0 at h1 h8
  omega
abbrev e96:List (List (A6×A6)):=[[([0,0],[0,0]),([0,1],[0,1]),([2],[15,2])]]
def a5q (y:D):List D:=(bif L5 (A0 y 8) then sB [119,105,116,104,111,117,116] else sB [98,121])::A3 (A0 y 7)
def s96:Sm:=⟨fun vals bs=>match vals,bs with | [_, .d x], [_, .arr _ _ _ _ xs _]=>C8 x∧b3h (A3 (A0 x 7))∧M2 (xs.length+H8 (a5q x))|_,_=>False,fun vals bs=>match vals,bs with
 | [.ptr [0,0] 0, .d x], [.cells 75 [.opt [0,0] 0, .ref [0,1], .d t, .d (.lit (.bool fi))], .arr true nl 5 1 xs []]=>one (.d (.tup [])) [wB [2] t false,S2 nl xs] [buf (C7 fi nl xs (a5q x)).1 (C7 fi nl xs (a5q x)).2]
 | _,_=>none⟩
def U96:J5:=g3t.add 96 s96
theorem w96 (t:D) (y:D) (fi:Bool) (nl:Bool) (xs:List D) (R:V→List Box→Prop):(E4 (Cn a8t) a8t (K4 g3t) 2 B6 B1 adW e96 96 [V.ptr [0,0] 0,V.d (eV y)]
 (G3 [wB [0,1] t fi,buf nl xs]) R) =
 (bif L5 (A0 y 8) then
 (s86.pre [V.ptr [0,0] 0,C0 (bA [119,105,116,104,111,117,116])]
 [Box.cells 75 [V.opt [0,0] 0,V.ref [0,1],V.d t,A7 fi],Box.arr true nl 5 1 xs []]∧
 (e2w.pre [V.ptr [0,0] 0,V.d (D.slice (F1 (A0 y 7)) 1 (A3 (A0 y 7)))]
 [Box.cells 75 [V.opt [0,0] 0,V.ref [0,1],V.d t,A7 false],
 Box.arr true (G6 fi nl (bA [119,105,116,104,111,117,116])) 5 1
 (B7 fi xs (bA [119,105,116,104,111,117,116])) []]∧
 R (V.d (D.tup []))
 [Box.cells 75 [V.opt [0,0] 0,V.ref [2],V.d t,A7 false],Box.arr false nl 5 1 xs [],
 Box.arr true
 (C7 false (G6 fi nl (bA [119,105,116,104,111,117,116]))
 (B7 fi xs (bA [119,105,116,104,111,117,116])) (A3 (A0 y 7))).fst
 5 1
 (C7 false (G6 fi nl (bA [119,105,116,104,111,117,116]))
 (B7 fi xs (bA [119,105,116,104,111,117,116])) (A3 (A0 y 7))).snd
 []])) else
 (s86.pre [V.ptr [0,0] 0,C0 (bA [98,121])]
 [Box.cells 75 [V.opt [0,0] 0,V.ref [0,1],V.d t,A7 fi],Box.arr true nl 5 1 xs []]∧
 (e2w.pre [V.ptr [0,0] 0,V.d (D.slice (F1 (A0 y 7)) 1 (A3 (A0 y 7)))]
 [Box.cells 75 [V.opt [0,0] 0,V.ref [0,1],V.d t,A7 false],
 Box.arr true (G6 fi nl (bA [98,121])) 5 1 (B7 fi xs (bA [98,121]))
 []]∧
 R (V.d (D.tup []))
 [Box.cells 75 [V.opt [0,0] 0,V.ref [2],V.d t,A7 false],Box.arr false nl 5 1 xs [],
 Box.arr true
 (C7 false (G6 fi nl (bA [98,121])) (B7 fi xs (bA [98,121]))
 (A3 (A0 y 7))).fst
 5 1
 (C7 false (G6 fi nl (bA [98,121])) (B7 fi xs (bA [98,121]))
 (A3 (A0 y 7))).snd
 []]))):=by kernel_rfl
theorem q96:H5 B U96:=by
 refine M8 g6b fun vals bs c x y hp hf=>?_
 unfold s96 at hp hf
 simp only[] at hp hf
 split at hf
 case h_2=>cases hf
 rename_i x t fi nl xs
 simp only[one,Option.some.injEq,Prod.mk.injEq] at hf
 obtain ⟨rfl,rfl,rfl⟩:=hf
 obtain ⟨hx,ha,hr⟩:=hp
 have hr:xs.length+H8 (a5q x)≤70368744177664:=hr
 rw[show ([V.ptr [0,0] 0, .d x]:List V)= [.ptr [0,0] 0, .d (eV x)] by rw[hx.v]]
 refine E9 B9 d2w g6b (fn:=Tryz.f96) (cd:=B2 Tryz.f96) (sp:=B6) (hn:=B1) (k:=2) (ads:=adW) (ends:=e96) Tryz.func96 (by kernel_rfl) (by kernel_rfl) (by kernel_rfl) (by kernel_rfl) A8 rfl rfl (keep (w96 t x fi nl xs _) ?_)
 refine A5 (fun g=>?_) (fun g=>?_)
 ·
  have e:a5q x=sB [119,105,116,104,111,117,116]::A3 (A0 x 7):=by unfold a5q;rw[g];rfl
  rw[e]
  rw[e] at hr
  have hr:xs.length+(7+1+H8 (A3 (A0 x 7)))≤70368744177664:=hr
  have p1:(B7 fi xs (ByteArray.mk (Array.mk [119,105,116,104,111,117,116]))).length≤xs.length+1+7:=P8 fi xs _
  exact ⟨by show xs.length+1+7≤_;omega,⟨ha,by show (B7 fi xs (ByteArray.mk (Array.mk [119,105,116,104,111,117,116]))).length+_≤_;omega⟩,rfl,rfl⟩
 ·
  have e:a5q x=sB [98,121]::A3 (A0 x 7):=by unfold a5q;rw[g];rfl
  rw[e]
  rw[e] at hr
  have hr:xs.length+(2+1+H8 (A3 (A0 x 7)))≤70368744177664:=hr
  have p1:(B7 fi xs (ByteArray.mk (Array.mk [98,121]))).length≤xs.length+1+2:=P8 fi xs _
  exact ⟨by show xs.length+1+2≤_;omega,⟨ha,by show (B7 fi xs (ByteArray.mk (Array.mk [98,121]))).length+_≤_;omega⟩,rfl,rfl⟩
def f2s:Sm:=⟨fun _ bs=>match bs with | [_, .arr _ _ _ _ xs _]=>e5n xs∧xs≠ []|_=>False,fun vals bs=>match vals,bs with
 | [.ptr [0,0] 0], [.cells 73 [.opt [0,0] 0, .ref [0,1]], .arr true false 5 1 xs []]=>one (.d (.lit (.string (c4f xs)))) [uB [0,1], .arr false false 5 1 xs []] []
 | [.ptr [0,0] 0], [.cells 75 [.opt [0,0] 0, .ref [0,1], .d t, .d (.lit (.bool fi))], .arr true false 5 1 xs []]=>one (.d (.lit (.string (c4f xs)))) [wB [0,1] t fi, .arr false false 5 1 xs []] []
 | _,_=>none⟩
def e5i:J5:=U96.add 61 f2s
noncomputable def l97:Code:=F5 (F9 (B2 Tryz.f97) 8)
abbrev uB5:Box:=.cells 73 [.opt [5000] 0, .ref [5001]]
def h97:Nat→Option a2e:=fun id=>match id with
 | 1=>some {ads:=[.cell [5] 1 5 1 [5001], .opt [5] 0 [5] 0] }
 | 7=>some {cut:=[([0,3,4], [([5000],[5000]),([5001],[20,2])])] }
 | 11=>some {cut:=[([0,3,4], [([5000],[5000]),([5001],[28,2])])] }
 | 13=>some {cut:=[([0,3,4], [([5000],[5000]),([5001],[31,2])])] }
 | _=>none
abbrev e3j:List (A6×A6):=[([5000],[5000]),([5001],[5001])]
theorem b97 (s : ByteArray) (i : Int) (xs : List D) (R : X → List V → List Box → Prop) : (G0 (Cn a8t) a8t (K4 e5i) 0 B6 h97 l97 32 [0, 3, 4] [[5000], [5001]] [] e3j [3] e3j
  [C0 s, V.ptr [5000] 0, A4 i] [uB5, buf false xs] R) =
  (bif decide (i < (↑s.size : Int)) then
   ((((0 : Int) ≤ i) ∧ i.toNat < s.size) ∧
   (bif B3 s i.toNat == 92 then
    (b7t.pre [V.ptr [0, 0] 0, V.d (D.lit (Value.int IntKind.u8 92))]
  [Box.cells 73 [V.opt [0, 0] 0, V.ref [0, 1]], Box.arr true false 5 1 xs []] ∧
    ((((0 : Int) ≤ i) ∧ i.toNat < s.size) ∧
    (b7t.pre [V.ptr [0, 0] 0, V.d (D.lit (Value.int IntKind.u8 (B3 s i.toNat)))]
  [Box.cells 73 [V.opt [0, 0] 0, V.ref [0, 1]], Box.arr true false 5 1 (xs ++ [D.lit (Value.int IntKind.u8 92)]) []] ∧
    (32 = 32 ∧
    R X.normal
  [C0 s, V.ptr [5000] 0, A4 (IntKind.i64.wrap (i + 1))]
  [Box.cells 73 [V.opt [5000] 0, V.ref [5001]],
    Box.arr true false 5 1
      (xs ++ [D.lit (Value.int IntKind.u8 92)] ++ [D.lit (Value.int IntKind.u8 (B3 s i.toNat))]) []])))) else
    (bif B3 s i.toNat == 34 then
     (b7t.pre [V.ptr [0, 0] 0, V.d (D.lit (Value.int IntKind.u8 92))]
  [Box.cells 73 [V.opt [0, 0] 0, V.ref [0, 1]], Box.arr true false 5 1 xs []] ∧
     ((((0 : Int) ≤ i) ∧ i.toNat < s.size) ∧
     (b7t.pre [V.ptr [0, 0] 0, V.d (D.lit (Value.int IntKind.u8 (B3 s i.toNat)))]
  [Box.cells 73 [V.opt [0, 0] 0, V.ref [0, 1]], Box.arr true false 5 1 (xs ++ [D.lit (Value.int IntKind.u8 92)]) []] ∧
     (32 = 32 ∧
     R X.normal
  [C0 s, V.ptr [5000] 0, A4 (IntKind.i64.wrap (i + 1))]
  [Box.cells 73 [V.opt [5000] 0, V.ref [5001]],
    Box.arr true false 5 1
      (xs ++ [D.lit (Value.int IntKind.u8 92)] ++ [D.lit (Value.int IntKind.u8 (B3 s i.toNat))]) []])))) else
     (bif B3 s i.toNat == 10 then
      (e6m.pre [V.ptr [0, 0] 0, C0 (bA [92, 110])]
  [Box.cells 73 [V.opt [0, 0] 0, V.ref [0, 1]], Box.arr true false 5 1 xs []] ∧
      (32 = 32 ∧
      R X.normal
  [C0 s, V.ptr [5000] 0, A4 (IntKind.i64.wrap (i + 1))]
  [Box.cells 73 [V.opt [5000] 0, V.ref [5001]],
    Box.arr true false 5 1 (xs ++ [D.lit (Value.int IntKind.u8 (↑92 : Int)), D.lit (Value.int IntKind.u8 (↑110 : Int))])
      []])) else
      ((((0 : Int) ≤ i) ∧ i.toNat < s.size) ∧
      (b7t.pre [V.ptr [0, 0] 0, V.d (D.lit (Value.int IntKind.u8 (B3 s i.toNat)))]
  [Box.cells 73 [V.opt [0, 0] 0, V.ref [0, 1]], Box.arr true false 5 1 xs []] ∧
      (32 = 32 ∧
      R X.normal
  [C0 s, V.ptr [5000] 0, A4 (IntKind.i64.wrap (i + 1))]
  [Box.cells 73 [V.opt [5000] 0, V.ref [5001]],
    Box.arr true false 5 1 (xs ++ [D.lit (Value.int IntKind.u8 (B3 s i.toNat))]) []]))))))) else
   (32 = 32 ∧
   R (X.exit 0) [V.ptr [5000] 0] [Box.cells 73 [V.opt [5000] 0, V.ref [5001]], Box.arr true false 5 1 xs []])) := by kernel_rfl
noncomputable def e3a (xs:List D) (s:ByteArray):List D:=xs++qL s s.size 0
noncomputable def S97:Ev.Spec:={L:=[0,3,4],ns:=[([5000],[5]),([5001],[7,2])],L':=[3],nm':=[[5000],[5001]],G:=fun N vals bs k=>match vals,bs with
 | [.d (.lit (.string s)), .ptr [5000] 0, .d (.lit (.int .i64 i))], [.cells 73 [.opt [5000] 0, .ref [5001]], .arr true false 5 1 xs []]=>(N=32∧i=0∧xs.length+2*s.size≤70368744177600)∧k (.exit 0) [.ptr [5000] 0] [uB5,buf false (e3a xs s)]
 | _,_=>False }
theorem w97 (s:ByteArray) (p:V→Prop):(C2 (Cn a8t) a8t (K4 e5i) 0 (spL [(8,S97)]) h97 97 [C0 s] A9.empty fun v H=>p (B5 H v)) =
 (b7t.pre [V.ptr [0,0] 0,V.d (D.lit (Value.int IntKind.u8 34))]
 [Box.cells 73 [V.opt [0,0] 0,V.ref [0,1]],Box.arr true true 5 1 [] []]∧
 ((32=32∧(((0:Int)=0)∧1+2*s.size≤70368744177600))∧
 (b7t.pre [V.ptr [0,0] 0,V.d (D.lit (Value.int IntKind.u8 34))]
 [Box.cells 73 [V.opt [0,0] 0,V.ref [0,1]],Box.arr true false 5 1 (e3a [D.lit (Value.int IntKind.u8 34)] s) []]∧
 (f2s.pre [V.ptr [0,0] 0]
 [Box.cells 73 [V.opt [0,0] 0,V.ref [0,1]],
 Box.arr true false 5 1 (e3a [D.lit (Value.int IntKind.u8 34)] s++ [D.lit (Value.int IntKind.u8 34)]) []]∧
 p (C0 (c4f (e3a [D.lit (Value.int IntKind.u8 34)] s++ [D.lit (Value.int IntKind.u8 34)]))))))):=by kernel_rfl
noncomputable def c97:Ct:=⟨fun | [.lit (.string s)]=>s.size≤17592186044400|_=>False,fun | [.lit (.string s)]=>some (.lit (.string (L7 s)))|_=>none⟩
noncomputable def T97:Tab:=a8t.add 97 c97
theorem f3a:H5 B e5i:=by
 refine M8 q96 fun vals bs c x y hp hf=>?_
 unfold f2s at hp hf
 simp only[] at hp hf
 split at hf
 ·
  rename_i xs
  simp only[one,Option.some.injEq,Prod.mk.injEq] at hf
  obtain ⟨rfl,rfl,rfl⟩:=hf
  obtain ⟨ha,hne⟩:=hp
  refine f3m _ _ _ _ _ rfl ?_
  have h1:xs.all a6z=true:=List.all_eq_true.2 ha
  have h2:xs.isEmpty=false:=by cases xs with|nil=>exact absurd rfl hne|cons=>rfl
  simp only[s61,h1,h2,b8c ha,Bool.and_self,cond_true,cond_false]
  rfl
 ·
  rename_i t fi xs
  simp only[one,Option.some.injEq,Prod.mk.injEq] at hf
  obtain ⟨rfl,rfl,rfl⟩:=hf
  obtain ⟨ha,hne⟩:=hp
  refine f3m _ _ _ _ _ rfl ?_
  have h1:xs.all a6z=true:=List.all_eq_true.2 ha
  have h2:xs.isEmpty=false:=by cases xs with|nil=>exact absurd rfl hne|cons=>rfl
  simp only[s61,h1,h2,b8c ha,Bool.and_self,cond_true,cond_false]
  rfl
 ·
  cases hf
theorem h3y:OkS (Cn a8t) 0 (.loop l97) S97:=by
 refine F3 fun N vals bs K h=>?_
 simp only[S97] at h
 split at h
 case h_2=>exact h.elim
 rename_i s i xs
 obtain ⟨⟨rfl,rfl,hr⟩,h⟩:=h
 have key:∀(n i:Nat) (xs:List D),i+n=s.size→xs.length+2*n≤70368744177600→K (.exit 0) [.ptr [5000] 0] [uB5,buf false (xs++qL s n i)]→
   N2 (Cn a8t) 0 l97 32 [0,3,4] [[5000],[5001]] [3] [[5000],[5001]] [C0 s, .ptr [5000] 0,A4 i] [uB5,buf false xs] K:=by
  intro n
  induction n with
  | zero =>
   intro i xs hi hx h
   refine C1 (M7 B9 d2w f3a) C4 A8 (hn:=h97) (adsI:=[]) (nsI:=e3j) (nsX:=e3j) rfl rfl (keep (b97 s i xs _) ?_)
   have e1:decide ((i:Int)<(s.size:Int))=false:=by simp;omega
   rw[e1]
   simp only[qL,List.append_nil] at h
   exact ⟨(by trivial),h⟩
  | succ n ih =>
   intro i xs hi hx h
   refine C1 (M7 B9 d2w f3a) C4 A8 (hn:=h97) (adsI:=[]) (nsI:=e3j) (nsX:=e3j) rfl rfl (keep (b97 s i xs _) ?_)
   have e1:decide ((i:Int)<(s.size:Int))=true:=by simp;omega
   have e2:IntKind.i64.wrap ((i:Int)+1)=((i+1:Nat):Int):=by rw[Go.IntWalk.i64_in _ (by omega)];omega
   have p1:xs.length+1≤70368744177664:=by omega
   have p2:(xs++ [D.lit (Value.int IntKind.u8 92)]).length+1≤70368744177664:=by simp;omega
   have p3:xs.length+2≤70368744177664:=by omega
   unfold qL qB at h
   simp only[e1,Int.toNat_natCast,e2,cond_true]
   refine ⟨⟨by omega,by omega⟩,A5 (fun g=>?_) (fun g=>?_)⟩
   ·
    rw[g] at h
    simp only[cond_true] at h
    refine ⟨p1,⟨by omega,by omega⟩,p2,(by trivial),ih (i+1) _ (by omega) (by simp;omega) ?_⟩
    simpa [List.append_assoc] using h
   ·
    rw[g] at h
    simp only[cond_false] at h
    refine A5 (fun g=>?_) (fun g=>?_)
    ·
     rw[g] at h
     simp only[cond_true] at h
     refine ⟨p1,⟨by omega,by omega⟩,p2,(by trivial),ih (i+1) _ (by omega) (by simp;omega) ?_⟩
     simpa [List.append_assoc] using h
    ·
     rw[g] at h
     simp only[cond_false] at h
     refine A5 (fun g=>?_) (fun g=>?_)
     ·
      rw[g] at h
      simp only[cond_true] at h
      refine ⟨p3,(by trivial),ih (i+1) _ (by omega) (by simp;omega) ?_⟩
      simpa [List.append_assoc] using h
     ·
      rw[g] at h
      simp only[cond_false] at h
      refine ⟨⟨by omega,by omega⟩,p1,(by trivial),ih (i+1) _ (by omega) (by simp;omega) ?_⟩
      simpa [List.append_assoc] using h
 exact key s.size 0 xs (by omega) hr h
theorem k97:D0 B T97:=by
 refine b6n B9 d2w f3a (fn:=Tryz.f97) (cd:=B2 Tryz.f97) (sp:=spL [(8,S97)]) (hn:=h97) Tryz.func97 (by kernel_rfl) (by kernel_rfl) (C9 (c:=.loop l97) (by kernel_rfl) h3y E5) fun ds r hp hr=>?_
 unfold c97 at hp hr
 simp only[] at hr hp
 split at hr
 ·
  rename_i s
  cases hr
  have hp:s.size≤17592186044400:=hp
  refine keep (w97 s fun v=>v=_) ?_
  have hl:=d5v (s:=s) (n:=s.size) (i:=0)
  refine ⟨by show 0+1≤70368744177664;omega,⟨(by trivial),(by trivial),by omega⟩, ?_, ?_,rfl⟩
  ·
   show (e3a [bD8 34] s).length+1≤70368744177664
   unfold e3a
   simp only[List.length_append,List.length_cons,List.length_nil];omega
  ·
   exact ⟨e2z s,by simp⟩
 ·
  cases hr
abbrev sW (l:List UInt8):D:=.lit (.string (ByteArray.mk (Array.mk l)))
def o5:List D:=[sW [61],sW [33,61],sW [61,126],sW [33,126],sW [60],sW [62]]
def L6:List D:=[sW [99,111,110,116,97,105,110,115],sW [110,111,116,99,111,110,116,97,105,110,115],sW [114,101,103,101,120],sW [112,97,114,115,101],sW [102,105,101,108,100],sW [107,101,101,112],sW [100,114,111,112],sW [108,97,98,101,108]]
def a7v:List D:=[sW [115,112,97,110],sW [99,104,105,108,100],sW [100,101,115,99,101,110,100,97,110,116],sW [115,105,98,108,105,110,103],sW [102,111,108,108,111,119,115],sW [108,105,110,107,101,100],sW [97,110,100],sW [111,114],sW [110,111,116]]
def c7h:List D:=[sW [111,110,101],sW [109,97,110,121,116,111,111,110,101],sW [111,110,101,116,111,109,97,110,121]]
def cL (l:List D):Ct:=⟨fun _=>True,fun | []=>some (.slice false 1 l)|_=>none⟩
theorem h2y (p:V→Prop):(C2 (Cn T97) T97 G1 0 B6 B1 157 [] A9.empty fun v H=>p (B5 H v)) =
 ((14<4294967281∧true=true)∧
 p
 (V.d
 (D.slice false 1
 [zD (bA ([]++ [61])),
 zD (bA ([]++ [33]++ [61])),
 zD (bA ([]++ [61]++ [126])),
 zD (bA ([]++ [33]++ [126])),
 zD (bA ([]++ [60])),
 zD (bA ([]++ [62]))]))):=by kernel_rfl
noncomputable def f5z:Tab:=T97.add 157 (cL o5)
theorem h2t (p:V→Prop):(C2 (Cn f5z) f5z G1 0 B6 B1 162 [] A9.empty fun v H=>p (B5 H v)) =
 ((54<4294967281∧true=true)∧
 p
 (V.d
 (D.slice false 1
 [zD (bA ([]++ [99]++ [111]++ [110]++ [116]++ [97]++ [105]++ [110]++ [115])),
 zD (bA ([]++ [110]++ [111]++ [116]++ [99]++ [111]++ [110]++ [116]++ [97]++ [105]++ [110] ++
 [115])),
 zD (bA ([]++ [114]++ [101]++ [103]++ [101]++ [120])),
 zD (bA ([]++ [112]++ [97]++ [114]++ [115]++ [101])),
 zD (bA ([]++ [102]++ [105]++ [101]++ [108]++ [100])),
 zD (bA ([]++ [107]++ [101]++ [101]++ [112])),
 zD (bA ([]++ [100]++ [114]++ [111]++ [112])),
 zD (bA ([]++ [108]++ [97]++ [98]++ [101]++ [108]))]))):=by kernel_rfl
noncomputable def f5x:Tab:=f5z.add 162 (cL L6)
theorem h2w (p:V→Prop):(C2 (Cn f5x) f5x G1 0 B6 B1 159 [] A9.empty fun v H=>p (B5 H v)) =
 ((55<4294967281∧true=true)∧
 p
 (V.d
 (D.slice false 1
 [zD (bA ([]++ [115]++ [112]++ [97]++ [110])),
 zD (bA ([]++ [99]++ [104]++ [105]++ [108]++ [100])),
 zD (bA ([]++ [100]++ [101]++ [115]++ [99]++ [101]++ [110]++ [100]++ [97]++ [110]++ [116])),
 zD (bA ([]++ [115]++ [105]++ [98]++ [108]++ [105]++ [110]++ [103])),
 zD (bA ([]++ [102]++ [111]++ [108]++ [108]++ [111]++ [119]++ [115])),
 zD (bA ([]++ [108]++ [105]++ [110]++ [107]++ [101]++ [100])),
 zD (bA ([]++ [97]++ [110]++ [100])),
 zD (bA ([]++ [111]++ [114])),
 zD (bA ([]++ [110]++ [111]++ [116]))]))):=by kernel_rfl
noncomputable def f5y:Tab:=f5x.add 159 (cL a7v)
theorem w87 (p:V→Prop):(C2 (Cn f5y) f5y G1 0 B6 B1 87 [] A9.empty fun v H=>p (B5 H v)) =
 p
 (V.d
 (D.slice false 1
 [zD (bA [111,110,101]),
 zD (bA [109,97,110,121,116,111,111,110,101]),
 zD (bA [111,110,101,116,111,109,97,110,121])])):=by kernel_rfl
noncomputable def T87:Tab:=f5y.add 87 (cL c7h)
theorem w88 (n:Int) (d:Int) (p:V→Prop):(C2 (Cn T87) T87 G1 0 B6 B1 88 [V.d (rV n d)] A9.empty fun v H=>p (B5 H v)) =
 (True∧
 (bif k8 n d !=0 then
 p (C0 (bA [])) else
 ((((-9223372036854775808:Int)≤n)∧((n:Int)≤9223372036854775807))∧
 (bif d !=1 then
 ((((-9223372036854775808:Int)≤d)∧((d:Int)≤9223372036854775807))∧
 (1+(X2 d).size≤9223372036854775807∧
 ((X2 n).size+(bA [47]++X2 d).size≤9223372036854775807∧
 p (C0 (X2 n++(bA [47]++X2 d)))))) else
 p (C0 (X2 n)))))):=by kernel_rfl
noncomputable def e8k (n d:Int):ByteArray:=bif k8 n d !=0 then ByteArray.mk (Array.mk []) else bif d !=1 then X2 n++(ByteArray.mk (Array.mk [47])++X2 d) else X2 n
noncomputable def c88:Ct:=⟨fun | [.agg [.lit (.int .i64 n), .lit (.int .i64 d)]]=>c2t n∧c2t d|_=>False,fun | [.agg [.lit (.int .i64 n), .lit (.int .i64 d)]]=>some (.lit (.string (e8k n d)))|_=>none⟩
noncomputable def T88:Tab:=T87.add 88 c88
theorem c3q:∀(k n:Nat),(c3r k n).length≤k
 | 0,n=>by simp[c3r]
 | k+1,n=>by
  have:=c3q k (n / 10)
  unfold c3r
  split<;>simp<;>omega
theorem d3a (n:Int):(X2 n).size≤21:=by
 show (b4r n).length≤21
 unfold b4r
 cases decide (n<0) with
 | true=>have:=c3q 20 n.natAbs;simp only[cond_true,List.length_cons];omega
 | false=>have:=c3q 20 n.toNat;simp only[cond_false];omega
theorem h5d:D0 B f5z:=by
 refine D2 B9 k97 (fn:=Tryz.f157) (cd:=B2 Tryz.f157) (sp:=B6) (hn:=B1) Tryz.func157 (by kernel_rfl) (by kernel_rfl) A8 fun ds r hp hr=>?_
 unfold cL at hr
 simp only[] at hr
 split at hr
 ·
  cases hr
  refine keep (h2y fun v=>v= .d (.slice false 1 o5)) ?_
  exact ⟨⟨by decide,rfl⟩,by (show _=_;kernel_rfl)⟩
 ·
  cases hr
theorem h5b:D0 B f5x:=by
 refine D2 B9 h5d (fn:=Tryz.f162) (cd:=B2 Tryz.f162) (sp:=B6) (hn:=B1) Tryz.func162 (by kernel_rfl) (by kernel_rfl) A8 fun ds r hp hr=>?_
 unfold cL at hr
 simp only[] at hr
 split at hr
 ·
  cases hr
  refine keep (h2t fun v=>v= .d (.slice false 1 L6)) ?_
  exact ⟨⟨by decide,rfl⟩,by (show _=_;kernel_rfl)⟩
 ·
  cases hr
theorem h5c:D0 B f5y:=by
 refine D2 B9 h5b (fn:=Tryz.f159) (cd:=B2 Tryz.f159) (sp:=B6) (hn:=B1) Tryz.func159 (by kernel_rfl) (by kernel_rfl) A8 fun ds r hp hr=>?_
 unfold cL at hr
 simp only[] at hr
 split at hr
 ·
  cases hr
  refine keep (h2w fun v=>v= .d (.slice false 1 a7v)) ?_
  exact ⟨⟨by decide,rfl⟩,by (show _=_;kernel_rfl)⟩
 ·
  cases hr
theorem k87:D0 B T87:=by
 refine D2 B9 h5c (fn:=Tryz.f87) (cd:=B2 Tryz.f87) (sp:=B6) (hn:=B1) Tryz.func87 (by kernel_rfl) (by kernel_rfl) A8 fun ds r hp hr=>?_
 unfold cL at hr
 simp only[] at hr
 split at hr
 ·
  cases hr
  refine keep (w87 fun v=>v= .d (.slice false 1 c7h)) ?_
  exact by (show _=_;kernel_rfl)
 ·
  cases hr
theorem k88:D0 B T88:=by
 refine D2 B9 k87 (fn:=Tryz.f88) (cd:=B2 Tryz.f88) (sp:=B6) (hn:=B1) Tryz.func88 (by kernel_rfl) (by kernel_rfl) A8 fun ds r hp hr=>?_
 unfold c88 at hp hr
 simp only[] at hr hp
 split at hr
 ·
  rename_i n d
  cases hr
  obtain ⟨⟨n0,n1⟩,d0,d1⟩:=hp
  refine keep (w88 n d fun v=>v=_) ?_
  have l1:=d3a n
  have l2:=d3a d
  have l3:(bA [47]).size=1:=rfl
  unfold e8k
  refine ⟨(by trivial),A5 (fun g=>?_) (fun g=>?_)⟩
  ·
   simp only[g,cond_true]
  ·
   simp only[g,cond_false]
   refine ⟨⟨n0,n1⟩,A5 (fun g=>?_) (fun g=>?_)⟩
   ·
    simp only[g,cond_true]
    exact ⟨⟨d0,d1⟩,by omega,by rw[a3h];omega,(by trivial)⟩
   ·
    simp only[g,cond_false]
 ·
  cases hr
end Go.Ev.R2
end
section
namespace Go.Ev.R2
open Go Go.Ev Go.Proofs
theorem c8k:∀(k n:Nat),b7y k n=c3r k n
 | 0,n=>rfl
 | k+1,n=>by
  unfold b7y c3r
  by_cases h:n<10
  ·
   rw[decide_eq_true h,cond_true,if_pos h]
  ·
   rw[decide_eq_false h,cond_false,if_neg h,c8k k (n / 10)]
theorem a2q {n:Int} (h:0≤n):X2 n=a2c n:=by
 unfold X2 b4r a2c
 rw[decide_eq_false (show ¬n<0 by omega),cond_false,c8k]
theorem e7z {n:Int} (h:n<0):X2 n=ByteArray.mk (Array.mk [45])++a2c (n.natAbs:Nat):=by
 unfold X2 b4r a2c
 rw[decide_eq_true h,cond_true,Int.toNat_natCast,c8k]
 exact g3d [45] (c3r 20 n.natAbs)
theorem b5f (a b c:ByteArray):a++b++c=a++(b++c):=ByteArray.ext (by simp[ByteArray.data_append])
theorem g2p {n d:Int} (h:k8 n d=0):e8k n d=c4j n d:=by
 have hr:=c5f (n:=n) (d:=d) (by rw[h];rfl)
 unfold e8k c4j
 rw[h]
 have e0:((0:Int) !=0)=false:=rfl
 rw[e0,cond_false,cond_false]
 have hd:(d !=1)=decide (d>1):=by
  by_cases g:d=1
  ·
   subst g;rfl
  ·
   rw[decide_eq_true (show d>1 by omega)];simpa using g
 rw[hd,a2q (n:=d) (by omega)]
 by_cases g:n<0
 ·
  rw[decide_eq_true g,e7z g,cond_true,b5f,b5f,b5f]
 ·
  rw[decide_eq_false g,a2q (by omega),cond_false,show ((n.natAbs:Nat):Int)=n by omega,b5f]
theorem c6j (a b:ByteArray):D5 (a++b)=D5 a++D5 b:=by
 unfold D5;rw[ByteArray.data_append];simp
theorem c9v:∀(l:List D) (fi nl:Bool) (xs:List D) (a:ByteArray),(C7 fi nl (xs++D5 a) l).2=xs++D5 (u5 fi a l)
 | [],fi,nl,xs,a=>rfl
 | x::r,fi,nl,xs,a=>by
  have e:B7 fi (xs++D5 a) (A2 x)=xs++D5 (bif fi then a++A2 x else a++ByteArray.mk (Array.mk [32])++A2 x):=by
   unfold B7
   cases fi<;>simp only[cond_true,cond_false,c6j,List.append_assoc]<;>rfl
  unfold u5 C7
  rw[←c9v r false _ _ _, ←e]
theorem c9u (fi nl:Bool) (xs l:List D):(C7 true nl (B7 fi xs (ByteArray.mk (Array.mk [40]))) l).2++ [bD8 41]=B7 fi xs (G7 l):=by
 have h:∀zs:List D,(C7 true nl (zs++D5 (ByteArray.mk (Array.mk [40]))) l).2++ [bD8 41]=zs++D5 (G7 l):=fun zs=>by
  rw[c9v]
  unfold G7
  rw[c6j,List.append_assoc]
  rfl
 unfold B7
 cases fi
 ·
  exact h _
 ·
  exact h _
theorem b4s {i:Nat} {y:D} (h:N7 i y=false):D9 i y= []:=by unfold D9;rw[h];rfl
theorem e3f (y:D):D9 15 y++D9 19 y++D9 23 y=D9 23 y++D9 15 y++D9 19 y:=by
 cases h:kd y==7 with
 | false=>rw[b4s (i:=23) (y:=y) h];simp
 | true =>
  have hk:kd y=7:=by simpa using h
  have h15:N7 15 y=false:=by show hN (kd y) (fc y)=false;rw[hk];rfl
  have h19:N7 19 y=false:=by show ab (hT (kd y) (fc y)) (kd y !=5)=false;rw[hk];rfl
  rw[b4s h15,b4s h19];simp
theorem d2c (y:D):D9 27 y++D9 31 y=D9 31 y++D9 27 y:=by
 cases h:hP (kd y) with
 | false=>rw[b4s (i:=27) (y:=y) h];simp
 | true =>
  have hk:kd y=4∨kd y=9:=by
   unfold hP at h
   cases g:kd y==4 with
   | true=>left;simpa using g
   | false=>right;rw[g] at h;simpa [ob] using h
  have h31:N7 31 y=false:=by
   show hM (kd y)=false
   rcases hk with hk|hk<;>rw[hk]<;>rfl
  rw[b4s h31];simp
end Go.Ev.R2
end
section
namespace Go.Ev.R2
open Go Go.Ev Go.Proofs
set_option maxRecDepth 100000
abbrev wN (w r:A6) (t:D) (fi:Bool):Box:=.cells 75 [.opt w 0, .ref r, .d t,A7 fi]
abbrev hB (w:A6):Box:=.cells 113 [.ptr w 0]
def a7e (u:TypeId) (its:D→List D) (pre:D→Prop) (old:Bool→List D→Box):Sm:=⟨fun vals bs=>match bs with | [_, .cells _ cs,_, .arr _ _ _ _ xs _]=>pre (yOf cs)∧M2 (xs.length+H8 (its (yOf cs))+1)|_=>False,fun vals bs=>match vals,bs with
 | [.ptr [0,0] 0, .ptr [0,1] 0], [.cells 113 [.ptr [0,2] 0], .cells v cs, .cells 75 [.opt [0,2] 0, .ref [0,3], .d t, .d (.lit (.bool fi))], .arr true nl 5 1 xs []]=>bif v==u then one (.d (.tup [])) [hB [0,2], .cells v cs,wN [0,2] [2] t (fiA fi (its (yOf cs))),old nl xs] [buf (C7 fi nl xs (its (yOf cs))).1 (C7 fi nl xs (its (yOf cs))).2] else none
 | _,_=>none⟩
def u0 (K:FuncId) (u:TypeId) (its:D→List D) (pre:D→Prop):Sm:=⟨fun vals bs=>match bs with | [_,_, .cells _ cs, .arr _ _ _ _ xs _]=>pre (yOf cs)∧M2 (xs.length+H8 (its (yOf cs))+3)|_=>False,fun vals bs=>match vals,bs with
 | [.ptr [0,0] 0, .fn (.func K') [] [.ptr [0,1] 0, .ptr [0,2] 0]], [.cells 75 [.opt [0,0] 0, .ref [0,3], .d t, .d (.lit (.bool fi))], .cells 113 [.ptr [0,0] 0], .cells v cs, .arr true nl 5 1 xs []]=>bif K'==K&&v==u then one (.d (.tup [])) [wN [0,0] [2] t false,hB [0,0], .cells v cs,S2 nl xs] [buf false (B7 fi xs (G7 (its (yOf cs))))] else none
 | _,_=>none⟩
noncomputable def noS:Sm:=⟨fun _ _=>False,fun _ _=>none⟩
def n7 (a b:Sm):Sm:=⟨fun v bs=>match a.f v bs with|some _=>a.pre v bs|none=>b.pre v bs,fun v bs=>match a.f v bs with|some r=>some r|none=>b.f v bs⟩
abbrev c2o (y:D):List V:=[.d (iC y 0), .d (sC y 1), .d (sC y 2)]
noncomputable def mIt (y:D):List D:=[wdD opR (A1 (A0 y 0)),sDD y 1,qDD y 2]
abbrev b5c (n:Nat):List (List (A6×A6)):=[[([0,0],[0,0]),([0,1],[0,1]),([0,2],[0,2]),([0,3],[0,3]),([2],[n,2])]]
theorem h2z (t:D) (y:D) (fi:Bool) (nl:Bool) (xs:List D) (R:V→List Box→Prop):(E4 (Cn T88) T88 (K4 (e5i.add 84 noS)) 4 B6 B1 [Ad.opt [0,2] 0 [0,2] 0] (b5c 20) 156
 [V.ptr [0,0] 0,V.ptr [0,1] 0] (G3 [hB [0,2],Box.cells 98 (c2o y),wN [0,2] [0,3] t fi,buf nl xs]) R) =
 (True∧
 ((((0:Int)≤IntKind.i64.wrap (A1 (A0 y 0)-1))∧((IntKind.i64.wrap (A1 (A0 y 0)-1)).toNat<6∧zD (A2 (o5.getD (IntKind.i64.wrap (A1 (A0 y 0)-1)).toNat D.any)) =
 o5.getD (IntKind.i64.wrap (A1 (A0 y 0)-1)).toNat D.any))∧
 (s86.pre
 [V.ptr [0,0] 0,
 C0 (A2 (o5.getD (IntKind.i64.wrap (A1 (A0 y 0)-1)).toNat D.any))]
 [Box.cells 75 [V.opt [0,0] 0,V.ref [0,1],V.d t,A7 fi],Box.arr true nl 5 1 xs []]∧
 (s86.pre [V.ptr [0,0] 0,C0 (A2 (A0 y 1))]
 [Box.cells 75 [V.opt [0,0] 0,V.ref [0,1],V.d t,A7 false],
 Box.arr true (G6 fi nl (A2 (o5.getD (IntKind.i64.wrap (A1 (A0 y 0)-1)).toNat D.any))) 5 1
 (B7 fi xs (A2 (o5.getD (IntKind.i64.wrap (A1 (A0 y 0)-1)).toNat D.any))) []]∧
 ((A2 (A0 y 2)).size.le 17592186044400∧
 (s86.pre [V.ptr [0,0] 0,C0 (L7 (A2 (A0 y 2)))]
 [Box.cells 75 [V.opt [0,0] 0,V.ref [0,1],V.d t,A7 false],
 Box.arr true false 5 1
 (B7 false (B7 fi xs (A2 (o5.getD (IntKind.i64.wrap (A1 (A0 y 0)-1)).toNat D.any)))
 (A2 (A0 y 1)))
 []]∧
 R (V.d (D.tup []))
 [Box.cells 113 [V.ptr [0,2] 0],
 Box.cells 98
 [A4 (A1 (A0 y 0)),C0 (A2 (A0 y 1)),
 C0 (A2 (A0 y 2))],
 Box.cells 75 [V.opt [0,2] 0,V.ref [2],V.d t,A7 false],Box.arr false nl 5 1 xs [],
 Box.arr true false 5 1
 (B7 false
 (B7 false (B7 fi xs (A2 (o5.getD (IntKind.i64.wrap (A1 (A0 y 0)-1)).toNat D.any)))
 (A2 (A0 y 1)))
 (L7 (A2 (A0 y 2))))
 []])))))):=by kernel_rfl
noncomputable def g5r:Sm:=a7e 98 mIt MTx S2
noncomputable def g3x:J5:=(e5i.add 84 noS).add 156 g5r
abbrev c8g (n:Nat):List (List (A6×A6)):=[[([0,0],[0,0]),([0,1],[0,1]),([0,2],[0,2]),([0,3],[0,3]),([2],[n,2])]]
abbrev o9:ByteArray:=⟨#[40]⟩
def c7j (S:Sm) (v:TypeId) (cs:List V) (its:List D) (t:D) (fi nl:Bool) (xs:List D) (R:V→List Box→Prop):Prop :=
 s86.pre [.ptr [0,0] 0,C0 o9] [wB [0,1] t fi,buf nl xs]∧S.pre [.ptr [0,0] 0, .ptr [0,1] 0] [hB [0,2], .cells v cs,wN [0,2] [0,3] t true,buf (G6 fi nl o9) (B7 fi xs o9)]∧
 b7t.pre [.ptr [0,0] 0, .d (.lit (.int .u8 41))] [wB [0,1] t (fiA true its),a4c true (G6 fi nl o9) (B7 fi xs o9) its]∧
 R (.d (.tup [])) [wN [0,0] [2] t false,hB [0,0], .cells v cs,S2 nl xs,buf false ((C7 true (G6 fi nl o9) (B7 fi xs o9) its).2++ [bD8 41])]
theorem g9m (t y:D) (fi nl:Bool) (xs:List D) (R:V→List Box→Prop):E4 (Cn T88) T88 (K4 g3x) 4 B6 B1 adW (c8g 16) 84 [.ptr [0,0] 0, .fn (.func 156) [] [.ptr [0,1] 0, .ptr [0,2] 0]] (G3 [wN [0,0] [0,3] t fi,hB [0,0], .cells 98 (c2o y),buf nl xs]) R=c7j (a7e 98 mIt MTx S2) 98 (c2o y) (mIt (yOf (c2o y))) t fi nl xs R:=by kernel_rfl
theorem a3i:∀{cs:List V} {ds:List D},yOf cs= .agg ds→(∀d∈ds,d≠ .any)→cs=ds.map V.d
 | [],ds,h,_=>by
  injection h with h;simp at h;subst h;rfl
 | v::cs, [],h,_=>by injection h with h;simp at h
 | v::cs,d::ds,h,hn=>by
  injection h with h
  simp only[List.map_cons,List.cons.injEq] at h
  have ih:=a3i (cs:=cs) (ds:=ds) (by unfold yOf;rw[h.2]) fun x hx=>hn x (by simp[hx])
  have hd:=hn d (by simp)
  rw[List.map_cons,ih]
  congr 1
  have h1:=h.1
  split at h1
  ·
   subst h1;rfl
  ·
   exact absurd h1.symm hd
theorem b4k {l r:List D} (h:r=sB []::l) (hw:Lim 16 r) {k:Int} (h1:1≤k) (h2:k.toNat<r.length) (h3:r.length≤100) :
  (0≤IntKind.i64.wrap (k-1)∧(IntKind.i64.wrap (k-1)).toNat<l.length∧ .lit (.string (A2 (r.getD k.toNat .any)))=l.getD (IntKind.i64.wrap (k-1)).toNat .any)∧A2 (l.getD (IntKind.i64.wrap (k-1)).toNat .any)=A2 (r.getD k.toNat .any):=by
 rw[Go.IntWalk.i64_in _ (by omega)]
 obtain ⟨j,hj⟩:∃j,k.toNat=j+1:=⟨k.toNat-1,by omega⟩
 have hj':(k-1).toNat=j:=by omega
 have hl:j<l.length:=by rw[h,hj] at h2;simpa using h2
 have e:r.getD k.toNat .any=l.getD j .any:=by rw[h,hj];simp[List.getD]
 rw[hj',e]
 refine ⟨⟨by omega,hl, ?_⟩,rfl⟩
 exact (hw _ (by rw[h];exact List.mem_cons_of_mem _ (F4 (xs:=l) hl))).1
theorem d2d:opR=sB []::o5:=rfl
theorem c9f:L9=sB []::L6:=rfl
theorem e3e:a6e=sB []::a7v:=rfl
theorem a3b {fi:Bool} {xs l:List D} {s:ByteArray} (h:xs.length+(s.size+1+H8 l)≤70368744177664):xs.length+1+s.size≤70368744177664∧(B7 fi xs s).length+H8 l≤70368744177664:=by
 have:=P8 fi xs s
 exact ⟨by omega,by omega⟩
theorem a4h.cs {cs:List V} (h:a4h (yOf cs)):∃y,cs=c2o y:=⟨yOf cs,a3i (ds:=[iC (yOf cs) 0,sC (yOf cs) 1,sC (yOf cs) 2]) (Eq.symm h) (by intro d hd;simp at hd;rcases hd with rfl|rfl|rfl<;>simp)⟩
theorem g5u:H5 B (e5i.add 84 noS):=M8 f3a fun vals bs c x y hp hf=>by cases hf
theorem h3x:H5 B g3x:=by
 refine M8 g5u fun vals bs c x y hp hf=>?_
 unfold g5r a7e at hp hf
 simp only[] at hp hf
 split at hf
 case h_2=>cases hf
 rename_i v cs t fi nl xs
 cases hv:v==98 with
 | false=>rw[hv] at hf;cases hf
 | true =>
  obtain rfl:v=98:=by simpa using hv
  simp only[one,hv,cond_true,Option.some.injEq,Prod.mk.injEq] at hf
  obtain ⟨rfl,rfl,rfl⟩:=hf
  obtain ⟨hm,hr⟩:=hp
  obtain ⟨y,rfl⟩:=hm.1.cs
  have hr:xs.length+((A2 (opR.getD (A1 (A0 y 0)).toNat .any)).size+1+H8 [sDD y 1,qDD y 2])≤70368744177664:=Nat.le_trans (Nat.le_succ _) hr
  obtain ⟨hf,k1,k2,z1,z2⟩:=hm
  obtain ⟨n1,n2⟩:=b4k (k:=A1 (A0 y 0)) d2d b8g k1 k2 (by decide)
  refine E9 B9 k88 g5u (fn:=Tryz.f156) (cd:=B2 Tryz.f156) (sp:=B6) (hn:=B1) (k:=4) (ads:=[.opt [0,2] 0 [0,2] 0]) (ends:=b5c 20) Tryz.func156 (by kernel_rfl) (by kernel_rfl) (by kernel_rfl) (by kernel_rfl) A8 rfl rfl (keep (h2z t y fi nl xs _) ?_)
  rw[n2]
  obtain ⟨r1,r2⟩:=a3b (fi:=fi) hr
  obtain ⟨r3,r4⟩:=a3b (fi:=false) (s:=A2 (A0 y 1)) r2
  obtain ⟨r5,r6⟩:=a3b (fi:=false) (s:=L7 (A2 (A0 y 2))) r4
  refine ⟨(by trivial),n1,r1,r3,Nat.le_trans z2 (by decide),r5,rfl, ?_⟩
  cases fi<;>rfl
theorem f6x {stb:J5} {K:FuncId} {S old:Sm} (hs:H5 B stb) (ho:stb K=some old) (hc:∀vals bs c x y,S.pre vals bs→S.f vals bs=some (c,x,y)→M4 B.P K∧N9 B K vals (G3 bs) fun r' H'=>r'=(bif c then x else y).1∧H'=V2 (bif c then x else y).2.1 (bif c then x else y).2.2):H5 B (stb.add K (n7 S old)):=by
 refine M8 hs fun vals bs c x y hp hf=>?_
 unfold n7 at hp hf
 simp only[] at hp hf
 cases h:S.f vals bs with
 | some r=>rw[h] at hp hf;exact hc vals bs c x y hp (by rw[h];exact hf)
 | none=>rw[h] at hp hf;exact hs K old vals bs c x y ho hp hf
theorem W4 (its:List D):H8 its+1≤(G7 its).size:=by
 have key:∀(l:List D) (f:Bool) (a:ByteArray),a.size+H8 l≤(u5 f a l).size+(bif f then 1 else 0):=by
  intro l
  induction l with
  | nil=>intro f a;simp[H8,u5]
  | cons y l ih =>
   intro f a
   unfold u5 H8
   have:=ih false (bif f then a++A2 y else a++ByteArray.mk (Array.mk [32])++A2 y)
   cases f
   ·
    simp only[cond_false,a3h] at this ⊢
    have e:(ByteArray.mk (Array.mk [32])).size=1:=rfl
    rw[e] at this;omega
   ·
    simp only[cond_true,cond_false,a3h] at this ⊢
    omega
 have:=key its true (ByteArray.mk (Array.mk [40]))
 unfold G7
 rw[a3h]
 have e1:(ByteArray.mk (Array.mk [40])).size=1:=rfl
 have e2:(ByteArray.mk (Array.mk [41])).size=1:=rfl
 rw[e1] at this
 rw[e2]
 simp only[cond_true] at this
 omega
theorem f9q {S:Sm} {v:TypeId} {cs:List V} {its:List D} {t:D} {fi nl:Bool} {xs:List D} {R:V→List Box→Prop} (hr:xs.length+H8 its+3≤70368744177664)
  (hS:(B7 fi xs o9).length+H8 its+1≤70368744177664→S.pre [.ptr [0,0] 0, .ptr [0,1] 0] [hB [0,2], .cells v cs,wN [0,2] [0,3] t true,buf (G6 fi nl o9) (B7 fi xs o9)])
  (hR:R (.d (.tup [])) [wN [0,0] [2] t false,hB [0,0], .cells v cs,S2 nl xs,buf false (B7 fi xs (G7 its))]):c7j S v cs its t fi nl xs R:=by
 have h1:(B7 fi xs o9).length≤xs.length+1+1:=P8 fi xs o9
 have h2:=k9 its true (G6 fi nl o9) (B7 fi xs o9)
 refine ⟨by show xs.length+1+1≤70368744177664;omega,hS (by omega),by show (C7 true (G6 fi nl o9) (B7 fi xs o9) its).2.length+1≤70368744177664;omega, ?_⟩
 rw[c9u]
 exact hR
theorem a6g {U:J5} (hU:H5 B U) {old:Sm} (ho:U 84=some old) {K:FuncId} {u:TypeId} {its:D→List D} {pre:D→Prop} {ob:Bool→List D→Box} {mk:D→List V} (hmk:∀cs,pre (yOf cs)→∃y,cs=mk y)
  (hw:∀(t y:D) (fi nl:Bool) (xs:List D) (R:V→List Box→Prop),E4 (Cn T88) T88 (K4 U) 4 B6 B1 adW (c8g 16) 84 [.ptr [0,0] 0, .fn (.func K) [] [.ptr [0,1] 0, .ptr [0,2] 0]] (G3 [wN [0,0] [0,3] t fi,hB [0,0], .cells u (mk y),buf nl xs]) R=c7j (a7e u its pre ob) u (mk y) (its (yOf (mk y))) t fi nl xs R) :
  H5 B (U.add 84 (n7 (u0 K u its pre) old)):=by
 refine f6x hU ho fun vals bs c x y hp hf=>?_
 unfold u0 at hp hf
 simp only[] at hp hf
 split at hf
 case h_2=>cases hf
 rename_i K' t fi v cs nl xs
 cases hv:(K'==K&&v==u) with
 | false=>rw[hv] at hf;cases hf
 | true =>
  obtain ⟨h1,h2⟩:K'=K∧v=u:=by simpa using hv
  subst h1 h2
  simp only[one,hv,cond_true,Option.some.injEq,Prod.mk.injEq] at hf
  obtain ⟨rfl,rfl,rfl⟩:=hf
  obtain ⟨hm,hr⟩:=hp
  obtain ⟨y,rfl⟩:=hmk _ hm
  refine E9 B9 k88 hU (fn:=Tryz.f84) (cd:=B2 Tryz.f84) (sp:=B6) (hn:=B1) (k:=4) (ads:=adW) (ends:=c8g 16) Tryz.func84 (by kernel_rfl) (by kernel_rfl) (by kernel_rfl) (by kernel_rfl) A8 rfl rfl (keep (hw t y fi nl xs _) ?_)
  exact f9q hr (fun h=>⟨hm,h⟩) ⟨rfl,rfl⟩
noncomputable def f5h:J5:=g3x.add 84 (n7 (u0 156 98 mIt MTx) noS)
theorem f2y:H5 B f5h:=a6g h3x rfl (fun cs h=>h.1.cs) g9m
noncomputable def l90:Code:=F5 (F9 (B2 Tryz.f90) 4)
abbrev aI:List (A6×A6):=[([0,0],[0,0]),([5001],[4]),([5000],[0,1])]
abbrev aJ (n:A6):List (A6×A6):=[([0,0],[0,0]),([5001],[5001]),([5000],n),([0,1],[0,1])]
abbrev aN:List A6:=[[0,0],[5001],[5000],[0,1]]
abbrev eW2:List (List (A6×A6)):=[[([0,0],[0,0]),([0,1],[0,1]),([2],[5000])]]
def d8g (N:Nat) (z:Nat) (ok:List D→Prop) (g:D→D):Ev.Spec:={L:=[2,6,7,8],ns:=aI,L':=[],nm':=aN,G:=fun M vals bs k=>match vals,bs with
 | [.ptr [5001] 0, .d (.slice b e ys), .d (.lit (.int .i64 n)), .d (.lit (.int .i64 i))], [.cells 75 [.opt [0,0] 0, .ref [5000], .d t, .d (.lit (.bool fi))], .cells 113 [.ptr [0,0] 0], .arr true nl 5 1 xs [], .junk]=>(M=N∧e=z∧i=0∧n=ys.length∧ok ys∧M2 (xs.length+H8 (ys.map g)+1))∧k (.exit 0) [] [wB [5000] t (fiA fi ys),hB [0,0],a4c fi nl xs (ys.map g), .junk]
 | _,_=>False }
def e6k (z:Nat) (ok:List D→Prop) (g:D→D):Sm:=⟨fun vals bs=>match vals,bs with | [_, .d (.slice _ _ ys)], [_, .arr _ _ _ _ xs _]=>ok ys∧M2 (xs.length+H8 (ys.map g)+1)|_,_=>False,fun vals bs=>match vals,bs with
 | [.ptr [0,0] 0, .d (.slice _ e ys)], [.cells 75 [.opt [0,0] 0, .ref [0,1], .d t, .d (.lit (.bool fi))], .arr true nl 5 1 xs []]=>bif e==z then one (.d (.tup [])) [wB [2] t (fiA fi ys), .junk] [buf (C7 fi nl xs (ys.map g)).1 (C7 fi nl xs (ys.map g)).2] else none
 | _,_=>none⟩
theorem b90 (t:D) (fi:Bool) (nl:Bool) (b:Bool) (xs:List D) (ys:List D) (n:Int) (i:Int) (R:X→List V→List Box→Prop):(G0 (Cn T88) T88 (K4 f5h) 2 B6 B1 l90 16 [2,6,7,8] aN [] (aJ [16,2]) [] (aJ [5000])
 [V.ptr [5001] 0,V.d (D.slice b 3 ys),A4 n,A4 i] [wB [5000] t fi,hB [0,0],buf nl xs,Box.junk] R) =
 (bif decide (i<n) then
 ((((0:Int)≤i)∧(i.toNat<ys.length∧mV (ys.getD i.toNat D.any)=ys.getD i.toNat D.any))∧
 ((n7 (u0 156 98 mIt MTx) noS).pre [V.ptr [0,0] 0,V.fn (Fn.func 156) [] [V.ptr [0,1] 0,V.ptr [0,2] 0]]
 [Box.cells 75 [V.opt [0,0] 0,V.ref [0,3],V.d t,A7 fi],Box.cells 113 [V.ptr [0,0] 0],
 Box.cells 98
 [A4 (A1 (A0 (ys.getD i.toNat D.any) 0)),
 C0 (A2 (A0 (ys.getD i.toNat D.any) 1)),
 C0 (A2 (A0 (ys.getD i.toNat D.any) 2))],
 Box.arr true nl 5 1 xs []]∧
 (16=16∧
 R X.normal
 [V.ptr [5001] 0,V.d (D.slice b 3 ys),A4 n,
 A4 (IntKind.i64.wrap (i+1))]
 [Box.cells 75 [V.opt [0,0] 0,V.ref [5000],V.d t,A7 false],Box.cells 113 [V.ptr [0,0] 0],
 Box.arr true false 5 1
 (B7 fi xs
 (G7
 [zD (A2
 (opR.getD (A1 (iD (A1 (A0 (ys.getD i.toNat D.any) 0)))).toNat
 D.any)),
 zD (A2 (zD (A2 (A0 (ys.getD i.toNat D.any) 1)))),
 zD (L7 (A2 (zD (A2 (A0 (ys.getD i.toNat D.any) 2)))))]))
 [],
 Box.junk]))) else
 (16=16∧
 R (X.exit 0) []
 [Box.cells 75 [V.opt [0,0] 0,V.ref [5000],V.d t,A7 fi],Box.cells 113 [V.ptr [0,0] 0],
 Box.arr true nl 5 1 xs [],Box.junk])):=by kernel_rfl
noncomputable def S90:Ev.Spec:=d8g 16 3 c4o S0
theorem w90 (t:D) (fi nl b:Bool) (xs ys:List D) (R:V→List Box→Prop):E4 (Cn T88) T88 (K4 f5h) 2 (spL [(4,S90)]) B1 adW eW2 90 [.ptr [0,0] 0, .d (.slice b 3 ys)] (G3 [wB [0,1] t fi,buf nl xs]) R=((16=16∧3=3∧(0:Int)=0∧(ys.length:Int)=ys.length∧c4o ys∧M2 (xs.length+H8 (ys.map S0)+1))∧R (.d (.tup [])) [wB [2] t (fiA fi ys), .junk,a4c fi nl xs (ys.map S0)]):=by kernel_rfl
noncomputable def s90:Sm:=e6k 3 c4o S0
noncomputable def U90:J5:=f5h.add 90 s90
theorem d8d {C:Cx} {l:Code} {N z:Nat} {ok:List D→Prop} {g:D→D} (hN:∀ys,ok ys→ys.length≤4096)
  (h1:∀(t:D) (b fi nl:Bool) (xs ys:List D) (i:Nat) (K:X→List V→List Box→Prop),ok ys→i<ys.length→M2 (xs.length+1+(A2 (g (ys.getD i .any))).size+1)→N2 C 2 l N [2,6,7,8] aN [] aN [.ptr [5001] 0, .d (.slice b z ys),A4 ys.length,A4 ((i+1:Nat):Int)] [wB [5000] t false,hB [0,0],buf (G6 fi nl (A2 (g (ys.getD i .any)))) (B7 fi xs (A2 (g (ys.getD i .any)))), .junk] K→N2 C 2 l N [2,6,7,8] aN [] aN [.ptr [5001] 0, .d (.slice b z ys),A4 ys.length,A4 i] [wB [5000] t fi,hB [0,0],buf nl xs, .junk] K)
  (h2:∀(t:D) (b fi nl:Bool) (xs ys:List D) (K:X→List V→List Box→Prop),K (.exit 0) [] [wB [5000] t fi,hB [0,0],buf nl xs, .junk]→N2 C 2 l N [2,6,7,8] aN [] aN [.ptr [5001] 0, .d (.slice b z ys),A4 ys.length,A4 ys.length] [wB [5000] t fi,hB [0,0],buf nl xs, .junk] K):OkS C 2 (.loop l) (d8g N z ok g):=by
 refine F3 fun M vals bs K h=>?_
 simp only[d8g] at h
 split at h
 case h_2=>exact h.elim
 rename_i b e ys n i t fi nl xs
 obtain ⟨⟨rfl,rfl,rfl,rfl,hall,hr⟩,h⟩:=h
 exact d8e (vals:=fun i=>[.ptr [5001] 0, .d (.slice b e ys),A4 ys.length,A4 i]) (bsO:=fun fi r=>[wB [5000] t fi,hB [0,0],r, .junk]) (e:=0) (valsX:=[]) ys g 1 (fun i fi nl xs hi hr hK=>h1 t b fi nl xs ys i K hall hi hr hK) (fun fi nl xs hK=>h2 t b fi nl xs ys K hK) ys 0 fi nl xs rfl (by simp) hr h
theorem b9i {i:Nat} {ys:List D} (h:i<ys.length) (hl:ys.length≤4096):decide ((i:Int)<(ys.length:Int))=true∧IntKind.i64.wrap ((i:Int)+1)=((i+1:Nat):Int):=⟨by simp;omega,by rw[Go.IntWalk.i64_in _ (by omega)];omega⟩
theorem b9h {n:Nat}:decide ((n:Int)<(n:Int))=false:=by simp
theorem b4i {fi nl:Bool} {its:List D}:G6 fi nl (G7 its)=false:=by
 have h:(D5 (G7 its)).isEmpty=false:=by
  cases e:D5 (G7 its) with
  | nil =>
   have h1:=W4 its
   have h2:=m8 (G7 its)
   rw[e] at h2;simp at h2;omega
  | cons a l=>rfl
 unfold G6
 rw[h]
 cases fi
 ·
  rfl
 ·
  cases nl<;>rfl
theorem h4a:OkS (Cn T88) 2 (.loop l90) S90:=by
 refine d8d (fun ys h=>Nat.le_trans h.1 (by decide)) (fun t b fi nl xs ys i K hall hi hr hK=>?_) fun t b fi nl xs ys K hK=>?_
 ·
  refine C1 (M7 B9 k88 f2y) C4 A8 (hn:=B1) (adsI:=[]) (nsI:=aJ [16,2]) (nsX:=aJ [5000]) rfl rfl (keep (b90 t fi nl b xs ys ys.length i _) ?_)
  obtain ⟨e1,e2⟩:=b9i hi (Nat.le_trans hall.1 (by decide))
  have hm:=hall.2 _ (F4 hi)
  rw[show A2 (S0 (ys.getD i .any))=G7 (mIt (ys.getD i .any)) from rfl,b4i] at hK
  have hl:=W4 (mIt (ys.getD i .any))
  simp only[e1,Int.toNat_natCast,e2,cond_true]
  have hr:xs.length+1+(G7 (mIt (ys.getD i .any))).size+1≤70368744177664:=hr
  refine ⟨⟨by omega,hi,hm.1⟩,⟨by show MTx (mV _);rw[show mV (ys.getD i .any)=ys.getD i .any from hm.1];exact hm,by show xs.length+H8 (mIt (ys.getD i .any))+3≤_;omega⟩,(by trivial),hK⟩
 ·
  refine C1 (M7 B9 k88 f2y) C4 A8 (hn:=B1) (adsI:=[]) (nsI:=aJ [16,2]) (nsX:=aJ [5000]) rfl rfl (keep (b90 t fi nl b xs ys ys.length ys.length _) ?_)
  rw[b9h]
  exact ⟨(by trivial),hK⟩
theorem q90:H5 B U90:=by
 refine M8 f2y fun vals bs c x y hp hf=>?_
 unfold s90 e6k at hp hf
 simp only[] at hp hf
 split at hf
 case h_2=>cases hf
 rename_i b e ys t fi nl xs
 cases hv:e==3 with
 | false=>rw[hv] at hf;cases hf
 | true =>
  obtain rfl:e=3:=by simpa using hv
  simp only[one,hv,cond_true,Option.some.injEq,Prod.mk.injEq] at hf
  obtain ⟨rfl,rfl,rfl⟩:=hf
  refine E9 B9 k88 f2y (fn:=Tryz.f90) (cd:=B2 Tryz.f90) (sp:=spL [(4,S90)]) (hn:=B1) (k:=2) (ads:=adW) (ends:=eW2) Tryz.func90 (by kernel_rfl) (by kernel_rfl) (by kernel_rfl) (by kernel_rfl) (C9 (c:=.loop l90) (by kernel_rfl) h4a E5) rfl rfl (keep (w90 t fi nl b xs ys _) ?_)
  exact ⟨⟨rfl,rfl,rfl,rfl,hp⟩,rfl,rfl⟩
abbrev a6i (y:D):List V:=[.d (iC y 0), .d (sC y 1), .d (lC y 2 3), .d (lC y 3 1)]
abbrev b3e (y:D):List V:=[.d (sC y 0), .d (iC y 1), .d (sC y 2), .d (iC y 3)]
abbrev adC:List Ad:=[.opt [0,2] 0 [0,2] 0]
theorem h2u (t:D) (y:D) (fi:Bool) (nl:Bool) (xs:List D) (R:V→List Box→Prop):(E4 (Cn T88) T88 (K4 U90) 4 B6 B1 adC (b5c 27) 161 [V.ptr [0,0] 0,V.ptr [0,1] 0]
 (G3 [hB [0,2],Box.cells 65 (a6i y),wN [0,2] [0,3] t fi,buf nl xs]) R) =
 (True∧
 ((((0:Int)≤IntKind.i64.wrap (A1 (A0 y 0)-1))∧((IntKind.i64.wrap (A1 (A0 y 0)-1)).toNat<8∧zD (A2 (L6.getD (IntKind.i64.wrap (A1 (A0 y 0)-1)).toNat D.any)) =
 L6.getD (IntKind.i64.wrap (A1 (A0 y 0)-1)).toNat D.any))∧
 (s86.pre
 [V.ptr [0,0] 0,
 C0 (A2 (L6.getD (IntKind.i64.wrap (A1 (A0 y 0)-1)).toNat D.any))]
 [Box.cells 75 [V.opt [0,0] 0,V.ref [0,1],V.d t,A7 fi],Box.arr true nl 5 1 xs []]∧
 (bif decide (A1 (A0 y 0)≤3) then
 ((A2 (A0 y 1)).size.le 17592186044400∧
 (s86.pre [V.ptr [0,0] 0,C0 (L7 (A2 (A0 y 1)))]
 [Box.cells 75 [V.opt [0,0] 0,V.ref [0,1],V.d t,A7 false],
 Box.arr true (G6 fi nl (A2 (L6.getD (IntKind.i64.wrap (A1 (A0 y 0)-1)).toNat D.any))) 5 1
 (B7 fi xs (A2 (L6.getD (IntKind.i64.wrap (A1 (A0 y 0)-1)).toNat D.any))) []]∧
 (s90.pre [V.ptr [0,0] 0,V.d (D.slice (F1 (A0 y 2)) 3 (A3 (A0 y 2)))]
 [Box.cells 75 [V.opt [0,0] 0,V.ref [0,1],V.d t,A7 false],
 Box.arr true false 5 1
 (B7 false (B7 fi xs (A2 (L6.getD (IntKind.i64.wrap (A1 (A0 y 0)-1)).toNat D.any)))
 (L7 (A2 (A0 y 1))))
 []]∧
 (e2w.pre [V.ptr [0,0] 0,V.d (D.slice (F1 (A0 y 3)) 1 (A3 (A0 y 3)))]
 [Box.cells 75 [V.opt [0,0] 0,V.ref [0,1],V.d t,A7 false],
 Box.arr true
 (C7 false false
 (B7 false (B7 fi xs (A2 (L6.getD (IntKind.i64.wrap (A1 (A0 y 0)-1)).toNat D.any)))
 (L7 (A2 (A0 y 1))))
 (List.map S0 (A3 (A0 y 2)))).fst
 5 1
 (C7 false false
 (B7 false (B7 fi xs (A2 (L6.getD (IntKind.i64.wrap (A1 (A0 y 0)-1)).toNat D.any)))
 (L7 (A2 (A0 y 1))))
 (List.map S0 (A3 (A0 y 2)))).snd
 []]∧
 R (V.d (D.tup []))
 [Box.cells 113 [V.ptr [0,2] 0],
 Box.cells 65
 [A4 (A1 (A0 y 0)),C0 (A2 (A0 y 1)),
 V.d (D.slice (F1 (A0 y 2)) 3 (A3 (A0 y 2))),
 V.d (D.slice (F1 (A0 y 3)) 1 (A3 (A0 y 3)))],
 Box.cells 75 [V.opt [0,2] 0,V.ref [2],V.d t,A7 false],Box.arr false nl 5 1 xs [],
 Box.arr true
 (C7 false
 (C7 false false
 (B7 false (B7 fi xs (A2 (L6.getD (IntKind.i64.wrap (A1 (A0 y 0)-1)).toNat D.any)))
 (L7 (A2 (A0 y 1))))
 (List.map S0 (A3 (A0 y 2)))).fst
 (C7 false false
 (B7 false (B7 fi xs (A2 (L6.getD (IntKind.i64.wrap (A1 (A0 y 0)-1)).toNat D.any)))
 (L7 (A2 (A0 y 1))))
 (List.map S0 (A3 (A0 y 2)))).snd
 (A3 (A0 y 3))).fst
 5 1
 (C7 false
 (C7 false false
 (B7 false (B7 fi xs (A2 (L6.getD (IntKind.i64.wrap (A1 (A0 y 0)-1)).toNat D.any)))
 (L7 (A2 (A0 y 1))))
 (List.map S0 (A3 (A0 y 2)))).fst
 (C7 false false
 (B7 false (B7 fi xs (A2 (L6.getD (IntKind.i64.wrap (A1 (A0 y 0)-1)).toNat D.any)))
 (L7 (A2 (A0 y 1))))
 (List.map S0 (A3 (A0 y 2)))).snd
 (A3 (A0 y 3))).snd
 []])))) else
 (s90.pre [V.ptr [0,0] 0,V.d (D.slice (F1 (A0 y 2)) 3 (A3 (A0 y 2)))]
 [Box.cells 75 [V.opt [0,0] 0,V.ref [0,1],V.d t,A7 false],
 Box.arr true (G6 fi nl (A2 (L6.getD (IntKind.i64.wrap (A1 (A0 y 0)-1)).toNat D.any))) 5 1
 (B7 fi xs (A2 (L6.getD (IntKind.i64.wrap (A1 (A0 y 0)-1)).toNat D.any))) []]∧
 (e2w.pre [V.ptr [0,0] 0,V.d (D.slice (F1 (A0 y 3)) 1 (A3 (A0 y 3)))]
 [Box.cells 75 [V.opt [0,0] 0,V.ref [0,1],V.d t,A7 false],
 Box.arr true
 (C7 false (G6 fi nl (A2 (L6.getD (IntKind.i64.wrap (A1 (A0 y 0)-1)).toNat D.any)))
 (B7 fi xs (A2 (L6.getD (IntKind.i64.wrap (A1 (A0 y 0)-1)).toNat D.any)))
 (List.map S0 (A3 (A0 y 2)))).fst
 5 1
 (C7 false (G6 fi nl (A2 (L6.getD (IntKind.i64.wrap (A1 (A0 y 0)-1)).toNat D.any)))
 (B7 fi xs (A2 (L6.getD (IntKind.i64.wrap (A1 (A0 y 0)-1)).toNat D.any)))
 (List.map S0 (A3 (A0 y 2)))).snd
 []]∧
 R (V.d (D.tup []))
 [Box.cells 113 [V.ptr [0,2] 0],
 Box.cells 65
 [A4 (A1 (A0 y 0)),C0 (A2 (A0 y 1)),
 V.d (D.slice (F1 (A0 y 2)) 3 (A3 (A0 y 2))),
 V.d (D.slice (F1 (A0 y 3)) 1 (A3 (A0 y 3)))],
 Box.cells 75 [V.opt [0,2] 0,V.ref [2],V.d t,A7 false],Box.arr false nl 5 1 xs [],
 Box.arr true
 (C7 false
 (C7 false (G6 fi nl (A2 (L6.getD (IntKind.i64.wrap (A1 (A0 y 0)-1)).toNat D.any)))
 (B7 fi xs (A2 (L6.getD (IntKind.i64.wrap (A1 (A0 y 0)-1)).toNat D.any)))
 (List.map S0 (A3 (A0 y 2)))).fst
 (C7 false (G6 fi nl (A2 (L6.getD (IntKind.i64.wrap (A1 (A0 y 0)-1)).toNat D.any)))
 (B7 fi xs (A2 (L6.getD (IntKind.i64.wrap (A1 (A0 y 0)-1)).toNat D.any)))
 (List.map S0 (A3 (A0 y 2)))).snd
 (A3 (A0 y 3))).fst
 5 1
 (C7 false
 (C7 false (G6 fi nl (A2 (L6.getD (IntKind.i64.wrap (A1 (A0 y 0)-1)).toNat D.any)))
 (B7 fi xs (A2 (L6.getD (IntKind.i64.wrap (A1 (A0 y 0)-1)).toNat D.any)))
 (List.map S0 (A3 (A0 y 2)))).fst
 (C7 false (G6 fi nl (A2 (L6.getD (IntKind.i64.wrap (A1 (A0 y 0)-1)).toNat D.any)))
 (B7 fi xs (A2 (L6.getD (IntKind.i64.wrap (A1 (A0 y 0)-1)).toNat D.any)))
 (List.map S0 (A3 (A0 y 2)))).snd
 (A3 (A0 y 3))).snd
 []])))))):=by kernel_rfl
noncomputable def h3n:Sm:=a7e 65 o6 STx S2
noncomputable def g3u:J5:=U90.add 161 h3n
theorem g9n (t y:D) (fi nl:Bool) (xs:List D) (R:V→List Box→Prop):E4 (Cn T88) T88 (K4 g3u) 4 B6 B1 adW (c8g 16) 84 [.ptr [0,0] 0, .fn (.func 161) [] [.ptr [0,1] 0, .ptr [0,2] 0]] (G3 [wN [0,0] [0,3] t fi,hB [0,0], .cells 65 (a6i y),buf nl xs]) R=c7j (a7e 65 o6 STx S2) 65 (a6i y) (o6 (yOf (a6i y))) t fi nl xs R:=by kernel_rfl
noncomputable def f5i:J5:=g3u.add 84 (n7 (u0 161 65 o6 STx) (n7 (u0 156 98 mIt MTx) noS))
noncomputable def l93:Code:=F5 (F9 (B2 Tryz.f93) 4)
theorem b93 (t:D) (fi:Bool) (nl:Bool) (b:Bool) (xs:List D) (ys:List D) (n:Int) (i:Int) (R:X→List V→List Box→Prop):(G0 (Cn T88) T88 (K4 f5i) 2 B6 B1 l93 16 [2,6,7,8] aN [] (aJ [16,2]) [] (aJ [5000])
 [V.ptr [5001] 0,V.d (D.slice b 4 ys),A4 n,A4 i] [wB [5000] t fi,hB [0,0],buf nl xs,Box.junk] R) =
 (bif decide (i<n) then
 ((((0:Int)≤i)∧(i.toNat<ys.length∧gV (ys.getD i.toNat D.any)=ys.getD i.toNat D.any))∧
 ((n7 (u0 161 65 o6 STx) (n7 (u0 156 98 mIt MTx) noS)).pre
 [V.ptr [0,0] 0,V.fn (Fn.func 161) [] [V.ptr [0,1] 0,V.ptr [0,2] 0]]
 [Box.cells 75 [V.opt [0,0] 0,V.ref [0,3],V.d t,A7 fi],Box.cells 113 [V.ptr [0,0] 0],
 Box.cells 65
 [A4 (A1 (A0 (ys.getD i.toNat D.any) 0)),
 C0 (A2 (A0 (ys.getD i.toNat D.any) 1)),
 V.d (D.slice (F1 (A0 (ys.getD i.toNat D.any) 2)) 3 (A3 (A0 (ys.getD i.toNat D.any) 2))),
 V.d (D.slice (F1 (A0 (ys.getD i.toNat D.any) 3)) 1 (A3 (A0 (ys.getD i.toNat D.any) 3)))],
 Box.arr true nl 5 1 xs []]∧
 (16=16∧
 R X.normal
 [V.ptr [5001] 0,V.d (D.slice b 4 ys),A4 n,
 A4 (IntKind.i64.wrap (i+1))]
 [Box.cells 75 [V.opt [0,0] 0,V.ref [5000],V.d t,A7 false],Box.cells 113 [V.ptr [0,0] 0],
 Box.arr true false 5 1 (B7 fi xs (G7 (o6 (gV (ys.getD i.toNat D.any))))) [],Box.junk]))) else
 (16=16∧
 R (X.exit 0) []
 [Box.cells 75 [V.opt [0,0] 0,V.ref [5000],V.d t,A7 fi],Box.cells 113 [V.ptr [0,0] 0],
 Box.arr true nl 5 1 xs [],Box.junk])):=by kernel_rfl
noncomputable def S93:Ev.Spec:=d8g 16 4 d5g b5t
theorem w93 (t:D) (fi nl b:Bool) (xs ys:List D) (R:V→List Box→Prop):E4 (Cn T88) T88 (K4 f5i) 2 (spL [(4,S93)]) B1 adW eW2 93 [.ptr [0,0] 0, .d (.slice b 4 ys)] (G3 [wB [0,1] t fi,buf nl xs]) R=((16=16∧4=4∧(0:Int)=0∧(ys.length:Int)=ys.length∧d5g ys∧M2 (xs.length+H8 (ys.map b5t)+1))∧R (.d (.tup [])) [wB [2] t (fiA fi ys), .junk,a4c fi nl xs (ys.map b5t)]):=by kernel_rfl
noncomputable def s93:Sm:=e6k 4 d5g b5t
noncomputable def U93:J5:=f5i.add 93 s93
noncomputable def cIt (y:D):List D:=[wdD opR (A1 (A0 y 1)),sDD y 0,bif J6 (A2 (A0 y 0)) then .lit (.string (a2c (A1 (A0 y 3)))) else qDD y 2]
theorem h2v (t:D) (y:D) (fi:Bool) (nl:Bool) (xs:List D) (R:V→List Box→Prop):(E4 (Cn T88) T88 (K4 U93) 4 B6 B1 adC (b5c 22++b5c 27) 160 [V.ptr [0,0] 0,V.ptr [0,1] 0]
 (G3 [hB [0,2],Box.cells 107 (b3e y),wN [0,2] [0,3] t fi,buf nl xs]) R) =
 (True∧
 ((((0:Int)≤IntKind.i64.wrap (A1 (A0 y 1)-1))∧((IntKind.i64.wrap (A1 (A0 y 1)-1)).toNat<6∧zD (A2 (o5.getD (IntKind.i64.wrap (A1 (A0 y 1)-1)).toNat D.any)) =
 o5.getD (IntKind.i64.wrap (A1 (A0 y 1)-1)).toNat D.any))∧
 (s86.pre
 [V.ptr [0,0] 0,
 C0 (A2 (o5.getD (IntKind.i64.wrap (A1 (A0 y 1)-1)).toNat D.any))]
 [Box.cells 75 [V.opt [0,0] 0,V.ref [0,1],V.d t,A7 fi],Box.arr true nl 5 1 xs []]∧
 (s86.pre [V.ptr [0,0] 0,C0 (A2 (A0 y 0))]
 [Box.cells 75 [V.opt [0,0] 0,V.ref [0,1],V.d t,A7 false],
 Box.arr true (G6 fi nl (A2 (o5.getD (IntKind.i64.wrap (A1 (A0 y 1)-1)).toNat D.any))) 5 1
 (B7 fi xs (A2 (o5.getD (IntKind.i64.wrap (A1 (A0 y 1)-1)).toNat D.any))) []]∧
 (True∧
 (bif J6 (A2 (A0 y 0)) then
 (s94.pre [V.ptr [0,0] 0,A4 (A1 (A0 y 3))]
 [Box.cells 75 [V.opt [0,0] 0,V.ref [0,1],V.d t,A7 false],
 Box.arr true false 5 1
 (B7 false (B7 fi xs (A2 (o5.getD (IntKind.i64.wrap (A1 (A0 y 1)-1)).toNat D.any)))
 (A2 (A0 y 0)))
 []]∧
 R (V.d (D.tup []))
 [Box.cells 113 [V.ptr [0,2] 0],
 Box.cells 107
 [C0 (A2 (A0 y 0)),A4 (A1 (A0 y 1)),
 C0 (A2 (A0 y 2)),A4 (A1 (A0 y 3))],
 Box.cells 75 [V.opt [0,2] 0,V.ref [2],V.d t,A7 false],Box.arr false nl 5 1 xs [],
 Box.arr true false 5 1
 (B7 false
 (B7 false (B7 fi xs (A2 (o5.getD (IntKind.i64.wrap (A1 (A0 y 1)-1)).toNat D.any)))
 (A2 (A0 y 0)))
 (X2 (A1 (A0 y 3))))
 []]) else
 ((A2 (A0 y 2)).size.le 17592186044400∧
 (s86.pre [V.ptr [0,0] 0,C0 (L7 (A2 (A0 y 2)))]
 [Box.cells 75 [V.opt [0,0] 0,V.ref [0,1],V.d t,A7 false],
 Box.arr true false 5 1
 (B7 false (B7 fi xs (A2 (o5.getD (IntKind.i64.wrap (A1 (A0 y 1)-1)).toNat D.any)))
 (A2 (A0 y 0)))
 []]∧
 R (V.d (D.tup []))
 [Box.cells 113 [V.ptr [0,2] 0],
 Box.cells 107
 [C0 (A2 (A0 y 0)),A4 (A1 (A0 y 1)),
 C0 (A2 (A0 y 2)),A4 (A1 (A0 y 3))],
 Box.cells 75 [V.opt [0,2] 0,V.ref [2],V.d t,A7 false],Box.arr false nl 5 1 xs [],
 Box.arr true false 5 1
 (B7 false
 (B7 false (B7 fi xs (A2 (o5.getD (IntKind.i64.wrap (A1 (A0 y 1)-1)).toNat D.any)))
 (A2 (A0 y 0)))
 (L7 (A2 (A0 y 2))))
 []])))))))):=by kernel_rfl
noncomputable def h3o:Sm:=a7e 107 cIt CTx S2
noncomputable def g3v:J5:=U93.add 160 h3o
theorem g9q (t y:D) (fi nl:Bool) (xs:List D) (R:V→List Box→Prop):E4 (Cn T88) T88 (K4 g3v) 4 B6 B1 adW (c8g 16) 84 [.ptr [0,0] 0, .fn (.func 160) [] [.ptr [0,1] 0, .ptr [0,2] 0]] (G3 [wN [0,0] [0,3] t fi,hB [0,0], .cells 107 (b3e y),buf nl xs]) R=c7j (a7e 107 cIt CTx S2) 107 (b3e y) (cIt (yOf (b3e y))) t fi nl xs R:=by kernel_rfl
noncomputable def g3k:J5:=g3v.add 84 (n7 (u0 160 107 cIt CTx) (n7 (u0 161 65 o6 STx) (n7 (u0 156 98 mIt MTx) noS)))
theorem a9q {U:J5} (hU:H5 B U) {K:FuncId} {u:TypeId} {its:D→List D} {pre:D→Prop} {ob:Bool→List D→Box} {mk:D→List V} (hmk:∀cs,pre (yOf cs)→∃y,cs=mk y)
  (hb:∀(t y:D) (fi nl:Bool) (xs:List D),pre (yOf (mk y))→xs.length+H8 (its (yOf (mk y)))+1≤70368744177664→M4 B.P K∧N9 B K [.ptr [0,0] 0, .ptr [0,1] 0] (G3 [hB [0,2], .cells u (mk y),wN [0,2] [0,3] t fi,buf nl xs]) fun r' H'=>r'= .d (.tup [])∧H'=V2 [hB [0,2], .cells u (mk y),wN [0,2] [2] t (fiA fi (its (yOf (mk y)))),ob nl xs] [a4c fi nl xs (its (yOf (mk y)))]) :
  H5 B (U.add K (a7e u its pre ob)):=by
 refine M8 hU fun vals bs c x y hp hf=>?_
 unfold a7e at hp hf
 simp only[] at hp hf
 split at hf
 case h_2=>cases hf
 rename_i v cs t fi nl xs
 cases hv:v==u with
 | false=>rw[hv] at hf;cases hf
 | true =>
  obtain rfl:v=u:=by simpa using hv
  simp only[one,hv,cond_true,Option.some.injEq,Prod.mk.injEq] at hf
  obtain ⟨rfl,rfl,rfl⟩:=hf
  obtain ⟨hm,hr⟩:=hp
  obtain ⟨y,rfl⟩:=hmk _ hm
  exact hb t y fi nl xs hm hr
theorem d2e {a b c d:D} (ha:a≠ .any) (hb:b≠ .any) (hc:c≠ .any) (hd:d≠ .any):∀x∈ [a,b,c,d],x≠ .any:=by
 intro x hx
 simp only[List.mem_cons,List.not_mem_nil,or_false] at hx
 rcases hx with rfl|rfl|rfl|rfl<;>assumption
theorem a4g.cs {cs:List V} (h:a4g (yOf cs)):∃y,cs=a6i y:=⟨yOf cs,a3i (ds:=[iC (yOf cs) 0,sC (yOf cs) 1,lC (yOf cs) 2 3,lC (yOf cs) 3 1]) (Eq.symm h.v) (d2e (by simp) (by simp) (by simp) (by simp))⟩
theorem a5f.cs {cs:List V} (h:a5f (yOf cs)):∃y,cs=b3e y:=⟨yOf cs,a3i (ds:=[sC (yOf cs) 0,iC (yOf cs) 1,sC (yOf cs) 2,iC (yOf cs) 3]) (Eq.symm h) (d2e (by simp) (by simp) (by simp) (by simp))⟩
theorem a8m {fi:Bool} {y:D} {l:List D}:fiA fi (y::l)=false:=by cases fi<;>rfl
theorem h3u:H5 B g3u:=by
 refine a9q q90 (fun cs h=>h.1.cs) fun t y fi nl xs hm hr=>?_
 obtain ⟨hf,k1,k2,z1,h2,h3⟩:=hm
 have hk:A1 (A0 (yOf (a6i y)) 0)=A1 (A0 y 0):=rfl
 rw[hk] at k1 k2
 obtain ⟨n1,n2⟩:=b4k (k:=A1 (A0 y 0)) c9f b9k k1 k2 (by decide)
 refine E9 B9 k88 q90 (fn:=Tryz.f161) (cd:=B2 Tryz.f161) (sp:=B6) (hn:=B1) (k:=4) (ads:=adC) (ends:=b5c 27) Tryz.func161 (by kernel_rfl) (by kernel_rfl) (by kernel_rfl) (by kernel_rfl) A8 rfl rfl (keep (h2u t y fi nl xs _) ?_)
 rw[n2]
 have hn:b3h (A3 (A0 y 3)):=fun z hz=>(h3.2 z hz).1
 have hit:o6 (yOf (a6i y))=(bif decide (A1 (A0 y 0)≤3) then [wdD L9 (A1 (A0 y 0)),qDD y 1] else [wdD L9 (A1 (A0 y 0))])++((A3 (A0 y 2)).map S0++A3 (A0 y 3)):=by
  show (bif decide (A1 (A0 y 0)≤3) then [wdD L9 (A1 (A0 y 0)),qDD y 1] else [wdD L9 (A1 (A0 y 0))])++(A3 (A0 y 2)).map S0++A3 (A0 y 3)=_
  rw[List.append_assoc]
 rw[hit] at hr ⊢
 cases g:decide (A1 (A0 y 0)≤3) with
 | true =>
  simp only[g,cond_true] at hr ⊢
  have hr:xs.length+((A2 (L9.getD (A1 (A0 y 0)).toNat .any)).size+1+((L7 (A2 (A0 y 1))).size+1+H8 ((A3 (A0 y 2)).map S0++A3 (A0 y 3))))+1≤70368744177664:=hr
  obtain ⟨r1,r2⟩:=a3b (fi:=fi) (l:=qDD y 1::((A3 (A0 y 2)).map S0++A3 (A0 y 3))) (Nat.le_trans (Nat.le_succ _) hr)
  obtain ⟨r3,r4⟩:=a3b (fi:=false) (s:=L7 (A2 (A0 y 1))) r2
  have p1:=P8 fi xs (A2 (L9.getD (A1 (A0 y 0)).toNat .any))
  have p2:=P8 false (B7 fi xs (A2 (L9.getD (A1 (A0 y 0)).toNat .any))) (L7 (A2 (A0 y 1)))
  have p3:=k9 ((A3 (A0 y 2)).map S0) false false (B7 false (B7 fi xs (A2 (L9.getD (A1 (A0 y 0)).toNat .any))) (L7 (A2 (A0 y 1))))
  rw[b3i] at hr
  refine ⟨(by trivial),n1,r1,Nat.le_trans z1 (by decide),r3,⟨h2,by show _≤70368744177664;omega⟩,⟨hn,by show _≤70368744177664;omega⟩,(by trivial), ?_⟩
  rw[show fiA fi ([wdD L9 (A1 (A0 y 0)),qDD y 1]++((A3 (A0 y 2)).map S0++A3 (A0 y 3)))=false from a8m (y:=wdD L9 (A1 (A0 y 0))) (l:=qDD y 1::((A3 (A0 y 2)).map S0++A3 (A0 y 3)))]
  show _= [hB [0,2], .cells 65 (a6i y),wN [0,2] [2] t false,S2 nl xs]++ [a4c false false (B7 false (B7 fi xs (A2 (L9.getD (A1 (A0 y 0)).toNat .any))) (L7 (A2 (A0 y 1)))) ((A3 (A0 y 2)).map S0++A3 (A0 y 3))]
  unfold a4c
  rw[a3r]
  rfl
 | false =>
  simp only[g,cond_false] at hr ⊢
  have hr:xs.length+((A2 (L9.getD (A1 (A0 y 0)).toNat .any)).size+1+H8 ((A3 (A0 y 2)).map S0++A3 (A0 y 3)))+1≤70368744177664:=hr
  have p1:=P8 fi xs (A2 (L9.getD (A1 (A0 y 0)).toNat .any))
  have p3:=k9 ((A3 (A0 y 2)).map S0) false (G6 fi nl (A2 (L9.getD (A1 (A0 y 0)).toNat .any))) (B7 fi xs (A2 (L9.getD (A1 (A0 y 0)).toNat .any)))
  rw[b3i] at hr
  refine ⟨(by trivial),n1,by show _≤70368744177664;omega,⟨h2,by show _≤70368744177664;omega⟩,⟨hn,by show _≤70368744177664;omega⟩,(by trivial), ?_⟩
  rw[show fiA fi ([wdD L9 (A1 (A0 y 0))]++((A3 (A0 y 2)).map S0++A3 (A0 y 3)))=false from a8m (y:=wdD L9 (A1 (A0 y 0))) (l:=(A3 (A0 y 2)).map S0++A3 (A0 y 3))]
  show _= [hB [0,2], .cells 65 (a6i y),wN [0,2] [2] t false,S2 nl xs]++ [a4c false (G6 fi nl (A2 (L9.getD (A1 (A0 y 0)).toNat .any))) (B7 fi xs (A2 (L9.getD (A1 (A0 y 0)).toNat .any))) ((A3 (A0 y 2)).map S0++A3 (A0 y 3))]
  unfold a4c
  rw[a3r]
  rfl
theorem f2z:H5 B f5i:=a6g h3u rfl (fun cs h=>h.1.cs) g9n
theorem h3z:OkS (Cn T88) 2 (.loop l93) S93:=by
 refine d8d (fun ys h=>Nat.le_trans h.1 (by decide)) (fun t b fi nl xs ys i K hall hi hr hK=>?_) fun t b fi nl xs ys K hK=>?_
 ·
  refine C1 (M7 B9 k88 f2z) C4 A8 (hn:=B1) (adsI:=[]) (nsI:=aJ [16,2]) (nsX:=aJ [5000]) rfl rfl (keep (b93 t fi nl b xs ys ys.length i _) ?_)
  obtain ⟨e1,e2⟩:=b9i hi (Nat.le_trans hall.1 (by decide))
  have hm:=hall.2 _ (F4 hi)
  rw[show A2 (b5t (ys.getD i .any))=G7 (o6 (ys.getD i .any)) from rfl,b4i] at hK
  have hl:=W4 (o6 (ys.getD i .any))
  simp only[e1,Int.toNat_natCast,e2,cond_true]
  have hv:gV (ys.getD i .any)=ys.getD i .any:=hm.1.v
  have hr:xs.length+1+(G7 (o6 (ys.getD i .any))).size+1≤70368744177664:=hr
  refine ⟨⟨by omega,hi,hv⟩,⟨by show STx (gV _);rw[hv];exact hm,by show xs.length+H8 (o6 (gV (ys.getD i .any)))+3≤_;rw[hv];omega⟩,(by trivial), ?_⟩
  rw[hv];exact hK
 ·
  refine C1 (M7 B9 k88 f2z) C4 A8 (hn:=B1) (adsI:=[]) (nsI:=aJ [16,2]) (nsX:=aJ [5000]) rfl rfl (keep (b93 t fi nl b xs ys ys.length ys.length _) ?_)
  rw[b9h]
  exact ⟨(by trivial),hK⟩
theorem f3o {U:J5} (hU:H5 B U) {K:FuncId} {z:Nat} {ok:List D→Prop} {g:D→D}
  (hb:∀(t:D) (b fi nl:Bool) (xs ys:List D),ok ys→xs.length+H8 (ys.map g)+1≤70368744177664→M4 B.P K∧N9 B K [.ptr [0,0] 0, .d (.slice b z ys)] (G3 [wB [0,1] t fi,buf nl xs]) fun r' H'=>r'= .d (.tup [])∧H'=V2 [wB [2] t (fiA fi ys), .junk] [a4c fi nl xs (ys.map g)]):H5 B (U.add K (e6k z ok g)):=by
 refine M8 hU fun vals bs c x y hp hf=>?_
 unfold e6k at hp hf
 simp only[] at hp hf
 split at hf
 case h_2=>cases hf
 rename_i b e ys t fi nl xs
 cases hv:e==z with
 | false=>rw[hv] at hf;cases hf
 | true =>
  obtain rfl:e=z:=by simpa using hv
  simp only[one,hv,cond_true,Option.some.injEq,Prod.mk.injEq] at hf
  obtain ⟨rfl,rfl,rfl⟩:=hf
  exact hb t b fi nl xs ys hp.1 hp.2
theorem q93:H5 B U93:=f3o f2z fun t b fi nl xs ys hp hr=>by
 refine E9 B9 k88 f2z (fn:=Tryz.f93) (cd:=B2 Tryz.f93) (sp:=spL [(4,S93)]) (hn:=B1) (k:=2) (ads:=adW) (ends:=eW2) Tryz.func93 (by kernel_rfl) (by kernel_rfl) (by kernel_rfl) (by kernel_rfl) (C9 (c:=.loop l93) (by kernel_rfl) h3z E5) rfl rfl (keep (w93 t fi nl b xs ys _) ?_)
 exact ⟨⟨rfl,rfl,rfl,rfl,hp,hr⟩,rfl,rfl⟩
theorem h3v:H5 B g3v:=by
 refine a9q q93 (fun cs h=>a5f.cs h.1) fun t y fi nl xs hm hr=>?_
 obtain ⟨hf,k1,k2,z1,z2,hn⟩:=hm
 have hk:A1 (A0 (yOf (b3e y)) 1)=A1 (A0 y 1):=rfl
 rw[hk] at k1 k2
 obtain ⟨n1,n2⟩:=b4k (k:=A1 (A0 y 1)) d2d b8g k1 k2 (by decide)
 refine E9 B9 k88 q93 (fn:=Tryz.f160) (cd:=B2 Tryz.f160) (sp:=B6) (hn:=B1) (k:=4) (ads:=adC) (ends:=b5c 22++b5c 27) Tryz.func160 (by kernel_rfl) (by kernel_rfl) (by kernel_rfl) (by kernel_rfl) A8 rfl rfl (keep (h2v t y fi nl xs _) ?_)
 rw[n2]
 have hn:J6 (A2 (A0 y 0))=true→0≤A1 (A0 y 3)∧A1 (A0 y 3)≤1152921504606846976:=hn
 have hit:cIt (yOf (b3e y))= [wdD opR (A1 (A0 y 1)),sDD y 0,bif J6 (A2 (A0 y 0)) then .lit (.string (a2c (A1 (A0 y 3)))) else qDD y 2]:=rfl
 rw[hit] at hr ⊢
 have hr:xs.length+((A2 (opR.getD (A1 (A0 y 1)).toNat .any)).size+1+H8 [sDD y 0,bif J6 (A2 (A0 y 0)) then .lit (.string (a2c (A1 (A0 y 3)))) else qDD y 2])≤70368744177664:=Nat.le_trans (Nat.le_succ _) hr
 obtain ⟨r1,r2⟩:=a3b (fi:=fi) hr
 obtain ⟨r3,r4⟩:=a3b (fi:=false) (s:=A2 (A0 y 0)) r2
 rw[a8m]
 refine ⟨(by trivial),n1,r1,r3,(by trivial), ?_⟩
 cases g:J6 (A2 (A0 y 0)) with
 | true =>
  rw[g] at r4
  obtain ⟨m0,m1⟩:=hn g
  obtain ⟨r5,r6⟩:=a3b (fi:=false) (s:=a2c (A1 (A0 y 3))) r4
  simp only[cond_true]
  rw[a2q m0]
  refine ⟨⟨⟨by omega,by omega⟩,by rw[a2q m0];exact r5⟩,(by trivial),rfl⟩
 | false =>
  rw[g] at r4
  obtain ⟨r5,r6⟩:=a3b (fi:=false) (s:=L7 (A2 (A0 y 2))) r4
  exact ⟨Nat.le_trans z2 (by decide),r5,(by trivial),rfl⟩
theorem h3s:H5 B g3k:=a6g h3v rfl (fun cs h=>a5f.cs h.1) g9q
def b3v (pre:D→D→Prop) (f:D→ByteArray):Sm:=⟨fun vals bs=>match vals,bs with | [_, .d y], [.cells _ [_,_, .d t,_], .arr _ _ _ _ xs _]=>pre t y∧M2 (xs.length+1+(f y).size+1)|_,_=>False,fun vals bs=>match vals,bs with
 | [.ptr [0,0] 0, .d y], [.cells 75 [.opt [0,0] 0, .ref [0,1], .d t, .d (.lit (.bool fi))], .arr true nl 5 1 xs []]=>one (.d (.tup [])) [wB [2] t false,S2 nl xs] [buf false (B7 fi xs (f y))]
 | _,_=>none⟩
abbrev Q1 (y:D):List V:=[.d (iC y 0), .d (lC y 1 4), .d (lC y 2 3)]
def IsP (cs:List V):Prop:=∃y,cs=Q1 y
noncomputable def pIt (y:D):List D:=[wdD a6e (A1 (A0 y 0))]++(A3 (A0 y 1)).map a6r++(A3 (A0 y 2)).map pD
def PTk (κ:Nat) (y:D):Prop:=PTx y∧dsz y<κ
noncomputable def U91 (κ:Nat):J5:=g3k.add 91 (b3v (fun _=>PTk κ) b4e)
abbrev cI (n:A6):List (A6×A6):=[([0,0],[0,0]),([0,1],[0,1]),([0,2],[0,2]),([0,3],[0,3]),([5000],n)]
abbrev cN:List A6:=[[0,0],[0,1],[0,2],[0,3],[5000]]
def e2d (N e a:Nat) (n:A6) (u z:Nat) (ok:List D→Prop) (g:D→D):Ev.Spec:={L:=[0,1,a,a+1,a+2],ns:=cI n,L':=[0,1],nm':=cN,G:=fun M vals bs k=>match vals,bs with
 | [.ptr [0,0] 0, .ptr [0,1] 0, .d (.slice b z' ys), .d (.lit (.int .i64 n)), .d (.lit (.int .i64 i))], [.cells 113 [.ptr [0,2] 0], .cells v cs, .cells 75 [.opt [0,2] 0, .ref [5000], .d t, .d (.lit (.bool fi))], .arr false nl0 5 1 xs0 [], .arr true nl 5 1 xs []]=>(M=N∧v=u∧z'=z∧i=0∧n=ys.length∧IsP cs∧ok ys∧M2 (xs.length+H8 (ys.map g)+1))∧k (.exit e) [.ptr [0,0] 0, .ptr [0,1] 0] [hB [0,2], .cells v cs,wN [0,2] [5000] t (fiA fi ys),S2 nl0 xs0,a4c fi nl xs (ys.map g)]
 | _,_=>False }
noncomputable def e7u:Code:=F5 (F9 (B2 Tryz.f158) 4)
noncomputable def e7t:Code:=F5 (F9 (B2 Tryz.f158) 14)
theorem f7x (κ:Nat) (t:D) (y:D) (fi:Bool) (nl:Bool) (nl0:Bool) (b:Bool) (xs:List D) (xs0:List D) (ys:List D) (n:Int) (i:Int) (R:X→List V→List Box→Prop):(G0 (Cn T88) T88 (K4 (U91 κ)) 4 B6 B1 e7u 36 [0,1,15,16,17] cN [] (cI [25,2]) [0,1] (cI [5000])
 [V.ptr [0,0] 0,V.ptr [0,1] 0,V.d (D.slice b 4 ys),A4 n,A4 i]
 [hB [0,2],Box.cells 30 (Q1 y),wN [0,2] [5000] t fi,S2 nl0 xs0,buf nl xs] R) =
 (bif decide (i<n) then
 ((((0:Int)≤i)∧(i.toNat<ys.length∧cV (ys.getD i.toNat D.any)=ys.getD i.toNat D.any))∧
 ((n7 (u0 160 107 cIt CTx) (n7 (u0 161 65 o6 STx) (n7 (u0 156 98 mIt MTx) noS))).pre
 [V.ptr [0,0] 0,V.fn (Fn.func 160) [] [V.ptr [0,1] 0,V.ptr [0,2] 0]]
 [Box.cells 75 [V.opt [0,0] 0,V.ref [0,3],V.d t,A7 fi],Box.cells 113 [V.ptr [0,0] 0],
 Box.cells 107
 [C0 (A2 (A0 (ys.getD i.toNat D.any) 0)),
 A4 (A1 (A0 (ys.getD i.toNat D.any) 1)),
 C0 (A2 (A0 (ys.getD i.toNat D.any) 2)),
 A4 (A1 (A0 (ys.getD i.toNat D.any) 3))],
 Box.arr true nl 5 1 xs []]∧
 (36=36∧
 R X.normal
 [V.ptr [0,0] 0,V.ptr [0,1] 0,V.d (D.slice b 4 ys),A4 n,
 A4 (IntKind.i64.wrap (i+1))]
 [Box.cells 113 [V.ptr [0,2] 0],
 Box.cells 30
 [A4 (A1 (A0 y 0)),
 V.d (D.slice (F1 (A0 y 1)) 4 (A3 (A0 y 1))),
 V.d (D.slice (F1 (A0 y 2)) 3 (A3 (A0 y 2)))],
 Box.cells 75 [V.opt [0,2] 0,V.ref [5000],V.d t,A7 false],Box.arr false nl0 5 1 xs0 [],
 Box.arr true false 5 1
 (B7 fi xs
 (G7
 [zD (A2
 (opR.getD (A1 (iD (A1 (A0 (ys.getD i.toNat D.any) 1)))).toNat
 D.any)),
 zD (A2 (zD (A2 (A0 (ys.getD i.toNat D.any) 0)))),
 bif J6 (A2 (zD (A2 (A0 (ys.getD i.toNat D.any) 0)))) then
 zD (a2c (A1 (iD (A1 (A0 (ys.getD i.toNat D.any) 3)))))
 else
 zD (L7 (A2 (zD (A2 (A0 (ys.getD i.toNat D.any) 2)))))]))
 []]))) else
 (36=36∧
 R (X.exit 0) [V.ptr [0,0] 0,V.ptr [0,1] 0]
 [Box.cells 113 [V.ptr [0,2] 0],
 Box.cells 30
 [A4 (A1 (A0 y 0)),
 V.d (D.slice (F1 (A0 y 1)) 4 (A3 (A0 y 1))),
 V.d (D.slice (F1 (A0 y 2)) 3 (A3 (A0 y 2)))],
 Box.cells 75 [V.opt [0,2] 0,V.ref [5000],V.d t,A7 fi],Box.arr false nl0 5 1 xs0 [],
 Box.arr true nl 5 1 xs []])):=by kernel_rfl
theorem f7w (κ:Nat) (t:D) (y:D) (fi:Bool) (nl:Bool) (nl0:Bool) (b:Bool) (xs:List D) (xs0:List D) (ys:List D) (n:Int) (i:Int) (R:X→List V→List Box→Prop):(G0 (Cn T88) T88 (K4 (U91 κ)) 4 B6 B1 e7t 36 [0,1,26,27,28] cN [] (cI [36,2]) [0,1] (cI [5000])
 [V.ptr [0,0] 0,V.ptr [0,1] 0,V.d (D.slice b 3 ys),A4 n,A4 i]
 [hB [0,2],Box.cells 30 (Q1 y),wN [0,2] [5000] t fi,S2 nl0 xs0,buf nl xs] R) =
 (bif decide (i<n) then
 ((((0:Int)≤i)∧(i.toNat<ys.length∧pV (ys.getD i.toNat D.any)=ys.getD i.toNat D.any))∧
 ((b3v (fun x=>PTk κ) b4e).pre [V.ptr [0,0] 0,V.d (pV (ys.getD i.toNat D.any))]
 [Box.cells 75 [V.opt [0,0] 0,V.ref [0,1],V.d t,A7 fi],Box.arr true nl 5 1 xs []]∧
 (36=36∧
 R X.normal
 [V.ptr [0,0] 0,V.ptr [0,1] 0,V.d (D.slice b 3 ys),A4 n,
 A4 (IntKind.i64.wrap (i+1))]
 [Box.cells 113 [V.ptr [0,2] 0],
 Box.cells 30
 [A4 (A1 (A0 y 0)),
 V.d (D.slice (F1 (A0 y 1)) 4 (A3 (A0 y 1))),
 V.d (D.slice (F1 (A0 y 2)) 3 (A3 (A0 y 2)))],
 Box.cells 75 [V.opt [0,2] 0,V.ref [5000],V.d t,A7 false],Box.arr false nl0 5 1 xs0 [],
 Box.arr true false 5 1 (B7 fi xs (b4e (pV (ys.getD i.toNat D.any)))) []]))) else
 (36=36∧
 R (X.exit 2) [V.ptr [0,0] 0,V.ptr [0,1] 0]
 [Box.cells 113 [V.ptr [0,2] 0],
 Box.cells 30
 [A4 (A1 (A0 y 0)),
 V.d (D.slice (F1 (A0 y 1)) 4 (A3 (A0 y 1))),
 V.d (D.slice (F1 (A0 y 2)) 3 (A3 (A0 y 2)))],
 Box.cells 75 [V.opt [0,2] 0,V.ref [5000],V.d t,A7 fi],Box.arr false nl0 5 1 xs0 [],
 Box.arr true nl 5 1 xs []])):=by kernel_rfl
noncomputable def e9z:Ev.Spec:=e2d 36 0 15 [15,2] 30 4 f2e a6r
noncomputable def e9y (κ:Nat):Ev.Spec:=e2d 36 2 26 [5000] 30 3 (g4j κ) pD
abbrev eC5:List (List (A6×A6)):=[[([0,0],[0,0]),([0,1],[0,1]),([0,2],[0,2]),([0,3],[0,3]),([2],[5000])]]
theorem h2x (κ:Nat) (t:D) (y:D) (fi:Bool) (nl:Bool) (xs:List D) (R:V→List Box→Prop):(E4 (Cn T88) T88 (K4 (U91 κ)) 4 (spL [(4,e9z),(14,e9y κ)]) B1 adC eC5 158
 [V.ptr [0,0] 0,V.ptr [0,1] 0] (G3 [hB [0,2],Box.cells 30 (Q1 y),wN [0,2] [0,3] t fi,buf nl xs]) R) =
 (True∧
 ((((0:Int)≤IntKind.i64.wrap (A1 (A0 y 0)-1))∧((IntKind.i64.wrap (A1 (A0 y 0)-1)).toNat<9∧zD (A2 (a7v.getD (IntKind.i64.wrap (A1 (A0 y 0)-1)).toNat D.any)) =
 a7v.getD (IntKind.i64.wrap (A1 (A0 y 0)-1)).toNat D.any))∧
 (s86.pre
 [V.ptr [0,0] 0,
 C0 (A2 (a7v.getD (IntKind.i64.wrap (A1 (A0 y 0)-1)).toNat D.any))]
 [Box.cells 75 [V.opt [0,0] 0,V.ref [0,1],V.d t,A7 fi],Box.arr true nl 5 1 xs []]∧
 ((36=36∧(30=30∧(4=4∧(((0:Int)=0)∧((((↑(A3 (A0 y 1)).length:Int):Int)=(↑(A3 (A0 y 1)).length:Int))∧(IsP
 [A4 (A1 (A0 y 0)),V.d (D.slice (F1 (A0 y 1)) 4 (A3 (A0 y 1))),
 V.d (D.slice (F1 (A0 y 2)) 3 (A3 (A0 y 2)))]∧(f2e (A3 (A0 y 1))∧M2
 ((B7 fi xs (A2 (a7v.getD (IntKind.i64.wrap (A1 (A0 y 0)-1)).toNat D.any))).length +
 H8 (List.map a6r (A3 (A0 y 1))) +
 1))))))))∧
 ((36=36∧(30=30∧(3=3∧(((0:Int)=0)∧((((↑(A3 (A0 y 2)).length:Int):Int)=(↑(A3 (A0 y 2)).length:Int))∧(IsP
 [A4 (A1 (A0 y 0)),V.d (D.slice (F1 (A0 y 1)) 4 (A3 (A0 y 1))),
 V.d (D.slice (F1 (A0 y 2)) 3 (A3 (A0 y 2)))]∧(g4j κ (A3 (A0 y 2))∧M2
 ((C7 false (G6 fi nl (A2 (a7v.getD (IntKind.i64.wrap (A1 (A0 y 0)-1)).toNat D.any)))
 (B7 fi xs (A2 (a7v.getD (IntKind.i64.wrap (A1 (A0 y 0)-1)).toNat D.any)))
 (List.map a6r (A3 (A0 y 1)))).snd.length +
 H8 (List.map pD (A3 (A0 y 2))) +
 1))))))))∧
 R (V.d (D.tup []))
 [Box.cells 113 [V.ptr [0,2] 0],
 Box.cells 30
 [A4 (A1 (A0 y 0)),
 V.d (D.slice (F1 (A0 y 1)) 4 (A3 (A0 y 1))),
 V.d (D.slice (F1 (A0 y 2)) 3 (A3 (A0 y 2)))],
 Box.cells 75 [V.opt [0,2] 0,V.ref [2],V.d t,A7 false],Box.arr false nl 5 1 xs [],
 Box.arr true
 (C7 false
 (C7 false (G6 fi nl (A2 (a7v.getD (IntKind.i64.wrap (A1 (A0 y 0)-1)).toNat D.any)))
 (B7 fi xs (A2 (a7v.getD (IntKind.i64.wrap (A1 (A0 y 0)-1)).toNat D.any)))
 (List.map a6r (A3 (A0 y 1)))).fst
 (C7 false (G6 fi nl (A2 (a7v.getD (IntKind.i64.wrap (A1 (A0 y 0)-1)).toNat D.any)))
 (B7 fi xs (A2 (a7v.getD (IntKind.i64.wrap (A1 (A0 y 0)-1)).toNat D.any)))
 (List.map a6r (A3 (A0 y 1)))).snd
 (List.map pD (A3 (A0 y 2)))).fst
 5 1
 (C7 false
 (C7 false (G6 fi nl (A2 (a7v.getD (IntKind.i64.wrap (A1 (A0 y 0)-1)).toNat D.any)))
 (B7 fi xs (A2 (a7v.getD (IntKind.i64.wrap (A1 (A0 y 0)-1)).toNat D.any)))
 (List.map a6r (A3 (A0 y 1)))).fst
 (C7 false (G6 fi nl (A2 (a7v.getD (IntKind.i64.wrap (A1 (A0 y 0)-1)).toNat D.any)))
 (B7 fi xs (A2 (a7v.getD (IntKind.i64.wrap (A1 (A0 y 0)-1)).toNat D.any)))
 (List.map a6r (A3 (A0 y 1)))).snd
 (List.map pD (A3 (A0 y 2)))).snd
 []]))))):=by kernel_rfl
noncomputable def g3w (κ:Nat):J5:=(U91 κ).add 158 (a7e 30 pIt (PTk (κ+1)) S2)
theorem g9k (κ:Nat) (t y:D) (fi nl:Bool) (xs:List D) (R:V→List Box→Prop):E4 (Cn T88) T88 (K4 (g3w κ)) 4 B6 B1 adW (c8g 16) 84 [.ptr [0,0] 0, .fn (.func 158) [] [.ptr [0,1] 0, .ptr [0,2] 0]] (G3 [wN [0,0] [0,3] t fi,hB [0,0], .cells 30 (Q1 y),buf nl xs]) R=c7j (a7e 30 pIt (PTk (κ+1)) S2) 30 (Q1 y) (pIt (yOf (Q1 y))) t fi nl xs R:=by kernel_rfl
noncomputable abbrev c5m:Sm:=n7 (u0 160 107 cIt CTx) (n7 (u0 161 65 o6 STx) (n7 (u0 156 98 mIt MTx) noS))
noncomputable def g9b (κ:Nat):J5:=(g3w κ).add 84 (n7 (u0 158 30 pIt (PTk (κ+1))) c5m)
abbrev eW3 (n:Nat):List (List (A6×A6)):=[[([0,0],[0,0]),([0,1],[0,1]),([2],[n,2])]]
theorem w91 (κ:Nat) (t:D) (y:D) (fi:Bool) (nl:Bool) (xs:List D) (R:V→List Box→Prop):(E4 (Cn T88) T88 (K4 (g9b κ)) 2 B6 B1 adW (eW3 8) 91 [V.ptr [0,0] 0,V.d (pV y)]
 (G3 [wB [0,1] t fi,buf nl xs]) R) =
 ((n7 (u0 158 30 pIt (PTk (κ+1))) c5m).pre
 [V.ptr [0,0] 0,V.fn (Fn.func 158) [] [V.ptr [0,1] 0,V.ptr [0,2] 0]]
 [Box.cells 75 [V.opt [0,0] 0,V.ref [0,3],V.d t,A7 fi],Box.cells 113 [V.ptr [0,0] 0],
 Box.cells 30
 [A4 (A1 (A0 y 0)),
 V.d (D.slice (F1 (A0 y 1)) 4 (A3 (A0 y 1))),
 V.d (D.slice (F1 (A0 y 2)) 3 (A3 (A0 y 2)))],
 Box.arr true nl 5 1 xs []]∧
 R (V.d (D.tup []))
 [Box.cells 75 [V.opt [0,0] 0,V.ref [2],V.d t,A7 false],Box.arr false nl 5 1 xs [],
 Box.arr true false 5 1
 (B7 fi xs
 (G7
 (zD (A2 (a6e.getD (A1 (iD (A1 (A0 y 0)))).toNat D.any)) ::
 (List.map a6r (A3 (D.slice (F1 (A0 y 1)) 4 (A3 (A0 y 1)))) ++
 List.map pD (A3 (D.slice (F1 (A0 y 2)) 3 (A3 (A0 y 2))))))))
 []]):=by kernel_rfl
theorem d9g {U:J5} (hU:H5 B U) {K:FuncId} {pre:D→D→Prop} {f:D→ByteArray} (μ:D→Nat)
  (hb:∀n,H5 B (U.add K (b3v (fun t y=>pre t y∧μ y<n) f))→∀(t y:D) (fi nl:Bool) (xs:List D),pre t y→μ y=n→xs.length+1+(f y).size+1≤70368744177664→M4 B.P K∧N9 B K [.ptr [0,0] 0, .d y] (G3 [wB [0,1] t fi,buf nl xs]) fun r' H'=>r'= .d (.tup [])∧H'=V2 [wB [2] t false,S2 nl xs] [buf false (B7 fi xs (f y))]):H5 B (U.add K (b3v pre f)):=by
 have main:∀(p:D→D→Prop),(∀(t y:D) (fi nl:Bool) (xs:List D),p t y→xs.length+1+(f y).size+1≤70368744177664→M4 B.P K∧N9 B K [.ptr [0,0] 0, .d y] (G3 [wB [0,1] t fi,buf nl xs]) fun r' H'=>r'= .d (.tup [])∧H'=V2 [wB [2] t false,S2 nl xs] [buf false (B7 fi xs (f y))])→H5 B (U.add K (b3v p f)):=by
  intro p hp
  refine M8 hU fun vals bs c x y hp' hf=>?_
  unfold b3v at hp' hf
  simp only[] at hp' hf
  split at hf
  case h_2=>cases hf
  simp only[one,Option.some.injEq,Prod.mk.injEq] at hf
  obtain ⟨rfl,rfl,rfl⟩:=hf
  exact hp _ _ _ _ _ hp'.1 hp'.2
 have all:∀n,H5 B (U.add K (b3v (fun t y=>pre t y∧μ y<n) f)):=by
  intro n
  induction n with
  | zero=>exact main _ fun t y fi nl xs h _=>absurd h.2 (Nat.not_lt_zero _)
  | succ n ih =>
   refine main _ fun t y fi nl xs h hr=>?_
   by_cases hlt:μ y<n
   ·
    obtain ⟨h1,h2⟩:=ih K (b3v (fun t y=>pre t y∧μ y<n) f) [.ptr [0,0] 0, .d y] [wB [0,1] t fi,buf nl xs] true _ _ (by simp[J5.add]) ⟨⟨h.1,hlt⟩,hr⟩ rfl
    exact ⟨h1,h2⟩
   ·
    exact hb n ih t y fi nl xs h.1 (by omega) hr
 exact main _ fun t y fi nl xs h hr=>hb (μ y) (all _) t y fi nl xs h rfl hr
theorem e2b {C:Cx} {l:Code} {N e0 a:Nat} {n0:A6} {u z:Nat} {ok:List D→Prop} {g:D→D} (hu:u=30) (hn0:U0 (cI n0)=cN)
  (h1:∀(t y:D) (b fi nl nl0:Bool) (xs xs0 ys:List D) (i:Nat) (K:X→List V→List Box→Prop),ok ys→i<ys.length→M2 (xs.length+1+(A2 (g (ys.getD i .any))).size+1)→N2 C 4 l N [0,1,a,a+1,a+2] cN [0,1] cN [.ptr [0,0] 0, .ptr [0,1] 0, .d (.slice b z ys),A4 ys.length,A4 ((i+1:Nat):Int)] [hB [0,2], .cells 30 (Q1 y),wN [0,2] [5000] t false,S2 nl0 xs0,buf (G6 fi nl (A2 (g (ys.getD i .any)))) (B7 fi xs (A2 (g (ys.getD i .any))))] K→N2 C 4 l N [0,1,a,a+1,a+2] cN [0,1] cN [.ptr [0,0] 0, .ptr [0,1] 0, .d (.slice b z ys),A4 ys.length,A4 i] [hB [0,2], .cells 30 (Q1 y),wN [0,2] [5000] t fi,S2 nl0 xs0,buf nl xs] K)
  (h2:∀(t y:D) (b fi nl nl0:Bool) (xs xs0 ys:List D) (K:X→List V→List Box→Prop),K (.exit e0) [.ptr [0,0] 0, .ptr [0,1] 0] [hB [0,2], .cells 30 (Q1 y),wN [0,2] [5000] t fi,S2 nl0 xs0,buf nl xs]→N2 C 4 l N [0,1,a,a+1,a+2] cN [0,1] cN [.ptr [0,0] 0, .ptr [0,1] 0, .d (.slice b z ys),A4 ys.length,A4 ys.length] [hB [0,2], .cells 30 (Q1 y),wN [0,2] [5000] t fi,S2 nl0 xs0,buf nl xs] K):OkS C 4 (.loop l) (e2d N e0 a n0 u z ok g):=by
 refine F3 fun M vals bs K h=>?_
 simp only[e2d] at h
 split at h
 case h_2=>exact h.elim
 rename_i b e ys n i v cs t fi nl0 xs0 nl xs
 obtain ⟨⟨rfl,rfl,rfl,rfl,rfl,⟨y,rfl⟩,hall,hr⟩,h⟩:=h
 subst hu
 show N2 C 4 l M [0,1,a,a+1,a+2] (U0 (cI n0)) [0,1] cN _ _ _
 rw[hn0]
 exact d8e (vals:=fun i=>[.ptr [0,0] 0, .ptr [0,1] 0, .d (.slice b e ys),A4 ys.length,A4 i]) (bsO:=fun fi r=>[hB [0,2], .cells 30 (Q1 y),wN [0,2] [5000] t fi,S2 nl0 xs0,r]) (e:=e0) (valsX:=[.ptr [0,0] 0, .ptr [0,1] 0]) ys g 1 (fun i fi nl xs hi hr hK=>h1 t y b fi nl nl0 xs xs0 ys i K hall hi hr hK) (fun fi nl xs hK=>h2 t y b fi nl nl0 xs xs0 ys K hK) ys 0 fi nl xs rfl (by simp) hr h
theorem f9o {κ:Nat} (hk:H5 B (U91 κ)):OkS (Cn T88) 4 (.loop e7u) e9z:=by
 refine e2b rfl rfl (fun t y b fi nl nl0 xs xs0 ys i K hall hi hr hK=>?_) fun t y b fi nl nl0 xs xs0 ys K hK=>?_
 ·
  refine C1 (M7 B9 k88 hk) C4 A8 (hn:=B1) (adsI:=[]) (nsI:=cI [25,2]) (nsX:=cI [5000]) rfl rfl (keep (f7x κ t y fi nl nl0 b xs xs0 ys ys.length i _) ?_)
  obtain ⟨e1,e2⟩:=b9i hi (Nat.le_trans hall.1 (by decide))
  have hm:=hall.2 _ (F4 hi)
  rw[show A2 (a6r (ys.getD i .any))=G7 (cIt (ys.getD i .any)) from rfl,b4i] at hK
  have hl:=W4 (cIt (ys.getD i .any))
  simp only[e1,Int.toNat_natCast,e2,cond_true]
  have hv:cV (ys.getD i .any)=ys.getD i .any:=hm.1
  have hr:xs.length+1+(G7 (cIt (ys.getD i .any))).size+1≤70368744177664:=hr
  exact ⟨⟨by omega,hi,hv⟩,⟨by show CTx (cV _);rw[hv];exact hm,by show xs.length+H8 (cIt (ys.getD i .any))+3≤_;omega⟩,(by trivial),hK⟩
 ·
  refine C1 (M7 B9 k88 hk) C4 A8 (hn:=B1) (adsI:=[]) (nsI:=cI [25,2]) (nsX:=cI [5000]) rfl rfl (keep (f7x κ t y fi nl nl0 b xs xs0 ys ys.length ys.length _) ?_)
  rw[b9h]
  exact ⟨(by trivial),hK⟩
theorem f3g (y:D):A2 (pD y)=G7 (pIt y):=b8f y
theorem f9n {κ:Nat} (hk:H5 B (U91 κ)):OkS (Cn T88) 4 (.loop e7t) (e9y κ):=by
 refine e2b rfl rfl (fun t y b fi nl nl0 xs xs0 ys i K hall hi hr hK=>?_) fun t y b fi nl nl0 xs xs0 ys K hK=>?_
 ·
  refine C1 (M7 B9 k88 hk) C4 A8 (hn:=B1) (adsI:=[]) (nsI:=cI [36,2]) (nsX:=cI [5000]) rfl rfl (keep (f7w κ t y fi nl nl0 b xs xs0 ys ys.length i _) ?_)
  obtain ⟨e1,e2⟩:=b9i hi hall.1
  have hm:=hall.2 _ (F4 hi)
  have hnl:G6 fi nl (A2 (pD (ys.getD i .any)))=false:=by rw[f3g];exact b4i
  rw[hnl] at hK
  simp only[e1,Int.toNat_natCast,e2,cond_true]
  have hv:pV (ys.getD i .any)=ys.getD i .any:=hm.1.l.1.v
  rw[hv]
  exact ⟨⟨by omega,hi,(by trivial)⟩,⟨hm,hr⟩,(by trivial),hK⟩
 ·
  refine C1 (M7 B9 k88 hk) C4 A8 (hn:=B1) (adsI:=[]) (nsI:=cI [36,2]) (nsX:=cI [5000]) rfl rfl (keep (f7w κ t y fi nl nl0 b xs xs0 ys ys.length ys.length _) ?_)
  rw[b9h]
  exact ⟨(by trivial),hK⟩
theorem J9.cs {cs:List V} (h:J9 (yOf cs)):∃y,cs=Q1 y:=⟨yOf cs,a3i (ds:=[iC (yOf cs) 0,lC (yOf cs) 1 4,lC (yOf cs) 2 3]) (Eq.symm h.v) (by intro d hd;simp at hd;rcases hd with rfl|rfl|rfl<;>simp)⟩
theorem h3w {κ:Nat} (hk:H5 B (U91 κ)):H5 B (g3w κ):=by
 refine a9q hk (fun cs h=>h.1.l.1.cs) fun t y fi nl xs hm hr=>?_
 obtain ⟨hpt,hds⟩:=hm
 obtain ⟨hf,k1,k2,hc,ht⟩:=hpt.l
 have hkk:A1 (A0 (yOf (Q1 y)) 0)=A1 (A0 y 0):=rfl
 rw[hkk] at k1 k2
 obtain ⟨n1,n2⟩:=b4k (k:=A1 (A0 y 0)) e3e c9z k1 k2 (by decide)
 refine E9 B9 k88 hk (fn:=Tryz.f158) (cd:=B2 Tryz.f158) (sp:=spL [(4,e9z),(14,e9y κ)]) (hn:=B1) (k:=4) (ads:=adC) (ends:=eC5) Tryz.func158 (by kernel_rfl) (by kernel_rfl) (by kernel_rfl) (by kernel_rfl) (C9 (c:=.loop e7u) (by kernel_rfl) (f9o hk) (C9 (c:=.loop e7t) (by kernel_rfl) (f9n hk) E5)) rfl rfl (keep (h2x κ t y fi nl xs _) ?_)
 rw[n2]
 have hit:pIt (yOf (Q1 y))=wdD a6e (A1 (A0 y 0))::((A3 (A0 y 1)).map a6r++(A3 (A0 y 2)).map pD):=rfl
 rw[hit] at hr ⊢
 have hr:xs.length+((A2 (a6e.getD (A1 (A0 y 0)).toNat .any)).size+1+H8 ((A3 (A0 y 1)).map a6r++(A3 (A0 y 2)).map pD))+1≤70368744177664:=hr
 rw[b3i] at hr
 have p1:=P8 fi xs (A2 (a6e.getD (A1 (A0 y 0)).toNat .any))
 have p3:=k9 ((A3 (A0 y 1)).map a6r) false (G6 fi nl (A2 (a6e.getD (A1 (A0 y 0)).toNat .any))) (B7 fi xs (A2 (a6e.getD (A1 (A0 y 0)).toNat .any)))
 rw[a8m]
 have hP:g4j κ (A3 (A0 y 2)):=by
  have hs:∀a∈F0 (yOf (Q1 y)) 2,a∈A3 (A0 y 2):=fun a h=>h
  have hlen:(F0 (yOf (Q1 y)) 2).length≤P9 (yOf (Q1 y)):=by
   have:=a4k (yOf (Q1 y))
   have hx:∀l:List D,l.length≤(l.map P9).sum:=fun l=>by
    induction l with
    | nil=>simp
    | cons a l ih =>
     have:=a4k a
     simp only[List.length_cons,List.map_cons,List.sum_cons];omega
   have:=hx (F0 (yOf (Q1 y)) 2)
   omega
  refine ⟨by show (F0 (yOf (Q1 y)) 2).length≤4096;omega,fun a ha=>⟨hpt.a ha, ?_⟩⟩
  have:=J0 (y:=yOf (Q1 y)) (i:=2) ha
  omega
 refine ⟨(by trivial),n1,by show _≤70368744177664;omega,⟨rfl,rfl,rfl,rfl,rfl,⟨y,rfl⟩,hc,by show _≤70368744177664;omega⟩,⟨rfl,rfl,rfl,rfl,rfl,⟨y,rfl⟩,hP,by show _≤70368744177664;omega⟩,(by trivial), ?_⟩
 show _= [hB [0,2], .cells 30 (Q1 y),wN [0,2] [2] t false,S2 nl xs]++ [a4c false (G6 fi nl (A2 (a6e.getD (A1 (A0 y 0)).toNat .any))) (B7 fi xs (A2 (a6e.getD (A1 (A0 y 0)).toNat .any))) ((A3 (A0 y 1)).map a6r++(A3 (A0 y 2)).map pD)]
 unfold a4c
 rw[a3r]
 have hfi:fiA false (A3 (A0 y 1))=false:=rfl
 rfl
theorem h3p {κ:Nat} (hk:H5 B (U91 κ)):H5 B (g9b κ):=a6g (h3w hk) rfl (fun cs h=>h.1.l.1.cs) (g9k κ)
noncomputable def s91:Sm:=b3v (fun _=>PTx) b4e
noncomputable def g3i:J5:=g3k.add 91 s91
theorem q91:H5 B g3i:=d9g h3s dsz fun n hk t y fi nl xs hp hn hr=>by
 have hv:=hp.l.1.v
 rw[show ([V.ptr [0,0] 0, .d y]:List V)= [.ptr [0,0] 0, .d (pV y)] by rw[hv]]
 refine E9 B9 k88 (h3p (κ:=n) hk) (fn:=Tryz.f91) (cd:=B2 Tryz.f91) (sp:=B6) (hn:=B1) (k:=2) (ads:=adW) (ends:=eW3 8) Tryz.func91 (by kernel_rfl) (by kernel_rfl) (by kernel_rfl) (by kernel_rfl) A8 rfl rfl (keep (w91 n t y fi nl xs _) ?_)
 have hl:=W4 (pIt y)
 have e:(b4e y)=G7 (pIt y):=b8f y
 rw[e] at hr ⊢
 refine ⟨⟨by show PTk (n+1) (pV y);rw[hv];exact ⟨hp,by omega⟩,by show xs.length+H8 (pIt y)+3≤_;omega⟩,(by trivial),rfl⟩
def d9f:Bool→List D→Box:=fun _ _=>.junk
noncomputable def mL (y:D):List D:=(A3 (A0 y 2)).map S0
noncomputable def sL (y:D):List D:=(A3 (A0 y 10)).map b5t
def E2k (y:D):Prop:=C8 y∧c4o (A3 (A0 y 2))
def f2c (y:D):Prop:=C8 y∧d5g (A3 (A0 y 10))
def E7k (y:D):Prop:=C8 y∧b3h (A3 (A0 y 7))
theorem w89 (t:D) (y:D) (fi:Bool) (nl:Bool) (xs:List D) (R:V→List Box→Prop):(E4 (Cn T88) T88 (K4 g3i) 4 B6 B1 adC (b5c 7) 89 [V.ptr [0,0] 0,V.ptr [0,1] 0]
 (G3 [hB [0,2],Box.cells 33 (P6 y),wN [0,2] [0,3] t fi,buf nl xs]) R) =
 (s90.pre [V.ptr [0,0] 0,V.d (D.slice (F1 (A0 y 2)) 3 (A3 (A0 y 2)))]
 [Box.cells 75 [V.opt [0,0] 0,V.ref [0,1],V.d t,A7 fi],Box.arr true nl 5 1 xs []]∧
 R (V.d (D.tup []))
 [Box.cells 113 [V.ptr [0,2] 0],
 Box.cells 33
 [A4 (A1 (A0 y 0)),
 A4 (A1 (A0 y 1)),
 V.d (D.slice (F1 (A0 y 2)) 3 (A3 (A0 y 2))),
 A4 (A1 (A0 y 3)),
 A4 (A1 (A0 y 4)),
 A4 (A1 (A0 y 5)),
 A4 (A1 (A0 y 6)),
 V.d (D.slice (F1 (A0 y 7)) 1 (A3 (A0 y 7))),A7 (L5 (A0 y 8)),
 A4 (A1 (A0 y 9)),
 V.d (D.slice (F1 (A0 y 10)) 4 (A3 (A0 y 10))),
 A4 (A1 (A0 y 11)),
 V.d (D.slice (F1 (A0 y 12)) 4 (A3 (A0 y 12))),
 V.d (D.slice (F1 (A0 y 13)) 3 (A3 (A0 y 13))),C0 (A2 (A0 y 14)),
 V.d (D.slice (F1 (A0 y 15)) 16 (A3 (A0 y 15)))],
 Box.cells 75 [V.opt [0,2] 0,V.ref [2],V.d t,A7 (fiA fi (A3 (A0 y 2)))],Box.junk,
 Box.arr true (C7 fi nl xs (List.map S0 (A3 (A0 y 2)))).fst 5 1
 (C7 fi nl xs (List.map S0 (A3 (A0 y 2)))).snd []]):=by kernel_rfl
noncomputable def U89:J5:=g3i.add 89 (a7e 33 mL E2k d9f)
theorem w92 (t:D) (y:D) (fi:Bool) (nl:Bool) (xs:List D) (R:V→List Box→Prop):(E4 (Cn T88) T88 (K4 U89) 4 B6 B1 adC (b5c 7) 92 [V.ptr [0,0] 0,V.ptr [0,1] 0]
 (G3 [hB [0,2],Box.cells 33 (P6 y),wN [0,2] [0,3] t fi,buf nl xs]) R) =
 (s93.pre [V.ptr [0,0] 0,V.d (D.slice (F1 (A0 y 10)) 4 (A3 (A0 y 10)))]
 [Box.cells 75 [V.opt [0,0] 0,V.ref [0,1],V.d t,A7 fi],Box.arr true nl 5 1 xs []]∧
 R (V.d (D.tup []))
 [Box.cells 113 [V.ptr [0,2] 0],
 Box.cells 33
 [A4 (A1 (A0 y 0)),
 A4 (A1 (A0 y 1)),
 V.d (D.slice (F1 (A0 y 2)) 3 (A3 (A0 y 2))),
 A4 (A1 (A0 y 3)),
 A4 (A1 (A0 y 4)),
 A4 (A1 (A0 y 5)),
 A4 (A1 (A0 y 6)),
 V.d (D.slice (F1 (A0 y 7)) 1 (A3 (A0 y 7))),A7 (L5 (A0 y 8)),
 A4 (A1 (A0 y 9)),
 V.d (D.slice (F1 (A0 y 10)) 4 (A3 (A0 y 10))),
 A4 (A1 (A0 y 11)),
 V.d (D.slice (F1 (A0 y 12)) 4 (A3 (A0 y 12))),
 V.d (D.slice (F1 (A0 y 13)) 3 (A3 (A0 y 13))),C0 (A2 (A0 y 14)),
 V.d (D.slice (F1 (A0 y 15)) 16 (A3 (A0 y 15)))],
 Box.cells 75 [V.opt [0,2] 0,V.ref [2],V.d t,A7 (fiA fi (A3 (A0 y 10)))],Box.junk,
 Box.arr true (C7 fi nl xs (List.map b5t (A3 (A0 y 10)))).fst 5 1
 (C7 fi nl xs (List.map b5t (A3 (A0 y 10)))).snd []]):=by kernel_rfl
noncomputable def U92:J5:=U89.add 92 (a7e 33 sL f2c d9f)
theorem w95 (t:D) (y:D) (fi:Bool) (nl:Bool) (xs:List D) (R:V→List Box→Prop):(E4 (Cn T88) T88 (K4 U92) 4 B6 B1 adC (b5c 6) 95 [V.ptr [0,0] 0,V.ptr [0,1] 0]
 (G3 [hB [0,2],Box.cells 33 (P6 y),wN [0,2] [0,3] t fi,buf nl xs]) R) =
 (s96.pre [V.ptr [0,0] 0,V.d (eV y)]
 [Box.cells 75 [V.opt [0,0] 0,V.ref [0,1],V.d t,A7 fi],Box.arr true nl 5 1 xs []]∧
 R (V.d (D.tup []))
 [Box.cells 113 [V.ptr [0,2] 0],
 Box.cells 33
 [A4 (A1 (A0 y 0)),
 A4 (A1 (A0 y 1)),
 V.d (D.slice (F1 (A0 y 2)) 3 (A3 (A0 y 2))),
 A4 (A1 (A0 y 3)),
 A4 (A1 (A0 y 4)),
 A4 (A1 (A0 y 5)),
 A4 (A1 (A0 y 6)),
 V.d (D.slice (F1 (A0 y 7)) 1 (A3 (A0 y 7))),A7 (L5 (A0 y 8)),
 A4 (A1 (A0 y 9)),
 V.d (D.slice (F1 (A0 y 10)) 4 (A3 (A0 y 10))),
 A4 (A1 (A0 y 11)),
 V.d (D.slice (F1 (A0 y 12)) 4 (A3 (A0 y 12))),
 V.d (D.slice (F1 (A0 y 13)) 3 (A3 (A0 y 13))),C0 (A2 (A0 y 14)),
 V.d (D.slice (F1 (A0 y 15)) 16 (A3 (A0 y 15)))],
 Box.cells 75 [V.opt [0,2] 0,V.ref [2],V.d t,A7 false],Box.arr false nl 5 1 xs [],
 Box.arr true
 (C7 fi nl xs
 ((bif L5 (oD (L5 (A0 y 8))) then
 zD (bA [119,105,116,104,111,117,116])
 else zD (bA [98,121])) ::
 A3 (D.slice (F1 (A0 y 7)) 1 (A3 (A0 y 7))))).fst
 5 1
 (C7 fi nl xs
 ((bif L5 (oD (L5 (A0 y 8))) then
 zD (bA [119,105,116,104,111,117,116])
 else zD (bA [98,121])) ::
 A3 (D.slice (F1 (A0 y 7)) 1 (A3 (A0 y 7))))).snd
 []]):=by kernel_rfl
noncomputable def U95:J5:=U92.add 95 (a7e 33 a5q E7k S2)
theorem g9s (t y:D) (fi nl:Bool) (xs:List D) (R:V→List Box→Prop):E4 (Cn T88) T88 (K4 U95) 4 B6 B1 adW (c8g 16) 84 [.ptr [0,0] 0, .fn (.func 89) [] [.ptr [0,1] 0, .ptr [0,2] 0]] (G3 [wN [0,0] [0,3] t fi,hB [0,0], .cells 33 (P6 y),buf nl xs]) R=c7j (a7e 33 mL E2k d9f) 33 (P6 y) (mL (yOf (P6 y))) t fi nl xs R:=by kernel_rfl
noncomputable def g9e:J5:=U95.add 84 (n7 (u0 89 33 mL E2k) c5m)
theorem g9r (t y:D) (fi nl:Bool) (xs:List D) (R:V→List Box→Prop):E4 (Cn T88) T88 (K4 g9e) 4 B6 B1 adW (c8g 16) 84 [.ptr [0,0] 0, .fn (.func 92) [] [.ptr [0,1] 0, .ptr [0,2] 0]] (G3 [wN [0,0] [0,3] t fi,hB [0,0], .cells 33 (P6 y),buf nl xs]) R=c7j (a7e 33 sL f2c d9f) 33 (P6 y) (sL (yOf (P6 y))) t fi nl xs R:=by kernel_rfl
noncomputable def g9d:J5:=g9e.add 84 (n7 (u0 92 33 sL f2c) (n7 (u0 89 33 mL E2k) c5m))
theorem g9p (t y:D) (fi nl:Bool) (xs:List D) (R:V→List Box→Prop):E4 (Cn T88) T88 (K4 g9d) 4 B6 B1 adW (c8g 16) 84 [.ptr [0,0] 0, .fn (.func 95) [] [.ptr [0,1] 0, .ptr [0,2] 0]] (G3 [wN [0,0] [0,3] t fi,hB [0,0], .cells 33 (P6 y),buf nl xs]) R=c7j (a7e 33 a5q E7k S2) 33 (P6 y) (a5q (yOf (P6 y))) t fi nl xs R:=by kernel_rfl
noncomputable def g3j:J5:=g9d.add 84 (n7 (u0 95 33 a5q E7k) (n7 (u0 92 33 sL f2c) (n7 (u0 89 33 mL E2k) c5m)))
theorem C8.cs {cs:List V} (h:C8 (yOf cs)):∃y,cs=P6 y:=by
 refine ⟨yOf cs,a3i (ds:=[iC (yOf cs) 0,iC (yOf cs) 1,lC (yOf cs) 2 3,iC (yOf cs) 3,iC (yOf cs) 4,iC (yOf cs) 5,iC (yOf cs) 6,lC (yOf cs) 7 1,bC (yOf cs) 8,iC (yOf cs) 9,lC (yOf cs) 10 4,iC (yOf cs) 11,lC (yOf cs) 12 4,lC (yOf cs) 13 3,sC (yOf cs) 14,lC (yOf cs) 15 16]) (Eq.symm h.v) ?_⟩
 intro d hd
 simp only[List.mem_cons,List.not_mem_nil,or_false] at hd
 rcases hd with rfl|rfl|rfl|rfl|rfl|rfl|rfl|rfl|rfl|rfl|rfl|rfl|rfl|rfl|rfl|rfl<;>simp
theorem q89:H5 B U89:=a9q q91 (fun cs h=>h.1.cs) fun t y fi nl xs hm hr=>by
 refine E9 B9 k88 q91 (fn:=Tryz.f89) (cd:=B2 Tryz.f89) (sp:=B6) (hn:=B1) (k:=4) (ads:=adC) (ends:=b5c 7) Tryz.func89 (by kernel_rfl) (by kernel_rfl) (by kernel_rfl) (by kernel_rfl) A8 rfl rfl (keep (w89 t y fi nl xs _) ?_)
 refine ⟨⟨hm.2,hr⟩,(by trivial), ?_⟩
 have e:fiA fi (mL (yOf (P6 y)))=fiA fi (A3 (A0 y 2)):=by
  show (fi&&((A3 (A0 y 2)).map S0).isEmpty)=(fi&&(A3 (A0 y 2)).isEmpty)
  rw[List.isEmpty_map]
 rw[e]
 rfl
theorem q92:H5 B U92:=a9q q89 (fun cs h=>h.1.cs) fun t y fi nl xs hm hr=>by
 refine E9 B9 k88 q89 (fn:=Tryz.f92) (cd:=B2 Tryz.f92) (sp:=B6) (hn:=B1) (k:=4) (ads:=adC) (ends:=b5c 7) Tryz.func92 (by kernel_rfl) (by kernel_rfl) (by kernel_rfl) (by kernel_rfl) A8 rfl rfl (keep (w92 t y fi nl xs _) ?_)
 refine ⟨⟨hm.2,hr⟩,(by trivial), ?_⟩
 have e:fiA fi (sL (yOf (P6 y)))=fiA fi (A3 (A0 y 10)):=by
  show (fi&&((A3 (A0 y 10)).map b5t).isEmpty)=(fi&&(A3 (A0 y 10)).isEmpty)
  rw[List.isEmpty_map]
 rw[e]
 rfl
theorem q95:H5 B U95:=a9q q92 (fun cs h=>h.1.cs) fun t y fi nl xs hm hr=>by
 refine E9 B9 k88 q92 (fn:=Tryz.f95) (cd:=B2 Tryz.f95) (sp:=B6) (hn:=B1) (k:=4) (ads:=adC) (ends:=b5c 6) Tryz.func95 (by kernel_rfl) (by kernel_rfl) (by kernel_rfl) (by kernel_rfl) A8 rfl rfl (keep (w95 t y fi nl xs _) ?_)
 refine ⟨⟨hm.1,hm.2,Nat.le_trans (Nat.le_succ _) hr⟩,(by trivial), ?_⟩
 rw[show fiA fi (a5q (yOf (P6 y)))=false from a8m]
 rfl
theorem h3r:H5 B g3j:=a6g (a6g (a6g q95 rfl (fun cs h=>h.1.cs) g9s) rfl (fun cs h=>h.1.cs) g9r) rfl (fun cs h=>h.1.cs) g9p
def f3x (i:Nat):D:=(N5.getD (i-1) (.any, .any)).2
def kCl (i:Nat):List V:=match f3x i with | .agg ds=>ds.map V.d|_=>[]
noncomputable def fCl (i:Nat) (y:D):List V:=match c83.f [f3x i,y] with|some (.agg ds)=>ds.map V.d|_=>[]
abbrev eVk (i:Nat) (y:D):List D:=[.lit (.int .i64 (i:Int)),iC y 1,lC y 2 3,iC y 3,iC y 4,iC y 5,iC y 6,lC y 7 1,bC y 8,iC y 9,lC y 10 4,iC y 11,lC y 12 4,lC y 13 3,sC y 14,lC y 15 16]
abbrev d4m (i:Nat) (y:D):List V:=(eVk i y).map V.d
noncomputable def wIt (y:D):List D:=[wdD a3y (kd y)]++D9 11 y++D9 23 y++D9 15 y++D9 19 y++D9 31 y++D9 27 y++D9 35 y++D9 39 y++D9 43 y++D9 47 y++(A3 (A0 y 15)).map eD
def E0k (t y:D):Prop:=t= .map N5∧ETx y
def ETk (κ:Nat) (t y:D):Prop:=E0k t y∧dsz y<κ
noncomputable def U60 (κ:Nat):J5:=g3j.add 60 (b3v (ETk κ) n8)
abbrev xI (n:A6):List (A6×A6):=[([0,0],[0,0]),([0,1],[0,1]),([0,2],[0,2]),([0,3],[0,3]),([0,4],[0,4]),([0,5],[0,5]),([5000],n)]
abbrev xN:List A6:=[[0,0],[0,1],[0,2],[0,3],[0,4],[0,5],[5000]]
def h85:Nat→Option a2e:=fun id =>
 let c (n:Nat):Option a2e:=some {cut:=[([0,1,2,3],xI [n,2])] }
 match id with
 | 0=>c 11 | 2=>c 22 | 4=>c 31 | 6=>c 38 | 8=>c 49 | 10=>c 54 | 12=>c 60 | 14=>c 65 | 16=>c 71 | 17=>c 75 | 19=>c 80 | 21=>c 88|_=>none
noncomputable def l85:Code:=F5 (F9 (B2 Tryz.f85) 46)
abbrev p4:List V:=[.ptr [0,0] 0, .ptr [0,1] 0, .ptr [0,2] 0, .ptr [0,3] 0]
abbrev v10 (k:Nat→D):List V:=[.d (k 0), .d (k 1), .d (k 2), .d (k 3), .d (k 4), .d (k 5), .d (k 6), .d (k 7), .d (k 8), .d (k 9)]
abbrev v14 (k:Nat→D):List V:=v10 k++ [.d (k 10), .d (k 11), .d (k 12), .d (k 13)]
abbrev v16 (k:Nat→D):List V:=v14 k++ [.d (k 14), .d (k 15)]
def g4f (ks fs cs:List V):Prop:=∃k f c,ks=v14 k∧fs=v10 f∧cs=v16 c
abbrev tK:D:=.map N5
def S85 (κ:Nat):Ev.Spec:={L:=[0,1,2,3,88,89,90],ns:=xI [5000],L':=[],nm':=xN,G:=fun M vals bs k=>match vals,bs with
 | [.ptr [0,0] 0, .ptr [0,1] 0, .ptr [0,2] 0, .ptr [0,3] 0, .d (.slice b z ys), .d (.lit (.int .i64 n)), .d (.lit (.int .i64 i))], [.cells 113 [.ptr [0,4] 0], .cells 104 ks, .cells 102 fs, .cells 33 cs, .cells 75 [.opt [0,4] 0, .ref [5000], .d t, .d (.lit (.bool fi))], .arr false nl0 5 1 xs0 [], .arr true nl 5 1 xs []]=>(M=98∧z=16∧i=0∧n=ys.length∧t=tK∧g4f ks fs cs∧g4k κ ys∧M2 (xs.length+H8 (ys.map eD)+1))∧k (.exit 0) [] [hB [0,4], .cells 104 ks, .cells 102 fs, .cells 33 cs,wN [0,4] [5000] t (fiA fi ys),S2 nl0 xs0,a4c fi nl xs (ys.map eD)]
 | _,_=>False }
abbrev eC7:List (List (A6×A6)):=[[([0,0],[0,0]),([0,1],[0,1]),([0,2],[0,2]),([0,3],[0,3]),([0,4],[0,4]),([0,5],[0,5]),([2],[5000])]]
abbrev adE:List Ad:=[.opt [0,4] 0 [0,4] 0]
theorem b85 (κ:Nat) (k:Nat→D) (f:Nat→D) (c:Nat→D) (t:D) (fi:Bool) (nl:Bool) (nl0:Bool) (b:Bool) (xs:List D) (xs0:List D) (ys:List D) (n:Int) (i:Int) (R:X→List V→List Box→Prop):(G0 (Cn T88) T88 (K4 (U60 κ)) 6 B6 B1 l85 98 [0,1,2,3,88,89,90] xN [] (xI [98,2]) [] (xI [5000])
 [V.ptr [0,0] 0,V.ptr [0,1] 0,V.ptr [0,2] 0,V.ptr [0,3] 0,V.d (D.slice b 16 ys),A4 n,A4 i]
 [hB [0,4],Box.cells 104 (v14 k),Box.cells 102 (v10 f),Box.cells 33 (v16 c),wN [0,4] [5000] t fi,S2 nl0 xs0,
 buf nl xs]
 R) =
 (bif decide (i<n) then
 ((((0:Int)≤i)∧(i.toNat<ys.length∧eV (ys.getD i.toNat D.any)=ys.getD i.toNat D.any))∧
 ((b3v (ETk κ) n8).pre [V.ptr [0,0] 0,V.d (eV (ys.getD i.toNat D.any))]
 [Box.cells 75 [V.opt [0,0] 0,V.ref [0,1],V.d t,A7 fi],Box.arr true nl 5 1 xs []]∧
 (98=98∧
 R X.normal
 [V.ptr [0,0] 0,V.ptr [0,1] 0,V.ptr [0,2] 0,V.ptr [0,3] 0,V.d (D.slice b 16 ys),
 A4 n,A4 (IntKind.i64.wrap (i+1))]
 [Box.cells 113 [V.ptr [0,4] 0],
 Box.cells 104
 [V.d (k 0),V.d (k 1),V.d (k 2),V.d (k 3),V.d (k 4),V.d (k 5),V.d (k 6),V.d (k 7),V.d (k 8),V.d (k 9),
 V.d (k 10),V.d (k 11),V.d (k 12),V.d (k 13)],
 Box.cells 102
 [V.d (f 0),V.d (f 1),V.d (f 2),V.d (f 3),V.d (f 4),V.d (f 5),V.d (f 6),V.d (f 7),V.d (f 8),V.d (f 9)],
 Box.cells 33
 [V.d (c 0),V.d (c 1),V.d (c 2),V.d (c 3),V.d (c 4),V.d (c 5),V.d (c 6),V.d (c 7),V.d (c 8),V.d (c 9),
 V.d (c 10),V.d (c 11),V.d (c 12),V.d (c 13),V.d (c 14),V.d (c 15)],
 Box.cells 75 [V.opt [0,4] 0,V.ref [5000],V.d t,A7 false],Box.arr false nl0 5 1 xs0 [],
 Box.arr true false 5 1 (B7 fi xs (n8 (eV (ys.getD i.toNat D.any)))) []]))) else
 (98=98∧
 R (X.exit 0) []
 [Box.cells 113 [V.ptr [0,4] 0],
 Box.cells 104
 [V.d (k 0),V.d (k 1),V.d (k 2),V.d (k 3),V.d (k 4),V.d (k 5),V.d (k 6),V.d (k 7),V.d (k 8),V.d (k 9),
 V.d (k 10),V.d (k 11),V.d (k 12),V.d (k 13)],
 Box.cells 102
 [V.d (f 0),V.d (f 1),V.d (f 2),V.d (f 3),V.d (f 4),V.d (f 5),V.d (f 6),V.d (f 7),V.d (f 8),V.d (f 9)],
 Box.cells 33
 [V.d (c 0),V.d (c 1),V.d (c 2),V.d (c 3),V.d (c 4),V.d (c 5),V.d (c 6),V.d (c 7),V.d (c 8),V.d (c 9),
 V.d (c 10),V.d (c 11),V.d (c 12),V.d (c 13),V.d (c 14),V.d (c 15)],
 Box.cells 75 [V.opt [0,4] 0,V.ref [5000],V.d t,A7 fi],Box.arr false nl0 5 1 xs0 [],
 Box.arr true nl 5 1 xs []])):=by kernel_rfl
def gEl (s:ByteArray) (K:Bool→List D→Prop) (nl:Bool) (xs:List D):Prop:=s86.pre [.ptr [0,0] 0,C0 s] [wB [0,1] tK false,buf nl xs]∧K (G6 false nl s) (B7 false xs s)
def gIf (c:Bool) (G:(Bool→List D→Prop)→Bool→List D→Prop) (K:Bool→List D→Prop) (nl:Bool) (xs:List D):Prop:=bif c then G K nl xs else K nl xs
def g6z (l:List D) (k:Int):Prop:=0≤k∧k.toNat<l.length∧ .lit (.string (A2 (l.getD k.toNat .any)))=l.getD k.toNat .any
def gIx (l:List D) (k:Int) (K:Bool→List D→Prop) (nl:Bool) (xs:List D):Prop:=g6z l k∧gEl (A2 (l.getD k.toNat .any)) K nl xs
noncomputable abbrev f7c:Sm:=n7 (u0 95 33 a5q E7k) (n7 (u0 92 33 sL f2c) (n7 (u0 89 33 mL E2k) c5m))
noncomputable def gLs (k:Nat) (i:Nat) (y:D) (its:List D) (K:Bool→List D→Prop) (nl:Bool) (xs:List D):Prop:=f7c.pre [.ptr [0,0] 0, .fn (.func k) [] [.ptr [0,1] 0, .ptr [0,2] 0]] [wN [0,0] [0,3] tK false,hB [0,0], .cells 33 (d4m i y),buf nl xs]∧K false (B7 false xs (G7 its))
noncomputable def gNm (n:Int) (K:Bool→List D→Prop) (nl:Bool) (xs:List D):Prop:=s94.pre [.ptr [0,0] 0,A4 n] [wB [0,1] tK false,buf nl xs]∧K (G6 false nl (X2 n)) (B7 false xs (X2 n))
noncomputable def gPt (p:D) (K:Bool→List D→Prop) (nl:Bool) (xs:List D):Prop:=s91.pre [.ptr [0,0] 0, .d p] [wB [0,1] tK false,buf nl xs]∧K false (B7 false xs (b4e p))
def kNm (i:Nat):ByteArray:=match f3x i with | .agg (.lit (.string s)::_)=>s|_=>⟨#[]⟩
def fnL (i:Nat):List D:=match f3x i with | .agg ds=>A3 (ds.getD 11 .any)|_=>[]
noncomputable def G85 (κ i : Nat) (y : D) (fi nl : Bool) (xs : List D) (R : V → List Box → Prop) : Prop :=
 s86.pre [.ptr [0,0] 0, C0 (kNm i)] [wB [0,1] tK fi, buf nl xs] ∧
 (gIf (hF i) (gIx (fnL i) (IntKind.i64.wrap (A1 (A0 y 1) - 1)))
 (gIf ((i : Int) == 7) (fun K nl xs => True ∧ gIx c7h (A1 (A0 y 9)) K nl xs)
 (gIf (gN i (A1 (A0 y 1))) (fun K nl xs => (c2t (A1 (A0 y 5)) ∧ c2t (A1 (A0 y 6))) ∧ gEl (e8k (A1 (A0 y 5)) (A1 (A0 y 6))) K nl xs)
 (gIf (bif gT i (A1 (A0 y 1)) then (i : Int) != 5 else false) (gEl (A2 (A0 y 14)))
 (gIf (hM i) (gLs 89 i y (mL y))
 (gIf (hP i) (gPt (paV y))
 (gIf (hS i) (gLs 92 i y (sL y))
 (gIf (hW i) (fun K => gNm (A1 (A0 y 3)) (gNm (A1 (A0 y 4)) K))
 (gIf (hNm i) (gLs 95 i y (a5q y))
 (gIf ((i : Int) == 5) (fun K nl xs => (A2 (A0 y 14)).size ≤ 17592186044400 ∧ gEl (L7 (A2 (A0 y 14))) K nl xs)
 (fun nl' xs' => (98 = 98 ∧ 16 = 16 ∧ (0 : Int) = 0 ∧ ((A3 (A0 y 15)).length : Int) = (A3 (A0 y 15)).length ∧ tK = tK ∧ g4f (kCl i) (fCl i (.agg (eVk i y))) (d4m i y) ∧ g4k κ (A3 (A0 y 15)) ∧ M2 (xs'.length + H8 ((A3 (A0 y 15)).map eD) + 1)) ∧
  R (.d (.tup [])) [hB [0,4], .cells 104 (kCl i), .cells 102 (fCl i (.agg (eVk i y))), .cells 33 (d4m i y), wN [0,4] [2] tK (fiA false (A3 (A0 y 15))), S2 nl xs, a4c false nl' xs' ((A3 (A0 y 15)).map eD)]))))))))))) (G6 fi nl (kNm i)) (B7 fi xs (kNm i))
def W85 (i:Nat):Prop:=∀(κ:Nat) (y:D) (fi nl:Bool) (xs:List D) (R:V→List Box→Prop),E4 (Cn T88) T88 (K4 (U60 κ)) 6 (spL [(46,S85 κ)]) h85 adE eC7 85 p4 (G3 [hB [0,4], .cells 104 (kCl i), .cells 102 (fCl i (.agg (eVk i y))), .cells 33 (d4m i y),wN [0,4] [0,5] tK fi,buf nl xs]) R=G85 κ i y fi nl xs R
theorem g5a:W85 1:=fun κ y fi nl xs R=>by kernel_rfl
theorem g4z:W85 2:=fun κ y fi nl xs R=>by kernel_rfl
theorem g4y:W85 3:=fun κ y fi nl xs R=>by kernel_rfl
theorem g4x:W85 4:=fun κ y fi nl xs R=>by kernel_rfl
theorem g4w:W85 5:=fun κ y fi nl xs R=>by kernel_rfl
theorem g4v:W85 6:=fun κ y fi nl xs R=>by kernel_rfl
theorem g4u:W85 7:=fun κ y fi nl xs R=>by kernel_rfl
theorem g4t:W85 8:=fun κ y fi nl xs R=>by kernel_rfl
theorem g4s:W85 9:=fun κ y fi nl xs R=>by kernel_rfl
theorem f8i:W85 10:=fun κ y fi nl xs R=>by kernel_rfl
theorem f8h:W85 11:=fun κ y fi nl xs R=>by kernel_rfl
theorem f8g:W85 12:=fun κ y fi nl xs R=>by kernel_rfl
theorem f8f:W85 13:=fun κ y fi nl xs R=>by kernel_rfl
def E85 (κ:Nat) (t:D) (ks fs cs:List V):Prop:=∃(i:Nat) (y:D),(1≤i∧i≤13)∧t=tK∧ks=kCl i∧fs=fCl i (.agg (eVk i y))∧cs=d4m i y∧ETx (.agg (eVk i y))∧dsz (.agg (eVk i y))<κ+1
noncomputable def f8x (κ:Nat):Sm:=⟨fun vals bs=>match bs with | [_, .cells _ ks, .cells _ fs, .cells _ cs, .cells _ [_,_, .d t,_], .arr _ _ _ _ xs _]=>E85 κ t ks fs cs∧M2 (xs.length+H8 (wIt (yOf cs))+1)|_=>False,fun vals bs=>match vals,bs with
 | [.ptr [0,0] 0, .ptr [0,1] 0, .ptr [0,2] 0, .ptr [0,3] 0], [.cells 113 [.ptr [0,4] 0], .cells 104 ks, .cells 102 fs, .cells 33 cs, .cells 75 [.opt [0,4] 0, .ref [0,5], .d t, .d (.lit (.bool fi))], .arr true nl 5 1 xs []]=>one (.d (.tup [])) [hB [0,4], .cells 104 ks, .cells 102 fs, .cells 33 cs,wN [0,4] [2] t false,S2 nl xs] [a4c fi nl xs (wIt (yOf cs))]
 | _,_=>none⟩
noncomputable def f8w (κ:Nat):Sm:=⟨fun vals bs=>match bs with | [.cells _ [_,_, .d t,_],_, .cells _ ks, .cells _ fs, .cells _ cs, .arr _ _ _ _ xs _]=>E85 κ t ks fs cs∧M2 (xs.length+H8 (wIt (yOf cs))+3)|_=>False,fun vals bs=>match vals,bs with
 | [.ptr [0,0] 0, .fn (.func 85) [] [.ptr [0,1] 0, .ptr [0,2] 0, .ptr [0,3] 0, .ptr [0,4] 0]], [.cells 75 [.opt [0,0] 0, .ref [0,5], .d t, .d (.lit (.bool fi))], .cells 113 [.ptr [0,0] 0], .cells 104 ks, .cells 102 fs, .cells 33 cs, .arr true nl 5 1 xs []]=>one (.d (.tup [])) [wN [0,0] [2] t false,hB [0,0], .cells 104 ks, .cells 102 fs, .cells 33 cs,S2 nl xs] [buf false (B7 fi xs (G7 (wIt (yOf cs))))]
 | _,_=>none⟩
noncomputable def U85 (κ:Nat):J5:=(U60 κ).add 85 (f8x κ)
abbrev g7o:List (List (A6×A6)):=[[([0,0],[0,0]),([0,1],[0,1]),([0,2],[0,2]),([0,3],[0,3]),([0,4],[0,4]),([0,5],[0,5]),([2],[16,2])]]
def g6s (S:Sm) (ks fs cs:List V) (its:List D) (t:D) (fi nl:Bool) (xs:List D) (R:V→List Box→Prop):Prop :=
 s86.pre [.ptr [0,0] 0,C0 o9] [wB [0,1] t fi,buf nl xs]∧S.pre p4 [hB [0,4], .cells 104 ks, .cells 102 fs, .cells 33 cs,wN [0,4] [0,5] t true,buf (G6 fi nl o9) (B7 fi xs o9)]∧
 b7t.pre [.ptr [0,0] 0, .d (.lit (.int .u8 41))] [wB [0,1] t false,a4c true (G6 fi nl o9) (B7 fi xs o9) its]∧
 R (.d (.tup [])) [wN [0,0] [2] t false,hB [0,0], .cells 104 ks, .cells 102 fs, .cells 33 cs,S2 nl xs,buf false ((C7 true (G6 fi nl o9) (B7 fi xs o9) its).2++ [bD8 41])]
theorem g9o (κ:Nat) (k f c:Nat→D) (t:D) (fi nl:Bool) (xs:List D) (R:V→List Box→Prop):E4 (Cn T88) T88 (K4 (U85 κ)) 6 B6 B1 adW g7o 84 [.ptr [0,0] 0, .fn (.func 85) [] [.ptr [0,1] 0, .ptr [0,2] 0, .ptr [0,3] 0, .ptr [0,4] 0]] (G3 [wN [0,0] [0,5] t fi,hB [0,0], .cells 104 (v14 k), .cells 102 (v10 f), .cells 33 (v16 c),buf nl xs]) R=g6s (f8x κ) (v14 k) (v10 f) (v16 c) (wIt (yOf (v16 c))) t fi nl xs R:=by kernel_rfl
noncomputable def g9c (κ:Nat):J5:=(U85 κ).add 84 (n7 (f8w κ) f7c)
def W60 (i:Nat):Prop:=∀(κ:Nat) (y:D) (fi nl:Bool) (xs:List D) (R:V→List Box→Prop),E4 (Cn T88) T88 (K4 (g9c κ)) 2 B6 B1 adW (eW3 20) 60 [.ptr [0,0] 0, .d (.agg (eVk i y))] (G3 [wB [0,1] tK fi,buf nl xs]) R =
 (C8 (.agg (eVk i y))∧(f8w κ).pre [.ptr [0,0] 0, .fn (.func 85) [] [.ptr [0,1] 0, .ptr [0,2] 0, .ptr [0,3] 0, .ptr [0,4] 0]] [wN [0,0] [0,5] tK fi,hB [0,0], .cells 104 (kCl i), .cells 102 (fCl i (.agg (eVk i y))), .cells 33 (d4m i y),buf nl xs]∧R (.d (.tup [])) [wB [2] tK false,S2 nl xs,buf false (B7 fi xs (G7 (wIt (.agg (eVk i y)))))])
theorem g5j:W60 1:=fun κ y fi nl xs R=>by kernel_rfl
theorem g5i:W60 2:=fun κ y fi nl xs R=>by kernel_rfl
theorem g5h:W60 3:=fun κ y fi nl xs R=>by kernel_rfl
theorem g5g:W60 4:=fun κ y fi nl xs R=>by kernel_rfl
theorem g5f:W60 5:=fun κ y fi nl xs R=>by kernel_rfl
theorem g5e:W60 6:=fun κ y fi nl xs R=>by kernel_rfl
theorem g5d:W60 7:=fun κ y fi nl xs R=>by kernel_rfl
theorem g5c:W60 8:=fun κ y fi nl xs R=>by kernel_rfl
theorem g5b:W60 9:=fun κ y fi nl xs R=>by kernel_rfl
theorem f8o:W60 10:=fun κ y fi nl xs R=>by kernel_rfl
theorem f8n:W60 11:=fun κ y fi nl xs R=>by kernel_rfl
theorem f8m:W60 12:=fun κ y fi nl xs R=>by kernel_rfl
theorem f8k:W60 13:=fun κ y fi nl xs R=>by kernel_rfl
end Go.Ev.R2
end
