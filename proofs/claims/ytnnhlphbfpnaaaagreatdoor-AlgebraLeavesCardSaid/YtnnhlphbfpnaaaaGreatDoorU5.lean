/- What the proofs of the lexer's laws share, part 5 of 14. -/
import Derived.Test.YtnnhlphbfpnaaaaGreatDoorU4
set_option linter.unusedVariables false
set_option linter.unusedSimpArgs false
section
namespace Go.Ev.R2
open Go Go.Ev Go.Proofs
set_option maxRecDepth 100000
def g8z:Ct:=⟨fun ds=>match ds with | [.lit (.string _), .lit (.int .u8 c)]=>0≤c∧c<256|_=>False,fun | [.lit (.string s), .lit (.int .u8 c)]=>some (.lit (.int .i64 (Lib.indexByte s.data.toList c.toNat.toUInt8)))|_=>none⟩
def a6p:Tab:=Q5.add 262 g8z
def e5s:ByteArray:=⟨#[46,91,93,40,41,124,42,43,63,92]⟩
def a7y (c:Int):Bool:=decide (Lib.indexByte e5s.data.toList c.toNat.toUInt8≥0)
mutual
def K4 (s:ByteArray) (i:Nat):Bool×Nat :=
 if h:i<s.size then
  (if A6 s i=40 then (if (D8 s (i+1)).1 then (if J8 s (D8 s (i+1)).2 41 then (true,(D8 s (i+1)).2+1) else (false,(D8 s (i+1)).2)) else (false,(D8 s (i+1)).2))
  else if A6 s i=91 then ((brS s ((i+1:Nat):Int)).1,(brS s ((i+1:Nat):Int)).2.toNat)
  else if A6 s i=46 then (true,i+1)
  else if A6 s i=92 then (if S2 s ((i+1:Nat):Int) then (true,i+1+1) else (false,(a3s s ((i+1:Nat):Int)).toNat))
  else (!a7y (A6 s i),i+1))
 else (false,i)
termination_by (s.size-i)*4
def H4 (s:ByteArray) (i:Nat):Bool×Nat :=
 if (K4 s i).1 then (if J8 s (K4 s i).2 42||(J8 s (K4 s i).2 43||J8 s (K4 s i).2 63) then (true,(K4 s i).2+1) else (true,(K4 s i).2)) else (false,(K4 s i).2)
termination_by (s.size-i)*4+1
def L4 (s:ByteArray) (i:Nat):Bool×Nat :=
 if h:i<s.size then
  (if A6 s i=124∨A6 s i=41 then (true,i)
  else if (H4 s i).1 then (if h2:i<(H4 s i).2 then L4 s (H4 s i).2 else (false,i)) else (false,(H4 s i).2))
 else (true,i)
termination_by (s.size-i)*4+2
def D8 (s:ByteArray) (i:Nat):Bool×Nat :=
 if (L4 s i).1 then (if J8 s (L4 s i).2 124 then (if h2:i≤(L4 s i).2∧(L4 s i).2<s.size then D8 s ((L4 s i).2+1) else (false,i)) else (true,(L4 s i).2)) else (false,(L4 s i).2)
termination_by (s.size-i)*4+3
end
def b2v (f:ByteArray→Nat→Bool×Nat):Sm:=⟨fun _ bs=>d5n bs,fun vals bs=>match vals,bs with
 | [.ptr [0,0] 0], [.cells 213 [.d (.lit (.string s)), .d (.lit (.int .i64 i))]]=>one (.d (.tup [.any, .lit (.bool (f s i.toNat).1)])) [psB s (f s i.toNat).2] []
 | _,_=>none⟩
def grp:List (FuncId×Sm):=[(247,b2v K4),(232,b2v H4),(214,b2v L4),(192,b2v D8)]
def c4i (K:FuncId):Nat:=bif K==247 then 0 else bif K==232 then 1 else bif K==214 then 2 else 3
def muG (K:FuncId) (_:List V) (bs:List Box):Nat:=match bs with
 | [.cells _ [.d (.lit (.string s)), .d (.lit (.int _ i))]]=>(s.size-i.toNat)*4+c4i K
 | _=>0
def UG (n:Nat):Y7:=g4u.addG (b5x grp muG n)
theorem h4w (n : Nat) (s : ByteArray) (i : Int) (R : V → List Box → Prop) : (P8 (Cn a6p) a6p (L6 (UG n)) 1 C5 B1 [Ad.flat 2] e00 247 [V.ptr [0, 0] 0] (L5 [psB s i]) R) =
  (e2t.pre [V.ptr [0, 0] 0] [Box.cells 213 [C9 s, A3 i]] ∧
  (bif i == (↑s.size : Int) then
   R (V.d (D.tup [D.any, oD false]))
  [Box.cells 213 [C9 s, A3 i]] else
   (bif A6 s i.toNat == 40 then
    (((192, b2v D8).snd.below (muG (192, b2v D8).fst) n).pre [V.ptr [0, 0] 0]
  [Box.cells 213 [C9 s, A3 (IntKind.i64.wrap (i + 1))]] ∧
    (bif !(D8 s (IntKind.i64.wrap (i + 1)).toNat).fst then
     R (V.d (D.tup [D.any, oD false]))
  [Box.cells 213
      [C9 s,
        A3 (↑(D8 s (IntKind.i64.wrap (i + 1)).toNat).snd : Int)]] else
     (b8q.pre [V.ptr [0, 0] 0, V.d (D.lit (Value.int IntKind.u8 41))]
  [Box.cells 213
      [C9 s,
        A3 (↑(D8 s (IntKind.i64.wrap (i + 1)).toNat).snd : Int)]] ∧
     (bif J8 s (↑(D8 s (IntKind.i64.wrap (i + 1)).toNat).snd : Int) 41 then
      R (V.d (D.tup [D.any, oD true]))
  [Box.cells 213
      [C9 s,
        A3 ((↑(D8 s (IntKind.i64.wrap (i + 1)).toNat).snd : Int) + 1)]] else
      R (V.d (D.tup [D.any, oD false]))
  [Box.cells 213
      [C9 s,
        A3 (↑(D8 s (IntKind.i64.wrap (i + 1)).toNat).snd : Int)]])))) else
    (bif A6 s i.toNat == 91 then
     (f9u.pre [V.ptr [0, 0] 0]
  [Box.cells 213 [C9 s, A3 (IntKind.i64.wrap (i + 1))]] ∧
     R (V.d (D.tup [D.any, oD ((brS s (IntKind.i64.wrap (i + 1))).fst)]))
  [Box.cells 213
      [C9 s, A3 ((brS s (IntKind.i64.wrap (i + 1))).snd)]]) else
     (bif A6 s i.toNat == 46 then
      (d5i.pre [V.fn (Fn.func 260) [] []] [] ∧
      R (V.d (D.tup [D.any, oD true]))
  [Box.cells 213 [C9 s, A3 (IntKind.i64.wrap (i + 1))]]) else
      (bif A6 s i.toNat == 92 then
       (f2c.pre [V.ptr [0, 0] 0]
  [Box.cells 213 [C9 s, A3 (IntKind.i64.wrap (i + 1))]] ∧
       (bif S2 s (IntKind.i64.wrap (i + 1)) then
        R (V.d (D.tup [D.any, oD true]))
  [Box.cells 213 [C9 s, A3 (IntKind.i64.wrap (i + 1) + 1)]] else
        R (V.d (D.tup [D.any, oD false]))
  [Box.cells 213
      [C9 s, A3 (a3s s (IntKind.i64.wrap (i + 1)))]])) else
       ((((0 : Int) ≤ A6 s i.toNat) ∧ ((A6 s i.toNat : Int) < 256)) ∧
       (bif decide
  (Lib.indexByte (ByteArray.mk #[46, 91, 93, 40, 41, 124, 42, 43, 63, 92]).data.toList
      (A6 s i.toNat).toNat.toUInt8 ≥
    0) then
        R (V.d (D.tup [D.any, oD false]))
  [Box.cells 213 [C9 s, A3 (IntKind.i64.wrap (i + 1))]] else
        (e2s.pre [V.d (D.lit (Value.int IntKind.u8 (A6 s i.toNat)))] [] ∧
        R (V.d (D.tup [D.any, oD true]))
  [Box.cells 213 [C9 s, A3 (IntKind.i64.wrap (i + 1))]]))))))))) := by kernel_rfl
theorem h5b (n:Nat) (s:ByteArray) (i:Int) (R:V→List Box→Prop):(P8 (Cn a6p) a6p (L6 (UG n)) 1 C5 B1 [Ad.flat 2] e00 232 [V.ptr [0,0] 0] (L5 [psB s i]) R) =
 (((247,b2v K4).snd.below (muG (247,b2v K4).fst) n).pre [V.ptr [0,0] 0]
 [Box.cells 213 [C9 s,A3 i]]∧
 (bif !(K4 s i.toNat).fst then
 R (V.d (D.tup [D.any,oD false]))
 [Box.cells 213 [C9 s,A3 (↑(K4 s i.toNat).snd:Int)]] else
 (b8q.pre [V.ptr [0,0] 0,V.d (D.lit (Value.int IntKind.u8 42))]
 [Box.cells 213 [C9 s,A3 (↑(K4 s i.toNat).snd:Int)]]∧
 (bif J8 s (↑(K4 s i.toNat).snd:Int) 42 then
 R (V.d (D.tup [D.any,oD true]))
 [Box.cells 213
 [C9 s,A3 ((↑(K4 s i.toNat).snd:Int)+1)]] else
 (b8q.pre [V.ptr [0,0] 0,V.d (D.lit (Value.int IntKind.u8 43))]
 [Box.cells 213 [C9 s,A3 (↑(K4 s i.toNat).snd:Int)]]∧
 (bif J8 s (↑(K4 s i.toNat).snd:Int) 43 then
 R (V.d (D.tup [D.any,oD true]))
 [Box.cells 213
 [C9 s,A3 ((↑(K4 s i.toNat).snd:Int)+1)]] else
 (b8q.pre [V.ptr [0,0] 0,V.d (D.lit (Value.int IntKind.u8 63))]
 [Box.cells 213 [C9 s,A3 (↑(K4 s i.toNat).snd:Int)]]∧
 (bif J8 s (↑(K4 s i.toNat).snd:Int) 63 then
 R (V.d (D.tup [D.any,oD true]))
 [Box.cells 213
 [C9 s,A3 ((↑(K4 s i.toNat).snd:Int)+1)]] else
 R (V.d (D.tup [D.any,oD true]))
 [Box.cells 213 [C9 s,A3 (↑(K4 s i.toNat).snd:Int)]])))))))):=by kernel_rfl
noncomputable def f3n:Code:=D6 (C6 (A7 Tryz.f214) 4)
noncomputable def f3s:Code:=D6 (C6 (A7 Tryz.f192) 4)
abbrev trB (k:Int):Box:=.cells 239 [A3 k,A9 false, .d (.lit (.int .u8 0)), .d (.lit (.pointer none)), .ref [5001]]
abbrev bxG (k:Int) (s:ByteArray) (i:Int) (nl:Bool) (xs:List D):List Box:=[psB s i,trB k, .arr true nl 169 1 xs []]
def g3k:Nat→Option o9:=fun id=>match id with
 | 4=>some {ads:=[.flat 2] }
 | 7=>some {ads:=[.flat 2] }
 | _=>none
def g3m:Nat→Option o9:=fun id=>match id with
 | 4=>some {ads:=[.flat 2],cut:=[([2,3,4], [([0,0],[0,0]),([5000],[5000]),([25],[5001])])] }
 | _=>none
theorem h3f (n : Nat) (s : ByteArray) (i : Int) (nl : Bool) (xs : List D) (R : X → List V → List Box → Prop) : (D7 (Cn a6p) a6p (L6 (UG n)) 1 C5 g3k f3n 44 [0, 4] [[0, 0], [5000], [5001]] []
  [([0, 0], [0, 0]), ([5000], [5000]), ([5001], [43])] [2, 3] [([0, 0], [0, 0])] [V.ptr [0, 0] 0, V.ptr [5000] 0]
  (bxG 1 s i nl xs) R) =
  (e2t.pre [V.ptr [0, 0] 0] [Box.cells 213 [C9 s, A3 i]] ∧
  (bif i == (↑s.size : Int) then
   (44 = 44 ∧
   R X.ret [V.d D.any, A9 true]
  [Box.cells 213 [C9 s, A3 i]]) else
   (bif bif bif false then true else A6 s i.toNat == 124 then true else A6 s i.toNat == 41 then
    (44 = 44 ∧
    R X.ret [V.d D.any, A9 true]
  [Box.cells 213 [C9 s, A3 i]]) else
    (((232, b2v H4).snd.below (muG (232, b2v H4).fst) n).pre [V.ptr [0, 0] 0]
  [Box.cells 213 [C9 s, A3 i]] ∧
    (bif !(H4 s i.toNat).fst then
     (44 = 44 ∧
     R X.ret [V.d D.any, A9 false]
  [Box.cells 213 [C9 s, A3 (↑(H4 s i.toNat).snd : Int)]]) else
     (bif ((xs.length + 1) * 8).ble 70368744177664 then
      (44 = 44 ∧
      R X.normal [V.ptr [0, 0] 0, V.ptr [5000] 0]
  [Box.cells 213 [C9 s, A3 (↑(H4 s i.toNat).snd : Int)],
    Box.cells 239
      [A3 1, A9 false, V.d (D.lit (Value.int IntKind.u8 0)),
        V.d (D.lit (Value.pointer none)), V.ref [5001]],
    Box.arr true (nl && false) 169 1 (xs ++ [D.any]) []]) else
      False)))))) := by kernel_rfl
theorem h3k (n:Nat) (s:ByteArray) (i:Int) (nl:Bool) (xs:List D) (R:X→List V→List Box→Prop):(D7 (Cn a6p) a6p (L6 (UG n)) 1 C5 g3m f3s 42 [0,4] [[0,0], [5000], [5001]] []
 [([0,0], [0,0]),([5000], [5000]),([5001], [25])] [2,3,4] [([0,0], [0,0]),([5000], [5000]),([5001], [25])]
 [V.ptr [0,0] 0,V.ptr [5000] 0] (bxG 2 s i nl xs) R) =
 (((214,b2v L4).snd.below (muG (214,b2v L4).fst) n).pre [V.ptr [0,0] 0]
 [Box.cells 213 [C9 s,A3 i]]∧
 (bif !(L4 s i.toNat).fst then
 (42=42∧
 R X.ret [V.d D.any,A9 false,V.ptr [5000] 0]
 [Box.cells 213 [C9 s,A3 (↑(L4 s i.toNat).snd:Int)],
 Box.cells 239
 [A3 2,A9 false,V.d (D.lit (Value.int IntKind.u8 0)),
 V.d (D.lit (Value.pointer none)),V.ref [5001]],
 Box.arr true nl 169 1 xs []]) else
 (bif ((xs.length+1)*8).ble 70368744177664 then
 (b8q.pre [V.ptr [0,0] 0,V.d (D.lit (Value.int IntKind.u8 124))]
 [Box.cells 213 [C9 s,A3 (↑(L4 s i.toNat).snd:Int)]]∧
 (bif J8 s (↑(L4 s i.toNat).snd:Int) 124 then
 (42=42∧
 R X.normal [V.ptr [0,0] 0,V.ptr [5000] 0]
 [Box.cells 213
 [C9 s,A3 ((↑(L4 s i.toNat).snd:Int)+1)],
 Box.cells 239
 [A3 2,A9 false,V.d (D.lit (Value.int IntKind.u8 0)),
 V.d (D.lit (Value.pointer none)),V.ref [5001]],
 Box.arr true (nl&&false) 169 1 (xs++ [D.any]) []]) else
 (42=42∧
 R (X.exit 0) [V.any,V.any,V.ptr [5000] 0]
 [Box.cells 213 [C9 s,A3 (↑(L4 s i.toNat).snd:Int)],
 Box.cells 239
 [A3 2,A9 false,V.d (D.lit (Value.int IntKind.u8 0)),
 V.d (D.lit (Value.pointer none)),V.ref [5001]],
 Box.arr true (nl&&false) 169 1 (xs++ [D.any]) []]))) else
 False))):=by kernel_rfl
def f7u (n:Nat):Ev.Spec:={L:=[0,4],ns:=[([0,0],[0,0]),([5000],[12]),([5001],[5001])],ads:=[.cell [12] 4 169 1 [5001]],L':=[2,3],nm':=[[0,0]],G:=fun N vals bs k=>match vals,bs with
 | [.ptr [0,0] 0, .ptr [5000] 0], [.cells 213 [.d (.lit (.string s)), .d (.lit (.int .i64 i))], .cells 239 [.d (.lit (.int .i64 1)), .d (.lit (.bool false)), .d (.lit (.int .u8 0)), .d (.lit (.pointer none)), .ref [5001]], .arr true nl 169 1 [] []]=>(N=44∧0≤i∧i≤s.size∧s.size≤200∧(s.size-i.toNat)*4+1<n)∧k .ret [.d .any,A9 (L4 s i.toNat).1] [psB s (L4 s i.toNat).2]
 | _,_=>False }
def f7z (n : Nat) : Ev.Spec := { L := [0,4], ns := [([0,0],[0,0]),([5000],[10]),([5001],[5001])], ads := [.cell [10] 4 169 1 [5001]], L' := [2,3,4], nm' := [[0,0],[5000],[5001]], G := fun N vals bs k => match vals, bs with
  | [.ptr [0,0] 0, .ptr [5000] 0], [.cells 213 [.d (.lit (.string s)), .d (.lit (.int .i64 i))], .cells 239 [.d (.lit (.int .i64 2)), .d (.lit (.bool false)), .d (.lit (.int .u8 0)), .d (.lit (.pointer none)), .ref [5001]], .arr true nl 169 1 [] []] => (N = 42 ∧ 0 ≤ i ∧ i ≤ s.size ∧ s.size ≤ 200 ∧ (s.size - i.toNat) * 4 + 2 < n) ∧
      (bif (D8 s i.toNat).1 then ∀ (m : Nat) (nl : Bool), k (.exit 0) [.any, .any, .ptr [5000] 0] (bxG 2 s (D8 s i.toNat).2 nl (.any :: List.replicate m .any))
       else ∀ (m : Nat) (nl : Bool), k .ret [.d .any, A9 false, .ptr [5000] 0] (bxG 2 s (D8 s i.toNat).2 nl (List.replicate m .any)))
  | _, _ => False }
theorem h5h (n:Nat) (s:ByteArray) (i:Int) (R:V→List Box→Prop):(P8 (Cn a6p) a6p (L6 (UG n)) 1 (spL [(4,f7u n)]) B1 [Ad.flat 2] e00 214 [V.ptr [0,0] 0] (L5 [psB s i]) R) =
 ((44=44∧(((0:Int)≤i)∧(((i:Int)≤(↑s.size:Int))∧(s.size≤200∧(s.size-i.toNat)*4+1<n))))∧
 R (V.d (D.tup [D.any,oD ((L4 s i.toNat).fst)]))
 [Box.cells 213 [C9 s,A3 (↑(L4 s i.toNat).snd:Int)]]):=by kernel_rfl
theorem h5q (n:Nat) (s:ByteArray) (i:Int) (R:V→List Box→Prop):(P8 (Cn a6p) a6p (L6 (UG n)) 1 (spL [(4,f7z n)]) B1 [Ad.flat 2] e00 192 [V.ptr [0,0] 0] (L5 [psB s i]) R) =
 ((42=42∧(((0:Int)≤i)∧(((i:Int)≤(↑s.size:Int))∧(s.size≤200∧(s.size-i.toNat)*4+2<n))))∧
 (bif (D8 s i.toNat).fst then
 (∀z0:Nat,(∀z1:Bool,(bif (↑(D.any::List.replicate z0 D.any).length:Int)==1 then
 ((((0:Int)≤0)∧(0<(D.any::List.replicate z0 D.any).length∧D.any=D.any))∧
 R (V.d (D.tup [D.any,oD true]))
 [Box.cells 213 [C9 s,A3 (↑(D8 s i.toNat).snd:Int)]]) else
 R (V.d (D.tup [D.any,oD true]))
 [Box.cells 213 [C9 s,A3 (↑(D8 s i.toNat).snd:Int)]]))) else
 (∀z2:Nat,(∀z3:Bool,R (V.d (D.tup [D.any,oD false]))
 [Box.cells 213 [C9 s,A3 (↑(D8 s i.toNat).snd:Int)]])))):=by kernel_rfl
def UR:Y7:=g4u.addG grp
def e2u (s:ByteArray):Bool:=(D8 s 0).1&&((D8 s 0).2==s.size)
def g9v:Ct:=⟨fun _=>True,fun | [.lit (.string s)]=>some (.tup [.any, .lit (.bool (bif decide ((s.size:Int)>200) then false else e2u s))])|_=>none⟩
def f6p:Tab:=a6p.add 147 g9v
def a5f (s:ByteArray):Int:=bif decide ((s.size:Int)>200) then 4 else bif e2u s then 0 else 3
def c77:Ct:=⟨fun _=>True,fun | [.lit (.string s)]=>some (.lit (.int .i64 (a5f s)))|_=>none⟩
def T77:Tab:=f6p.add 77 c77
def g8e:Nat→Option o9:=fun id=>match id with
 | 2=>some {ads:=[.flat 2] }
 | 6=>some {ads:=[.flat 2] }
 | 7=>some {ads:=[.flat 2] }
 | _=>none
theorem h6f (s:ByteArray) (p:V→Prop):(B7 (Cn a6p) a6p (L6 UR) 0 C5 g8e 147 [C9 s] B4.empty fun v H=>p (B5 H v)) =
 (bif decide ((↑s.size:Int)>200) then
 p (V.d (D.tup [D.any,oD false])) else
 ((b2v D8).pre [V.ptr [0,0] 0]
 [Box.cells 213 [C9 s,A3 0]]∧
 (bif bif !(D8 s 0).fst then true else (↑(D8 s 0).snd:Int) !=(↑s.size:Int) then
 p (V.d (D.tup [D.any,oD false])) else
 p (V.d (D.tup [D.any,oD true]))))):=by kernel_rfl
theorem w77 (s:ByteArray) (p:V→Prop):(B7 (Cn f6p) f6p D4 0 C5 B1 77 [C9 s] B4.empty fun v H=>p (B5 H v)) =
 (bif decide ((↑s.size:Int)>200) then
 p (A3 4) else
 (True∧
 (bif !bif decide ((↑s.size:Int)>200) then false else e2u s then
 p (A3 3) else
 p (A3 0)))):=by kernel_rfl
theorem c6y:C2 B a6p:=by
 refine Y1 a8t fun ds r hp hr=>?_
 unfold g8z at hr
 simp only[] at hr
 split at hr
 ·rename_i s c
  cases hr
  have hn:(Tryz.f262.name == "runtime.NumGoroutine")=false:=by kernel_rfl
  refine ⟨⟨Tryz.f262,Tryz.func262,by simpa using hn,by kernel_rfl⟩,fun w lim vs hl hg hd=>?_⟩
  obtain ⟨vs⟩:=vs
  cases hd with
  | cons h1 t =>
   cases t with
   | cons h2 t =>
    cases t
    cases h1;cases h2
    refine (Tryz.strings_IndexByte s c w).mono ?_
    rintro e w' ⟨rfl,rfl⟩
    exact ⟨_,lim,rfl, .refl _,fun _ _=>rfl,hl, .lit (by simp)⟩
 ·cases hr
theorem a4r (s:ByteArray):∀(n i:Nat),i≤s.size→s.size-i≤n→
  (i≤(K4 s i).2∧(K4 s i).2≤s.size∧((K4 s i).1=true→i<(K4 s i).2))∧(i≤(H4 s i).2∧(H4 s i).2≤s.size∧((H4 s i).1=true→i<(H4 s i).2))∧
  (i≤(L4 s i).2∧(L4 s i).2≤s.size)∧(i≤(D8 s i).2∧(D8 s i).2≤s.size):=by
 intro n
 induction n with
 | zero =>
  intro i hi hn
  have hlt:¬i<s.size:=by omega
  have hA:K4 s i=(false,i):=by unfold K4;rw[dif_neg hlt]
  have hF:H4 s i=(false,i):=by unfold H4;rw[hA];rfl
  have hS:L4 s i=(true,i):=by unfold L4;rw[dif_neg hlt]
  have hk:J8 s (i:Int) 124=false:=by
   have:((i:Int)==(s.size:Int))=true:=by simp;omega
   simp[J8,this]
  have hC:D8 s i=(true,i):=by unfold D8;rw[hS];simp[hk]
  rw[hA,hF,hS,hC]
  simp;omega
 | succ n ih =>
  intro i hi hn
  by_cases hlt:i<s.size
  ·have hA:i≤(K4 s i).2∧(K4 s i).2≤s.size∧((K4 s i).1=true→i<(K4 s i).2):=by
    have hc:=(ih (i+1) (by omega) (by omega)).2.2.2
    have hb:=b7q (s:=s) (n:=201) (i:=((i+1:Nat):Int)) (by omega) (by omega)
    have hbs:((i+1:Nat):Int)≤(brS s ((i+1:Nat):Int)).2∧(brS s ((i+1:Nat):Int)).2≤s.size:=by
     unfold brS
     cases g:J8 s ((i+1:Nat):Int) 94 with
     | true=>have:=X5 g (by omega);exact d7b (by simp only[cond_true];omega) (by simp only[cond_true];omega) (by simp only[cond_true];omega)
     | false=>exact d7b (by simp only[cond_false];omega) (by simp only[cond_false];omega) (by simp only[cond_false];omega)
    have he:=b5s (s:=s) (i:=((i+1:Nat):Int)) (by omega) (by omega)
    have he2:((i+1:Nat):Int)≤a3s s ((i+1:Nat):Int):=by
     unfold a3s
     cases (((i+1:Nat):Int)==(s.size:Int))<;>simp<;>omega
    unfold K4
    rw[dif_pos hlt]
    split
    ·split
     ·split
      ·rename_i g;have:=X5 g (by omega);simp only[];omega
      ·simp only[];omega
     ·simp only[];omega
    ·split
     ·simp only[];omega
     ·split
      ·simp only[];omega
      ·split
       ·split
        ·rename_i g;have:=b5r g;simp only[];omega
        ·simp only[];omega
       ·simp only[];omega
   have hF:i≤(H4 s i).2∧(H4 s i).2≤s.size∧((H4 s i).1=true→i<(H4 s i).2):=by
    unfold H4
    split
    ·rename_i g
     have:=hA.2.2 g
     split
     ·rename_i g2
      have:(K4 s i).2<s.size:=by
       simp only[Bool.or_eq_true] at g2
       rcases g2 with g2|g2|g2<;>(have:=X5 g2 (by omega);omega)
      simp only[];omega
     ·simp only[];omega
    ·simp only[];refine ⟨hA.1,hA.2.1,fun h=>by cases h⟩
   have hS:i≤(L4 s i).2∧(L4 s i).2≤s.size:=by
    unfold L4
    rw[dif_pos hlt]
    split
    ·simp only[];omega
    ·split
     ·split
      ·rename_i g
       have:=(ih (H4 s i).2 hF.2.1 (by omega)).2.2.1
       omega
      ·simp only[];omega
     ·simp only[];omega
   refine ⟨hA,hF,hS, ?_⟩
   unfold D8
   split
   ·split
    ·split
     ·rename_i g
      have:=(ih ((L4 s i).2+1) (by omega) (by omega)).2.2.2
      omega
     ·simp only[];omega
    ·simp only[];omega
   ·simp only[];omega
  ·exact ih i hi (by omega)
theorem g6u {n:Nat} (hs:S6 B (UG n)):OkS (Cn a6p) 1 (.loop f3n) (f7u n):=by
 refine D2 fun N vals bs K h=>?_
 simp only[f7u] at h
 split at h
 case h_2=>exact h.elim
 rename_i s i nl
 obtain ⟨⟨rfl,h0,h1,h2,hm⟩,h⟩:=h
 obtain ⟨i,rfl⟩:=Int.eq_ofNat_of_zero_le h0
 rw[Int.toNat_natCast] at h hm
 have key:∀(k i:Nat) (nl:Bool) (xs:List D),i≤s.size→s.size-i≤k→(s.size-i)*4+1<n→xs.length≤i→K .ret [.d .any,A9 (L4 s i).1] [psB s (L4 s i).2]→
   J5 (Cn a6p) 1 f3n 44 [0,4] [[0,0],[5000],[5001]] [2,3] [[0,0]] [.ptr [0,0] 0, .ptr [5000] 0] (bxG 1 s i nl xs) K:=by
  intro k
  induction k with
  | zero =>
   intro i nl xs hi hk hm hx h
   have hlt:¬i<s.size:=by omega
   have hS:L4 s i=(true,i):=by unfold L4;rw[dif_neg hlt]
   refine B6 (U8 C4 c6y hs) C1 A8 (hn:=g3k) (adsI:=[]) (nsI:=[([0,0],[0,0]),([5000],[5000]),([5001],[43])]) (nsX:=[([0,0],[0,0])]) rfl rfl (keep (h3f n s i nl xs _) ?_)
   refine ⟨⟨by omega,by omega,h2⟩, ?_⟩
   have e:((i:Int)==(s.size:Int))=true:=by simp;omega
   rw[e]
   rw[hS] at h
   exact ⟨rfl,h⟩
  | succ k ih =>
   intro i nl xs hi hk hm hx h
   by_cases hlt:i<s.size
   ·have hp:=a4r s (s.size-i) i hi (by omega)
    refine B6 (U8 C4 c6y hs) C1 A8 (hn:=g3k) (adsI:=[]) (nsI:=[([0,0],[0,0]),([5000],[5000]),([5001],[43])]) (nsX:=[([0,0],[0,0])]) rfl rfl (keep (h3f n s i nl xs _) ?_)
    refine ⟨⟨by omega,by omega,h2⟩, ?_⟩
    have e:((i:Int)==(s.size:Int))=false:=by simp;omega
    rw[e]
    simp only[cond_false,Int.toNat_natCast]
    unfold L4 at h
    rw[dif_pos hlt] at h
    refine A4 (fun g=>?_) (fun g=>?_)
    ·have:A6 s i=124∨A6 s i=41:=by
      cases g1:(A6 s i==124) with
      | true=>left;simpa using g1
      | false=>right;rw[g1] at g;simpa using g
     rw[if_pos this] at h
     exact ⟨trivial,h⟩
    ·have:¬(A6 s i=124∨A6 s i=41):=by
      rintro (g1|g1)
      ·rw[g1] at g;simp at g
      ·rw[g1] at g;simp at g
     rw[if_neg this] at h
     refine ⟨⟨⟨by omega,by omega,h2⟩,by show (s.size-((i:Int)).toNat)*4+1<n;simpa using hm⟩, ?_⟩
     cases g2:(H4 s i).1 with
     | false =>
      rw[g2] at h
      exact ⟨trivial,h⟩
     | true =>
      have hj:=hp.2.1.2.2 g2
      have hj2:=hp.2.1.2.1
      rw[g2] at h
      simp only[if_true] at h
      rw[dif_pos hj] at h
      simp only[Bool.not_true,cond_false]
      have hr:((xs.length+1)*8).ble 70368744177664=true:=by simp[Nat.ble_eq];omega
      rw[hr]
      simp only[cond_true]
      exact ⟨trivial,ih (H4 s i).2 (nl&&false) (xs++ [D.any]) hj2 (by omega) (by omega) (by simp;omega) h⟩
   ·exact ih i nl xs hi (by omega) hm hx h
 exact key (s.size-i) i nl [] (by omega) (by omega) hm (by simp) h
theorem c6h (m:Nat):List.replicate m D.any++ [D.any]= .any::List.replicate m D.any:=by
 rw[←List.replicate_succ',List.replicate_succ]
theorem g7c {n : Nat} (hs : S6 B (UG n)) : OkS (Cn a6p) 1 (.loop f3s) (f7z n) := by
  refine D2 fun N vals bs K h => ?_
  simp only [f7z] at h
  split at h
  case h_2 => exact h.elim
  rename_i s i nl
  obtain ⟨⟨rfl, h0, h1, h2, hm⟩, h⟩ := h
  obtain ⟨i, rfl⟩ := Int.eq_ofNat_of_zero_le h0
  rw [Int.toNat_natCast] at h hm
  have key : ∀ (k i : Nat) (nl : Bool) (m : Nat), i ≤ s.size → s.size - i ≤ k → (s.size - i) * 4 + 2 < n → m ≤ i →
      (bif (D8 s i).1 then ∀ (m : Nat) (nl : Bool), K (.exit 0) [.any, .any, .ptr [5000] 0] (bxG 2 s (D8 s i).2 nl (.any :: List.replicate m .any))
       else ∀ (m : Nat) (nl : Bool), K .ret [.d .any, A9 false, .ptr [5000] 0] (bxG 2 s (D8 s i).2 nl (List.replicate m .any))) →
      J5 (Cn a6p) 1 f3s 42 [0,4] [[0,0],[5000],[5001]] [2,3,4] [[0,0],[5000],[5001]] [.ptr [0,0] 0, .ptr [5000] 0] (bxG 2 s i nl (List.replicate m .any)) K := by
    intro k
    induction k with
    | zero =>
      intro i nl m hi hk hm hx h
      have hp := a4r s (s.size - i) i hi (by omega)
      refine B6 (U8 C4 c6y hs) C1 A8 (hn := g3m) (adsI := []) (nsI := [([0,0],[0,0]),([5000],[5000]),([5001],[25])]) (nsX := [([0,0],[0,0]),([5000],[5000]),([5001],[25])]) rfl rfl (keep (h3k n s i nl (List.replicate m .any) _) ?_)
      refine ⟨⟨⟨by omega, by omega, h2⟩, by show (s.size - ((i : Int)).toNat) * 4 + 2 < n; simpa using hm⟩, ?_⟩
      simp only [Int.toNat_natCast]
      unfold D8 at h
      cases g1 : (L4 s i).1 with
      | false => rw [g1] at h; exact ⟨trivial, h m nl⟩
      | true =>
        rw [g1] at h
        simp only [if_true] at h
        have hr : (((List.replicate m D.any).length + 1) * 8).ble 70368744177664 = true := by simp [Nat.ble_eq]; omega
        simp only [Bool.not_true, cond_false, hr, cond_true]
        refine ⟨⟨by omega, by omega, h2⟩, ?_⟩
        cases g2 : J8 s ((L4 s i).2 : Int) 124 with
        | true => have := X5 g2 (by omega); omega
        | false =>
          rw [g2] at h
          rw [c6h]
          exact ⟨trivial, h m (nl && false)⟩
    | succ k ih =>
      intro i nl m hi hk hm hx h
      have hp := a4r s (s.size - i) i hi (by omega)
      refine B6 (U8 C4 c6y hs) C1 A8 (hn := g3m) (adsI := []) (nsI := [([0,0],[0,0]),([5000],[5000]),([5001],[25])]) (nsX := [([0,0],[0,0]),([5000],[5000]),([5001],[25])]) rfl rfl (keep (h3k n s i nl (List.replicate m .any) _) ?_)
      refine ⟨⟨⟨by omega, by omega, h2⟩, by show (s.size - ((i : Int)).toNat) * 4 + 2 < n; simpa using hm⟩, ?_⟩
      simp only [Int.toNat_natCast]
      unfold D8 at h
      cases g1 : (L4 s i).1 with
      | false => rw [g1] at h; exact ⟨trivial, h m nl⟩
      | true =>
        rw [g1] at h
        simp only [if_true] at h
        have hr : (((List.replicate m D.any).length + 1) * 8).ble 70368744177664 = true := by simp [Nat.ble_eq]; omega
        simp only [Bool.not_true, cond_false, hr, cond_true]
        refine ⟨⟨by omega, by omega, h2⟩, ?_⟩
        cases g2 : J8 s ((L4 s i).2 : Int) 124 with
        | true =>
          have hj := X5 g2 (by omega)
          rw [g2] at h
          simp only [if_true] at h
          rw [dif_pos ⟨hp.2.2.1.1, by omega⟩] at h
          rw [c6h]
          have := ih ((L4 s i).2 + 1) (nl && false) (m + 1) (by omega) (by omega) (by omega) (by omega) h
          exact ⟨trivial, this⟩
        | false =>
          rw [g2] at h
          rw [c6h]
          exact ⟨trivial, h m (nl && false)⟩
  exact key (s.size - i) i nl 0 (by omega) (by omega) hm (by omega) h
theorem qUR:S6 B UR:=by
 refine c8v h7g grp muG fun n hs K S hmem vals bs c x y hp hmu hf=>?_
 have hs:S6 B (UG n):=hs
 simp only[grp,List.mem_cons,Prod.mk.injEq,List.not_mem_nil,or_false] at hmem
 have inv:∀f:ByteArray→Nat→Bool×Nat,S=b2v f→∃(s:ByteArray) (i:Nat),vals= [.ptr [0,0] 0]∧bs= [psB s i]∧(i≤s.size∧s.size≤200)∧n=(s.size-i)*4+c4i K∧
   (bif c then x else y)=(.d (.tup [.any, .lit (.bool (f s i).1)]), [psB s (f s i).2], []):=by
  rintro f rfl
  unfold b2v at hf hp
  simp only[] at hf hp
  split at hf
  case h_2=>cases hf
  rename_i s i
  simp only[one,Option.some.injEq,Prod.mk.injEq] at hf
  obtain ⟨rfl,rfl,rfl⟩:=hf
  obtain ⟨h0,h1,h2⟩:=hp
  obtain ⟨i,rfl⟩:=Int.eq_ofNat_of_zero_le h0
  refine ⟨s,i,rfl,rfl,⟨by omega,h2⟩, ?_, ?_⟩
  ·rw[←hmu];simp[muG]
  ·simp
 rcases hmem with ⟨rfl,rfl⟩|⟨rfl,rfl⟩|⟨rfl,rfl⟩|⟨rfl,rfl⟩
 ·obtain ⟨s,i,rfl,rfl,⟨h1,h2⟩,rfl,e⟩:=inv K4 rfl
  rw[e]
  refine P3 C4 c6y hs (fn:=Tryz.f247) (cd:=A7 Tryz.f247) (sp:=C5) (hn:=B1) (k:=1) (ads:=[.flat 2]) (ends:=e00) Tryz.func247 (by kernel_rfl) (by kernel_rfl) (by kernel_rfl) a7g A8 rfl rfl (keep (h4w _ s i _) ?_)
  refine ⟨⟨by omega,by omega,h2⟩, ?_⟩
  unfold K4
  by_cases hlt:i<s.size
  ·have e1:((i:Int)==(s.size:Int))=false:=by simp;omega
   rw[e1,dif_pos hlt,a2k (i:=(i:Int)+1) (by omega) (by omega)]
   have e2:(i:Int)+1=((i+1:Nat):Int):=by omega
   rw[e2]
   simp only[cond_false,Int.toNat_natCast]
   have hp:=a4r s (s.size-(i+1)) (i+1) (by omega) (by omega)
   refine A4 (fun g1=>?_) (fun g1=>?_)
   ·rw[if_pos (by simpa using g1)]
    refine ⟨⟨⟨by omega,by omega,h2⟩,by show (s.size-(((i+1:Nat):Int)).toNat)*4+3<_;simp[c4i];omega⟩, ?_⟩
    cases g2:(D8 s (i+1)).1 with
    | false=>exact ⟨rfl,rfl⟩
    | true =>
     refine ⟨⟨by omega,by omega,h2⟩, ?_⟩
     cases g3:J8 s ((D8 s (i+1)).2:Int) 41 with
     | true=>exact ⟨rfl,rfl⟩
     | false=>exact ⟨rfl,rfl⟩
   rw[if_neg (by simpa using g1)]
   refine A4 (fun g2=>?_) (fun g2=>?_)
   ·rw[if_pos (by simpa using g2)]
    have hb:0≤(brS s ((i+1:Nat):Int)).2:=by
     unfold brS
     cases g:J8 s ((i+1:Nat):Int) 94 with
     | true=>have:=X5 g (by omega);exact (b7q (by simp only[cond_true];omega) (by simp only[cond_true];omega)).1
     | false=>exact (b7q (by simp only[cond_false];omega) (by simp only[cond_false];omega)).1
    refine ⟨⟨by omega,by omega,h2⟩,rfl, ?_⟩
    simp only[Int.toNat_of_nonneg hb]
    rfl
   rw[if_neg (by simpa using g2)]
   refine A4 (fun g3=>?_) (fun g3=>?_)
   ·rw[if_pos (by simpa using g3)]
    exact ⟨trivial,rfl,rfl⟩
   rw[if_neg (by simpa using g3)]
   refine A4 (fun g4=>?_) (fun g4=>?_)
   ·rw[if_pos (by simpa using g4)]
    refine ⟨⟨by omega,by omega,h2⟩, ?_⟩
    cases g5:S2 s ((i+1:Nat):Int) with
    | true=>exact ⟨rfl,rfl⟩
    | false =>
     have he:=b5s (s:=s) (i:=((i+1:Nat):Int)) (by omega) (by omega)
     refine ⟨rfl, ?_⟩
     simp only[Bool.false_eq_true,if_false,Int.toNat_of_nonneg he.1]
     rfl
   rw[if_neg (by simpa using g4)]
   refine ⟨j6 _ _, ?_⟩
   refine A4 (fun g5=>?_) (fun g5=>?_)
   ·have:a7y (A6 s i)=true:=g5
    rw[this];exact ⟨rfl,rfl⟩
   ·have:a7y (A6 s i)=false:=g5
    rw[this];exact ⟨trivial,rfl,rfl⟩
  ·have e1:((i:Int)==(s.size:Int))=true:=by simp;omega
   rw[e1,dif_neg hlt]
   exact ⟨rfl,rfl⟩
 ·obtain ⟨s,i,rfl,rfl,⟨h1,h2⟩,rfl,e⟩:=inv H4 rfl
  rw[e]
  have hp:=a4r s (s.size-i) i h1 (by omega)
  refine P3 C4 c6y hs (fn:=Tryz.f232) (cd:=A7 Tryz.f232) (sp:=C5) (hn:=B1) (k:=1) (ads:=[.flat 2]) (ends:=e00) Tryz.func232 (by kernel_rfl) (by kernel_rfl) (by kernel_rfl) a7g A8 rfl rfl (keep (h5b _ s i _) ?_)
  refine ⟨⟨⟨by omega,by omega,h2⟩,by show (s.size-((i:Int)).toNat)*4+0<_;simp[c4i]⟩, ?_⟩
  unfold H4
  simp only[Int.toNat_natCast]
  cases g1:(K4 s i).1 with
  | false=>exact ⟨rfl,rfl⟩
  | true =>
   simp only[Bool.not_true,cond_false,if_true]
   refine ⟨⟨by omega,by omega,h2⟩,A4 (fun g2=>?_) (fun g2=>?_)⟩
   ·rw[g2];exact ⟨rfl,rfl⟩
   refine ⟨⟨by omega,by omega,h2⟩,A4 (fun g3=>?_) (fun g3=>?_)⟩
   ·rw[g2,g3];exact ⟨rfl,rfl⟩
   refine ⟨⟨by omega,by omega,h2⟩,A4 (fun g4=>?_) (fun g4=>?_)⟩
   ·rw[g2,g3,g4];exact ⟨rfl,rfl⟩
   ·rw[g2,g3,g4];exact ⟨rfl,rfl⟩
 ·obtain ⟨s,i,rfl,rfl,⟨h1,h2⟩,rfl,e⟩:=inv L4 rfl
  rw[e]
  refine P3 C4 c6y hs (fn:=Tryz.f214) (cd:=A7 Tryz.f214) (sp:=spL [(4,f7u _)]) (hn:=B1) (k:=1) (ads:=[.flat 2]) (ends:=e00) Tryz.func214 (by kernel_rfl) (by kernel_rfl) (by kernel_rfl) a7g (B8 (c:=.loop f3n) (by kernel_rfl) (g6u hs) C8) rfl rfl (keep (h5h _ s i _) ?_)
  simp only[Int.toNat_natCast]
  exact ⟨⟨trivial,by omega,by omega,h2,by simp[c4i]⟩,by trivial,by trivial⟩
 ·obtain ⟨s,i,rfl,rfl,⟨h1,h2⟩,rfl,e⟩:=inv D8 rfl
  rw[e]
  refine P3 C4 c6y hs (fn:=Tryz.f192) (cd:=A7 Tryz.f192) (sp:=spL [(4,f7z _)]) (hn:=B1) (k:=1) (ads:=[.flat 2]) (ends:=e00) Tryz.func192 (by kernel_rfl) (by kernel_rfl) (by kernel_rfl) a7g (B8 (c:=.loop f3s) (by kernel_rfl) (g7c hs) C8) rfl rfl (keep (h5q _ s i _) ?_)
  simp only[Int.toNat_natCast]
  refine ⟨⟨trivial,by omega,by omega,h2,by simp[c4i]⟩,A4 (fun g=>fun m nl=>A4 (fun g2=>⟨by simp, ?_,rfl⟩) (fun g2=>⟨?_,rfl⟩)) (fun g=>fun m nl=>⟨?_,rfl⟩)⟩
  ·rw[g]
  ·rw[g]
  ·rw[g]
theorem h9h:C2 B f6p:=by
 refine b5y C4 c6y qUR (fn:=Tryz.f147) (cd:=A7 Tryz.f147) (sp:=C5) (hn:=g8e) Tryz.func147 (by kernel_rfl) (by kernel_rfl) A8 fun ds r hp hr=>?_
 unfold g9v at hr
 simp only[] at hr
 split at hr
 ·rename_i s
  cases hr
  refine keep (h6f s fun v=>v=_) ?_
  refine A4 (fun g=>?_) (fun g=>⟨⟨by omega,by omega,by have:=of_decide_eq_false g;omega⟩, ?_⟩)
  ·rw[g];rfl
  ·rw[g]
   unfold e2u
   simp only[cond_false]
   refine A4 (fun g2=>?_) (fun g2=>?_)
   ·have:((D8 s 0).1&&(D8 s 0).2==s.size)=false:=by
     cases h:(D8 s 0).1 with
     | false=>rfl
     | true =>
      rw[h] at g2
      have:((D8 s 0).2:Int)≠s.size:=by simpa using g2
      simp;omega
    rw[this]
   ·have:((D8 s 0).1&&(D8 s 0).2==s.size)=true:=by
     cases h:(D8 s 0).1 with
     | false=>rw[h] at g2;simp at g2
     | true =>
      rw[h] at g2
      have:((D8 s 0).2:Int)=s.size:=by simpa [bne] using g2
      simp;omega
    rw[this]
 ·cases hr
theorem k77:C2 B T77:=by
 refine C3 C4 h9h (fn:=Tryz.f77) (cd:=A7 Tryz.f77) (sp:=C5) (hn:=B1) Tryz.func77 (by kernel_rfl) (by kernel_rfl) A8 fun ds r hp hr=>?_
 unfold c77 at hr
 simp only[] at hr
 split at hr
 ·rename_i s
  cases hr
  refine keep (w77 s fun v=>v=_) ?_
  unfold a5f
  refine A4 (fun g=>?_) (fun g=>⟨trivial, ?_⟩)
  ·rw[g];rfl
  ·rw[g]
   simp only[cond_false]
   cases e2u s<;>rfl
 ·cases hr
def W7 (l:List UInt8):D:=.lit (.string ⟨l.toArray⟩)
def e9b (s:ByteArray):Bool:=s.data.toList.all fun b=>decide (b.toNat<128)
def c71:Ct:=⟨fun ds=>match ds with | [.lit (.string s)]=>s.size<4294967281∧e9b s=true|_=>False,fun | [.lit (.string s)]=>some (.slice false 1 ((Lib.fields s.data.toList).map W7))|_=>none⟩
def T71:Tab:=T77.add 71 c71
theorem b8v {w:World} {lim:Nat→Nat}:∀{xs:List Value} {vs:List Value},(∀x∈xs,∀a,x≠ .agg a)→E5 w lim (xs.map .lit) vs→vs=xs
 | [],_,_,h=>by cases h;rfl
 | x::xs,_,h',h=>by
  cases h with
  | cons h1 t=>cases h1;rw[b8v (fun y hy=>h' y (.tail _ hy)) t]
theorem d2b {w:World} {lim:Nat→Nat}:∀{xs:List Value},(∀x∈xs,∀a,x≠ .agg a)→E5 w lim (xs.map .lit) xs
 | [],_=>.nil
 | x::xs,h=>.cons (.lit (h x (.head _))) (d2b fun y hy=>h y (.tail _ hy))
theorem f9p {w:World} {lim:Nat→Nat} (hg:a7q B w lim):Lib.TabIs Tryz.prog w "strings.asciiSpace" .u8 Lib.asciiSpaceTab:=by
 obtain ⟨h1,h2,c,t,m,h3,h4⟩:=hg 0 b8j rfl
 have hn:Tryz.prog.globalNamed "strings.asciiSpace" = some 0:=by kernel_rfl
 unfold Lib.TabIs World.var?
 rw[hn]
 show (match w.heap[0]? with|some (.cells cs _ _)=>some cs|_=>none)=_
 rw[h3]
 refine congrArg some ?_
 cases h1 with
 | elem hd hf hh =>
  have e:b8j=(Lib.asciiSpaceTab.map fun z=>Value.int .u8 z).map .lit:=by simp[b8j]
  rw[e] at hd
  have:=b8v (by intro x hx a;obtain ⟨z,_,rfl⟩:=List.mem_map.1 hx;simp) hd
  subst this
  refine Array.ext' ?_
  rw[List.toList_toArray]
  refine List.ext_getElem? fun i=>?_
  by_cases hi:i<c.toList.length
  ·have hi':i<(Lib.asciiSpaceTab.map fun z=>Value.int .u8 z).length:=by rw[e,List.length_map] at h4;simpa [←h4] using hi
   have:=(hh.2 i _ (List.getElem?_eq_getElem hi')).2
   unfold World.cell? at this
   simp only[Nat.zero_add,h3] at this
   rw[List.getElem?_eq_getElem hi', ←this]
   simp
  ·have hi':¬i<(Lib.asciiSpaceTab.map fun z=>Value.int .u8 z).length:=by rw[e,List.length_map] at h4;simpa [←h4] using hi
   simp only[List.toList_toArray]
   rw[List.getElem?_eq_none (by omega),List.getElem?_eq_none (by omega)]
theorem k71:C2 B T71:=by
 refine Y1 k77 fun ds r hp hr=>?_
 unfold c71 at hr hp
 simp only[] at hr
 split at hr
 ·rename_i s
  cases hr
  have hn:(Tryz.f71.name == "runtime.NumGoroutine")=false:=by kernel_rfl
  refine ⟨⟨Tryz.f71,Tryz.func71,by simpa using hn,by kernel_rfl⟩,fun w lim vs hl hg hd=>?_⟩
  obtain ⟨vs⟩:=vs
  cases hd with
  | cons h1 t =>
   cases t
   cases h1
   refine (Tryz.strings_Fields_laid s w hp.1 (fun j b hb=>by
    have:=List.all_eq_true.1 hp.2 b (List.mem_of_getElem? hb);simpa using this) (f9p hg)).mono ?_
   rintro e w' ⟨rfl,rfl⟩
   refine ⟨_,fun b=>if b=w.heap.size then (Lib.fields s.data.toList).length else lim b,rfl, .alloc ..,fun b hb=>if_neg (by omega),fun b hb=>?_, ?_⟩
   ·simp at hb
    show (if b=w.heap.size then _ else _)=0
    rw[if_neg (by omega)];exact hl b (by omega)
   ·have e:E9 ((Lib.fields s.data.toList).map W7)=((Lib.fields s.data.toList).map fun l=>Value.string ⟨l.toArray⟩).map .lit:=by
     generalize Lib.fields s.data.toList=l
     induction l with
     | nil=>rfl
     | cons a l ih=>rw[List.map_cons,List.map_cons,List.map_cons, ←ih];rfl
    refine .slice (vs:=(Lib.fields s.data.toList).map fun l=>Value.string ⟨l.toArray⟩) ?_ ?_ (fun _=>⟨rfl,fun i v hv=>⟨?_, ?_⟩⟩) ?_ (by simp) (Nat.le_refl _)
    ·rw[e];exact d2b (by intro x hx a;obtain ⟨z,_,rfl⟩:=List.mem_map.1 hx;simp)
    ·intro x hx;obtain ⟨z,_,rfl⟩:=List.mem_map.1 hx;exact ⟨by simp,by simp⟩
    ·have:=(List.getElem?_eq_some_iff.1 hv).1
     simp only[List.length_map] at this
     show 0+i<if w.heap.size=w.heap.size then _ else _
     rw[if_pos rfl];omega
    ·show (w.alloc _).cell? ⟨w.heap.size,0+i,none⟩=_
     rw[Nat.zero_add,World.cell?_alloc_new];simpa using hv
    ·intro x hx;obtain ⟨z,_,rfl⟩:=List.mem_map.1 hx;rfl
 ·cases hr
def j4 (k:Int) (name:List UInt8) (f:List Bool) (fns:D) (args typ:Int):D×D:=(.lit (.int .i64 k), .agg (W7 name::(f.map (fun b=>.lit (.bool b))++ [fns, .lit (.int .i64 args), .lit (.int .i64 typ)])))
def b4c:D:=.slice true 0 []
def i2d:D:=.slice false 1 [W7 [108,97,115,116],W7 [99,111,117,110,116],W7 [115,117,109],W7 [109,105,110],W7 [109,97,120],W7 [97,118,103],W7 [100,101,108,116,97],W7 [105,110,99,114,101,97,115,101],W7 [114,97,116,101],W7 [113,117,97,110,116,105,108,101],W7 [104,105,115,116,113,117,97,110,116,105,108,101]]
def i2c:D:=.slice false 1 [W7 [108,105,110,101,115],W7 [98,121,116,101,115],W7 [117,110,119,114,97,112]]
def i2b:D:=.slice false 1 [W7 [115,117,109],W7 [99,111,117,110,116],W7 [109,105,110],W7 [109,97,120],W7 [97,118,103],W7 [113,117,97,110,116,105,108,101],W7 [116,111,112],W7 [100,105,115,116,105,110,99,116],W7 [115,107,101,116,99,104]]
def i2a:D:=.slice false 1 [W7 [43],W7 [45],W7 [42],W7 [47],W7 [61,61],W7 [33,61],W7 [60],W7 [60,61],W7 [62],W7 [62,61]]
def W3:List (D×D):=[
 j4 1 [110,117,109,98,101,114] [false,false,true,false,false,false,false,false,false,false] b4c 0 1,
 j4 2 [119,105,110,100,111,119] [true,false,false,false,true,false,false,true,false,false] i2d 0 2,
 j4 3 [108,111,103,99,111,117,110,116] [true,false,false,false,true,false,true,true,true,true] i2c 0 2,
 j4 4 [116,114,97,99,101,99,111,117,110,116] [false,false,false,false,false,true,false,true,true,false] b4c 0 2,
 j4 5 [102,108,97,109,101,119,101,105,103,104,116] [false,false,false,true,true,false,false,true,true,true] b4c 0 2,
 j4 6 [97,103,103,114,101,103,97,116,101] [true,false,false,false,false,false,false,false,true,true] i2b 1 2,
 j4 7 [98,105,110,97,114,121] [true,true,false,false,false,false,false,false,true,true] i2a 2 0,
 j4 8 [108,111,103,115] [false,false,false,false,true,false,true,true,false,false] b4c 0 3,
 j4 9 [116,114,97,99,101,115] [false,false,false,false,false,true,false,true,false,false] b4c 0 4,
 j4 10 [102,108,97,109,101] [false,false,false,false,true,false,false,true,false,false] b4c 0 5,
 j4 11 [101,120,101,109,112,108,97,114,116,114,97,99,101,115] [false,false,false,false,true,false,false,true,false,false] b4c 0 4,
 j4 12 [108,111,103,115,111,102] [false,false,false,false,true,false,true,true,false,false] b4c 1 3,
 j4 13 [118,105,101,119] [false,false,false,true,false,false,false,false,false,false] b4c 0 0]
theorem w41 (p:V→Prop):(B7 (Cn T71) T71 D4 0 C5 B1 41 [] B4.empty fun v H=>p (B5 H v)) =
 ((68<4294967281∧true=true)∧
 ((18<4294967281∧true=true)∧
 ((50<4294967281∧true=true)∧
 ((23<4294967281∧true=true)∧
 p (.d (.map W3)))))):=by kernel_rfl
def c41:Ct:=⟨fun | []=>True|_=>False,fun _=>some (.map W3)⟩
def T41:Tab:=T71.add 41 c41
theorem k41:C2 B T41:=by
 refine C3 C4 k71 (fn:=Tryz.f41) (cd:=A7 Tryz.f41) (sp:=C5) (hn:=B1) Tryz.func41 (by kernel_rfl) (by kernel_rfl) A8 fun ds r hp hr=>?_
 have e1:ds= []:=by cases ds with|nil=>rfl|cons a b=>exact hp.elim
 have e2:r= .map W3:=(Option.some.inj hr).symm
 rw[e1,e2]
 refine keep (w41 (fun v=>v= .d (.map W3))) ?_
 exact ⟨⟨by decide,rfl⟩,⟨by decide,rfl⟩,⟨by decide,rfl⟩,⟨by decide,rfl⟩,Eq.refl _⟩
abbrev iC (y:D) (i:Nat):D:=.lit (.int .i64 (A1 (A0 y i)))
abbrev bC (y:D) (i:Nat):D:=.lit (.bool (Z8 (A0 y i)))
abbrev sC (y:D) (i:Nat):D:=.lit (.string (A5 (A0 y i)))
abbrev lC (y:D) (i sz:Nat):D:=.slice (K3 (A0 y i)) sz (A2 (A0 y i))
abbrev nV (y:D):D:=.lit (.string (A5 y))
abbrev mV (y:D):D:=.agg [iC y 0,sC y 1,sC y 2]
abbrev gV (y:D):D:=.agg [iC y 0,sC y 1,lC y 2 3,lC y 3 1]
abbrev cV (y:D):D:=.agg [sC y 0,iC y 1,sC y 2,iC y 3]
abbrev pV (y:D):D:=.agg [iC y 0,lC y 1 4,lC y 2 3]
abbrev eV (y:D):D:=.agg [iC y 0,iC y 1,lC y 2 3,iC y 3,iC y 4,iC y 5,iC y 6,lC y 7 1,bC y 8,iC y 9,lC y 10 4,iC y 11,lC y 12 4,lC y 13 3,sC y 14,lC y 15 16]
abbrev paV (y:D):D:=.agg [iC y 11,lC y 12 4,lC y 13 3]
abbrev E3 (y:D) (i:Nat):List D:=A2 (A0 y i)
def G6 (xs:List D):Prop:=xs.length≤1152921504606846976
def a2a (x:D):Prop:=mV x=x
def a4z (x:D):Prop:=cV x=x
def a2d (x:D):Prop:=nV x=x
inductive G7:D→Prop
 | mk {y:D} (h:pV y=y) (hl:G6 (E3 y 1)∧G6 (E3 y 2)) (hc:∀c∈E3 y 1,a4z c) (ha:∀a∈E3 y 2,G7 a):G7 y
structure a2e (y:D):Prop where
 v:gV y=y
 ml:G6 (E3 y 2)
 nl:G6 (E3 y 3)
 m:∀m∈E3 y 2,a2a m
 n:∀n∈E3 y 3,a2d n
inductive D0:D→Prop
 | mk {y:D} (h:eV y=y) (hl:(G6 (E3 y 2)∧G6 (E3 y 7))∧(G6 (E3 y 10)∧G6 (E3 y 15))) (hm:∀m∈E3 y 2,a2a m) (hn:∀n∈E3 y 7,a2d n) (hs:∀s∈E3 y 10,a2e s) (hp:G7 (paV y)) (ha:∀a∈E3 y 15,D0 a):D0 y
noncomputable abbrev dsz (y:D):Nat:=SizeOf.sizeOf y
theorem G3 {y a:D} {i:Nat} (h:a∈E3 y i):dsz a<dsz y:=by
 have key:∀x:D,a∈A2 x→dsz a<dsz x:=fun x hx=>by
  cases x with
  | slice b z xs=>have:=List.sizeOf_lt_of_mem (show a∈xs from hx);simp only[dsz,D.slice.sizeOf_spec];omega
  | _=>cases hx
 unfold E3 A0 at h
 rw[List.getD_eq_getElem?_getD] at h
 cases hg:y.cells[i]? with
 | none=>rw[hg] at h;cases h
 | some c =>
  rw[hg] at h
  have h1:=key c h
  cases y with
  | agg cs=>have:=List.sizeOf_lt_of_mem (List.mem_of_getElem? (show cs[i]?=some c from hg));simp only[dsz,D.agg.sizeOf_spec] at h1 ⊢;omega
  | _ =>
   have:=List.mem_of_getElem? hg
   simp only[D.cells,List.mem_singleton] at this
   subst this;exact h1
noncomputable def M4 (y:D):Nat:=1+((E3 y 2).attach.map fun ⟨a,h⟩=>M4 a).sum
termination_by dsz y
decreasing_by exact G3 h
theorem a3u (y:D):M4 y=1+((E3 y 2).map M4).sum:=by
 rw[M4];simp
def Q2 (l:List Nat):Nat:=l.foldl max 0
noncomputable def V9 (y:D):Nat:=1+Q2 ((E3 y 2).attach.map fun ⟨a,h⟩=>V9 a)
termination_by dsz y
decreasing_by exact G3 h
theorem c6i (y:D):V9 y=1+Q2 ((E3 y 2).map V9):=by
 rw[V9];simp
noncomputable def Q6 (y:D):Nat:=1+Q2 ((E3 y 15).attach.map fun ⟨a,h⟩=>Q6 a)
termination_by dsz y
decreasing_by exact G3 h
theorem b4o (y:D):Q6 y=1+Q2 ((E3 y 15).map Q6):=by
 rw[Q6];simp
def u5 (y:D):Bool:=decide (A1 (A0 y 11)≠0)||(decide (0<(E3 y 12).length)||decide (0<(E3 y 13).length))
noncomputable def G1 (y:D):Nat:=1+min (E3 y 10).length 100+(bif u5 y then M4 (paV y) else 0)+((E3 y 15).attach.map fun ⟨a,h⟩=>G1 a).sum
termination_by dsz y
decreasing_by exact G3 h
theorem p6 (y:D):G1 y=1+min (E3 y 10).length 100+(bif u5 y then M4 (paV y) else 0)+((E3 y 15).map G1).sum:=by
 rw[G1];simp
def cap (n:Nat):Nat:=min n 101
noncomputable def c53:Ct:=⟨fun | [x, .lit (.int .i64 n)]=>G7 x∧0≤n∧n≤100|_=>False,fun | [x, .lit (.int .i64 n)]=>some (.lit (.int .i64 (cap (n.toNat+M4 x):Nat)))|_=>none⟩
noncomputable def μ1 (ds:List D):Nat:=dsz (ds.headD .any)
noncomputable def U53 (n:Nat):Tab:=T41.add 53 (c53.below μ1 n)
noncomputable def T53:Tab:=T41.add 53 c53
def c74:Ct:=⟨fun | [x]=>D0 x|_=>False,fun | [x]=>some (.lit (.bool (u5 x)))|_=>none⟩
noncomputable def T74:Tab:=T53.add 74 c74
noncomputable def c47:Ct:=⟨fun | [x, .lit (.int .i64 n)]=>D0 x∧0≤n∧n≤100|_=>False,fun | [x, .lit (.int .i64 n)]=>some (.lit (.int .i64 (cap (n.toNat+G1 x):Nat)))|_=>none⟩
noncomputable def U47 (n:Nat):Tab:=T74.add 47 (c47.below μ1 n)
noncomputable def T47:Tab:=T74.add 47 c47
noncomputable def c19:Ct:=⟨fun | [x]=>D0 x|_=>False,fun | [x]=>some (.lit (.int .i64 (cap (G1 x):Nat)))|_=>none⟩
noncomputable def T19:Tab:=T47.add 19 c19
noncomputable def c54:Ct:=⟨fun | [x]=>G7 x∧M4 x≤100|_=>False,fun | [x]=>some (.lit (.int .i64 (V9 x:Nat)))|_=>none⟩
noncomputable def U54 (n:Nat):Tab:=T19.add 54 (c54.below μ1 n)
noncomputable def T54:Tab:=T19.add 54 c54
noncomputable def c43:Ct:=⟨fun | [x]=>D0 x∧G1 x≤100|_=>False,fun | [x]=>some (.lit (.int .i64 (Q6 x:Nat)))|_=>none⟩
noncomputable def U43 (n:Nat):Tab:=T54.add 43 (c43.below μ1 n)
noncomputable def T43:Tab:=T54.add 43 c43
noncomputable def l53:Code:=D6 (C6 (A7 Tryz.f53) 6)
noncomputable def l47:Code:=D6 (C6 (A7 Tryz.f47) 10)
noncomputable def l54:Code:=D6 (C6 (A7 Tryz.f54) 6)
noncomputable def l43:Code:=D6 (C6 (A7 Tryz.f43) 6)
noncomputable def S53 (κ:Nat):Ev.Spec:={L:=[1,10,11,12],ns:=[],L':=[1],nm':=[],G:=fun N vals bs k=>match vals,bs with
 | [.d (.lit (.int .i64 m)), .d (.slice b 3 xs), .d (.lit (.int .i64 n)), .d (.lit (.int .i64 i))], []=>∃a:Nat,(N=24∧i=0∧n=xs.length∧m=(cap a:Nat)∧∀y∈xs,G7 y∧dsz y<κ)∧k (.exit 0) [A3 (cap (a+(xs.map M4).sum):Nat)] []
 | _,_=>False }
noncomputable def S47 (κ:Nat):Ev.Spec:={L:=[1,25,26,27],ns:=[],L':=[1],nm':=[],G:=fun N vals bs k=>match vals,bs with
 | [.d (.lit (.int .i64 m)), .d (.slice b 16 xs), .d (.lit (.int .i64 n)), .d (.lit (.int .i64 i))], []=>∃a:Nat,(N=39∧i=0∧n=xs.length∧0≤m∧min m 101=(cap a:Nat)∧∀y∈xs,D0 y∧dsz y<κ)∧∀m':Int,min m' 101=(cap (a+(xs.map G1).sum):Nat)→k (.exit 0) [A3 m'] []
 | _,_=>False }
noncomputable def S54 (κ:Nat):Ev.Spec:={L:=[3,7,8,9],ns:=[],L':=[3],nm':=[],G:=fun N vals bs k=>match vals,bs with
 | [.d (.lit (.int .i64 m)), .d (.slice b 3 xs), .d (.lit (.int .i64 n)), .d (.lit (.int .i64 i))], []=>(N=20∧i=0∧n=xs.length∧m=0∧xs.length≤100∧∀y∈xs,(G7 y∧M4 y≤100)∧dsz y<κ)∧k (.exit 0) [A3 (Q2 (xs.map V9):Nat)] []
 | _,_=>False }
noncomputable def S43 (κ:Nat):Ev.Spec:={L:=[3,7,8,9],ns:=[],L':=[3],nm':=[],G:=fun N vals bs k=>match vals,bs with
 | [.d (.lit (.int .i64 m)), .d (.slice b 16 xs), .d (.lit (.int .i64 n)), .d (.lit (.int .i64 i))], []=>(N=20∧i=0∧n=xs.length∧m=0∧xs.length≤100∧∀y∈xs,(D0 y∧G1 y≤100)∧dsz y<κ)∧k (.exit 0) [A3 (Q2 (xs.map Q6):Nat)] []
 | _,_=>False }
theorem b53 (κ:Nat) (xs:List D) (i:Int) (n:Int) (m:Int) (b:Bool) (R:X→List V→List Box→Prop):(D7 (Cn (U53 κ)) (U53 κ) D4 0 C5 B1 l53 24 [1,10,11,12] [] [] [] [1] []
 [A3 m,V.d (D.slice b 3 xs),A3 n,A3 i] [] R) =
 (bif decide (i<n) then
 ((((0:Int)≤i)∧(i.toNat<xs.length∧pV (xs.getD i.toNat D.any)=xs.getD i.toNat D.any))∧
 (bif decide (m>100) then
 (24=24∧
 R (X.exit 0) [A3 m] []) else
 (((G7 (pV (xs.getD i.toNat D.any))∧(((0:Int)≤m)∧((m:Int)≤100)))∧μ1 [pV (xs.getD i.toNat D.any),iD m]<κ)∧
 (24=24∧
 R X.normal
 [A3 (↑(cap (m.toNat+M4 (pV (xs.getD i.toNat D.any)))):Int),
 V.d (D.slice b 3 xs),A3 n,
 A3 (IntKind.i64.wrap (i+1))]
 [])))) else
 (24=24∧
 R (X.exit 0) [A3 m] [])):=by kernel_rfl
theorem w53 (κ:Nat) (y:D) (n:Int) (p:V→Prop):(B7 (Cn (U53 κ)) (U53 κ) D4 0 (spL [(6,S53 κ)]) B1 53 [V.d (pV y),A3 n] B4.empty fun v H =>
 p (B5 H v)) =
 (∃(a:Nat),((24=24∧(((0:Int)=0)∧((((↑(A2 (A0 y 2)).length:Int):Int)=(↑(A2 (A0 y 2)).length:Int))∧(((IntKind.i64.wrap (n+1):Int)=(↑(cap a):Int))∧∀(y_1:D),y_1∈A2 (A0 y 2)→G7 y_1∧dsz y_1<κ))))∧
 p
 (A3 (bif false then
 if 101>(↑(cap (a+(List.map M4 (A2 (A0 y 2))).sum)):Int) then 101
 else (↑(cap (a+(List.map M4 (A2 (A0 y 2))).sum)):Int)
 else
 if 101<(↑(cap (a+(List.map M4 (A2 (A0 y 2))).sum)):Int) then 101
 else (↑(cap (a+(List.map M4 (A2 (A0 y 2))).sum)):Int))))):=by kernel_rfl
theorem w74 (y:D) (p:V→Prop):(B7 (Cn T53) T53 D4 0 C5 B1 74 [V.d (eV y)] B4.empty fun v H=>p (B5 H v)) =
 p
 (A9 (bif bif A1 (A0 y 11) !=0 then true else decide ((↑(A2 (A0 y 12)).length:Int)>0) then true
 else decide ((↑(A2 (A0 y 13)).length:Int)>0))):=by kernel_rfl
theorem b47 (κ:Nat) (xs:List D) (i:Int) (n:Int) (m:Int) (b:Bool) (R:X→List V→List Box→Prop):(D7 (Cn (U47 κ)) (U47 κ) D4 0 C5 B1 l47 39 [1,25,26,27] [] [] [] [1] []
 [A3 m,V.d (D.slice b 16 xs),A3 n,A3 i] [] R) =
 (bif decide (i<n) then
 ((((0:Int)≤i)∧(i.toNat<xs.length∧eV (xs.getD i.toNat D.any)=xs.getD i.toNat D.any))∧
 (bif decide (m>100) then
 (39=39∧
 R (X.exit 0) [A3 m] []) else
 (((D0 (eV (xs.getD i.toNat D.any))∧(((0:Int)≤m)∧((m:Int)≤100)))∧μ1 [eV (xs.getD i.toNat D.any),iD m]<κ)∧
 (39=39∧
 R X.normal
 [A3 (↑(cap (m.toNat+G1 (eV (xs.getD i.toNat D.any)))):Int),
 V.d (D.slice b 16 xs),A3 n,
 A3 (IntKind.i64.wrap (i+1))]
 [])))) else
 (39=39∧
 R (X.exit 0) [A3 m] [])):=by kernel_rfl
theorem w47 (κ:Nat) (y:D) (n:Int) (p:V→Prop):(B7 (Cn (U47 κ)) (U47 κ) D4 0 (spL [(10,S47 κ)]) B1 47 [V.d (eV y),A3 n] B4.empty fun v H =>
 p (B5 H v)) =
 (D0 (eV y)∧
 (bif bif u5 (eV y) then
 decide
 (IntKind.i64.wrap
 (n +
 IntKind.i64.wrap
 (1 +
 bif false then
 if 100>(↑(A2 (A0 y 10)).length:Int) then 100 else (↑(A2 (A0 y 10)).length:Int)
 else if 100<(↑(A2 (A0 y 10)).length:Int) then 100 else (↑(A2 (A0 y 10)).length:Int)))≤
 100)
 else false then
 ((G7 (paV y)∧(((0:Int)≤IntKind.i64.wrap
 (n +
 IntKind.i64.wrap
 (1 +
 bif false then if 100>(↑(A2 (A0 y 10)).length:Int) then 100 else (↑(A2 (A0 y 10)).length:Int)
 else if 100<(↑(A2 (A0 y 10)).length:Int) then 100 else (↑(A2 (A0 y 10)).length:Int))))∧((IntKind.i64.wrap
 (n +
 IntKind.i64.wrap
 (1 +
 bif false then if 100>(↑(A2 (A0 y 10)).length:Int) then 100 else (↑(A2 (A0 y 10)).length:Int)
 else if 100<(↑(A2 (A0 y 10)).length:Int) then 100 else (↑(A2 (A0 y 10)).length:Int))):Int)≤100)))∧
 (∃(a:Nat),((39=39∧(((0:Int)=0)∧((((↑(A2 (A0 y 15)).length:Int):Int)=(↑(A2 (A0 y 15)).length:Int))∧(((0:Int)≤(↑(cap
 ((IntKind.i64.wrap
 (n +
 IntKind.i64.wrap
 (1 +
 bif false then
 if 100>(↑(A2 (A0 y 10)).length:Int) then 100 else (↑(A2 (A0 y 10)).length:Int)
 else
 if 100<(↑(A2 (A0 y 10)).length:Int) then 100
 else (↑(A2 (A0 y 10)).length:Int)))).toNat +
 M4 (paV y))) :
 Int))∧(((min
 (↑(cap
 ((IntKind.i64.wrap
 (n +
 IntKind.i64.wrap
 (1 +
 bif false then
 if 100>(↑(A2 (A0 y 10)).length:Int) then 100 else (↑(A2 (A0 y 10)).length:Int)
 else
 if 100<(↑(A2 (A0 y 10)).length:Int) then 100
 else (↑(A2 (A0 y 10)).length:Int)))).toNat +
 M4 (paV y))) :
 Int)
 101:Int)=(↑(cap a):Int))∧∀(y_1:D),y_1∈A2 (A0 y 15)→D0 y_1∧dsz y_1<κ)))))∧
 (∀z0:Int,(((min z0 101:Int)=(↑(cap (a+(List.map G1 (A2 (A0 y 15))).sum)):Int))→p (A3 (bif false then if 101>z0 then 101 else z0 else if 101<z0 then 101 else z0))))))) else
 (∃(a:Nat),((39=39∧(((0:Int)=0)∧((((↑(A2 (A0 y 15)).length:Int):Int)=(↑(A2 (A0 y 15)).length:Int))∧(((0:Int)≤IntKind.i64.wrap
 (n +
 IntKind.i64.wrap
 (1 +
 bif false then if 100>(↑(A2 (A0 y 10)).length:Int) then 100 else (↑(A2 (A0 y 10)).length:Int)
 else if 100<(↑(A2 (A0 y 10)).length:Int) then 100 else (↑(A2 (A0 y 10)).length:Int))))∧(((min
 (IntKind.i64.wrap
 (n +
 IntKind.i64.wrap
 (1 +
 bif false then
 if 100>(↑(A2 (A0 y 10)).length:Int) then 100 else (↑(A2 (A0 y 10)).length:Int)
 else if 100<(↑(A2 (A0 y 10)).length:Int) then 100 else (↑(A2 (A0 y 10)).length:Int))))
 101:Int)=(↑(cap a):Int))∧∀(y_1:D),y_1∈A2 (A0 y 15)→D0 y_1∧dsz y_1<κ)))))∧
 (∀z1:Int,(((min z1 101:Int)=(↑(cap (a+(List.map G1 (A2 (A0 y 15))).sum)):Int))→p (A3 (bif false then if 101>z1 then 101 else z1 else if 101<z1 then 101 else z1)))))))):=by kernel_rfl
theorem w19 (y:D) (p:V→Prop):(B7 (Cn T47) T47 D4 0 C5 B1 19 [V.d (eV y)] B4.empty fun v H=>p (B5 H v)) =
 ((D0 (eV y)∧(((0:Int)≤0)∧((0:Int)≤100)))∧
 p (A3 (↑(cap (0+G1 (eV y))):Int))):=by kernel_rfl
theorem b54 (κ:Nat) (xs:List D) (i:Int) (n:Int) (m:Int) (b:Bool) (R:X→List V→List Box→Prop):(D7 (Cn (U54 κ)) (U54 κ) D4 0 C5 B1 l54 20 [3,7,8,9] [] [] [] [3] []
 [A3 m,V.d (D.slice b 3 xs),A3 n,A3 i] [] R) =
 (bif decide (i<n) then
 ((((0:Int)≤i)∧(i.toNat<xs.length∧pV (xs.getD i.toNat D.any)=xs.getD i.toNat D.any))∧
 (((G7 (pV (xs.getD i.toNat D.any))∧M4 (pV (xs.getD i.toNat D.any))≤100)∧μ1 [pV (xs.getD i.toNat D.any)]<κ)∧
 (20=20∧
 R X.normal
 [A3 (bif true then
 if (↑(V9 (pV (xs.getD i.toNat D.any))):Int)>m then (↑(V9 (pV (xs.getD i.toNat D.any))):Int) else m
 else
 if (↑(V9 (pV (xs.getD i.toNat D.any))):Int)<m then (↑(V9 (pV (xs.getD i.toNat D.any))):Int)
 else m),
 V.d (D.slice b 3 xs),A3 n,
 A3 (IntKind.i64.wrap (i+1))]
 []))) else
 (20=20∧
 R (X.exit 0) [A3 m] [])):=by kernel_rfl
theorem w54 (κ:Nat) (y:D) (p:V→Prop):(B7 (Cn (U54 κ)) (U54 κ) D4 0 (spL [(6,S54 κ)]) B1 54 [V.d (pV y)] B4.empty fun v H=>p (B5 H v)) =
 ((20=20∧(((0:Int)=0)∧((((↑(A2 (A0 y 2)).length:Int):Int)=(↑(A2 (A0 y 2)).length:Int))∧(((0:Int)=0)∧((A2 (A0 y 2)).length≤100∧∀(y_1:D),y_1∈A2 (A0 y 2)→(G7 y_1∧M4 y_1≤100)∧dsz y_1<κ)))))∧
 p (A3 (IntKind.i64.wrap ((↑(Q2 (List.map V9 (A2 (A0 y 2)))):Int)+1)))):=by kernel_rfl
theorem b43 (κ:Nat) (xs:List D) (i:Int) (n:Int) (m:Int) (b:Bool) (R:X→List V→List Box→Prop):(D7 (Cn (U43 κ)) (U43 κ) D4 0 C5 B1 l43 20 [3,7,8,9] [] [] [] [3] []
 [A3 m,V.d (D.slice b 16 xs),A3 n,A3 i] [] R) =
 (bif decide (i<n) then
 ((((0:Int)≤i)∧(i.toNat<xs.length∧eV (xs.getD i.toNat D.any)=xs.getD i.toNat D.any))∧
 (((D0 (eV (xs.getD i.toNat D.any))∧G1 (eV (xs.getD i.toNat D.any))≤100)∧μ1 [eV (xs.getD i.toNat D.any)]<κ)∧
 (20=20∧
 R X.normal
 [A3 (bif true then
 if (↑(Q6 (eV (xs.getD i.toNat D.any))):Int)>m then (↑(Q6 (eV (xs.getD i.toNat D.any))):Int) else m
 else
 if (↑(Q6 (eV (xs.getD i.toNat D.any))):Int)<m then (↑(Q6 (eV (xs.getD i.toNat D.any))):Int)
 else m),
 V.d (D.slice b 16 xs),A3 n,
 A3 (IntKind.i64.wrap (i+1))]
 []))) else
 (20=20∧
 R (X.exit 0) [A3 m] [])):=by kernel_rfl
theorem w43 (κ:Nat) (y:D) (p:V→Prop):(B7 (Cn (U43 κ)) (U43 κ) D4 0 (spL [(6,S43 κ)]) B1 43 [V.d (eV y)] B4.empty fun v H=>p (B5 H v)) =
 ((20=20∧(((0:Int)=0)∧((((↑(A2 (A0 y 15)).length:Int):Int)=(↑(A2 (A0 y 15)).length:Int))∧(((0:Int)=0)∧((A2 (A0 y 15)).length≤100∧∀(y_1:D),y_1∈A2 (A0 y 15)→(D0 y_1∧G1 y_1≤100)∧dsz y_1<κ)))))∧
 p (A3 (IntKind.i64.wrap ((↑(Q2 (List.map Q6 (A2 (A0 y 15)))):Int)+1)))):=by kernel_rfl
def a9x (f:D→Nat) (xs:List D) (i:Nat):Nat:=((xs.take i).map f).sum
theorem b5d {f:D→Nat} {xs:List D} {i:Nat} (h:i<xs.length):a9x f xs (i+1)=a9x f xs i+f (xs.getD i .any):=by
 unfold a9x
 rw[List.take_add_one,List.map_append,List.sum_append,List.getElem?_eq_getElem h,List.getD_eq_getElem?_getD,List.getElem?_eq_getElem h]
 simp
theorem b3y {f:D→Nat} {xs:List D}:a9x f xs xs.length=(xs.map f).sum:=by unfold a9x;rw[List.take_length]
theorem d8n {f:D→Nat} {xs:List D} (i:Nat):a9x f xs i≤(xs.map f).sum:=by
 have h:=List.take_append_drop i xs
 unfold a9x
 conv=>rhs;rw[←h,List.map_append,List.sum_append]
 omega
theorem b3x {f:D→Nat} (hf:∀y,1≤f y) {xs:List D}:∀{i:Nat},i≤xs.length→i≤a9x f xs i
 | 0,_=>Nat.zero_le _
 | i+1,h=>by rw[b5d (by omega)];have:=b3x hf (i:=i) (xs:=xs) (by omega);have:=hf (xs.getD i .any);omega
theorem E1 {xs:List D} {i:Nat} (h:i<xs.length):xs.getD i .any∈xs:=by
 rw[List.getD_eq_getElem?_getD,List.getElem?_eq_getElem h];exact List.getElem_mem h
theorem c9m (y:D):1≤M4 y:=by rw[a3u];omega
theorem d3m (y:D):1≤G1 y:=by rw[p6];omega
theorem G7.v {y:D} (h:G7 y):pV y=y:=by cases h;assumption
theorem D0.v {y:D} (h:D0 y):eV y=y:=by cases h;assumption
theorem G7.l {y:D} (h:G7 y):G6 (E3 y 1)∧G6 (E3 y 2):=by cases h;assumption
theorem D0.l {y:D} (h:D0 y):(G6 (E3 y 2)∧G6 (E3 y 7))∧(G6 (E3 y 10)∧G6 (E3 y 15)):=by cases h;assumption
theorem G7.a {y:D} (h:G7 y):∀a∈E3 y 2,G7 a:=by cases h;assumption
theorem D0.a {y:D} (h:D0 y):∀a∈E3 y 15,D0 a:=by cases h;assumption
theorem D0.p {y:D} (h:D0 y):G7 (paV y):=by cases h;assumption
theorem G7.c {y:D} (h:G7 y):∀c∈E3 y 1,a4z c:=by cases h;assumption
theorem D0.m {y:D} (h:D0 y):∀a∈E3 y 2,a2a a:=by cases h;assumption
theorem D0.n {y:D} (h:D0 y):∀a∈E3 y 7,a2d a:=by cases h;assumption
theorem D0.s {y:D} (h:D0 y):∀a∈E3 y 10,a2e a:=by cases h;assumption
theorem h7s {κ:Nat} (hk:C2 B (U53 κ)):OkS (Cn (U53 κ)) 0 (.loop l53) (S53 κ):=by
 refine D2 fun N vals bs K h=>?_
 simp only[S53] at h
 split at h
 case h_2=>exact h.elim
 rename_i m b xs n i
 obtain ⟨a,⟨rfl,rfl,rfl,rfl,hx⟩,h⟩:=h
 have main:∀k i,i+k=xs.length→J5 (Cn (U53 κ)) 0 l53 24 [1,10,11,12] [] [1] [] [A3 (cap (a+a9x M4 xs i):Nat), .d (.slice b 3 xs),A3 xs.length,A3 i] [] K:=by
  intro k
  induction k with
  | zero =>
   intro i hi
   have:i=xs.length:=by omega
   subst this
   refine B6 (D1 C4 hk B9) C1 A8 (hn:=B1) (adsI:=[]) (nsI:=[]) (nsX:=[]) rfl rfl (keep (b53 κ xs xs.length xs.length _ b _) ?_)
   have e1:decide ((xs.length:Int)<xs.length)=false:=by simp
   rw[e1,b3y]
   exact ⟨rfl,h⟩
  | succ k ih =>
   intro i hi
   refine B6 (D1 C4 hk B9) C1 A8 (hn:=B1) (adsI:=[]) (nsI:=[]) (nsX:=[]) rfl rfl (keep (b53 κ xs i xs.length _ b _) ?_)
   have e1:decide ((i:Int)<xs.length)=true:=by simp;omega
   obtain ⟨hf,hlt⟩:=hx _ (E1 (xs:=xs) (i:=i) (by omega))
   have hv:=hf.v
   rw[e1]
   simp only[Int.toNat_natCast,cond_true,hv]
   refine ⟨⟨by omega,by omega,trivial⟩,A4 (fun hb=>⟨trivial, ?_⟩) (fun hb=>⟨⟨⟨hf,by omega,by simpa using hb⟩,hlt⟩,trivial, ?_⟩)⟩
   ·have:=d8n (f:=M4) (xs:=xs) i
    simp at hb
    rw[show cap (a+a9x M4 xs i)=cap (a+(xs.map M4).sum) by simp only[cap] at hb ⊢;omega]
    exact h
   ·simp at hb
    unfold cap at hb
    have hge:=b3x c9m (xs:=xs) (i:=i) (by omega)
    rw[Go.IntWalk.i64_in _ (by omega)]
    have:=ih (i+1) (by omega)
    rw[b5d (by omega)] at this
    rw[show cap (cap (a+a9x M4 xs i)+M4 (xs.getD i .any))=cap (a+(a9x M4 xs i+M4 (xs.getD i .any))) by simp only[cap];omega]
    exact this
 have:=main xs.length 0 (by omega)
 rw[show a9x M4 xs 0=0 from by simp[a9x]] at this
 exact this
theorem W1 {x y:D} (h:y=x): [x].map V.d= [V.d y]:=by rw[h];rfl
theorem d7h {x y z:D} (h:y=x): [x,z].map V.d= [V.d y,V.d z]:=by rw[h];rfl
theorem k53:C2 B T53:=by
 refine P9 C4 k41 μ1 (fn:=Tryz.f53) (cd:=A7 Tryz.f53) (sp:=fun n=>spL [(6,S53 n)]) (hn:=B1) Tryz.func53 (by kernel_rfl) (by kernel_rfl) (fun n hk=>B8 (c:=.loop l53) (by kernel_rfl) (h7s hk) C8) fun κ ds r hp hm hr=>?_
 unfold c53 at hp hr
 simp only[] at hr hp
 split at hr
 ·rename_i x n
  cases hr
  obtain ⟨hf,h0,h1⟩:=hp
  rw[d7h hf.v]
  refine keep (w53 κ x n fun v=>v=_) ?_
  refine ⟨n.toNat+1,⟨rfl,rfl,rfl,by rw[Go.IntWalk.i64_in _ (by omega)];unfold cap;omega,fun y hy=>⟨hf.a y hy, ?_⟩⟩, ?_⟩
  ·rw[←hm];exact G3 hy
  ·have e:=a3u x
   unfold E3 at e
   rw[show n.toNat+1+(List.map M4 (A2 (A0 x 2))).sum=n.toNat+M4 x by omega]
   simp only[cond_false]
   rw[if_neg (by unfold cap;omega)]
 ·cases hr
theorem k74:C2 B T74:=by
 refine C3 C4 k53 (fn:=Tryz.f74) (cd:=A7 Tryz.f74) (sp:=C5) (hn:=B1) Tryz.func74 (by kernel_rfl) (by kernel_rfl) A8 fun ds r hp hr=>?_
 unfold c74 at hp hr
 simp only[] at hr hp
 split at hr
 ·rename_i x
  cases hr
  rw[W1 (D0.v hp)]
  refine keep (w74 x fun v=>v=_) ?_
  unfold u5
  show V.d (D.lit (Value.bool _))=_
  congr 3
  cases h1:(A1 (A0 x 11) !=0)<;>simp_all
 ·cases hr
theorem h7x {κ:Nat} (hk:C2 B (U47 κ)):OkS (Cn (U47 κ)) 0 (.loop l47) (S47 κ):=by
 refine D2 fun N vals bs K h=>?_
 simp only[S47] at h
 split at h
 case h_2=>exact h.elim
 rename_i m b xs n i
 obtain ⟨a,⟨rfl,rfl,rfl,hm0,hm,hx⟩,h⟩:=h
 have main:∀k i (m:Int),i+k=xs.length→0≤m→min m 101=(cap (a+a9x G1 xs i):Nat)→J5 (Cn (U47 κ)) 0 l47 39 [1,25,26,27] [] [1] [] [A3 m, .d (.slice b 16 xs),A3 xs.length,A3 i] [] K:=by
  intro k
  induction k with
  | zero =>
   intro i m hi hm0 hm
   have:i=xs.length:=by omega
   subst this
   refine B6 (D1 C4 hk B9) C1 A8 (hn:=B1) (adsI:=[]) (nsI:=[]) (nsX:=[]) rfl rfl (keep (b47 κ xs xs.length xs.length _ b _) ?_)
   have e1:decide ((xs.length:Int)<xs.length)=false:=by simp
   rw[e1]
   rw[b3y] at hm
   exact ⟨rfl,h m hm⟩
  | succ k ih =>
   intro i m hi hm0 hm
   refine B6 (D1 C4 hk B9) C1 A8 (hn:=B1) (adsI:=[]) (nsI:=[]) (nsX:=[]) rfl rfl (keep (b47 κ xs i xs.length _ b _) ?_)
   have e1:decide ((i:Int)<xs.length)=true:=by simp;omega
   obtain ⟨hf,hlt⟩:=hx _ (E1 (xs:=xs) (i:=i) (by omega))
   have hv:=hf.v
   rw[e1]
   simp only[Int.toNat_natCast,cond_true,hv]
   refine ⟨⟨by omega,by omega,trivial⟩,A4 (fun hb=>⟨trivial, ?_⟩) (fun hb=>⟨⟨⟨hf,hm0,by simpa using hb⟩,hlt⟩,trivial, ?_⟩)⟩
   ·have:=d8n (f:=G1) (xs:=xs) i
    simp at hb
    refine h m ?_
    simp only[cap] at hm ⊢
    omega
   ·simp at hb
    simp only[cap] at hm
    have hge:=b3x d3m (xs:=xs) (i:=i) (by omega)
    rw[Go.IntWalk.i64_in _ (by omega)]
    refine ih (i+1) _ (by omega) (by omega) ?_
    rw[b5d (by omega)]
    simp only[cap]
    omega
 exact main xs.length 0 m (by omega) hm0 (by simpa [a9x] using hm)
theorem b9r {xs:List D}:xs.length≤(xs.map M4).sum:=by
 rw[←b3y];exact b3x c9m (Nat.le_refl _)
theorem a4o {xs:List D}:xs.length≤(xs.map G1).sum:=by
 rw[←b3y];exact b3x d3m (Nat.le_refl _)
theorem a2j {f:D→Nat} {y:D}:∀{xs:List D},y∈xs→f y≤(xs.map f).sum
 | x::xs,h=>by
  rw[List.map_cons,List.sum_cons]
  rcases List.mem_cons.1 h with rfl|h
  ·omega
  ·have:=a2j (f:=f) h;omega
theorem k47:C2 B T47:=by
 refine P9 C4 k74 μ1 (fn:=Tryz.f47) (cd:=A7 Tryz.f47) (sp:=fun n=>spL [(10,S47 n)]) (hn:=B1) Tryz.func47 (by kernel_rfl) (by kernel_rfl) (fun n hk=>B8 (c:=.loop l47) (by kernel_rfl) (h7x hk) C8) fun κ ds r hp hm hr=>?_
 unfold c47 at hp hr
 simp only[] at hr hp
 split at hr
 ·rename_i x n
  cases hr
  obtain ⟨hf,h0,h1⟩:=hp
  rw[d7h hf.v]
  refine keep (w47 κ x n fun v=>v=_) ?_
  rw[hf.v]
  have hmin:(bif false then if 100>((A2 (A0 x 10)).length:Int) then 100 else ((A2 (A0 x 10)).length:Int) else if 100<((A2 (A0 x 10)).length:Int) then 100 else ((A2 (A0 x 10)).length:Int))=(min (A2 (A0 x 10)).length 100:Nat):=by
   simp only[cond_false];split<;>omega
  have et:=p6 x
  unfold E3 at et
  have key:∀m':Int,min m' 101=(cap (n.toNat+G1 x):Nat)→V.d (.lit (.int .i64 (bif false then if 101>m' then 101 else m' else if 101<m' then 101 else m')))=V.d (.lit (.int .i64 (cap (n.toNat+G1 x):Nat))):=by
   intro m' h
   rw[←h]
   simp only[cond_false]
   rw[show (if (101:Int)<m' then (101:Int) else m')=min m' 101 by split<;>omega]
  simp only[hmin]
  rw[Go.IntWalk.i64_in (1+_) (by omega),Go.IntWalk.i64_in _ (by omega)]
  refine ⟨hf, ?_⟩
  cases hh:u5 x with
  | false =>
   rw[hh] at et
   simp only[cond_false] at et
   simp only[cond_false,Bool.false_and]
   refine ⟨n.toNat+1+min (A2 (A0 x 10)).length 100,⟨trivial,trivial,trivial,by omega,by simp only[cap];omega,fun y hy=>⟨hf.a y hy, ?_⟩⟩,fun m' hm'=>key m' ?_⟩
   ·rw[←hm];exact G3 hy
   ·rw[hm'];simp only[cap];omega
  | true =>
   rw[hh] at et
   simp only[cond_true] at et
   simp only[cond_true,Bool.true_and]
   refine A4 (fun hb=>?_) (fun hb=>?_)
   ·simp only[decide_eq_true_eq] at hb
    refine ⟨⟨hf.p,by omega,hb⟩,n.toNat+1+min (A2 (A0 x 10)).length 100+M4 (paV x),⟨trivial,trivial,trivial,by omega,by simp only[cap];omega,fun y hy=>⟨hf.a y hy, ?_⟩⟩,fun m' hm'=>key m' ?_⟩
    ·rw[←hm];exact G3 hy
    ·rw[hm'];simp only[cap];omega
   ·simp only[decide_eq_false_iff_not] at hb
    refine ⟨n.toNat+1+min (A2 (A0 x 10)).length 100,⟨trivial,trivial,trivial,by omega,by simp only[cap];omega,fun y hy=>⟨hf.a y hy, ?_⟩⟩,fun m' hm'=>key m' ?_⟩
    ·rw[←hm];exact G3 hy
    ·rw[hm'];simp only[cap];omega
 ·cases hr
theorem k19:C2 B T19:=by
 refine C3 C4 k47 (fn:=Tryz.f19) (cd:=A7 Tryz.f19) (sp:=C5) (hn:=B1) Tryz.func19 (by kernel_rfl) (by kernel_rfl) A8 fun ds r hp hr=>?_
 unfold c19 at hp hr
 simp only[] at hr hp
 split at hr
 ·rename_i x
  cases hr
  rw[W1 (D0.v hp)]
  refine keep (w19 x fun v=>v=_) ?_
  rw[D0.v hp]
  exact ⟨⟨hp,by decide,by decide⟩,by simp⟩
 ·cases hr
theorem b9m (l:List Nat) (a:Nat):l.foldl max a=max a (Q2 l):=by
 unfold Q2
 induction l generalizing a with
 | nil=>simp
 | cons x l ih=>rw[List.foldl_cons,List.foldl_cons,ih,ih (max 0 x)];omega
theorem b5h (x:Nat) (l:List Nat):Q2 (x::l)=max x (Q2 l):=by
 show List.foldl max (max 0 x) l=_
 rw[b9m];omega
theorem c9t (l m:List Nat):Q2 (l++m)=max (Q2 l) (Q2 m):=by
 induction l with
 | nil=>simp[Q2]
 | cons x l ih=>rw[List.cons_append,b5h,b5h,ih];omega
theorem b9k {f g:D→Nat}:∀{l:List D},(∀y∈l,f y≤g y)→Q2 (l.map f)≤(l.map g).sum
 | [],_=>by simp[Q2]
 | x::l,h=>by
  rw[List.map_cons,List.map_cons,b5h,List.sum_cons]
  have:=h x (.head _)
  have:=b9k (l:=l) (f:=f) (g:=g) fun y hy=>h y (.tail _ hy)
  omega
theorem t8 {f:D→Nat} {xs:List D} {i:Nat} (h:i<xs.length):Q2 ((xs.take (i+1)).map f)=max (Q2 ((xs.take i).map f)) (f (xs.getD i .any)):=by
 rw[List.take_add_one,List.map_append,c9t,List.getElem?_eq_getElem h,List.getD_eq_getElem?_getD,List.getElem?_eq_getElem h]
 simp[Q2]
theorem d8p:∀(n:Nat) (y:D),dsz y≤n→V9 y≤M4 y:=by
 intro n
 induction n with
 | zero=>intro y h;cases y<;>simp[dsz] at h
 | succ n ih =>
  intro y h
  rw[c6i,a3u]
  have:=b9k (l:=E3 y 2) (f:=V9) (g:=M4) fun z hz=>ih z (by have:=G3 hz;omega)
  omega
theorem d9o:∀(n:Nat) (y:D),dsz y≤n→Q6 y≤G1 y:=by
 intro n
 induction n with
 | zero=>intro y h;cases y<;>simp[dsz] at h
 | succ n ih =>
  intro y h
  rw[b4o,p6]
  have:=b9k (l:=E3 y 15) (f:=Q6) (g:=G1) fun z hz=>ih z (by have:=G3 hz;omega)
  omega
theorem h7r {κ:Nat} (hk:C2 B (U54 κ)):OkS (Cn (U54 κ)) 0 (.loop l54) (S54 κ):=by
 refine D2 fun N vals bs K h=>?_
 simp only[S54] at h
 split at h
 case h_2=>exact h.elim
 rename_i m b xs n i
 obtain ⟨⟨rfl,rfl,rfl,rfl,hl,hx⟩,h⟩:=h
 have main:∀k i,i+k=xs.length→J5 (Cn (U54 κ)) 0 l54 20 [3,7,8,9] [] [3] [] [A3 (Q2 ((xs.take i).map V9):Nat), .d (.slice b 3 xs),A3 xs.length,A3 i] [] K:=by
  intro k
  induction k with
  | zero =>
   intro i hi
   have:i=xs.length:=by omega
   subst this
   refine B6 (D1 C4 hk B9) C1 A8 (hn:=B1) (adsI:=[]) (nsI:=[]) (nsX:=[]) rfl rfl (keep (b54 κ xs xs.length xs.length _ b _) ?_)
   have e1:decide ((xs.length:Int)<xs.length)=false:=by simp
   rw[e1,List.take_length]
   exact ⟨rfl,h⟩
  | succ k ih =>
   intro i hi
   refine B6 (D1 C4 hk B9) C1 A8 (hn:=B1) (adsI:=[]) (nsI:=[]) (nsX:=[]) rfl rfl (keep (b54 κ xs i xs.length _ b _) ?_)
   have e1:decide ((i:Int)<xs.length)=true:=by simp;omega
   obtain ⟨hf,hlt⟩:=hx _ (E1 (xs:=xs) (i:=i) (by omega))
   have hv:=hf.1.v
   rw[e1]
   simp only[Int.toNat_natCast,cond_true,hv]
   refine ⟨⟨by omega,by omega,trivial⟩,⟨hf,hlt⟩,trivial, ?_⟩
   have:=ih (i+1) (by omega)
   rw[Go.IntWalk.i64_in _ (by omega)]
   rw[t8 (by omega)] at this
   rw[show (if (V9 (xs.getD i .any):Int)>(Q2 ((xs.take i).map V9):Nat) then (V9 (xs.getD i .any):Int) else (Q2 ((xs.take i).map V9):Nat))=(max (Q2 ((xs.take i).map V9)) (V9 (xs.getD i .any)):Nat) by split<;>omega]
   exact this
 exact main xs.length 0 (by omega)
theorem k54:C2 B T54:=by
 refine P9 C4 k19 μ1 (fn:=Tryz.f54) (cd:=A7 Tryz.f54) (sp:=fun n=>spL [(6,S54 n)]) (hn:=B1) Tryz.func54 (by kernel_rfl) (by kernel_rfl) (fun n hk=>B8 (c:=.loop l54) (by kernel_rfl) (h7r hk) C8) fun κ ds r hp hm hr=>?_
 unfold c54 at hp hr
 simp only[] at hr hp
 split at hr
 ·rename_i x
  cases hr
  obtain ⟨hf,h1⟩:=hp
  rw[W1 hf.v]
  refine keep (w54 κ x fun v=>v=_) ?_
  have e1:=a3u x
  have e2:=c6i x
  have e3:=d8p _ x (Nat.le_refl _)
  have e4:=b9r (xs:=E3 x 2)
  refine ⟨⟨rfl,rfl,rfl,rfl,by unfold E3 at *;omega,fun y hy=>⟨⟨hf.a y hy, ?_⟩, ?_⟩⟩, ?_⟩
  ·have:=a2j (f:=M4) (xs:=E3 x 2) hy;omega
  ·rw[←hm];exact G3 hy
  ·unfold E3 at *
   rw[Go.IntWalk.i64_in _ (by omega),show ((Q2 (List.map V9 (A2 (A0 x 2))):Nat):Int)+1=(V9 x:Nat) by omega]
 ·cases hr
theorem h8b {κ:Nat} (hk:C2 B (U43 κ)):OkS (Cn (U43 κ)) 0 (.loop l43) (S43 κ):=by
 refine D2 fun N vals bs K h=>?_
 simp only[S43] at h
 split at h
 case h_2=>exact h.elim
 rename_i m b xs n i
 obtain ⟨⟨rfl,rfl,rfl,rfl,hl,hx⟩,h⟩:=h
 have main:∀k i,i+k=xs.length→J5 (Cn (U43 κ)) 0 l43 20 [3,7,8,9] [] [3] [] [A3 (Q2 ((xs.take i).map Q6):Nat), .d (.slice b 16 xs),A3 xs.length,A3 i] [] K:=by
  intro k
  induction k with
  | zero =>
   intro i hi
   have:i=xs.length:=by omega
   subst this
   refine B6 (D1 C4 hk B9) C1 A8 (hn:=B1) (adsI:=[]) (nsI:=[]) (nsX:=[]) rfl rfl (keep (b43 κ xs xs.length xs.length _ b _) ?_)
   have e1:decide ((xs.length:Int)<xs.length)=false:=by simp
   rw[e1,List.take_length]
   exact ⟨rfl,h⟩
  | succ k ih =>
   intro i hi
   refine B6 (D1 C4 hk B9) C1 A8 (hn:=B1) (adsI:=[]) (nsI:=[]) (nsX:=[]) rfl rfl (keep (b43 κ xs i xs.length _ b _) ?_)
   have e1:decide ((i:Int)<xs.length)=true:=by simp;omega
   obtain ⟨hf,hlt⟩:=hx _ (E1 (xs:=xs) (i:=i) (by omega))
   have hv:=hf.1.v
   rw[e1]
   simp only[Int.toNat_natCast,cond_true,hv]
   refine ⟨⟨by omega,by omega,trivial⟩,⟨hf,hlt⟩,trivial, ?_⟩
   have:=ih (i+1) (by omega)
   rw[Go.IntWalk.i64_in _ (by omega)]
   rw[t8 (by omega)] at this
   rw[show (if (Q6 (xs.getD i .any):Int)>(Q2 ((xs.take i).map Q6):Nat) then (Q6 (xs.getD i .any):Int) else (Q2 ((xs.take i).map Q6):Nat))=(max (Q2 ((xs.take i).map Q6)) (Q6 (xs.getD i .any)):Nat) by split<;>omega]
   exact this
 exact main xs.length 0 (by omega)
theorem k43:C2 B T43:=by
 refine P9 C4 k54 μ1 (fn:=Tryz.f43) (cd:=A7 Tryz.f43) (sp:=fun n=>spL [(6,S43 n)]) (hn:=B1) Tryz.func43 (by kernel_rfl) (by kernel_rfl) (fun n hk=>B8 (c:=.loop l43) (by kernel_rfl) (h8b hk) C8) fun κ ds r hp hm hr=>?_
 unfold c43 at hp hr
 simp only[] at hr hp
 split at hr
 ·rename_i x
  cases hr
  obtain ⟨hf,h1⟩:=hp
  rw[W1 hf.v]
  refine keep (w43 κ x fun v=>v=_) ?_
  have e1:=p6 x
  have e2:=b4o x
  have e3:=d9o _ x (Nat.le_refl _)
  have e4:=a4o (xs:=E3 x 15)
  refine ⟨⟨rfl,rfl,rfl,rfl,by unfold E3 at *;omega,fun y hy=>⟨⟨hf.a y hy, ?_⟩, ?_⟩⟩, ?_⟩
  ·have:=a2j (f:=G1) (xs:=E3 x 15) hy;omega
  ·rw[←hm];exact G3 hy
  ·unfold E3 at *
   rw[Go.IntWalk.i64_in _ (by omega),show ((Q2 (List.map Q6 (A2 (A0 x 15))):Nat):Int)+1=(Q6 x:Nat) by omega]
 ·cases hr
def C7 (f:D→Int) (xs:List D) (i:Nat):Option Int:=bif f (xs.getD i .any) !=0 then some (f (xs.getD i .any)) else none
noncomputable def n3 (y:D):Int :=
 (bif bif decide (A1 (A0 y 0)<1) then true else decide (A1 (A0 y 0)>4) then
 8 else
 (bif a6z [D.agg [D.lit (Value.string (A5 (A0 y 1))),D.lit (Value.string (ByteArray.mk (Array.mk [120])))]] !=0 then
 5 else
 (bif bif A1 (A0 y 0)==3 then true else A1 (A0 y 0)==4 then
 (a5f (A5 (A0 y 2))) else
 (bif decide ((↑(A5 (A0 y 2)).size:Int)>200) then
 4 else
 0))))
noncomputable def g9u:Ct:=⟨fun | [x]=>a2a x|_=>False,fun | [x]=>some (.lit (.int .i64 (n3 x)))|_=>none⟩
noncomputable def d7n:Tab:=T43.add 148 g9u
theorem h6e (y:D) (p:V→Prop):(B7 (Cn T43) T43 D4 0 C5 B1 148 [V.d (mV y)] B4.empty fun v H=>p (B5 H v)) =
 (bif bif decide (A1 (A0 y 0)<1) then true else decide (A1 (A0 y 0)>4) then
 p (A3 8) else
 ((2=2∧e9m 209 [D.agg [zD (A5 (A0 y 1)),zD (bA [120])]])∧
 (bif a6z [D.agg [zD (A5 (A0 y 1)),zD (bA [120])]] !=0 then
 p (A3 5) else
 (bif bif A1 (A0 y 0)==3 then true else A1 (A0 y 0)==4 then
 (True∧
 p (A3 (a5f (A5 (A0 y 2))))) else
 (bif decide ((↑(A5 (A0 y 2)).size:Int)>200) then
 p (A3 4) else
 p (A3 0)))))):=by kernel_rfl
noncomputable def l78:Code:=D6 (C6 (A7 Tryz.f78) 8)
noncomputable def S78:Ev.Spec:={L:=[9,10,11],ns:=[],L':=[2],nm':=[],G:=fun N vals bs k=>match vals,bs with
 | [.d (.slice b 3 xs), .d (.lit (.int .i64 n)), .d (.lit (.int .i64 i))], []=>(N=21∧i=0∧n=xs.length∧xs.length≤16∧∀y∈xs,a2a y)∧P7 (C0 (C7 n3 xs) xs.length) (k (.exit 0) [.any] []) (fun e=>k .ret [A3 e] [])
 | _,_=>False }
theorem b78 (xs:List D) (i:Int) (n:Int) (b:Bool) (R:X→List V→List Box→Prop):(D7 (Cn d7n) d7n D4 0 C5 B1 l78 21 [9,10,11] [] [] [] [2] [] [V.d (D.slice b 3 xs),A3 n,A3 i] [] R) =
 (bif decide (i<n) then
 ((((0:Int)≤i)∧(i.toNat<xs.length∧mV (xs.getD i.toNat D.any)=xs.getD i.toNat D.any))∧
 (D.agg
 [iD (A1 (iD (A1 (A0 (xs.getD i.toNat D.any) 0)))),
 zD (A5 (zD (A5 (A0 (xs.getD i.toNat D.any) 1)))),
 zD (A5 (zD (A5 (A0 (xs.getD i.toNat D.any) 2))))] =
 mV (xs.getD i.toNat D.any)∧
 (bif n3 (mV (xs.getD i.toNat D.any)) !=0 then
 (21=21∧
 R X.ret [A3 (n3 (mV (xs.getD i.toNat D.any)))] []) else
 (21=21∧
 R X.normal
 [V.d (D.slice b 3 xs),A3 n,
 A3 (IntKind.i64.wrap (i+1))]
 [])))) else
 (21=21∧
 R (X.exit 0) [V.any] [])):=by kernel_rfl
theorem w78 (xs:List D) (b:Bool) (p:V→Prop):(B7 (Cn d7n) d7n D4 0 (spL [(8,S78)]) B1 78 [V.d (D.slice b 3 xs)] B4.empty fun v H=>p (B5 H v)) =
 (bif decide ((↑xs.length:Int)>16) then
 p (A3 4) else
 ((21=21∧(((0:Int)=0)∧((((↑xs.length:Int):Int)=(↑xs.length:Int))∧(xs.length≤16∧∀(y:D),y∈xs→a2a y))))∧
 (match C0 (C7 n3 xs) xs.length with
 | some y0 =>
 p (A3 y0)
 | none=>p (A3 0)))):=by kernel_rfl
noncomputable def F6 (xs:List D):Int :=
 (bif decide ((↑xs.length:Int)>16) then
 4 else
 (match C0 (C7 n3 xs) xs.length with
 | some y0=>y0
 | none=>0))
noncomputable def c78:Ct:=⟨fun | [.slice _ z xs]=>z=3∧∀y∈xs,a2a y|_=>False,fun | [.slice _ _ xs]=>some (.lit (.int .i64 (F6 xs)))|_=>none⟩
noncomputable def T78:Tab:=d7n.add 78 c78
def M2 (sp:Bool) (xs:List D) (i:Nat):Option Int :=
 bif (bif !G4 (A5 (xs.getD i .any)) then true else bif (bif sp then !eqS (A5 (xs.getD i .any)) (ByteArray.mk #[110,97,109,101]) else false) then !eqS (A5 (xs.getD i .any)) (ByteArray.mk #[115,101,114,118,105,99,101]) else false) then some 5 else
 bif (bif decide ((i:Int)>0) then leS (A5 (xs.getD i .any)) (A5 (xs.getD (i-1) .any)) else false) then some 9 else none
noncomputable def l79:Code:=D6 (C6 (A7 Tryz.f79) 8)
noncomputable def S79:Ev.Spec:={L:=[0,1,10,11,12],ns:=[],L':=[4],nm':=[],G:=fun N vals bs k=>match vals,bs with
 | [.d (.slice b 1 xs), .d (.lit (.bool sp)), .d (.slice b' 1 xs'), .d (.lit (.int .i64 n)), .d (.lit (.int .i64 i))], []=>(N=43∧b'=b∧xs'=xs∧i=0∧n=xs.length∧xs.length≤16∧∀y∈xs,a2d y)∧P7 (C0 (M2 sp xs) xs.length) (k (.exit 0) [.any] []) (fun e=>k .ret [A3 e] [])
 | _,_=>False }
theorem b79 (xs:List D) (sp:Bool) (i:Int) (n:Int) (b:Bool) (R:X→List V→List Box→Prop):(D7 (Cn T78) T78 D4 0 C5 B1 l79 43 [0,1,10,11,12] [] [] [] [4] []
 [V.d (D.slice b 1 xs),A9 sp,V.d (D.slice b 1 xs),A3 n,A3 i] [] R) =
 (bif decide (i<n) then
 ((((0:Int)≤i)∧(i.toNat<xs.length∧zD (A5 (xs.getD i.toNat D.any))=xs.getD i.toNat D.any))∧
 (True∧
 (bif bif !G4 (A5 (xs.getD i.toNat D.any)) then true
 else
 bif bif sp then !(A5 (xs.getD i.toNat D.any)).toList==(ByteArray.mk #[110,97,109,101]).toList else false then
 !(A5 (xs.getD i.toNat D.any)).toList==(ByteArray.mk #[115,101,114,118,105,99,101]).toList
 else false then
 (43=43∧
 R X.ret [A3 5] []) else
 (((decide (i>0)&&true)=true→(((0:Int)≤IntKind.i64.wrap (i-1))∧((IntKind.i64.wrap (i-1)).toNat<xs.length∧zD (A5 (xs.getD (IntKind.i64.wrap (i-1)).toNat D.any)) =
 xs.getD (IntKind.i64.wrap (i-1)).toNat D.any)))∧
 (bif bif decide (i>0) then
 Op.bytesLess (A5 (xs.getD i.toNat D.any)).toList (A5 (xs.getD (IntKind.i64.wrap (i-1)).toNat D.any)).toList ||
 (A5 (xs.getD i.toNat D.any)).toList==(A5 (xs.getD (IntKind.i64.wrap (i-1)).toNat D.any)).toList
 else false then
 (43=43∧
 R X.ret [A3 9] []) else
 (43=43∧
 R X.normal
 [V.d (D.slice b 1 xs),A9 sp,V.d (D.slice b 1 xs),A3 n,
 A3 (IntKind.i64.wrap (i+1))]
 [])))))) else
 (43=43∧
 R (X.exit 0) [V.any] [])):=by kernel_rfl
theorem w79 (xs:List D) (sp:Bool) (b:Bool) (p:V→Prop):(B7 (Cn T78) T78 D4 0 (spL [(8,S79)]) B1 79 [V.d (D.slice b 1 xs),A9 sp] B4.empty fun v H =>
 p (B5 H v)) =
 (bif decide ((↑xs.length:Int)>16) then
 p (A3 4) else
 ((43=43∧(b=b∧(xs=xs∧(((0:Int)=0)∧((((↑xs.length:Int):Int)=(↑xs.length:Int))∧(xs.length≤16∧∀(y:D),y∈xs→a2d y))))))∧
 (match C0 (M2 sp xs) xs.length with
 | some y0 =>
 p (A3 y0)
 | none=>p (A3 0)))):=by kernel_rfl
noncomputable def M6 (xs:List D) (sp:Bool):Int :=
 (bif decide ((↑xs.length:Int)>16) then
 4 else
 (match C0 (M2 sp xs) xs.length with
 | some y0=>y0
 | none=>0))
noncomputable def c79:Ct:=⟨fun | [.slice _ z xs, .lit (.bool _)]=>z=1∧∀y∈xs,a2d y|_=>False,fun | [.slice _ _ xs, .lit (.bool sp)]=>some (.lit (.int .i64 (M6 xs sp)))|_=>none⟩
noncomputable def T79:Tab:=T78.add 79 c79
theorem w58 (y:D) (p:V→Prop):(B7 (Cn T79) T79 D4 0 C5 B1 58 [V.d (gV y)] B4.empty fun v H=>p (B5 H v)) =
 (bif bif decide (A1 (A0 y 0)<1) then true else decide (A1 (A0 y 0)>8) then
 p (A3 8) else
 (bif bif
 bif
 bif !(A5 (A0 y 1)).toList==(ByteArray.mk #[]).toList then !decide (A1 (A0 y 0)≤3)
 else false then
 true
 else !decide ((↑(A2 (A0 y 2)).length:Int)>0)==(A1 (A0 y 0)==5) then
 true
 else !decide ((↑(A2 (A0 y 3)).length:Int)>0)==decide (A1 (A0 y 0)≥6) then
 p (A3 1) else
 (bif A1 (A0 y 0)==1 then
 (bif (A5 (A0 y 1)).toList==(ByteArray.mk #[]).toList then
 p (A3 1) else
 (bif decide ((↑(A5 (A0 y 1)).size:Int)>200) then
 p (A3 4) else
 p (A3 0))) else
 (bif A1 (A0 y 0)==2 then
 (bif (A5 (A0 y 1)).toList==(ByteArray.mk #[]).toList then
 p (A3 1) else
 (bif decide ((↑(A5 (A0 y 1)).size:Int)>200) then
 p (A3 4) else
 p (A3 0))) else
 (bif A1 (A0 y 0)==3 then
 (True∧
 p (A3 (a5f (A5 (A0 y 1))))) else
 (bif A1 (A0 y 0)==5 then
 ((3=3∧∀(y_1:D),y_1∈A2 (A0 y 2)→a2a y_1)∧
 p (A3 (F6 (A2 (A0 y 2))))) else
 ((1=1∧∀(y_1:D),y_1∈A2 (A0 y 3)→a2d y_1)∧
 p (A3 (M6 (A2 (A0 y 3)) false))))))))):=by kernel_rfl
noncomputable def S8 (y:D):Int :=
 (bif bif decide (A1 (A0 y 0)<1) then true else decide (A1 (A0 y 0)>8) then
 8 else
 (bif bif
 bif
 bif !(A5 (A0 y 1)).toList==(ByteArray.mk #[]).toList then !decide (A1 (A0 y 0)≤3)
 else false then
 true
 else !decide ((↑(A2 (A0 y 2)).length:Int)>0)==(A1 (A0 y 0)==5) then
 true
 else !decide ((↑(A2 (A0 y 3)).length:Int)>0)==decide (A1 (A0 y 0)≥6) then
 1 else
 (bif A1 (A0 y 0)==1 then
 (bif (A5 (A0 y 1)).toList==(ByteArray.mk #[]).toList then
 1 else
 (bif decide ((↑(A5 (A0 y 1)).size:Int)>200) then
 4 else
 0)) else
 (bif A1 (A0 y 0)==2 then
 (bif (A5 (A0 y 1)).toList==(ByteArray.mk #[]).toList then
 1 else
 (bif decide ((↑(A5 (A0 y 1)).size:Int)>200) then
 4 else
 0)) else
 (bif A1 (A0 y 0)==3 then
 (a5f (A5 (A0 y 1))) else
 (bif A1 (A0 y 0)==5 then
 (F6 (A2 (A0 y 2))) else
 (M6 (A2 (A0 y 3)) false)))))))
noncomputable def c58:Ct:=⟨fun | [x]=>a2e x|_=>False,fun | [x]=>some (.lit (.int .i64 (S8 x)))|_=>none⟩
noncomputable def T58:Tab:=T79.add 58 c58
noncomputable def l25:Code:=D6 (C6 (A7 Tryz.f25) 8)
noncomputable def S25:Ev.Spec:={L:=[9,10,11],ns:=[],L':=[2],nm':=[],G:=fun N vals bs k=>match vals,bs with
 | [.d (.slice b 4 xs), .d (.lit (.int .i64 n)), .d (.lit (.int .i64 i))], []=>(N=21∧i=0∧n=xs.length∧xs.length≤100∧∀y∈xs,a2e y)∧P7 (C0 (C7 S8 xs) xs.length) (k (.exit 0) [.any] []) (fun e=>k .ret [A3 e] [])
 | _,_=>False }
theorem b25 (xs:List D) (i:Int) (n:Int) (b:Bool) (R:X→List V→List Box→Prop):(D7 (Cn T58) T58 D4 0 C5 B1 l25 21 [9,10,11] [] [] [] [2] [] [V.d (D.slice b 4 xs),A3 n,A3 i] [] R) =
 (bif decide (i<n) then
 ((((0:Int)≤i)∧(i.toNat<xs.length∧gV (xs.getD i.toNat D.any)=xs.getD i.toNat D.any))∧
 (a2e (gV (xs.getD i.toNat D.any))∧
 (bif S8 (gV (xs.getD i.toNat D.any)) !=0 then
 (21=21∧
 R X.ret [A3 (S8 (gV (xs.getD i.toNat D.any)))] []) else
 (21=21∧
 R X.normal
 [V.d (D.slice b 4 xs),A3 n,
 A3 (IntKind.i64.wrap (i+1))]
 [])))) else
 (21=21∧
 R (X.exit 0) [V.any] [])):=by kernel_rfl
theorem w25 (xs:List D) (b:Bool) (p:V→Prop):(B7 (Cn T58) T58 D4 0 (spL [(8,S25)]) B1 25 [V.d (D.slice b 4 xs)] B4.empty fun v H=>p (B5 H v)) =
 (bif decide ((↑xs.length:Int)>100) then
 p (A3 4) else
 ((21=21∧(((0:Int)=0)∧((((↑xs.length:Int):Int)=(↑xs.length:Int))∧(xs.length≤100∧∀(y:D),y∈xs→a2e y))))∧
 (match C0 (C7 S8 xs) xs.length with
 | some y0 =>
 p (A3 y0)
 | none=>p (A3 0)))):=by kernel_rfl
noncomputable def S0 (xs:List D):Int :=
 (bif decide ((↑xs.length:Int)>100) then
 4 else
 (match C0 (C7 S8 xs) xs.length with
 | some y0=>y0
 | none=>0))
noncomputable def c25:Ct:=⟨fun | [.slice _ z xs]=>z=4∧∀y∈xs,a2e y|_=>False,fun | [.slice _ _ xs]=>some (.lit (.int .i64 (S0 xs)))|_=>none⟩
noncomputable def T25:Tab:=T58.add 25 c25
theorem w75 (y:D) (p:V→Prop):(B7 (Cn T25) T25 D4 0 C5 B1 75 [V.d (cV y)] B4.empty fun v H=>p (B5 H v)) =
 (True∧
 (True∧
 (bif L7 (A5 (A0 y 0)) then
 (bif bif bif bif A1 (A0 y 1) !=1 then A1 (A0 y 1) !=2 else false then A1 (A0 y 1) !=5 else false then
 A1 (A0 y 1) !=6
 else false then
 p (A3 8) else
 (bif !(A5 (A0 y 2)).toList==(ByteArray.mk #[]).toList then
 p (A3 1) else
 (bif bif decide (A1 (A0 y 3)<0) then true else decide (A1 (A0 y 3)>1099511627776) then
 p (A3 2) else
 p (A3 0)))) else
 (((M8 (A5 (A0 y 0)) (bA [97,116,116,114,46]) &&
 ((!bif (A5 (A0 y 0)).toList==(ByteArray.mk #[115,101,114,118,105,99,101]).toList then true
 else (A5 (A0 y 0)).toList==(ByteArray.mk #[110,97,109,101]).toList) &&
 true)) =
 true→True)∧
 (bif bif
 bif (A5 (A0 y 0)).toList==(ByteArray.mk #[115,101,114,118,105,99,101]).toList then true
 else (A5 (A0 y 0)).toList==(ByteArray.mk #[110,97,109,101]).toList then
 true
 else
 bif M8 (A5 (A0 y 0)) (bA [97,116,116,114,46]) then
 G4
 (bif M8 (A5 (A0 y 0)) (bA [97,116,116,114,46]) then
 (A5 (A0 y 0)).extract 5 (A5 (A0 y 0)).size
 else A5 (A0 y 0))
 else false then
 (bif bif decide (A1 (A0 y 1)<1) then true else decide (A1 (A0 y 1)>4) then
 p (A3 8) else
 (bif A1 (A0 y 3) !=0 then
 p (A3 1) else
 (bif decide (A1 (A0 y 1)≥3) then
 (True∧
 p (A3 (a5f (A5 (A0 y 2))))) else
 (bif decide ((↑(A5 (A0 y 2)).size:Int)>200) then
 p (A3 4) else
 p (A3 0))))) else
 p (A3 5)))))):=by kernel_rfl
noncomputable def M3 (y:D):Int :=
 (bif L7 (A5 (A0 y 0)) then
 (bif bif bif bif A1 (A0 y 1) !=1 then A1 (A0 y 1) !=2 else false then A1 (A0 y 1) !=5 else false then
 A1 (A0 y 1) !=6
 else false then
 8 else
 (bif !(A5 (A0 y 2)).toList==(ByteArray.mk #[]).toList then
 1 else
 (bif bif decide (A1 (A0 y 3)<0) then true else decide (A1 (A0 y 3)>1099511627776) then
 2 else
 0))) else
 (bif bif
 bif (A5 (A0 y 0)).toList==(ByteArray.mk #[115,101,114,118,105,99,101]).toList then true
 else (A5 (A0 y 0)).toList==(ByteArray.mk #[110,97,109,101]).toList then
 true
 else
 bif M8 (A5 (A0 y 0)) (ByteArray.mk (Array.mk [97,116,116,114,46])) then
 G4
 (bif M8 (A5 (A0 y 0)) (ByteArray.mk (Array.mk [97,116,116,114,46])) then
 (A5 (A0 y 0)).extract 5 (A5 (A0 y 0)).size
 else A5 (A0 y 0))
 else false then
 (bif bif decide (A1 (A0 y 1)<1) then true else decide (A1 (A0 y 1)>4) then
 8 else
 (bif A1 (A0 y 3) !=0 then
 1 else
 (bif decide (A1 (A0 y 1)≥3) then
 (a5f (A5 (A0 y 2))) else
 (bif decide ((↑(A5 (A0 y 2)).size:Int)>200) then
 4 else
 0)))) else
 5))
noncomputable def c75:Ct:=⟨fun | [x]=>a4z x|_=>False,fun | [x]=>some (.lit (.int .i64 (M3 x)))|_=>none⟩
noncomputable def T75:Tab:=T25.add 75 c75
noncomputable def g2t:Code:=D6 (C6 (A7 Tryz.f55) 26)
noncomputable def g2s:Code:=D6 (C6 (A7 Tryz.f55) 40)
abbrev r5 (k:Int) (b:Bool) (cs:List D) (b':Bool) (xs:List D):Box:=.cells 30 [A3 k, .d (.slice b 4 cs), .d (.slice b' 3 xs)]
def f7k:Ev.Spec:={L:=[1,48,49,50],ns:=[([5000],[3])],L':=[1,2],nm':=[[5000]],G:=fun N vals bs k=>match vals,bs with
 | [.ptr [5000] 0, .d (.slice b 4 xs), .d (.lit (.int .i64 n)), .d (.lit (.int .i64 i))], [.cells 30 [.d (.lit (.int .i64 q)), .d (.slice b1 4 cs), .d (.slice b2 3 ps)]]=>(N=73∧i=0∧n=xs.length∧xs.length≤16∧∀y∈xs,a4z y)∧P7 (C0 (C7 M3 xs) xs.length) (k (.exit 1) [.ptr [5000] 0, .any] [r5 q b1 cs b2 ps]) (fun e=>k .ret [.ptr [5000] 0,A3 e] [r5 q b1 cs b2 ps])
 | _,_=>False }
noncomputable def b2x {β:Type} (F:(D→β)→D→β) (z:β):Nat→D→β
 | 0,_=>z
 | n+1,y=>F (b2x F z n) y
theorem d9h {β:Type} {F:(D→β)→D→β} {z:β} {i:Nat} (hF:∀r r' y,(∀a∈E3 y i,r a=r' a)→F r y=F r' y):∀(n m:Nat) (y:D),dsz y<n→dsz y<m→b2x F z n y=b2x F z m y
 | 0,_,_,h,_=>absurd h (Nat.not_lt_zero _)
 | _,0,_,_,h=>absurd h (Nat.not_lt_zero _)
 | n+1,m+1,y,h,h'=>hF _ _ _ fun a ha=>d9h hF n m a (by have:=G3 ha;omega) (by have:=G3 ha;omega)
theorem X7 {β:Type} {F:(D→β)→D→β} {z:β} {i:Nat} (hF:∀r r' y,(∀a∈E3 y i,r a=r' a)→F r y=F r' y) (y:D):b2x F z (dsz y+1) y=F (fun a=>b2x F z (dsz a+1) a) y :=
 hF _ _ _ fun a ha=>d9h hF _ _ a (by have:=G3 ha;omega) (by omega)
noncomputable def c6j (rec:D→Int) (y:D):Int :=
 (bif bif decide (A1 (A0 y 0)<1) then true else decide (A1 (A0 y 0)>9) then
 8 else
 (bif A1 (A0 y 0)==1 then
 (bif bif bif A1 (A0 y 0) !=1 then decide ((↑(A2 (A0 y 1)).length:Int)>0) else false then true
 else (↑(A2 (A0 y 2)).length:Int) !=0 then
 1 else
 (bif decide ((↑(A2 (A0 y 1)).length:Int)>16) then
 4 else
 (match C0 (C7 M3 (A2 (A0 y 1))) (A2 (A0 y 1)).length with
 | some y1=>y1
 | none=>(match C0 (C7 rec (A2 (A0 y 2))) (A2 (A0 y 2)).length with
 | some y0=>y0
 | none=>0)))) else
 (bif A1 (A0 y 0)==9 then
 (bif bif bif A1 (A0 y 0) !=1 then decide ((↑(A2 (A0 y 1)).length:Int)>0) else false then true
 else (↑(A2 (A0 y 2)).length:Int) !=1 then
 1 else
 (bif decide ((↑(A2 (A0 y 1)).length:Int)>16) then
 4 else
 (match C0 (C7 M3 (A2 (A0 y 1))) (A2 (A0 y 1)).length with
 | some y3=>y3
 | none=>(match C0 (C7 rec (A2 (A0 y 2))) (A2 (A0 y 2)).length with
 | some y2=>y2
 | none=>0)))) else
 (bif bif bif A1 (A0 y 0) !=1 then decide ((↑(A2 (A0 y 1)).length:Int)>0) else false then true
 else (↑(A2 (A0 y 2)).length:Int) !=2 then
 1 else
 (bif decide ((↑(A2 (A0 y 1)).length:Int)>16) then
 4 else
 (match C0 (C7 M3 (A2 (A0 y 1))) (A2 (A0 y 1)).length with
 | some y5=>y5
 | none=>(match C0 (C7 rec (A2 (A0 y 2))) (A2 (A0 y 2)).length with
 | some y4=>y4
 | none=>0)))))))
noncomputable def X9 (y:D):Int:=b2x c6j 0 (dsz y+1) y
noncomputable def c55:Ct:=⟨fun | [x]=>G7 x|_=>False,fun | [x]=>some (.lit (.int .i64 (X9 x)))|_=>none⟩
noncomputable def U55 (κ:Nat):Tab:=T75.add 55 (c55.below μ1 κ)
noncomputable def T55:Tab:=T75.add 55 c55
noncomputable def f7j (rec:D→Int) (κ:Nat):Ev.Spec:={L:=[61,62,63],ns:=[],L':=[2],nm':=[],G:=fun N vals bs k=>match vals,bs with
 | [.d (.slice b 3 xs), .d (.lit (.int .i64 n)), .d (.lit (.int .i64 i))], []=>(N=73∧rec=X9∧i=0∧n=xs.length∧xs.length≤2∧∀y∈xs,G7 y∧dsz y<κ)∧P7 (C0 (C7 rec xs) xs.length) (k (.exit 3) [.any] []) (fun e=>k .ret [A3 e] [])
 | _,_=>False }
theorem h2t (κ:Nat) (q:Int) (xs:List D) (cs:List D) (ps:List D) (b1:Bool) (b2:Bool) (i:Int) (n:Int) (b:Bool) (R:X→List V→List Box→Prop):(D7 (Cn (U55 κ)) (U55 κ) D4 0 C5 B1 g2t 73 [1,48,49,50] [[5000]] [] [([5000], [5000])] [1,2]
 [([5000], [5000])] [V.ptr [5000] 0,V.d (D.slice b 4 xs),A3 n,A3 i] [r5 q b1 cs b2 ps] R) =
 (bif decide (i<n) then
 ((((0:Int)≤i)∧(i.toNat<xs.length∧cV (xs.getD i.toNat D.any)=xs.getD i.toNat D.any))∧
 (D.agg
 [zD (A5 (zD (A5 (A0 (xs.getD i.toNat D.any) 0)))),
 iD (A1 (iD (A1 (A0 (xs.getD i.toNat D.any) 1)))),
 zD (A5 (zD (A5 (A0 (xs.getD i.toNat D.any) 2)))),
 iD (A1 (iD (A1 (A0 (xs.getD i.toNat D.any) 3))))] =
 cV (xs.getD i.toNat D.any)∧
 (bif M3 (cV (xs.getD i.toNat D.any)) !=0 then
 (73=73∧
 R X.ret [V.ptr [5000] 0,A3 (M3 (cV (xs.getD i.toNat D.any)))]
 [Box.cells 30 [A3 q,V.d (D.slice b1 4 cs),V.d (D.slice b2 3 ps)]]) else
 (73=73∧
 R X.normal
 [V.ptr [5000] 0,V.d (D.slice b 4 xs),A3 n,
 A3 (IntKind.i64.wrap (i+1))]
 [Box.cells 30 [A3 q,V.d (D.slice b1 4 cs),V.d (D.slice b2 3 ps)]])))) else
 (73=73∧
 R (X.exit 1) [V.ptr [5000] 0,V.any]
 [Box.cells 30 [A3 q,V.d (D.slice b1 4 cs),V.d (D.slice b2 3 ps)]])):=by kernel_rfl
theorem h2s (κ:Nat) (xs:List D) (i:Int) (n:Int) (b:Bool) (R:X→List V→List Box→Prop):(D7 (Cn (U55 κ)) (U55 κ) D4 0 C5 B1 g2s 73 [61,62,63] [] [] [] [2] [] [V.d (D.slice b 3 xs),A3 n,A3 i]
 [] R) =
 (bif decide (i<n) then
 ((((0:Int)≤i)∧(i.toNat<xs.length∧pV (xs.getD i.toNat D.any)=xs.getD i.toNat D.any))∧
 ((G7 (pV (xs.getD i.toNat D.any))∧μ1 [pV (xs.getD i.toNat D.any)]<κ)∧
 (bif X9 (pV (xs.getD i.toNat D.any)) !=0 then
 (73=73∧
 R X.ret [A3 (X9 (pV (xs.getD i.toNat D.any)))] []) else
 (73=73∧
 R X.normal
 [V.d (D.slice b 3 xs),A3 n,
 A3 (IntKind.i64.wrap (i+1))]
 [])))) else
 (73=73∧
 R (X.exit 3) [V.any] [])):=by kernel_rfl
theorem w55 (rec:D→Int) (κ:Nat) (y:D) (p:V→Prop):(B7 (Cn (U55 κ)) (U55 κ) D4 0 (spL [(26,f7k),(40,f7j rec κ)]) B1 55 [V.d (pV y)] B4.empty fun v H =>
 p (B5 H v)) =
 (bif bif decide (A1 (A0 y 0)<1) then true else decide (A1 (A0 y 0)>9) then
 p (A3 8) else
 (bif A1 (A0 y 0)==1 then
 (bif bif bif A1 (A0 y 0) !=1 then decide ((↑(A2 (A0 y 1)).length:Int)>0) else false then true
 else (↑(A2 (A0 y 2)).length:Int) !=0 then
 p (A3 1) else
 (bif decide ((↑(A2 (A0 y 1)).length:Int)>16) then
 p (A3 4) else
 ((73=73∧(((0:Int)=0)∧((((↑(A2 (A0 y 1)).length:Int):Int)=(↑(A2 (A0 y 1)).length:Int))∧((A2 (A0 y 1)).length≤16∧∀(y_1:D),y_1∈A2 (A0 y 1)→a4z y_1))))∧
 (match C0 (C7 M3 (A2 (A0 y 1))) (A2 (A0 y 1)).length with
 | some y1 =>
 p (A3 y1)
 | none=>((73=73∧(rec=X9∧(((0:Int)=0)∧((((↑(A2 (A0 y 2)).length:Int):Int)=(↑(A2 (A0 y 2)).length:Int))∧((A2 (A0 y 2)).length≤2∧∀(y_1:D),y_1∈A2 (A0 y 2)→G7 y_1∧dsz y_1<κ)))))∧
 (match C0 (C7 rec (A2 (A0 y 2))) (A2 (A0 y 2)).length with
 | some y0 =>
 p (A3 y0)
 | none=>p (A3 0))))))) else
 (bif A1 (A0 y 0)==9 then
 (bif bif bif A1 (A0 y 0) !=1 then decide ((↑(A2 (A0 y 1)).length:Int)>0) else false then true
 else (↑(A2 (A0 y 2)).length:Int) !=1 then
 p (A3 1) else
 (bif decide ((↑(A2 (A0 y 1)).length:Int)>16) then
 p (A3 4) else
 ((73=73∧(((0:Int)=0)∧((((↑(A2 (A0 y 1)).length:Int):Int)=(↑(A2 (A0 y 1)).length:Int))∧((A2 (A0 y 1)).length≤16∧∀(y_1:D),y_1∈A2 (A0 y 1)→a4z y_1))))∧
 (match C0 (C7 M3 (A2 (A0 y 1))) (A2 (A0 y 1)).length with
 | some y3 =>
 p (A3 y3)
 | none=>((73=73∧(rec=X9∧(((0:Int)=0)∧((((↑(A2 (A0 y 2)).length:Int):Int)=(↑(A2 (A0 y 2)).length:Int))∧((A2 (A0 y 2)).length≤2∧∀(y_1:D),y_1∈A2 (A0 y 2)→G7 y_1∧dsz y_1<κ)))))∧
 (match C0 (C7 rec (A2 (A0 y 2))) (A2 (A0 y 2)).length with
 | some y2 =>
 p (A3 y2)
 | none=>p (A3 0))))))) else
 (bif bif bif A1 (A0 y 0) !=1 then decide ((↑(A2 (A0 y 1)).length:Int)>0) else false then true
 else (↑(A2 (A0 y 2)).length:Int) !=2 then
 p (A3 1) else
 (bif decide ((↑(A2 (A0 y 1)).length:Int)>16) then
 p (A3 4) else
 ((73=73∧(((0:Int)=0)∧((((↑(A2 (A0 y 1)).length:Int):Int)=(↑(A2 (A0 y 1)).length:Int))∧((A2 (A0 y 1)).length≤16∧∀(y_1:D),y_1∈A2 (A0 y 1)→a4z y_1))))∧
 (match C0 (C7 M3 (A2 (A0 y 1))) (A2 (A0 y 1)).length with
 | some y5 =>
 p (A3 y5)
 | none=>((73=73∧(rec=X9∧(((0:Int)=0)∧((((↑(A2 (A0 y 2)).length:Int):Int)=(↑(A2 (A0 y 2)).length:Int))∧((A2 (A0 y 2)).length≤2∧∀(y_1:D),y_1∈A2 (A0 y 2)→G7 y_1∧dsz y_1<κ)))))∧
 (match C0 (C7 rec (A2 (A0 y 2))) (A2 (A0 y 2)).length with
 | some y4 =>
 p (A3 y4)
 | none=>p (A3 0)))))))))):=by kernel_rfl
theorem w23 (y:D) (p:V→Prop):(B7 (Cn T55) T55 D4 0 C5 B1 23 [V.d (pV y)] B4.empty fun v H=>p (B5 H v)) =
 ((G7 (pV y)∧(((0:Int)≤0)∧((0:Int)≤100)))∧
 (bif decide ((↑(cap (0+M4 (pV y))):Int)>100) then
 p (A3 4) else
 ((G7 (pV y)∧M4 (pV y)≤100)∧
 (bif decide ((↑(V9 (pV y)):Int)>12) then
 p (A3 30) else
 (G7 (pV y)∧
 p (A3 (X9 (pV y)))))))):=by kernel_rfl
noncomputable def M5 (y:D):Int :=
 (bif decide ((↑(cap (0+M4 (pV y))):Int)>100) then
 4 else
 (bif decide ((↑(V9 (pV y)):Int)>12) then
 30 else
 (X9 (pV y))))
noncomputable def c23:Ct:=⟨fun | [x]=>G7 x|_=>False,fun | [x]=>some (.lit (.int .i64 (M5 x)))|_=>none⟩
noncomputable def T23:Tab:=T55.add 23 c23
theorem S4 {a b:Prop} (h:a) (k:b):a∧b:=⟨h,k⟩
theorem g7w:C2 B d7n:=by
 refine C3 C4 k43 (fn:=Tryz.f148) (cd:=A7 Tryz.f148) (sp:=C5) (hn:=B1) Tryz.func148 (by kernel_rfl) (by kernel_rfl) A8 fun ds r hp hr=>?_
 unfold g9u at hp hr
 simp only[] at hr hp
 split at hr
 ·rename_i x
  cases hr
  rw[W1 (show mV x=x from hp)]
  refine keep (h6e x fun v=>v=_) ?_
  unfold n3
  (repeat' (first|with_reducible rfl | (refine A4 (fun hcw=>?_) (fun hcw=>?_)<;>simp only[hcw,cond_true,cond_false])|refine S4 ?_ ?_))
  all_goals first|trivial | (intro i hi;cases i with|zero=>rfl|succ i=>simp at hi)
 ·cases hr
theorem h7n:OkS (Cn d7n) 0 (.loop l78) S78:=by
 refine D2 fun N vals bs K h=>?_
 simp only[S78] at h
 split at h
 case h_2=>exact h.elim
 rename_i b xs n i
 obtain ⟨⟨rfl,rfl,rfl,h16,hall⟩,h⟩:=h
 refine F5 (D1 C4 g7w B9) C1 A8 (hn:=B1) (adsI:=[]) (nsI:=[]) (nsX:=[]) rfl rfl xs.length
  (fun i=>[.d (.slice b 3 xs),A3 xs.length,A3 i]) (fun _=>[]) (C7 n3 xs) (fun e=>(.ret, [A3 e], [])) (by simp) (.exit 0) [.any] [] (by simp) ?_ ?_ h
 ·intro i R hi hR
  refine keep (b78 xs i xs.length b R) ?_
  have e1:decide ((i:Int)<xs.length)=true:=by simp;omega
  have e2:IntKind.i64.wrap ((i:Int)+1)=((i+1:Nat):Int):=by rw[Go.IntWalk.i64_in _ (by omega)];omega
  have hv:=hall _ (E1 hi)
  rw[e1]
  simp only[Int.toNat_natCast,e2,cond_true,show mV _=_ from hv]
  refine ⟨⟨by omega,hi,trivial⟩,hv,A4 (fun h1=>⟨trivial, ?_⟩) (fun h1=>⟨trivial, ?_⟩)⟩<;>(simp only[C7,h1,cond_true,cond_false,P7] at hR;exact hR)
 ·intro R hR
  refine keep (b78 xs xs.length xs.length b R) ?_
  have e1:decide ((xs.length:Int)<xs.length)=false:=by simp
  rw[e1]
  exact ⟨rfl,hR⟩
theorem k78:C2 B T78:=by
 refine C3 C4 g7w (fn:=Tryz.f78) (cd:=A7 Tryz.f78) (sp:=spL [(8,S78)]) (hn:=B1) Tryz.func78 (by kernel_rfl) (by kernel_rfl) (B8 (c:=.loop l78) (by kernel_rfl) h7n C8) fun ds r hp hr=>?_
 unfold c78 at hp hr
 simp only[] at hr hp
 split at hr
 ·rename_i b z xs
  cases hr
  obtain ⟨rfl,hall⟩:=hp
  refine keep (w78 xs b fun v=>v=_) ?_
  unfold F6
  refine A4 (fun h1=>?_) (fun h1=>?_)<;>simp only[h1,cond_true,cond_false]
  have h1':¬(xs.length:Int)>16:=by simpa using h1
  refine ⟨⟨trivial,trivial,trivial,by omega,hall⟩, ?_⟩
  cases C0 (C7 n3 xs) xs.length<;>rfl
 ·cases hr
theorem h7m:OkS (Cn T78) 0 (.loop l79) S79:=by
 refine D2 fun N vals bs K h=>?_
 simp only[S79] at h
 split at h
 case h_2=>exact h.elim
 rename_i b0 xs0 sp b xs n i
 obtain ⟨⟨rfl,hb,hx,rfl,rfl,h16,hall⟩,h⟩:=h
 subst hb hx
 refine F5 (D1 C4 k78 B9) C1 A8 (hn:=B1) (adsI:=[]) (nsI:=[]) (nsX:=[]) rfl rfl xs.length
  (fun i=>[.d (.slice b 1 xs),A9 sp, .d (.slice b 1 xs),A3 xs.length,A3 i]) (fun _=>[]) (M2 sp xs) (fun e=>(.ret, [A3 e], [])) (by simp) (.exit 0) [.any] [] (by simp) ?_ ?_ h
 ·intro i R hi hR
  refine keep (b79 xs sp i xs.length b R) ?_
  have e1:decide ((i:Int)<xs.length)=true:=by simp;omega
  have e2:IntKind.i64.wrap ((i:Int)+1)=((i+1:Nat):Int):=by rw[Go.IntWalk.i64_in _ (by omega)];omega
  have e3:0<i→IntKind.i64.wrap ((i:Int)-1)=((i-1:Nat):Int):=fun h=>by rw[Go.IntWalk.i64_in _ (by omega)];omega
  have hv:=hall _ (E1 hi)
  rw[e1]
  simp only[Int.toNat_natCast,e2,cond_true]
  refine ⟨⟨by omega,hi,hv⟩,trivial, ?_⟩
  refine A4 (fun h1=>⟨trivial,by simp only[M2,eqS,leS,h1,cond_true,cond_false,P7] at hR;exact hR⟩) (fun h1=>?_)
  refine ⟨fun h=>?_, ?_⟩
  ·have hz:0<i:=by simp at h;omega
   rw[e3 hz]
   exact ⟨by omega,by omega,hall _ (E1 (by omega))⟩
  ·have hR':P7 (bif (bif decide ((i:Int)>0) then leS (A5 (xs.getD i .any)) (A5 (xs.getD (i-1) .any)) else false) then some (9:Int) else none) (R X.normal [V.d (D.slice b 1 xs),A9 sp,V.d (D.slice b 1 xs),A3 ↑xs.length,A3 ↑(i+1)] []) (fun e=>R .ret [A3 e] []):=by
    simp only[M2,eqS,h1,cond_true,cond_false] at hR;exact hR
   by_cases hz:0<i
   ·have e4:decide ((i:Int)>0)=true:=by simp;omega
    rw[e4] at hR' ⊢
    rw[e3 hz]
    simp only[cond_true,Int.toNat_natCast] at hR' ⊢
    refine A4 (fun h4=>⟨trivial, ?_⟩) (fun h4=>⟨trivial, ?_⟩)
    ·rw[show leS _ _=true from h4] at hR';exact hR'
    ·rw[show leS _ _=false from h4] at hR';exact hR'
   ·have e4:decide ((i:Int)>0)=false:=by simp;omega
    rw[e4] at hR' ⊢
    exact ⟨trivial,hR'⟩
 ·intro R hR
  refine keep (b79 xs sp xs.length xs.length b R) ?_
  have e1:decide ((xs.length:Int)<xs.length)=false:=by simp
  rw[e1]
  exact ⟨rfl,hR⟩
theorem k79:C2 B T79:=by
 refine C3 C4 k78 (fn:=Tryz.f79) (cd:=A7 Tryz.f79) (sp:=spL [(8,S79)]) (hn:=B1) Tryz.func79 (by kernel_rfl) (by kernel_rfl) (B8 (c:=.loop l79) (by kernel_rfl) h7m C8) fun ds r hp hr=>?_
 unfold c79 at hp hr
 simp only[] at hr hp
 split at hr
 ·rename_i b z xs sp
  cases hr
  obtain ⟨rfl,hall⟩:=hp
  refine keep (w79 xs sp b fun v=>v=_) ?_
  unfold M6
  refine A4 (fun h1=>?_) (fun h1=>?_)<;>simp only[h1,cond_true,cond_false]
  have h1':¬(xs.length:Int)>16:=by simpa using h1
  refine ⟨⟨trivial,trivial,trivial,trivial,trivial,by omega,hall⟩, ?_⟩
  cases C0 (M2 sp xs) xs.length<;>rfl
 ·cases hr
theorem k58:C2 B T58:=by
 refine C3 C4 k79 (fn:=Tryz.f58) (cd:=A7 Tryz.f58) (sp:=C5) (hn:=B1) Tryz.func58 (by kernel_rfl) (by kernel_rfl) A8 fun ds r hp hr=>?_
 unfold c58 at hp hr
 simp only[] at hr hp
 split at hr
 ·rename_i x
  cases hr
  rw[W1 (a2e.v hp)]
  refine keep (w58 x fun v=>v=_) ?_
  unfold S8
  (repeat' (first|with_reducible rfl | (refine A4 (fun hcw=>?_) (fun hcw=>?_)<;>simp only[hcw,cond_true,cond_false])|refine S4 ?_ ?_))
  all_goals first|trivial|exact a2e.m hp|exact a2e.n hp
 ·cases hr
theorem h8g:OkS (Cn T58) 0 (.loop l25) S25:=by
 refine D2 fun N vals bs K h=>?_
 simp only[S25] at h
 split at h
 case h_2=>exact h.elim
 rename_i b xs n i
 obtain ⟨⟨rfl,rfl,rfl,h16,hall⟩,h⟩:=h
 refine F5 (D1 C4 k58 B9) C1 A8 (hn:=B1) (adsI:=[]) (nsI:=[]) (nsX:=[]) rfl rfl xs.length
  (fun i=>[.d (.slice b 4 xs),A3 xs.length,A3 i]) (fun _=>[]) (C7 S8 xs) (fun e=>(.ret, [A3 e], [])) (by simp) (.exit 0) [.any] [] (by simp) ?_ ?_ h
 ·intro i R hi hR
  refine keep (b25 xs i xs.length b R) ?_
  have e1:decide ((i:Int)<xs.length)=true:=by simp;omega
  have e2:IntKind.i64.wrap ((i:Int)+1)=((i+1:Nat):Int):=by rw[Go.IntWalk.i64_in _ (by omega)];omega
  have hv:=hall _ (E1 hi)
  rw[e1]
  simp only[Int.toNat_natCast,e2,cond_true,hv.v]
  refine ⟨⟨by omega,hi,trivial⟩,hv,A4 (fun h1=>⟨trivial, ?_⟩) (fun h1=>⟨trivial, ?_⟩)⟩<;>(simp only[C7,h1,cond_true,cond_false,P7] at hR;exact hR)
 ·intro R hR
  refine keep (b25 xs xs.length xs.length b R) ?_
  have e1:decide ((xs.length:Int)<xs.length)=false:=by simp
  rw[e1]
  exact ⟨rfl,hR⟩
theorem k25:C2 B T25:=by
 refine C3 C4 k58 (fn:=Tryz.f25) (cd:=A7 Tryz.f25) (sp:=spL [(8,S25)]) (hn:=B1) Tryz.func25 (by kernel_rfl) (by kernel_rfl) (B8 (c:=.loop l25) (by kernel_rfl) h8g C8) fun ds r hp hr=>?_
 unfold c25 at hp hr
 simp only[] at hr hp
 split at hr
 ·rename_i b z xs
  cases hr
  obtain ⟨rfl,hall⟩:=hp
  refine keep (w25 xs b fun v=>v=_) ?_
  unfold S0
  refine A4 (fun h1=>?_) (fun h1=>?_)<;>simp only[h1,cond_true,cond_false]
  have h1':¬(xs.length:Int)>100:=by simpa using h1
  refine ⟨⟨trivial,trivial,trivial,by omega,hall⟩, ?_⟩
  cases C0 (C7 S8 xs) xs.length<;>rfl
 ·cases hr
theorem k75:C2 B T75:=by
 refine C3 C4 k25 (fn:=Tryz.f75) (cd:=A7 Tryz.f75) (sp:=C5) (hn:=B1) Tryz.func75 (by kernel_rfl) (by kernel_rfl) A8 fun ds r hp hr=>?_
 unfold c75 at hp hr
 simp only[] at hr hp
 split at hr
 ·rename_i x
  cases hr
  rw[W1 (show cV x=x from hp)]
  refine keep (w75 x fun v=>v=_) ?_
  unfold M3
  (repeat' (first|with_reducible rfl | (refine A4 (fun hcw=>?_) (fun hcw=>?_)<;>simp only[hcw,cond_true,cond_false])|refine S4 ?_ ?_))
  all_goals first|trivial | (intro _;trivial)
 ·cases hr
theorem g6k {κ:Nat} (hk:C2 B (U55 κ)):OkS (Cn (U55 κ)) 0 (.loop g2t) f7k:=by
 refine D2 fun N vals bs K h=>?_
 simp only[f7k] at h
 split at h
 case h_2=>exact h.elim
 rename_i b xs n i q b1 cs b2 ps
 obtain ⟨⟨rfl,rfl,rfl,h16,hall⟩,h⟩:=h
 refine F5 (D1 C4 hk B9) C1 A8 (hn:=B1) (adsI:=[]) (nsI:=[([5000],[5000])]) (nsX:=[([5000],[5000])]) rfl rfl xs.length
  (fun i=>[.ptr [5000] 0, .d (.slice b 4 xs),A3 xs.length,A3 i]) (fun _=>[r5 q b1 cs b2 ps]) (C7 M3 xs) (fun e=>(.ret, [.ptr [5000] 0,A3 e], [r5 q b1 cs b2 ps])) (by simp) (.exit 1) [.ptr [5000] 0, .any] [r5 q b1 cs b2 ps] (by simp) ?_ ?_ h
 ·intro i R hi hR
  refine keep (h2t κ q xs cs ps b1 b2 i xs.length b R) ?_
  have e1:decide ((i:Int)<xs.length)=true:=by simp;omega
  have e2:IntKind.i64.wrap ((i:Int)+1)=((i+1:Nat):Int):=by rw[Go.IntWalk.i64_in _ (by omega)];omega
  have hv:=hall _ (E1 hi)
  rw[e1]
  simp only[Int.toNat_natCast,e2,cond_true,show cV _=_ from hv]
  refine ⟨⟨by omega,hi,trivial⟩,hv,A4 (fun h1=>⟨trivial, ?_⟩) (fun h1=>⟨trivial, ?_⟩)⟩<;>(simp only[C7,h1,cond_true,cond_false,P7] at hR;exact hR)
 ·intro R hR
  refine keep (h2t κ q xs cs ps b1 b2 xs.length xs.length b R) ?_
  have e1:decide ((xs.length:Int)<xs.length)=false:=by simp
  rw[e1]
  exact ⟨rfl,hR⟩
theorem b4h {f g:D→Int} {xs:List D} (h:∀a∈xs,f a=g a):C0 (C7 f xs) xs.length=C0 (C7 g xs) xs.length:=by
 have key:∀n i,i+n≤xs.length→rounds (fun i _=>Q1 (C7 f xs i)) n i ()=rounds (fun i _=>Q1 (C7 g xs i)) n i ():=by
  intro n
  induction n with
  | zero=>intro i _;rfl
  | succ n ih =>
   intro i hi
   unfold rounds
   have e:C7 f xs i=C7 g xs i:=by unfold C7;rw[h _ (E1 (by omega))]
   simp only[e]
   cases Q1 (C7 g xs i) with
   | inl _=>exact ih (i+1) (by omega)
   | inr _=>rfl
 unfold C0
 rw[key _ 0 (by omega)]
theorem d5p (r r':D→Int) (y:D) (h:∀a∈E3 y 2,r a=r' a):c6j r y=c6j r' y:=by
 unfold c6j
 rw[b4h h]
theorem c6k (y:D):X9 y=c6j X9 y:=X7 d5p y
theorem g6j {κ:Nat} (hk:C2 B (U55 κ)):OkS (Cn (U55 κ)) 0 (.loop g2s) (f7j X9 κ):=by
 refine D2 fun N vals bs K h=>?_
 simp only[f7j] at h
 split at h
 case h_2=>exact h.elim
 rename_i b xs n i
 obtain ⟨⟨rfl,_,rfl,rfl,h16,hall⟩,h⟩:=h
 refine F5 (D1 C4 hk B9) C1 A8 (hn:=B1) (adsI:=[]) (nsI:=[]) (nsX:=[]) rfl rfl xs.length
  (fun i=>[.d (.slice b 3 xs),A3 xs.length,A3 i]) (fun _=>[]) (C7 X9 xs) (fun e=>(.ret, [A3 e], [])) (by simp) (.exit 3) [.any] [] (by simp) ?_ ?_ h
 ·intro i R hi hR
  refine keep (h2s κ xs i xs.length b R) ?_
  have e1:decide ((i:Int)<xs.length)=true:=by simp;omega
  have e2:IntKind.i64.wrap ((i:Int)+1)=((i+1:Nat):Int):=by rw[Go.IntWalk.i64_in _ (by omega)];omega
  obtain ⟨hv,hlt⟩:=hall _ (E1 hi)
  rw[e1]
  simp only[Int.toNat_natCast,e2,cond_true,hv.v]
  refine ⟨⟨by omega,hi,trivial⟩,⟨hv,hlt⟩,A4 (fun h1=>⟨trivial, ?_⟩) (fun h1=>⟨trivial, ?_⟩)⟩<;>(simp only[C7,h1,cond_true,cond_false,P7] at hR;exact hR)
 ·intro R hR
  refine keep (h2s κ xs xs.length xs.length b R) ?_
  have e1:decide ((xs.length:Int)<xs.length)=false:=by simp
  rw[e1]
  exact ⟨rfl,hR⟩
theorem k55:C2 B T55:=by
 refine P9 C4 k75 μ1 (fn:=Tryz.f55) (cd:=A7 Tryz.f55) (sp:=fun n=>spL [(26,f7k),(40,f7j X9 n)]) (hn:=B1) Tryz.func55 (by kernel_rfl) (by kernel_rfl) (fun n hk=>B8 (c:=.loop g2t) (by kernel_rfl) (g6k hk) (B8 (c:=.loop g2s) (by kernel_rfl) (g6j hk) C8)) fun κ ds r hp hm hr=>?_
 unfold c55 at hp hr
 simp only[] at hr hp
 split at hr
 ·rename_i x
  cases hr
  rw[W1 (G7.v hp)]
  refine keep (w55 X9 κ x fun v=>v=_) ?_
  rw[c6k]
  unfold c6j
  have hc:∀y∈A2 (A0 x 1),a4z y:=hp.c
  have ha:∀y∈A2 (A0 x 2),G7 y∧dsz y<κ:=fun y hy=>⟨hp.a y hy,hm▸G3 hy⟩
  generalize C0 (C7 M3 (A2 (A0 x 1))) (A2 (A0 x 1)).length=o1
  generalize C0 (C7 X9 (A2 (A0 x 2))) (A2 (A0 x 2)).length=o2
  cases o1<;>cases o2<;>(repeat' (first|with_reducible rfl | (refine A4 (fun hcw=>?_) (fun hcw=>?_)<;>simp only[hcw,cond_true,cond_false])|refine S4 ?_ ?_))
  all_goals first|trivial|assumption | (simp at *;omega) | (simp at *;grind)
 ·cases hr
theorem k23:C2 B T23:=by
 refine C3 C4 k55 (fn:=Tryz.f23) (cd:=A7 Tryz.f23) (sp:=C5) (hn:=B1) Tryz.func23 (by kernel_rfl) (by kernel_rfl) A8 fun ds r hp hr=>?_
 unfold c23 at hp hr
 simp only[] at hr hp
 split at hr
 ·rename_i x
  cases hr
  rw[W1 (G7.v hp)]
  refine keep (w23 x fun v=>v=_) ?_
  unfold M5
  rw[G7.v hp]
  (repeat' (first|with_reducible rfl | (refine A4 (fun hcw=>?_) (fun hcw=>?_)<;>simp only[hcw,cond_true,cond_false])|refine S4 ?_ ?_))
  all_goals first|exact hp|trivial | (simp[cap] at *;omega)
 ·cases hr
noncomputable def f3q:Code:=D6 (C6 (A7 Tryz.f196) 2)
theorem h3i (a:Int) (b:Int) (R:X→List V→List Box→Prop):(D7 (Cn T23) T23 D4 0 C5 B1 f3q 12 [0,1] [] [] [] [0] []
 [V.d (D.lit (Value.int IntKind.u64 a)),V.d (D.lit (Value.int IntKind.u64 b))] [] R) =
 (bif b !=0 then
 ((IntKind.u64=IntKind.u64∧b≠0)∧
 (12=12∧
 R X.normal [V.d (D.lit (Value.int IntKind.u64 b)),V.d (D.lit (Value.int IntKind.u64 (a.tmod b)))] [])) else
 (12=12∧
 R (X.exit 0) [V.d (D.lit (Value.int IntKind.u64 a))] [])):=by kernel_rfl
noncomputable def f7x:Ev.Spec:={L:=[0,1],ns:=[],L':=[0],nm':=[],G:=fun N vals bs k=>match vals,bs with
 | [.d (.lit (.int .u64 a)), .d (.lit (.int .u64 b))], []=>∃x y:Nat,(N=12∧a=x∧b=y∧x<18446744073709551616∧y<18446744073709551616)∧k (.exit 0) [.d (.lit (.int .u64 (Nat.gcd x y:Nat)))] []
 | _,_=>False }
theorem h5n (a:Int) (b:Int) (p:V→Prop):(B7 (Cn T23) T23 D4 0 (spL [(2,f7x)]) B1 196
 [V.d (D.lit (Value.int IntKind.u64 a)),V.d (D.lit (Value.int IntKind.u64 b))] B4.empty fun v H=>p (B5 H v)) =
 (∃(x:Nat),(∃(y:Nat),((12=12∧(((a:Int)=(↑x:Int))∧(((b:Int)=(↑y:Int))∧(x<18446744073709551616∧y<18446744073709551616))))∧
 p (V.d (D.lit (Value.int IntKind.u64 (↑(x.gcd y):Int))))))):=by kernel_rfl
noncomputable def g9m:Ct:=⟨fun | [.lit (.int .u64 a), .lit (.int .u64 b)]=>0≤a∧a<18446744073709551616∧0≤b∧b<18446744073709551616|_=>False,fun | [.lit (.int .u64 a), .lit (.int .u64 b)]=>some (.lit (.int .u64 (Nat.gcd a.toNat b.toNat:Nat)))|_=>none⟩
noncomputable def f6c:Tab:=T23.add 196 g9m
theorem h5m (n:Int) (p:V→Prop):(B7 (Cn f6c) f6c D4 0 C5 B1 197 [A3 n] B4.empty fun v H=>p (B5 H v)) =
 (bif decide (n<0) then
 p (V.d (D.lit (Value.int IntKind.u64 (IntKind.u64.wrap (0-IntKind.u64.wrap n))))) else
 p (V.d (D.lit (Value.int IntKind.u64 (IntKind.u64.wrap n))))):=by kernel_rfl
noncomputable def b9p (n:Int):Int :=
 (bif decide (n<0) then
 (IntKind.u64.wrap (0-IntKind.u64.wrap n)) else
 (IntKind.u64.wrap n))
noncomputable def g9k:Ct:=⟨fun _=>True,fun | [.lit (.int .i64 n)]=>some (.lit (.int .u64 (b9p n)))|_=>none⟩
noncomputable def f6b:Tab:=f6c.add 197 g9k
abbrev rV (n d:Int):D:=.agg [.lit (.int .i64 n), .lit (.int .i64 d)]
theorem h6a (n:Int) (d:Int) (p:V→Prop):(B7 (Cn f6b) f6b D4 0 C5 B1 154 [V.d (rV n d)] B4.empty fun v H=>p (B5 H v)) =
 (bif bif decide (d<1) then true else decide (d>1152921504606846976) then
 p (A3 1) else
 (bif bif decide (n< -1152921504606846976) then true else decide (n>1152921504606846976) then
 p (A3 1) else
 (True∧
 ((((0:Int)≤b9p n)∧(((b9p n:Int)<18446744073709551616)∧(((0:Int)≤IntKind.u64.wrap d)∧((IntKind.u64.wrap d:Int)<18446744073709551616))))∧
 (bif (↑((b9p n).toNat.gcd (IntKind.u64.wrap d).toNat):Int) !=1 then
 p (A3 1) else
 p (A3 0)))))):=by kernel_rfl
noncomputable def m3 (n d:Int):Int :=
 (bif bif decide (d<1) then true else decide (d>1152921504606846976) then
 1 else
 (bif bif decide (n< -1152921504606846976) then true else decide (n>1152921504606846976) then
 1 else
 (bif (↑((b9p n).toNat.gcd (IntKind.u64.wrap d).toNat):Int) !=1 then
 1 else
 0)))
noncomputable def f5d:Ct:=⟨fun _=>True,fun | [.agg [.lit (.int .i64 n), .lit (.int .i64 d)]]=>some (.lit (.int .i64 (m3 n d)))|_=>none⟩
noncomputable def f6m:Tab:=f6b.add 154 f5d
theorem h6r (y:D) (p:V→Prop):(B7 (Cn f6m) f6m D4 0 C5 B1 136 [V.d (eV y)] B4.empty fun v H=>p (B5 H v)) =
 (True∧
 (bif m3 (A1 (A0 y 5)) (A1 (A0 y 6)) !=0 then
 p (A3 1) else
 (bif A1 (A0 y 0)==1 then
 p (A3 0) else
 (bif bif A1 (A0 y 0)==6 then A1 (A0 y 1)==7 else false then
 (bif bif bif A1 (A0 y 6) !=1 then true else decide (A1 (A0 y 5)<1) then true
 else decide (A1 (A0 y 5)>1000) then
 p (A3 2) else
 p (A3 0)) else
 (bif bif decide (A1 (A0 y 5)<0) then true else decide (A1 (A0 y 5)>A1 (A0 y 6)) then
 p (A3 2) else
 p (A3 0)))))):=by kernel_rfl
noncomputable def N9 (y:D):Int :=
 (bif m3 (A1 (A0 y 5)) (A1 (A0 y 6)) !=0 then
 1 else
 (bif A1 (A0 y 0)==1 then
 0 else
 (bif bif A1 (A0 y 0)==6 then A1 (A0 y 1)==7 else false then
 (bif bif bif A1 (A0 y 6) !=1 then true else decide (A1 (A0 y 5)<1) then true
 else decide (A1 (A0 y 5)>1000) then
 2 else
 0) else
 (bif bif decide (A1 (A0 y 5)<0) then true else decide (A1 (A0 y 5)>A1 (A0 y 6)) then
 2 else
 0))))
noncomputable def f5e:Ct:=⟨fun | [x]=>D0 x|_=>False,fun | [x]=>some (.lit (.int .i64 (N9 x)))|_=>none⟩
noncomputable def d7q:Tab:=f6m.add 136 f5e
noncomputable def g2z:Code:=D6 (C6 (A7 Tryz.f137) 22)
def g5h (x:D):Prop:=.lit (.int .u8 (A1 x))=x
def U5 (xs:List D) (i:Nat):Option Int:=bif (bif A1 (xs.getD i .any) !=95 then (bif decide (A1 (xs.getD i .any)<97) then true else decide (A1 (xs.getD i .any)>122)) else false) then some 5 else none
noncomputable def f8e:Ev.Spec:={L:=[31,32,33],ns:=[],L':=[2],nm':=[],G:=fun N vals bs k=>match vals,bs with
 | [.d (.slice b 1 xs), .d (.lit (.int .i64 n)), .d (.lit (.int .i64 i))], []=>(N=48∧i=0∧n=xs.length∧xs.length≤60∧∀y∈xs,g5h y)∧P7 (C0 (U5 xs) xs.length) (k (.exit 1) [.any] []) (fun e=>k .ret [A3 e] [])
 | _,_=>False }
theorem h3q (xs:List D) (i:Int) (n:Int) (b:Bool) (R:X→List V→List Box→Prop):(D7 (Cn d7q) d7q D4 0 C5 B1 g2z 48 [31,32,33] [] [] [] [2] [] [V.d (D.slice b 1 xs),A3 n,A3 i] [] R) =
 (bif decide (i<n) then
 ((((0:Int)≤i)∧(i.toNat<xs.length∧D.lit (Value.int IntKind.u8 (A1 (xs.getD i.toNat D.any)))=xs.getD i.toNat D.any))∧
 (bif bif A1 (xs.getD i.toNat D.any) !=95 then
 bif decide (A1 (xs.getD i.toNat D.any)<97) then true else decide (A1 (xs.getD i.toNat D.any)>122)
 else false then
 (48=48∧
 R X.ret [A3 5] []) else
 (48=48∧
 R X.normal
 [V.d (D.slice b 1 xs),A3 n,
 A3 (IntKind.i64.wrap (i+1))]
 []))) else
 (48=48∧
 R (X.exit 1) [V.any] [])):=by kernel_rfl
theorem h6q (y : D) (p : V → Prop) : (B7 (Cn d7q) d7q D4 0 (spL [(22, f8e)]) B1 137 [V.d (eV y)] B4.empty fun v H => p (B5 H v)) =
  (bif A1 (A0 y 0) == 5 then
   (bif decide ((↑(A5 (A0 y 14)).size : Int) > 60) then
    p (A3 4) else
    p (A3 0)) else
   (bif A1 (A0 y 0) == 13 then
    (bif bif decide ((↑(A5 (A0 y 14)).size : Int) < 1) then true else decide ((↑(A5 (A0 y 14)).size : Int) > 60) then
     p (A3 5) else
     ((48 = 48 ∧ (((0 : Int) = 0) ∧ ((((↑(G9 (A5 (A0 y 14))).length : Int) : Int) = (↑(G9 (A5 (A0 y 14))).length : Int)) ∧ ((G9 (A5 (A0 y 14))).length ≤ 60 ∧ ∀ (y_1 : D), y_1 ∈ G9 (A5 (A0 y 14)) → g5h y_1)))) ∧
     (match C0 (U5 (G9 (A5 (A0 y 14)))) (G9 (A5 (A0 y 14))).length with
     | some y0 =>
      p (A3 y0)
     | none => p (A3 0)))) else
    (True ∧
    (bif !G4 (A5 (A0 y 14)) then
     p (A3 5) else
     p (A3 0))))) := by kernel_rfl
noncomputable def b3h (y:D):Int :=
 (bif A1 (A0 y 0)==5 then
 (bif decide ((↑(A5 (A0 y 14)).size:Int)>60) then
 4 else
 0) else
 (bif A1 (A0 y 0)==13 then
 (bif bif decide ((↑(A5 (A0 y 14)).size:Int)<1) then true else decide ((↑(A5 (A0 y 14)).size:Int)>60) then
 5 else
 (match C0 (U5 (G9 (A5 (A0 y 14)))) (G9 (A5 (A0 y 14))).length with
 | some y0=>y0
 | none=>0)) else
 (bif !G4 (A5 (A0 y 14)) then
 5 else
 0)))
noncomputable def h2a:Ct:=⟨fun | [x]=>D0 x|_=>False,fun | [x]=>some (.lit (.int .i64 (b3h x)))|_=>none⟩
noncomputable def f6x:Tab:=d7q.add 137 h2a
def e3e (b:Bool) (k f:Int):Bool:=bif k==2 then (bif f==10 then true else f==11) else bif k==3 then b else bif k==6 then (bif (bif f==6 then true else f==7) then true else f==9) else b
def c3w (b:Bool) (k f:Int):Bool:=bif k==2 then b else bif k==3 then f==3 else bif k==6 then f==8 else b
abbrev bD (b:Bool):D:=.lit (.bool b)
theorem w83 (nm:D) (fns:D) (b0:Bool) (b1:Bool) (b2:Bool) (b3:Bool) (b4:Bool) (b5:Bool) (b6:Bool) (b7:Bool) (b8:Bool) (b9:Bool) (ar:Int) (ty:Int) (y:D) (p:V→Prop):(B7 (Cn f6x) f6x D4 0 C5 B1 83
 [V.d
 (D.agg
 [nm,bD b0,bD b1,bD b2,bD b3,bD b4,bD b5,bD b6,bD b7,bD b8,bD b9,fns,
 iD ar,iD ty]),
 V.d (eV y)]
 B4.empty fun v H=>p (B5 H v)) =
 (bif A1 (A0 y 0)==2 then
 p
 (V.d
 (D.agg
 [oD b0,oD b1,
 oD (bif A1 (A0 y 1)==10 then true else A1 (A0 y 1)==11),
 oD b3,oD b4,oD b5,oD b6,
 oD b7,oD b8,oD b9])) else
 (bif A1 (A0 y 0)==3 then
 p
 (V.d
 (D.agg
 [oD b0,oD b1,oD b2,
 oD (A1 (A0 y 1)==3),oD b4,oD b5,
 oD b6,oD b7,oD b8,oD b9])) else
 (bif A1 (A0 y 0)==6 then
 p
 (V.d
 (D.agg
 [oD b0,oD b1,
 oD (bif bif A1 (A0 y 1)==6 then true else A1 (A0 y 1)==7 then true
 else A1 (A0 y 1)==9),
 oD (A1 (A0 y 1)==8),oD b4,oD b5,
 oD b6,oD b7,oD b8,oD b9])) else
 p
 (V.d
 (D.agg
 [oD b0,oD b1,oD b2,oD b3,
 oD b4,oD b5,oD b6,oD b7,
 oD b8,oD b9]))))):=by kernel_rfl
noncomputable def c83:Ct:=⟨fun | [.agg _,y]=>D0 y|_=>False,fun | [.agg [nm, .lit (.bool b0), .lit (.bool b1), .lit (.bool b2), .lit (.bool b3), .lit (.bool b4), .lit (.bool b5), .lit (.bool b6), .lit (.bool b7), .lit (.bool b8), .lit (.bool b9),fns, .lit (.int .i64 ar), .lit (.int .i64 ty)],y]=>some (.agg [bD b0,bD b1,bD (e3e b2 (A1 (A0 y 0)) (A1 (A0 y 1))),bD (c3w b3 (A1 (A0 y 0)) (A1 (A0 y 1))),bD b4,bD b5,bD b6,bD b7,bD b8,bD b9])|_=>none⟩
noncomputable def T83:Tab:=f6x.add 83 c83
theorem h3v {x y z:D} (h:y=x): [z,x].map V.d= [V.d z,V.d y]:=by rw[h];rfl
theorem g6x:OkS (Cn T23) 0 (.loop f3q) f7x:=by
 refine D2 fun N vals bs K h=>?_
 simp only[f7x] at h
 split at h
 case h_2=>exact h.elim
 rename_i a b
 obtain ⟨x,y,⟨rfl,rfl,rfl,hx,hy⟩,h⟩:=h
 have main:∀(n x y:Nat),y≤n→K (.exit 0) [.d (.lit (.int .u64 (Nat.gcd x y:Nat)))] []→J5 (Cn T23) 0 f3q 12 [0,1] [] [0] [] [.d (.lit (.int .u64 x)), .d (.lit (.int .u64 y))] [] K:=by
  intro n
  induction n with
  | zero =>
   intro x y hn h
   have:y=0:=by omega
   subst this
   refine B6 (D1 C4 k23 B9) C1 A8 (hn:=B1) (adsI:=[]) (nsI:=[]) (nsX:=[]) rfl rfl (keep (h3i x 0 _) ?_)
   rw[Nat.gcd_zero_right] at h
   exact ⟨rfl,h⟩
  | succ n ih =>
   intro x y hn h
   refine B6 (D1 C4 k23 B9) C1 A8 (hn:=B1) (adsI:=[]) (nsI:=[]) (nsX:=[]) rfl rfl (keep (h3i x y _) ?_)
   refine A4 (fun h1=>?_) (fun h1=>?_)
   ·have hy:y≠0:=by rintro rfl;simp at h1
    refine ⟨⟨rfl,by omega⟩,rfl, ?_⟩
    have e:((x:Int)).tmod (y:Int)=((x % y:Nat):Int):=by rw[Int.ofNat_tmod]
    rw[e]
    refine ih y (x % y) (by have:=Nat.mod_lt x (Nat.pos_of_ne_zero hy);omega) ?_
    rw[Nat.gcd_comm y, ←Nat.gcd_rec,Nat.gcd_comm]
    exact h
   ·have hy:y=0:=by simpa using h1
    subst hy
    rw[Nat.gcd_zero_right] at h
    exact ⟨rfl,h⟩
 exact main y x y (Nat.le_refl _) h
theorem h8w:C2 B f6c:=by
 refine C3 C4 k23 (fn:=Tryz.f196) (cd:=A7 Tryz.f196) (sp:=spL [(2,f7x)]) (hn:=B1) Tryz.func196 (by kernel_rfl) (by kernel_rfl) (B8 (c:=.loop f3q) (by kernel_rfl) g6x C8) fun ds r hp hr=>?_
 unfold g9m at hp hr
 simp only[] at hr hp
 split at hr
 ·rename_i a b
  cases hr
  obtain ⟨h1,h2,h3,h4⟩:=hp
  refine keep (h5n a b fun v=>v=_) ?_
  exact ⟨a.toNat,b.toNat,⟨rfl,by omega,by omega,by omega,by omega⟩,rfl⟩
 ·cases hr
theorem h8v:C2 B f6b:=by
 refine C3 C4 h8w (fn:=Tryz.f197) (cd:=A7 Tryz.f197) (sp:=C5) (hn:=B1) Tryz.func197 (by kernel_rfl) (by kernel_rfl) A8 fun ds r hp hr=>?_
 unfold g9k at hp hr
 simp only[] at hr hp
 split at hr
 ·rename_i n
  cases hr
  refine keep (h5m n fun v=>v=_) ?_
  unfold b9p
  (repeat' (first|with_reducible rfl | (refine A4 (fun hcw=>?_) (fun hcw=>?_)<;>simp only[hcw,cond_true,cond_false])|refine S4 ?_ ?_))
 ·cases hr
theorem b8a (n:Int):0≤IntKind.u64.wrap n∧IntKind.u64.wrap n<18446744073709551616:=by
 have e:IntKind.u64.wrap n=n % 18446744073709551616:=rfl
 rw[e];omega
theorem d8v (n:Int):0≤b9p n∧b9p n<18446744073709551616:=by
 unfold b9p
 cases decide (n<0)<;>exact b8a _
theorem h9f:C2 B f6m:=by
 refine C3 C4 h8v (fn:=Tryz.f154) (cd:=A7 Tryz.f154) (sp:=C5) (hn:=B1) Tryz.func154 (by kernel_rfl) (by kernel_rfl) A8 fun ds r hp hr=>?_
 unfold f5d at hp hr
 simp only[] at hr hp
 split at hr
 ·rename_i n d
  cases hr
  refine keep (h6a n d fun v=>v=_) ?_
  unfold m3
  (repeat' (first|with_reducible rfl | (refine A4 (fun hcw=>?_) (fun hcw=>?_)<;>simp only[hcw,cond_true,cond_false])|refine S4 ?_ ?_))
  all_goals first|trivial|exact (d8v n).1|exact (d8v n).2|exact (b8a d).1|exact (b8a d).2
 ·cases hr
theorem g8a:C2 B d7q:=by
 refine C3 C4 h9f (fn:=Tryz.f136) (cd:=A7 Tryz.f136) (sp:=C5) (hn:=B1) Tryz.func136 (by kernel_rfl) (by kernel_rfl) A8 fun ds r hp hr=>?_
 unfold f5e at hp hr
 simp only[] at hr hp
 split at hr
 ·rename_i x
  cases hr
  rw[W1 (D0.v hp)]
  refine keep (h6r x fun v=>v=_) ?_
  unfold N9
  (repeat' (first|with_reducible rfl | (refine A4 (fun hcw=>?_) (fun hcw=>?_)<;>simp only[hcw,cond_true,cond_false])|refine S4 ?_ ?_))
  all_goals trivial
 ·cases hr
theorem g7h:OkS (Cn d7q) 0 (.loop g2z) f8e:=by
 refine D2 fun N vals bs K h=>?_
 simp only[f8e] at h
 split at h
 case h_2=>exact h.elim
 rename_i b xs n i
 obtain ⟨⟨rfl,rfl,rfl,h16,hall⟩,h⟩:=h
 refine F5 (D1 C4 g8a B9) C1 A8 (hn:=B1) (adsI:=[]) (nsI:=[]) (nsX:=[]) rfl rfl xs.length
  (fun i=>[.d (.slice b 1 xs),A3 xs.length,A3 i]) (fun _=>[]) (U5 xs) (fun e=>(.ret, [A3 e], [])) (by simp) (.exit 1) [.any] [] (by simp) ?_ ?_ h
 ·intro i R hi hR
  refine keep (h3q xs i xs.length b R) ?_
  have e1:decide ((i:Int)<xs.length)=true:=by simp;omega
  have e2:IntKind.i64.wrap ((i:Int)+1)=((i+1:Nat):Int):=by rw[Go.IntWalk.i64_in _ (by omega)];omega
  have hv:=hall _ (E1 hi)
  rw[e1]
  simp only[Int.toNat_natCast,e2,cond_true]
  refine ⟨⟨by omega,hi,hv⟩,A4 (fun h1=>⟨trivial, ?_⟩) (fun h1=>⟨trivial, ?_⟩)⟩<;>(simp only[U5,h1,cond_true,cond_false,P7] at hR;exact hR)
 ·intro R hR
  refine keep (h3q xs xs.length xs.length b R) ?_
  have e1:decide ((xs.length:Int)<xs.length)=false:=by simp
  rw[e1]
  exact ⟨rfl,hR⟩
theorem c2w (s:ByteArray):(G9 s).length=s.size:=by simp[G9]
theorem d6z (s:ByteArray):∀y∈G9 s,g5h y:=by
 intro y hy
 unfold G9 at hy
 obtain ⟨b,_,rfl⟩:=List.mem_map.1 hy
 rfl
theorem h9p:C2 B f6x:=by
 refine C3 C4 g8a (fn:=Tryz.f137) (cd:=A7 Tryz.f137) (sp:=spL [(22,f8e)]) (hn:=B1) Tryz.func137 (by kernel_rfl) (by kernel_rfl) (B8 (c:=.loop g2z) (by kernel_rfl) g7h C8) fun ds r hp hr=>?_
 unfold h2a at hp hr
 simp only[] at hr hp
 split at hr
 ·rename_i x
  cases hr
  rw[W1 (D0.v hp)]
  refine keep (h6q x fun v=>v=_) ?_
  unfold b3h
  have hb:=d6z (A5 (A0 x 14))
  have hl:=c2w (A5 (A0 x 14))
  generalize C0 (U5 (G9 (A5 (A0 x 14)))) (G9 (A5 (A0 x 14))).length=o1
  cases o1<;>(repeat' (first|with_reducible rfl | (refine A4 (fun hcw=>?_) (fun hcw=>?_)<;>simp only[hcw,cond_true,cond_false])|refine S4 ?_ ?_))
  all_goals first|trivial|assumption | (simp at *;omega) | (simp at *;grind)
 ·cases hr
theorem k83:C2 B T83:=by
 refine C3 C4 h9p (fn:=Tryz.f83) (cd:=A7 Tryz.f83) (sp:=C5) (hn:=B1) Tryz.func83 (by kernel_rfl) (by kernel_rfl) A8 fun ds r hp hr=>?_
 unfold c83 at hp hr
 simp only[] at hr hp
 split at hr
 ·rename_i nm b0 b1 b2 b3 b4 b5 b6 b7 b8 b9 fns ar ty y
  cases hr
  rw[h3v (D0.v hp)]
  refine keep (w83 nm fns b0 b1 b2 b3 b4 b5 b6 b7 b8 b9 ar ty y fun v=>v=_) ?_
  unfold e3e c3w
  (repeat' (first|with_reducible rfl | (refine A4 (fun hcw=>?_) (fun hcw=>?_)<;>simp only[hcw,cond_true,cond_false])|refine S4 ?_ ?_))
  all_goals simp_all
 ·cases hr
theorem h6t (y:D) (p:V→Prop):(B7 (Cn T83) T83 D4 0 C5 B1 134 [V.d (eV y)] B4.empty fun v H=>p (B5 H v)) =
 (D0 (eV y)∧
 p
 (V.d
 (D.agg
 [oD (A1 (A0 y 1) !=0),oD (A1 (A0 y 9) !=0),
 oD (!(A1 (A0 y 5)==0&&(A1 (A0 y 6)==0&&true))),
 oD (!(A5 (A0 y 14)).toList==(ByteArray.mk #[]).toList),
 oD (decide ((↑(A2 (A0 y 2)).length:Int)>0)),oD (u5 (eV y)),
 oD (decide ((↑(A2 (A0 y 10)).length:Int)>0)),
 oD (bif A1 (A0 y 3) !=0 then true else A1 (A0 y 4) !=0),
 oD (decide ((↑(A2 (A0 y 7)).length:Int)>0)),
 oD (Z8 (A0 y 8))]))):=by kernel_rfl
def H5 (y:D) (i:Nat):Bool:=match i with
 | 0=>A1 (A0 y 1) !=0 | 1=>A1 (A0 y 9) !=0
 | 2=> !(A1 (A0 y 5)==0&&(A1 (A0 y 6)==0&&true))
 | 3=> !(A5 (A0 y 14)).toList==(ByteArray.mk #[]).toList
 | 4=>decide ((↑(A2 (A0 y 2)).length:Int)>0) | 5=>u5 y
 | 6=>decide ((↑(A2 (A0 y 10)).length:Int)>0)
 | 7=>bif A1 (A0 y 3) !=0 then true else A1 (A0 y 4) !=0
 | 8=>decide ((↑(A2 (A0 y 7)).length:Int)>0)
 | _=>Z8 (A0 y 8)
noncomputable def h2c:Ct:=⟨fun | [x]=>D0 x|_=>False,fun | [x]=>some (.agg [bD (H5 x 0),bD (H5 x 1),bD (H5 x 2),bD (H5 x 3),bD (H5 x 4),bD (H5 x 5),bD (H5 x 6),bD (H5 x 7),bD (H5 x 8),bD (H5 x 9)])|_=>none⟩
noncomputable def f6z:Tab:=T83.add 134 h2c
def o5 (a b:Bool):Bool:=bif a then !b else false
noncomputable def h2b:Ct:=⟨fun _=>True,fun | [.agg [.lit (.bool a0), .lit (.bool a1), .lit (.bool a2), .lit (.bool a3), .lit (.bool a4), .lit (.bool a5), .lit (.bool a6), .lit (.bool a7), .lit (.bool a8), .lit (.bool a9)], .agg [.lit (.bool b0), .lit (.bool b1), .lit (.bool b2), .lit (.bool b3), .lit (.bool b4), .lit (.bool b5), .lit (.bool b6), .lit (.bool b7), .lit (.bool b8), .lit (.bool b9)]]=>some (.agg [bD (o5 a0 b0),bD (o5 a1 b1),bD (o5 a2 b2),bD (o5 a3 b3),bD (o5 a4 b4),bD (o5 a5 b5),bD (o5 a6 b6),bD (o5 a7 b7),bD (o5 a8 b8),bD (o5 a9 b9)])|_=>none⟩
noncomputable def f6y:Tab:=f6z.add 135 h2b
theorem h6s (a0:Bool) (a1:Bool) (a2:Bool) (a3:Bool) (a4:Bool) (a5:Bool) (a6:Bool) (a7:Bool) (a8:Bool) (a9:Bool) (b0:Bool) (b1:Bool) (b2:Bool) (b3:Bool) (b4:Bool) (b5:Bool) (b6:Bool) (b7:Bool) (b8:Bool) (b9:Bool) (p:V→Prop):(B7 (Cn f6z) f6z D4 0 C5 B1 135
 [V.d (D.agg [bD a0,bD a1,bD a2,bD a3,bD a4,bD a5,bD a6,bD a7,bD a8,bD a9]),
 V.d (D.agg [bD b0,bD b1,bD b2,bD b3,bD b4,bD b5,bD b6,bD b7,bD b8,bD b9])]
 B4.empty fun v H=>p (B5 H v)) =
 p
 (V.d
 (D.agg
 [oD (bif a0 then !b0 else false),oD (bif a1 then !b1 else false),
 oD (bif a2 then !b2 else false),oD (bif a3 then !b3 else false),
 oD (bif a4 then !b4 else false),oD (bif a5 then !b5 else false),
 oD (bif a6 then !b6 else false),oD (bif a7 then !b7 else false),
 oD (bif a8 then !b8 else false),oD (bif a9 then !b9 else false)])):=by kernel_rfl
def j8 (es:List (D×D)):Prop:=es=W3
abbrev ob (a b:Bool):Bool:=bif a then true else b
abbrev ab (a b:Bool):Bool:=bif a then b else false
def hM (k:Int):Bool:=ob (ob (ob (ob (ob (ob (k==2) (k==3)) (k==5)) (k==8)) (k==10)) (k==11)) (k==12)
def hS (k:Int):Bool:=ob (ob (k==3) (k==8)) (k==12)
def hP (k:Int):Bool:=ob (k==4) (k==9)
def hW (k:Int):Bool:=ob (hM k) (hP k)
def hN (k f:Int):Bool:=ob (ob (k==1) (ab (k==2) (decide (f≥10)))) (ab (k==6) (ob (ob (f==6) (f==7)) (f==9)))
def hWo (k:Int):Bool:=ob (ob (ob (k==3) (k==5)) (k==6)) (k==7)
def hNm (k:Int):Bool:=ob (hWo k) (k==4)
def hT (k f:Int):Bool:=ob (ob (ob (ab (k==3) (f==3)) (k==5)) (ab (k==6) (f==8))) (k==13)
def hA (k:Int):Int:=bif k==7 then 2 else bif ob (k==6) (k==12) then 1 else 0
def hF (k:Int):Bool:=ob (ob (ob (k==2) (k==3)) (k==6)) (k==7)
def nF (k:Int):Int:=bif k==2 then 11 else bif k==3 then 3 else bif k==6 then 9 else bif k==7 then 10 else 0
def gN (k f:Int):Bool:=e3e (k==1) k f
def gT (k f:Int):Bool:=c3w (ob (k==5) (k==13)) k f
def c8e (k f:Int) (y:D):Bool:=ob (!(o5 (H5 y 0) (hF k)==false&&(o5 (H5 y 1) (k==7)==false&&(o5 (H5 y 2) (gN k f)==false&&(o5 (H5 y 3) (gT k f)==false&&(o5 (H5 y 4) (hM k)==false&&(o5 (H5 y 5) (hP k)==false&&(o5 (H5 y 6) (hS k)==false&&(o5 (H5 y 7) (hW k)==false&&(o5 (H5 y 8) (hNm k)==false&&(o5 (H5 y 9) (hWo k)==false&&true)))))))))))
 ((↑(A2 (A0 y 15)).length:Int) !=hA k)
noncomputable def b8u (k f:Int) (y:D):Int :=
 bif M6 (A2 (A0 y 7)) (k==4) !=0 then M6 (A2 (A0 y 7)) (k==4) else
 bif ob (decide (A1 (A0 y 9)<0)) (decide (A1 (A0 y 9)>2)) then 8 else
 bif S0 (A2 (A0 y 10)) !=0 then S0 (A2 (A0 y 10)) else
 bif ab (hP k) (M5 (paV y) !=0) then M5 (paV y) else
 bif gT k f then b3h y else 0
noncomputable def c3n (k f:Int) (y:D):Int :=
 bif ob (decide (k<1)) (decide (k>13)) then 8 else
 bif ab (hF k) (ob (decide (f<1)) (decide (f>nF k))) then 8 else
 bif c8e k f y then 1 else
 bif ab (hM k) (F6 (A2 (A0 y 2)) !=0) then F6 (A2 (A0 y 2)) else
 bif ab (hW k) (ob (ob (ob (decide (A1 (A0 y 3)<1)) (decide (A1 (A0 y 3)>1099511627776))) (decide (A1 (A0 y 4)<0))) (decide (A1 (A0 y 4)>1099511627776))) then 2 else
 bif gN k f then (bif N9 y !=0 then N9 y else b8u k f y) else b8u k f y
def d5o {α:Type} (k:Int) (g:Int→α) (d:α):α:=bif k==1 then g 1 else bif k==2 then g 2 else bif k==3 then g 3 else bif k==4 then g 4 else bif k==5 then g 5 else bif k==6 then g 6 else bif k==7 then g 7 else bif k==8 then g 8 else bif k==9 then g 9 else bif k==10 then g 10 else bif k==11 then g 11 else bif k==12 then g 12 else bif k==13 then g 13 else d
def eP (c:Bool) (pre:Prop) (e:Int) (p:Int→Prop) (K:Prop):Prop:=bif c then (pre∧bif e !=0 then p e else K) else K
def i2k (i k f:Int) (y:D):Bool:=ob (!(o5 (H5 y 0) (hF i)==false&&(o5 (H5 y 1) (i==7)==false&&(o5 (H5 y 2) (e3e (i==1) k f)==false&&(o5 (H5 y 3) (c3w (ob (i==5) (i==13)) k f)==false&&(o5 (H5 y 4) (hM i)==false&&(o5 (H5 y 5) (hP i)==false&&(o5 (H5 y 6) (hS i)==false&&(o5 (H5 y 7) (hW i)==false&&(o5 (H5 y 8) (hNm i)==false&&(o5 (H5 y 9) (hWo i)==false&&true))))))))))) ((↑(A2 (A0 y 15)).length:Int) !=hA i)
noncomputable def gP (i k f:Int) (y:D) (p:Int→Prop):Prop :=
 bif ab (hF i) (ob (decide (f<1)) (decide (f>nF i))) then p 8 else (D0 y∧(D0 y∧(True∧(bif i2k i k f y then p 1 else
 eP (hM i) (3=3∧∀z∈A2 (A0 y 2),a2a z) (F6 (A2 (A0 y 2))) p
 (bif ab (hW i) (ob (ob (ob (decide (A1 (A0 y 3)<1)) (decide (A1 (A0 y 3)>1099511627776))) (decide (A1 (A0 y 4)<0))) (decide (A1 (A0 y 4)>1099511627776))) then p 2 else
 eP (e3e (i==1) k f) (D0 y) (N9 y) p
 (eP true (1=1∧∀z∈A2 (A0 y 7),a2d z) (M6 (A2 (A0 y 7)) (k==4)) p
 (bif ob (decide (A1 (A0 y 9)<0)) (decide (A1 (A0 y 9)>2)) then p 8 else
 eP true (4=4∧∀z∈A2 (A0 y 10),a2e z) (S0 (A2 (A0 y 10))) p
 (eP (hP i) (G7 (paV y)) (M5 (paV y)) p
 (bif c3w (ob (i==5) (i==13)) k f then (D0 y∧p (b3h y)) else p 0)))))))))
theorem w72 (y:D) (p:V→Prop):(B7 (Cn f6y) f6y D4 0 C5 B1 72 [.d (eV y), .d (.map W3)] B4.empty (fun v H=>p (B5 H v)))=d5o (A1 (A0 y 0)) (fun i=>gP i (A1 (A0 y 0)) (A1 (A0 y 1)) (eV y) fun e=>p (.d (.lit (.int .i64 e)))) (p (.d (.lit (.int .i64 8)))):=by kernel_rfl
noncomputable def a3r (y:D):Int:=c3n (A1 (A0 y 0)) (A1 (A0 y 1)) (eV y)
noncomputable def c72:Ct:=⟨fun | [x, .map es]=>D0 x∧j8 es|_=>False,fun | [x, .map es]=>some (.lit (.int .i64 (a3r x)))|_=>none⟩
noncomputable def T72:Tab:=f6y.add 72 c72
theorem h9r:C2 B f6z:=by
 refine C3 C4 k83 (fn:=Tryz.f134) (cd:=A7 Tryz.f134) (sp:=C5) (hn:=B1) Tryz.func134 (by kernel_rfl) (by kernel_rfl) A8 fun ds r hp hr=>?_
 unfold h2c at hp hr
 simp only[] at hr hp
 split at hr
 ·rename_i x
  cases hr
  rw[W1 (D0.v hp)]
  refine keep (h6t x fun v=>v=_) ?_
  rw[D0.v hp]
  exact ⟨hp,rfl⟩
 ·cases hr
theorem h9q:C2 B f6y:=by
 refine C3 C4 h9r (fn:=Tryz.f135) (cd:=A7 Tryz.f135) (sp:=C5) (hn:=B1) Tryz.func135 (by kernel_rfl) (by kernel_rfl) A8 fun ds r hp hr=>?_
 unfold h2b at hp hr
 simp only[] at hr hp
 split at hr
 ·cases hr
  refine keep (h6s _ _ _ _ _ _ _ _ _ _ _ _ _ _ _ _ _ _ _ _ fun v=>v=_) ?_
  rfl
 ·cases hr
theorem e3a {k:Int} {g:Int→Prop} {d:Prop} (h1:1≤k∧k≤13→g k) (h2:¬(1≤k∧k≤13)→d):d5o k g d:=by
 by_cases h:1≤k∧k≤13
 ·have hg:=h1 h
  have:k=1∨k=2∨k=3∨k=4∨k=5∨k=6∨k=7∨k=8∨k=9∨k=10∨k=11∨k=12∨k=13:=by omega
  rcases this with rfl|rfl|rfl|rfl|rfl|rfl|rfl|rfl|rfl|rfl|rfl|rfl|rfl<;>exact hg
 ·have hd:=h2 h
  have hn:∀j:Int,1≤j→j≤13→(k==j)=false:=fun j h1 h2=>by
   have:k≠j:=by rintro rfl;exact h ⟨h1,h2⟩
   simpa using this
  unfold d5o
  rw[hn 1 (by omega) (by omega),hn 2 (by omega) (by omega),hn 3 (by omega) (by omega),hn 4 (by omega) (by omega),hn 5 (by omega) (by omega),hn 6 (by omega) (by omega),hn 7 (by omega) (by omega),hn 8 (by omega) (by omega),hn 9 (by omega) (by omega),hn 10 (by omega) (by omega),hn 11 (by omega) (by omega),hn 12 (by omega) (by omega),hn 13 (by omega) (by omega)]
  exact hd
theorem d3u {c:Bool} {pre:Prop} {e:Int} {p:Int→Prop} {K:Prop} (hpre:c=true→pre) (h1:ab c (e !=0)=true→p e) (h2:ab c (e !=0)=false→K):eP c pre e p K:=by
 unfold eP
 cases c with
 | false=>exact h2 rfl
 | true =>
  refine ⟨hpre rfl, ?_⟩
  cases g:e !=0 with
  | true=>exact h1 g
  | false=>exact h2 g
theorem c2y {c:Bool} {a b:Prop} (h1:c=true→a) (h2:c=false→b):bif c then a else b:=by
 cases c with
 | true=>exact h1 rfl
 | false=>exact h2 rfl
theorem g8f {k f:Int} {x:D} (hf:D0 x) (hk:1≤k∧k≤13) {p:Int→Prop} (hp:p (c3n k f x)):gP k k f x p:=by
 have e0:ob (decide (k<1)) (decide (k>13))=false:=by
  rw[decide_eq_false (show ¬k<1 by omega)];show decide _=false;simp;omega
 unfold c3n at hp
 rw[e0,cond_false] at hp
 unfold gP
 refine c2y (fun g=>by rw[g] at hp;exact hp) fun g=>?_
 rw[g,cond_false] at hp
 refine ⟨hf,hf,trivial,c2y (fun g=>?_) fun g=>?_⟩
 ·rw[show c8e k f x=true from g] at hp;exact hp
 rw[show c8e k f x=false from g,cond_false] at hp
 refine d3u (fun _=>⟨rfl,hf.m⟩) (fun g=>by rw[g] at hp;exact hp) fun g=>?_
 rw[g,cond_false] at hp
 refine c2y (fun g=>by rw[g] at hp;exact hp) fun g=>?_
 rw[g,cond_false] at hp
 have hp:p (bif ab (gN k f) (N9 x !=0) then N9 x else b8u k f x):=by
  cases hg:gN k f with
  | true=>rw[hg] at hp;exact hp
  | false=>rw[hg] at hp;exact hp
 refine d3u (fun _=>hf) (fun g=>by rw[show ab (gN k f) (N9 x !=0)=true from g] at hp;exact hp) fun g=>?_
 rw[show ab (gN k f) (N9 x !=0)=false from g,cond_false] at hp
 unfold b8u at hp
 refine d3u (fun _=>⟨rfl,hf.n⟩) (fun g=>by rw[show (M6 (A2 (A0 x 7)) (k==4) !=0)=true from g] at hp;exact hp) fun g=>?_
 rw[show (M6 (A2 (A0 x 7)) (k==4) !=0)=false from g,cond_false] at hp
 refine c2y (fun g=>by rw[g] at hp;exact hp) fun g=>?_
 rw[g,cond_false] at hp
 refine d3u (fun _=>⟨rfl,hf.s⟩) (fun g=>by rw[show (S0 (A2 (A0 x 10)) !=0)=true from g] at hp;exact hp) fun g=>?_
 rw[show (S0 (A2 (A0 x 10)) !=0)=false from g,cond_false] at hp
 refine d3u (fun _=>hf.p) (fun g=>by rw[g] at hp;exact hp) fun g=>?_
 rw[g,cond_false] at hp
 refine c2y (fun g=>?_) fun g=>?_
 ·rw[show gT k f=true from g] at hp;exact ⟨hf,hp⟩
 ·rw[show gT k f=false from g] at hp;exact hp
theorem k72:C2 B T72:=by
 refine C3 C4 h9q (fn:=Tryz.f72) (cd:=A7 Tryz.f72) (sp:=C5) (hn:=B1) Tryz.func72 (by kernel_rfl) (by kernel_rfl) A8 fun ds r hp hr=>?_
 unfold c72 at hp hr
 simp only[] at hr hp
 split at hr
 ·rename_i x es
  cases hr
  obtain ⟨hf,he⟩:=hp
  rw[show es=W3 from he,d7h hf.v]
  refine keep (w72 x fun v=>v=_) ?_
  unfold a3r
  rw[hf.v]
  refine e3a (fun h=>?_) fun h=>?_
  ·have hv:=g8f (k:=A1 (A0 x 0)) (f:=A1 (A0 x 1)) hf h (p:=fun e=>V.d (.lit (.int .i64 e))= .d (.lit (.int .i64 (c3n (A1 (A0 x 0)) (A1 (A0 x 1)) x)))) rfl
   exact hv
  ·unfold c3n
   have e:ob (decide (A1 (A0 x 0)<1)) (decide (A1 (A0 x 0)>13))=true:=by
    by_cases h1:A1 (A0 x 0)<1
    ·rw[decide_eq_true h1];rfl
    ·rw[decide_eq_false h1];show decide _=true;simp;omega
   rw[e];rfl
 ·cases hr
noncomputable def a8g (rec:D→Int) (y:D):Int :=
 (bif a3r (eV y) !=0 then
 (a3r (eV y)) else
 (match C0 (C7 rec (A2 (A0 y 15))) (A2 (A0 y 15)).length with
 | some y0=>y0
 | none=>0))
noncomputable def H9 (y:D):Int:=b2x a8g 0 (dsz y+1) y
noncomputable def c44:Ct:=⟨fun | [x, .map es]=>(D0 x∧G1 x≤100)∧j8 es|_=>False,fun | [x, .map es]=>some (.lit (.int .i64 (H9 x)))|_=>none⟩
noncomputable def U44 (κ:Nat):Tab:=T72.add 44 (c44.below μ1 κ)
noncomputable def T44:Tab:=T72.add 44 c44
noncomputable def l44:Code:=D6 (C6 (A7 Tryz.f44) 10)
noncomputable def S44 (rec:D→Int) (κ:Nat):Ev.Spec:={L:=[1,16,17,18],ns:=[],L':=[4],nm':=[],G:=fun N vals bs k=>match vals,bs with
 | [.d (.map es), .d (.slice b 16 xs), .d (.lit (.int .i64 n)), .d (.lit (.int .i64 i))], []=>(N=29∧j8 es∧rec=H9∧i=0∧n=xs.length∧xs.length≤100∧∀y∈xs,(D0 y∧G1 y≤100)∧dsz y<κ)∧P7 (C0 (C7 rec xs) xs.length) (k (.exit 0) [.any] []) (fun e=>k .ret [A3 e] [])
 | _,_=>False }
theorem b44 (κ:Nat) (es:List (D×D)) (xs:List D) (i:Int) (n:Int) (b:Bool) (R:X→List V→List Box→Prop):(D7 (Cn (U44 κ)) (U44 κ) D4 0 C5 B1 l44 29 [1,16,17,18] [] [] [] [4] []
 [V.d (D.map es),V.d (D.slice b 16 xs),A3 n,A3 i] [] R) =
 (bif decide (i<n) then
 ((((0:Int)≤i)∧(i.toNat<xs.length∧eV (xs.getD i.toNat D.any)=xs.getD i.toNat D.any))∧
 ((((D0 (eV (xs.getD i.toNat D.any))∧G1 (eV (xs.getD i.toNat D.any))≤100)∧j8 es)∧μ1 [eV (xs.getD i.toNat D.any),D.map es]<κ)∧
 (bif H9 (eV (xs.getD i.toNat D.any)) !=0 then
 (29=29∧
 R X.ret [A3 (H9 (eV (xs.getD i.toNat D.any)))] []) else
 (29=29∧
 R X.normal
 [V.d (D.map es),V.d (D.slice b 16 xs),A3 n,
 A3 (IntKind.i64.wrap (i+1))]
 [])))) else
 (29=29∧
 R (X.exit 0) [V.any] [])):=by kernel_rfl
theorem w44 (rec:D→Int) (κ:Nat) (es:List (D×D)) (y:D) (p:V→Prop):(B7 (Cn (U44 κ)) (U44 κ) D4 0 (spL [(10,S44 rec κ)]) B1 44 [V.d (eV y),V.d (D.map es)] B4.empty fun v H =>
 p (B5 H v)) =
 ((D0 (eV y)∧j8 es)∧
 (bif a3r (eV y) !=0 then
 p (A3 (a3r (eV y))) else
 ((29=29∧(j8 es∧(rec=H9∧(((0:Int)=0)∧((((↑(A2 (A0 y 15)).length:Int):Int)=(↑(A2 (A0 y 15)).length:Int))∧((A2 (A0 y 15)).length≤100∧∀(y_1:D),y_1∈A2 (A0 y 15)→(D0 y_1∧G1 y_1≤100)∧dsz y_1<κ))))))∧
 (match C0 (C7 rec (A2 (A0 y 15))) (A2 (A0 y 15)).length with
 | some y0 =>
 p (A3 y0)
 | none=>p (A3 0))))):=by kernel_rfl
theorem w17 (y:D) (p:V→Prop):(B7 (Cn T44) T44 D4 0 C5 B1 17 [V.d (eV y)] B4.empty fun v H=>p (B5 H v)) =
 (D0 (eV y)∧
 (bif decide ((↑(cap (G1 (eV y))):Int)>100) then
 p (A3 4) else
 ((D0 (eV y)∧G1 (eV y)≤100)∧
 (bif decide ((↑(Q6 (eV y)):Int)>12) then
 p (A3 30) else
 (True∧
 (((D0 (eV y)∧G1 (eV y)≤100)∧j8 W3)∧
 p (A3 (H9 (eV y))))))))):=by kernel_rfl
noncomputable def E2 (y:D):Int :=
 (bif decide ((↑(cap (G1 (eV y))):Int)>100) then
 4 else
 (bif decide ((↑(Q6 (eV y)):Int)>12) then
 30 else
 (H9 (eV y))))
noncomputable def c17:Ct:=⟨fun | [x]=>D0 x|_=>False,fun | [x]=>some (.lit (.int .i64 (E2 x)))|_=>none⟩
noncomputable def T17:Tab:=T44.add 17 c17
theorem w70 (y:D) (a:Int) (b:Int) (p:V→Prop):(B7 (Cn T17) T17 D4 0 C5 B1 70 [V.d (eV y),A3 a,A3 b] B4.empty fun v H=>p (B5 H v)) =
 (bif bif bif a !=1 then a !=2 else false then true else bif b !=1 then b !=2 else false then
 p (A3 0) else
 (bif bif a==2 then b==2 else false then
 p (A3 2) else
 (bif bif bif decide ((↑(A2 (A0 y 7)).length:Int)>0) then true else Z8 (A0 y 8) then true
 else A1 (A0 y 9) !=0 then
 p (A3 0) else
 (bif bif a==2 then true else b==2 then
 p (A3 2) else
 (bif decide (A1 (A0 y 1)≥5) then
 p (A3 0) else
 p (A3 1)))))):=by kernel_rfl
noncomputable def f5h (y:D) (a b:Int):Int :=
 (bif bif bif a !=1 then a !=2 else false then true else bif b !=1 then b !=2 else false then
 0 else
 (bif bif a==2 then b==2 else false then
 2 else
 (bif bif bif decide ((↑(A2 (A0 y 7)).length:Int)>0) then true else Z8 (A0 y 8) then true
 else A1 (A0 y 9) !=0 then
 0 else
 (bif bif a==2 then true else b==2 then
 2 else
 (bif decide (A1 (A0 y 1)≥5) then
 0 else
 1)))))
noncomputable def c70:Ct:=⟨fun | [x, .lit (.int .i64 a), .lit (.int .i64 b)]=>D0 x|_=>False,fun | [x, .lit (.int .i64 a), .lit (.int .i64 b)]=>some (.lit (.int .i64 (f5h x a b)))|_=>none⟩
noncomputable def T70:Tab:=T17.add 70 c70
abbrev n8 (n:Int):D:=.lit (.int .i64 n)
abbrev N5 (y:D):List V:=[.d (iC y 0), .d (iC y 1), .d (lC y 2 3), .d (iC y 3), .d (iC y 4), .d (iC y 5), .d (iC y 6), .d (lC y 7 1), .d (bC y 8), .d (iC y 9), .d (lC y 10 4), .d (iC y 11), .d (lC y 12 4), .d (lC y 13 3), .d (sC y 14), .d (lC y 15 16)]
abbrev G5 (y:D):Box:=.cells 33 (N5 y)
def IsE (cs:List V):Prop:=∃y,cs=N5 y
noncomputable def b8d (rec:D→Int) (y:D):Int :=
 (bif A1 (A0 y 0)==6 then
 (bif A1 ((List.map (fun a=>n8 (rec a)) (A2 (A0 y 15))).getD 0 D.any) !=2 then
 0 else
 (bif A1 (A0 y 0)==1 then
 1 else
 (bif A1 (A0 y 0)==2 then
 2 else
 (bif A1 (A0 y 0)==3 then
 2 else
 (bif A1 (A0 y 0)==4 then
 2 else
 (bif A1 (A0 y 0)==5 then
 2 else
 (bif A1 (A0 y 0)==6 then
 2 else
 (bif A1 (A0 y 0)==7 then
 0 else
 (bif A1 (A0 y 0)==8 then
 3 else
 (bif A1 (A0 y 0)==9 then
 4 else
 (bif A1 (A0 y 0)==10 then
 5 else
 (bif A1 (A0 y 0)==11 then
 4 else
 (bif A1 (A0 y 0)==12 then
 3 else
 (bif A1 (A0 y 0)==13 then
 0 else
 0)))))))))))))) else
 (bif A1 (A0 y 0)==12 then
 (bif A1 ((List.map (fun a=>n8 (rec a)) (A2 (A0 y 15))).getD 0 D.any) !=4 then
 0 else
 (bif A1 (A0 y 0)==1 then
 1 else
 (bif A1 (A0 y 0)==2 then
 2 else
 (bif A1 (A0 y 0)==3 then
 2 else
 (bif A1 (A0 y 0)==4 then
 2 else
 (bif A1 (A0 y 0)==5 then
 2 else
 (bif A1 (A0 y 0)==6 then
 2 else
 (bif A1 (A0 y 0)==7 then
 0 else
 (bif A1 (A0 y 0)==8 then
 3 else
 (bif A1 (A0 y 0)==9 then
 4 else
 (bif A1 (A0 y 0)==10 then
 5 else
 (bif A1 (A0 y 0)==11 then
 4 else
 (bif A1 (A0 y 0)==12 then
 3 else
 (bif A1 (A0 y 0)==13 then
 0 else
 0)))))))))))))) else
 (bif A1 (A0 y 0)==7 then
 (f5h (eV y) (A1 ((List.map (fun a=>n8 (rec a)) (A2 (A0 y 15))).getD 0 D.any))
 (A1 ((List.map (fun a=>n8 (rec a)) (A2 (A0 y 15))).getD 1 D.any))) else
 (bif A1 (A0 y 0)==1 then
 1 else
 (bif A1 (A0 y 0)==2 then
 2 else
 (bif A1 (A0 y 0)==3 then
 2 else
 (bif A1 (A0 y 0)==4 then
 2 else
 (bif A1 (A0 y 0)==5 then
 2 else
 (bif A1 (A0 y 0)==6 then
 2 else
 (bif A1 (A0 y 0)==7 then
 0 else
 (bif A1 (A0 y 0)==8 then
 3 else
 (bif A1 (A0 y 0)==9 then
 4 else
 (bif A1 (A0 y 0)==10 then
 5 else
 (bif A1 (A0 y 0)==11 then
 4 else
 (bif A1 (A0 y 0)==12 then
 3 else
 (bif A1 (A0 y 0)==13 then
 0 else
 0))))))))))))))))
noncomputable def s5 (y:D):Int:=b2x b8d 0 (dsz y+1) y
noncomputable def c40:Ct:=⟨fun | [x, .map es]=>(D0 x∧G1 x≤100∧H9 x=0)∧j8 es|_=>False,fun | [x, .map es]=>some (.lit (.int .i64 (s5 x)))|_=>none⟩
noncomputable def U40 (κ:Nat):Tab:=T70.add 40 (c40.below μ1 κ)
noncomputable def T40:Tab:=T70.add 40 c40
noncomputable def l40:Code:=D6 (C6 (A7 Tryz.f40) 6)
noncomputable def S40 (rec:D→Int) (κ:Nat):Ev.Spec:={L:=[1,2,5,10,11,12],ns:=[([5000],[4]),([5001],[10])],L':=[1,2,5],nm':=[[5000],[5001]],G:=fun N vals bs k=>match vals,bs with
 | [.d (.map es), .ptr [5000] 0, .ref [5001], .d (.slice b 16 xs), .d (.lit (.int .i64 n)), .d (.lit (.int .i64 i))], [.cells 33 cs, .arr true false 3 1 [] []]=>(IsE cs∧N=52∧j8 es∧rec=s5∧i=0∧n=xs.length∧xs.length≤100∧∀y∈xs,(D0 y∧G1 y≤100∧H9 y=0)∧dsz y<κ)∧k (.exit 0) [.d (.map es), .ptr [5000] 0, .ref [5001]] [.cells 33 cs, .arr true false 3 1 (xs.map fun a=>n8 (rec a)) []]
 | _,_=>False }
theorem b40 (κ:Nat) (es:List (D×D)) (ts:List D) (y:D) (xs:List D) (i:Int) (n:Int) (b:Bool) (R:X→List V→List Box→Prop):(D7 (Cn (U40 κ)) (U40 κ) D4 0 C5 B1 l40 52 [1,2,5,10,11,12] [[5000], [5001]] []
 [([5000], [5000]),([5001], [23])] [1,2,5] [([5000], [5000]),([5001], [5001])]
 [V.d (D.map es),V.ptr [5000] 0,V.ref [5001],V.d (D.slice b 16 xs),A3 n,A3 i]
 [G5 y,Box.arr true false 3 1 ts []] R) =
 (bif decide (i<n) then
 ((((0:Int)≤i)∧(i.toNat<xs.length∧eV (xs.getD i.toNat D.any)=xs.getD i.toNat D.any))∧
 ((((D0 (eV (xs.getD i.toNat D.any))∧(G1 (eV (xs.getD i.toNat D.any))≤100∧((H9 (eV (xs.getD i.toNat D.any)):Int)=0)))∧j8 es)∧μ1 [eV (xs.getD i.toNat D.any),D.map es]<κ)∧
 (bif ((ts.length+1)*8).ble 70368744177664 then
 (52=52∧
 R X.normal
 [V.d (D.map es),V.ptr [5000] 0,V.ref [5001],V.d (D.slice b 16 xs),A3 n,
 A3 (IntKind.i64.wrap (i+1))]
 [Box.cells 33
 [A3 (A1 (A0 y 0)),
 A3 (A1 (A0 y 1)),
 V.d (D.slice (K3 (A0 y 2)) 3 (A2 (A0 y 2))),
 A3 (A1 (A0 y 3)),
 A3 (A1 (A0 y 4)),
 A3 (A1 (A0 y 5)),
 A3 (A1 (A0 y 6)),
 V.d (D.slice (K3 (A0 y 7)) 1 (A2 (A0 y 7))),A9 (Z8 (A0 y 8)),
 A3 (A1 (A0 y 9)),
 V.d (D.slice (K3 (A0 y 10)) 4 (A2 (A0 y 10))),
 A3 (A1 (A0 y 11)),
 V.d (D.slice (K3 (A0 y 12)) 4 (A2 (A0 y 12))),
 V.d (D.slice (K3 (A0 y 13)) 3 (A2 (A0 y 13))),C9 (A5 (A0 y 14)),
 V.d (D.slice (K3 (A0 y 15)) 16 (A2 (A0 y 15)))],
 Box.arr true false 3 1 (ts++ [iD (s5 (eV (xs.getD i.toNat D.any)))]) []]) else
 False))) else
 (52=52∧
 R (X.exit 0) [V.d (D.map es),V.ptr [5000] 0,V.ref [5001]]
 [Box.cells 33
 [A3 (A1 (A0 y 0)),
 A3 (A1 (A0 y 1)),
 V.d (D.slice (K3 (A0 y 2)) 3 (A2 (A0 y 2))),
 A3 (A1 (A0 y 3)),
 A3 (A1 (A0 y 4)),
 A3 (A1 (A0 y 5)),
 A3 (A1 (A0 y 6)),
 V.d (D.slice (K3 (A0 y 7)) 1 (A2 (A0 y 7))),A9 (Z8 (A0 y 8)),
 A3 (A1 (A0 y 9)),
 V.d (D.slice (K3 (A0 y 10)) 4 (A2 (A0 y 10))),
 A3 (A1 (A0 y 11)),
 V.d (D.slice (K3 (A0 y 12)) 4 (A2 (A0 y 12))),
 V.d (D.slice (K3 (A0 y 13)) 3 (A2 (A0 y 13))),C9 (A5 (A0 y 14)),
 V.d (D.slice (K3 (A0 y 15)) 16 (A2 (A0 y 15)))],
 Box.arr true false 3 1 ts []])):=by kernel_rfl
theorem w40 (rec:D→Int) (κ:Nat) (es:List (D×D)) (y:D) (p:V→Prop):(B7 (Cn (U40 κ)) (U40 κ) D4 0 (spL [(6,S40 rec κ)]) B1 40 [V.d (eV y),V.d (D.map W3)] B4.empty
 fun v H=>p (B5 H v)) =
 ((IsE
 [A3 (A1 (A0 y 0)),A3 (A1 (A0 y 1)),
 V.d (D.slice (K3 (A0 y 2)) 3 (A2 (A0 y 2))),A3 (A1 (A0 y 3)),
 A3 (A1 (A0 y 4)),A3 (A1 (A0 y 5)),
 A3 (A1 (A0 y 6)),V.d (D.slice (K3 (A0 y 7)) 1 (A2 (A0 y 7))),
 A9 (Z8 (A0 y 8)),A3 (A1 (A0 y 9)),
 V.d (D.slice (K3 (A0 y 10)) 4 (A2 (A0 y 10))),
 A3 (A1 (A0 y 11)),
 V.d (D.slice (K3 (A0 y 12)) 4 (A2 (A0 y 12))),
 V.d (D.slice (K3 (A0 y 13)) 3 (A2 (A0 y 13))),C9 (A5 (A0 y 14)),
 V.d (D.slice (K3 (A0 y 15)) 16 (A2 (A0 y 15)))]∧(52=52∧(j8 W3∧(rec=s5∧(((0:Int)=0)∧((((↑(A2 (A0 y 15)).length:Int):Int)=(↑(A2 (A0 y 15)).length:Int))∧((A2 (A0 y 15)).length≤100∧∀(y_1:D),y_1∈A2 (A0 y 15)→(D0 y_1∧G1 y_1≤100∧H9 y_1=0)∧dsz y_1<κ)))))))∧
 (bif A1 (A0 y 0)==6 then
 ((((0:Int)≤0)∧(0<(List.map (fun a=>n8 (rec a)) (A2 (A0 y 15))).length∧iD (A1 ((List.map (fun a=>n8 (rec a)) (A2 (A0 y 15))).getD 0 D.any)) =
 (List.map (fun a=>n8 (rec a)) (A2 (A0 y 15))).getD 0 D.any))∧
 (bif A1 ((List.map (fun a=>n8 (rec a)) (A2 (A0 y 15))).getD 0 D.any) !=2 then
 p (A3 0) else
 (bif A1 (A0 y 0)==1 then
 p (A3 1) else
 (bif A1 (A0 y 0)==2 then
 p (A3 2) else
 (bif A1 (A0 y 0)==3 then
 p (A3 2) else
 (bif A1 (A0 y 0)==4 then
 p (A3 2) else
 (bif A1 (A0 y 0)==5 then
 p (A3 2) else
 (bif A1 (A0 y 0)==6 then
 p (A3 2) else
 (bif A1 (A0 y 0)==7 then
 p (A3 0) else
 (bif A1 (A0 y 0)==8 then
 p (A3 3) else
 (bif A1 (A0 y 0)==9 then
 p (A3 4) else
 (bif A1 (A0 y 0)==10 then
 p (A3 5) else
 (bif A1 (A0 y 0)==11 then
 p (A3 4) else
 (bif A1 (A0 y 0)==12 then
 p (A3 3) else
 (bif A1 (A0 y 0)==13 then
 p (A3 0) else
 p (A3 0)))))))))))))))) else
 (bif A1 (A0 y 0)==12 then
 ((((0:Int)≤0)∧(0<(List.map (fun a=>n8 (rec a)) (A2 (A0 y 15))).length∧iD (A1 ((List.map (fun a=>n8 (rec a)) (A2 (A0 y 15))).getD 0 D.any)) =
 (List.map (fun a=>n8 (rec a)) (A2 (A0 y 15))).getD 0 D.any))∧
 (bif A1 ((List.map (fun a=>n8 (rec a)) (A2 (A0 y 15))).getD 0 D.any) !=4 then
 p (A3 0) else
 (bif A1 (A0 y 0)==1 then
 p (A3 1) else
 (bif A1 (A0 y 0)==2 then
 p (A3 2) else
 (bif A1 (A0 y 0)==3 then
 p (A3 2) else
 (bif A1 (A0 y 0)==4 then
 p (A3 2) else
 (bif A1 (A0 y 0)==5 then
 p (A3 2) else
 (bif A1 (A0 y 0)==6 then
 p (A3 2) else
 (bif A1 (A0 y 0)==7 then
 p (A3 0) else
 (bif A1 (A0 y 0)==8 then
 p (A3 3) else
 (bif A1 (A0 y 0)==9 then
 p (A3 4) else
 (bif A1 (A0 y 0)==10 then
 p (A3 5) else
 (bif A1 (A0 y 0)==11 then
 p (A3 4) else
 (bif A1 (A0 y 0)==12 then
 p (A3 3) else
 (bif A1 (A0 y 0)==13 then
 p (A3 0) else
 p (A3 0)))))))))))))))) else
 (bif A1 (A0 y 0)==7 then
 ((((0:Int)≤0)∧(0<(List.map (fun a=>n8 (rec a)) (A2 (A0 y 15))).length∧iD (A1 ((List.map (fun a=>n8 (rec a)) (A2 (A0 y 15))).getD 0 D.any)) =
 (List.map (fun a=>n8 (rec a)) (A2 (A0 y 15))).getD 0 D.any))∧
 ((((0:Int)≤1)∧(1<(List.map (fun a=>n8 (rec a)) (A2 (A0 y 15))).length∧iD (A1 ((List.map (fun a=>n8 (rec a)) (A2 (A0 y 15))).getD 1 D.any)) =
 (List.map (fun a=>n8 (rec a)) (A2 (A0 y 15))).getD 1 D.any))∧
 (D0 (eV y)∧
 p
 (A3 (f5h (eV y) (A1 ((List.map (fun a=>n8 (rec a)) (A2 (A0 y 15))).getD 0 D.any))
 (A1 ((List.map (fun a=>n8 (rec a)) (A2 (A0 y 15))).getD 1 D.any))))))) else
 (bif A1 (A0 y 0)==1 then
 p (A3 1) else
 (bif A1 (A0 y 0)==2 then
 p (A3 2) else
 (bif A1 (A0 y 0)==3 then
 p (A3 2) else
 (bif A1 (A0 y 0)==4 then
 p (A3 2) else
 (bif A1 (A0 y 0)==5 then
 p (A3 2) else
 (bif A1 (A0 y 0)==6 then
 p (A3 2) else
 (bif A1 (A0 y 0)==7 then
 p (A3 0) else
 (bif A1 (A0 y 0)==8 then
 p (A3 3) else
 (bif A1 (A0 y 0)==9 then
 p (A3 4) else
 (bif A1 (A0 y 0)==10 then
 p (A3 5) else
 (bif A1 (A0 y 0)==11 then
 p (A3 4) else
 (bif A1 (A0 y 0)==12 then
 p (A3 3) else
 (bif A1 (A0 y 0)==13 then
 p (A3 0) else
 p (A3 0)))))))))))))))))):=by kernel_rfl
theorem w15 (y:D) (p:V→Prop):(B7 (Cn T40) T40 D4 0 C5 B1 15 [V.d (eV y)] B4.empty fun v H=>p (B5 H v)) =
 (D0 (eV y)∧
 (bif E2 (eV y) !=0 then
 p (V.d (D.tup [iD 0,iD (E2 (eV y))])) else
 (True∧
 (((D0 (eV y)∧(G1 (eV y)≤100∧((H9 (eV y):Int)=0)))∧j8 W3)∧
 (bif s5 (eV y)==0 then
 p (V.d (D.tup [iD 0,iD 15])) else
 p (V.d (D.tup [iD (s5 (eV y)),iD 0]))))))):=by kernel_rfl
theorem i2m {x y a b:D} (h:y=x): [x,a,b].map V.d= [V.d y,V.d a,V.d b]:=by rw[h];rfl
theorem c6m (r r':D→Int) (y:D) (h:∀a∈E3 y 15,r a=r' a):a8g r y=a8g r' y:=by
 unfold a8g
 rw[b4h h]
theorem b5f (y:D):H9 y=a8g H9 y:=X7 c6m y
theorem h8a {κ:Nat} (hk:C2 B (U44 κ)):OkS (Cn (U44 κ)) 0 (.loop l44) (S44 H9 κ):=by
 refine D2 fun N vals bs K h=>?_
 simp only[S44] at h
 split at h
 case h_2=>exact h.elim
 rename_i es b xs n i
 obtain ⟨⟨rfl,hes,_,rfl,rfl,h16,hall⟩,h⟩:=h
 refine F5 (D1 C4 hk B9) C1 A8 (hn:=B1) (adsI:=[]) (nsI:=[]) (nsX:=[]) rfl rfl xs.length
  (fun i=>[.d (.map es), .d (.slice b 16 xs),A3 xs.length,A3 i]) (fun _=>[]) (C7 H9 xs) (fun e=>(.ret, [A3 e], [])) (by simp) (.exit 0) [.any] [] (by simp) ?_ ?_ h
 ·intro i R hi hR
  refine keep (b44 κ es xs i xs.length b R) ?_
  have e1:decide ((i:Int)<xs.length)=true:=by simp;omega
  have e2:IntKind.i64.wrap ((i:Int)+1)=((i+1:Nat):Int):=by rw[Go.IntWalk.i64_in _ (by omega)];omega
  obtain ⟨hv,hlt⟩:=hall _ (E1 hi)
  rw[e1]
  simp only[Int.toNat_natCast,e2,cond_true,hv.1.v]
  refine ⟨⟨by omega,hi,trivial⟩,⟨⟨hv,hes⟩,hlt⟩,A4 (fun h1=>⟨trivial, ?_⟩) (fun h1=>⟨trivial, ?_⟩)⟩<;>(simp only[C7,h1,cond_true,cond_false,P7] at hR;exact hR)
 ·intro R hR
  refine keep (b44 κ es xs xs.length xs.length b R) ?_
  have e1:decide ((xs.length:Int)<xs.length)=false:=by simp
  rw[e1]
  exact ⟨rfl,hR⟩
theorem k44:C2 B T44:=by
 refine P9 C4 k72 μ1 (fn:=Tryz.f44) (cd:=A7 Tryz.f44) (sp:=fun n=>spL [(10,S44 H9 n)]) (hn:=B1) Tryz.func44 (by kernel_rfl) (by kernel_rfl) (fun n hk=>B8 (c:=.loop l44) (by kernel_rfl) (h8a hk) C8) fun κ ds r hp hm hr=>?_
 unfold c44 at hp hr
 simp only[] at hr hp
 split at hr
 ·rename_i x es
  cases hr
  obtain ⟨⟨hf,ht⟩,hes⟩:=hp
  rw[d7h hf.v]
  refine keep (w44 H9 κ es x fun v=>v=_) ?_
  rw[b5f]
  unfold a8g
  rw[hf.v]
  have ha:∀y∈A2 (A0 x 15),(D0 y∧G1 y≤100)∧dsz y<κ:=fun y hy=>⟨⟨hf.a y hy,by
   have:=p6 x
   have:=a2j (f:=G1) (xs:=E3 x 15) hy
   omega⟩,hm▸G3 hy⟩
  have hl:(A2 (A0 x 15)).length≤100:=by
   have:=p6 x
   have:=a4o (xs:=E3 x 15)
   unfold E3 at *
   omega
  generalize C0 (C7 H9 (A2 (A0 x 15))) (A2 (A0 x 15)).length=o2
  cases o2<;>(repeat' (first|with_reducible rfl | (refine A4 (fun hcw=>?_) (fun hcw=>?_)<;>simp only[hcw,cond_true,cond_false])|refine S4 ?_ ?_))
  all_goals first|trivial|assumption
 ·cases hr
theorem k17:C2 B T17:=by
 refine C3 C4 k44 (fn:=Tryz.f17) (cd:=A7 Tryz.f17) (sp:=C5) (hn:=B1) Tryz.func17 (by kernel_rfl) (by kernel_rfl) A8 fun ds r hp hr=>?_
 unfold c17 at hp hr
 simp only[] at hr hp
 split at hr
 ·rename_i x
  cases hr
  rw[W1 (D0.v hp)]
  refine keep (w17 x fun v=>v=_) ?_
  unfold E2
  rw[D0.v hp]
  (repeat' (first|with_reducible rfl | (refine A4 (fun hcw=>?_) (fun hcw=>?_)<;>simp only[hcw,cond_true,cond_false])|refine S4 ?_ ?_))
  all_goals first|exact hp|trivial|exact Eq.refl W3 | (simp[cap] at *;omega)
 ·cases hr
theorem k70:C2 B T70:=by
 refine C3 C4 k17 (fn:=Tryz.f70) (cd:=A7 Tryz.f70) (sp:=C5) (hn:=B1) Tryz.func70 (by kernel_rfl) (by kernel_rfl) A8 fun ds r hp hr=>?_
 unfold c70 at hp hr
 simp only[] at hr hp
 split at hr
 ·rename_i x a b
  cases hr
  rw[i2m (D0.v hp)]
  refine keep (w70 x a b fun v=>v=_) ?_
  unfold f5h
  (repeat' (first|with_reducible rfl | (refine A4 (fun hcw=>?_) (fun hcw=>?_)<;>simp only[hcw,cond_true,cond_false])|refine S4 ?_ ?_))
 ·cases hr
theorem J2 {c:Bool} {k r:Int} (hk:k≠0) (h:(bif c then k else r)=0):c=false∧r=0:=by
 cases c with
 | true=>exact absurd h hk
 | false=>exact ⟨rfl,h⟩
theorem a8i {a b:Bool} (h:(bif a then true else b)=false):a=false∧b=false:=by
 cases a with
 | true=>cases h
 | false=>exact ⟨rfl,h⟩
def b6o (k:Int):Int:=bif k==6 then 1 else bif k==7 then 2 else bif k==12 then 1 else 0
theorem b2y {x:D} (h:a3r x=0):((E3 x 15).length:Int)=b6o (A1 (A0 x 0))∧1≤A1 (A0 x 0)∧A1 (A0 x 0)≤13:=by
 unfold a3r c3n at h
 obtain ⟨h1,h⟩:=J2 (by decide) h
 obtain ⟨h2,h⟩:=J2 (by decide) h
 obtain ⟨h3,h⟩:=J2 (by decide) h
 obtain ⟨a,b⟩:=a8i h1
 have a:=of_decide_eq_false a
 have b:=of_decide_eq_false b
 unfold c8e at h3
 have h3:=(a8i h3).2
 have h3:((E3 x 15).length:Int)=hA (A1 (A0 x 0)):=by
  have h3:=h3
  simp at h3
  exact h3
 refine ⟨?_,by omega,by omega⟩
 rw[h3]
 generalize A1 (A0 x 0)=k
 unfold hA b6o
 by_cases h7:k=7
 ·subst h7;rfl
 ·have e:(k==7)=false:=by simpa using h7
  rw[e]
  cases (k==6)<;>cases (k==12)<;>rfl
theorem c8s (r r':D→Int) (y:D) (h:∀a∈E3 y 15,r a=r' a):b8d r y=b8d r' y:=by
 unfold b8d
 have e:List.map (fun a=>n8 (r a)) (A2 (A0 y 15))=List.map (fun a=>n8 (r' a)) (A2 (A0 y 15)):=List.map_congr_left fun a ha=>by rw[h a ha]
 rw[e]
theorem c8t (y:D):s5 y=b8d s5 y:=X7 c8s y
theorem a4h {f:D→Int} {xs:List D} (h:C0 (C7 f xs) xs.length=none):∀a∈xs,f a=0:=by
 have key:∀n i,i+n=xs.length→rounds (fun i _=>Q1 (C7 f xs i)) n i ()= .inl ()→∀j,i≤j→j<xs.length→f (xs.getD j .any)=0:=by
  intro n
  induction n with
  | zero=>intro i hi _ j h1 h2;omega
  | succ n ih =>
   intro i hi hr j h1 h2
   unfold rounds at hr
   cases hf:C7 f xs i with
   | some e=>simp only[hf,Q1] at hr;cases hr
   | none =>
    simp only[hf,Q1] at hr
    by_cases hj:j=i
    ·subst hj
     unfold C7 at hf
     cases hb:(f (xs.getD j .any) !=0) with
     | true=>rw[hb] at hf;cases hf
     | false=>simpa using hb
    ·exact ih (i+1) (by omega) hr j (by omega) h2
 intro a ha
 obtain ⟨j,hj,rfl⟩:=List.getElem_of_mem ha
 unfold C0 at h
 cases hr:rounds (fun i _=>Q1 (C7 f xs i)) xs.length 0 () with
 | inr b=>rw[hr] at h;cases h
 | inl u =>
  have:=key _ 0 (by omega) hr j (by omega) hj
  rw[List.getD_eq_getElem?_getD,List.getElem?_eq_getElem hj] at this
  exact this
theorem a6m {f:D→Int} {xs:List D} {e:Int} (h:C0 (C7 f xs) xs.length=some e):e≠0:=by
 have key:∀n i,rounds (fun i _=>Q1 (C7 f xs i)) n i ()= .inr e→e≠0:=by
  intro n
  induction n with
  | zero=>intro i h;cases h
  | succ n ih =>
   intro i hr
   unfold rounds at hr
   cases hf:C7 f xs i with
   | none=>simp only[hf,Q1] at hr;exact ih _ hr
   | some x =>
    simp only[hf,Q1] at hr
    cases hr
    unfold C7 at hf
    cases hb:(f (xs.getD i .any) !=0) with
    | true=>rw[hb] at hf;cases hf;simpa using hb
    | false=>rw[hb] at hf;cases hf
 unfold C0 at h
 cases hr:rounds (fun i _=>Q1 (C7 f xs i)) xs.length 0 () with
 | inl b=>rw[hr] at h;cases h
 | inr b=>rw[hr] at h;cases h;exact key _ _ hr
theorem a2g {x:D} (hv:eV x=x) (h:H9 x=0):a3r x=0∧∀a∈E3 x 15,H9 a=0:=by
 rw[b5f] at h
 unfold a8g at h
 rw[hv] at h
 cases he:(a3r x !=0) with
 | true=>rw[he] at h;simp at he;exact absurd h he
 | false =>
  rw[he] at h
  simp only[cond_false] at h
  refine ⟨by simpa using he, ?_⟩
  cases hs:C0 (C7 H9 (A2 (A0 x 15))) (A2 (A0 x 15)).length with
  | none=>exact a4h hs
  | some e=>rw[hs] at h;exact absurd h (a6m hs)
theorem c3k {y:D} (h:E2 y=0) (hv:eV y=y):G1 y≤100∧Q6 y≤12∧H9 y=0:=by
 unfold E2 at h
 rw[hv] at h
 obtain ⟨h1,h⟩:=J2 (by decide) h
 obtain ⟨h2,h⟩:=J2 (by decide) h
 simp[cap] at h1 h2
 exact ⟨by omega,by omega,h⟩
theorem h8c {κ:Nat} (hk:C2 B (U40 κ)):OkS (Cn (U40 κ)) 0 (.loop l40) (S40 s5 κ):=by
 refine D2 fun N vals bs K h=>?_
 simp only[S40] at h
 split at h
 case h_2=>exact h.elim
 rename_i es b xs n i cs
 obtain ⟨⟨⟨y,rfl⟩,rfl,hes,_,rfl,rfl,h16,hall⟩,h⟩:=h
 have main:∀k i ts,i+k=xs.length→ts=(xs.take i).map (fun a=>n8 (s5 a))→J5 (Cn (U40 κ)) 0 l40 52 [1,2,5,10,11,12] [[5000],[5001]] [1,2,5] [[5000],[5001]] [.d (.map es), .ptr [5000] 0, .ref [5001], .d (.slice b 16 xs),A3 xs.length,A3 i] [G5 y, .arr true false 3 1 ts []] K:=by
  intro k
  induction k with
  | zero =>
   intro i ts hi hts
   have:i=xs.length:=by omega
   subst this
   rw[List.take_length] at hts
   subst hts
   refine B6 (D1 C4 hk B9) C1 A8 (hn:=B1) (adsI:=[]) (nsI:=[([5000],[5000]),([5001],[23])]) (nsX:=[([5000],[5000]),([5001],[5001])]) rfl rfl (keep (b40 κ es _ y xs xs.length xs.length b _) ?_)
   have e1:decide ((xs.length:Int)<xs.length)=false:=by simp
   rw[e1]
   exact ⟨rfl,h⟩
  | succ k ih =>
   intro i ts hi hts
   refine B6 (D1 C4 hk B9) C1 A8 (hn:=B1) (adsI:=[]) (nsI:=[([5000],[5000]),([5001],[23])]) (nsX:=[([5000],[5000]),([5001],[5001])]) rfl rfl (keep (b40 κ es ts y xs i xs.length b _) ?_)
   have e1:decide ((i:Int)<xs.length)=true:=by simp;omega
   have e2:IntKind.i64.wrap ((i:Int)+1)=((i+1:Nat):Int):=by rw[Go.IntWalk.i64_in _ (by omega)];omega
   obtain ⟨hv,hlt⟩:=hall _ (E1 (xs:=xs) (i:=i) (by omega))
   have hl:ts.length=i:=by rw[hts,List.length_map,List.length_take];omega
   have e3:((ts.length+1)*8).ble 70368744177664=true:=by rw[hl,Nat.ble_eq];omega
   rw[e1,e3]
   simp only[Int.toNat_natCast,e2,cond_true,hv.1.v]
   refine ⟨⟨by omega,by omega,trivial⟩,⟨⟨hv,hes⟩,hlt⟩,trivial,ih (i+1) _ (by omega) ?_⟩
   rw[hts,List.take_add_one,List.map_append,List.getElem?_eq_getElem (by omega:i<xs.length),List.getD_eq_getElem?_getD,List.getElem?_eq_getElem (by omega:i<xs.length)]
   rfl
 exact main xs.length 0 [] (by omega) (by simp)
theorem c7b {f:D→Int} {xs:List D} {i:Nat} (h:i<xs.length):D.lit (Value.int IntKind.i64 (A1 ((xs.map fun a=>n8 (f a)).getD i .any)))=(xs.map fun a=>n8 (f a)).getD i .any:=by
 rw[List.getD_eq_getElem?_getD,List.getElem?_map,List.getElem?_eq_getElem h];rfl
theorem k40:C2 B T40:=by
 refine P9 C4 k70 μ1 (fn:=Tryz.f40) (cd:=A7 Tryz.f40) (sp:=fun n=>spL [(6,S40 s5 n)]) (hn:=B1) Tryz.func40 (by kernel_rfl) (by kernel_rfl) (fun n hk=>B8 (c:=.loop l40) (by kernel_rfl) (h8c hk) C8) fun κ ds r hp hm hr=>?_
 unfold c40 at hp hr
 simp only[] at hr hp
 split at hr
 ·rename_i x es
  cases hr
  obtain ⟨⟨hf,ht,hpa⟩,hes⟩:=hp
  rw[show es=W3 from hes,d7h hf.v]
  refine keep (w40 s5 κ es x fun v=>v=_) ?_
  rw[c8t]
  unfold b8d
  rw[hf.v]
  obtain ⟨hx,hap⟩:=a2g hf.v hpa
  have hlen:=(b2y hx).1
  have ha:∀y∈A2 (A0 x 15),(D0 y∧G1 y≤100∧H9 y=0)∧dsz y<κ:=fun y hy=>⟨⟨hf.a y hy,by
   have:=p6 x
   have:=a2j (f:=G1) (xs:=E3 x 15) hy
   omega,hap y hy⟩,hm▸G3 hy⟩
  have hl:(A2 (A0 x 15)).length≤100:=by
   have:=p6 x
   have:=a4o (xs:=E3 x 15)
   unfold E3 at *
   omega
  have h6:(A1 (A0 x 0)==6)=true→(A2 (A0 x 15)).length=1:=fun h=>by
   have h:A1 (A0 x 0)=6:=by simpa using h
   rw[h] at hlen;unfold E3 at hlen;simp[b6o] at hlen;omega
  have h12:(A1 (A0 x 0)==12)=true→(A2 (A0 x 15)).length=1:=fun h=>by
   have h:A1 (A0 x 0)=12:=by simpa using h
   rw[h] at hlen;unfold E3 at hlen;simp[b6o] at hlen;omega
  have h7:(A1 (A0 x 0)==7)=true→(A2 (A0 x 15)).length=2:=fun h=>by
   have h:A1 (A0 x 0)=7:=by simpa using h
   rw[h] at hlen;unfold E3 at hlen;simp[b6o] at hlen;omega
  have hE:IsE (N5 x):=⟨x,rfl⟩
  have hK:j8 W3:=rfl
  (repeat' (first|with_reducible rfl | (refine A4 (fun hcw=>?_) (fun hcw=>?_)<;>simp only[hcw,cond_true,cond_false])|refine S4 ?_ ?_))
  all_goals first
   | trivial
   | assumption
   | exact hE
   | (rw[List.length_map,h6 (by assumption)];decide)
   | (rw[List.length_map,h12 (by assumption)];decide)
   | (rw[List.length_map,h7 (by assumption)];decide)
   | exact c7b (by rw[h6 (by assumption)];decide)
   | exact c7b (by rw[h12 (by assumption)];decide)
   | exact c7b (by rw[h7 (by assumption)];decide)
 ·cases hr
noncomputable def c15:Ct:=⟨fun | [x]=>D0 x|_=>False,fun | [x]=>some (.tup [n8 (bif E2 x !=0 then 0 else s5 x),n8 (bif E2 x !=0 then E2 x else bif s5 x==0 then 15 else 0)])|_=>none⟩
noncomputable def T15:Tab:=T40.add 15 c15
theorem k15:C2 B T15:=by
 refine C3 C4 k40 (fn:=Tryz.f15) (cd:=A7 Tryz.f15) (sp:=C5) (hn:=B1) Tryz.func15 (by kernel_rfl) (by kernel_rfl) A8 fun ds r hp hr=>?_
 unfold c15 at hp hr
 simp only[] at hr hp
 split at hr
 ·rename_i x
  cases hr
  rw[W1 (D0.v hp)]
  refine keep (w15 x fun v=>v=_) ?_
  rw[D0.v hp]
  refine ⟨hp,A4 (fun h=>?_) (fun h=>?_)⟩
  ·simp only[h,cond_true]
  ·simp only[h,cond_false]
   have h0:E2 x=0:=by simpa using h
   obtain ⟨a1,a2,a3⟩:=c3k h0 (D0.v hp)
   refine ⟨trivial,⟨⟨hp,a1,a3⟩,Eq.refl W3⟩,A4 (fun h=>?_) (fun h=>?_)⟩
   ·have:s5 x=0:=by simpa using h
    simp only[this];rfl
   ·simp only[h,cond_false]
 ·cases hr
end Go.Ev.R2
end
