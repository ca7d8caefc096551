/- What the proofs of the lexer's laws share, part 11 of 15. -/
import Derived.Test.YtnnhlphbfpnaaaaGreatDoorI10
set_option linter.unusedVariables false
set_option linter.unusedSimpArgs false
section
namespace Go.Ev.R2
open Go Go.Ev Go.Proofs
set_option maxRecDepth 100000
theorem i5v (y:D) (p:V→Prop):(B6 (Cn g3j) g3j D5 0 B8 B1 108 [V.d (eV y)] B3.empty fun v H=>p (B4 H v)) =
 (bif P5 (A0 y 8) then
 (bif ((1+((A2 (A0 y 7)).length+0))*16).ble 70368744177664 then
 ((1=1∧(f7 ([zD (bA [119,105,116,104,111,117,116])]++A2 (A0 y 7))∧((R9
 ([zD (bA [119,105,116,104,111,117,116])] ++
 A2 (A0 y 7))).size≤
 9223372036854775806∧([zD (bA [119,105,116,104,111,117,116])]++A2 (A0 y 7)).length≤
 1152921504606846976)))∧
 p
 (C6 (G2
 ([zD (bA [119,105,116,104,111,117,116])] ++
 A2 (A0 y 7))))) else
 False) else
 (bif ((1+((A2 (A0 y 7)).length+0))*16).ble 70368744177664 then
 ((1=1∧(f7 ([zD (bA [98,121])]++A2 (A0 y 7))∧((R9 ([zD (bA [98,121])]++A2 (A0 y 7))).size≤9223372036854775806∧([zD (bA [98,121])]++A2 (A0 y 7)).length≤1152921504606846976)))∧
 p (C6 (G2 ([zD (bA [98,121])]++A2 (A0 y 7))))) else
 False)):=by kernel_rfl
def c9n (y:D):ByteArray:=bif P5 (A0 y 8) then G2 ([sB [119,105,116,104,111,117,116]]++A2 (A0 y 7)) else G2 ([sB [98,121]]++A2 (A0 y 7))
noncomputable def h8n:Ct:=⟨fun | [x]=>D1 x∧d7n (A2 (A0 x 7))|_=>False,fun | [x]=>some (.lit (.string (c9n x)))|_=>none⟩
noncomputable def h2o:Tab:=g3j.add 108 h8n
def h62:Nat→Option j5:=fun id =>
 let c (n:Nat):Option j5:=some {cut:=[([1,3,4], [([5000],[5000]),([5001],[5001]),([5002],[n])])] }
 match id with
 | 5=>c 30 | 7=>c 38 | 9=>c 50 | 11=>c 60 | 13=>c 68 | 15=>c 77 | 17=>c 85 | 19=>c 96 | 21=>c 103 | 23=>c 112|_=>none
abbrev hBx (h0 h1 h2 h3 h4 h5 h6 h7 h8:Bool) (n:Int):Box:=.cells 126 [A6 h0,A6 h1,A6 h2,A6 h3,A6 h4,A6 h5,A6 h6,A6 h7,A6 h8,A3 n]
abbrev Y3:List (B2×B2):=[([5000],[5000]),([5001],[5001]),([5002],[5002])]
def yOf (cs:List V):D:=.agg (cs.map fun v=>match v with | .d d=>d|_=>.any)
def IsH (hs:List V):Prop:=∃h0 h1 h2 h3 h4 h5 h6 h7 h8 n,hs= [A6 h0,A6 h1,A6 h2,A6 h3,A6 h4,A6 h5,A6 h6,A6 h7,A6 h8,A3 n]
abbrev kd (y:D):Int:=A1 (A0 y 0)
abbrev fc (y:D):Int:=A1 (A0 y 1)
def G4 (i:Nat) (y:D):Bool:=match i with
 | 11=>decide (((Y4 (kd y)).length:Int)>0) | 15=>hN (kd y) (fc y) | 19=>ab (hT (kd y) (fc y)) (kd y !=5) | 23=>kd y==7 | 27=>hP (kd y)
 | 31=>hM (kd y) | 35=>hS (kd y) | 39=>hW (kd y) | 43=>hNm (kd y)|_=>kd y==5
noncomputable def S7 (i:Nat) (y:D):List D:=match i with
 | 11=>[wdD (Y4 (kd y)) (fc y)] | 15=>[.lit (.string (b8y (A1 (A0 y 5)) (A1 (A0 y 6))))] | 19=>[sDD y 14] | 23=>[wdD a6t (A1 (A0 y 9))] | 27=>[pD (paV y)]
 | 31=>[.lit (.string (G2 ((A2 (A0 y 2)).map M7)))] | 35=>[.lit (.string (G2 ((A2 (A0 y 10)).map a5k)))] | 39=>[.lit (.string (Q3 (A1 (A0 y 3)))), .lit (.string (Q3 (A1 (A0 y 4))))] | 43=>[.lit (.string (c9n y))]|_=>[qDD y 14]
noncomputable def C7 (i:Nat) (y:D):List D:=bif G4 i y then S7 i y else []
def a4o (i:Nat) (y:D):Prop:=match i with
 | 11=>1≤fc y∧(fc y).toNat<(Y4 (kd y)).length | 23=>0≤A1 (A0 y 9)∧(A1 (A0 y 9)).toNat<a6t.length | 27=>PTx (paV y)
 | 31=>b2m (A2 (A0 y 2)) | 35=>b9d (A2 (A0 y 10)) | 39=>(0≤A1 (A0 y 3)∧A1 (A0 y 3)≤1152921504606846976)∧(0≤A1 (A0 y 4)∧A1 (A0 y 4)≤1152921504606846976)
 | 43=>D1 y∧d7n (A2 (A0 y 7)) | 15=>X0 (A1 (A0 y 5)) (A1 (A0 y 6))=0 | 19=>True|_=>(A4 (A0 y 14)).size≤4096
def S62 (i:Nat) (L:List Nat) (ns:List (B2×B2)) (fs:Bool):Ev.Spec:={L:=L,ns:=ns,L':=[1,3,4],nm':=[[5000],[5001],[5002]],G:=fun N vals bs k=>match vals,bs with
 | .ptr [5000] 0:: .ptr [5001] 0:: .ref [5002]::more, [.cells 33 cs, .cells 126 hs, .arr true false 9 1 ts []]=>(N=129∧ts.length≤20∧IsE cs∧IsH hs∧more=(bif fs then [.d (.slice false 1 (Y4 (kd (yOf cs))))] else [])++ [A6 (G4 i (yOf cs))]∧(G4 i (yOf cs)=true→a4o i (yOf cs)))∧k .normal [.ptr [5000] 0, .ptr [5001] 0, .ref [5002]] [.cells 33 cs, .cells 126 hs, .arr true false 9 1 (ts++C7 i (yOf cs)) []]
 | _,_=>False }
def h2u:Nat→D→Prop
 | 0,_=>True
 | n+1,y=>(D1 y∧(1≤kd y∧(kd y).toNat<U5.length)∧H4 y≤100∧(A4 (A0 y 14)).size≤4096∧∀i,G4 i y=true→a4o i y)∧∀a∈E6 y 15,h2u n a
abbrev hCl (y:D):List V:=[A6 (hM (kd y)),A6 (hS (kd y)),A6 (hP (kd y)),A6 (hW (kd y)),A6 (hN (kd y) (fc y)),A6 (hNm (kd y)),A6 (hWo (kd y)),A6 (kd y==7),A6 (hT (kd y) (fc y)),A3 (hA (kd y))]
structure ETx (y:D):Prop where
 h:∀n,h2u n y
noncomputable def a4t (y:D):List D:=[wdD U5 (kd y)]++C7 11 y++C7 15 y++C7 19 y++C7 23 y++C7 27 y++C7 31 y++C7 35 y++C7 39 y++C7 43 y++C7 47 y
noncomputable def f5j (rec:D→ByteArray) (y:D):ByteArray:=G2 (a4t y++(E6 y 15).map fun a=>.lit (.string (rec a)))
noncomputable def a7p (y:D):ByteArray:=b4k f5j (ByteArray.mk (Array.mk [])) (dsz y+1) y
noncomputable def eD (y:D):D:=.lit (.string (a7p y))
def f5c (κ:Nat) (xs:List D):Prop:=xs.length≤4096∧∀y∈xs,ETx y∧dsz y<κ
noncomputable def c62:Ct:=⟨fun | [x]=>ETx x|_=>False,fun | [x]=>some (eD x)|_=>none⟩
noncomputable def U62 (κ:Nat):Tab:=h2o.add 62 (c62.below μ1 κ)
noncomputable def T62:Tab:=h2o.add 62 c62
noncomputable def l62:Code:=D7 (C5 (A7 Tryz.f62) 50)
abbrev g7k:List (B2×B2):=[([5000],[3]),([5001],[5]),([5002],[16])]
theorem p11 (κ:Nat) (y:D) (h0:Bool) (h1:Bool) (h2:Bool) (h3:Bool) (h4:Bool) (h5:Bool) (h6:Bool) (h7:Bool) (h8:Bool) (n:Int) (ts:List D) (fs:List D) (c:Bool) (R:X→List V→List Box→Prop):(u4 (Cn (U62 κ)) (U62 κ) D5 0 B8 h62 false (C5 (A7 Tryz.f62) 11) 129 [1,3,4,5,20]
 [[5000], [5001], [5002]] [] [1,3,4] Y3
 [V.ptr [5000] 0,V.ptr [5001] 0,V.ref [5002],V.d (D.slice false 1 fs),A6 c]
 [L0 y,hBx h0 h1 h2 h3 h4 h5 h6 h7 h8 n,Box.arr true false 9 1 ts []] R) =
 (bif c then
 ((((0:Int)≤A1 (A0 y 1))∧((A1 (A0 y 1)).toNat<fs.length∧zD (A4 (fs.getD (A1 (A0 y 1)).toNat D.any))=fs.getD (A1 (A0 y 1)).toNat D.any))∧
 (bif ((ts.length+1)*16).ble 70368744177664 then
 (129=129∧
 R X.normal [V.ptr [5000] 0,V.ptr [5001] 0,V.ref [5002]]
 [L0 y,
 hBx h0 h1 h2 h3 h4 h5 h6 h7 h8 n,
 Box.arr true false 9 1 (ts++ [zD (A4 (fs.getD (A1 (A0 y 1)).toNat D.any))]) []]) else
 False)) else
 (129=129∧
 R X.normal [V.ptr [5000] 0,V.ptr [5001] 0,V.ref [5002]]
 [L0 y,
 hBx h0 h1 h2 h3 h4 h5 h6 h7 h8 n,
 Box.arr true false 9 1 ts []])):=by kernel_rfl
theorem p15 (κ:Nat) (y:D) (h0:Bool) (h1:Bool) (h2:Bool) (h3:Bool) (h4:Bool) (h5:Bool) (h6:Bool) (h7:Bool) (h8:Bool) (n:Int) (ts:List D) (c:Bool) (R:X→List V→List Box→Prop):(u4 (Cn (U62 κ)) (U62 κ) D5 0 B8 h62 false (C5 (A7 Tryz.f62) 15) 129 [1,3,4,30]
 [[5000], [5001], [5002]] [] [1,3,4] Y3 [V.ptr [5000] 0,V.ptr [5001] 0,V.ref [5002],A6 c]
 [L0 y,hBx h0 h1 h2 h3 h4 h5 h6 h7 h8 n,Box.arr true false 9 1 ts []] R) =
 (bif c then
 (True∧
 (bif ((ts.length+1)*16).ble 70368744177664 then
 (129=129∧
 R X.normal [V.ptr [5000] 0,V.ptr [5001] 0,V.ref [5002]]
 [L0 y,
 hBx h0 h1 h2 h3 h4 h5 h6 h7 h8 n,
 Box.arr true false 9 1 (ts++ [zD (b8y (A1 (A0 y 5)) (A1 (A0 y 6)))]) []]) else
 False)) else
 (129=129∧
 R X.normal [V.ptr [5000] 0,V.ptr [5001] 0,V.ref [5002]]
 [L0 y,
 hBx h0 h1 h2 h3 h4 h5 h6 h7 h8 n,
 Box.arr true false 9 1 ts []])):=by kernel_rfl
theorem p19 (κ:Nat) (y:D) (h0:Bool) (h1:Bool) (h2:Bool) (h3:Bool) (h4:Bool) (h5:Bool) (h6:Bool) (h7:Bool) (h8:Bool) (n:Int) (ts:List D) (c:Bool) (R:X→List V→List Box→Prop):(u4 (Cn (U62 κ)) (U62 κ) D5 0 B8 h62 false (C5 (A7 Tryz.f62) 19) 129 [1,3,4,43]
 [[5000], [5001], [5002]] [] [1,3,4] Y3 [V.ptr [5000] 0,V.ptr [5001] 0,V.ref [5002],A6 c]
 [L0 y,hBx h0 h1 h2 h3 h4 h5 h6 h7 h8 n,Box.arr true false 9 1 ts []] R) =
 (bif c then
 (bif ((ts.length+1)*16).ble 70368744177664 then
 (129=129∧
 R X.normal [V.ptr [5000] 0,V.ptr [5001] 0,V.ref [5002]]
 [L0 y,
 hBx h0 h1 h2 h3 h4 h5 h6 h7 h8 n,
 Box.arr true false 9 1 (ts++ [zD (A4 (A0 y 14))]) []]) else
 False) else
 (129=129∧
 R X.normal [V.ptr [5000] 0,V.ptr [5001] 0,V.ref [5002]]
 [L0 y,
 hBx h0 h1 h2 h3 h4 h5 h6 h7 h8 n,
 Box.arr true false 9 1 ts []])):=by kernel_rfl
theorem p23 (κ:Nat) (y:D) (h0:Bool) (h1:Bool) (h2:Bool) (h3:Bool) (h4:Bool) (h5:Bool) (h6:Bool) (h7:Bool) (h8:Bool) (n:Int) (ts:List D) (c:Bool) (R:X→List V→List Box→Prop):(u4 (Cn (U62 κ)) (U62 κ) D5 0 B8 h62 false (C5 (A7 Tryz.f62) 23) 129 [1,3,4,50]
 [[5000], [5001], [5002]] [] [1,3,4] Y3 [V.ptr [5000] 0,V.ptr [5001] 0,V.ref [5002],A6 c]
 [L0 y,hBx h0 h1 h2 h3 h4 h5 h6 h7 h8 n,Box.arr true false 9 1 ts []] R) =
 (bif c then
 (True∧
 ((((0:Int)≤A1 (A0 y 9))∧((A1 (A0 y 9)).toNat<3∧zD (A4 (a6t.getD (A1 (A0 y 9)).toNat D.any)) =
 a6t.getD (A1 (A0 y 9)).toNat D.any))∧
 (bif ((ts.length+1)*16).ble 70368744177664 then
 (129=129∧
 R X.normal [V.ptr [5000] 0,V.ptr [5001] 0,V.ref [5002]]
 [L0 y,
 hBx h0 h1 h2 h3 h4 h5 h6 h7 h8 n,
 Box.arr true false 9 1 (ts++ [zD (A4 (a6t.getD (A1 (A0 y 9)).toNat D.any))]) []]) else
 False))) else
 (129=129∧
 R X.normal [V.ptr [5000] 0,V.ptr [5001] 0,V.ref [5002]]
 [L0 y,
 hBx h0 h1 h2 h3 h4 h5 h6 h7 h8 n,
 Box.arr true false 9 1 ts []])):=by kernel_rfl
theorem p27 (κ:Nat) (y:D) (h0:Bool) (h1:Bool) (h2:Bool) (h3:Bool) (h4:Bool) (h5:Bool) (h6:Bool) (h7:Bool) (h8:Bool) (n:Int) (ts:List D) (c:Bool) (R:X→List V→List Box→Prop):(u4 (Cn (U62 κ)) (U62 κ) D5 0 B8 h62 false (C5 (A7 Tryz.f62) 27) 129 [1,3,4,60]
 [[5000], [5001], [5002]] [] [1,3,4] Y3 [V.ptr [5000] 0,V.ptr [5001] 0,V.ref [5002],A6 c]
 [L0 y,hBx h0 h1 h2 h3 h4 h5 h6 h7 h8 n,Box.arr true false 9 1 ts []] R) =
 (bif c then
 (PTx (paV y)∧
 (bif ((ts.length+1)*16).ble 70368744177664 then
 (129=129∧
 R X.normal [V.ptr [5000] 0,V.ptr [5001] 0,V.ref [5002]]
 [L0 y,
 hBx h0 h1 h2 h3 h4 h5 h6 h7 h8 n,
 Box.arr true false 9 1 (ts++ [zD (b4d (paV y))]) []]) else
 False)) else
 (129=129∧
 R X.normal [V.ptr [5000] 0,V.ptr [5001] 0,V.ref [5002]]
 [L0 y,
 hBx h0 h1 h2 h3 h4 h5 h6 h7 h8 n,
 Box.arr true false 9 1 ts []])):=by kernel_rfl
theorem p31 (κ:Nat) (y:D) (h0:Bool) (h1:Bool) (h2:Bool) (h3:Bool) (h4:Bool) (h5:Bool) (h6:Bool) (h7:Bool) (h8:Bool) (n:Int) (ts:List D) (c:Bool) (R:X→List V→List Box→Prop):(u4 (Cn (U62 κ)) (U62 κ) D5 0 B8 h62 false (C5 (A7 Tryz.f62) 31) 129 [1,3,4,68]
 [[5000], [5001], [5002]] [] [1,3,4] Y3 [V.ptr [5000] 0,V.ptr [5001] 0,V.ref [5002],A6 c]
 [L0 y,hBx h0 h1 h2 h3 h4 h5 h6 h7 h8 n,Box.arr true false 9 1 ts []] R) =
 (bif c then
 ((3=3∧b2m (A2 (A0 y 2)))∧
 ((1=1∧(f7 (List.map M7 (A2 (A0 y 2)))∧((R9 (List.map M7 (A2 (A0 y 2)))).size≤9223372036854775806∧(List.map M7 (A2 (A0 y 2))).length≤1152921504606846976)))∧
 (bif ((ts.length+1)*16).ble 70368744177664 then
 (129=129∧
 R X.normal [V.ptr [5000] 0,V.ptr [5001] 0,V.ref [5002]]
 [L0 y,
 hBx h0 h1 h2 h3 h4 h5 h6 h7 h8 n,
 Box.arr true false 9 1 (ts++ [zD (G2 (List.map M7 (A2 (A0 y 2))))]) []]) else
 False))) else
 (129=129∧
 R X.normal [V.ptr [5000] 0,V.ptr [5001] 0,V.ref [5002]]
 [L0 y,
 hBx h0 h1 h2 h3 h4 h5 h6 h7 h8 n,
 Box.arr true false 9 1 ts []])):=by kernel_rfl
theorem p35 (κ:Nat) (y:D) (h0:Bool) (h1:Bool) (h2:Bool) (h3:Bool) (h4:Bool) (h5:Bool) (h6:Bool) (h7:Bool) (h8:Bool) (n:Int) (ts:List D) (c:Bool) (R:X→List V→List Box→Prop):(u4 (Cn (U62 κ)) (U62 κ) D5 0 B8 h62 false (C5 (A7 Tryz.f62) 35) 129 [1,3,4,77]
 [[5000], [5001], [5002]] [] [1,3,4] Y3 [V.ptr [5000] 0,V.ptr [5001] 0,V.ref [5002],A6 c]
 [L0 y,hBx h0 h1 h2 h3 h4 h5 h6 h7 h8 n,Box.arr true false 9 1 ts []] R) =
 (bif c then
 ((4=4∧b9d (A2 (A0 y 10)))∧
 (bif ((ts.length+1)*16).ble 70368744177664 then
 (129=129∧
 R X.normal [V.ptr [5000] 0,V.ptr [5001] 0,V.ref [5002]]
 [L0 y,
 hBx h0 h1 h2 h3 h4 h5 h6 h7 h8 n,
 Box.arr true false 9 1 (ts++ [zD (G2 (List.map a5k (A2 (A0 y 10))))]) []]) else
 False)) else
 (129=129∧
 R X.normal [V.ptr [5000] 0,V.ptr [5001] 0,V.ref [5002]]
 [L0 y,
 hBx h0 h1 h2 h3 h4 h5 h6 h7 h8 n,
 Box.arr true false 9 1 ts []])):=by kernel_rfl
theorem p39 (κ:Nat) (y:D) (h0:Bool) (h1:Bool) (h2:Bool) (h3:Bool) (h4:Bool) (h5:Bool) (h6:Bool) (h7:Bool) (h8:Bool) (n:Int) (ts:List D) (c:Bool) (R:X→List V→List Box→Prop):(u4 (Cn (U62 κ)) (U62 κ) D5 0 B8 h62 false (C5 (A7 Tryz.f62) 39) 129 [1,3,4,85]
 [[5000], [5001], [5002]] [] [1,3,4] Y3 [V.ptr [5000] 0,V.ptr [5001] 0,V.ref [5002],A6 c]
 [L0 y,hBx h0 h1 h2 h3 h4 h5 h6 h7 h8 n,Box.arr true false 9 1 ts []] R) =
 (bif c then
 ((((0:Int)≤A1 (A0 y 3))∧((A1 (A0 y 3):Int)≤1152921504606846976))∧
 ((((0:Int)≤A1 (A0 y 4))∧((A1 (A0 y 4):Int)≤1152921504606846976))∧
 (bif ((ts.length+2)*16).ble 70368744177664 then
 (129=129∧
 R X.normal [V.ptr [5000] 0,V.ptr [5001] 0,V.ref [5002]]
 [L0 y,
 hBx h0 h1 h2 h3 h4 h5 h6 h7 h8 n,
 Box.arr true false 9 1
 (ts++ [zD (Q3 (A1 (A0 y 3))),zD (Q3 (A1 (A0 y 4)))]) []]) else
 False))) else
 (129=129∧
 R X.normal [V.ptr [5000] 0,V.ptr [5001] 0,V.ref [5002]]
 [L0 y,
 hBx h0 h1 h2 h3 h4 h5 h6 h7 h8 n,
 Box.arr true false 9 1 ts []])):=by kernel_rfl
theorem p43 (κ:Nat) (y:D) (h0:Bool) (h1:Bool) (h2:Bool) (h3:Bool) (h4:Bool) (h5:Bool) (h6:Bool) (h7:Bool) (h8:Bool) (n:Int) (ts:List D) (c:Bool) (R:X→List V→List Box→Prop):(u4 (Cn (U62 κ)) (U62 κ) D5 0 B8 h62 false (C5 (A7 Tryz.f62) 43) 129 [1,3,4,96]
 [[5000], [5001], [5002]] [] [1,3,4] Y3 [V.ptr [5000] 0,V.ptr [5001] 0,V.ref [5002],A6 c]
 [L0 y,hBx h0 h1 h2 h3 h4 h5 h6 h7 h8 n,Box.arr true false 9 1 ts []] R) =
 (bif c then
 ((D1 (eV y)∧d7n (A2 (D.slice (E5 (A0 y 7)) 1 (A2 (A0 y 7)))))∧
 (bif ((ts.length+1)*16).ble 70368744177664 then
 (129=129∧
 R X.normal [V.ptr [5000] 0,V.ptr [5001] 0,V.ref [5002]]
 [L0 y,
 hBx h0 h1 h2 h3 h4 h5 h6 h7 h8 n,
 Box.arr true false 9 1 (ts++ [zD (c9n (eV y))]) []]) else
 False)) else
 (129=129∧
 R X.normal [V.ptr [5000] 0,V.ptr [5001] 0,V.ref [5002]]
 [L0 y,
 hBx h0 h1 h2 h3 h4 h5 h6 h7 h8 n,
 Box.arr true false 9 1 ts []])):=by kernel_rfl
theorem p47 (κ:Nat) (y:D) (h0:Bool) (h1:Bool) (h2:Bool) (h3:Bool) (h4:Bool) (h5:Bool) (h6:Bool) (h7:Bool) (h8:Bool) (n:Int) (ts:List D) (c:Bool) (R:X→List V→List Box→Prop):(u4 (Cn (U62 κ)) (U62 κ) D5 0 B8 h62 false (C5 (A7 Tryz.f62) 47) 129 [1,3,4,104]
 [[5000], [5001], [5002]] [] [1,3,4] Y3 [V.ptr [5000] 0,V.ptr [5001] 0,V.ref [5002],A6 c]
 [L0 y,hBx h0 h1 h2 h3 h4 h5 h6 h7 h8 n,Box.arr true false 9 1 ts []] R) =
 (bif c then
 ((A4 (A0 y 14)).size.le 17592186044400∧
 (bif ((ts.length+1)*16).ble 70368744177664 then
 (129=129∧
 R X.normal [V.ptr [5000] 0,V.ptr [5001] 0,V.ref [5002]]
 [L0 y,
 hBx h0 h1 h2 h3 h4 h5 h6 h7 h8 n,
 Box.arr true false 9 1 (ts++ [zD (K4 (A4 (A0 y 14)))]) []]) else
 False)) else
 (129=129∧
 R X.normal [V.ptr [5000] 0,V.ptr [5001] 0,V.ref [5002]]
 [L0 y,
 hBx h0 h1 h2 h3 h4 h5 h6 h7 h8 n,
 Box.arr true false 9 1 ts []])):=by kernel_rfl
theorem b62 (κ:Nat) (y:D) (ts:List D) (i:Int) (R:X→List V→List Box→Prop):(E1 (Cn (U62 κ)) (U62 κ) D5 0 B8 B1 l62 129 [1,4,6] [[5000], [5001]] [] [([5000], [5000]),([5001], [128])]
 [4] [([5001], [5001])] [V.ptr [5000] 0,V.ref [5001],A3 i] [L0 y,Box.arr true false 9 1 ts []] R) =
 (bif decide (i<(↑(A2 (A0 y 15)).length:Int)) then
 ((((0:Int)≤i)∧(i.toNat<(A2 (A0 y 15)).length∧eV ((A2 (A0 y 15)).getD i.toNat D.any)=(A2 (A0 y 15)).getD i.toNat D.any))∧
 ((ETx (eV ((A2 (A0 y 15)).getD i.toNat D.any))∧μ1 [eV ((A2 (A0 y 15)).getD i.toNat D.any)]<κ)∧
 (bif ((ts.length+1)*16).ble 70368744177664 then
 (129=129∧
 R X.normal [V.ptr [5000] 0,V.ref [5001],A3 (IntKind.i64.wrap (i+1))]
 [L0 y,
 Box.arr true false 9 1 (ts++ [zD (a7p (eV ((A2 (A0 y 15)).getD i.toNat D.any)))]) []]) else
 False))) else
 (129=129∧
 R (X.exit 0) [V.ref [5001]] [Box.arr true false 9 1 ts []])):=by kernel_rfl
noncomputable def L62 (κ:Nat):Ev.Spec:={L:=[1,4,6],ns:=[([5000],[5000]),([5001],[5002])],L':=[4],nm':=[[5001]],G:=fun N vals bs k=>match vals,bs with
 | [.ptr [5000] 0, .ref [5001], .d (.lit (.int .i64 i))], [.cells 33 cs, .arr true false 9 1 ts []]=>(N=129∧i=0∧ts.length≤20∧IsE cs∧f5c κ (A2 (A0 (yOf cs) 15)))∧k (.exit 0) [.ref [5001]] [.arr true false 9 1 (ts++(A2 (A0 (yOf cs) 15)).map eD) []]
 | _,_=>False }
theorem w62 (κ:Nat) (y:D) (p:V→Prop):(B6 (Cn (U62 κ)) (U62 κ) D5 0
 (spL
 [(11,S62 11 [1,3,4,5,20] g7k true),(15,S62 15 [1,3,4,30] Y3 false),
 (19,S62 19 [1,3,4,43] Y3 false),(23,S62 23 [1,3,4,50] Y3 false),
 (27,S62 27 [1,3,4,60] Y3 false),(31,S62 31 [1,3,4,68] Y3 false),
 (35,S62 35 [1,3,4,77] Y3 false),(39,S62 39 [1,3,4,85] Y3 false),
 (43,S62 43 [1,3,4,96] Y3 false),(47,S62 47 [1,3,4,104] Y3 false),(50,L62 κ)])
 B1 62 [V.d (eV y)] B3.empty fun v H=>p (B4 H v)) =
 (D1 (eV y)∧
 (True∧
 ((((0:Int)≤A1 (A0 y 0))∧((A1 (A0 y 0)).toNat<14∧zD (A4 (U5.getD (A1 (A0 y 0)).toNat D.any))=U5.getD (A1 (A0 y 0)).toNat D.any))∧
 (True∧
 ((129=129∧(1≤20∧(IsE
 (J8 y)∧(IsH
 (hCl y)∧([V.d (D.slice false 1 (Y4 (A1 (A0 y 0)))),
 A6 (decide ((↑(Y4 (A1 (A0 y 0))).length:Int)>0))] =
 [V.d (D.slice false 1 (Y4 (kd (eV y)))),A6 (G4 11 (eV y))]∧(G4 11 (eV y)=true→a4o 11 (eV y)))))))∧
 ((129=129∧(([zD (A4 (U5.getD (A1 (A0 y 0)).toNat D.any))]++C7 11 (eV y)).length≤20∧(IsE
 (J8 y)∧(IsH
 (hCl y)∧([A6 (hN (A1 (iD (A1 (A0 y 0))))
 (A1 (iD (A1 (A0 y 1)))))] =
 [A6 (G4 15 (eV y))]∧(G4 15 (eV y)=true→a4o 15 (eV y)))))))∧
 ((129=129∧(([zD (A4 (U5.getD (A1 (A0 y 0)).toNat D.any))]++C7 11 (eV y) ++
 C7 15 (eV y)).length≤
 20∧(IsE
 (J8 y)∧(IsH
 (hCl y)∧([A6 (bif
 hT (A1 (iD (A1 (A0 y 0))))
 (A1 (iD (A1 (A0 y 1)))) then
 A1 (A0 y 0) !=5
 else false)] =
 [A6 (G4 19 (eV y))]∧(G4 19 (eV y)=true→a4o 19 (eV y)))))))∧
 ((129=129∧(([zD (A4 (U5.getD (A1 (A0 y 0)).toNat D.any))]++C7 11 (eV y)++C7 15 (eV y) ++
 C7 19 (eV y)).length≤
 20∧(IsE
 (J8 y)∧(IsH
 (hCl y)∧([A6 (A1 (iD (A1 (A0 y 0)))==7)] =
 [A6 (G4 23 (eV y))]∧(G4 23 (eV y)=true→a4o 23 (eV y)))))))∧
 ((129=129∧(([zD (A4 (U5.getD (A1 (A0 y 0)).toNat D.any))]++C7 11 (eV y)++C7 15 (eV y) ++
 C7 19 (eV y) ++
 C7 23 (eV y)).length≤
 20∧(IsE
 (J8 y)∧(IsH
 (hCl y)∧([A6 (hP (A1 (iD (A1 (A0 y 0)))))] =
 [A6 (G4 27 (eV y))]∧(G4 27 (eV y)=true→a4o 27 (eV y)))))))∧
 ((129=129∧(([zD (A4 (U5.getD (A1 (A0 y 0)).toNat D.any))]++C7 11 (eV y)++C7 15 (eV y) ++
 C7 19 (eV y) ++
 C7 23 (eV y) ++
 C7 27 (eV y)).length≤
 20∧(IsE
 (J8 y)∧(IsH
 (hCl y)∧([A6 (hM (A1 (iD (A1 (A0 y 0)))))] =
 [A6 (G4 31 (eV y))]∧(G4 31 (eV y)=true→a4o 31 (eV y)))))))∧
 ((129=129∧(([zD (A4 (U5.getD (A1 (A0 y 0)).toNat D.any))]++C7 11 (eV y)++C7 15 (eV y) ++
 C7 19 (eV y) ++
 C7 23 (eV y) ++
 C7 27 (eV y) ++
 C7 31 (eV y)).length≤
 20∧(IsE
 (J8 y)∧(IsH
 (hCl y)∧([A6 (hS (A1 (iD (A1 (A0 y 0)))))] =
 [A6 (G4 35 (eV y))]∧(G4 35 (eV y)=true→a4o 35 (eV y)))))))∧
 ((129=129∧(([zD (A4 (U5.getD (A1 (A0 y 0)).toNat D.any))]++C7 11 (eV y)++C7 15 (eV y) ++
 C7 19 (eV y) ++
 C7 23 (eV y) ++
 C7 27 (eV y) ++
 C7 31 (eV y) ++
 C7 35 (eV y)).length≤
 20∧(IsE
 (J8 y)∧(IsH
 (hCl y)∧([A6 (hW (A1 (iD (A1 (A0 y 0)))))] =
 [A6 (G4 39 (eV y))]∧(G4 39 (eV y)=true→a4o 39 (eV y)))))))∧
 ((129=129∧(([zD (A4 (U5.getD (A1 (A0 y 0)).toNat D.any))]++C7 11 (eV y)++C7 15 (eV y) ++
 C7 19 (eV y) ++
 C7 23 (eV y) ++
 C7 27 (eV y) ++
 C7 31 (eV y) ++
 C7 35 (eV y) ++
 C7 39 (eV y)).length≤
 20∧(IsE
 (J8 y)∧(IsH
 (hCl y)∧([A6 (hNm (A1 (iD (A1 (A0 y 0)))))] =
 [A6 (G4 43 (eV y))]∧(G4 43 (eV y)=true→a4o 43 (eV y)))))))∧
 ((129=129∧(([zD (A4 (U5.getD (A1 (A0 y 0)).toNat D.any))]++C7 11 (eV y)++C7 15 (eV y) ++
 C7 19 (eV y) ++
 C7 23 (eV y) ++
 C7 27 (eV y) ++
 C7 31 (eV y) ++
 C7 35 (eV y) ++
 C7 39 (eV y) ++
 C7 43 (eV y)).length≤
 20∧(IsE
 (J8 y)∧(IsH
 (hCl y)∧([A6 (A1 (A0 y 0)==5)]= [A6 (G4 47 (eV y))]∧(G4 47 (eV y)=true→a4o 47 (eV y)))))))∧
 ((129=129∧(((0:Int)=0)∧(([zD (A4 (U5.getD (A1 (A0 y 0)).toNat D.any))]++C7 11 (eV y)++C7 15 (eV y) ++
 C7 19 (eV y) ++
 C7 23 (eV y) ++
 C7 27 (eV y) ++
 C7 31 (eV y) ++
 C7 35 (eV y) ++
 C7 39 (eV y) ++
 C7 43 (eV y) ++
 C7 47 (eV y)).length≤
 20∧(IsE
 (J8 y)∧f5c κ (A2 (D.slice (E5 (A0 y 15)) 16 (A2 (A0 y 15))))))))∧
 ((1=1∧(f7
 ([zD (A4 (U5.getD (A1 (A0 y 0)).toNat D.any))]++C7 11 (eV y)++C7 15 (eV y) ++
 C7 19 (eV y) ++
 C7 23 (eV y) ++
 C7 27 (eV y) ++
 C7 31 (eV y) ++
 C7 35 (eV y) ++
 C7 39 (eV y) ++
 C7 43 (eV y) ++
 C7 47 (eV y) ++
 List.map eD (A2 (D.slice (E5 (A0 y 15)) 16 (A2 (A0 y 15)))))∧((R9
 ([zD (A4 (U5.getD (A1 (A0 y 0)).toNat D.any))]++C7 11 (eV y) ++
 C7 15 (eV y) ++
 C7 19 (eV y) ++
 C7 23 (eV y) ++
 C7 27 (eV y) ++
 C7 31 (eV y) ++
 C7 35 (eV y) ++
 C7 39 (eV y) ++
 C7 43 (eV y) ++
 C7 47 (eV y) ++
 List.map eD (A2 (D.slice (E5 (A0 y 15)) 16 (A2 (A0 y 15)))))).size≤
 9223372036854775806∧([zD (A4 (U5.getD (A1 (A0 y 0)).toNat D.any))]++C7 11 (eV y)++C7 15 (eV y) ++
 C7 19 (eV y) ++
 C7 23 (eV y) ++
 C7 27 (eV y) ++
 C7 31 (eV y) ++
 C7 35 (eV y) ++
 C7 39 (eV y) ++
 C7 43 (eV y) ++
 C7 47 (eV y) ++
 List.map eD (A2 (D.slice (E5 (A0 y 15)) 16 (A2 (A0 y 15))))).length≤
 1152921504606846976)))∧
 p
 (C6 (G2
 ([zD (A4 (U5.getD (A1 (A0 y 0)).toNat D.any))]++C7 11 (eV y) ++
 C7 15 (eV y) ++
 C7 19 (eV y) ++
 C7 23 (eV y) ++
 C7 27 (eV y) ++
 C7 31 (eV y) ++
 C7 35 (eV y) ++
 C7 39 (eV y) ++
 C7 43 (eV y) ++
 C7 47 (eV y) ++
 List.map eD (A2 (D.slice (E5 (A0 y 15)) 16 (A2 (A0 y 15))))))))))))))))))))))):=by kernel_rfl
theorem i9i:C3 B h2o:=by
 refine C4 B9 i9m (fn:=Tryz.f108) (cd:=A7 Tryz.f108) (sp:=B8) (hn:=B1) Tryz.func108 (by kernel_rfl) (by kernel_rfl) A8 fun ds r hp hr=>?_
 unfold h8n at hp hr
 simp only[] at hr hp
 split at hr
 ·rename_i y
  cases hr
  obtain ⟨hf,hn,hall⟩:=hp
  rw[X9 hf.v]
  refine keep (i5v y fun v=>v=_) ?_
  have hl:∀b:List UInt8,b.length≤7→Lim 4096 ([sB b]++A2 (A0 y 7)):=fun b hb=>Lim.app (.cons (Nat.le_trans hb (by decide)) .nil) hall
  have hr1:((1+((A2 (A0 y 7)).length+0))*16).ble 70368744177664=true:=by rw[Nat.ble_eq];omega
  have hc:∀b:List UInt8,([sB b]++A2 (A0 y 7)).length≤129:=fun b=>by simp only[List.length_append,List.length_cons,List.length_nil];omega
  have key:∀b:List UInt8,b.length≤7→f7 ([sB b]++A2 (A0 y 7))∧(R9 ([sB b]++A2 (A0 y 7))).size≤9223372036854775806∧([sB b]++A2 (A0 y 7)).length≤1152921504606846976:=fun b hb =>
   ⟨(hl b hb).str,Nat.le_trans (Nat.le_of_lt (n4 (n:=129) (b:=528515) (hl b hb) (hc b) (by decide)).1) (by decide),Nat.le_trans (hc b) (by decide)⟩
  rw[hr1]
  unfold c9n
  cases P5 (A0 y 8)
  ·exact ⟨⟨(by trivial),key [98,121] (by decide)⟩,rfl⟩
  ·exact ⟨⟨(by trivial),key [119,105,116,104,111,117,116] (by decide)⟩,rfl⟩
 ·cases hr
abbrev g7m (i:Nat) (fs:Bool) (y:D):List V:=(bif fs then [.d (.slice false 1 (Y4 (kd y)))] else [])++ [A6 (G4 i y)]
theorem okP {κ:Nat} (hk:C3 B (U62 κ)) {i:Nat} {L:List Nat} {ns:List (B2×B2)} {fs:Bool} {c:Code}
  (hp:∀(y:D) (h0 h1 h2 h3 h4 h5 h6 h7 h8:Bool) (n:Int) (ts:List D) (R:X→List V→List Box→Prop),(G4 i y=true→a4o i y)→ts.length≤20→R .normal [.ptr [5000] 0, .ptr [5001] 0, .ref [5002]] [L0 y,hBx h0 h1 h2 h3 h4 h5 h6 h7 h8 n, .arr true false 9 1 (ts++C7 i y) []]→a6d (u4 (Cn (U62 κ)) (U62 κ) D5 0 B8 h62 false c 129 L (S9 ns) [] [1,3,4] Y3 (.ptr [5000] 0:: .ptr [5001] 0:: .ref [5002]::g7m i fs y) [L0 y,hBx h0 h1 h2 h3 h4 h5 h6 h7 h8 n, .arr true false 9 1 ts []] R)):OkS (Cn (U62 κ)) 0 c (S62 i L ns fs):=by
 refine c6r (D3 B9 hk C2) C0 (sp:=B8) (hn:=h62) (il:=false) A8 (adsI:=[]) (nsX:=Y3) rfl fun N vals bs K h=>?_
 simp only[S62] at h
 split at h
 case h_2=>exact h.elim
 obtain ⟨⟨rfl,ht,⟨y,rfl⟩,⟨h0,h1,h2,h3,h4,h5,h6,h7,h8,n,rfl⟩,rfl,hpre⟩,h⟩:=h
 exact hp (eV y) h0 h1 h2 h3 h4 h5 h6 h7 h8 n _ K hpre ht h
theorem a6p {ts:List D} {k:Nat} (h:ts.length≤20) (hk:k≤20):((ts.length+k)*16).ble 70368744177664=true:=by rw[Nat.ble_eq];omega
theorem f6x {κ:Nat} (hk:C3 B (U62 κ)):OkS (Cn (U62 κ)) 0 (C5 (A7 Tryz.f62) 15) (S62 15 [1,3,4,30] Y3 false):=okP hk fun y h0 h1 h2 h3 h4 h5 h6 h7 h8 n ts R hpre ht hR=>by
 refine keep (p15 κ y h0 h1 h2 h3 h4 h5 h6 h7 h8 n ts (G4 15 y) R) ?_
 rw[a6p ht (k:=1) (by decide)]
 unfold C7 at hR
 cases hc:G4 15 y with
 | false=>rw[hc] at hR;rw[show (bif false then S7 15 y else [])= [] from rfl,List.append_nil] at hR;exact ⟨(by trivial),hR⟩
 | true =>
  rw[hc] at hR
  have hrr:129=129∧R .normal [.ptr [5000] 0, .ptr [5001] 0, .ref [5002]] [L0 y,hBx h0 h1 h2 h3 h4 h5 h6 h7 h8 n, .arr true false 9 1 (ts++S7 15 y) []]:=⟨rfl,hR⟩
  exact ⟨(by trivial),hrr⟩
theorem f6w {κ:Nat} (hk:C3 B (U62 κ)):OkS (Cn (U62 κ)) 0 (C5 (A7 Tryz.f62) 19) (S62 19 [1,3,4,43] Y3 false):=okP hk fun y h0 h1 h2 h3 h4 h5 h6 h7 h8 n ts R hpre ht hR=>by
 refine keep (p19 κ y h0 h1 h2 h3 h4 h5 h6 h7 h8 n ts (G4 19 y) R) ?_
 rw[a6p ht (k:=1) (by decide)]
 unfold C7 at hR
 cases hc:G4 19 y with
 | false=>rw[hc] at hR;rw[show (bif false then S7 19 y else [])= [] from rfl,List.append_nil] at hR;exact ⟨(by trivial),hR⟩
 | true =>
  rw[hc] at hR
  have hrr:129=129∧R .normal [.ptr [5000] 0, .ptr [5001] 0, .ref [5002]] [L0 y,hBx h0 h1 h2 h3 h4 h5 h6 h7 h8 n, .arr true false 9 1 (ts++S7 19 y) []]:=⟨rfl,hR⟩
  exact hrr
theorem f6v {κ:Nat} (hk:C3 B (U62 κ)):OkS (Cn (U62 κ)) 0 (C5 (A7 Tryz.f62) 23) (S62 23 [1,3,4,50] Y3 false):=okP hk fun y h0 h1 h2 h3 h4 h5 h6 h7 h8 n ts R hpre ht hR=>by
 refine keep (p23 κ y h0 h1 h2 h3 h4 h5 h6 h7 h8 n ts (G4 23 y) R) ?_
 rw[a6p ht (k:=1) (by decide)]
 unfold C7 at hR
 cases hc:G4 23 y with
 | false=>rw[hc] at hR;rw[show (bif false then S7 23 y else [])= [] from rfl,List.append_nil] at hR;exact ⟨(by trivial),hR⟩
 | true =>
  rw[hc] at hR
  have hrr:129=129∧R .normal [.ptr [5000] 0, .ptr [5001] 0, .ref [5002]] [L0 y,hBx h0 h1 h2 h3 h4 h5 h6 h7 h8 n, .arr true false 9 1 (ts++S7 23 y) []]:=⟨rfl,hR⟩
  exact ⟨(by trivial),⟨(hpre hc).1,(hpre hc).2,(a4m b4e (hpre hc).2).1⟩,hrr⟩
theorem f6u {κ:Nat} (hk:C3 B (U62 κ)):OkS (Cn (U62 κ)) 0 (C5 (A7 Tryz.f62) 27) (S62 27 [1,3,4,60] Y3 false):=okP hk fun y h0 h1 h2 h3 h4 h5 h6 h7 h8 n ts R hpre ht hR=>by
 refine keep (p27 κ y h0 h1 h2 h3 h4 h5 h6 h7 h8 n ts (G4 27 y) R) ?_
 rw[a6p ht (k:=1) (by decide)]
 unfold C7 at hR
 cases hc:G4 27 y with
 | false=>rw[hc] at hR;rw[show (bif false then S7 27 y else [])= [] from rfl,List.append_nil] at hR;exact ⟨(by trivial),hR⟩
 | true =>
  rw[hc] at hR
  have hrr:129=129∧R .normal [.ptr [5000] 0, .ptr [5001] 0, .ref [5002]] [L0 y,hBx h0 h1 h2 h3 h4 h5 h6 h7 h8 n, .arr true false 9 1 (ts++S7 27 y) []]:=⟨rfl,hR⟩
  exact ⟨hpre hc,hrr⟩
theorem f6s {κ:Nat} (hk:C3 B (U62 κ)):OkS (Cn (U62 κ)) 0 (C5 (A7 Tryz.f62) 35) (S62 35 [1,3,4,77] Y3 false):=okP hk fun y h0 h1 h2 h3 h4 h5 h6 h7 h8 n ts R hpre ht hR=>by
 refine keep (p35 κ y h0 h1 h2 h3 h4 h5 h6 h7 h8 n ts (G4 35 y) R) ?_
 rw[a6p ht (k:=1) (by decide)]
 unfold C7 at hR
 cases hc:G4 35 y with
 | false=>rw[hc] at hR;rw[show (bif false then S7 35 y else [])= [] from rfl,List.append_nil] at hR;exact ⟨(by trivial),hR⟩
 | true =>
  rw[hc] at hR
  have hrr:129=129∧R .normal [.ptr [5000] 0, .ptr [5001] 0, .ref [5002]] [L0 y,hBx h0 h1 h2 h3 h4 h5 h6 h7 h8 n, .arr true false 9 1 (ts++S7 35 y) []]:=⟨rfl,hR⟩
  exact ⟨⟨(by trivial),hpre hc⟩,hrr⟩
theorem f6r {κ:Nat} (hk:C3 B (U62 κ)):OkS (Cn (U62 κ)) 0 (C5 (A7 Tryz.f62) 39) (S62 39 [1,3,4,85] Y3 false):=okP hk fun y h0 h1 h2 h3 h4 h5 h6 h7 h8 n ts R hpre ht hR=>by
 refine keep (p39 κ y h0 h1 h2 h3 h4 h5 h6 h7 h8 n ts (G4 39 y) R) ?_
 rw[a6p ht (k:=2) (by decide)]
 unfold C7 at hR
 cases hc:G4 39 y with
 | false=>rw[hc] at hR;rw[show (bif false then S7 39 y else [])= [] from rfl,List.append_nil] at hR;exact ⟨(by trivial),hR⟩
 | true =>
  rw[hc] at hR
  have hrr:129=129∧R .normal [.ptr [5000] 0, .ptr [5001] 0, .ref [5002]] [L0 y,hBx h0 h1 h2 h3 h4 h5 h6 h7 h8 n, .arr true false 9 1 (ts++S7 39 y) []]:=⟨rfl,hR⟩
  exact ⟨(hpre hc).1,(hpre hc).2,hrr⟩
theorem f6q {κ:Nat} (hk:C3 B (U62 κ)):OkS (Cn (U62 κ)) 0 (C5 (A7 Tryz.f62) 43) (S62 43 [1,3,4,96] Y3 false):=okP hk fun y h0 h1 h2 h3 h4 h5 h6 h7 h8 n ts R hpre ht hR=>by
 refine keep (p43 κ y h0 h1 h2 h3 h4 h5 h6 h7 h8 n ts (G4 43 y) R) ?_
 rw[a6p ht (k:=1) (by decide)]
 unfold C7 at hR
 cases hc:G4 43 y with
 | false=>rw[hc] at hR;rw[show (bif false then S7 43 y else [])= [] from rfl,List.append_nil] at hR;exact ⟨(by trivial),hR⟩
 | true =>
  rw[hc] at hR
  have hrr:129=129∧R .normal [.ptr [5000] 0, .ptr [5001] 0, .ref [5002]] [L0 y,hBx h0 h1 h2 h3 h4 h5 h6 h7 h8 n, .arr true false 9 1 (ts++S7 43 y) []]:=⟨rfl,hR⟩
  exact ⟨⟨by have:=(hpre hc).1.v;rw[this];exact (hpre hc).1,(hpre hc).2⟩,hrr⟩
theorem f6p {κ:Nat} (hk:C3 B (U62 κ)):OkS (Cn (U62 κ)) 0 (C5 (A7 Tryz.f62) 47) (S62 47 [1,3,4,104] Y3 false):=okP hk fun y h0 h1 h2 h3 h4 h5 h6 h7 h8 n ts R hpre ht hR=>by
 refine keep (p47 κ y h0 h1 h2 h3 h4 h5 h6 h7 h8 n ts (G4 47 y) R) ?_
 rw[a6p ht (k:=1) (by decide)]
 unfold C7 at hR
 cases hc:G4 47 y with
 | false=>rw[hc] at hR;rw[show (bif false then S7 47 y else [])= [] from rfl,List.append_nil] at hR;exact ⟨(by trivial),hR⟩
 | true =>
  rw[hc] at hR
  have hrr:129=129∧R .normal [.ptr [5000] 0, .ptr [5001] 0, .ref [5002]] [L0 y,hBx h0 h1 h2 h3 h4 h5 h6 h7 h8 n, .arr true false 9 1 (ts++S7 47 y) []]:=⟨rfl,hR⟩
  exact ⟨Nat.le_trans (hpre hc) (by decide),hrr⟩
theorem c9s (k:Int):Lim 16 (Y4 k):=by
 unfold Y4
 cases k==2<;>simp only[cond_true,cond_false]
 ·cases k==3<;>simp only[cond_true,cond_false]
  ·cases k==6<;>simp only[cond_true,cond_false]
   ·cases k==7<;>simp only[cond_true,cond_false]
    ·exact .nil
    ·repeat first|exact .nil|refine .cons (by decide) ?_
   ·repeat first|exact .nil|refine .cons (by decide) ?_
  ·repeat first|exact .nil|refine .cons (by decide) ?_
 ·repeat first|exact .nil|refine .cons (by decide) ?_
theorem f6y {κ:Nat} (hk:C3 B (U62 κ)):OkS (Cn (U62 κ)) 0 (C5 (A7 Tryz.f62) 11) (S62 11 [1,3,4,5,20] g7k true):=okP hk fun y h0 h1 h2 h3 h4 h5 h6 h7 h8 n ts R hpre ht hR=>by
 refine keep (p11 κ y h0 h1 h2 h3 h4 h5 h6 h7 h8 n ts (Y4 (kd y)) (G4 11 y) R) ?_
 rw[a6p ht (k:=1) (by decide)]
 unfold C7 at hR
 cases hc:G4 11 y with
 | false=>rw[hc] at hR;rw[show (bif false then S7 11 y else [])= [] from rfl,List.append_nil] at hR;exact ⟨(by trivial),hR⟩
 | true =>
  rw[hc] at hR
  exact ⟨⟨Int.le_trans (by decide) (hpre hc).1,(hpre hc).2,(a4m (c9s _) (hpre hc).2).1⟩,rfl,hR⟩
theorem f6t {κ:Nat} (hk:C3 B (U62 κ)):OkS (Cn (U62 κ)) 0 (C5 (A7 Tryz.f62) 31) (S62 31 [1,3,4,68] Y3 false):=okP hk fun y h0 h1 h2 h3 h4 h5 h6 h7 h8 n ts R hpre ht hR=>by
 refine keep (p31 κ y h0 h1 h2 h3 h4 h5 h6 h7 h8 n ts (G4 31 y) R) ?_
 rw[a6p ht (k:=1) (by decide)]
 unfold C7 at hR
 cases hc:G4 31 y with
 | false=>rw[hc] at hR;rw[show (bif false then S7 31 y else [])= [] from rfl,List.append_nil] at hR;exact ⟨(by trivial),hR⟩
 | true =>
  rw[hc] at hR
  have hm:b2m (A2 (A0 y 2)):=hpre hc
  have hl:Lim 32768 ((A2 (A0 y 2)).map M7):=Lim.map fun a ha=>c8y (hm.2 a ha)
  have h9:=n4 (n:=128) (b:=4194434) hl (by rw[List.length_map];exact hm.1) (by decide)
  exact ⟨⟨(by trivial),hm⟩,⟨(by trivial),hl.str,Nat.le_trans (Nat.le_of_lt h9.1) (by decide),by rw[List.length_map];exact Nat.le_trans hm.1 (by decide)⟩,rfl,hR⟩
theorem h4t {κ:Nat} (hk:C3 B (U62 κ)):OkS (Cn (U62 κ)) 0 (.loop l62) (L62 κ):=by
 refine D0 fun N vals bs K h=>?_
 simp only[L62] at h
 split at h
 case h_2=>exact h.elim
 rename_i i cs t0
 obtain ⟨⟨rfl,rfl,ht0,⟨y,rfl⟩,hn,hall⟩,h⟩:=h
 have hn:(A2 (A0 y 15)).length≤4096:=hn
 have hall:∀a∈A2 (A0 y 15),ETx a∧dsz a<κ:=hall
 have h:K (.exit 0) [.ref [5001]] [.arr true false 9 1 (t0++(A2 (A0 y 15)).map eD) []]:=h
 have main:∀k i ts,i+k=(A2 (A0 y 15)).length→ts=t0++((A2 (A0 y 15)).take i).map eD→J2 (Cn (U62 κ)) 0 l62 129 [1,4,6] [[5000],[5001]] [4] [[5001]] [.ptr [5000] 0, .ref [5001],A3 i] [L0 y, .arr true false 9 1 ts []] K:=by
  intro k
  induction k with
  | zero =>
   intro i ts hi hts
   rw[List.take_of_length_le (by omega)] at hts
   subst hts
   refine B5 (D3 B9 hk C2) C0 A8 (hn:=B1) (adsI:=[]) (nsI:=[([5000],[5000]),([5001],[128])]) (nsX:=[([5001],[5001])]) rfl rfl (keep (b62 κ y _ i _) ?_)
   rw[show decide ((i:Int)<((A2 (A0 y 15)).length:Int))=false by simp;omega]
   exact ⟨(by trivial),h⟩
  | succ k ih =>
   intro i ts hi hts
   refine B5 (D3 B9 hk C2) C0 A8 (hn:=B1) (adsI:=[]) (nsI:=[([5000],[5000]),([5001],[128])]) (nsX:=[([5001],[5001])]) rfl rfl (keep (b62 κ y ts i _) ?_)
   have e2:IntKind.i64.wrap ((i:Int)+1)=((i+1:Nat):Int):=by rw[Go.IntWalk.i64_in _ (by omega)];omega
   have hlt:i<(A2 (A0 y 15)).length:=by omega
   obtain ⟨hm,hs⟩:=hall _ (D8 (xs:=A2 (A0 y 15)) (i:=i) hlt)
   have hv:eV ((A2 (A0 y 15)).getD i .any)=(A2 (A0 y 15)).getD i .any:=(hm.h 1).1.1.v
   have hl:ts.length≤i+20:=by rw[hts,List.length_append,List.length_map,List.length_take];omega
   have e3:((ts.length+1)*16).ble 70368744177664=true:=by rw[Nat.ble_eq];omega
   have hnext:=ih (i+1) (ts++ [eD ((A2 (A0 y 15)).getD i .any)]) (by omega) (by rw[hts,List.append_assoc,a9d hlt])
   simp only[show decide ((i:Int)<((A2 (A0 y 15)).length:Int))=true by simp;omega,cond_true,Int.toNat_natCast,e2,e3,hv]
   exact ⟨⟨by omega,hlt,(by trivial)⟩,⟨hm,hs⟩,(by trivial),hnext⟩
 exact main (A2 (A0 y 15)).length 0 t0 (by omega) (by simp)
theorem ETx.l {y:D} (h:ETx y):D1 y∧(1≤kd y∧(kd y).toNat<U5.length)∧H4 y≤100∧(A4 (A0 y 14)).size≤4096∧∀i,G4 i y=true→a4o i y:=(h.h 1).1
theorem ETx.a {y:D} (h:ETx y) {a:D} (ha:a∈E6 y 15):ETx a:=⟨fun n=>(h.h (n+1)).2 a ha⟩
theorem d7o (r r':D→ByteArray) (y:D) (h:∀a∈E6 y 15,r a=r' a):f5j r y=f5j r' y:=by
 unfold f5j
 rw[show (E6 y 15).map (fun a=>D.lit (.string (r a)))=(E6 y 15).map (fun a=>D.lit (.string (r' a))) from List.map_congr_left fun a ha=>by rw[h a ha]]
theorem b6k (y:D):a7p y=G2 (a4t y++(A2 (A0 y 15)).map eD):=e8 d7o y
theorem X2 {i n:Nat} {y:D} (h:(S7 i y).length≤n):(C7 i y).length≤n:=by
 unfold C7;cases G4 i y
 ·exact Nat.zero_le _
 ·exact h
theorem a6u {i M:Nat} {y:D} (h:G4 i y=true→Lim M (S7 i y)):Lim M (C7 i y):=by
 unfold C7;cases hc:G4 i y
 ·exact .nil
 ·exact h hc
theorem c7y (y:D):(a4t y).length≤12:=by
 have l11:(C7 11 y).length≤1:=X2 (Nat.le_refl _)
 have l15:(C7 15 y).length≤1:=X2 (Nat.le_refl _)
 have l19:(C7 19 y).length≤1:=X2 (Nat.le_refl _)
 have l23:(C7 23 y).length≤1:=X2 (Nat.le_refl _)
 have l27:(C7 27 y).length≤1:=X2 (Nat.le_refl _)
 have l31:(C7 31 y).length≤1:=X2 (Nat.le_refl _)
 have l35:(C7 35 y).length≤1:=X2 (Nat.le_refl _)
 have l39:(C7 39 y).length≤2:=X2 (Nat.le_refl _)
 have l43:(C7 43 y).length≤1:=X2 (Nat.le_refl _)
 have l47:(C7 47 y).length≤1:=X2 (Nat.le_refl _)
 unfold a4t
 simp only[List.length_append,List.length_cons,List.length_nil]
 omega
theorem a4d (y:D):1+((E6 y 15).map H4).sum≤H4 y:=by
 rw[t6 y];omega
theorem f3e (n d:Int):(b8y n d).size≤4096:=by
 have l1:=a4f (n.natAbs:Nat)
 have l2:=a4f d
 have l3:(ByteArray.mk (Array.mk [47])).size=1:=rfl
 have l4:(ByteArray.mk (Array.mk [45])).size=1:=rfl
 have l5:(ByteArray.mk (Array.mk [])).size=0:=rfl
 unfold b8y
 cases X0 n d !=0<;>cases decide (n<0)<;>cases decide (d>1)<;>simp only[cond_true,cond_false,U7]<;>omega
theorem e4u {y:D} (h:ETx y):Lim 4294967296 (a4t y):=by
 obtain ⟨hf,⟨k0,k1⟩,ht,hx,hp⟩:=h.l
 have w:∀{s:ByteArray} {M:Nat},s.size≤M→M≤4294967296→Lim 4294967296 [.lit (.string s)]:=fun h1 h2=>.cons (Nat.le_trans h1 h2) .nil
 unfold a4t
 refine ((((((((((Lim.app ?_ ?_).app ?_).app ?_).app ?_).app ?_).app ?_).app ?_).app ?_).app ?_).app ?_)
 ·exact w (a4m c6z k1).2 (by decide)
 ·exact a6u fun hc=>w (a4m (c9s _) (hp 11 hc).2).2 (by decide)
 ·exact a6u fun _=>w (f3e _ _) (by decide)
 ·exact a6u fun _=>w hx (by decide)
 ·exact a6u fun hc=>w (a4m b4e (hp 23 hc).2).2 (by decide)
 ·refine a6u fun hc=>w (s:=b4d (paV y)) (M:=838860800) ?_ (by decide)
  have hq:PTx (paV y):=hp 27 hc
  have h1:=g4r hq (Nat.lt_succ_self _)
  have h2:N6 (paV y)*8388608≤100*8388608:=Nat.mul_le_mul_right _ hq.l.2.2.2.2
  omega
 ·refine a6u fun hc=>w (M:=4194434) ?_ (by decide)
  have hm:b2m (A2 (A0 y 2)):=hp 31 hc
  have hl:Lim 32768 ((A2 (A0 y 2)).map M7):=Lim.map fun a ha=>c8y (hm.2 a ha)
  exact (n4 (n:=128) (b:=4194434) hl (by rw[List.length_map];exact hm.1) (by decide)).2
 ·refine a6u fun hc=>w (M:=2147483778) ?_ (by decide)
  have hm:b9d (A2 (A0 y 10)):=hp 35 hc
  have hl:Lim 16777216 ((A2 (A0 y 10)).map a5k):=Lim.map fun a ha=>by
   have hlim:=b6z (hm.2 a ha)
   exact (n4 (n:=258) (b:=16777216) hlim.1 hlim.2 (by decide)).2
  exact (n4 (n:=128) (b:=2147483778) hl (by rw[List.length_map];exact hm.1) (by decide)).2
 ·exact a6u fun _=>.cons (Nat.le_trans (a4f _) (by decide)) (.cons (Nat.le_trans (a4f _) (by decide)) .nil)
 ·refine a6u fun hc=>w (s:=c9n y) (M:=528515) ?_ (by decide)
  have hm:d7n (A2 (A0 y 7)):=(hp 43 hc).2
  have hl:∀b:List UInt8,b.length≤7→(G2 ([sB b]++A2 (A0 y 7))).size≤528515:=fun b hb =>
   (n4 (n:=129) (b:=528515) (Lim.app (.cons (Nat.le_trans hb (by decide)) .nil) hm.2) (by have:=hm.1;simp only[List.length_append,List.length_cons,List.length_nil];omega) (by decide)).2
  unfold c9n
  cases P5 (A0 y 8)
  ·exact hl [98,121] (by decide)
  ·exact hl [119,105,116,104,111,117,116] (by decide)
 ·exact a6u fun _=>w (Nat.le_trans (a9m _) (show 2*(A4 (A0 y 14)).size+2≤8194 by omega)) (by decide)
theorem g5d:∀{n:Nat} {y:D},ETx y→dsz y<n→(a7p y).size+1≤H4 y*68719476736:=by
 intro n
 induction n with
 | zero=>intro y _ h;omega
 | succ n ih =>
  intro y h hn
  have key:∀l:List D,(∀a∈l,a∈E6 y 15)→tot (l.map eD)≤(l.map H4).sum*68719476736:=by
   intro l hl
   induction l with
   | nil=>simp[tot]
   | cons x r ih2 =>
    have hx:=hl x (by simp)
    have h1:=ih (h.a hx) (by have:=G6 hx;omega)
    have h2:=ih2 fun a ha=>hl a (List.mem_cons_of_mem _ ha)
    simp only[tot,List.map_cons,List.sum_cons,Nat.add_mul] at h2 ⊢
    have h3:(A4 (eD x)).size=(a7p x).size:=rfl
    omega
  have h1:=key (E6 y 15) fun a ha=>ha
  have h2:=e2s (e4u h)
  have h3:(a4t y).length≤12:=c7y y
  have h4:(a4t y).length*(4294967296+1)≤12*(4294967296+1):=Nat.mul_le_mul_right _ h3
  have h6:=(d4r (a4t y++(A2 (A0 y 15)).map eD)).2
  have h7:=a4d y
  have h8:(1+((E6 y 15).map H4).sum)*68719476736≤H4 y*68719476736:=Nat.mul_le_mul_right _ h7
  rw[Nat.add_mul] at h8
  rw[b6k]
  rw[c8d] at h6
  unfold E6 at h1 h8
  omega
theorem k62:C3 B T62:=by
 refine S4 B9 i9i μ1 (fn:=Tryz.f62) (cd:=A7 Tryz.f62) (sp:=fun κ=>spL [(11,S62 11 [1,3,4,5,20] g7k true),(15,S62 15 [1,3,4,30] Y3 false),(19,S62 19 [1,3,4,43] Y3 false),(23,S62 23 [1,3,4,50] Y3 false),(27,S62 27 [1,3,4,60] Y3 false),(31,S62 31 [1,3,4,68] Y3 false),(35,S62 35 [1,3,4,77] Y3 false),(39,S62 39 [1,3,4,85] Y3 false),(43,S62 43 [1,3,4,96] Y3 false),(47,S62 47 [1,3,4,104] Y3 false),(50,L62 κ)]) (hn:=B1) Tryz.func62 (by kernel_rfl) (by kernel_rfl) (fun κ hk=>B7 (c:=C5 (A7 Tryz.f62) 11) (by kernel_rfl) (f6y hk) (B7 (c:=C5 (A7 Tryz.f62) 15) (by kernel_rfl) (f6x hk) (B7 (c:=C5 (A7 Tryz.f62) 19) (by kernel_rfl) (f6w hk) (B7 (c:=C5 (A7 Tryz.f62) 23) (by kernel_rfl) (f6v hk) (B7 (c:=C5 (A7 Tryz.f62) 27) (by kernel_rfl) (f6u hk) (B7 (c:=C5 (A7 Tryz.f62) 31) (by kernel_rfl) (f6t hk) (B7 (c:=C5 (A7 Tryz.f62) 35) (by kernel_rfl) (f6s hk) (B7 (c:=C5 (A7 Tryz.f62) 39) (by kernel_rfl) (f6r hk) (B7 (c:=C5 (A7 Tryz.f62) 43) (by kernel_rfl) (f6q hk) (B7 (c:=C5 (A7 Tryz.f62) 47) (by kernel_rfl) (f6p hk) (B7 (c:=.loop l62) (by kernel_rfl) (h4t hk) C8))))))))))) fun κ ds r hp hm hr=>?_
 unfold c62 at hp hr
 simp only[] at hr hp
 split at hr
 ·rename_i y
  cases hr
  have hp:ETx y:=hp
  obtain ⟨hf,⟨k0,k1⟩,ht,hx,hpp⟩:=hp.l
  rw[X9 hf.v]
  refine keep (w62 κ y fun v=>v=_) ?_
  rw[hf.v]
  have hH:IsH (hCl y):=⟨_,_,_,_,_,_,_,_,_,_,rfl⟩
  have l11:(C7 11 y).length≤1:=X2 (Nat.le_refl _)
  have l15:(C7 15 y).length≤1:=X2 (Nat.le_refl _)
  have l19:(C7 19 y).length≤1:=X2 (Nat.le_refl _)
  have l23:(C7 23 y).length≤1:=X2 (Nat.le_refl _)
  have l27:(C7 27 y).length≤1:=X2 (Nat.le_refl _)
  have l31:(C7 31 y).length≤1:=X2 (Nat.le_refl _)
  have l35:(C7 35 y).length≤1:=X2 (Nat.le_refl _)
  have l39:(C7 39 y).length≤2:=X2 (Nat.le_refl _)
  have l43:(C7 43 y).length≤1:=X2 (Nat.le_refl _)
  have l47:(C7 47 y).length≤1:=X2 (Nat.le_refl _)
  have hlen:=g5d hp (Nat.lt_succ_self _)
  have ha:(A2 (A0 y 15)).length≤100:=by
   have:=a4d y
   have:=a4a (xs:=E6 y 15)
   unfold E6 at *
   omega
  have hal:=c7y y
  have hstr:f7 (a4t y++(A2 (A0 y 15)).map eD):=fun a ha=>by
   rcases List.mem_append.1 ha with ha|ha
   ·exact (e4u hp).str a ha
   ·obtain ⟨x,_,rfl⟩:=List.mem_map.1 ha
    rfl
  have hsz:(R9 (a4t y++(A2 (A0 y 15)).map eD)).size≤9223372036854775806:=by
   rw[b6k] at hlen
   have h9:(G2 (a4t y++(A2 (A0 y 15)).map eD)).size=(R9 (a4t y++(A2 (A0 y 15)).map eD)).size+1:=by
    unfold G2 R9;rw[U7];rfl
   have:H4 y*68719476736≤100*68719476736:=Nat.mul_le_mul_right _ ht
   omega
  refine ⟨hf,(by trivial),⟨Int.le_trans (by decide) k0,k1,(a4m c6z k1).1⟩,(by trivial),⟨(by trivial),(by decide),⟨y,rfl⟩,hH,rfl,hpp 11⟩,⟨(by trivial), ?_,⟨y,rfl⟩,hH,rfl,hpp 15⟩,⟨(by trivial), ?_,⟨y,rfl⟩,hH,rfl,hpp 19⟩,⟨(by trivial), ?_,⟨y,rfl⟩,hH,rfl,hpp 23⟩,⟨(by trivial), ?_,⟨y,rfl⟩,hH,rfl,hpp 27⟩,⟨(by trivial), ?_,⟨y,rfl⟩,hH,rfl,hpp 31⟩,⟨(by trivial), ?_,⟨y,rfl⟩,hH,rfl,hpp 35⟩,⟨(by trivial), ?_,⟨y,rfl⟩,hH,rfl,hpp 39⟩,⟨(by trivial), ?_,⟨y,rfl⟩,hH,rfl,hpp 43⟩,⟨(by trivial), ?_,⟨y,rfl⟩,hH,rfl,hpp 47⟩,⟨(by trivial),(by trivial), ?_,⟨y,rfl⟩,by show (A2 (A0 y 15)).length≤4096;omega,fun a ha=>⟨hp.a ha,hm▸G6 ha⟩⟩,⟨(by trivial),hstr,hsz, ?_⟩, ?_⟩
  all_goals first
   | (simp only[List.length_append,List.length_cons,List.length_nil];omega)
   | (show (a4t y++(A2 (A0 y 15)).map eD).length≤_;simp only[List.length_append,List.length_map];omega)
   | (unfold eD;rw[b6k];rfl)
 ·cases hr
abbrev e96:List (List (B2×B2)):=[[([0,0],[0,0]),([0,1],[0,1]),([2],[15,2])]]
def a7m (y:D):List D:=(bif P5 (A0 y 8) then sB [119,105,116,104,111,117,116] else sB [98,121])::A2 (A0 y 7)
def s96:Sm:=⟨fun vals bs=>match vals,bs with | [_, .d x], [_, .arr _ _ _ _ xs _]=>D1 x∧b4u (A2 (A0 x 7))∧P2 (xs.length+L1 (a7m x))|_,_=>False,fun vals bs=>match vals,bs with
 | [.ptr [0,0] 0, .d x], [.cells 75 [.opt [0,0] 0, .ref [0,1], .d t, .d (.lit (.bool fi))], .arr true nl 5 1 xs []]=>one (.d (.tup [])) [wB [2] t false,W3 nl xs] [buf (E4 fi nl xs (a7m x)).1 (E4 fi nl xs (a7m x)).2]
 | _,_=>none⟩
def U96:L4:=h2c.add 96 s96
theorem w96 (t:D) (y:D) (fi:Bool) (nl:Bool) (xs:List D) (R:V→List Box→Prop):(F3 (Cn b2i) b2i (H7 h2c) 2 B8 B1 adW e96 96 [V.ptr [0,0] 0,V.d (eV y)]
 (H6 [wB [0,1] t fi,buf nl xs]) R) =
 (bif P5 (A0 y 8) then
 (s86.pre [V.ptr [0,0] 0,C6 (bA [119,105,116,104,111,117,116])]
 [Box.cells 75 [V.opt [0,0] 0,V.ref [0,1],V.d t,A6 fi],Box.arr true nl 5 1 xs []]∧
 (e5p.pre [V.ptr [0,0] 0,V.d (D.slice (E5 (A0 y 7)) 1 (A2 (A0 y 7)))]
 [Box.cells 75 [V.opt [0,0] 0,V.ref [0,1],V.d t,A6 false],
 Box.arr true (J6 fi nl (bA [119,105,116,104,111,117,116])) 5 1
 (D2 fi xs (bA [119,105,116,104,111,117,116])) []]∧
 R (V.d (D.tup []))
 [Box.cells 75 [V.opt [0,0] 0,V.ref [2],V.d t,A6 false],Box.arr false nl 5 1 xs [],
 Box.arr true
 (E4 false (J6 fi nl (bA [119,105,116,104,111,117,116]))
 (D2 fi xs (bA [119,105,116,104,111,117,116])) (A2 (A0 y 7))).fst
 5 1
 (E4 false (J6 fi nl (bA [119,105,116,104,111,117,116]))
 (D2 fi xs (bA [119,105,116,104,111,117,116])) (A2 (A0 y 7))).snd
 []])) else
 (s86.pre [V.ptr [0,0] 0,C6 (bA [98,121])]
 [Box.cells 75 [V.opt [0,0] 0,V.ref [0,1],V.d t,A6 fi],Box.arr true nl 5 1 xs []]∧
 (e5p.pre [V.ptr [0,0] 0,V.d (D.slice (E5 (A0 y 7)) 1 (A2 (A0 y 7)))]
 [Box.cells 75 [V.opt [0,0] 0,V.ref [0,1],V.d t,A6 false],
 Box.arr true (J6 fi nl (bA [98,121])) 5 1 (D2 fi xs (bA [98,121]))
 []]∧
 R (V.d (D.tup []))
 [Box.cells 75 [V.opt [0,0] 0,V.ref [2],V.d t,A6 false],Box.arr false nl 5 1 xs [],
 Box.arr true
 (E4 false (J6 fi nl (bA [98,121])) (D2 fi xs (bA [98,121]))
 (A2 (A0 y 7))).fst
 5 1
 (E4 false (J6 fi nl (bA [98,121])) (D2 fi xs (bA [98,121]))
 (A2 (A0 y 7))).snd
 []]))):=by kernel_rfl
theorem q96:H9 B U96:=by
 refine P9 h4q fun vals bs c x y hp hf=>?_
 unfold s96 at hp hf
 simp only[] at hp hf
 split at hf
 case h_2=>cases hf
 rename_i x t fi nl xs
 simp only[one,Option.some.injEq,Prod.mk.injEq] at hf
 obtain ⟨rfl,rfl,rfl⟩:=hf
 obtain ⟨hx,ha,hr⟩:=hp
 have hr:xs.length+L1 (a7m x)≤70368744177664:=hr
 rw[show ([V.ptr [0,0] 0, .d x]:List V)= [.ptr [0,0] 0, .d (eV x)] by rw[hx.v]]
 refine F6 B9 d4w h4q (fn:=Tryz.f96) (cd:=A7 Tryz.f96) (sp:=B8) (hn:=B1) (k:=2) (ads:=adW) (ends:=e96) Tryz.func96 (by kernel_rfl) (by kernel_rfl) (by kernel_rfl) (by kernel_rfl) A8 rfl rfl (keep (w96 t x fi nl xs _) ?_)
 refine A5 (fun g=>?_) (fun g=>?_)
 ·have e:a7m x=sB [119,105,116,104,111,117,116]::A2 (A0 x 7):=by unfold a7m;rw[g];rfl
  rw[e]
  rw[e] at hr
  have hr:xs.length+(7+1+L1 (A2 (A0 x 7)))≤70368744177664:=hr
  have p1:(D2 fi xs (ByteArray.mk (Array.mk [119,105,116,104,111,117,116]))).length≤xs.length+1+7:=S8 fi xs _
  exact ⟨by show xs.length+1+7≤_;omega,⟨ha,by show (D2 fi xs (ByteArray.mk (Array.mk [119,105,116,104,111,117,116]))).length+_≤_;omega⟩,rfl,rfl⟩
 ·have e:a7m x=sB [98,121]::A2 (A0 x 7):=by unfold a7m;rw[g];rfl
  rw[e]
  rw[e] at hr
  have hr:xs.length+(2+1+L1 (A2 (A0 x 7)))≤70368744177664:=hr
  have p1:(D2 fi xs (ByteArray.mk (Array.mk [98,121]))).length≤xs.length+1+2:=S8 fi xs _
  exact ⟨by show xs.length+1+2≤_;omega,⟨ha,by show (D2 fi xs (ByteArray.mk (Array.mk [98,121]))).length+_≤_;omega⟩,rfl,rfl⟩
def f5t:Sm:=⟨fun _ bs=>match bs with | [_, .arr _ _ _ _ xs _]=>c5t xs∧xs≠ []|_=>False,fun vals bs=>match vals,bs with
 | [.ptr [0,0] 0], [.cells 73 [.opt [0,0] 0, .ref [0,1]], .arr true false 5 1 xs []]=>one (.d (.lit (.string (b3h xs)))) [uB [0,1], .arr false false 5 1 xs []] []
 | [.ptr [0,0] 0], [.cells 75 [.opt [0,0] 0, .ref [0,1], .d t, .d (.lit (.bool fi))], .arr true false 5 1 xs []]=>one (.d (.lit (.string (b3h xs)))) [wB [0,1] t fi, .arr false false 5 1 xs []] []
 | _,_=>none⟩
def e8d:L4:=U96.add 61 f5t
noncomputable def l97:Code:=D7 (C5 (A7 Tryz.f97) 8)
abbrev uB5:Box:=.cells 73 [.opt [5000] 0, .ref [5001]]
def h97:Nat→Option j5:=fun id=>match id with
 | 1=>some {ads:=[.cell [5] 1 5 1 [5001], .opt [5] 0 [5] 0] }
 | 7=>some {cut:=[([0,3,4], [([5000],[5000]),([5001],[20,2])])] }
 | 11=>some {cut:=[([0,3,4], [([5000],[5000]),([5001],[28,2])])] }
 | 13=>some {cut:=[([0,3,4], [([5000],[5000]),([5001],[31,2])])] }
 | _=>none
abbrev e6d:List (B2×B2):=[([5000],[5000]),([5001],[5001])]
theorem b97 (s : ByteArray) (i : Int) (xs : List D) (R : X → List V → List Box → Prop) : (E1 (Cn b2i) b2i (H7 e8d) 0 B8 h97 l97 32 [0, 3, 4] [[5000], [5001]] [] e6d [3] e6d
  [C6 s, V.ptr [5000] 0, A3 i] [uB5, buf false xs] R) =
  (bif decide (i < (↑s.size : Int)) then
   ((((0 : Int) ≤ i) ∧ i.toNat < s.size) ∧
   (bif A9 s i.toNat == 92 then
    (b8x.pre [V.ptr [0, 0] 0, V.d (D.lit (Value.int IntKind.u8 92))]
  [Box.cells 73 [V.opt [0, 0] 0, V.ref [0, 1]], Box.arr true false 5 1 xs []] ∧
    ((((0 : Int) ≤ i) ∧ i.toNat < s.size) ∧
    (b8x.pre [V.ptr [0, 0] 0, V.d (D.lit (Value.int IntKind.u8 (A9 s i.toNat)))]
  [Box.cells 73 [V.opt [0, 0] 0, V.ref [0, 1]], Box.arr true false 5 1 (xs ++ [D.lit (Value.int IntKind.u8 92)]) []] ∧
    (32 = 32 ∧
    R X.normal
  [C6 s, V.ptr [5000] 0, A3 (IntKind.i64.wrap (i + 1))]
  [Box.cells 73 [V.opt [5000] 0, V.ref [5001]],
    Box.arr true false 5 1
      (xs ++ [D.lit (Value.int IntKind.u8 92)] ++ [D.lit (Value.int IntKind.u8 (A9 s i.toNat))]) []])))) else
    (bif A9 s i.toNat == 34 then
     (b8x.pre [V.ptr [0, 0] 0, V.d (D.lit (Value.int IntKind.u8 92))]
  [Box.cells 73 [V.opt [0, 0] 0, V.ref [0, 1]], Box.arr true false 5 1 xs []] ∧
     ((((0 : Int) ≤ i) ∧ i.toNat < s.size) ∧
     (b8x.pre [V.ptr [0, 0] 0, V.d (D.lit (Value.int IntKind.u8 (A9 s i.toNat)))]
  [Box.cells 73 [V.opt [0, 0] 0, V.ref [0, 1]], Box.arr true false 5 1 (xs ++ [D.lit (Value.int IntKind.u8 92)]) []] ∧
     (32 = 32 ∧
     R X.normal
  [C6 s, V.ptr [5000] 0, A3 (IntKind.i64.wrap (i + 1))]
  [Box.cells 73 [V.opt [5000] 0, V.ref [5001]],
    Box.arr true false 5 1
      (xs ++ [D.lit (Value.int IntKind.u8 92)] ++ [D.lit (Value.int IntKind.u8 (A9 s i.toNat))]) []])))) else
     (bif A9 s i.toNat == 10 then
      (e9b.pre [V.ptr [0, 0] 0, C6 (bA [92, 110])]
  [Box.cells 73 [V.opt [0, 0] 0, V.ref [0, 1]], Box.arr true false 5 1 xs []] ∧
      (32 = 32 ∧
      R X.normal
  [C6 s, V.ptr [5000] 0, A3 (IntKind.i64.wrap (i + 1))]
  [Box.cells 73 [V.opt [5000] 0, V.ref [5001]],
    Box.arr true false 5 1 (xs ++ [D.lit (Value.int IntKind.u8 (↑92 : Int)), D.lit (Value.int IntKind.u8 (↑110 : Int))])
      []])) else
      ((((0 : Int) ≤ i) ∧ i.toNat < s.size) ∧
      (b8x.pre [V.ptr [0, 0] 0, V.d (D.lit (Value.int IntKind.u8 (A9 s i.toNat)))]
  [Box.cells 73 [V.opt [0, 0] 0, V.ref [0, 1]], Box.arr true false 5 1 xs []] ∧
      (32 = 32 ∧
      R X.normal
  [C6 s, V.ptr [5000] 0, A3 (IntKind.i64.wrap (i + 1))]
  [Box.cells 73 [V.opt [5000] 0, V.ref [5001]],
    Box.arr true false 5 1 (xs ++ [D.lit (Value.int IntKind.u8 (A9 s i.toNat))]) []]))))))) else
   (32 = 32 ∧
   R (X.exit 0) [V.ptr [5000] 0] [Box.cells 73 [V.opt [5000] 0, V.ref [5001]], Box.arr true false 5 1 xs []])) := by kernel_rfl
noncomputable def e5s (xs:List D) (s:ByteArray):List D:=xs++qL s s.size 0
noncomputable def S97:Ev.Spec:={L:=[0,3,4],ns:=[([5000],[5]),([5001],[7,2])],L':=[3],nm':=[[5000],[5001]],G:=fun N vals bs k=>match vals,bs with
 | [.d (.lit (.string s)), .ptr [5000] 0, .d (.lit (.int .i64 i))], [.cells 73 [.opt [5000] 0, .ref [5001]], .arr true false 5 1 xs []]=>(N=32∧i=0∧xs.length+2*s.size≤70368744177600)∧k (.exit 0) [.ptr [5000] 0] [uB5,buf false (e5s xs s)]
 | _,_=>False }
theorem w97 (s:ByteArray) (p:V→Prop):(B6 (Cn b2i) b2i (H7 e8d) 0 (spL [(8,S97)]) h97 97 [C6 s] B3.empty fun v H=>p (B4 H v)) =
 (b8x.pre [V.ptr [0,0] 0,V.d (D.lit (Value.int IntKind.u8 34))]
 [Box.cells 73 [V.opt [0,0] 0,V.ref [0,1]],Box.arr true true 5 1 [] []]∧
 ((32=32∧(((0:Int)=0)∧1+2*s.size≤70368744177600))∧
 (b8x.pre [V.ptr [0,0] 0,V.d (D.lit (Value.int IntKind.u8 34))]
 [Box.cells 73 [V.opt [0,0] 0,V.ref [0,1]],Box.arr true false 5 1 (e5s [D.lit (Value.int IntKind.u8 34)] s) []]∧
 (f5t.pre [V.ptr [0,0] 0]
 [Box.cells 73 [V.opt [0,0] 0,V.ref [0,1]],
 Box.arr true false 5 1 (e5s [D.lit (Value.int IntKind.u8 34)] s++ [D.lit (Value.int IntKind.u8 34)]) []]∧
 p (C6 (b3h (e5s [D.lit (Value.int IntKind.u8 34)] s++ [D.lit (Value.int IntKind.u8 34)]))))))):=by kernel_rfl
noncomputable def c97:Ct:=⟨fun | [.lit (.string s)]=>s.size≤17592186044400|_=>False,fun | [.lit (.string s)]=>some (.lit (.string (K4 s)))|_=>none⟩
noncomputable def T97:Tab:=b2i.add 97 c97
theorem f6c:H9 B e8d:=by
 refine P9 q96 fun vals bs c x y hp hf=>?_
 unfold f5t at hp hf
 simp only[] at hp hf
 split at hf
 ·rename_i xs
  simp only[one,Option.some.injEq,Prod.mk.injEq] at hf
  obtain ⟨rfl,rfl,rfl⟩:=hf
  obtain ⟨ha,hne⟩:=hp
  refine f6z _ _ _ _ _ rfl ?_
  have h1:xs.all a7q=true:=List.all_eq_true.2 ha
  have h2:xs.isEmpty=false:=by cases xs with|nil=>exact absurd rfl hne|cons=>rfl
  simp only[s61,h1,h2,b9g ha,Bool.and_self,cond_true,cond_false]
  rfl
 ·rename_i t fi xs
  simp only[one,Option.some.injEq,Prod.mk.injEq] at hf
  obtain ⟨rfl,rfl,rfl⟩:=hf
  obtain ⟨ha,hne⟩:=hp
  refine f6z _ _ _ _ _ rfl ?_
  have h1:xs.all a7q=true:=List.all_eq_true.2 ha
  have h2:xs.isEmpty=false:=by cases xs with|nil=>exact absurd rfl hne|cons=>rfl
  simp only[s61,h1,h2,b9g ha,Bool.and_self,cond_true,cond_false]
  rfl
 ·cases hf
theorem i6u:OkS (Cn b2i) 0 (.loop l97) S97:=by
 refine D0 fun N vals bs K h=>?_
 simp only[S97] at h
 split at h
 case h_2=>exact h.elim
 rename_i s i xs
 obtain ⟨⟨rfl,rfl,hr⟩,h⟩:=h
 have key:∀(n i:Nat) (xs:List D),i+n=s.size→xs.length+2*n≤70368744177600→K (.exit 0) [.ptr [5000] 0] [uB5,buf false (xs++qL s n i)]→
   J2 (Cn b2i) 0 l97 32 [0,3,4] [[5000],[5001]] [3] [[5000],[5001]] [C6 s, .ptr [5000] 0,A3 i] [uB5,buf false xs] K:=by
  intro n
  induction n with
  | zero =>
   intro i xs hi hx h
   refine B5 (L8 B9 d4w f6c) C0 A8 (hn:=h97) (adsI:=[]) (nsI:=e6d) (nsX:=e6d) rfl rfl (keep (b97 s i xs _) ?_)
   have e1:decide ((i:Int)<(s.size:Int))=false:=by simp;omega
   rw[e1]
   simp only[qL,List.append_nil] at h
   exact ⟨(by trivial),h⟩
  | succ n ih =>
   intro i xs hi hx h
   refine B5 (L8 B9 d4w f6c) C0 A8 (hn:=h97) (adsI:=[]) (nsI:=e6d) (nsX:=e6d) rfl rfl (keep (b97 s i xs _) ?_)
   have e1:decide ((i:Int)<(s.size:Int))=true:=by simp;omega
   have e2:IntKind.i64.wrap ((i:Int)+1)=((i+1:Nat):Int):=by rw[Go.IntWalk.i64_in _ (by omega)];omega
   have p1:xs.length+1≤70368744177664:=by omega
   have p2:(xs++ [D.lit (Value.int IntKind.u8 92)]).length+1≤70368744177664:=by simp;omega
   have p3:xs.length+2≤70368744177664:=by omega
   unfold qL qB at h
   simp only[e1,Int.toNat_natCast,e2,cond_true]
   refine ⟨⟨by omega,by omega⟩,A5 (fun g=>?_) (fun g=>?_)⟩
   ·rw[g] at h
    simp only[cond_true] at h
    refine ⟨p1,⟨by omega,by omega⟩,p2,(by trivial),ih (i+1) _ (by omega) (by simp;omega) ?_⟩
    simpa [List.append_assoc] using h
   ·rw[g] at h
    simp only[cond_false] at h
    refine A5 (fun g=>?_) (fun g=>?_)
    ·rw[g] at h
     simp only[cond_true] at h
     refine ⟨p1,⟨by omega,by omega⟩,p2,(by trivial),ih (i+1) _ (by omega) (by simp;omega) ?_⟩
     simpa [List.append_assoc] using h
    ·rw[g] at h
     simp only[cond_false] at h
     refine A5 (fun g=>?_) (fun g=>?_)
     ·rw[g] at h
      simp only[cond_true] at h
      refine ⟨p3,(by trivial),ih (i+1) _ (by omega) (by simp;omega) ?_⟩
      simpa [List.append_assoc] using h
     ·rw[g] at h
      simp only[cond_false] at h
      refine ⟨⟨by omega,by omega⟩,p1,(by trivial),ih (i+1) _ (by omega) (by simp;omega) ?_⟩
      simpa [List.append_assoc] using h
 exact key s.size 0 xs (by omega) hr h
theorem k97:C3 B T97:=by
 refine b3f B9 d4w f6c (fn:=Tryz.f97) (cd:=A7 Tryz.f97) (sp:=spL [(8,S97)]) (hn:=h97) Tryz.func97 (by kernel_rfl) (by kernel_rfl) (B7 (c:=.loop l97) (by kernel_rfl) i6u C8) fun ds r hp hr=>?_
 unfold c97 at hp hr
 simp only[] at hr hp
 split at hr
 ·rename_i s
  cases hr
  have hp:s.size≤17592186044400:=hp
  refine keep (w97 s fun v=>v=_) ?_
  have hl:=c8n (s:=s) (n:=s.size) (i:=0)
  refine ⟨by show 0+1≤70368744177664;omega,⟨(by trivial),(by trivial),by omega⟩, ?_, ?_,rfl⟩
  ·show (e5s [bD8 34] s).length+1≤70368744177664
   unfold e5s
   simp only[List.length_append,List.length_cons,List.length_nil];omega
  ·exact ⟨c6m s,by simp⟩
 ·cases hr
abbrev sW (l:List UInt8):D:=.lit (.string (ByteArray.mk (Array.mk l)))
def a2b:List D:=[sW [61],sW [33,61],sW [61,126],sW [33,126],sW [60],sW [62]]
def N2:List D:=[sW [99,111,110,116,97,105,110,115],sW [110,111,116,99,111,110,116,97,105,110,115],sW [114,101,103,101,120],sW [112,97,114,115,101],sW [102,105,101,108,100],sW [107,101,101,112],sW [100,114,111,112],sW [108,97,98,101,108]]
def a9o:List D:=[sW [115,112,97,110],sW [99,104,105,108,100],sW [100,101,115,99,101,110,100,97,110,116],sW [115,105,98,108,105,110,103],sW [102,111,108,108,111,119,115],sW [108,105,110,107,101,100],sW [97,110,100],sW [111,114],sW [110,111,116]]
def c8x:List D:=[sW [111,110,101],sW [109,97,110,121,116,111,111,110,101],sW [111,110,101,116,111,109,97,110,121]]
def cL (l:List D):Ct:=⟨fun _=>True,fun | []=>some (.slice false 1 l)|_=>none⟩
theorem i4y (p:V→Prop):(B6 (Cn T97) T97 D5 0 B8 B1 157 [] B3.empty fun v H=>p (B4 H v)) =
 ((14<4294967281∧true=true)∧
 p
 (V.d
 (D.slice false 1
 [zD (bA ([]++ [61])),
 zD (bA ([]++ [33]++ [61])),
 zD (bA ([]++ [61]++ [126])),
 zD (bA ([]++ [33]++ [126])),
 zD (bA ([]++ [60])),
 zD (bA ([]++ [62]))]))):=by kernel_rfl
noncomputable def g2s:Tab:=T97.add 157 (cL a2b)
theorem i4t (p:V→Prop):(B6 (Cn g2s) g2s D5 0 B8 B1 162 [] B3.empty fun v H=>p (B4 H v)) =
 ((54<4294967281∧true=true)∧
 p
 (V.d
 (D.slice false 1
 [zD (bA ([]++ [99]++ [111]++ [110]++ [116]++ [97]++ [105]++ [110]++ [115])),
 zD (bA ([]++ [110]++ [111]++ [116]++ [99]++ [111]++ [110]++ [116]++ [97]++ [105]++ [110] ++
 [115])),
 zD (bA ([]++ [114]++ [101]++ [103]++ [101]++ [120])),
 zD (bA ([]++ [112]++ [97]++ [114]++ [115]++ [101])),
 zD (bA ([]++ [102]++ [105]++ [101]++ [108]++ [100])),
 zD (bA ([]++ [107]++ [101]++ [101]++ [112])),
 zD (bA ([]++ [100]++ [114]++ [111]++ [112])),
 zD (bA ([]++ [108]++ [97]++ [98]++ [101]++ [108]))]))):=by kernel_rfl
noncomputable def g2q:Tab:=g2s.add 162 (cL N2)
theorem i4w (p:V→Prop):(B6 (Cn g2q) g2q D5 0 B8 B1 159 [] B3.empty fun v H=>p (B4 H v)) =
 ((55<4294967281∧true=true)∧
 p
 (V.d
 (D.slice false 1
 [zD (bA ([]++ [115]++ [112]++ [97]++ [110])),
 zD (bA ([]++ [99]++ [104]++ [105]++ [108]++ [100])),
 zD (bA ([]++ [100]++ [101]++ [115]++ [99]++ [101]++ [110]++ [100]++ [97]++ [110]++ [116])),
 zD (bA ([]++ [115]++ [105]++ [98]++ [108]++ [105]++ [110]++ [103])),
 zD (bA ([]++ [102]++ [111]++ [108]++ [108]++ [111]++ [119]++ [115])),
 zD (bA ([]++ [108]++ [105]++ [110]++ [107]++ [101]++ [100])),
 zD (bA ([]++ [97]++ [110]++ [100])),
 zD (bA ([]++ [111]++ [114])),
 zD (bA ([]++ [110]++ [111]++ [116]))]))):=by kernel_rfl
noncomputable def g2r:Tab:=g2q.add 159 (cL a9o)
theorem w87 (p:V→Prop):(B6 (Cn g2r) g2r D5 0 B8 B1 87 [] B3.empty fun v H=>p (B4 H v)) =
 p
 (V.d
 (D.slice false 1
 [zD (bA [111,110,101]),
 zD (bA [109,97,110,121,116,111,111,110,101]),
 zD (bA [111,110,101,116,111,109,97,110,121])])):=by kernel_rfl
noncomputable def T87:Tab:=g2r.add 87 (cL c8x)
theorem w88 (n:Int) (d:Int) (p:V→Prop):(B6 (Cn T87) T87 D5 0 B8 B1 88 [V.d (rV n d)] B3.empty fun v H=>p (B4 H v)) =
 (True∧
 (bif X0 n d !=0 then
 p (C6 (bA [])) else
 ((((-9223372036854775808:Int)≤n)∧((n:Int)≤9223372036854775807))∧
 (bif d !=1 then
 ((((-9223372036854775808:Int)≤d)∧((d:Int)≤9223372036854775807))∧
 (1+(g9 d).size≤9223372036854775807∧
 ((g9 n).size+(bA [47]++g9 d).size≤9223372036854775807∧
 p (C6 (g9 n++(bA [47]++g9 d)))))) else
 p (C6 (g9 n)))))):=by kernel_rfl
noncomputable def f3d (n d:Int):ByteArray:=bif X0 n d !=0 then ByteArray.mk (Array.mk []) else bif d !=1 then g9 n++(ByteArray.mk (Array.mk [47])++g9 d) else g9 n
noncomputable def c88:Ct:=⟨fun | [.agg [.lit (.int .i64 n), .lit (.int .i64 d)]]=>c3x n∧c3x d|_=>False,fun | [.agg [.lit (.int .i64 n), .lit (.int .i64 d)]]=>some (.lit (.string (f3d n d)))|_=>none⟩
noncomputable def T88:Tab:=T87.add 88 c88
theorem c4w:∀(k n:Nat),(c4x k n).length≤k
 | 0,n=>by simp[c4x]
 | k+1,n=>by
  have:=c4w k (n / 10)
  unfold c4x
  split<;>simp<;>omega
theorem d4z (n:Int):(g9 n).size≤21:=by
 show (b6b n).length≤21
 unfold b6b
 cases decide (n<0) with
 | true=>have:=c4w 20 n.natAbs;simp only[cond_true,List.length_cons];omega
 | false=>have:=c4w 20 n.toNat;simp only[cond_false];omega
theorem i8u:C3 B g2s:=by
 refine C4 B9 k97 (fn:=Tryz.f157) (cd:=A7 Tryz.f157) (sp:=B8) (hn:=B1) Tryz.func157 (by kernel_rfl) (by kernel_rfl) A8 fun ds r hp hr=>?_
 unfold cL at hr
 simp only[] at hr
 split at hr
 ·cases hr
  refine keep (i4y fun v=>v= .d (.slice false 1 a2b)) ?_
  exact ⟨⟨by decide,rfl⟩,by (show _=_;kernel_rfl)⟩
 ·cases hr
theorem i8s:C3 B g2q:=by
 refine C4 B9 i8u (fn:=Tryz.f162) (cd:=A7 Tryz.f162) (sp:=B8) (hn:=B1) Tryz.func162 (by kernel_rfl) (by kernel_rfl) A8 fun ds r hp hr=>?_
 unfold cL at hr
 simp only[] at hr
 split at hr
 ·cases hr
  refine keep (i4t fun v=>v= .d (.slice false 1 N2)) ?_
  exact ⟨⟨by decide,rfl⟩,by (show _=_;kernel_rfl)⟩
 ·cases hr
theorem i8t:C3 B g2r:=by
 refine C4 B9 i8s (fn:=Tryz.f159) (cd:=A7 Tryz.f159) (sp:=B8) (hn:=B1) Tryz.func159 (by kernel_rfl) (by kernel_rfl) A8 fun ds r hp hr=>?_
 unfold cL at hr
 simp only[] at hr
 split at hr
 ·cases hr
  refine keep (i4w fun v=>v= .d (.slice false 1 a9o)) ?_
  exact ⟨⟨by decide,rfl⟩,by (show _=_;kernel_rfl)⟩
 ·cases hr
theorem k87:C3 B T87:=by
 refine C4 B9 i8t (fn:=Tryz.f87) (cd:=A7 Tryz.f87) (sp:=B8) (hn:=B1) Tryz.func87 (by kernel_rfl) (by kernel_rfl) A8 fun ds r hp hr=>?_
 unfold cL at hr
 simp only[] at hr
 split at hr
 ·cases hr
  refine keep (w87 fun v=>v= .d (.slice false 1 c8x)) ?_
  exact by (show _=_;kernel_rfl)
 ·cases hr
theorem k88:C3 B T88:=by
 refine C4 B9 k87 (fn:=Tryz.f88) (cd:=A7 Tryz.f88) (sp:=B8) (hn:=B1) Tryz.func88 (by kernel_rfl) (by kernel_rfl) A8 fun ds r hp hr=>?_
 unfold c88 at hp hr
 simp only[] at hr hp
 split at hr
 ·rename_i n d
  cases hr
  obtain ⟨⟨n0,n1⟩,d0,d1⟩:=hp
  refine keep (w88 n d fun v=>v=_) ?_
  have l1:=d4z n
  have l2:=d4z d
  have l3:(bA [47]).size=1:=rfl
  unfold f3d
  refine ⟨(by trivial),A5 (fun g=>?_) (fun g=>?_)⟩
  ·simp only[g,cond_true]
  ·simp only[g,cond_false]
   refine ⟨⟨n0,n1⟩,A5 (fun g=>?_) (fun g=>?_)⟩
   ·simp only[g,cond_true]
    exact ⟨⟨d0,d1⟩,by omega,by rw[U7];omega,(by trivial)⟩
   ·simp only[g,cond_false]
 ·cases hr
end Go.Ev.R2
end
section
namespace Go.Ev.R2
open Go Go.Ev Go.Proofs
theorem d2f:∀(k n:Nat),b3j k n=c4x k n
 | 0,n=>rfl
 | k+1,n=>by
  unfold b3j c4x
  by_cases h:n<10
  ·rw[decide_eq_true h,cond_true,if_pos h]
  ·rw[decide_eq_false h,cond_false,if_neg h,d2f k (n / 10)]
theorem a4b {n:Int} (h:0≤n):g9 n=Q3 n:=by
 unfold g9 b6b Q3
 rw[decide_eq_false (show ¬n<0 by omega),cond_false,d2f]
theorem f2m {n:Int} (h:n<0):g9 n=ByteArray.mk (Array.mk [45])++Q3 (n.natAbs:Nat):=by
 unfold g9 b6b Q3
 rw[decide_eq_true h,cond_true,Int.toNat_natCast,d2f]
 exact f4h [45] (c4x 20 n.natAbs)
theorem b6o (a b c:ByteArray):a++b++c=a++(b++c):=ByteArray.ext (by simp[ByteArray.data_append])
theorem g8y {n d:Int} (h:X0 n d=0):f3d n d=b8y n d:=by
 have hr:=b7b (n:=n) (d:=d) (by rw[h];rfl)
 unfold f3d b8y
 rw[h]
 have e0:((0:Int) !=0)=false:=rfl
 rw[e0,cond_false,cond_false]
 have hd:(d !=1)=decide (d>1):=by
  by_cases g:d=1
  ·subst g;rfl
  ·rw[decide_eq_true (show d>1 by omega)];simpa using g
 rw[hd,a4b (n:=d) (by omega)]
 by_cases g:n<0
 ·rw[decide_eq_true g,f2m g,cond_true,b6o,b6o,b6o]
 ·rw[decide_eq_false g,a4b (by omega),cond_false,show ((n.natAbs:Nat):Int)=n by omega,b6o]
theorem c7s (a b:ByteArray):D9 (a++b)=D9 a++D9 b:=by
 unfold D9;rw[ByteArray.data_append];simp
theorem d3v:∀(l:List D) (fi nl:Bool) (xs:List D) (a:ByteArray),(E4 fi nl (xs++D9 a) l).2=xs++D9 (a2j fi a l)
 | [],fi,nl,xs,a=>rfl
 | x::r,fi,nl,xs,a=>by
  have e:D2 fi (xs++D9 a) (A4 x)=xs++D9 (bif fi then a++A4 x else a++ByteArray.mk (Array.mk [32])++A4 x):=by
   unfold D2
   cases fi<;>simp only[cond_true,cond_false,c7s,List.append_assoc]<;>rfl
  unfold a2j E4
  rw[←d3v r false _ _ _, ←e]
theorem d3u (fi nl:Bool) (xs l:List D):(E4 true nl (D2 fi xs (ByteArray.mk (Array.mk [40]))) l).2++ [bD8 41]=D2 fi xs (G2 l):=by
 have h:∀zs:List D,(E4 true nl (zs++D9 (ByteArray.mk (Array.mk [40]))) l).2++ [bD8 41]=zs++D9 (G2 l):=fun zs=>by
  rw[d3v]
  unfold G2
  rw[c7s,List.append_assoc]
  rfl
 unfold D2
 cases fi
 ·exact h _
 ·exact h _
theorem b6c {i:Nat} {y:D} (h:G4 i y=false):C7 i y= []:=by unfold C7;rw[h];rfl
theorem e5y (y:D):C7 15 y++C7 19 y++C7 23 y=C7 23 y++C7 15 y++C7 19 y:=by
 cases h:kd y==7 with
 | false=>rw[b6c (i:=23) (y:=y) h];simp
 | true =>
  have hk:kd y=7:=by simpa using h
  have h15:G4 15 y=false:=by show hN (kd y) (fc y)=false;rw[hk];rfl
  have h19:G4 19 y=false:=by show ab (hT (kd y) (fc y)) (kd y !=5)=false;rw[hk];rfl
  rw[b6c h15,b6c h19];simp
theorem d3z (y:D):C7 27 y++C7 31 y=C7 31 y++C7 27 y:=by
 cases h:hP (kd y) with
 | false=>rw[b6c (i:=27) (y:=y) h];simp
 | true =>
  have hk:kd y=4∨kd y=9:=by
   unfold hP at h
   cases g:kd y==4 with
   | true=>left;simpa using g
   | false=>right;rw[g] at h;simpa [ob] using h
  have h31:G4 31 y=false:=by
   show hM (kd y)=false
   rcases hk with hk|hk<;>rw[hk]<;>rfl
  rw[b6c h31];simp
end Go.Ev.R2
end
section
namespace Go.Ev.R2
open Go Go.Ev Go.Proofs
set_option maxRecDepth 100000
abbrev wN (w r:B2) (t:D) (fi:Bool):Box:=.cells 75 [.opt w 0, .ref r, .d t,A6 fi]
abbrev hB (w:B2):Box:=.cells 113 [.ptr w 0]
def a8x (u:TypeId) (its:D→List D) (pre:D→Prop) (old:Bool→List D→Box):Sm:=⟨fun vals bs=>match bs with | [_, .cells _ cs,_, .arr _ _ _ _ xs _]=>pre (yOf cs)∧P2 (xs.length+L1 (its (yOf cs))+1)|_=>False,fun vals bs=>match vals,bs with
 | [.ptr [0,0] 0, .ptr [0,1] 0], [.cells 113 [.ptr [0,2] 0], .cells v cs, .cells 75 [.opt [0,2] 0, .ref [0,3], .d t, .d (.lit (.bool fi))], .arr true nl 5 1 xs []]=>bif v==u then one (.d (.tup [])) [hB [0,2], .cells v cs,wN [0,2] [2] t (fiA fi (its (yOf cs))),old nl xs] [buf (E4 fi nl xs (its (yOf cs))).1 (E4 fi nl xs (its (yOf cs))).2] else none
 | _,_=>none⟩
def a2y (K:FuncId) (u:TypeId) (its:D→List D) (pre:D→Prop):Sm:=⟨fun vals bs=>match bs with | [_,_, .cells _ cs, .arr _ _ _ _ xs _]=>pre (yOf cs)∧P2 (xs.length+L1 (its (yOf cs))+3)|_=>False,fun vals bs=>match vals,bs with
 | [.ptr [0,0] 0, .fn (.func K') [] [.ptr [0,1] 0, .ptr [0,2] 0]], [.cells 75 [.opt [0,0] 0, .ref [0,3], .d t, .d (.lit (.bool fi))], .cells 113 [.ptr [0,0] 0], .cells v cs, .arr true nl 5 1 xs []]=>bif K'==K&&v==u then one (.d (.tup [])) [wN [0,0] [2] t false,hB [0,0], .cells v cs,W3 nl xs] [buf false (D2 fi xs (G2 (its (yOf cs))))] else none
 | _,_=>none⟩
noncomputable def noS:Sm:=⟨fun _ _=>False,fun _ _=>none⟩
def w9 (a b:Sm):Sm:=⟨fun v bs=>match a.f v bs with|some _=>a.pre v bs|none=>b.pre v bs,fun v bs=>match a.f v bs with|some r=>some r|none=>b.f v bs⟩
abbrev c3r (y:D):List V:=[.d (iC y 0), .d (sC y 1), .d (sC y 2)]
noncomputable def mIt (y:D):List D:=[wdD opR (A1 (A0 y 0)),sDD y 1,qDD y 2]
abbrev b6m (n:Nat):List (List (B2×B2)):=[[([0,0],[0,0]),([0,1],[0,1]),([0,2],[0,2]),([0,3],[0,3]),([2],[n,2])]]
theorem i4z (t:D) (y:D) (fi:Bool) (nl:Bool) (xs:List D) (R:V→List Box→Prop):(F3 (Cn T88) T88 (H7 (e8d.add 84 noS)) 4 B8 B1 [Ad.opt [0,2] 0 [0,2] 0] (b6m 20) 156
 [V.ptr [0,0] 0,V.ptr [0,1] 0] (H6 [hB [0,2],Box.cells 98 (c3r y),wN [0,2] [0,3] t fi,buf nl xs]) R) =
 (True∧
 ((((0:Int)≤IntKind.i64.wrap (A1 (A0 y 0)-1))∧((IntKind.i64.wrap (A1 (A0 y 0)-1)).toNat<6∧zD (A4 (a2b.getD (IntKind.i64.wrap (A1 (A0 y 0)-1)).toNat D.any)) =
 a2b.getD (IntKind.i64.wrap (A1 (A0 y 0)-1)).toNat D.any))∧
 (s86.pre
 [V.ptr [0,0] 0,
 C6 (A4 (a2b.getD (IntKind.i64.wrap (A1 (A0 y 0)-1)).toNat D.any))]
 [Box.cells 75 [V.opt [0,0] 0,V.ref [0,1],V.d t,A6 fi],Box.arr true nl 5 1 xs []]∧
 (s86.pre [V.ptr [0,0] 0,C6 (A4 (A0 y 1))]
 [Box.cells 75 [V.opt [0,0] 0,V.ref [0,1],V.d t,A6 false],
 Box.arr true (J6 fi nl (A4 (a2b.getD (IntKind.i64.wrap (A1 (A0 y 0)-1)).toNat D.any))) 5 1
 (D2 fi xs (A4 (a2b.getD (IntKind.i64.wrap (A1 (A0 y 0)-1)).toNat D.any))) []]∧
 ((A4 (A0 y 2)).size.le 17592186044400∧
 (s86.pre [V.ptr [0,0] 0,C6 (K4 (A4 (A0 y 2)))]
 [Box.cells 75 [V.opt [0,0] 0,V.ref [0,1],V.d t,A6 false],
 Box.arr true false 5 1
 (D2 false (D2 fi xs (A4 (a2b.getD (IntKind.i64.wrap (A1 (A0 y 0)-1)).toNat D.any)))
 (A4 (A0 y 1)))
 []]∧
 R (V.d (D.tup []))
 [Box.cells 113 [V.ptr [0,2] 0],
 Box.cells 98
 [A3 (A1 (A0 y 0)),C6 (A4 (A0 y 1)),
 C6 (A4 (A0 y 2))],
 Box.cells 75 [V.opt [0,2] 0,V.ref [2],V.d t,A6 false],Box.arr false nl 5 1 xs [],
 Box.arr true false 5 1
 (D2 false
 (D2 false (D2 fi xs (A4 (a2b.getD (IntKind.i64.wrap (A1 (A0 y 0)-1)).toNat D.any)))
 (A4 (A0 y 1)))
 (K4 (A4 (A0 y 2))))
 []])))))):=by kernel_rfl
noncomputable def h4f:Sm:=a8x 98 mIt MTx W3
noncomputable def h2g:L4:=(e8d.add 84 noS).add 156 h4f
abbrev d2c (n:Nat):List (List (B2×B2)):=[[([0,0],[0,0]),([0,1],[0,1]),([0,2],[0,2]),([0,3],[0,3]),([2],[n,2])]]
abbrev a2f:ByteArray:=⟨#[40]⟩
def c9b (S:Sm) (v:TypeId) (cs:List V) (its:List D) (t:D) (fi nl:Bool) (xs:List D) (R:V→List Box→Prop):Prop :=
 s86.pre [.ptr [0,0] 0,C6 a2f] [wB [0,1] t fi,buf nl xs]∧S.pre [.ptr [0,0] 0, .ptr [0,1] 0] [hB [0,2], .cells v cs,wN [0,2] [0,3] t true,buf (J6 fi nl a2f) (D2 fi xs a2f)]∧
 b8x.pre [.ptr [0,0] 0, .d (.lit (.int .u8 41))] [wB [0,1] t (fiA true its),a5y true (J6 fi nl a2f) (D2 fi xs a2f) its]∧
 R (.d (.tup [])) [wN [0,0] [2] t false,hB [0,0], .cells v cs,W3 nl xs,buf false ((E4 true (J6 fi nl a2f) (D2 fi xs a2f) its).2++ [bD8 41])]
theorem i2p (t y:D) (fi nl:Bool) (xs:List D) (R:V→List Box→Prop):F3 (Cn T88) T88 (H7 h2g) 4 B8 B1 adW (d2c 16) 84 [.ptr [0,0] 0, .fn (.func 156) [] [.ptr [0,1] 0, .ptr [0,2] 0]] (H6 [wN [0,0] [0,3] t fi,hB [0,0], .cells 98 (c3r y),buf nl xs]) R=c9b (a8x 98 mIt MTx W3) 98 (c3r y) (mIt (yOf (c3r y))) t fi nl xs R:=by kernel_rfl
theorem a5b:∀{cs:List V} {ds:List D},yOf cs= .agg ds→(∀d∈ds,d≠ .any)→cs=ds.map V.d
 | [],ds,h,_=>by
  injection h with h;simp at h;subst h;rfl
 | v::cs, [],h,_=>by injection h with h;simp at h
 | v::cs,d::ds,h,hn=>by
  injection h with h
  simp only[List.map_cons,List.cons.injEq] at h
  have ih:=a5b (cs:=cs) (ds:=ds) (by unfold yOf;rw[h.2]) fun x hx=>hn x (by simp[hx])
  have hd:=hn d (by simp)
  rw[List.map_cons,ih]
  congr 1
  have h1:=h.1
  split at h1
  ·subst h1;rfl
  ·exact absurd h1.symm hd
theorem b5x {l r:List D} (h:r=sB []::l) (hw:Lim 16 r) {k:Int} (h1:1≤k) (h2:k.toNat<r.length) (h3:r.length≤100) :
  (0≤IntKind.i64.wrap (k-1)∧(IntKind.i64.wrap (k-1)).toNat<l.length∧ .lit (.string (A4 (r.getD k.toNat .any)))=l.getD (IntKind.i64.wrap (k-1)).toNat .any)∧A4 (l.getD (IntKind.i64.wrap (k-1)).toNat .any)=A4 (r.getD k.toNat .any):=by
 rw[Go.IntWalk.i64_in _ (by omega)]
 obtain ⟨j,hj⟩:∃j,k.toNat=j+1:=⟨k.toNat-1,by omega⟩
 have hj':(k-1).toNat=j:=by omega
 have hl:j<l.length:=by rw[h,hj] at h2;simpa using h2
 have e:r.getD k.toNat .any=l.getD j .any:=by rw[h,hj];simp[List.getD]
 rw[hj',e]
 refine ⟨⟨by omega,hl, ?_⟩,rfl⟩
 exact (hw _ (by rw[h];exact List.mem_cons_of_mem _ (D8 (xs:=l) hl))).1
theorem d4a:opR=sB []::a2b:=rfl
theorem d3c:J5=sB []::N2:=rfl
theorem e5x:u5=sB []::a9o:=rfl
theorem a4v {fi:Bool} {xs l:List D} {s:ByteArray} (h:xs.length+(s.size+1+L1 l)≤70368744177664):xs.length+1+s.size≤70368744177664∧(D2 fi xs s).length+L1 l≤70368744177664:=by
 have:=S8 fi xs s
 exact ⟨by omega,by omega⟩
theorem w3.cs {cs:List V} (h:w3 (yOf cs)):∃y,cs=c3r y:=⟨yOf cs,a5b (ds:=[iC (yOf cs) 0,sC (yOf cs) 1,sC (yOf cs) 2]) (Eq.symm h) (by intro d hd;simp at hd;rcases hd with rfl|rfl|rfl<;>simp)⟩
theorem h4i:H9 B (e8d.add 84 noS):=P9 f6c fun vals bs c x y hp hf=>by cases hf
theorem i6r:H9 B h2g:=by
 refine P9 h4i fun vals bs c x y hp hf=>?_
 unfold h4f a8x at hp hf
 simp only[] at hp hf
 split at hf
 case h_2=>cases hf
 rename_i v cs t fi nl xs
 cases hv:v==98 with
 | false=>rw[hv] at hf;cases hf
 | true =>
  obtain rfl:v=98:=by simpa using hv
  simp only[one,hv,cond_true,Option.some.injEq,Prod.mk.injEq] at hf
  obtain ⟨rfl,rfl,rfl⟩:=hf
  obtain ⟨hm,hr⟩:=hp
  obtain ⟨y,rfl⟩:=hm.1.cs
  have hr:xs.length+((A4 (opR.getD (A1 (A0 y 0)).toNat .any)).size+1+L1 [sDD y 1,qDD y 2])≤70368744177664:=Nat.le_trans (Nat.le_succ _) hr
  obtain ⟨hf,k1,k2,z1,z2⟩:=hm
  obtain ⟨n1,n2⟩:=b5x (k:=A1 (A0 y 0)) d4a a6j k1 k2 (by decide)
  refine F6 B9 k88 h4i (fn:=Tryz.f156) (cd:=A7 Tryz.f156) (sp:=B8) (hn:=B1) (k:=4) (ads:=[.opt [0,2] 0 [0,2] 0]) (ends:=b6m 20) Tryz.func156 (by kernel_rfl) (by kernel_rfl) (by kernel_rfl) (by kernel_rfl) A8 rfl rfl (keep (i4z t y fi nl xs _) ?_)
  rw[n2]
  obtain ⟨r1,r2⟩:=a4v (fi:=fi) hr
  obtain ⟨r3,r4⟩:=a4v (fi:=false) (s:=A4 (A0 y 1)) r2
  obtain ⟨r5,r6⟩:=a4v (fi:=false) (s:=K4 (A4 (A0 y 2))) r4
  refine ⟨(by trivial),n1,r1,r3,Nat.le_trans z2 (by decide),r5,rfl, ?_⟩
  cases fi<;>rfl
theorem g4q {stb:L4} {K:FuncId} {S old:Sm} (hs:H9 B stb) (ho:stb K=some old) (hc:∀vals bs c x y,S.pre vals bs→S.f vals bs=some (c,x,y)→N8 B.P K∧R8 B K vals (H6 bs) fun r' H'=>r'=(bif c then x else y).1∧H'=Y1 (bif c then x else y).2.1 (bif c then x else y).2.2):H9 B (stb.add K (w9 S old)):=by
 refine P9 hs fun vals bs c x y hp hf=>?_
 unfold w9 at hp hf
 simp only[] at hp hf
 cases h:S.f vals bs with
 | some r=>rw[h] at hp hf;exact hc vals bs c x y hp (by rw[h];exact hf)
 | none=>rw[h] at hp hf;exact hs K old vals bs c x y ho hp hf
theorem Z5 (its:List D):L1 its+1≤(G2 its).size:=by
 have key:∀(l:List D) (f:Bool) (a:ByteArray),a.size+L1 l≤(a2j f a l).size+(bif f then 1 else 0):=by
  intro l
  induction l with
  | nil=>intro f a;simp[L1,a2j]
  | cons y l ih =>
   intro f a
   unfold a2j L1
   have:=ih false (bif f then a++A4 y else a++ByteArray.mk (Array.mk [32])++A4 y)
   cases f
   ·simp only[cond_false,U7] at this ⊢
    have e:(ByteArray.mk (Array.mk [32])).size=1:=rfl
    rw[e] at this;omega
   ·simp only[cond_true,cond_false,U7] at this ⊢
    omega
 have:=key its true (ByteArray.mk (Array.mk [40]))
 unfold G2
 rw[U7]
 have e1:(ByteArray.mk (Array.mk [40])).size=1:=rfl
 have e2:(ByteArray.mk (Array.mk [41])).size=1:=rfl
 rw[e1] at this
 rw[e2]
 simp only[cond_true] at this
 omega
theorem g7o {S:Sm} {v:TypeId} {cs:List V} {its:List D} {t:D} {fi nl:Bool} {xs:List D} {R:V→List Box→Prop} (hr:xs.length+L1 its+3≤70368744177664)
  (hS:(D2 fi xs a2f).length+L1 its+1≤70368744177664→S.pre [.ptr [0,0] 0, .ptr [0,1] 0] [hB [0,2], .cells v cs,wN [0,2] [0,3] t true,buf (J6 fi nl a2f) (D2 fi xs a2f)])
  (hR:R (.d (.tup [])) [wN [0,0] [2] t false,hB [0,0], .cells v cs,W3 nl xs,buf false (D2 fi xs (G2 its))]):c9b S v cs its t fi nl xs R:=by
 have h1:(D2 fi xs a2f).length≤xs.length+1+1:=S8 fi xs a2f
 have h2:=u3 its true (J6 fi nl a2f) (D2 fi xs a2f)
 refine ⟨by show xs.length+1+1≤70368744177664;omega,hS (by omega),by show (E4 true (J6 fi nl a2f) (D2 fi xs a2f) its).2.length+1≤70368744177664;omega, ?_⟩
 rw[d3u]
 exact hR
theorem a8c {U:L4} (hU:H9 B U) {old:Sm} (ho:U 84=some old) {K:FuncId} {u:TypeId} {its:D→List D} {pre:D→Prop} {ob:Bool→List D→Box} {mk:D→List V} (hmk:∀cs,pre (yOf cs)→∃y,cs=mk y)
  (hw:∀(t y:D) (fi nl:Bool) (xs:List D) (R:V→List Box→Prop),F3 (Cn T88) T88 (H7 U) 4 B8 B1 adW (d2c 16) 84 [.ptr [0,0] 0, .fn (.func K) [] [.ptr [0,1] 0, .ptr [0,2] 0]] (H6 [wN [0,0] [0,3] t fi,hB [0,0], .cells u (mk y),buf nl xs]) R=c9b (a8x u its pre ob) u (mk y) (its (yOf (mk y))) t fi nl xs R) :
  H9 B (U.add 84 (w9 (a2y K u its pre) old)):=by
 refine g4q hU ho fun vals bs c x y hp hf=>?_
 unfold a2y at hp hf
 simp only[] at hp hf
 split at hf
 case h_2=>cases hf
 rename_i K' t fi v cs nl xs
 cases hv:(K'==K&&v==u) with
 | false=>rw[hv] at hf;cases hf
 | true =>
  obtain ⟨h1,h2⟩:K'=K∧v=u:=by simpa using hv
  subst h1 h2
  simp only[one,hv,cond_true,Option.some.injEq,Prod.mk.injEq] at hf
  obtain ⟨rfl,rfl,rfl⟩:=hf
  obtain ⟨hm,hr⟩:=hp
  obtain ⟨y,rfl⟩:=hmk _ hm
  refine F6 B9 k88 hU (fn:=Tryz.f84) (cd:=A7 Tryz.f84) (sp:=B8) (hn:=B1) (k:=4) (ads:=adW) (ends:=d2c 16) Tryz.func84 (by kernel_rfl) (by kernel_rfl) (by kernel_rfl) (by kernel_rfl) A8 rfl rfl (keep (hw t y fi nl xs _) ?_)
  exact g7o hr (fun h=>⟨hm,h⟩) ⟨rfl,rfl⟩
noncomputable def f9o:L4:=h2g.add 84 (w9 (a2y 156 98 mIt MTx) noS)
theorem f6a:H9 B f9o:=a8c i6r rfl (fun cs h=>h.1.cs) i2p
noncomputable def l90:Code:=D7 (C5 (A7 Tryz.f90) 4)
abbrev aI:List (B2×B2):=[([0,0],[0,0]),([5001],[4]),([5000],[0,1])]
abbrev aJ (n:B2):List (B2×B2):=[([0,0],[0,0]),([5001],[5001]),([5000],n),([0,1],[0,1])]
abbrev aN:List B2:=[[0,0],[5001],[5000],[0,1]]
abbrev eW2:List (List (B2×B2)):=[[([0,0],[0,0]),([0,1],[0,1]),([2],[5000])]]
def e2p (N:Nat) (z:Nat) (ok:List D→Prop) (g:D→D):Ev.Spec:={L:=[2,6,7,8],ns:=aI,L':=[],nm':=aN,G:=fun M vals bs k=>match vals,bs with
 | [.ptr [5001] 0, .d (.slice b e ys), .d (.lit (.int .i64 n)), .d (.lit (.int .i64 i))], [.cells 75 [.opt [0,0] 0, .ref [5000], .d t, .d (.lit (.bool fi))], .cells 113 [.ptr [0,0] 0], .arr true nl 5 1 xs [], .junk]=>(M=N∧e=z∧i=0∧n=ys.length∧ok ys∧P2 (xs.length+L1 (ys.map g)+1))∧k (.exit 0) [] [wB [5000] t (fiA fi ys),hB [0,0],a5y fi nl xs (ys.map g), .junk]
 | _,_=>False }
def e9a (z:Nat) (ok:List D→Prop) (g:D→D):Sm:=⟨fun vals bs=>match vals,bs with | [_, .d (.slice _ _ ys)], [_, .arr _ _ _ _ xs _]=>ok ys∧P2 (xs.length+L1 (ys.map g)+1)|_,_=>False,fun vals bs=>match vals,bs with
 | [.ptr [0,0] 0, .d (.slice _ e ys)], [.cells 75 [.opt [0,0] 0, .ref [0,1], .d t, .d (.lit (.bool fi))], .arr true nl 5 1 xs []]=>bif e==z then one (.d (.tup [])) [wB [2] t (fiA fi ys), .junk] [buf (E4 fi nl xs (ys.map g)).1 (E4 fi nl xs (ys.map g)).2] else none
 | _,_=>none⟩
theorem b90 (t:D) (fi:Bool) (nl:Bool) (b:Bool) (xs:List D) (ys:List D) (n:Int) (i:Int) (R:X→List V→List Box→Prop):(E1 (Cn T88) T88 (H7 f9o) 2 B8 B1 l90 16 [2,6,7,8] aN [] (aJ [16,2]) [] (aJ [5000])
 [V.ptr [5001] 0,V.d (D.slice b 3 ys),A3 n,A3 i] [wB [5000] t fi,hB [0,0],buf nl xs,Box.junk] R) =
 (bif decide (i<n) then
 ((((0:Int)≤i)∧(i.toNat<ys.length∧mV (ys.getD i.toNat D.any)=ys.getD i.toNat D.any))∧
 ((w9 (a2y 156 98 mIt MTx) noS).pre [V.ptr [0,0] 0,V.fn (Fn.func 156) [] [V.ptr [0,1] 0,V.ptr [0,2] 0]]
 [Box.cells 75 [V.opt [0,0] 0,V.ref [0,3],V.d t,A6 fi],Box.cells 113 [V.ptr [0,0] 0],
 Box.cells 98
 [A3 (A1 (A0 (ys.getD i.toNat D.any) 0)),
 C6 (A4 (A0 (ys.getD i.toNat D.any) 1)),
 C6 (A4 (A0 (ys.getD i.toNat D.any) 2))],
 Box.arr true nl 5 1 xs []]∧
 (16=16∧
 R X.normal
 [V.ptr [5001] 0,V.d (D.slice b 3 ys),A3 n,
 A3 (IntKind.i64.wrap (i+1))]
 [Box.cells 75 [V.opt [0,0] 0,V.ref [5000],V.d t,A6 false],Box.cells 113 [V.ptr [0,0] 0],
 Box.arr true false 5 1
 (D2 fi xs
 (G2
 [zD (A4
 (opR.getD (A1 (iD (A1 (A0 (ys.getD i.toNat D.any) 0)))).toNat
 D.any)),
 zD (A4 (zD (A4 (A0 (ys.getD i.toNat D.any) 1)))),
 zD (K4 (A4 (zD (A4 (A0 (ys.getD i.toNat D.any) 2)))))]))
 [],
 Box.junk]))) else
 (16=16∧
 R (X.exit 0) []
 [Box.cells 75 [V.opt [0,0] 0,V.ref [5000],V.d t,A6 fi],Box.cells 113 [V.ptr [0,0] 0],
 Box.arr true nl 5 1 xs [],Box.junk])):=by kernel_rfl
noncomputable def S90:Ev.Spec:=e2p 16 3 b2m M7
theorem w90 (t:D) (fi nl b:Bool) (xs ys:List D) (R:V→List Box→Prop):F3 (Cn T88) T88 (H7 f9o) 2 (spL [(4,S90)]) B1 adW eW2 90 [.ptr [0,0] 0, .d (.slice b 3 ys)] (H6 [wB [0,1] t fi,buf nl xs]) R=((16=16∧3=3∧(0:Int)=0∧(ys.length:Int)=ys.length∧b2m ys∧P2 (xs.length+L1 (ys.map M7)+1))∧R (.d (.tup [])) [wB [2] t (fiA fi ys), .junk,a5y fi nl xs (ys.map M7)]):=by kernel_rfl
noncomputable def s90:Sm:=e9a 3 b2m M7
noncomputable def U90:L4:=f9o.add 90 s90
theorem e2m {C:Cx} {l:Code} {N z:Nat} {ok:List D→Prop} {g:D→D} (hN:∀ys,ok ys→ys.length≤4096)
  (h1:∀(t:D) (b fi nl:Bool) (xs ys:List D) (i:Nat) (K:X→List V→List Box→Prop),ok ys→i<ys.length→P2 (xs.length+1+(A4 (g (ys.getD i .any))).size+1)→J2 C 2 l N [2,6,7,8] aN [] aN [.ptr [5001] 0, .d (.slice b z ys),A3 ys.length,A3 ((i+1:Nat):Int)] [wB [5000] t false,hB [0,0],buf (J6 fi nl (A4 (g (ys.getD i .any)))) (D2 fi xs (A4 (g (ys.getD i .any)))), .junk] K→J2 C 2 l N [2,6,7,8] aN [] aN [.ptr [5001] 0, .d (.slice b z ys),A3 ys.length,A3 i] [wB [5000] t fi,hB [0,0],buf nl xs, .junk] K)
  (h2:∀(t:D) (b fi nl:Bool) (xs ys:List D) (K:X→List V→List Box→Prop),K (.exit 0) [] [wB [5000] t fi,hB [0,0],buf nl xs, .junk]→J2 C 2 l N [2,6,7,8] aN [] aN [.ptr [5001] 0, .d (.slice b z ys),A3 ys.length,A3 ys.length] [wB [5000] t fi,hB [0,0],buf nl xs, .junk] K):OkS C 2 (.loop l) (e2p N z ok g):=by
 refine D0 fun M vals bs K h=>?_
 simp only[e2p] at h
 split at h
 case h_2=>exact h.elim
 rename_i b e ys n i t fi nl xs
 obtain ⟨⟨rfl,rfl,rfl,rfl,hall,hr⟩,h⟩:=h
 exact e2n (vals:=fun i=>[.ptr [5001] 0, .d (.slice b e ys),A3 ys.length,A3 i]) (bsO:=fun fi r=>[wB [5000] t fi,hB [0,0],r, .junk]) (e:=0) (valsX:=[]) ys g 1 (fun i fi nl xs hi hr hK=>h1 t b fi nl xs ys i K hall hi hr hK) (fun fi nl xs hK=>h2 t b fi nl xs ys K hK) ys 0 fi nl xs rfl (by simp) hr h
theorem c2i {i:Nat} {ys:List D} (h:i<ys.length) (hl:ys.length≤4096):decide ((i:Int)<(ys.length:Int))=true∧IntKind.i64.wrap ((i:Int)+1)=((i+1:Nat):Int):=⟨by simp;omega,by rw[Go.IntWalk.i64_in _ (by omega)];omega⟩
theorem c2h {n:Nat}:decide ((n:Int)<(n:Int))=false:=by simp
theorem b5v {fi nl:Bool} {its:List D}:J6 fi nl (G2 its)=false:=by
 have h:(D9 (G2 its)).isEmpty=false:=by
  cases e:D9 (G2 its) with
  | nil =>
   have h1:=Z5 its
   have h2:=v7 (G2 its)
   rw[e] at h2;simp at h2;omega
  | cons a l=>rfl
 unfold J6
 rw[h]
 cases fi
 ·rfl
 ·cases nl<;>rfl
theorem i6w:OkS (Cn T88) 2 (.loop l90) S90:=by
 refine e2m (fun ys h=>Nat.le_trans h.1 (by decide)) (fun t b fi nl xs ys i K hall hi hr hK=>?_) fun t b fi nl xs ys K hK=>?_
 ·refine B5 (L8 B9 k88 f6a) C0 A8 (hn:=B1) (adsI:=[]) (nsI:=aJ [16,2]) (nsX:=aJ [5000]) rfl rfl (keep (b90 t fi nl b xs ys ys.length i _) ?_)
  obtain ⟨e1,e2⟩:=c2i hi (Nat.le_trans hall.1 (by decide))
  have hm:=hall.2 _ (D8 hi)
  rw[show A4 (M7 (ys.getD i .any))=G2 (mIt (ys.getD i .any)) from rfl,b5v] at hK
  have hl:=Z5 (mIt (ys.getD i .any))
  simp only[e1,Int.toNat_natCast,e2,cond_true]
  have hr:xs.length+1+(G2 (mIt (ys.getD i .any))).size+1≤70368744177664:=hr
  refine ⟨⟨by omega,hi,hm.1⟩,⟨by show MTx (mV _);rw[show mV (ys.getD i .any)=ys.getD i .any from hm.1];exact hm,by show xs.length+L1 (mIt (ys.getD i .any))+3≤_;omega⟩,(by trivial),hK⟩
 ·refine B5 (L8 B9 k88 f6a) C0 A8 (hn:=B1) (adsI:=[]) (nsI:=aJ [16,2]) (nsX:=aJ [5000]) rfl rfl (keep (b90 t fi nl b xs ys ys.length ys.length _) ?_)
  rw[c2h]
  exact ⟨(by trivial),hK⟩
theorem q90:H9 B U90:=by
 refine P9 f6a fun vals bs c x y hp hf=>?_
 unfold s90 e9a at hp hf
 simp only[] at hp hf
 split at hf
 case h_2=>cases hf
 rename_i b e ys t fi nl xs
 cases hv:e==3 with
 | false=>rw[hv] at hf;cases hf
 | true =>
  obtain rfl:e=3:=by simpa using hv
  simp only[one,hv,cond_true,Option.some.injEq,Prod.mk.injEq] at hf
  obtain ⟨rfl,rfl,rfl⟩:=hf
  refine F6 B9 k88 f6a (fn:=Tryz.f90) (cd:=A7 Tryz.f90) (sp:=spL [(4,S90)]) (hn:=B1) (k:=2) (ads:=adW) (ends:=eW2) Tryz.func90 (by kernel_rfl) (by kernel_rfl) (by kernel_rfl) (by kernel_rfl) (B7 (c:=.loop l90) (by kernel_rfl) i6w C8) rfl rfl (keep (w90 t fi nl b xs ys _) ?_)
  exact ⟨⟨rfl,rfl,rfl,rfl,hp⟩,rfl,rfl⟩
abbrev a8f (y:D):List V:=[.d (iC y 0), .d (sC y 1), .d (lC y 2 3), .d (lC y 3 1)]
abbrev b4q (y:D):List V:=[.d (sC y 0), .d (iC y 1), .d (sC y 2), .d (iC y 3)]
abbrev adC:List Ad:=[.opt [0,2] 0 [0,2] 0]
theorem i4u (t:D) (y:D) (fi:Bool) (nl:Bool) (xs:List D) (R:V→List Box→Prop):(F3 (Cn T88) T88 (H7 U90) 4 B8 B1 adC (b6m 27) 161 [V.ptr [0,0] 0,V.ptr [0,1] 0]
 (H6 [hB [0,2],Box.cells 65 (a8f y),wN [0,2] [0,3] t fi,buf nl xs]) R) =
 (True∧
 ((((0:Int)≤IntKind.i64.wrap (A1 (A0 y 0)-1))∧((IntKind.i64.wrap (A1 (A0 y 0)-1)).toNat<8∧zD (A4 (N2.getD (IntKind.i64.wrap (A1 (A0 y 0)-1)).toNat D.any)) =
 N2.getD (IntKind.i64.wrap (A1 (A0 y 0)-1)).toNat D.any))∧
 (s86.pre
 [V.ptr [0,0] 0,
 C6 (A4 (N2.getD (IntKind.i64.wrap (A1 (A0 y 0)-1)).toNat D.any))]
 [Box.cells 75 [V.opt [0,0] 0,V.ref [0,1],V.d t,A6 fi],Box.arr true nl 5 1 xs []]∧
 (bif decide (A1 (A0 y 0)≤3) then
 ((A4 (A0 y 1)).size.le 17592186044400∧
 (s86.pre [V.ptr [0,0] 0,C6 (K4 (A4 (A0 y 1)))]
 [Box.cells 75 [V.opt [0,0] 0,V.ref [0,1],V.d t,A6 false],
 Box.arr true (J6 fi nl (A4 (N2.getD (IntKind.i64.wrap (A1 (A0 y 0)-1)).toNat D.any))) 5 1
 (D2 fi xs (A4 (N2.getD (IntKind.i64.wrap (A1 (A0 y 0)-1)).toNat D.any))) []]∧
 (s90.pre [V.ptr [0,0] 0,V.d (D.slice (E5 (A0 y 2)) 3 (A2 (A0 y 2)))]
 [Box.cells 75 [V.opt [0,0] 0,V.ref [0,1],V.d t,A6 false],
 Box.arr true false 5 1
 (D2 false (D2 fi xs (A4 (N2.getD (IntKind.i64.wrap (A1 (A0 y 0)-1)).toNat D.any)))
 (K4 (A4 (A0 y 1))))
 []]∧
 (e5p.pre [V.ptr [0,0] 0,V.d (D.slice (E5 (A0 y 3)) 1 (A2 (A0 y 3)))]
 [Box.cells 75 [V.opt [0,0] 0,V.ref [0,1],V.d t,A6 false],
 Box.arr true
 (E4 false false
 (D2 false (D2 fi xs (A4 (N2.getD (IntKind.i64.wrap (A1 (A0 y 0)-1)).toNat D.any)))
 (K4 (A4 (A0 y 1))))
 (List.map M7 (A2 (A0 y 2)))).fst
 5 1
 (E4 false false
 (D2 false (D2 fi xs (A4 (N2.getD (IntKind.i64.wrap (A1 (A0 y 0)-1)).toNat D.any)))
 (K4 (A4 (A0 y 1))))
 (List.map M7 (A2 (A0 y 2)))).snd
 []]∧
 R (V.d (D.tup []))
 [Box.cells 113 [V.ptr [0,2] 0],
 Box.cells 65
 [A3 (A1 (A0 y 0)),C6 (A4 (A0 y 1)),
 V.d (D.slice (E5 (A0 y 2)) 3 (A2 (A0 y 2))),
 V.d (D.slice (E5 (A0 y 3)) 1 (A2 (A0 y 3)))],
 Box.cells 75 [V.opt [0,2] 0,V.ref [2],V.d t,A6 false],Box.arr false nl 5 1 xs [],
 Box.arr true
 (E4 false
 (E4 false false
 (D2 false (D2 fi xs (A4 (N2.getD (IntKind.i64.wrap (A1 (A0 y 0)-1)).toNat D.any)))
 (K4 (A4 (A0 y 1))))
 (List.map M7 (A2 (A0 y 2)))).fst
 (E4 false false
 (D2 false (D2 fi xs (A4 (N2.getD (IntKind.i64.wrap (A1 (A0 y 0)-1)).toNat D.any)))
 (K4 (A4 (A0 y 1))))
 (List.map M7 (A2 (A0 y 2)))).snd
 (A2 (A0 y 3))).fst
 5 1
 (E4 false
 (E4 false false
 (D2 false (D2 fi xs (A4 (N2.getD (IntKind.i64.wrap (A1 (A0 y 0)-1)).toNat D.any)))
 (K4 (A4 (A0 y 1))))
 (List.map M7 (A2 (A0 y 2)))).fst
 (E4 false false
 (D2 false (D2 fi xs (A4 (N2.getD (IntKind.i64.wrap (A1 (A0 y 0)-1)).toNat D.any)))
 (K4 (A4 (A0 y 1))))
 (List.map M7 (A2 (A0 y 2)))).snd
 (A2 (A0 y 3))).snd
 []])))) else
 (s90.pre [V.ptr [0,0] 0,V.d (D.slice (E5 (A0 y 2)) 3 (A2 (A0 y 2)))]
 [Box.cells 75 [V.opt [0,0] 0,V.ref [0,1],V.d t,A6 false],
 Box.arr true (J6 fi nl (A4 (N2.getD (IntKind.i64.wrap (A1 (A0 y 0)-1)).toNat D.any))) 5 1
 (D2 fi xs (A4 (N2.getD (IntKind.i64.wrap (A1 (A0 y 0)-1)).toNat D.any))) []]∧
 (e5p.pre [V.ptr [0,0] 0,V.d (D.slice (E5 (A0 y 3)) 1 (A2 (A0 y 3)))]
 [Box.cells 75 [V.opt [0,0] 0,V.ref [0,1],V.d t,A6 false],
 Box.arr true
 (E4 false (J6 fi nl (A4 (N2.getD (IntKind.i64.wrap (A1 (A0 y 0)-1)).toNat D.any)))
 (D2 fi xs (A4 (N2.getD (IntKind.i64.wrap (A1 (A0 y 0)-1)).toNat D.any)))
 (List.map M7 (A2 (A0 y 2)))).fst
 5 1
 (E4 false (J6 fi nl (A4 (N2.getD (IntKind.i64.wrap (A1 (A0 y 0)-1)).toNat D.any)))
 (D2 fi xs (A4 (N2.getD (IntKind.i64.wrap (A1 (A0 y 0)-1)).toNat D.any)))
 (List.map M7 (A2 (A0 y 2)))).snd
 []]∧
 R (V.d (D.tup []))
 [Box.cells 113 [V.ptr [0,2] 0],
 Box.cells 65
 [A3 (A1 (A0 y 0)),C6 (A4 (A0 y 1)),
 V.d (D.slice (E5 (A0 y 2)) 3 (A2 (A0 y 2))),
 V.d (D.slice (E5 (A0 y 3)) 1 (A2 (A0 y 3)))],
 Box.cells 75 [V.opt [0,2] 0,V.ref [2],V.d t,A6 false],Box.arr false nl 5 1 xs [],
 Box.arr true
 (E4 false
 (E4 false (J6 fi nl (A4 (N2.getD (IntKind.i64.wrap (A1 (A0 y 0)-1)).toNat D.any)))
 (D2 fi xs (A4 (N2.getD (IntKind.i64.wrap (A1 (A0 y 0)-1)).toNat D.any)))
 (List.map M7 (A2 (A0 y 2)))).fst
 (E4 false (J6 fi nl (A4 (N2.getD (IntKind.i64.wrap (A1 (A0 y 0)-1)).toNat D.any)))
 (D2 fi xs (A4 (N2.getD (IntKind.i64.wrap (A1 (A0 y 0)-1)).toNat D.any)))
 (List.map M7 (A2 (A0 y 2)))).snd
 (A2 (A0 y 3))).fst
 5 1
 (E4 false
 (E4 false (J6 fi nl (A4 (N2.getD (IntKind.i64.wrap (A1 (A0 y 0)-1)).toNat D.any)))
 (D2 fi xs (A4 (N2.getD (IntKind.i64.wrap (A1 (A0 y 0)-1)).toNat D.any)))
 (List.map M7 (A2 (A0 y 2)))).fst
 (E4 false (J6 fi nl (A4 (N2.getD (IntKind.i64.wrap (A1 (A0 y 0)-1)).toNat D.any)))
 (D2 fi xs (A4 (N2.getD (IntKind.i64.wrap (A1 (A0 y 0)-1)).toNat D.any)))
 (List.map M7 (A2 (A0 y 2)))).snd
 (A2 (A0 y 3))).snd
 []])))))):=by kernel_rfl
noncomputable def i6g:Sm:=a8x 65 a3b STx W3
noncomputable def h2d:L4:=U90.add 161 i6g
theorem i2q (t y:D) (fi nl:Bool) (xs:List D) (R:V→List Box→Prop):F3 (Cn T88) T88 (H7 h2d) 4 B8 B1 adW (d2c 16) 84 [.ptr [0,0] 0, .fn (.func 161) [] [.ptr [0,1] 0, .ptr [0,2] 0]] (H6 [wN [0,0] [0,3] t fi,hB [0,0], .cells 65 (a8f y),buf nl xs]) R=c9b (a8x 65 a3b STx W3) 65 (a8f y) (a3b (yOf (a8f y))) t fi nl xs R:=by kernel_rfl
noncomputable def f9p:L4:=h2d.add 84 (w9 (a2y 161 65 a3b STx) (w9 (a2y 156 98 mIt MTx) noS))
noncomputable def l93:Code:=D7 (C5 (A7 Tryz.f93) 4)
theorem b93 (t:D) (fi:Bool) (nl:Bool) (b:Bool) (xs:List D) (ys:List D) (n:Int) (i:Int) (R:X→List V→List Box→Prop):(E1 (Cn T88) T88 (H7 f9p) 2 B8 B1 l93 16 [2,6,7,8] aN [] (aJ [16,2]) [] (aJ [5000])
 [V.ptr [5001] 0,V.d (D.slice b 4 ys),A3 n,A3 i] [wB [5000] t fi,hB [0,0],buf nl xs,Box.junk] R) =
 (bif decide (i<n) then
 ((((0:Int)≤i)∧(i.toNat<ys.length∧gV (ys.getD i.toNat D.any)=ys.getD i.toNat D.any))∧
 ((w9 (a2y 161 65 a3b STx) (w9 (a2y 156 98 mIt MTx) noS)).pre
 [V.ptr [0,0] 0,V.fn (Fn.func 161) [] [V.ptr [0,1] 0,V.ptr [0,2] 0]]
 [Box.cells 75 [V.opt [0,0] 0,V.ref [0,3],V.d t,A6 fi],Box.cells 113 [V.ptr [0,0] 0],
 Box.cells 65
 [A3 (A1 (A0 (ys.getD i.toNat D.any) 0)),
 C6 (A4 (A0 (ys.getD i.toNat D.any) 1)),
 V.d (D.slice (E5 (A0 (ys.getD i.toNat D.any) 2)) 3 (A2 (A0 (ys.getD i.toNat D.any) 2))),
 V.d (D.slice (E5 (A0 (ys.getD i.toNat D.any) 3)) 1 (A2 (A0 (ys.getD i.toNat D.any) 3)))],
 Box.arr true nl 5 1 xs []]∧
 (16=16∧
 R X.normal
 [V.ptr [5001] 0,V.d (D.slice b 4 ys),A3 n,
 A3 (IntKind.i64.wrap (i+1))]
 [Box.cells 75 [V.opt [0,0] 0,V.ref [5000],V.d t,A6 false],Box.cells 113 [V.ptr [0,0] 0],
 Box.arr true false 5 1 (D2 fi xs (G2 (a3b (gV (ys.getD i.toNat D.any))))) [],Box.junk]))) else
 (16=16∧
 R (X.exit 0) []
 [Box.cells 75 [V.opt [0,0] 0,V.ref [5000],V.d t,A6 fi],Box.cells 113 [V.ptr [0,0] 0],
 Box.arr true nl 5 1 xs [],Box.junk])):=by kernel_rfl
noncomputable def S93:Ev.Spec:=e2p 16 4 b9d a5k
theorem w93 (t:D) (fi nl b:Bool) (xs ys:List D) (R:V→List Box→Prop):F3 (Cn T88) T88 (H7 f9p) 2 (spL [(4,S93)]) B1 adW eW2 93 [.ptr [0,0] 0, .d (.slice b 4 ys)] (H6 [wB [0,1] t fi,buf nl xs]) R=((16=16∧4=4∧(0:Int)=0∧(ys.length:Int)=ys.length∧b9d ys∧P2 (xs.length+L1 (ys.map a5k)+1))∧R (.d (.tup [])) [wB [2] t (fiA fi ys), .junk,a5y fi nl xs (ys.map a5k)]):=by kernel_rfl
noncomputable def s93:Sm:=e9a 4 b9d a5k
noncomputable def U93:L4:=f9p.add 93 s93
noncomputable def cIt (y:D):List D:=[wdD opR (A1 (A0 y 1)),sDD y 0,bif K0 (A4 (A0 y 0)) then .lit (.string (Q3 (A1 (A0 y 3)))) else qDD y 2]
theorem i4v (t:D) (y:D) (fi:Bool) (nl:Bool) (xs:List D) (R:V→List Box→Prop):(F3 (Cn T88) T88 (H7 U93) 4 B8 B1 adC (b6m 22++b6m 27) 160 [V.ptr [0,0] 0,V.ptr [0,1] 0]
 (H6 [hB [0,2],Box.cells 107 (b4q y),wN [0,2] [0,3] t fi,buf nl xs]) R) =
 (True∧
 ((((0:Int)≤IntKind.i64.wrap (A1 (A0 y 1)-1))∧((IntKind.i64.wrap (A1 (A0 y 1)-1)).toNat<6∧zD (A4 (a2b.getD (IntKind.i64.wrap (A1 (A0 y 1)-1)).toNat D.any)) =
 a2b.getD (IntKind.i64.wrap (A1 (A0 y 1)-1)).toNat D.any))∧
 (s86.pre
 [V.ptr [0,0] 0,
 C6 (A4 (a2b.getD (IntKind.i64.wrap (A1 (A0 y 1)-1)).toNat D.any))]
 [Box.cells 75 [V.opt [0,0] 0,V.ref [0,1],V.d t,A6 fi],Box.arr true nl 5 1 xs []]∧
 (s86.pre [V.ptr [0,0] 0,C6 (A4 (A0 y 0))]
 [Box.cells 75 [V.opt [0,0] 0,V.ref [0,1],V.d t,A6 false],
 Box.arr true (J6 fi nl (A4 (a2b.getD (IntKind.i64.wrap (A1 (A0 y 1)-1)).toNat D.any))) 5 1
 (D2 fi xs (A4 (a2b.getD (IntKind.i64.wrap (A1 (A0 y 1)-1)).toNat D.any))) []]∧
 (True∧
 (bif K0 (A4 (A0 y 0)) then
 (s94.pre [V.ptr [0,0] 0,A3 (A1 (A0 y 3))]
 [Box.cells 75 [V.opt [0,0] 0,V.ref [0,1],V.d t,A6 false],
 Box.arr true false 5 1
 (D2 false (D2 fi xs (A4 (a2b.getD (IntKind.i64.wrap (A1 (A0 y 1)-1)).toNat D.any)))
 (A4 (A0 y 0)))
 []]∧
 R (V.d (D.tup []))
 [Box.cells 113 [V.ptr [0,2] 0],
 Box.cells 107
 [C6 (A4 (A0 y 0)),A3 (A1 (A0 y 1)),
 C6 (A4 (A0 y 2)),A3 (A1 (A0 y 3))],
 Box.cells 75 [V.opt [0,2] 0,V.ref [2],V.d t,A6 false],Box.arr false nl 5 1 xs [],
 Box.arr true false 5 1
 (D2 false
 (D2 false (D2 fi xs (A4 (a2b.getD (IntKind.i64.wrap (A1 (A0 y 1)-1)).toNat D.any)))
 (A4 (A0 y 0)))
 (g9 (A1 (A0 y 3))))
 []]) else
 ((A4 (A0 y 2)).size.le 17592186044400∧
 (s86.pre [V.ptr [0,0] 0,C6 (K4 (A4 (A0 y 2)))]
 [Box.cells 75 [V.opt [0,0] 0,V.ref [0,1],V.d t,A6 false],
 Box.arr true false 5 1
 (D2 false (D2 fi xs (A4 (a2b.getD (IntKind.i64.wrap (A1 (A0 y 1)-1)).toNat D.any)))
 (A4 (A0 y 0)))
 []]∧
 R (V.d (D.tup []))
 [Box.cells 113 [V.ptr [0,2] 0],
 Box.cells 107
 [C6 (A4 (A0 y 0)),A3 (A1 (A0 y 1)),
 C6 (A4 (A0 y 2)),A3 (A1 (A0 y 3))],
 Box.cells 75 [V.opt [0,2] 0,V.ref [2],V.d t,A6 false],Box.arr false nl 5 1 xs [],
 Box.arr true false 5 1
 (D2 false
 (D2 false (D2 fi xs (A4 (a2b.getD (IntKind.i64.wrap (A1 (A0 y 1)-1)).toNat D.any)))
 (A4 (A0 y 0)))
 (K4 (A4 (A0 y 2))))
 []])))))))):=by kernel_rfl
noncomputable def i6h:Sm:=a8x 107 cIt CTx W3
noncomputable def h2e:L4:=U93.add 160 i6h
theorem i2t (t y:D) (fi nl:Bool) (xs:List D) (R:V→List Box→Prop):F3 (Cn T88) T88 (H7 h2e) 4 B8 B1 adW (d2c 16) 84 [.ptr [0,0] 0, .fn (.func 160) [] [.ptr [0,1] 0, .ptr [0,2] 0]] (H6 [wN [0,0] [0,3] t fi,hB [0,0], .cells 107 (b4q y),buf nl xs]) R=c9b (a8x 107 cIt CTx W3) 107 (b4q y) (cIt (yOf (b4q y))) t fi nl xs R:=by kernel_rfl
noncomputable def g9u:L4:=h2e.add 84 (w9 (a2y 160 107 cIt CTx) (w9 (a2y 161 65 a3b STx) (w9 (a2y 156 98 mIt MTx) noS)))
theorem b3e {U:L4} (hU:H9 B U) {K:FuncId} {u:TypeId} {its:D→List D} {pre:D→Prop} {ob:Bool→List D→Box} {mk:D→List V} (hmk:∀cs,pre (yOf cs)→∃y,cs=mk y)
  (hb:∀(t y:D) (fi nl:Bool) (xs:List D),pre (yOf (mk y))→xs.length+L1 (its (yOf (mk y)))+1≤70368744177664→N8 B.P K∧R8 B K [.ptr [0,0] 0, .ptr [0,1] 0] (H6 [hB [0,2], .cells u (mk y),wN [0,2] [0,3] t fi,buf nl xs]) fun r' H'=>r'= .d (.tup [])∧H'=Y1 [hB [0,2], .cells u (mk y),wN [0,2] [2] t (fiA fi (its (yOf (mk y)))),ob nl xs] [a5y fi nl xs (its (yOf (mk y)))]) :
  H9 B (U.add K (a8x u its pre ob)):=by
 refine P9 hU fun vals bs c x y hp hf=>?_
 unfold a8x at hp hf
 simp only[] at hp hf
 split at hf
 case h_2=>cases hf
 rename_i v cs t fi nl xs
 cases hv:v==u with
 | false=>rw[hv] at hf;cases hf
 | true =>
  obtain rfl:v=u:=by simpa using hv
  simp only[one,hv,cond_true,Option.some.injEq,Prod.mk.injEq] at hf
  obtain ⟨rfl,rfl,rfl⟩:=hf
  obtain ⟨hm,hr⟩:=hp
  obtain ⟨y,rfl⟩:=hmk _ hm
  exact hb t y fi nl xs hm hr
theorem d4c {a b c d:D} (ha:a≠ .any) (hb:b≠ .any) (hc:c≠ .any) (hd:d≠ .any):∀x∈ [a,b,c,d],x≠ .any:=by
 intro x hx
 simp only[List.mem_cons,List.not_mem_nil,or_false] at hx
 rcases hx with rfl|rfl|rfl|rfl<;>assumption
theorem a2a.cs {cs:List V} (h:a2a (yOf cs)):∃y,cs=a8f y:=⟨yOf cs,a5b (ds:=[iC (yOf cs) 0,sC (yOf cs) 1,lC (yOf cs) 2 3,lC (yOf cs) 3 1]) (Eq.symm h.v) (d4c (by simp) (by simp) (by simp) (by simp))⟩
theorem a3m.cs {cs:List V} (h:a3m (yOf cs)):∃y,cs=b4q y:=⟨yOf cs,a5b (ds:=[sC (yOf cs) 0,iC (yOf cs) 1,sC (yOf cs) 2,iC (yOf cs) 3]) (Eq.symm h) (d4c (by simp) (by simp) (by simp) (by simp))⟩
theorem b2b {fi:Bool} {y:D} {l:List D}:fiA fi (y::l)=false:=by cases fi<;>rfl
theorem i6o:H9 B h2d:=by
 refine b3e q90 (fun cs h=>h.1.cs) fun t y fi nl xs hm hr=>?_
 obtain ⟨hf,k1,k2,z1,h2,h3⟩:=hm
 have hk:A1 (A0 (yOf (a8f y)) 0)=A1 (A0 y 0):=rfl
 rw[hk] at k1 k2
 obtain ⟨n1,n2⟩:=b5x (k:=A1 (A0 y 0)) d3c b3x k1 k2 (by decide)
 refine F6 B9 k88 q90 (fn:=Tryz.f161) (cd:=A7 Tryz.f161) (sp:=B8) (hn:=B1) (k:=4) (ads:=adC) (ends:=b6m 27) Tryz.func161 (by kernel_rfl) (by kernel_rfl) (by kernel_rfl) (by kernel_rfl) A8 rfl rfl (keep (i4u t y fi nl xs _) ?_)
 rw[n2]
 have hn:b4u (A2 (A0 y 3)):=fun z hz=>(h3.2 z hz).1
 have hit:a3b (yOf (a8f y))=(bif decide (A1 (A0 y 0)≤3) then [wdD J5 (A1 (A0 y 0)),qDD y 1] else [wdD J5 (A1 (A0 y 0))])++((A2 (A0 y 2)).map M7++A2 (A0 y 3)):=by
  show (bif decide (A1 (A0 y 0)≤3) then [wdD J5 (A1 (A0 y 0)),qDD y 1] else [wdD J5 (A1 (A0 y 0))])++(A2 (A0 y 2)).map M7++A2 (A0 y 3)=_
  rw[List.append_assoc]
 rw[hit] at hr ⊢
 cases g:decide (A1 (A0 y 0)≤3) with
 | true =>
  simp only[g,cond_true] at hr ⊢
  have hr:xs.length+((A4 (J5.getD (A1 (A0 y 0)).toNat .any)).size+1+((K4 (A4 (A0 y 1))).size+1+L1 ((A2 (A0 y 2)).map M7++A2 (A0 y 3))))+1≤70368744177664:=hr
  obtain ⟨r1,r2⟩:=a4v (fi:=fi) (l:=qDD y 1::((A2 (A0 y 2)).map M7++A2 (A0 y 3))) (Nat.le_trans (Nat.le_succ _) hr)
  obtain ⟨r3,r4⟩:=a4v (fi:=false) (s:=K4 (A4 (A0 y 1))) r2
  have p1:=S8 fi xs (A4 (J5.getD (A1 (A0 y 0)).toNat .any))
  have p2:=S8 false (D2 fi xs (A4 (J5.getD (A1 (A0 y 0)).toNat .any))) (K4 (A4 (A0 y 1)))
  have p3:=u3 ((A2 (A0 y 2)).map M7) false false (D2 false (D2 fi xs (A4 (J5.getD (A1 (A0 y 0)).toNat .any))) (K4 (A4 (A0 y 1))))
  rw[b4w] at hr
  refine ⟨(by trivial),n1,r1,Nat.le_trans z1 (by decide),r3,⟨h2,by show _≤70368744177664;omega⟩,⟨hn,by show _≤70368744177664;omega⟩,(by trivial), ?_⟩
  rw[show fiA fi ([wdD J5 (A1 (A0 y 0)),qDD y 1]++((A2 (A0 y 2)).map M7++A2 (A0 y 3)))=false from b2b (y:=wdD J5 (A1 (A0 y 0))) (l:=qDD y 1::((A2 (A0 y 2)).map M7++A2 (A0 y 3)))]
  show _= [hB [0,2], .cells 65 (a8f y),wN [0,2] [2] t false,W3 nl xs]++ [a5y false false (D2 false (D2 fi xs (A4 (J5.getD (A1 (A0 y 0)).toNat .any))) (K4 (A4 (A0 y 1)))) ((A2 (A0 y 2)).map M7++A2 (A0 y 3))]
  unfold a5y
  rw[a5o]
  rfl
 | false =>
  simp only[g,cond_false] at hr ⊢
  have hr:xs.length+((A4 (J5.getD (A1 (A0 y 0)).toNat .any)).size+1+L1 ((A2 (A0 y 2)).map M7++A2 (A0 y 3)))+1≤70368744177664:=hr
  have p1:=S8 fi xs (A4 (J5.getD (A1 (A0 y 0)).toNat .any))
  have p3:=u3 ((A2 (A0 y 2)).map M7) false (J6 fi nl (A4 (J5.getD (A1 (A0 y 0)).toNat .any))) (D2 fi xs (A4 (J5.getD (A1 (A0 y 0)).toNat .any)))
  rw[b4w] at hr
  refine ⟨(by trivial),n1,by show _≤70368744177664;omega,⟨h2,by show _≤70368744177664;omega⟩,⟨hn,by show _≤70368744177664;omega⟩,(by trivial), ?_⟩
  rw[show fiA fi ([wdD J5 (A1 (A0 y 0))]++((A2 (A0 y 2)).map M7++A2 (A0 y 3)))=false from b2b (y:=wdD J5 (A1 (A0 y 0))) (l:=(A2 (A0 y 2)).map M7++A2 (A0 y 3))]
  show _= [hB [0,2], .cells 65 (a8f y),wN [0,2] [2] t false,W3 nl xs]++ [a5y false (J6 fi nl (A4 (J5.getD (A1 (A0 y 0)).toNat .any))) (D2 fi xs (A4 (J5.getD (A1 (A0 y 0)).toNat .any))) ((A2 (A0 y 2)).map M7++A2 (A0 y 3))]
  unfold a5y
  rw[a5o]
  rfl
theorem f6b:H9 B f9p:=a8c i6o rfl (fun cs h=>h.1.cs) i2q
theorem i6v:OkS (Cn T88) 2 (.loop l93) S93:=by
 refine e2m (fun ys h=>Nat.le_trans h.1 (by decide)) (fun t b fi nl xs ys i K hall hi hr hK=>?_) fun t b fi nl xs ys K hK=>?_
 ·refine B5 (L8 B9 k88 f6b) C0 A8 (hn:=B1) (adsI:=[]) (nsI:=aJ [16,2]) (nsX:=aJ [5000]) rfl rfl (keep (b93 t fi nl b xs ys ys.length i _) ?_)
  obtain ⟨e1,e2⟩:=c2i hi (Nat.le_trans hall.1 (by decide))
  have hm:=hall.2 _ (D8 hi)
  rw[show A4 (a5k (ys.getD i .any))=G2 (a3b (ys.getD i .any)) from rfl,b5v] at hK
  have hl:=Z5 (a3b (ys.getD i .any))
  simp only[e1,Int.toNat_natCast,e2,cond_true]
  have hv:gV (ys.getD i .any)=ys.getD i .any:=hm.1.v
  have hr:xs.length+1+(G2 (a3b (ys.getD i .any))).size+1≤70368744177664:=hr
  refine ⟨⟨by omega,hi,hv⟩,⟨by show STx (gV _);rw[hv];exact hm,by show xs.length+L1 (a3b (gV (ys.getD i .any)))+3≤_;rw[hv];omega⟩,(by trivial), ?_⟩
  rw[hv];exact hK
 ·refine B5 (L8 B9 k88 f6b) C0 A8 (hn:=B1) (adsI:=[]) (nsI:=aJ [16,2]) (nsX:=aJ [5000]) rfl rfl (keep (b93 t fi nl b xs ys ys.length ys.length _) ?_)
  rw[c2h]
  exact ⟨(by trivial),hK⟩
theorem f7d {U:L4} (hU:H9 B U) {K:FuncId} {z:Nat} {ok:List D→Prop} {g:D→D}
  (hb:∀(t:D) (b fi nl:Bool) (xs ys:List D),ok ys→xs.length+L1 (ys.map g)+1≤70368744177664→N8 B.P K∧R8 B K [.ptr [0,0] 0, .d (.slice b z ys)] (H6 [wB [0,1] t fi,buf nl xs]) fun r' H'=>r'= .d (.tup [])∧H'=Y1 [wB [2] t (fiA fi ys), .junk] [a5y fi nl xs (ys.map g)]):H9 B (U.add K (e9a z ok g)):=by
 refine P9 hU fun vals bs c x y hp hf=>?_
 unfold e9a at hp hf
 simp only[] at hp hf
 split at hf
 case h_2=>cases hf
 rename_i b e ys t fi nl xs
 cases hv:e==z with
 | false=>rw[hv] at hf;cases hf
 | true =>
  obtain rfl:e=z:=by simpa using hv
  simp only[one,hv,cond_true,Option.some.injEq,Prod.mk.injEq] at hf
  obtain ⟨rfl,rfl,rfl⟩:=hf
  exact hb t b fi nl xs ys hp.1 hp.2
theorem q93:H9 B U93:=f7d f6b fun t b fi nl xs ys hp hr=>by
 refine F6 B9 k88 f6b (fn:=Tryz.f93) (cd:=A7 Tryz.f93) (sp:=spL [(4,S93)]) (hn:=B1) (k:=2) (ads:=adW) (ends:=eW2) Tryz.func93 (by kernel_rfl) (by kernel_rfl) (by kernel_rfl) (by kernel_rfl) (B7 (c:=.loop l93) (by kernel_rfl) i6v C8) rfl rfl (keep (w93 t fi nl b xs ys _) ?_)
 exact ⟨⟨rfl,rfl,rfl,rfl,hp,hr⟩,rfl,rfl⟩
theorem i6p:H9 B h2e:=by
 refine b3e q93 (fun cs h=>a3m.cs h.1) fun t y fi nl xs hm hr=>?_
 obtain ⟨hf,k1,k2,z1,z2,hn⟩:=hm
 have hk:A1 (A0 (yOf (b4q y)) 1)=A1 (A0 y 1):=rfl
 rw[hk] at k1 k2
 obtain ⟨n1,n2⟩:=b5x (k:=A1 (A0 y 1)) d4a a6j k1 k2 (by decide)
 refine F6 B9 k88 q93 (fn:=Tryz.f160) (cd:=A7 Tryz.f160) (sp:=B8) (hn:=B1) (k:=4) (ads:=adC) (ends:=b6m 22++b6m 27) Tryz.func160 (by kernel_rfl) (by kernel_rfl) (by kernel_rfl) (by kernel_rfl) A8 rfl rfl (keep (i4v t y fi nl xs _) ?_)
 rw[n2]
 have hn:K0 (A4 (A0 y 0))=true→0≤A1 (A0 y 3)∧A1 (A0 y 3)≤1152921504606846976:=hn
 have hit:cIt (yOf (b4q y))= [wdD opR (A1 (A0 y 1)),sDD y 0,bif K0 (A4 (A0 y 0)) then .lit (.string (Q3 (A1 (A0 y 3)))) else qDD y 2]:=rfl
 rw[hit] at hr ⊢
 have hr:xs.length+((A4 (opR.getD (A1 (A0 y 1)).toNat .any)).size+1+L1 [sDD y 0,bif K0 (A4 (A0 y 0)) then .lit (.string (Q3 (A1 (A0 y 3)))) else qDD y 2])≤70368744177664:=Nat.le_trans (Nat.le_succ _) hr
 obtain ⟨r1,r2⟩:=a4v (fi:=fi) hr
 obtain ⟨r3,r4⟩:=a4v (fi:=false) (s:=A4 (A0 y 0)) r2
 rw[b2b]
 refine ⟨(by trivial),n1,r1,r3,(by trivial), ?_⟩
 cases g:K0 (A4 (A0 y 0)) with
 | true =>
  rw[g] at r4
  obtain ⟨m0,m1⟩:=hn g
  obtain ⟨r5,r6⟩:=a4v (fi:=false) (s:=Q3 (A1 (A0 y 3))) r4
  simp only[cond_true]
  rw[a4b m0]
  refine ⟨⟨⟨by omega,by omega⟩,by rw[a4b m0];exact r5⟩,(by trivial),rfl⟩
 | false =>
  rw[g] at r4
  obtain ⟨r5,r6⟩:=a4v (fi:=false) (s:=K4 (A4 (A0 y 2))) r4
  exact ⟨Nat.le_trans z2 (by decide),r5,(by trivial),rfl⟩
theorem i6m:H9 B g9u:=a8c i6p rfl (fun cs h=>a3m.cs h.1) i2t
def b5i (pre:D→D→Prop) (f:D→ByteArray):Sm:=⟨fun vals bs=>match vals,bs with | [_, .d y], [.cells _ [_,_, .d t,_], .arr _ _ _ _ xs _]=>pre t y∧P2 (xs.length+1+(f y).size+1)|_,_=>False,fun vals bs=>match vals,bs with
 | [.ptr [0,0] 0, .d y], [.cells 75 [.opt [0,0] 0, .ref [0,1], .d t, .d (.lit (.bool fi))], .arr true nl 5 1 xs []]=>one (.d (.tup [])) [wB [2] t false,W3 nl xs] [buf false (D2 fi xs (f y))]
 | _,_=>none⟩
abbrev U3 (y:D):List V:=[.d (iC y 0), .d (lC y 1 4), .d (lC y 2 3)]
def IsP (cs:List V):Prop:=∃y,cs=U3 y
noncomputable def pIt (y:D):List D:=[wdD u5 (A1 (A0 y 0))]++(A2 (A0 y 1)).map v6++(A2 (A0 y 2)).map pD
def PTk (κ:Nat) (y:D):Prop:=PTx y∧dsz y<κ
noncomputable def U91 (κ:Nat):L4:=g9u.add 91 (b5i (fun _=>PTk κ) b4d)
abbrev cI (n:B2):List (B2×B2):=[([0,0],[0,0]),([0,1],[0,1]),([0,2],[0,2]),([0,3],[0,3]),([5000],n)]
abbrev cN:List B2:=[[0,0],[0,1],[0,2],[0,3],[5000]]
def e4r (N e a:Nat) (n:B2) (u z:Nat) (ok:List D→Prop) (g:D→D):Ev.Spec:={L:=[0,1,a,a+1,a+2],ns:=cI n,L':=[0,1],nm':=cN,G:=fun M vals bs k=>match vals,bs with
 | [.ptr [0,0] 0, .ptr [0,1] 0, .d (.slice b z' ys), .d (.lit (.int .i64 n)), .d (.lit (.int .i64 i))], [.cells 113 [.ptr [0,2] 0], .cells v cs, .cells 75 [.opt [0,2] 0, .ref [5000], .d t, .d (.lit (.bool fi))], .arr false nl0 5 1 xs0 [], .arr true nl 5 1 xs []]=>(M=N∧v=u∧z'=z∧i=0∧n=ys.length∧IsP cs∧ok ys∧P2 (xs.length+L1 (ys.map g)+1))∧k (.exit e) [.ptr [0,0] 0, .ptr [0,1] 0] [hB [0,2], .cells v cs,wN [0,2] [5000] t (fiA fi ys),W3 nl0 xs0,a5y fi nl xs (ys.map g)]
 | _,_=>False }
noncomputable def f2h:Code:=D7 (C5 (A7 Tryz.f158) 4)
noncomputable def f2g:Code:=D7 (C5 (A7 Tryz.f158) 14)
theorem g5o (κ:Nat) (t:D) (y:D) (fi:Bool) (nl:Bool) (nl0:Bool) (b:Bool) (xs:List D) (xs0:List D) (ys:List D) (n:Int) (i:Int) (R:X→List V→List Box→Prop):(E1 (Cn T88) T88 (H7 (U91 κ)) 4 B8 B1 f2h 36 [0,1,15,16,17] cN [] (cI [25,2]) [0,1] (cI [5000])
 [V.ptr [0,0] 0,V.ptr [0,1] 0,V.d (D.slice b 4 ys),A3 n,A3 i]
 [hB [0,2],Box.cells 30 (U3 y),wN [0,2] [5000] t fi,W3 nl0 xs0,buf nl xs] R) =
 (bif decide (i<n) then
 ((((0:Int)≤i)∧(i.toNat<ys.length∧cV (ys.getD i.toNat D.any)=ys.getD i.toNat D.any))∧
 ((w9 (a2y 160 107 cIt CTx) (w9 (a2y 161 65 a3b STx) (w9 (a2y 156 98 mIt MTx) noS))).pre
 [V.ptr [0,0] 0,V.fn (Fn.func 160) [] [V.ptr [0,1] 0,V.ptr [0,2] 0]]
 [Box.cells 75 [V.opt [0,0] 0,V.ref [0,3],V.d t,A6 fi],Box.cells 113 [V.ptr [0,0] 0],
 Box.cells 107
 [C6 (A4 (A0 (ys.getD i.toNat D.any) 0)),
 A3 (A1 (A0 (ys.getD i.toNat D.any) 1)),
 C6 (A4 (A0 (ys.getD i.toNat D.any) 2)),
 A3 (A1 (A0 (ys.getD i.toNat D.any) 3))],
 Box.arr true nl 5 1 xs []]∧
 (36=36∧
 R X.normal
 [V.ptr [0,0] 0,V.ptr [0,1] 0,V.d (D.slice b 4 ys),A3 n,
 A3 (IntKind.i64.wrap (i+1))]
 [Box.cells 113 [V.ptr [0,2] 0],
 Box.cells 30
 [A3 (A1 (A0 y 0)),
 V.d (D.slice (E5 (A0 y 1)) 4 (A2 (A0 y 1))),
 V.d (D.slice (E5 (A0 y 2)) 3 (A2 (A0 y 2)))],
 Box.cells 75 [V.opt [0,2] 0,V.ref [5000],V.d t,A6 false],Box.arr false nl0 5 1 xs0 [],
 Box.arr true false 5 1
 (D2 fi xs
 (G2
 [zD (A4
 (opR.getD (A1 (iD (A1 (A0 (ys.getD i.toNat D.any) 1)))).toNat
 D.any)),
 zD (A4 (zD (A4 (A0 (ys.getD i.toNat D.any) 0)))),
 bif K0 (A4 (zD (A4 (A0 (ys.getD i.toNat D.any) 0)))) then
 zD (Q3 (A1 (iD (A1 (A0 (ys.getD i.toNat D.any) 3)))))
 else
 zD (K4 (A4 (zD (A4 (A0 (ys.getD i.toNat D.any) 2)))))]))
 []]))) else
 (36=36∧
 R (X.exit 0) [V.ptr [0,0] 0,V.ptr [0,1] 0]
 [Box.cells 113 [V.ptr [0,2] 0],
 Box.cells 30
 [A3 (A1 (A0 y 0)),
 V.d (D.slice (E5 (A0 y 1)) 4 (A2 (A0 y 1))),
 V.d (D.slice (E5 (A0 y 2)) 3 (A2 (A0 y 2)))],
 Box.cells 75 [V.opt [0,2] 0,V.ref [5000],V.d t,A6 fi],Box.arr false nl0 5 1 xs0 [],
 Box.arr true nl 5 1 xs []])):=by kernel_rfl
theorem g5n (κ:Nat) (t:D) (y:D) (fi:Bool) (nl:Bool) (nl0:Bool) (b:Bool) (xs:List D) (xs0:List D) (ys:List D) (n:Int) (i:Int) (R:X→List V→List Box→Prop):(E1 (Cn T88) T88 (H7 (U91 κ)) 4 B8 B1 f2g 36 [0,1,26,27,28] cN [] (cI [36,2]) [0,1] (cI [5000])
 [V.ptr [0,0] 0,V.ptr [0,1] 0,V.d (D.slice b 3 ys),A3 n,A3 i]
 [hB [0,2],Box.cells 30 (U3 y),wN [0,2] [5000] t fi,W3 nl0 xs0,buf nl xs] R) =
 (bif decide (i<n) then
 ((((0:Int)≤i)∧(i.toNat<ys.length∧pV (ys.getD i.toNat D.any)=ys.getD i.toNat D.any))∧
 ((b5i (fun x=>PTk κ) b4d).pre [V.ptr [0,0] 0,V.d (pV (ys.getD i.toNat D.any))]
 [Box.cells 75 [V.opt [0,0] 0,V.ref [0,1],V.d t,A6 fi],Box.arr true nl 5 1 xs []]∧
 (36=36∧
 R X.normal
 [V.ptr [0,0] 0,V.ptr [0,1] 0,V.d (D.slice b 3 ys),A3 n,
 A3 (IntKind.i64.wrap (i+1))]
 [Box.cells 113 [V.ptr [0,2] 0],
 Box.cells 30
 [A3 (A1 (A0 y 0)),
 V.d (D.slice (E5 (A0 y 1)) 4 (A2 (A0 y 1))),
 V.d (D.slice (E5 (A0 y 2)) 3 (A2 (A0 y 2)))],
 Box.cells 75 [V.opt [0,2] 0,V.ref [5000],V.d t,A6 false],Box.arr false nl0 5 1 xs0 [],
 Box.arr true false 5 1 (D2 fi xs (b4d (pV (ys.getD i.toNat D.any)))) []]))) else
 (36=36∧
 R (X.exit 2) [V.ptr [0,0] 0,V.ptr [0,1] 0]
 [Box.cells 113 [V.ptr [0,2] 0],
 Box.cells 30
 [A3 (A1 (A0 y 0)),
 V.d (D.slice (E5 (A0 y 1)) 4 (A2 (A0 y 1))),
 V.d (D.slice (E5 (A0 y 2)) 3 (A2 (A0 y 2)))],
 Box.cells 75 [V.opt [0,2] 0,V.ref [5000],V.d t,A6 fi],Box.arr false nl0 5 1 xs0 [],
 Box.arr true nl 5 1 xs []])):=by kernel_rfl
noncomputable def f4w:Ev.Spec:=e4r 36 0 15 [15,2] 30 4 e2g v6
noncomputable def f4v (κ:Nat):Ev.Spec:=e4r 36 2 26 [5000] 30 3 (f5b κ) pD
abbrev eC5:List (List (B2×B2)):=[[([0,0],[0,0]),([0,1],[0,1]),([0,2],[0,2]),([0,3],[0,3]),([2],[5000])]]
theorem i4x (κ:Nat) (t:D) (y:D) (fi:Bool) (nl:Bool) (xs:List D) (R:V→List Box→Prop):(F3 (Cn T88) T88 (H7 (U91 κ)) 4 (spL [(4,f4w),(14,f4v κ)]) B1 adC eC5 158
 [V.ptr [0,0] 0,V.ptr [0,1] 0] (H6 [hB [0,2],Box.cells 30 (U3 y),wN [0,2] [0,3] t fi,buf nl xs]) R) =
 (True∧
 ((((0:Int)≤IntKind.i64.wrap (A1 (A0 y 0)-1))∧((IntKind.i64.wrap (A1 (A0 y 0)-1)).toNat<9∧zD (A4 (a9o.getD (IntKind.i64.wrap (A1 (A0 y 0)-1)).toNat D.any)) =
 a9o.getD (IntKind.i64.wrap (A1 (A0 y 0)-1)).toNat D.any))∧
 (s86.pre
 [V.ptr [0,0] 0,
 C6 (A4 (a9o.getD (IntKind.i64.wrap (A1 (A0 y 0)-1)).toNat D.any))]
 [Box.cells 75 [V.opt [0,0] 0,V.ref [0,1],V.d t,A6 fi],Box.arr true nl 5 1 xs []]∧
 ((36=36∧(30=30∧(4=4∧(((0:Int)=0)∧((((↑(A2 (A0 y 1)).length:Int):Int)=(↑(A2 (A0 y 1)).length:Int))∧(IsP
 [A3 (A1 (A0 y 0)),V.d (D.slice (E5 (A0 y 1)) 4 (A2 (A0 y 1))),
 V.d (D.slice (E5 (A0 y 2)) 3 (A2 (A0 y 2)))]∧(e2g (A2 (A0 y 1))∧P2
 ((D2 fi xs (A4 (a9o.getD (IntKind.i64.wrap (A1 (A0 y 0)-1)).toNat D.any))).length +
 L1 (List.map v6 (A2 (A0 y 1))) +
 1))))))))∧
 ((36=36∧(30=30∧(3=3∧(((0:Int)=0)∧((((↑(A2 (A0 y 2)).length:Int):Int)=(↑(A2 (A0 y 2)).length:Int))∧(IsP
 [A3 (A1 (A0 y 0)),V.d (D.slice (E5 (A0 y 1)) 4 (A2 (A0 y 1))),
 V.d (D.slice (E5 (A0 y 2)) 3 (A2 (A0 y 2)))]∧(f5b κ (A2 (A0 y 2))∧P2
 ((E4 false (J6 fi nl (A4 (a9o.getD (IntKind.i64.wrap (A1 (A0 y 0)-1)).toNat D.any)))
 (D2 fi xs (A4 (a9o.getD (IntKind.i64.wrap (A1 (A0 y 0)-1)).toNat D.any)))
 (List.map v6 (A2 (A0 y 1)))).snd.length +
 L1 (List.map pD (A2 (A0 y 2))) +
 1))))))))∧
 R (V.d (D.tup []))
 [Box.cells 113 [V.ptr [0,2] 0],
 Box.cells 30
 [A3 (A1 (A0 y 0)),
 V.d (D.slice (E5 (A0 y 1)) 4 (A2 (A0 y 1))),
 V.d (D.slice (E5 (A0 y 2)) 3 (A2 (A0 y 2)))],
 Box.cells 75 [V.opt [0,2] 0,V.ref [2],V.d t,A6 false],Box.arr false nl 5 1 xs [],
 Box.arr true
 (E4 false
 (E4 false (J6 fi nl (A4 (a9o.getD (IntKind.i64.wrap (A1 (A0 y 0)-1)).toNat D.any)))
 (D2 fi xs (A4 (a9o.getD (IntKind.i64.wrap (A1 (A0 y 0)-1)).toNat D.any)))
 (List.map v6 (A2 (A0 y 1)))).fst
 (E4 false (J6 fi nl (A4 (a9o.getD (IntKind.i64.wrap (A1 (A0 y 0)-1)).toNat D.any)))
 (D2 fi xs (A4 (a9o.getD (IntKind.i64.wrap (A1 (A0 y 0)-1)).toNat D.any)))
 (List.map v6 (A2 (A0 y 1)))).snd
 (List.map pD (A2 (A0 y 2)))).fst
 5 1
 (E4 false
 (E4 false (J6 fi nl (A4 (a9o.getD (IntKind.i64.wrap (A1 (A0 y 0)-1)).toNat D.any)))
 (D2 fi xs (A4 (a9o.getD (IntKind.i64.wrap (A1 (A0 y 0)-1)).toNat D.any)))
 (List.map v6 (A2 (A0 y 1)))).fst
 (E4 false (J6 fi nl (A4 (a9o.getD (IntKind.i64.wrap (A1 (A0 y 0)-1)).toNat D.any)))
 (D2 fi xs (A4 (a9o.getD (IntKind.i64.wrap (A1 (A0 y 0)-1)).toNat D.any)))
 (List.map v6 (A2 (A0 y 1)))).snd
 (List.map pD (A2 (A0 y 2)))).snd
 []]))))):=by kernel_rfl
noncomputable def h2f (κ:Nat):L4:=(U91 κ).add 158 (a8x 30 pIt (PTk (κ+1)) W3)
theorem i2o (κ:Nat) (t y:D) (fi nl:Bool) (xs:List D) (R:V→List Box→Prop):F3 (Cn T88) T88 (H7 (h2f κ)) 4 B8 B1 adW (d2c 16) 84 [.ptr [0,0] 0, .fn (.func 158) [] [.ptr [0,1] 0, .ptr [0,2] 0]] (H6 [wN [0,0] [0,3] t fi,hB [0,0], .cells 30 (U3 y),buf nl xs]) R=c9b (a8x 30 pIt (PTk (κ+1)) W3) 30 (U3 y) (pIt (yOf (U3 y))) t fi nl xs R:=by kernel_rfl
noncomputable abbrev c6q:Sm:=w9 (a2y 160 107 cIt CTx) (w9 (a2y 161 65 a3b STx) (w9 (a2y 156 98 mIt MTx) noS))
noncomputable def i2b (κ:Nat):L4:=(h2f κ).add 84 (w9 (a2y 158 30 pIt (PTk (κ+1))) c6q)
abbrev eW3 (n:Nat):List (List (B2×B2)):=[[([0,0],[0,0]),([0,1],[0,1]),([2],[n,2])]]
theorem w91 (κ:Nat) (t:D) (y:D) (fi:Bool) (nl:Bool) (xs:List D) (R:V→List Box→Prop):(F3 (Cn T88) T88 (H7 (i2b κ)) 2 B8 B1 adW (eW3 8) 91 [V.ptr [0,0] 0,V.d (pV y)]
 (H6 [wB [0,1] t fi,buf nl xs]) R) =
 ((w9 (a2y 158 30 pIt (PTk (κ+1))) c6q).pre
 [V.ptr [0,0] 0,V.fn (Fn.func 158) [] [V.ptr [0,1] 0,V.ptr [0,2] 0]]
 [Box.cells 75 [V.opt [0,0] 0,V.ref [0,3],V.d t,A6 fi],Box.cells 113 [V.ptr [0,0] 0],
 Box.cells 30
 [A3 (A1 (A0 y 0)),
 V.d (D.slice (E5 (A0 y 1)) 4 (A2 (A0 y 1))),
 V.d (D.slice (E5 (A0 y 2)) 3 (A2 (A0 y 2)))],
 Box.arr true nl 5 1 xs []]∧
 R (V.d (D.tup []))
 [Box.cells 75 [V.opt [0,0] 0,V.ref [2],V.d t,A6 false],Box.arr false nl 5 1 xs [],
 Box.arr true false 5 1
 (D2 fi xs
 (G2
 (zD (A4 (u5.getD (A1 (iD (A1 (A0 y 0)))).toNat D.any)) ::
 (List.map v6 (A2 (D.slice (E5 (A0 y 1)) 4 (A2 (A0 y 1)))) ++
 List.map pD (A2 (D.slice (E5 (A0 y 2)) 3 (A2 (A0 y 2))))))))
 []]):=by kernel_rfl
theorem e3u {U:L4} (hU:H9 B U) {K:FuncId} {pre:D→D→Prop} {f:D→ByteArray} (μ:D→Nat)
  (hb:∀n,H9 B (U.add K (b5i (fun t y=>pre t y∧μ y<n) f))→∀(t y:D) (fi nl:Bool) (xs:List D),pre t y→μ y=n→xs.length+1+(f y).size+1≤70368744177664→N8 B.P K∧R8 B K [.ptr [0,0] 0, .d y] (H6 [wB [0,1] t fi,buf nl xs]) fun r' H'=>r'= .d (.tup [])∧H'=Y1 [wB [2] t false,W3 nl xs] [buf false (D2 fi xs (f y))]):H9 B (U.add K (b5i pre f)):=by
 have main:∀(p:D→D→Prop),(∀(t y:D) (fi nl:Bool) (xs:List D),p t y→xs.length+1+(f y).size+1≤70368744177664→N8 B.P K∧R8 B K [.ptr [0,0] 0, .d y] (H6 [wB [0,1] t fi,buf nl xs]) fun r' H'=>r'= .d (.tup [])∧H'=Y1 [wB [2] t false,W3 nl xs] [buf false (D2 fi xs (f y))])→H9 B (U.add K (b5i p f)):=by
  intro p hp
  refine P9 hU fun vals bs c x y hp' hf=>?_
  unfold b5i at hp' hf
  simp only[] at hp' hf
  split at hf
  case h_2=>cases hf
  simp only[one,Option.some.injEq,Prod.mk.injEq] at hf
  obtain ⟨rfl,rfl,rfl⟩:=hf
  exact hp _ _ _ _ _ hp'.1 hp'.2
 have all:∀n,H9 B (U.add K (b5i (fun t y=>pre t y∧μ y<n) f)):=by
  intro n
  induction n with
  | zero=>exact main _ fun t y fi nl xs h _=>absurd h.2 (Nat.not_lt_zero _)
  | succ n ih =>
   refine main _ fun t y fi nl xs h hr=>?_
   by_cases hlt:μ y<n
   ·obtain ⟨h1,h2⟩:=ih K (b5i (fun t y=>pre t y∧μ y<n) f) [.ptr [0,0] 0, .d y] [wB [0,1] t fi,buf nl xs] true _ _ (by simp[L4.add]) ⟨⟨h.1,hlt⟩,hr⟩ rfl
    exact ⟨h1,h2⟩
   ·exact hb n ih t y fi nl xs h.1 (by omega) hr
 exact main _ fun t y fi nl xs h hr=>hb (μ y) (all _) t y fi nl xs h rfl hr
theorem e4p {C:Cx} {l:Code} {N e0 a:Nat} {n0:B2} {u z:Nat} {ok:List D→Prop} {g:D→D} (hu:u=30) (hn0:S9 (cI n0)=cN)
  (h1:∀(t y:D) (b fi nl nl0:Bool) (xs xs0 ys:List D) (i:Nat) (K:X→List V→List Box→Prop),ok ys→i<ys.length→P2 (xs.length+1+(A4 (g (ys.getD i .any))).size+1)→J2 C 4 l N [0,1,a,a+1,a+2] cN [0,1] cN [.ptr [0,0] 0, .ptr [0,1] 0, .d (.slice b z ys),A3 ys.length,A3 ((i+1:Nat):Int)] [hB [0,2], .cells 30 (U3 y),wN [0,2] [5000] t false,W3 nl0 xs0,buf (J6 fi nl (A4 (g (ys.getD i .any)))) (D2 fi xs (A4 (g (ys.getD i .any))))] K→J2 C 4 l N [0,1,a,a+1,a+2] cN [0,1] cN [.ptr [0,0] 0, .ptr [0,1] 0, .d (.slice b z ys),A3 ys.length,A3 i] [hB [0,2], .cells 30 (U3 y),wN [0,2] [5000] t fi,W3 nl0 xs0,buf nl xs] K)
  (h2:∀(t y:D) (b fi nl nl0:Bool) (xs xs0 ys:List D) (K:X→List V→List Box→Prop),K (.exit e0) [.ptr [0,0] 0, .ptr [0,1] 0] [hB [0,2], .cells 30 (U3 y),wN [0,2] [5000] t fi,W3 nl0 xs0,buf nl xs]→J2 C 4 l N [0,1,a,a+1,a+2] cN [0,1] cN [.ptr [0,0] 0, .ptr [0,1] 0, .d (.slice b z ys),A3 ys.length,A3 ys.length] [hB [0,2], .cells 30 (U3 y),wN [0,2] [5000] t fi,W3 nl0 xs0,buf nl xs] K):OkS C 4 (.loop l) (e4r N e0 a n0 u z ok g):=by
 refine D0 fun M vals bs K h=>?_
 simp only[e4r] at h
 split at h
 case h_2=>exact h.elim
 rename_i b e ys n i v cs t fi nl0 xs0 nl xs
 obtain ⟨⟨rfl,rfl,rfl,rfl,rfl,⟨y,rfl⟩,hall,hr⟩,h⟩:=h
 subst hu
 show J2 C 4 l M [0,1,a,a+1,a+2] (S9 (cI n0)) [0,1] cN _ _ _
 rw[hn0]
 exact e2n (vals:=fun i=>[.ptr [0,0] 0, .ptr [0,1] 0, .d (.slice b e ys),A3 ys.length,A3 i]) (bsO:=fun fi r=>[hB [0,2], .cells 30 (U3 y),wN [0,2] [5000] t fi,W3 nl0 xs0,r]) (e:=e0) (valsX:=[.ptr [0,0] 0, .ptr [0,1] 0]) ys g 1 (fun i fi nl xs hi hr hK=>h1 t y b fi nl nl0 xs xs0 ys i K hall hi hr hK) (fun fi nl xs hK=>h2 t y b fi nl nl0 xs xs0 ys K hK) ys 0 fi nl xs rfl (by simp) hr h
theorem g7h {κ:Nat} (hk:H9 B (U91 κ)):OkS (Cn T88) 4 (.loop f2h) f4w:=by
 refine e4p rfl rfl (fun t y b fi nl nl0 xs xs0 ys i K hall hi hr hK=>?_) fun t y b fi nl nl0 xs xs0 ys K hK=>?_
 ·refine B5 (L8 B9 k88 hk) C0 A8 (hn:=B1) (adsI:=[]) (nsI:=cI [25,2]) (nsX:=cI [5000]) rfl rfl (keep (g5o κ t y fi nl nl0 b xs xs0 ys ys.length i _) ?_)
  obtain ⟨e1,e2⟩:=c2i hi (Nat.le_trans hall.1 (by decide))
  have hm:=hall.2 _ (D8 hi)
  rw[show A4 (v6 (ys.getD i .any))=G2 (cIt (ys.getD i .any)) from rfl,b5v] at hK
  have hl:=Z5 (cIt (ys.getD i .any))
  simp only[e1,Int.toNat_natCast,e2,cond_true]
  have hv:cV (ys.getD i .any)=ys.getD i .any:=hm.1
  have hr:xs.length+1+(G2 (cIt (ys.getD i .any))).size+1≤70368744177664:=hr
  exact ⟨⟨by omega,hi,hv⟩,⟨by show CTx (cV _);rw[hv];exact hm,by show xs.length+L1 (cIt (ys.getD i .any))+3≤_;omega⟩,(by trivial),hK⟩
 ·refine B5 (L8 B9 k88 hk) C0 A8 (hn:=B1) (adsI:=[]) (nsI:=cI [25,2]) (nsX:=cI [5000]) rfl rfl (keep (g5o κ t y fi nl nl0 b xs xs0 ys ys.length ys.length _) ?_)
  rw[c2h]
  exact ⟨(by trivial),hK⟩
theorem f6i (y:D):A4 (pD y)=G2 (pIt y):=b5r y
theorem g7g {κ:Nat} (hk:H9 B (U91 κ)):OkS (Cn T88) 4 (.loop f2g) (f4v κ):=by
 refine e4p rfl rfl (fun t y b fi nl nl0 xs xs0 ys i K hall hi hr hK=>?_) fun t y b fi nl nl0 xs xs0 ys K hK=>?_
 ·refine B5 (L8 B9 k88 hk) C0 A8 (hn:=B1) (adsI:=[]) (nsI:=cI [36,2]) (nsX:=cI [5000]) rfl rfl (keep (g5n κ t y fi nl nl0 b xs xs0 ys ys.length i _) ?_)
  obtain ⟨e1,e2⟩:=c2i hi hall.1
  have hm:=hall.2 _ (D8 hi)
  have hnl:J6 fi nl (A4 (pD (ys.getD i .any)))=false:=by rw[f6i];exact b5v
  rw[hnl] at hK
  simp only[e1,Int.toNat_natCast,e2,cond_true]
  have hv:pV (ys.getD i .any)=ys.getD i .any:=hm.1.l.1.v
  rw[hv]
  exact ⟨⟨by omega,hi,(by trivial)⟩,⟨hm,hr⟩,(by trivial),hK⟩
 ·refine B5 (L8 B9 k88 hk) C0 A8 (hn:=B1) (adsI:=[]) (nsI:=cI [36,2]) (nsX:=cI [5000]) rfl rfl (keep (g5n κ t y fi nl nl0 b xs xs0 ys ys.length ys.length _) ?_)
  rw[c2h]
  exact ⟨(by trivial),hK⟩
theorem J1.cs {cs:List V} (h:J1 (yOf cs)):∃y,cs=U3 y:=⟨yOf cs,a5b (ds:=[iC (yOf cs) 0,lC (yOf cs) 1 4,lC (yOf cs) 2 3]) (Eq.symm h.v) (by intro d hd;simp at hd;rcases hd with rfl|rfl|rfl<;>simp)⟩
theorem i6q {κ:Nat} (hk:H9 B (U91 κ)):H9 B (h2f κ):=by
 refine b3e hk (fun cs h=>h.1.l.1.cs) fun t y fi nl xs hm hr=>?_
 obtain ⟨hpt,hds⟩:=hm
 obtain ⟨hf,k1,k2,hc,ht⟩:=hpt.l
 have hkk:A1 (A0 (yOf (U3 y)) 0)=A1 (A0 y 0):=rfl
 rw[hkk] at k1 k2
 obtain ⟨n1,n2⟩:=b5x (k:=A1 (A0 y 0)) e5x c3d k1 k2 (by decide)
 refine F6 B9 k88 hk (fn:=Tryz.f158) (cd:=A7 Tryz.f158) (sp:=spL [(4,f4w),(14,f4v κ)]) (hn:=B1) (k:=4) (ads:=adC) (ends:=eC5) Tryz.func158 (by kernel_rfl) (by kernel_rfl) (by kernel_rfl) (by kernel_rfl) (B7 (c:=.loop f2h) (by kernel_rfl) (g7h hk) (B7 (c:=.loop f2g) (by kernel_rfl) (g7g hk) C8)) rfl rfl (keep (i4x κ t y fi nl xs _) ?_)
 rw[n2]
 have hit:pIt (yOf (U3 y))=wdD u5 (A1 (A0 y 0))::((A2 (A0 y 1)).map v6++(A2 (A0 y 2)).map pD):=rfl
 rw[hit] at hr ⊢
 have hr:xs.length+((A4 (u5.getD (A1 (A0 y 0)).toNat .any)).size+1+L1 ((A2 (A0 y 1)).map v6++(A2 (A0 y 2)).map pD))+1≤70368744177664:=hr
 rw[b4w] at hr
 have p1:=S8 fi xs (A4 (u5.getD (A1 (A0 y 0)).toNat .any))
 have p3:=u3 ((A2 (A0 y 1)).map v6) false (J6 fi nl (A4 (u5.getD (A1 (A0 y 0)).toNat .any))) (D2 fi xs (A4 (u5.getD (A1 (A0 y 0)).toNat .any)))
 rw[b2b]
 have hP:f5b κ (A2 (A0 y 2)):=by
  have hs:∀a∈E6 (yOf (U3 y)) 2,a∈A2 (A0 y 2):=fun a h=>h
  have hlen:(E6 (yOf (U3 y)) 2).length≤N6 (yOf (U3 y)):=by
   have:=a2e (yOf (U3 y))
   have hx:∀l:List D,l.length≤(l.map N6).sum:=fun l=>by
    induction l with
    | nil=>simp
    | cons a l ih =>
     have:=a2e a
     simp only[List.length_cons,List.map_cons,List.sum_cons];omega
   have:=hx (E6 (yOf (U3 y)) 2)
   omega
  refine ⟨by show (E6 (yOf (U3 y)) 2).length≤4096;omega,fun a ha=>⟨hpt.a ha, ?_⟩⟩
  have:=G6 (y:=yOf (U3 y)) (i:=2) ha
  omega
 refine ⟨(by trivial),n1,by show _≤70368744177664;omega,⟨rfl,rfl,rfl,rfl,rfl,⟨y,rfl⟩,hc,by show _≤70368744177664;omega⟩,⟨rfl,rfl,rfl,rfl,rfl,⟨y,rfl⟩,hP,by show _≤70368744177664;omega⟩,(by trivial), ?_⟩
 show _= [hB [0,2], .cells 30 (U3 y),wN [0,2] [2] t false,W3 nl xs]++ [a5y false (J6 fi nl (A4 (u5.getD (A1 (A0 y 0)).toNat .any))) (D2 fi xs (A4 (u5.getD (A1 (A0 y 0)).toNat .any))) ((A2 (A0 y 1)).map v6++(A2 (A0 y 2)).map pD)]
 unfold a5y
 rw[a5o]
 have hfi:fiA false (A2 (A0 y 1))=false:=rfl
 rfl
theorem i6i {κ:Nat} (hk:H9 B (U91 κ)):H9 B (i2b κ):=a8c (i6q hk) rfl (fun cs h=>h.1.l.1.cs) (i2o κ)
noncomputable def s91:Sm:=b5i (fun _=>PTx) b4d
noncomputable def g9s:L4:=g9u.add 91 s91
theorem q91:H9 B g9s:=e3u i6m dsz fun n hk t y fi nl xs hp hn hr=>by
 have hv:=hp.l.1.v
 rw[show ([V.ptr [0,0] 0, .d y]:List V)= [.ptr [0,0] 0, .d (pV y)] by rw[hv]]
 refine F6 B9 k88 (i6i (κ:=n) hk) (fn:=Tryz.f91) (cd:=A7 Tryz.f91) (sp:=B8) (hn:=B1) (k:=2) (ads:=adW) (ends:=eW3 8) Tryz.func91 (by kernel_rfl) (by kernel_rfl) (by kernel_rfl) (by kernel_rfl) A8 rfl rfl (keep (w91 n t y fi nl xs _) ?_)
 have hl:=Z5 (pIt y)
 have e:(b4d y)=G2 (pIt y):=b5r y
 rw[e] at hr ⊢
 refine ⟨⟨by show PTk (n+1) (pV y);rw[hv];exact ⟨hp,by omega⟩,by show xs.length+L1 (pIt y)+3≤_;omega⟩,(by trivial),rfl⟩
def e3t:Bool→List D→Box:=fun _ _=>.junk
noncomputable def mL (y:D):List D:=(A2 (A0 y 2)).map M7
noncomputable def sL (y:D):List D:=(A2 (A0 y 10)).map a5k
def E2k (y:D):Prop:=D1 y∧b2m (A2 (A0 y 2))
def f4z (y:D):Prop:=D1 y∧b9d (A2 (A0 y 10))
def E7k (y:D):Prop:=D1 y∧b4u (A2 (A0 y 7))
theorem w89 (t:D) (y:D) (fi:Bool) (nl:Bool) (xs:List D) (R:V→List Box→Prop):(F3 (Cn T88) T88 (H7 g9s) 4 B8 B1 adC (b6m 7) 89 [V.ptr [0,0] 0,V.ptr [0,1] 0]
 (H6 [hB [0,2],Box.cells 33 (J8 y),wN [0,2] [0,3] t fi,buf nl xs]) R) =
 (s90.pre [V.ptr [0,0] 0,V.d (D.slice (E5 (A0 y 2)) 3 (A2 (A0 y 2)))]
 [Box.cells 75 [V.opt [0,0] 0,V.ref [0,1],V.d t,A6 fi],Box.arr true nl 5 1 xs []]∧
 R (V.d (D.tup []))
 [Box.cells 113 [V.ptr [0,2] 0],
 Box.cells 33
 [A3 (A1 (A0 y 0)),
 A3 (A1 (A0 y 1)),
 V.d (D.slice (E5 (A0 y 2)) 3 (A2 (A0 y 2))),
 A3 (A1 (A0 y 3)),
 A3 (A1 (A0 y 4)),
 A3 (A1 (A0 y 5)),
 A3 (A1 (A0 y 6)),
 V.d (D.slice (E5 (A0 y 7)) 1 (A2 (A0 y 7))),A6 (P5 (A0 y 8)),
 A3 (A1 (A0 y 9)),
 V.d (D.slice (E5 (A0 y 10)) 4 (A2 (A0 y 10))),
 A3 (A1 (A0 y 11)),
 V.d (D.slice (E5 (A0 y 12)) 4 (A2 (A0 y 12))),
 V.d (D.slice (E5 (A0 y 13)) 3 (A2 (A0 y 13))),C6 (A4 (A0 y 14)),
 V.d (D.slice (E5 (A0 y 15)) 16 (A2 (A0 y 15)))],
 Box.cells 75 [V.opt [0,2] 0,V.ref [2],V.d t,A6 (fiA fi (A2 (A0 y 2)))],Box.junk,
 Box.arr true (E4 fi nl xs (List.map M7 (A2 (A0 y 2)))).fst 5 1
 (E4 fi nl xs (List.map M7 (A2 (A0 y 2)))).snd []]):=by kernel_rfl
noncomputable def U89:L4:=g9s.add 89 (a8x 33 mL E2k e3t)
theorem w92 (t:D) (y:D) (fi:Bool) (nl:Bool) (xs:List D) (R:V→List Box→Prop):(F3 (Cn T88) T88 (H7 U89) 4 B8 B1 adC (b6m 7) 92 [V.ptr [0,0] 0,V.ptr [0,1] 0]
 (H6 [hB [0,2],Box.cells 33 (J8 y),wN [0,2] [0,3] t fi,buf nl xs]) R) =
 (s93.pre [V.ptr [0,0] 0,V.d (D.slice (E5 (A0 y 10)) 4 (A2 (A0 y 10)))]
 [Box.cells 75 [V.opt [0,0] 0,V.ref [0,1],V.d t,A6 fi],Box.arr true nl 5 1 xs []]∧
 R (V.d (D.tup []))
 [Box.cells 113 [V.ptr [0,2] 0],
 Box.cells 33
 [A3 (A1 (A0 y 0)),
 A3 (A1 (A0 y 1)),
 V.d (D.slice (E5 (A0 y 2)) 3 (A2 (A0 y 2))),
 A3 (A1 (A0 y 3)),
 A3 (A1 (A0 y 4)),
 A3 (A1 (A0 y 5)),
 A3 (A1 (A0 y 6)),
 V.d (D.slice (E5 (A0 y 7)) 1 (A2 (A0 y 7))),A6 (P5 (A0 y 8)),
 A3 (A1 (A0 y 9)),
 V.d (D.slice (E5 (A0 y 10)) 4 (A2 (A0 y 10))),
 A3 (A1 (A0 y 11)),
 V.d (D.slice (E5 (A0 y 12)) 4 (A2 (A0 y 12))),
 V.d (D.slice (E5 (A0 y 13)) 3 (A2 (A0 y 13))),C6 (A4 (A0 y 14)),
 V.d (D.slice (E5 (A0 y 15)) 16 (A2 (A0 y 15)))],
 Box.cells 75 [V.opt [0,2] 0,V.ref [2],V.d t,A6 (fiA fi (A2 (A0 y 10)))],Box.junk,
 Box.arr true (E4 fi nl xs (List.map a5k (A2 (A0 y 10)))).fst 5 1
 (E4 fi nl xs (List.map a5k (A2 (A0 y 10)))).snd []]):=by kernel_rfl
noncomputable def U92:L4:=U89.add 92 (a8x 33 sL f4z e3t)
theorem w95 (t:D) (y:D) (fi:Bool) (nl:Bool) (xs:List D) (R:V→List Box→Prop):(F3 (Cn T88) T88 (H7 U92) 4 B8 B1 adC (b6m 6) 95 [V.ptr [0,0] 0,V.ptr [0,1] 0]
 (H6 [hB [0,2],Box.cells 33 (J8 y),wN [0,2] [0,3] t fi,buf nl xs]) R) =
 (s96.pre [V.ptr [0,0] 0,V.d (eV y)]
 [Box.cells 75 [V.opt [0,0] 0,V.ref [0,1],V.d t,A6 fi],Box.arr true nl 5 1 xs []]∧
 R (V.d (D.tup []))
 [Box.cells 113 [V.ptr [0,2] 0],
 Box.cells 33
 [A3 (A1 (A0 y 0)),
 A3 (A1 (A0 y 1)),
 V.d (D.slice (E5 (A0 y 2)) 3 (A2 (A0 y 2))),
 A3 (A1 (A0 y 3)),
 A3 (A1 (A0 y 4)),
 A3 (A1 (A0 y 5)),
 A3 (A1 (A0 y 6)),
 V.d (D.slice (E5 (A0 y 7)) 1 (A2 (A0 y 7))),A6 (P5 (A0 y 8)),
 A3 (A1 (A0 y 9)),
 V.d (D.slice (E5 (A0 y 10)) 4 (A2 (A0 y 10))),
 A3 (A1 (A0 y 11)),
 V.d (D.slice (E5 (A0 y 12)) 4 (A2 (A0 y 12))),
 V.d (D.slice (E5 (A0 y 13)) 3 (A2 (A0 y 13))),C6 (A4 (A0 y 14)),
 V.d (D.slice (E5 (A0 y 15)) 16 (A2 (A0 y 15)))],
 Box.cells 75 [V.opt [0,2] 0,V.ref [2],V.d t,A6 false],Box.arr false nl 5 1 xs [],
 Box.arr true
 (E4 fi nl xs
 ((bif P5 (oD (P5 (A0 y 8))) then
 zD (bA [119,105,116,104,111,117,116])
 else zD (bA [98,121])) ::
 A2 (D.slice (E5 (A0 y 7)) 1 (A2 (A0 y 7))))).fst
 5 1
 (E4 fi nl xs
 ((bif P5 (oD (P5 (A0 y 8))) then
 zD (bA [119,105,116,104,111,117,116])
 else zD (bA [98,121])) ::
 A2 (D.slice (E5 (A0 y 7)) 1 (A2 (A0 y 7))))).snd
 []]):=by kernel_rfl
noncomputable def U95:L4:=U92.add 95 (a8x 33 a7m E7k W3)
theorem i2v (t y:D) (fi nl:Bool) (xs:List D) (R:V→List Box→Prop):F3 (Cn T88) T88 (H7 U95) 4 B8 B1 adW (d2c 16) 84 [.ptr [0,0] 0, .fn (.func 89) [] [.ptr [0,1] 0, .ptr [0,2] 0]] (H6 [wN [0,0] [0,3] t fi,hB [0,0], .cells 33 (J8 y),buf nl xs]) R=c9b (a8x 33 mL E2k e3t) 33 (J8 y) (mL (yOf (J8 y))) t fi nl xs R:=by kernel_rfl
noncomputable def i2e:L4:=U95.add 84 (w9 (a2y 89 33 mL E2k) c6q)
theorem i2u (t y:D) (fi nl:Bool) (xs:List D) (R:V→List Box→Prop):F3 (Cn T88) T88 (H7 i2e) 4 B8 B1 adW (d2c 16) 84 [.ptr [0,0] 0, .fn (.func 92) [] [.ptr [0,1] 0, .ptr [0,2] 0]] (H6 [wN [0,0] [0,3] t fi,hB [0,0], .cells 33 (J8 y),buf nl xs]) R=c9b (a8x 33 sL f4z e3t) 33 (J8 y) (sL (yOf (J8 y))) t fi nl xs R:=by kernel_rfl
noncomputable def i2d:L4:=i2e.add 84 (w9 (a2y 92 33 sL f4z) (w9 (a2y 89 33 mL E2k) c6q))
theorem i2s (t y:D) (fi nl:Bool) (xs:List D) (R:V→List Box→Prop):F3 (Cn T88) T88 (H7 i2d) 4 B8 B1 adW (d2c 16) 84 [.ptr [0,0] 0, .fn (.func 95) [] [.ptr [0,1] 0, .ptr [0,2] 0]] (H6 [wN [0,0] [0,3] t fi,hB [0,0], .cells 33 (J8 y),buf nl xs]) R=c9b (a8x 33 a7m E7k W3) 33 (J8 y) (a7m (yOf (J8 y))) t fi nl xs R:=by kernel_rfl
noncomputable def g9t:L4:=i2d.add 84 (w9 (a2y 95 33 a7m E7k) (w9 (a2y 92 33 sL f4z) (w9 (a2y 89 33 mL E2k) c6q)))
theorem D1.cs {cs:List V} (h:D1 (yOf cs)):∃y,cs=J8 y:=by
 refine ⟨yOf cs,a5b (ds:=[iC (yOf cs) 0,iC (yOf cs) 1,lC (yOf cs) 2 3,iC (yOf cs) 3,iC (yOf cs) 4,iC (yOf cs) 5,iC (yOf cs) 6,lC (yOf cs) 7 1,bC (yOf cs) 8,iC (yOf cs) 9,lC (yOf cs) 10 4,iC (yOf cs) 11,lC (yOf cs) 12 4,lC (yOf cs) 13 3,sC (yOf cs) 14,lC (yOf cs) 15 16]) (Eq.symm h.v) ?_⟩
 intro d hd
 simp only[List.mem_cons,List.not_mem_nil,or_false] at hd
 rcases hd with rfl|rfl|rfl|rfl|rfl|rfl|rfl|rfl|rfl|rfl|rfl|rfl|rfl|rfl|rfl|rfl<;>simp
theorem q89:H9 B U89:=b3e q91 (fun cs h=>h.1.cs) fun t y fi nl xs hm hr=>by
 refine F6 B9 k88 q91 (fn:=Tryz.f89) (cd:=A7 Tryz.f89) (sp:=B8) (hn:=B1) (k:=4) (ads:=adC) (ends:=b6m 7) Tryz.func89 (by kernel_rfl) (by kernel_rfl) (by kernel_rfl) (by kernel_rfl) A8 rfl rfl (keep (w89 t y fi nl xs _) ?_)
 refine ⟨⟨hm.2,hr⟩,(by trivial), ?_⟩
 have e:fiA fi (mL (yOf (J8 y)))=fiA fi (A2 (A0 y 2)):=by
  show (fi&&((A2 (A0 y 2)).map M7).isEmpty)=(fi&&(A2 (A0 y 2)).isEmpty)
  rw[List.isEmpty_map]
 rw[e]
 rfl
theorem q92:H9 B U92:=b3e q89 (fun cs h=>h.1.cs) fun t y fi nl xs hm hr=>by
 refine F6 B9 k88 q89 (fn:=Tryz.f92) (cd:=A7 Tryz.f92) (sp:=B8) (hn:=B1) (k:=4) (ads:=adC) (ends:=b6m 7) Tryz.func92 (by kernel_rfl) (by kernel_rfl) (by kernel_rfl) (by kernel_rfl) A8 rfl rfl (keep (w92 t y fi nl xs _) ?_)
 refine ⟨⟨hm.2,hr⟩,(by trivial), ?_⟩
 have e:fiA fi (sL (yOf (J8 y)))=fiA fi (A2 (A0 y 10)):=by
  show (fi&&((A2 (A0 y 10)).map a5k).isEmpty)=(fi&&(A2 (A0 y 10)).isEmpty)
  rw[List.isEmpty_map]
 rw[e]
 rfl
theorem q95:H9 B U95:=b3e q92 (fun cs h=>h.1.cs) fun t y fi nl xs hm hr=>by
 refine F6 B9 k88 q92 (fn:=Tryz.f95) (cd:=A7 Tryz.f95) (sp:=B8) (hn:=B1) (k:=4) (ads:=adC) (ends:=b6m 6) Tryz.func95 (by kernel_rfl) (by kernel_rfl) (by kernel_rfl) (by kernel_rfl) A8 rfl rfl (keep (w95 t y fi nl xs _) ?_)
 refine ⟨⟨hm.1,hm.2,Nat.le_trans (Nat.le_succ _) hr⟩,(by trivial), ?_⟩
 rw[show fiA fi (a7m (yOf (J8 y)))=false from b2b]
 rfl
theorem i6k:H9 B g9t:=a8c (a8c (a8c q95 rfl (fun cs h=>h.1.cs) i2v) rfl (fun cs h=>h.1.cs) i2u) rfl (fun cs h=>h.1.cs) i2s
def f7x (i:Nat):D:=(Q6.getD (i-1) (.any, .any)).2
def kCl (i:Nat):List V:=match f7x i with | .agg ds=>ds.map V.d|_=>[]
noncomputable def fCl (i:Nat) (y:D):List V:=match c83.f [f7x i,y] with|some (.agg ds)=>ds.map V.d|_=>[]
abbrev eVk (i:Nat) (y:D):List D:=[.lit (.int .i64 (i:Int)),iC y 1,lC y 2 3,iC y 3,iC y 4,iC y 5,iC y 6,lC y 7 1,bC y 8,iC y 9,lC y 10 4,iC y 11,lC y 12 4,lC y 13 3,sC y 14,lC y 15 16]
abbrev d6k (i:Nat) (y:D):List V:=(eVk i y).map V.d
noncomputable def wIt (y:D):List D:=[wdD U5 (kd y)]++C7 11 y++C7 23 y++C7 15 y++C7 19 y++C7 31 y++C7 27 y++C7 35 y++C7 39 y++C7 43 y++C7 47 y++(A2 (A0 y 15)).map eD
def E0k (t y:D):Prop:=t= .map Q6∧ETx y
def ETk (κ:Nat) (t y:D):Prop:=E0k t y∧dsz y<κ
noncomputable def U60 (κ:Nat):L4:=g9t.add 60 (b5i (ETk κ) a7p)
abbrev xI (n:B2):List (B2×B2):=[([0,0],[0,0]),([0,1],[0,1]),([0,2],[0,2]),([0,3],[0,3]),([0,4],[0,4]),([0,5],[0,5]),([5000],n)]
abbrev xN:List B2:=[[0,0],[0,1],[0,2],[0,3],[0,4],[0,5],[5000]]
def h85:Nat→Option j5:=fun id =>
 let c (n:Nat):Option j5:=some {cut:=[([0,1,2,3],xI [n,2])] }
 match id with
 | 0=>c 11 | 2=>c 22 | 4=>c 31 | 6=>c 38 | 8=>c 49 | 10=>c 54 | 12=>c 60 | 14=>c 65 | 16=>c 71 | 17=>c 75 | 19=>c 80 | 21=>c 88|_=>none
noncomputable def l85:Code:=D7 (C5 (A7 Tryz.f85) 46)
abbrev p4:List V:=[.ptr [0,0] 0, .ptr [0,1] 0, .ptr [0,2] 0, .ptr [0,3] 0]
abbrev v10 (k:Nat→D):List V:=[.d (k 0), .d (k 1), .d (k 2), .d (k 3), .d (k 4), .d (k 5), .d (k 6), .d (k 7), .d (k 8), .d (k 9)]
abbrev v14 (k:Nat→D):List V:=v10 k++ [.d (k 10), .d (k 11), .d (k 12), .d (k 13)]
abbrev v16 (k:Nat→D):List V:=v14 k++ [.d (k 14), .d (k 15)]
def h2s (ks fs cs:List V):Prop:=∃k f c,ks=v14 k∧fs=v10 f∧cs=v16 c
abbrev tK:D:=.map Q6
def S85 (κ:Nat):Ev.Spec:={L:=[0,1,2,3,88,89,90],ns:=xI [5000],L':=[],nm':=xN,G:=fun M vals bs k=>match vals,bs with
 | [.ptr [0,0] 0, .ptr [0,1] 0, .ptr [0,2] 0, .ptr [0,3] 0, .d (.slice b z ys), .d (.lit (.int .i64 n)), .d (.lit (.int .i64 i))], [.cells 113 [.ptr [0,4] 0], .cells 104 ks, .cells 102 fs, .cells 33 cs, .cells 75 [.opt [0,4] 0, .ref [5000], .d t, .d (.lit (.bool fi))], .arr false nl0 5 1 xs0 [], .arr true nl 5 1 xs []]=>(M=98∧z=16∧i=0∧n=ys.length∧t=tK∧h2s ks fs cs∧f5c κ ys∧P2 (xs.length+L1 (ys.map eD)+1))∧k (.exit 0) [] [hB [0,4], .cells 104 ks, .cells 102 fs, .cells 33 cs,wN [0,4] [5000] t (fiA fi ys),W3 nl0 xs0,a5y fi nl xs (ys.map eD)]
 | _,_=>False }
abbrev eC7:List (List (B2×B2)):=[[([0,0],[0,0]),([0,1],[0,1]),([0,2],[0,2]),([0,3],[0,3]),([0,4],[0,4]),([0,5],[0,5]),([2],[5000])]]
abbrev adE:List Ad:=[.opt [0,4] 0 [0,4] 0]
theorem b85 (κ:Nat) (k:Nat→D) (f:Nat→D) (c:Nat→D) (t:D) (fi:Bool) (nl:Bool) (nl0:Bool) (b:Bool) (xs:List D) (xs0:List D) (ys:List D) (n:Int) (i:Int) (R:X→List V→List Box→Prop):(E1 (Cn T88) T88 (H7 (U60 κ)) 6 B8 B1 l85 98 [0,1,2,3,88,89,90] xN [] (xI [98,2]) [] (xI [5000])
 [V.ptr [0,0] 0,V.ptr [0,1] 0,V.ptr [0,2] 0,V.ptr [0,3] 0,V.d (D.slice b 16 ys),A3 n,A3 i]
 [hB [0,4],Box.cells 104 (v14 k),Box.cells 102 (v10 f),Box.cells 33 (v16 c),wN [0,4] [5000] t fi,W3 nl0 xs0,
 buf nl xs]
 R) =
 (bif decide (i<n) then
 ((((0:Int)≤i)∧(i.toNat<ys.length∧eV (ys.getD i.toNat D.any)=ys.getD i.toNat D.any))∧
 ((b5i (ETk κ) a7p).pre [V.ptr [0,0] 0,V.d (eV (ys.getD i.toNat D.any))]
 [Box.cells 75 [V.opt [0,0] 0,V.ref [0,1],V.d t,A6 fi],Box.arr true nl 5 1 xs []]∧
 (98=98∧
 R X.normal
 [V.ptr [0,0] 0,V.ptr [0,1] 0,V.ptr [0,2] 0,V.ptr [0,3] 0,V.d (D.slice b 16 ys),
 A3 n,A3 (IntKind.i64.wrap (i+1))]
 [Box.cells 113 [V.ptr [0,4] 0],
 Box.cells 104
 [V.d (k 0),V.d (k 1),V.d (k 2),V.d (k 3),V.d (k 4),V.d (k 5),V.d (k 6),V.d (k 7),V.d (k 8),V.d (k 9),
 V.d (k 10),V.d (k 11),V.d (k 12),V.d (k 13)],
 Box.cells 102
 [V.d (f 0),V.d (f 1),V.d (f 2),V.d (f 3),V.d (f 4),V.d (f 5),V.d (f 6),V.d (f 7),V.d (f 8),V.d (f 9)],
 Box.cells 33
 [V.d (c 0),V.d (c 1),V.d (c 2),V.d (c 3),V.d (c 4),V.d (c 5),V.d (c 6),V.d (c 7),V.d (c 8),V.d (c 9),
 V.d (c 10),V.d (c 11),V.d (c 12),V.d (c 13),V.d (c 14),V.d (c 15)],
 Box.cells 75 [V.opt [0,4] 0,V.ref [5000],V.d t,A6 false],Box.arr false nl0 5 1 xs0 [],
 Box.arr true false 5 1 (D2 fi xs (a7p (eV (ys.getD i.toNat D.any)))) []]))) else
 (98=98∧
 R (X.exit 0) []
 [Box.cells 113 [V.ptr [0,4] 0],
 Box.cells 104
 [V.d (k 0),V.d (k 1),V.d (k 2),V.d (k 3),V.d (k 4),V.d (k 5),V.d (k 6),V.d (k 7),V.d (k 8),V.d (k 9),
 V.d (k 10),V.d (k 11),V.d (k 12),V.d (k 13)],
 Box.cells 102
 [V.d (f 0),V.d (f 1),V.d (f 2),V.d (f 3),V.d (f 4),V.d (f 5),V.d (f 6),V.d (f 7),V.d (f 8),V.d (f 9)],
 Box.cells 33
 [V.d (c 0),V.d (c 1),V.d (c 2),V.d (c 3),V.d (c 4),V.d (c 5),V.d (c 6),V.d (c 7),V.d (c 8),V.d (c 9),
 V.d (c 10),V.d (c 11),V.d (c 12),V.d (c 13),V.d (c 14),V.d (c 15)],
 Box.cells 75 [V.opt [0,4] 0,V.ref [5000],V.d t,A6 fi],Box.arr false nl0 5 1 xs0 [],
 Box.arr true nl 5 1 xs []])):=by kernel_rfl
def gEl (s:ByteArray) (K:Bool→List D→Prop) (nl:Bool) (xs:List D):Prop:=s86.pre [.ptr [0,0] 0,C6 s] [wB [0,1] tK false,buf nl xs]∧K (J6 false nl s) (D2 false xs s)
def gIf (c:Bool) (G:(Bool→List D→Prop)→Bool→List D→Prop) (K:Bool→List D→Prop) (nl:Bool) (xs:List D):Prop:=bif c then G K nl xs else K nl xs
def h6m (l:List D) (k:Int):Prop:=0≤k∧k.toNat<l.length∧ .lit (.string (A4 (l.getD k.toNat .any)))=l.getD k.toNat .any
def gIx (l:List D) (k:Int) (K:Bool→List D→Prop) (nl:Bool) (xs:List D):Prop:=h6m l k∧gEl (A4 (l.getD k.toNat .any)) K nl xs
noncomputable abbrev g4v:Sm:=w9 (a2y 95 33 a7m E7k) (w9 (a2y 92 33 sL f4z) (w9 (a2y 89 33 mL E2k) c6q))
noncomputable def gLs (k:Nat) (i:Nat) (y:D) (its:List D) (K:Bool→List D→Prop) (nl:Bool) (xs:List D):Prop:=g4v.pre [.ptr [0,0] 0, .fn (.func k) [] [.ptr [0,1] 0, .ptr [0,2] 0]] [wN [0,0] [0,3] tK false,hB [0,0], .cells 33 (d6k i y),buf nl xs]∧K false (D2 false xs (G2 its))
noncomputable def gNm (n:Int) (K:Bool→List D→Prop) (nl:Bool) (xs:List D):Prop:=s94.pre [.ptr [0,0] 0,A3 n] [wB [0,1] tK false,buf nl xs]∧K (J6 false nl (g9 n)) (D2 false xs (g9 n))
noncomputable def gPt (p:D) (K:Bool→List D→Prop) (nl:Bool) (xs:List D):Prop:=s91.pre [.ptr [0,0] 0, .d p] [wB [0,1] tK false,buf nl xs]∧K false (D2 false xs (b4d p))
def kNm (i:Nat):ByteArray:=match f7x i with | .agg (.lit (.string s)::_)=>s|_=>⟨#[]⟩
def fnL (i:Nat):List D:=match f7x i with | .agg ds=>A2 (ds.getD 11 .any)|_=>[]
noncomputable def G85 (κ i : Nat) (y : D) (fi nl : Bool) (xs : List D) (R : V → List Box → Prop) : Prop :=
 s86.pre [.ptr [0,0] 0, C6 (kNm i)] [wB [0,1] tK fi, buf nl xs] ∧
 (gIf (hF i) (gIx (fnL i) (IntKind.i64.wrap (A1 (A0 y 1) - 1)))
 (gIf ((i : Int) == 7) (fun K nl xs => True ∧ gIx c8x (A1 (A0 y 9)) K nl xs)
 (gIf (gN i (A1 (A0 y 1))) (fun K nl xs => (c3x (A1 (A0 y 5)) ∧ c3x (A1 (A0 y 6))) ∧ gEl (f3d (A1 (A0 y 5)) (A1 (A0 y 6))) K nl xs)
 (gIf (bif gT i (A1 (A0 y 1)) then (i : Int) != 5 else false) (gEl (A4 (A0 y 14)))
 (gIf (hM i) (gLs 89 i y (mL y))
 (gIf (hP i) (gPt (paV y))
 (gIf (hS i) (gLs 92 i y (sL y))
 (gIf (hW i) (fun K => gNm (A1 (A0 y 3)) (gNm (A1 (A0 y 4)) K))
 (gIf (hNm i) (gLs 95 i y (a7m y))
 (gIf ((i : Int) == 5) (fun K nl xs => (A4 (A0 y 14)).size ≤ 17592186044400 ∧ gEl (K4 (A4 (A0 y 14))) K nl xs)
 (fun nl' xs' => (98 = 98 ∧ 16 = 16 ∧ (0 : Int) = 0 ∧ ((A2 (A0 y 15)).length : Int) = (A2 (A0 y 15)).length ∧ tK = tK ∧ h2s (kCl i) (fCl i (.agg (eVk i y))) (d6k i y) ∧ f5c κ (A2 (A0 y 15)) ∧ P2 (xs'.length + L1 ((A2 (A0 y 15)).map eD) + 1)) ∧
  R (.d (.tup [])) [hB [0,4], .cells 104 (kCl i), .cells 102 (fCl i (.agg (eVk i y))), .cells 33 (d6k i y), wN [0,4] [2] tK (fiA false (A2 (A0 y 15))), W3 nl xs, a5y false nl' xs' ((A2 (A0 y 15)).map eD)]))))))))))) (J6 fi nl (kNm i)) (D2 fi xs (kNm i))
def W85 (i:Nat):Prop:=∀(κ:Nat) (y:D) (fi nl:Bool) (xs:List D) (R:V→List Box→Prop),F3 (Cn T88) T88 (H7 (U60 κ)) 6 (spL [(46,S85 κ)]) h85 adE eC7 85 p4 (H6 [hB [0,4], .cells 104 (kCl i), .cells 102 (fCl i (.agg (eVk i y))), .cells 33 (d6k i y),wN [0,4] [0,5] tK fi,buf nl xs]) R=G85 κ i y fi nl xs R
theorem h3n:W85 1:=fun κ y fi nl xs R=>by kernel_rfl
theorem h3m:W85 2:=fun κ y fi nl xs R=>by kernel_rfl
theorem h3k:W85 3:=fun κ y fi nl xs R=>by kernel_rfl
theorem h3j:W85 4:=fun κ y fi nl xs R=>by kernel_rfl
theorem h3i:W85 5:=fun κ y fi nl xs R=>by kernel_rfl
theorem h3h:W85 6:=fun κ y fi nl xs R=>by kernel_rfl
theorem h3g:W85 7:=fun κ y fi nl xs R=>by kernel_rfl
theorem h3f:W85 8:=fun κ y fi nl xs R=>by kernel_rfl
theorem h3e:W85 9:=fun κ y fi nl xs R=>by kernel_rfl
theorem g6a:W85 10:=fun κ y fi nl xs R=>by kernel_rfl
theorem g5z:W85 11:=fun κ y fi nl xs R=>by kernel_rfl
theorem g5y:W85 12:=fun κ y fi nl xs R=>by kernel_rfl
theorem g5x:W85 13:=fun κ y fi nl xs R=>by kernel_rfl
def E85 (κ:Nat) (t:D) (ks fs cs:List V):Prop:=∃(i:Nat) (y:D),(1≤i∧i≤13)∧t=tK∧ks=kCl i∧fs=fCl i (.agg (eVk i y))∧cs=d6k i y∧ETx (.agg (eVk i y))∧dsz (.agg (eVk i y))<κ+1
noncomputable def g6m (κ:Nat):Sm:=⟨fun vals bs=>match bs with | [_, .cells _ ks, .cells _ fs, .cells _ cs, .cells _ [_,_, .d t,_], .arr _ _ _ _ xs _]=>E85 κ t ks fs cs∧P2 (xs.length+L1 (wIt (yOf cs))+1)|_=>False,fun vals bs=>match vals,bs with
 | [.ptr [0,0] 0, .ptr [0,1] 0, .ptr [0,2] 0, .ptr [0,3] 0], [.cells 113 [.ptr [0,4] 0], .cells 104 ks, .cells 102 fs, .cells 33 cs, .cells 75 [.opt [0,4] 0, .ref [0,5], .d t, .d (.lit (.bool fi))], .arr true nl 5 1 xs []]=>one (.d (.tup [])) [hB [0,4], .cells 104 ks, .cells 102 fs, .cells 33 cs,wN [0,4] [2] t false,W3 nl xs] [a5y fi nl xs (wIt (yOf cs))]
 | _,_=>none⟩
noncomputable def g6k (κ:Nat):Sm:=⟨fun vals bs=>match bs with | [.cells _ [_,_, .d t,_],_, .cells _ ks, .cells _ fs, .cells _ cs, .arr _ _ _ _ xs _]=>E85 κ t ks fs cs∧P2 (xs.length+L1 (wIt (yOf cs))+3)|_=>False,fun vals bs=>match vals,bs with
 | [.ptr [0,0] 0, .fn (.func 85) [] [.ptr [0,1] 0, .ptr [0,2] 0, .ptr [0,3] 0, .ptr [0,4] 0]], [.cells 75 [.opt [0,0] 0, .ref [0,5], .d t, .d (.lit (.bool fi))], .cells 113 [.ptr [0,0] 0], .cells 104 ks, .cells 102 fs, .cells 33 cs, .arr true nl 5 1 xs []]=>one (.d (.tup [])) [wN [0,0] [2] t false,hB [0,0], .cells 104 ks, .cells 102 fs, .cells 33 cs,W3 nl xs] [buf false (D2 fi xs (G2 (wIt (yOf cs))))]
 | _,_=>none⟩
noncomputable def U85 (κ:Nat):L4:=(U60 κ).add 85 (g6m κ)
abbrev h6x:List (List (B2×B2)):=[[([0,0],[0,0]),([0,1],[0,1]),([0,2],[0,2]),([0,3],[0,3]),([0,4],[0,4]),([0,5],[0,5]),([2],[16,2])]]
def h5y (S:Sm) (ks fs cs:List V) (its:List D) (t:D) (fi nl:Bool) (xs:List D) (R:V→List Box→Prop):Prop :=
 s86.pre [.ptr [0,0] 0,C6 a2f] [wB [0,1] t fi,buf nl xs]∧S.pre p4 [hB [0,4], .cells 104 ks, .cells 102 fs, .cells 33 cs,wN [0,4] [0,5] t true,buf (J6 fi nl a2f) (D2 fi xs a2f)]∧
 b8x.pre [.ptr [0,0] 0, .d (.lit (.int .u8 41))] [wB [0,1] t false,a5y true (J6 fi nl a2f) (D2 fi xs a2f) its]∧
 R (.d (.tup [])) [wN [0,0] [2] t false,hB [0,0], .cells 104 ks, .cells 102 fs, .cells 33 cs,W3 nl xs,buf false ((E4 true (J6 fi nl a2f) (D2 fi xs a2f) its).2++ [bD8 41])]
theorem i2r (κ:Nat) (k f c:Nat→D) (t:D) (fi nl:Bool) (xs:List D) (R:V→List Box→Prop):F3 (Cn T88) T88 (H7 (U85 κ)) 6 B8 B1 adW h6x 84 [.ptr [0,0] 0, .fn (.func 85) [] [.ptr [0,1] 0, .ptr [0,2] 0, .ptr [0,3] 0, .ptr [0,4] 0]] (H6 [wN [0,0] [0,5] t fi,hB [0,0], .cells 104 (v14 k), .cells 102 (v10 f), .cells 33 (v16 c),buf nl xs]) R=h5y (g6m κ) (v14 k) (v10 f) (v16 c) (wIt (yOf (v16 c))) t fi nl xs R:=by kernel_rfl
noncomputable def i2c (κ:Nat):L4:=(U85 κ).add 84 (w9 (g6k κ) g4v)
def W60 (i:Nat):Prop:=∀(κ:Nat) (y:D) (fi nl:Bool) (xs:List D) (R:V→List Box→Prop),F3 (Cn T88) T88 (H7 (i2c κ)) 2 B8 B1 adW (eW3 20) 60 [.ptr [0,0] 0, .d (.agg (eVk i y))] (H6 [wB [0,1] tK fi,buf nl xs]) R =
 (D1 (.agg (eVk i y))∧(g6k κ).pre [.ptr [0,0] 0, .fn (.func 85) [] [.ptr [0,1] 0, .ptr [0,2] 0, .ptr [0,3] 0, .ptr [0,4] 0]] [wN [0,0] [0,5] tK fi,hB [0,0], .cells 104 (kCl i), .cells 102 (fCl i (.agg (eVk i y))), .cells 33 (d6k i y),buf nl xs]∧R (.d (.tup [])) [wB [2] tK false,W3 nl xs,buf false (D2 fi xs (G2 (wIt (.agg (eVk i y)))))])
theorem h3w:W60 1:=fun κ y fi nl xs R=>by kernel_rfl
theorem h3v:W60 2:=fun κ y fi nl xs R=>by kernel_rfl
theorem h3u:W60 3:=fun κ y fi nl xs R=>by kernel_rfl
theorem h3t:W60 4:=fun κ y fi nl xs R=>by kernel_rfl
theorem h3s:W60 5:=fun κ y fi nl xs R=>by kernel_rfl
theorem h3r:W60 6:=fun κ y fi nl xs R=>by kernel_rfl
theorem h3q:W60 7:=fun κ y fi nl xs R=>by kernel_rfl
theorem h3p:W60 8:=fun κ y fi nl xs R=>by kernel_rfl
theorem h3o:W60 9:=fun κ y fi nl xs R=>by kernel_rfl
theorem g6f:W60 10:=fun κ y fi nl xs R=>by kernel_rfl
theorem g6e:W60 11:=fun κ y fi nl xs R=>by kernel_rfl
theorem g6d:W60 12:=fun κ y fi nl xs R=>by kernel_rfl
theorem g6c:W60 13:=fun κ y fi nl xs R=>by kernel_rfl
theorem p5 {c:Bool} {G:(Bool→List D→Prop)→Bool→List D→Prop} {K:Bool→List D→Prop} {nl:Bool} {xs its rest:List D} {T:Bool×List D} (hr:xs.length+L1 ((bif c then its else [])++rest)+1≤70368744177664) (ht:E4 false nl xs ((bif c then its else [])++rest)=T)
  (hG:c=true→xs.length+L1 (its++rest)+1≤70368744177664→K (E4 false nl xs its).1 (E4 false nl xs its).2→G K nl xs)
  (hK:∀nl' xs',xs'.length+L1 rest+1≤70368744177664→E4 false nl' xs' rest=T→K nl' xs'):gIf c G K nl xs:=by
 cases c with
 | false=>exact hK nl xs hr ht
 | true =>
  refine hG rfl hr (hK _ _ ?_ ?_)
  ·have:=u3 its false nl xs
   simp only[cond_true,b4w] at hr
   omega
  ·simp only[cond_true,a5o] at ht
   exact ht
theorem gel {s:ByteArray} {d:D} {K:Bool→List D→Prop} {nl:Bool} {xs rest:List D} (hs:A4 d=s) (hr:xs.length+L1 (d::rest)+1≤70368744177664) (hk:K (E4 false nl xs [d]).1 (E4 false nl xs [d]).2):gEl s K nl xs:=by
 subst hs
 have hr:xs.length+((A4 d).size+1+L1 rest)+1≤70368744177664:=hr
 exact ⟨by show xs.length+1+(A4 d).size≤_;omega,hk⟩
theorem b6n {p:Nat→Prop} (h:p 1∧p 2∧p 3∧p 4∧p 5∧p 6∧p 7∧p 8∧p 9∧p 10∧p 11∧p 12∧p 13) {i:Nat} (h1:1≤i∧i≤13):p i:=by
 have:i=1∨i=2∨i=3∨i=4∨i=5∨i=6∨i=7∨i=8∨i=9∨i=10∨i=11∨i=12∨i=13:=by omega
 obtain ⟨a,b,c,d,e,f,g,k,l,m,n,o,q⟩:=h
 rcases this with rfl|rfl|rfl|rfl|rfl|rfl|rfl|rfl|rfl|rfl|rfl|rfl|rfl<;>assumption
theorem g8d {i:Nat} (h:1≤i∧i≤13):A4 (U5.getD i .any)=kNm i:=b6n (p:=fun i=>A4 (U5.getD i .any)=kNm i) ⟨rfl,rfl,rfl,rfl,rfl,rfl,rfl,rfl,rfl,rfl,rfl,rfl,rfl⟩ h
theorem g8x {i:Nat} (h:1≤i∧i≤13):hF i=true→Y4 i=sB []::fnL i:=by
 refine b6n (p:=fun i=>hF i=true→Y4 i=sB []::fnL i) ?_ h
 refine ⟨?_, ?_, ?_, ?_, ?_, ?_, ?_, ?_, ?_, ?_, ?_, ?_, ?_⟩<;>first|exact fun _=>rfl|exact fun h=>absurd h (by decide)
def dAt (vs:List V) (j:Nat):D:=match vs.getD j .any with | .d x=>x|_=>.any
def f4y (i:Nat):Prop:=kCl i=v14 (dAt (kCl i))∧∀y,fCl i (.agg (eVk i y))=v10 (dAt (fCl i (.agg (eVk i y))))
theorem e3x {i:Nat} (h:1≤i∧i≤13) (y:D):h2s (kCl i) (fCl i (.agg (eVk i y))) (d6k i y):=by
 have hh:f4y i:=b6n (p:=f4y) ⟨⟨(by kernel_rfl),fun y=>(by kernel_rfl)⟩,⟨(by kernel_rfl),fun y=>(by kernel_rfl)⟩,⟨(by kernel_rfl),fun y=>(by kernel_rfl)⟩,⟨(by kernel_rfl),fun y=>(by kernel_rfl)⟩,⟨(by kernel_rfl),fun y=>(by kernel_rfl)⟩,⟨(by kernel_rfl),fun y=>(by kernel_rfl)⟩,⟨(by kernel_rfl),fun y=>(by kernel_rfl)⟩,⟨(by kernel_rfl),fun y=>(by kernel_rfl)⟩,⟨(by kernel_rfl),fun y=>(by kernel_rfl)⟩,⟨(by kernel_rfl),fun y=>(by kernel_rfl)⟩,⟨(by kernel_rfl),fun y=>(by kernel_rfl)⟩,⟨(by kernel_rfl),fun y=>(by kernel_rfl)⟩,⟨(by kernel_rfl),fun y=>(by kernel_rfl)⟩⟩ h
 exact ⟨_,_,fun j=>(eVk i y).getD j .any,hh.1,hh.2 y,rfl⟩
theorem g5v (z:D):wIt z=wdD U5 (kd z)::(C7 11 z++(C7 23 z++(C7 15 z++(C7 19 z++(C7 31 z++(C7 27 z++(C7 35 z++(C7 39 z++(C7 43 z++(C7 47 z++(A2 (A0 z 15)).map eD)))))))))):=by
 simp only[wIt,List.append_assoc,List.cons_append,List.nil_append]
theorem g8w {κ i:Nat} {y:D} {fi nl:Bool} {xs:List D} {R:V→List Box→Prop} (h1:1≤i∧i≤13) (hE:ETx (.agg (eVk i y))) (hd:dsz (.agg (eVk i y))<κ+1) (hr:xs.length+L1 (wIt (.agg (eVk i y)))+1≤70368744177664)
  (hR:R (.d (.tup [])) [hB [0,4], .cells 104 (kCl i), .cells 102 (fCl i (.agg (eVk i y))), .cells 33 (d6k i y),wN [0,4] [2] tK false,W3 nl xs,a5y fi nl xs (wIt (.agg (eVk i y)))]):G85 κ i y fi nl xs R:=by
 obtain ⟨hf,⟨k0,k1⟩,ht,hx,hp⟩:=hE.l
 generalize hz:D.agg (eVk i y)=z at *
 have z0:kd z=i:=by subst hz;rfl
 have e11:hF i=G4 11 z:=by
  show _=decide (((Y4 (kd z)).length:Int)>0)
  rw[z0,(b2y _).1]
 have hfn:ab (hF i) (ob (decide (A1 (A0 z 1)<1)) (decide (A1 (A0 z 1)>nF i)))=false:=by
  cases g:hF i with
  | false=>rfl
  | true =>
   have h11:=hp 11 (by rw[←e11];exact g)
   have h11:1≤A1 (A0 z 1)∧(A1 (A0 z 1)).toNat<(Y4 (kd z)).length:=h11
   have hl:=(b2y (i:Int)).2 g
   rw[z0] at h11
   have a1:decide (A1 (A0 z 1)<1)=false:=by have:=h11.1;simp;omega
   have a2:decide (A1 (A0 z 1)>nF i)=false:=by have:=h11.2;simp;omega
   rw[a1,a2];rfl
 have e15:gN i (A1 (A0 y 1))=G4 15 z:=by
  show _=hN (kd z) (fc z)
  rw[z0, ←f3b hfn];subst hz;rfl
 have e19:(bif gT i (A1 (A0 y 1)) then (i:Int) !=5 else false)=G4 19 z:=by
  show _=ab (hT (kd z) (fc z)) (kd z !=5)
  rw[z0,f3a];subst hz;rfl
 have e23:((i:Int)==7)=G4 23 z:=by show _=(kd z==7);rw[z0]
 have e47:((i:Int)==5)=G4 47 z:=by show _=(kd z==5);rw[z0]
 have e31:hM i=G4 31 z:=by show _=hM (kd z);rw[z0]
 have e27:hP i=G4 27 z:=by show _=hP (kd z);rw[z0]
 have e35:hS i=G4 35 z:=by show _=hS (kd z);rw[z0]
 have e39:hW i=G4 39 z:=by show _=hW (kd z);rw[z0]
 have e43:hNm i=G4 43 z:=by show _=hNm (kd z);rw[z0]
 unfold G85
 rw[e11,e15,e19,e23,e47,e31,e27,e35,e39,e43]
 have hw:=g5v z
 rw[hw] at hr
 have hnm:A4 (wdD U5 (kd z))=kNm i:=by rw[z0];exact g8d h1
 have hr:xs.length+((A4 (wdD U5 (kd z))).size+1+L1 (C7 11 z++(C7 23 z++(C7 15 z++(C7 19 z++(C7 31 z++(C7 27 z++(C7 35 z++(C7 39 z++(C7 43 z++(C7 47 z++(A2 (A0 z 15)).map eD)))))))))))+1≤70368744177664:=hr
 rw[hnm] at hr
 have hp0:=S8 fi xs (kNm i)
 have hT:E4 false (J6 fi nl (kNm i)) (D2 fi xs (kNm i)) (C7 11 z++(C7 23 z++(C7 15 z++(C7 19 z++(C7 31 z++(C7 27 z++(C7 35 z++(C7 39 z++(C7 43 z++(C7 47 z++(A2 (A0 z 15)).map eD))))))))))=E4 fi nl xs (wIt z):=by
  rw[hw]
  show _=E4 false (J6 fi nl (A4 (wdD U5 (kd z)))) (D2 fi xs (A4 (wdD U5 (kd z)))) _
  rw[hnm]
 refine ⟨by show xs.length+1+(kNm i).size≤_;omega, ?_⟩
 have hr0:(D2 fi xs (kNm i)).length+L1 (C7 11 z++(C7 23 z++(C7 15 z++(C7 19 z++(C7 31 z++(C7 27 z++(C7 35 z++(C7 39 z++(C7 43 z++(C7 47 z++(A2 (A0 z 15)).map eD))))))))))+1≤70368744177664:=by omega
 refine p5 (its:=S7 11 z) hr0 hT (fun g hr hk=>?_) fun nl xs hr hT=>?_
 ·have h11:1≤fc z∧(fc z).toNat<(Y4 (kd z)).length:=hp 11 g
  rw[z0] at h11
  have hl:=g8x h1 (by rw[e11];exact g)
  have hlen:(Y4 (i:Int)).length≤100:=by
   have:=(b2y (i:Int)).2 (by rw[e11];exact g)
   have:nF i≤11:=by unfold nF;cases ((i:Int)==2)<;>cases ((i:Int)==3)<;>cases ((i:Int)==6)<;>cases ((i:Int)==7)<;>decide
   omega
  obtain ⟨n1,n2⟩:=b5x (k:=fc z) hl (c9s _) h11.1 h11.2 hlen
  have hc:A1 (A0 y 1)=fc z:=by subst hz;rfl
  rw[hc]
  unfold gIx h6m
  rw[n2]
  refine ⟨n1,gel (d:=wdD (Y4 (kd z)) (fc z)) (by rw[z0];rfl) hr hk⟩
 refine p5 (its:=S7 23 z) hr hT (fun g hr hk=>?_) fun nl xs hr hT=>?_
 ·have h23:0≤A1 (A0 z 9)∧(A1 (A0 z 9)).toNat<a6t.length:=hp 23 g
  have hc:A1 (A0 y 9)=A1 (A0 z 9):=by subst hz;rfl
  rw[hc]
  exact ⟨trivial,⟨h23.1,h23.2,(b4e _ (D8 (xs:=c8x) h23.2)).1⟩,gel (d:=wdD a6t (A1 (A0 z 9))) rfl hr hk⟩
 refine p5 (its:=S7 15 z) hr hT (fun g hr hk=>?_) fun nl xs hr hT=>?_
 ·have h15:X0 (A1 (A0 z 5)) (A1 (A0 z 6))=0:=hp 15 g
  have hr15:=b7b (n:=A1 (A0 z 5)) (d:=A1 (A0 z 6)) (by rw[h15];rfl)
  have hc:A1 (A0 y 5)=A1 (A0 z 5):=by subst hz;rfl
  have hc':A1 (A0 y 6)=A1 (A0 z 6):=by subst hz;rfl
  rw[hc,hc',g8y h15]
  exact ⟨⟨⟨by omega,by omega⟩,by omega,by omega⟩,gel (d:=.lit (.string (b8y (A1 (A0 z 5)) (A1 (A0 z 6))))) rfl hr hk⟩
 refine p5 (its:=S7 19 z) hr hT (fun g hr hk=>?_) fun nl xs hr hT=>?_
 ·exact gel (d:=sDD z 14) (by subst hz;rfl) hr hk
 refine p5 (its:=S7 31 z) hr hT (fun g hr hk=>?_) fun nl xs hr hT=>?_
 ·have hm:b2m (A2 (A0 z 2)):=hp 31 g
  have hl:=Z5 (mL z)
  have hr:xs.length+((G2 (mL z)).size+1+L1 _)+1≤70368744177664:=hr
  subst hz
  exact ⟨⟨⟨hf,hm⟩,by show xs.length+L1 (mL (.agg (eVk i y)))+3≤_;omega⟩,hk⟩
 refine p5 (its:=S7 27 z) hr hT (fun g hr hk=>?_) fun nl xs hr hT=>?_
 ·have hm:PTx (paV z):=hp 27 g
  have hr:xs.length+((b4d (paV z)).size+1+L1 _)+1≤70368744177664:=hr
  subst hz
  exact ⟨⟨hm,by show xs.length+1+(b4d (paV (.agg (eVk i y)))).size+1≤_;omega⟩,hk⟩
 refine p5 (its:=S7 35 z) hr hT (fun g hr hk=>?_) fun nl xs hr hT=>?_
 ·have hm:b9d (A2 (A0 z 10)):=hp 35 g
  have hl:=Z5 (sL z)
  have hr:xs.length+((G2 (sL z)).size+1+L1 _)+1≤70368744177664:=hr
  subst hz
  exact ⟨⟨⟨hf,hm⟩,by show xs.length+L1 (sL (.agg (eVk i y)))+3≤_;omega⟩,hk⟩
 refine p5 (its:=S7 39 z) hr hT (fun g hr hk=>?_) fun nl xs hr hT=>?_
 ·have hm:(0≤A1 (A0 z 3)∧A1 (A0 z 3)≤1152921504606846976)∧(0≤A1 (A0 z 4)∧A1 (A0 z 4)≤1152921504606846976):=hp 39 g
  have hr:xs.length+((Q3 (A1 (A0 z 3))).size+1+((Q3 (A1 (A0 z 4))).size+1+L1 _))+1≤70368744177664:=hr
  have hc:A1 (A0 y 3)=A1 (A0 z 3):=by subst hz;rfl
  have hc':A1 (A0 y 4)=A1 (A0 z 4):=by subst hz;rfl
  have hp1:=S8 false xs (Q3 (A1 (A0 z 3)))
  rw[hc,hc']
  unfold gNm
  rw[a4b hm.1.1,a4b hm.2.1]
  refine ⟨⟨⟨by omega,by omega⟩,by rw[a4b hm.1.1];show _≤_;omega⟩,⟨⟨by omega,by omega⟩,by rw[a4b hm.2.1];show _≤_;omega⟩,hk⟩
 refine p5 (its:=S7 43 z) hr hT (fun g hr hk=>?_) fun nl xs hr hT=>?_
 ·have hm:D1 z∧d7n (A2 (A0 z 7)):=hp 43 g
  have hgs:c9n z=G2 (a7m z):=by unfold c9n a7m;cases P5 (A0 z 8)<;>rfl
  have hl:=Z5 (a7m z)
  have hr:xs.length+((c9n z).size+1+L1 _)+1≤70368744177664:=hr
  have hk:_:=hk
  have hn:b4u (A2 (A0 z 7)):=fun q hq=>(hm.2.2 q hq).1
  rw[hgs] at hr
  have e:S7 43 z= [.lit (.string (G2 (a7m z)))]:=by rw[←hgs];rfl
  rw[e] at hk
  subst hz
  exact ⟨⟨⟨hf,hn⟩,by show xs.length+L1 (a7m (.agg (eVk i y)))+3≤_;omega⟩,hk⟩
 refine p5 (its:=S7 47 z) hr hT (fun g hr hk=>?_) fun nl' xs' hr hT=>?_
 ·have hc:A4 (A0 y 14)=A4 (A0 z 14):=by subst hz;rfl
  rw[hc]
  exact ⟨Nat.le_trans hx (by decide),gel (d:=qDD z 14) rfl hr hk⟩
 have hA:f5c κ (A2 (A0 z 15)):=by
  refine ⟨?_,fun a ha=>⟨hE.a ha, ?_⟩⟩
  ·have:=a4d z
   have:=a4a (xs:=E6 z 15)
   unfold E6 at *
   omega
  ·have:=G6 (y:=z) (i:=15) ha
   omega
 have hs:A2 (A0 y 15)=A2 (A0 z 15):=by subst hz;rfl
 rw[hs]
 refine ⟨⟨rfl,rfl,rfl,rfl,rfl,hz▸e3x h1 y,hA,hr⟩, ?_⟩
 unfold a5y
 rw[hT]
 subst hz
 exact hR
theorem w28 (y:D) (p:V→Prop):(B6 (Cn T62) T62 D5 0 B8 B1 28 [V.d (eV y)] B3.empty fun v H=>p (B4 H v)) =
 ((D1 (eV y)∧Bd (eV y))∧
 (bif F4 (eV y) !=0 then
 p (V.d (D.tup [zD (bA []),iD (F4 (eV y))])) else
 (ETx (eV y)∧
 p (V.d (D.tup [zD (a7p (eV y)),iD 0]))))):=by kernel_rfl
noncomputable def prS (y:D):ByteArray:=bif F4 y !=0 then ByteArray.mk (Array.mk []) else a7p y
structure a8r (y:D):Prop where
 f:D1 y
 b:Bd y
 t:F4 y=0→ETx y
noncomputable def c28:Ct:=⟨fun | [x]=>a8r x|_=>False,fun | [x]=>some (.tup [.lit (.string (prS x)),u7 (F4 x)])|_=>none⟩
noncomputable def T28:Tab:=T62.add 28 c28
theorem w33 (x:D) (y:D) (p:V→Prop):(B6 (Cn T28) T28 D5 0 B8 B1 33 [V.d (eV x),V.d (eV y)] B3.empty fun v H=>p (B4 H v)) =
 (a8r (eV x)∧
 (a8r (eV y)∧
 p
 (A6 (bif bif F4 (eV x)==0 then F4 (eV y)==0 else false then
 (prS
 (D.agg
 [iC x 0,iC x 1,lC x 2 3,iC x 3,iC x 4,iC x 5,iC x 6,lC x 7 1,bC x 8,iC x 9,lC x 10 4,
 iC x 11,lC x 12 4,lC x 13 3,sC x 14,lC x 15 16])).toList ==
 (prS
 (D.agg
 [iC y 0,iC y 1,lC y 2 3,iC y 3,iC y 4,iC y 5,iC y 6,lC y 7 1,bC y 8,iC y 9,lC y 10 4,
 iC y 11,lC y 12 4,lC y 13 3,sC y 14,lC y 15 16])).toList
 else false)))):=by kernel_rfl
noncomputable def eqB (x y:D):Bool:=bif bif F4 x==0 then F4 y==0 else false then (prS x).toList==(prS y).toList else false
noncomputable def e7y:Ct:=⟨fun | [x,y]=>a8r x∧a8r y|_=>False,fun | [x,y]=>some (.lit (.bool (eqB x y)))|_=>none⟩
noncomputable def T33:Tab:=T28.add 33 e7y
noncomputable def l31:Code:=D7 (C5 (A7 Tryz.f31) 8)
theorem b31 (xs:List D) (ys:List D) (b1:Bool) (b2:Bool) (i:Int) (R:X→List V→List Box→Prop):(E1 (Cn T33) T33 D5 0 B8 B1 l31 27 [0,1,5] [] [] [] [4] []
 [V.d (D.slice b1 16 xs),V.d (D.slice b2 16 ys),A3 i] [] R) =
 (bif decide (i<(↑xs.length:Int)) then
 ((((0:Int)≤i)∧(i.toNat<xs.length∧eV (xs.getD i.toNat D.any)=xs.getD i.toNat D.any))∧
 ((((0:Int)≤i)∧(i.toNat<ys.length∧eV (ys.getD i.toNat D.any)=ys.getD i.toNat D.any))∧
 ((a8r (eV (xs.getD i.toNat D.any))∧a8r (eV (ys.getD i.toNat D.any)))∧
 (bif !eqB (eV (xs.getD i.toNat D.any)) (eV (ys.getD i.toNat D.any)) then
 (27=27∧
 R X.ret [A6 false] []) else
 (27=27∧
 R X.normal
 [V.d (D.slice b1 16 xs),V.d (D.slice b2 16 ys),A3 (IntKind.i64.wrap (i+1))] []))))) else
 (27=27∧
 R (X.exit 0) [V.any] [])):=by kernel_rfl
noncomputable def d4e (xs ys:List D) (i:Nat):Option Bool:=bif !(eqB (xs.getD i .any) (ys.getD i .any)) then some false else none
def c8a (xs:List D):Prop:=xs.length≤1152921504606846976∧∀y∈xs,a8r y
noncomputable def S31:Ev.Spec:={L:=[0,1,5],ns:=[],L':=[4],nm':=[],G:=fun N vals bs k=>match vals,bs with
 | [.d (.slice b1 16 xs), .d (.slice b2 16 ys), .d (.lit (.int .i64 i))], []=>(N=27∧i=0∧xs.length=ys.length∧c8a xs∧c8a ys)∧S3 (C1 (d4e xs ys) xs.length) (k (.exit 0) [.any] []) (fun e=>k .ret [A6 e] [])
 | _,_=>False }
theorem w31 (xs:List D) (ys:List D) (b1:Bool) (b2:Bool) (p:V→Prop):(B6 (Cn T33) T33 D5 0 (spL [(8,S31)]) B1 31 [V.d (D.slice b1 16 xs),V.d (D.slice b2 16 ys)] B3.empty
 fun v H=>p (B4 H v)) =
 (bif (↑xs.length:Int) !=(↑ys.length:Int) then
 p (A6 false) else
 ((27=27∧(((0:Int)=0)∧(xs.length=ys.length∧(c8a xs∧c8a ys))))∧
 (match C1 (d4e xs ys) xs.length with
 | some y0 =>
 p (A6 y0)
 | none=>p (A6 true)))):=by kernel_rfl
noncomputable def b8b (xs ys:List D):Bool:=bif ((xs.length:Int) !=(ys.length:Int)) then false else match C1 (d4e xs ys) xs.length with|some e=>e|none=>true
noncomputable def c31:Ct:=⟨fun | [.slice _ z xs, .slice _ z' ys]=>z=16∧z'=16∧c8a xs∧c8a ys|_=>False,fun | [.slice _ _ xs, .slice _ _ ys]=>some (.lit (.bool (b8b xs ys)))|_=>none⟩
noncomputable def T31:Tab:=T33.add 31 c31
theorem k28:C3 B T28:=by
 refine C4 B9 k62 (fn:=Tryz.f28) (cd:=A7 Tryz.f28) (sp:=B8) (hn:=B1) Tryz.func28 (by kernel_rfl) (by kernel_rfl) A8 fun ds r hp hr=>?_
 unfold c28 at hp hr
 simp only[] at hr hp
 split at hr
 ·rename_i y
  cases hr
  rw[X9 hp.f.v]
  refine keep (w28 y fun v=>v=_) ?_
  rw[hp.f.v]
  unfold prS
  refine ⟨⟨hp.f,hp.b⟩,A5 (fun g=>?_) (fun g=>?_)⟩
  ·simp only[g,cond_true]
  ·have g0:F4 y=0:=by simpa using g
   simp only[g0]
   exact ⟨hp.t g0,rfl⟩
 ·cases hr
theorem k33:C3 B T33:=by
 refine C4 B9 k28 (fn:=Tryz.f33) (cd:=A7 Tryz.f33) (sp:=B8) (hn:=B1) Tryz.func33 (by kernel_rfl) (by kernel_rfl) A8 fun ds r hp hr=>?_
 unfold e7y at hp hr
 simp only[] at hr hp
 split at hr
 ·rename_i x y
  cases hr
  obtain ⟨hx,hy⟩:=hp
  rw[show [x,y].map V.d= [V.d (eV x),V.d (eV y)] by rw[hx.f.v,hy.f.v];rfl]
  refine keep (w33 x y fun v=>v=_) ?_
  show a8r (eV x)∧a8r (eV y)∧V.d (D.lit (.bool (bif bif F4 (eV x)==0 then F4 (eV y)==0 else false then (prS (eV x)).toList==(prS (eV y)).toList else false)))=_
  rw[hx.f.v,hy.f.v]
  exact ⟨hx,hy,rfl⟩
 ·cases hr
theorem i7s:OkS (Cn T33) 0 (.loop l31) S31:=by
 refine D0 fun N vals bs K h=>?_
 simp only[S31] at h
 split at h
 case h_2=>exact h.elim
 rename_i b1 xs b2 ys i
 obtain ⟨⟨rfl,rfl,hl,⟨hs,hx⟩,hy⟩,h⟩:=h
 refine G0 (D3 B9 k33 C2) C0 A8 (hn:=B1) (adsI:=[]) (nsI:=[]) (nsX:=[]) rfl rfl xs.length
  (fun i=>[.d (.slice b1 16 xs), .d (.slice b2 16 ys),A3 i]) (fun _=>[]) (d4e xs ys) (fun e=>(.ret, [A6 e], [])) (by simp) (.exit 0) [.any] [] (by simp) ?_ ?_ h
 ·intro i R hi hR
  refine keep (b31 xs ys b1 b2 i R) ?_
  have e1:decide ((i:Int)<xs.length)=true:=by simp;omega
  have e2:IntKind.i64.wrap ((i:Int)+1)=((i+1:Nat):Int):=by rw[Go.IntWalk.i64_in _ (by omega)];omega
  have hix:=hx _ (D8 (xs:=xs) hi)
  have hiy:=hy.2 _ (D8 (xs:=ys) (i:=i) (by omega))
  rw[e1]
  simp only[Int.toNat_natCast,e2,cond_true,hix.f.v,hiy.f.v]
  refine ⟨⟨by omega,hi,(by trivial)⟩,⟨by omega,by omega,(by trivial)⟩,⟨hix,hiy⟩,A5 (fun h1=>⟨trivial, ?_⟩) (fun h1=>⟨trivial, ?_⟩)⟩<;>(simp only[d4e,h1,cond_true,cond_false,S3] at hR;exact hR)
 ·intro R hR
  refine keep (b31 xs ys b1 b2 xs.length R) ?_
  have e1:decide ((xs.length:Int)<xs.length)=false:=by simp
  rw[e1]
  exact ⟨rfl,hR⟩
theorem k31:C3 B T31:=by
 refine C4 B9 k33 (fn:=Tryz.f31) (cd:=A7 Tryz.f31) (sp:=spL [(8,S31)]) (hn:=B1) Tryz.func31 (by kernel_rfl) (by kernel_rfl) (B7 (c:=.loop l31) (by kernel_rfl) i7s C8) fun ds r hp hr=>?_
 unfold c31 at hp hr
 simp only[] at hr hp
 split at hr
 ·rename_i b1 z1 xs b2 z2 ys
  cases hr
  obtain ⟨rfl,rfl,hx,hy⟩:=hp
  refine keep (w31 xs ys b1 b2 fun v=>v=_) ?_
  unfold b8b
  refine A5 (fun g=>?_) (fun g=>?_)
  ·simp only[g,cond_true]
  ·have hl:xs.length=ys.length:=by
    have:(xs.length:Int)=ys.length:=by simpa using g
    omega
   simp only[g,cond_false]
   refine ⟨⟨(by trivial),(by trivial),hl,hx,hy⟩, ?_⟩
   cases C1 (d4e xs ys) xs.length<;>rfl
 ·cases hr
end Go.Ev.R2
end
