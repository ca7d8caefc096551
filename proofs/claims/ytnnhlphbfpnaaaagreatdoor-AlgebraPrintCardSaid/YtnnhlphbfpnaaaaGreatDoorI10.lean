/- What the proofs of the lexer's laws share, part 10 of 15. -/
import Derived.Test.YtnnhlphbfpnaaaaGreatDoorI9
import Derived.Test.YtnnhlphbfpnaaaaGreatDoorI4
set_option linter.unusedVariables false
set_option linter.unusedSimpArgs false
section
namespace Go.Ev.R2
open Go Go.Ev Go.Proofs
set_option maxRecDepth 100000
noncomputable def f7o:Code:=D7 (C5 (A7 Tryz.f199) 2)
theorem h9j (a:Int) (b:Int) (R:X→List V→List Box→Prop):(E1 (Cn T21) T21 D5 0 B8 B1 f7o 12 [0,1] [] [] [] [0] [] [A3 a,A3 b] [] R) =
 (bif decide (b>0) then
 ((IntKind.i64=IntKind.i64∧b≠0)∧
 (12=12∧
 R X.normal [A3 b,A3 (a.tmod b)] [])) else
 (12=12∧
 R (X.exit 0) [A3 a] [])):=by kernel_rfl
noncomputable def g4a:Ev.Spec:={L:=[0,1],ns:=[],L':=[0],nm':=[],G:=fun N vals bs k=>match vals,bs with
 | [.d (.lit (.int .i64 a)), .d (.lit (.int .i64 b))], []=>∃x y:Nat,(N=12∧a=x∧b=y∧x<9223372036854775808∧y<9223372036854775808)∧k (.exit 0) [A3 (Nat.gcd x y:Nat)] []
 | _,_=>False }
theorem i4c (a:Int) (b:Int) (p:V→Prop):(B6 (Cn T21) T21 D5 0 (spL [(2,g4a)]) B1 199 [A3 a,A3 b] B3.empty fun v H=>p (B4 H v)) =
 (∃(x:Nat),(∃(y:Nat),((12=12∧(((a:Int)=(↑x:Int))∧(((b:Int)=(↑y:Int))∧(x<9223372036854775808∧y<9223372036854775808))))∧
 p (A3 (↑(x.gcd y):Int))))):=by kernel_rfl
noncomputable def h7r:Ct:=⟨fun | [.lit (.int .i64 a), .lit (.int .i64 b)]=>0≤a∧a<9223372036854775808∧0≤b∧b<9223372036854775808|_=>False,fun | [.lit (.int .i64 a), .lit (.int .i64 b)]=>some (.lit (.int .i64 (Nat.gcd a.toNat b.toNat:Nat)))|_=>none⟩
noncomputable def g2e:Tab:=T21.add 199 h7r
theorem i4p (n:Int) (p:V→Prop):(B6 (Cn g2e) g2e D5 0 B8 B1 166 [A3 n] B3.empty fun v H=>p (B4 H v)) =
 (bif decide (n<0) then
 p (A3 (IntKind.i64.wrap (0-n))) else
 p (A3 n)):=by kernel_rfl
noncomputable def h7x:Ct:=⟨fun | [.lit (.int .i64 n)]=> -4611686018427387904≤n∧n≤4611686018427387904|_=>False,fun | [.lit (.int .i64 n)]=>some (.lit (.int .i64 (n.natAbs:Nat)))|_=>none⟩
noncomputable def g2o:Tab:=g2e.add 166 h7x
theorem i4r (n:Int) (d:Int) (p:V→Prop):(B6 (Cn g2o) g2o D5 0 B8 B1 164 [V.d (rV n d)] B3.empty fun v H=>p (B4 H v)) =
 ((((!bif
 bif bif decide (d<1) then true else decide (d>1152921504606846976) then true
 else decide (n< -1152921504606846976) then
 true
 else decide (n>1152921504606846976)) &&
 true) =
 true→(((-4611686018427387904:Int)≤n)∧((n:Int)≤4611686018427387904)))∧
 ((((!bif
 bif bif decide (d<1) then true else decide (d>1152921504606846976) then true
 else decide (n< -1152921504606846976) then
 true
 else decide (n>1152921504606846976)) &&
 true) =
 true→(((0:Int)≤(↑n.natAbs:Int))∧((((↑n.natAbs:Int):Int)<9223372036854775808)∧(((0:Int)≤d)∧((d:Int)<9223372036854775808)))))∧
 (bif bif
 bif
 bif bif decide (d<1) then true else decide (d>1152921504606846976) then true
 else decide (n< -1152921504606846976) then
 true
 else decide (n>1152921504606846976) then
 true
 else (↑((↑n.natAbs:Int).toNat.gcd d.toNat):Int) !=1 then
 p (A3 1) else
 p (A3 0)))):=by kernel_rfl
noncomputable def g2p:Tab:=g2o.add 164 f9d
theorem i5o (y:D) (p:V→Prop):(B6 (Cn g2p) g2p D5 0 B8 B1 139 [V.d (eV y)] B3.empty fun v H=>p (B4 H v)) =
 (True∧
 (bif X0 (A1 (A0 y 5)) (A1 (A0 y 6)) !=0 then
 p (A3 1) else
 (bif bif bif A1 (A0 y 0)==6 then A1 (A0 y 1)==7 else false then
 bif bif A1 (A0 y 6) !=1 then true else decide (A1 (A0 y 5)<1) then true
 else decide (A1 (A0 y 5)>1000)
 else false then
 p (A3 2) else
 (bif bif
 bif A1 (A0 y 0) !=1 then !bif A1 (A0 y 0)==6 then A1 (A0 y 1)==7 else false
 else false then
 bif decide (A1 (A0 y 5)<0) then true else decide (A1 (A0 y 5)>A1 (A0 y 6))
 else false then
 p (A3 2) else
 p (A3 0))))):=by kernel_rfl
noncomputable def c8w (y:D):Int :=
 (bif X0 (A1 (A0 y 5)) (A1 (A0 y 6)) !=0 then
 1 else
 (bif bif bif A1 (A0 y 0)==6 then A1 (A0 y 1)==7 else false then
 bif bif A1 (A0 y 6) !=1 then true else decide (A1 (A0 y 5)<1) then true
 else decide (A1 (A0 y 5)>1000)
 else false then
 2 else
 (bif bif
 bif A1 (A0 y 0) !=1 then !bif A1 (A0 y 0)==6 then A1 (A0 y 1)==7 else false
 else false then
 bif decide (A1 (A0 y 5)<0) then true else decide (A1 (A0 y 5)>A1 (A0 y 6))
 else false then
 2 else
 0)))
noncomputable def e2c:Tab:=g2p.add 139 f9e
noncomputable def g8b:Code:=D7 (C5 (A7 Tryz.f140) 8)
theorem h9s (y:D) (i:Int) (R:X→List V→List Box→Prop):(E1 (Cn e2c) e2c D5 0 B8 B1 g8b 53 [1,3] [[5000]] [] [([5000], [5000])] [2] [] [V.ptr [5000] 0,A3 i]
 [L0 y] R) =
 (bif decide (i<(↑(A2 (A0 y 7)).length:Int)) then
 ((((0:Int)≤i)∧(i.toNat<(A2 (A0 y 7)).length∧zD (A4 ((A2 (A0 y 7)).getD i.toNat D.any))=(A2 (A0 y 7)).getD i.toNat D.any))∧
 (((!(A4 ((A2 (A0 y 7)).getD i.toNat D.any)).toList==(ByteArray.mk #[110,97,109,101]).toList&&true)=true→(((0:Int)≤i)∧(i.toNat<(A2 (A0 y 7)).length∧zD (A4 ((A2 (A0 y 7)).getD i.toNat D.any))=(A2 (A0 y 7)).getD i.toNat D.any)))∧
 (bif bif !(A4 ((A2 (A0 y 7)).getD i.toNat D.any)).toList==(ByteArray.mk #[110,97,109,101]).toList then
 !(A4 ((A2 (A0 y 7)).getD i.toNat D.any)).toList==(ByteArray.mk #[115,101,114,118,105,99,101]).toList
 else false then
 (53=53∧
 R X.ret [A3 5] []) else
 (((decide (i>0)&&true)=true→(((0:Int)≤IntKind.i64.wrap (i-1))∧((IntKind.i64.wrap (i-1)).toNat<(A2 (A0 y 7)).length∧zD (A4 ((A2 (A0 y 7)).getD (IntKind.i64.wrap (i-1)).toNat D.any)) =
 (A2 (A0 y 7)).getD (IntKind.i64.wrap (i-1)).toNat D.any)))∧
 (((decide (i>0)&&true)=true→(((0:Int)≤i)∧(i.toNat<(A2 (A0 y 7)).length∧zD (A4 ((A2 (A0 y 7)).getD i.toNat D.any))=(A2 (A0 y 7)).getD i.toNat D.any)))∧
 (bif bif decide (i>0) then
 !Op.bytesLess (A4 ((A2 (A0 y 7)).getD (IntKind.i64.wrap (i-1)).toNat D.any)).toList
 (A4 ((A2 (A0 y 7)).getD i.toNat D.any)).toList
 else false then
 (53=53∧
 R X.ret [A3 9] []) else
 (53=53∧
 R X.normal [V.ptr [5000] 0,A3 (IntKind.i64.wrap (i+1))]
 [Box.cells 33
 [A3 (A1 (A0 y 0)),
 A3 (A1 (A0 y 1)),
 V.d (D.slice (E5 (A0 y 2)) 3 (A2 (A0 y 2))),
 A3 (A1 (A0 y 3)),
 A3 (A1 (A0 y 4)),
 A3 (A1 (A0 y 5)),
 A3 (A1 (A0 y 6)),
 V.d (D.slice (E5 (A0 y 7)) 1 (A2 (A0 y 7))),A6 (P5 (A0 y 8)),
 A3 (A1 (A0 y 9)),
 V.d (D.slice (E5 (A0 y 10)) 4 (A2 (A0 y 10))),
 A3 (A1 (A0 y 11)),
 V.d (D.slice (E5 (A0 y 12)) 4 (A2 (A0 y 12))),
 V.d (D.slice (E5 (A0 y 13)) 3 (A2 (A0 y 13))),C6 (A4 (A0 y 14)),
 V.d (D.slice (E5 (A0 y 15)) 16 (A2 (A0 y 15)))]]))))))) else
 (53=53∧
 R (X.exit 0) [V.any] [])):=by kernel_rfl
noncomputable def g4i:Ev.Spec:={L:=[1,3],ns:=[([5000],[3])],L':=[2],nm':=[],G:=fun N vals bs k=>match vals,bs with
 | [.ptr [5000] 0, .d (.lit (.int .i64 i))], [.cells 33 [a0,a1,a2,a3,a4,a5,a6, .d (.slice b 1 xs),a8,a9,a10,a11,a12,a13,a14,a15]]=>(IsE [a0,a1,a2,a3,a4,a5,a6, .d (.slice b 1 xs),a8,a9,a10,a11,a12,a13,a14,a15]∧N=53∧i=0∧xs.length≤16∧∀y∈xs,a3a y)∧S3 (C1 (P0 true xs) xs.length) (k (.exit 0) [.any] []) (fun e=>k .ret [A3 e] [])
 | _,_=>False }
theorem i5n (y:D) (p:V→Prop):(B6 (Cn e2c) e2c D5 0 (spL [(8,g4i)]) B1 140 [V.d (eV y)] B3.empty fun v H=>p (B4 H v)) =
 (bif bif A1 (A0 y 0) !=4 then true else decide ((↑(A2 (A0 y 7)).length:Int)>16) then
 ((1=1∧∀(y_1:D),y_1∈A2 (A0 y 7)→a3a y_1∧Bd y_1)∧
 p (A3 (P4 (A2 (A0 y 7)) false))) else
 ((IsE
 [A3 (A1 (A0 y 0)),A3 (A1 (A0 y 1)),
 V.d (D.slice (E5 (A0 y 2)) 3 (A2 (A0 y 2))),A3 (A1 (A0 y 3)),
 A3 (A1 (A0 y 4)),A3 (A1 (A0 y 5)),
 A3 (A1 (A0 y 6)),V.d (D.slice (E5 (A0 y 7)) 1 (A2 (A0 y 7))),
 A6 (P5 (A0 y 8)),A3 (A1 (A0 y 9)),
 V.d (D.slice (E5 (A0 y 10)) 4 (A2 (A0 y 10))),
 A3 (A1 (A0 y 11)),
 V.d (D.slice (E5 (A0 y 12)) 4 (A2 (A0 y 12))),
 V.d (D.slice (E5 (A0 y 13)) 3 (A2 (A0 y 13))),C6 (A4 (A0 y 14)),
 V.d (D.slice (E5 (A0 y 15)) 16 (A2 (A0 y 15)))]∧(53=53∧(((0:Int)=0)∧((A2 (A0 y 7)).length≤16∧∀(y_1:D),y_1∈A2 (A0 y 7)→a3a y_1))))∧
 (match C1 (P0 true (A2 (A0 y 7))) (A2 (A0 y 7)).length with
 | some y0 =>
 p (A3 y0)
 | none=>p (A3 0)))):=by kernel_rfl
noncomputable def h8g:Ct:=⟨fun | [x]=>D1 x∧Bd x|_=>False,fun | [x]=>some (.lit (.int .i64 (P4 (A2 (A0 x 7)) (A1 (A0 x 0)==4))))|_=>none⟩
noncomputable def e2b:Tab:=e2c.add 140 h8g
noncomputable def g7z:Code:=D7 (C5 (A7 Tryz.f189) 4)
theorem h9p (s : ByteArray) (i : Int) (R : X → List V → List Box → Prop) : (E1 (Cn e2b) e2b D5 0 B8 B1 g7z 34 [0, 3] [] [] [] [0, 2] [] [C6 s, A3 i] [] R) =
  (bif decide (i < (↑s.size : Int)) then
   ((((0 : Int) ≤ i) ∧ i.toNat < s.size) ∧
   (((A9 s i.toNat != 95 && true) = true → (((0 : Int) ≤ i) ∧ i.toNat < s.size)) ∧
   (((!decide (A9 s i.toNat < 97) && (A9 s i.toNat != 95 && true)) = true → (((0 : Int) ≤ i) ∧ i.toNat < s.size)) ∧
   (bif bif A9 s i.toNat != 95 then bif decide (A9 s i.toNat < 97) then true else decide (A9 s i.toNat > 122)
else false then
    (34 = 34 ∧
    R X.ret [C6 s, A6 false] []) else
    (34 = 34 ∧
    R X.normal [C6 s, A3 (IntKind.i64.wrap (i + 1))] []))))) else
   (34 = 34 ∧
   R (X.exit 0) [C6 s, V.any] [])) := by kernel_rfl
def g4f:Ev.Spec:={L:=[0,3],ns:=[],L':=[0,2],nm':=[],G:=fun N vals bs k=>match vals,bs with
 | [.d (.lit (.string s)), .d (.lit (.int .i64 i))], []=>(N=34∧i=0∧s.size≤1152921504606846976)∧S3 (C1 (W7 (D9 s)) (D9 s).length) (k (.exit 0) [C6 s, .any] []) (fun _=>k .ret [C6 s,A6 false] [])
 | _,_=>False }
theorem i4k (s:ByteArray) (p:V→Prop):(B6 (Cn e2b) e2b D5 0 (spL [(4,g4f)]) B1 189 [V.d (sD s)] B3.empty fun v H=>p (B4 H v)) =
 ((34=34∧(((0:Int)=0)∧s.size≤1152921504606846976))∧
 (match C1 (W7 (D9 s)) (D9 s).length with
 | some y0 =>
 p (A6 false)
 | none=>p (A6 (bif decide ((↑s.size:Int)>0) then decide ((↑s.size:Int)≤60) else false)))):=by kernel_rfl
noncomputable def a9c (s:ByteArray):Bool :=
 (match C1 (W7 (D9 s)) (D9 s).length with
 | some y0=>false
 | none=>(bif decide ((↑s.size:Int)>0) then decide ((↑s.size:Int)≤60) else false))
noncomputable def h7w:Ct:=⟨fun | [.lit (.string s)]=>s.size≤1152921504606846976|_=>False,fun | [.lit (.string s)]=>some (.lit (.bool (a9c s)))|_=>none⟩
noncomputable def g2j:Tab:=e2b.add 189 h7w
theorem i5m (y:D) (p:V→Prop):(B6 (Cn g2j) g2j D5 0 B8 B1 141 [V.d (eV y)] B3.empty fun v H=>p (B4 H v)) =
 (bif bif A1 (A0 y 0)==5 then decide ((↑(A4 (A0 y 14)).size:Int)>60) else false then
 p (A3 4) else
 (((A1 (A0 y 0)==13&&true)=true→(A4 (A0 y 14)).size.le 1152921504606846976)∧
 ((((bif A1 (A0 y 0)==3 then true else A1 (A0 y 0)==6) &&
 ((!bif A1 (A0 y 0)==13 then !a9c (A4 (A0 y 14)) else false)&&true)) =
 true→(A4 (A0 y 14)).size.le 1152921504606846976)∧
 (bif bif bif A1 (A0 y 0)==13 then !a9c (A4 (A0 y 14)) else false then true
 else
 bif bif A1 (A0 y 0)==3 then true else A1 (A0 y 0)==6 then !H8 (A4 (A0 y 14)) else false then
 p (A3 5) else
 p (A3 0))))):=by kernel_rfl
noncomputable def b7x (y:D):Int :=
 (bif bif A1 (A0 y 0)==5 then decide ((↑(A4 (A0 y 14)).size:Int)>60) else false then
 4 else
 (bif bif bif A1 (A0 y 0)==13 then !a9c (A4 (A0 y 14)) else false then true
 else
 bif bif A1 (A0 y 0)==3 then true else A1 (A0 y 0)==6 then !H8 (A4 (A0 y 14)) else false then
 5 else
 0))
noncomputable def h8f:Ct:=⟨fun | [x]=>D1 x∧Bd x|_=>False,fun | [x]=>some (.lit (.int .i64 (b7x x)))|_=>none⟩
noncomputable def g3c:Tab:=g2j.add 141 h8f
theorem h5g:OkS (Cn T21) 0 (.loop f7o) g4a:=by
 refine D0 fun N vals bs K h=>?_
 simp only[g4a] at h
 split at h
 case h_2=>exact h.elim
 rename_i a b
 obtain ⟨x,y,⟨rfl,rfl,rfl,hx,hy⟩,h⟩:=h
 have main:∀(n x y:Nat),y≤n→K (.exit 0) [A3 (Nat.gcd x y:Nat)] []→J2 (Cn T21) 0 f7o 12 [0,1] [] [0] [] [A3 x,A3 y] [] K:=by
  intro n
  induction n with
  | zero =>
   intro x y hn h
   have:y=0:=by omega
   subst this
   refine B5 (D3 B9 k21 C2) C0 A8 (hn:=B1) (adsI:=[]) (nsI:=[]) (nsX:=[]) rfl rfl (keep (h9j x 0 _) ?_)
   rw[Nat.gcd_zero_right] at h
   exact ⟨(by trivial),h⟩
  | succ n ih =>
   intro x y hn h
   refine B5 (D3 B9 k21 C2) C0 A8 (hn:=B1) (adsI:=[]) (nsI:=[]) (nsX:=[]) rfl rfl (keep (h9j x y _) ?_)
   refine A5 (fun h1=>?_) (fun h1=>?_)
   ·simp only[decide_eq_true_eq] at h1
    refine ⟨⟨(by trivial),by omega⟩,(by trivial), ?_⟩
    have e:((x:Int)).tmod (y:Int)=((x % y:Nat):Int):=by rw[Int.ofNat_tmod]
    rw[e]
    refine ih y (x % y) (by have:=Nat.mod_lt x (show y>0 by omega);omega) ?_
    rw[Nat.gcd_comm y, ←Nat.gcd_rec,Nat.gcd_comm]
    exact h
   ·have hy:y=0:=by simp only[decide_eq_false_iff_not] at h1;omega
    subst hy
    rw[Nat.gcd_zero_right] at h
    exact ⟨(by trivial),h⟩
 exact main y x y (Nat.le_refl _) h
theorem i8g:C3 B g2e:=by
 refine C4 B9 k21 (fn:=Tryz.f199) (cd:=A7 Tryz.f199) (sp:=spL [(2,g4a)]) (hn:=B1) Tryz.func199 (by kernel_rfl) (by kernel_rfl) (B7 (c:=.loop f7o) (by kernel_rfl) h5g C8) fun ds r hp hr=>?_
 unfold h7r at hp hr
 simp only[] at hr hp
 split at hr
 ·rename_i a b
  cases hr
  obtain ⟨h1,h2,h3,h4⟩:=hp
  refine keep (i4c a b fun v=>v=_) ?_
  exact ⟨a.toNat,b.toNat,⟨(by trivial),by omega,by omega,by omega,by omega⟩,(by trivial)⟩
 ·cases hr
theorem i8q:C3 B g2o:=by
 refine C4 B9 i8g (fn:=Tryz.f166) (cd:=A7 Tryz.f166) (sp:=B8) (hn:=B1) Tryz.func166 (by kernel_rfl) (by kernel_rfl) A8 fun ds r hp hr=>?_
 unfold h7x at hp hr
 simp only[] at hr hp
 split at hr
 ·rename_i n
  cases hr
  obtain ⟨h1,h2⟩:=hp
  refine keep (i4p n fun v=>v=_) ?_
  refine A5 (fun g=>?_) (fun g=>?_)
  ·simp only[decide_eq_true_eq] at g
   rw[wr (by omega) (by omega),show 0-n=(n.natAbs:Int) by omega]
  ·simp only[decide_eq_false_iff_not] at g
   rw[show (n.natAbs:Int)=n by omega]
 ·cases hr
theorem f5i (x:Int):IntKind.u64.wrap x=x % 18446744073709551616:=rfl
theorem i8r:C3 B g2p:=by
 refine C4 B9 i8q (fn:=Tryz.f164) (cd:=A7 Tryz.f164) (sp:=B8) (hn:=B1) Tryz.func164 (by kernel_rfl) (by kernel_rfl) A8 fun ds r hp hr=>?_
 unfold f9d at hr
 simp only[] at hr
 split at hr
 ·rename_i n d
  cases hr
  refine keep (i4r n d fun v=>v=_) ?_
  have key:∀b:Bool,(bif (bif (bif decide (d<1) then true else decide (d>1152921504606846976)) then true else decide (n< -1152921504606846976)) then true else decide (n>1152921504606846976))=b→b=false→1≤d∧d≤1152921504606846976∧ -1152921504606846976≤n∧n≤1152921504606846976:=fun b e hb=>by
   subst hb
   obtain ⟨e,e4⟩:=a3u e
   obtain ⟨e,e3⟩:=a3u e
   obtain ⟨e1,e2⟩:=a3u e
   simp only[decide_eq_false_iff_not] at e1 e2 e3 e4
   omega
  refine ⟨fun g=>?_,fun g=>?_, ?_⟩
  ·have:=key _ rfl (by simpa using g)
   omega
  ·have:=key _ rfl (by simpa using g)
   omega
  ·unfold X0
   cases hb:(bif (bif (bif decide (d<1) then true else decide (d>1152921504606846976)) then true else decide (n< -1152921504606846976)) then true else decide (n>1152921504606846976)) with
   | true =>
    simp only[cond_true]
    cases h1:(bif decide (d<1) then true else decide (d>1152921504606846976)) with
    | true=>simp only[cond_true]
    | false =>
     rw[h1] at hb
     simp only[cond_false] at hb ⊢
     rw[hb];rfl
   | false =>
    have hk:=key _ hb rfl
    obtain ⟨e,e4⟩:=a3u hb
    obtain ⟨e,e3⟩:=a3u e
    rw[e,e3,e4]
    simp only[cond_false]
    have em:(c3q n).toNat=n.natAbs:=by
     unfold c3q
     cases hn:decide (n<0) with
     | true =>
      simp only[decide_eq_true_eq] at hn
      simp only[cond_true]
      rw[show IntKind.u64.wrap n=n+18446744073709551616 by rw[f5i];omega]
      rw[show IntKind.u64.wrap (0-(n+18446744073709551616))= -n by rw[f5i];omega]
      omega
     | false =>
      simp only[decide_eq_false_iff_not] at hn
      simp only[cond_false]
      rw[show IntKind.u64.wrap n=n by rw[f5i];omega]
      omega
    have ed:(IntKind.u64.wrap d).toNat=d.toNat:=by
     rw[show IntKind.u64.wrap d=d by rw[f5i];omega]
    rw[em,ed,Int.toNat_natCast]
    refine A5 (fun g=>?_) (fun g=>?_)
    ·simp only[g,cond_true]
    ·simp only[g,cond_false]
 ·cases hr
theorem e6a (y:D):c8w y=Q5 y:=by
 unfold c8w Q5
 generalize (X0 (A1 (A0 y 5)) (A1 (A0 y 6)) !=0)=r
 generalize (A1 (A0 y 1)==7)=f
 generalize (bif (bif A1 (A0 y 6) !=1 then true else decide (A1 (A0 y 5)<1)) then true else decide (A1 (A0 y 5)>1000))=a
 generalize (bif decide (A1 (A0 y 5)<0) then true else decide (A1 (A0 y 5)>A1 (A0 y 6)))=b
 generalize A1 (A0 y 0)=k
 by_cases h1:k=1
 ·subst h1;cases r<;>cases f<;>cases a<;>cases b<;>rfl
 ·have e1:(k==1)=false:=by simpa using h1
  have e2:(k !=1)=true:=by simpa using h1
  rw[e1,e2]
  cases (k==6)<;>cases r<;>cases f<;>cases a<;>cases b<;>rfl
theorem h6h:C3 B e2c:=by
 refine C4 B9 i8r (fn:=Tryz.f139) (cd:=A7 Tryz.f139) (sp:=B8) (hn:=B1) Tryz.func139 (by kernel_rfl) (by kernel_rfl) A8 fun ds r hp hr=>?_
 unfold f9e at hp hr
 simp only[] at hr hp
 split at hr
 ·rename_i x
  cases hr
  rw[X9 (D1.v hp), ←e6a]
  refine keep (i5o x fun v=>v=_) ?_
  unfold c8w
  (repeat' (first|with_reducible rfl | (refine A5 (fun hcw=>?_) (fun hcw=>?_)<;>simp only[hcw,cond_true,cond_false])|refine V8 ?_ ?_))
  all_goals trivial
 ·cases hr
theorem e6f (xs:List D) (i:Nat):P0 true xs i=bif (bif !eqS (A4 (xs.getD i .any)) (ByteArray.mk #[110,97,109,101]) then !eqS (A4 (xs.getD i .any)) (ByteArray.mk #[115,101,114,118,105,99,101]) else false) then some 5 else
  bif (bif decide ((i:Int)>0) then !Op.bytesLess (A4 (xs.getD (i-1) .any)).toList (A4 (xs.getD i .any)).toList else false) then some 9 else none:=by
 unfold P0
 rw[show leS (A4 (xs.getD i .any)) (A4 (xs.getD (i-1) .any))= !Op.bytesLess (A4 (xs.getD (i-1) .any)).toList (A4 (xs.getD i .any)).toList from (a6z _ _).symm]
 have toL:∀a b:ByteArray,eqS a b=true→a=b:=fun a b h=>by
  have h:a.toList=b.toList:=by simpa using h
  rw[Lib.toList_data,Lib.toList_data] at h
  obtain ⟨⟨a⟩⟩:=a
  obtain ⟨⟨b⟩⟩:=b
  exact congrArg (fun l=>ByteArray.mk (Array.mk l)) h
 cases h1:eqS (A4 (xs.getD i .any)) (ByteArray.mk #[110,97,109,101]) with
 | true =>
  rw[toL _ _ h1]
  have:H8 (ByteArray.mk #[110,97,109,101])=true:=by decide +kernel
  rw[this];rfl
 | false =>
  cases h2:eqS (A4 (xs.getD i .any)) (ByteArray.mk #[115,101,114,118,105,99,101]) with
  | true =>
   rw[toL _ _ h2]
   have:H8 (ByteArray.mk #[115,101,114,118,105,99,101])=true:=by decide +kernel
   rw[this];rfl
  | false=>cases H8 (A4 (xs.getD i .any))<;>rfl
theorem h5p:OkS (Cn e2c) 0 (.loop g8b) g4i:=by
 refine D0 fun N vals bs K h=>?_
 simp only[g4i] at h
 split at h
 case h_2=>exact h.elim
 rename_i i a0 a1 a2 a3 a4 a5 a6 b xs a8 a9 a10 a11 a12 a13 a14 a15
 obtain ⟨⟨⟨y,hy⟩,rfl,rfl,h16,hall⟩,h⟩:=h
 have hxs:xs=A2 (A0 y 7):=by
  have:=congrArg (fun l:List V=>l.getD 7 .any) hy
  simp at this
  exact this.2
 rw[hy]
 subst hxs
 refine G0 (D3 B9 h6h C2) C0 A8 (hn:=B1) (adsI:=[]) (nsI:=[([5000],[5000])]) (nsX:=[]) rfl rfl (A2 (A0 y 7)).length
  (fun i=>[.ptr [5000] 0,A3 i]) (fun _=>[L0 y]) (P0 true (A2 (A0 y 7))) (fun e=>(.ret, [A3 e], [])) (by simp) (.exit 0) [.any] [] (by simp) ?_ ?_ h
 ·intro i R hi hR
  refine keep (h9s y i R) ?_
  have e1:decide ((i:Int)<(A2 (A0 y 7)).length)=true:=by simp;omega
  have e2:IntKind.i64.wrap ((i:Int)+1)=((i+1:Nat):Int):=by rw[Go.IntWalk.i64_in _ (by omega)];omega
  have hv:=hall _ (D8 hi)
  rw[e6f] at hR
  rw[e1]
  simp only[Int.toNat_natCast,e2,cond_true]
  refine ⟨⟨by omega,hi,hv⟩,fun _=>⟨by omega,hi,hv⟩,A5 (fun h1=>⟨(by trivial), ?_⟩) (fun h1=>?_)⟩
  ·rw[h1] at hR;exact hR
  ·rw[h1] at hR
   simp only[cond_false] at hR
   by_cases h0:0<i
   ·have e4:IntKind.i64.wrap ((i:Int)-1)=((i-1:Nat):Int):=by rw[Go.IntWalk.i64_in _ (by omega)];omega
    have hv2:=hall _ (D8 (xs:=A2 (A0 y 7)) (i:=i-1) (by omega))
    simp only[e4,Int.toNat_natCast]
    refine ⟨fun _=>⟨by omega,by omega,hv2⟩,fun _=>⟨by omega,hi,hv⟩,A5 (fun h2=>⟨(by trivial), ?_⟩) (fun h2=>⟨(by trivial), ?_⟩)⟩
    ·rw[h2] at hR;exact hR
    ·rw[h2] at hR;exact hR
   ·have e5:decide ((i:Int)>0)=false:=by simp;omega
    rw[e5] at hR ⊢
    exact ⟨(fun h=>by cases h),(fun h=>by cases h),(by trivial),hR⟩
 ·intro R hR
  refine keep (h9s y (A2 (A0 y 7)).length R) ?_
  have e1:decide (((A2 (A0 y 7)).length:Int)<(A2 (A0 y 7)).length)=false:=by simp
  rw[e1]
  exact ⟨(by trivial),hR⟩
theorem h6g:C3 B e2b:=by
 refine C4 B9 h6h (fn:=Tryz.f140) (cd:=A7 Tryz.f140) (sp:=spL [(8,g4i)]) (hn:=B1) Tryz.func140 (by kernel_rfl) (by kernel_rfl) (B7 (c:=.loop g8b) (by kernel_rfl) h5p C8) fun ds r hp hr=>?_
 unfold h8g at hp hr
 simp only[] at hr hp
 split at hr
 ·rename_i x
  cases hr
  rw[X9 hp.1.v]
  refine keep (i5n x fun v=>v=_) ?_
  have hn:∀y∈A2 (A0 x 7),a3a y∧Bd y:=fun y hy=>⟨hp.1.n y hy,hp.2.sub hy⟩
  refine A5 (fun g=>⟨⟨(by trivial),hn⟩, ?_⟩) (fun g=>?_)
  ·by_cases h4:A1 (A0 x 0)=4
   ·have e4:(A1 (A0 x 0) !=4)=false:=by simp[h4]
    rw[e4] at g
    have g:decide ((↑(A2 (A0 x 7)).length:Int)>16)=true:=g
    unfold P4
    rw[g];rfl
   ·have e4:(A1 (A0 x 0)==4)=false:=by simpa using h4
    rw[e4]
  ·obtain ⟨g1,g2⟩:=a3u g
   have g1:=e4s g1
   have e4:(A1 (A0 x 0)==4)=true:=by simpa using g1
   rw[e4]
   unfold P4
   rw[g2]
   simp only[decide_eq_false_iff_not] at g2
   simp only[cond_false]
   refine ⟨⟨⟨x,rfl⟩,(by trivial),(by trivial),by omega,fun y hy=>(hn y hy).1⟩, ?_⟩
   cases C1 (P0 true (A2 (A0 x 7))) (A2 (A0 x 7)).length<;>rfl
 ·cases hr
theorem d9p {s:ByteArray} {i:Nat} (h:i<s.size):W7 (D9 s) i=bif (bif A9 s i !=95 then (bif decide (A9 s i<97) then true else decide (A9 s i>122)) else false) then some 5 else none:=by
 unfold W7
 have:A1 ((D9 s).getD i .any)=A9 s i:=by
  unfold D9 A9
  have hl:i<s.data.toList.length:=by simpa using h
  rw[List.getD_eq_getElem?_getD,List.getElem?_map,List.getD_eq_getElem?_getD,List.getElem?_eq_getElem hl]
  rfl
 rw[this]
theorem h5m:OkS (Cn e2b) 0 (.loop g7z) g4f:=by
 refine D0 fun N vals bs K h=>?_
 simp only[g4f] at h
 split at h
 case h_2=>exact h.elim
 rename_i s i
 obtain ⟨⟨rfl,rfl,hs⟩,h⟩:=h
 rw[v7] at h
 refine G0 (D3 B9 h6g C2) C0 A8 (hn:=B1) (adsI:=[]) (nsI:=[]) (nsX:=[]) rfl rfl s.size
  (fun i=>[C6 s,A3 i]) (fun _=>[]) (W7 (D9 s)) (fun e=>(.ret, [C6 s,A6 false], [])) (by simp) (.exit 0) [C6 s, .any] [] (by simp) ?_ ?_ h
 ·intro i R hi hR
  refine keep (h9p s i R) ?_
  have e1:decide ((i:Int)<s.size)=true:=by simp;omega
  have e2:IntKind.i64.wrap ((i:Int)+1)=((i+1:Nat):Int):=by rw[Go.IntWalk.i64_in _ (by omega)];omega
  rw[d9p hi] at hR
  rw[e1]
  simp only[Int.toNat_natCast,e2,cond_true]
  refine ⟨⟨by omega,by omega⟩,fun _=>⟨by omega,by omega⟩,fun _=>⟨by omega,by omega⟩,A5 (fun h1=>⟨(by trivial), ?_⟩) (fun h1=>⟨(by trivial), ?_⟩)⟩<;>(rw[h1] at hR;exact hR)
 ·intro R hR
  refine keep (h9p s s.size R) ?_
  have e1:decide ((s.size:Int)<s.size)=false:=by simp
  rw[e1]
  exact ⟨(by trivial),hR⟩
theorem i8m:C3 B g2j:=by
 refine C4 B9 h6g (fn:=Tryz.f189) (cd:=A7 Tryz.f189) (sp:=spL [(4,g4f)]) (hn:=B1) Tryz.func189 (by kernel_rfl) (by kernel_rfl) (B7 (c:=.loop g7z) (by kernel_rfl) h5m C8) fun ds r hp hr=>?_
 unfold h7w at hp hr
 simp only[] at hr hp
 split at hr
 ·rename_i s
  cases hr
  refine keep (i4k s fun v=>v=_) ?_
  unfold a9c
  refine ⟨⟨(by trivial),(by trivial),hp⟩, ?_⟩
  cases C1 (W7 (D9 s)) (D9 s).length<;>rfl
 ·cases hr
theorem i9c:C3 B g3c:=by
 refine C4 B9 i8m (fn:=Tryz.f141) (cd:=A7 Tryz.f141) (sp:=B8) (hn:=B1) Tryz.func141 (by kernel_rfl) (by kernel_rfl) A8 fun ds r hp hr=>?_
 unfold h8f at hp hr
 simp only[] at hr hp
 split at hr
 ·rename_i x
  cases hr
  rw[X9 hp.1.v]
  refine keep (i5m x fun v=>v=_) ?_
  unfold b7x
  have hb:(A4 (A0 x 14)).size.le 1152921504606846976:=d4u (hp.2.str 14)
  (repeat' (first|with_reducible rfl | (refine A5 (fun hcw=>?_) (fun hcw=>?_)<;>simp only[hcw,cond_true,cond_false])|refine V8 ?_ ?_))
  all_goals first|trivial|assumption|exact fun _=>hb
 ·cases hr
theorem w98 (y:D) (p:V→Prop):(B6 (Cn g3c) g3c D5 0 B8 B1 98 [V.d (eV y)] B3.empty fun v H=>p (B4 H v)) =
 (bif bif A1 (A0 y 0)==6 then true else A1 (A0 y 0)==12 then
 (bif A1 (A0 y 0)==7 then
 p
 (V.d
 (D.agg
 [oD (bif
 bif
 bif
 bif
 bif bif A1 (A0 y 0)==2 then true else A1 (A0 y 0)==3 then true
 else A1 (A0 y 0)==5 then
 true
 else A1 (A0 y 0)==8 then
 true
 else A1 (A0 y 0)==10 then
 true
 else A1 (A0 y 0)==11 then
 true
 else A1 (A0 y 0)==12),
 oD (bif bif A1 (A0 y 0)==3 then true else A1 (A0 y 0)==8 then true
 else A1 (A0 y 0)==12),
 oD (bif A1 (A0 y 0)==4 then true else A1 (A0 y 0)==9),
 oD (bif
 bif
 bif
 bif
 bif
 bif bif A1 (A0 y 0)==2 then true else A1 (A0 y 0)==3 then true
 else A1 (A0 y 0)==5 then
 true
 else A1 (A0 y 0)==8 then
 true
 else A1 (A0 y 0)==10 then
 true
 else A1 (A0 y 0)==11 then
 true
 else A1 (A0 y 0)==12 then
 true
 else bif A1 (A0 y 0)==4 then true else A1 (A0 y 0)==9),
 oD (bif
 bif A1 (A0 y 0)==1 then true
 else bif A1 (A0 y 0)==2 then decide (A1 (A0 y 1)≥10) else false then
 true
 else
 bif A1 (A0 y 0)==6 then
 bif bif A1 (A0 y 1)==6 then true else A1 (A0 y 1)==7 then true
 else A1 (A0 y 1)==9
 else false),
 oD (bif
 bif
 bif bif A1 (A0 y 0)==3 then true else A1 (A0 y 0)==5 then true
 else A1 (A0 y 0)==6 then
 true
 else A1 (A0 y 0)==7 then
 true
 else A1 (A0 y 0)==4),
 oD (bif
 bif bif A1 (A0 y 0)==3 then true else A1 (A0 y 0)==5 then true
 else A1 (A0 y 0)==6 then
 true
 else A1 (A0 y 0)==7),
 oD (A1 (A0 y 0)==7),
 oD (bif
 bif
 bif bif A1 (A0 y 0)==3 then A1 (A0 y 1)==3 else false then true
 else A1 (A0 y 0)==5 then
 true
 else bif A1 (A0 y 0)==6 then A1 (A0 y 1)==8 else false then
 true
 else A1 (A0 y 0)==13),
 iD 2])) else
 p
 (V.d
 (D.agg
 [oD (bif
 bif
 bif
 bif
 bif bif A1 (A0 y 0)==2 then true else A1 (A0 y 0)==3 then true
 else A1 (A0 y 0)==5 then
 true
 else A1 (A0 y 0)==8 then
 true
 else A1 (A0 y 0)==10 then
 true
 else A1 (A0 y 0)==11 then
 true
 else A1 (A0 y 0)==12),
 oD (bif bif A1 (A0 y 0)==3 then true else A1 (A0 y 0)==8 then true
 else A1 (A0 y 0)==12),
 oD (bif A1 (A0 y 0)==4 then true else A1 (A0 y 0)==9),
 oD (bif
 bif
 bif
 bif
 bif
 bif bif A1 (A0 y 0)==2 then true else A1 (A0 y 0)==3 then true
 else A1 (A0 y 0)==5 then
 true
 else A1 (A0 y 0)==8 then
 true
 else A1 (A0 y 0)==10 then
 true
 else A1 (A0 y 0)==11 then
 true
 else A1 (A0 y 0)==12 then
 true
 else bif A1 (A0 y 0)==4 then true else A1 (A0 y 0)==9),
 oD (bif
 bif A1 (A0 y 0)==1 then true
 else bif A1 (A0 y 0)==2 then decide (A1 (A0 y 1)≥10) else false then
 true
 else
 bif A1 (A0 y 0)==6 then
 bif bif A1 (A0 y 1)==6 then true else A1 (A0 y 1)==7 then true
 else A1 (A0 y 1)==9
 else false),
 oD (bif
 bif
 bif bif A1 (A0 y 0)==3 then true else A1 (A0 y 0)==5 then true
 else A1 (A0 y 0)==6 then
 true
 else A1 (A0 y 0)==7 then
 true
 else A1 (A0 y 0)==4),
 oD (bif
 bif bif A1 (A0 y 0)==3 then true else A1 (A0 y 0)==5 then true
 else A1 (A0 y 0)==6 then
 true
 else A1 (A0 y 0)==7),
 oD (A1 (A0 y 0)==7),
 oD (bif
 bif
 bif bif A1 (A0 y 0)==3 then A1 (A0 y 1)==3 else false then true
 else A1 (A0 y 0)==5 then
 true
 else bif A1 (A0 y 0)==6 then A1 (A0 y 1)==8 else false then
 true
 else A1 (A0 y 0)==13),
 iD 1]))) else
 (bif A1 (A0 y 0)==7 then
 p
 (V.d
 (D.agg
 [oD (bif
 bif
 bif
 bif
 bif bif A1 (A0 y 0)==2 then true else A1 (A0 y 0)==3 then true
 else A1 (A0 y 0)==5 then
 true
 else A1 (A0 y 0)==8 then
 true
 else A1 (A0 y 0)==10 then
 true
 else A1 (A0 y 0)==11 then
 true
 else A1 (A0 y 0)==12),
 oD (bif bif A1 (A0 y 0)==3 then true else A1 (A0 y 0)==8 then true
 else A1 (A0 y 0)==12),
 oD (bif A1 (A0 y 0)==4 then true else A1 (A0 y 0)==9),
 oD (bif
 bif
 bif
 bif
 bif
 bif bif A1 (A0 y 0)==2 then true else A1 (A0 y 0)==3 then true
 else A1 (A0 y 0)==5 then
 true
 else A1 (A0 y 0)==8 then
 true
 else A1 (A0 y 0)==10 then
 true
 else A1 (A0 y 0)==11 then
 true
 else A1 (A0 y 0)==12 then
 true
 else bif A1 (A0 y 0)==4 then true else A1 (A0 y 0)==9),
 oD (bif
 bif A1 (A0 y 0)==1 then true
 else bif A1 (A0 y 0)==2 then decide (A1 (A0 y 1)≥10) else false then
 true
 else
 bif A1 (A0 y 0)==6 then
 bif bif A1 (A0 y 1)==6 then true else A1 (A0 y 1)==7 then true
 else A1 (A0 y 1)==9
 else false),
 oD (bif
 bif
 bif bif A1 (A0 y 0)==3 then true else A1 (A0 y 0)==5 then true
 else A1 (A0 y 0)==6 then
 true
 else A1 (A0 y 0)==7 then
 true
 else A1 (A0 y 0)==4),
 oD (bif
 bif bif A1 (A0 y 0)==3 then true else A1 (A0 y 0)==5 then true
 else A1 (A0 y 0)==6 then
 true
 else A1 (A0 y 0)==7),
 oD (A1 (A0 y 0)==7),
 oD (bif
 bif
 bif bif A1 (A0 y 0)==3 then A1 (A0 y 1)==3 else false then true
 else A1 (A0 y 0)==5 then
 true
 else bif A1 (A0 y 0)==6 then A1 (A0 y 1)==8 else false then
 true
 else A1 (A0 y 0)==13),
 iD 2])) else
 p
 (V.d
 (D.agg
 [oD (bif
 bif
 bif
 bif
 bif bif A1 (A0 y 0)==2 then true else A1 (A0 y 0)==3 then true
 else A1 (A0 y 0)==5 then
 true
 else A1 (A0 y 0)==8 then
 true
 else A1 (A0 y 0)==10 then
 true
 else A1 (A0 y 0)==11 then
 true
 else A1 (A0 y 0)==12),
 oD (bif bif A1 (A0 y 0)==3 then true else A1 (A0 y 0)==8 then true
 else A1 (A0 y 0)==12),
 oD (bif A1 (A0 y 0)==4 then true else A1 (A0 y 0)==9),
 oD (bif
 bif
 bif
 bif
 bif
 bif bif A1 (A0 y 0)==2 then true else A1 (A0 y 0)==3 then true
 else A1 (A0 y 0)==5 then
 true
 else A1 (A0 y 0)==8 then
 true
 else A1 (A0 y 0)==10 then
 true
 else A1 (A0 y 0)==11 then
 true
 else A1 (A0 y 0)==12 then
 true
 else bif A1 (A0 y 0)==4 then true else A1 (A0 y 0)==9),
 oD (bif
 bif A1 (A0 y 0)==1 then true
 else bif A1 (A0 y 0)==2 then decide (A1 (A0 y 1)≥10) else false then
 true
 else
 bif A1 (A0 y 0)==6 then
 bif bif A1 (A0 y 1)==6 then true else A1 (A0 y 1)==7 then true
 else A1 (A0 y 1)==9
 else false),
 oD (bif
 bif
 bif bif A1 (A0 y 0)==3 then true else A1 (A0 y 0)==5 then true
 else A1 (A0 y 0)==6 then
 true
 else A1 (A0 y 0)==7 then
 true
 else A1 (A0 y 0)==4),
 oD (bif
 bif bif A1 (A0 y 0)==3 then true else A1 (A0 y 0)==5 then true
 else A1 (A0 y 0)==6 then
 true
 else A1 (A0 y 0)==7),
 oD (A1 (A0 y 0)==7),
 oD (bif
 bif
 bif bif A1 (A0 y 0)==3 then A1 (A0 y 1)==3 else false then true
 else A1 (A0 y 0)==5 then
 true
 else bif A1 (A0 y 0)==6 then A1 (A0 y 1)==8 else false then
 true
 else A1 (A0 y 0)==13),
 iD 0])))):=by kernel_rfl
noncomputable def c98:Ct:=⟨fun | [x]=>D1 x|_=>False,fun | [x]=>some (.agg [bD (hM (A1 (A0 x 0))),bD (hS (A1 (A0 x 0))),bD (hP (A1 (A0 x 0))),bD (hW (A1 (A0 x 0))),bD (hN (A1 (A0 x 0)) (A1 (A0 x 1))),bD (hNm (A1 (A0 x 0))),bD (hWo (A1 (A0 x 0))),bD (A1 (A0 x 0)==7),bD (hT (A1 (A0 x 0)) (A1 (A0 x 1))),ntD (hA (A1 (A0 x 0)))])|_=>none⟩
noncomputable def T98:Tab:=g3c.add 98 c98
theorem i6d (k:Int) (p:V→Prop):(B6 (Cn T98) T98 D5 0 B8 B1 100 [A3 k] B3.empty fun v H=>p (B4 H v)) =
 (bif k==2 then
 p
 (V.d
 (D.slice false 1
 [zD (bA []),
 zD (bA [108,97,115,116]),
 zD (bA [99,111,117,110,116]),
 zD (bA [115,117,109]),
 zD (bA [109,105,110]),
 zD (bA [109,97,120]),
 zD (bA [97,118,103]),
 zD (bA [100,101,108,116,97]),
 zD (bA [105,110,99,114,101,97,115,101]),
 zD (bA [114,97,116,101]),
 zD (bA [113,117,97,110,116,105,108,101]),
 zD (bA [104,105,115,116,113,117,97,110,116,105,108,101])])) else
 (bif k==3 then
 p
 (V.d
 (D.slice false 1
 [zD (bA []),
 zD (bA [108,105,110,101,115]),
 zD (bA [98,121,116,101,115]),
 zD (bA [117,110,119,114,97,112])])) else
 (bif k==6 then
 p
 (V.d
 (D.slice false 1
 [zD (bA []),
 zD (bA [115,117,109]),
 zD (bA [99,111,117,110,116]),
 zD (bA [109,105,110]),
 zD (bA [109,97,120]),
 zD (bA [97,118,103]),
 zD (bA [113,117,97,110,116,105,108,101]),
 zD (bA [116,111,112]),
 zD (bA [100,105,115,116,105,110,99,116]),
 zD (bA [115,107,101,116,99,104])])) else
 (bif k==7 then
 p
 (V.d
 (D.slice false 1
 [zD (bA []),zD (bA [43]),
 zD (bA [45]),zD (bA [42]),
 zD (bA [47]),zD (bA [61,61]),
 zD (bA [33,61]),zD (bA [60]),
 zD (bA [60,61]),zD (bA [62]),
 zD (bA [62,61])])) else
 p (V.d (D.slice false 1 [])))))):=by kernel_rfl
abbrev sB (l:List UInt8):D:=.lit (.string (ByteArray.mk (Array.mk l)))
def Y4 (k:Int):List D:=bif k==2 then [sB [],sB [108,97,115,116],sB [99,111,117,110,116],sB [115,117,109],sB [109,105,110],sB [109,97,120],sB [97,118,103],sB [100,101,108,116,97],sB [105,110,99,114,101,97,115,101],sB [114,97,116,101],sB [113,117,97,110,116,105,108,101],sB [104,105,115,116,113,117,97,110,116,105,108,101]] else bif k==3 then [sB [],sB [108,105,110,101,115],sB [98,121,116,101,115],sB [117,110,119,114,97,112]] else bif k==6 then [sB [],sB [115,117,109],sB [99,111,117,110,116],sB [109,105,110],sB [109,97,120],sB [97,118,103],sB [113,117,97,110,116,105,108,101],sB [116,111,112],sB [100,105,115,116,105,110,99,116],sB [115,107,101,116,99,104]] else bif k==7 then [sB [],sB [43],sB [45],sB [42],sB [47],sB [61,61],sB [33,61],sB [60],sB [60,61],sB [62],sB [62,61]] else []
noncomputable def h8t:Ct:=⟨fun _=>True,fun | [.lit (.int .i64 k)]=>some (.slice false 1 (Y4 k))|_=>none⟩
noncomputable def g3n:Tab:=T98.add 100 h8t
theorem i5p (y:D) (p:V→Prop):(B6 (Cn g3n) g3n D5 0 B8 B1 138 [V.d (eV y)] B3.empty fun v H=>p (B4 H v)) =
 (D1 (eV y)∧
 (True∧
 (bif bif
 bif
 bif bif (↑(Y4 (A1 (A0 y 0))).length:Int)==0 then A1 (A0 y 1) !=0 else false then true
 else
 bif !hM (A1 (iD (A1 (A0 y 0)))) then
 decide ((↑(A2 (A0 y 2)).length:Int)>0)
 else false then
 true
 else
 bif !hS (A1 (iD (A1 (A0 y 0)))) then
 decide ((↑(A2 (A0 y 10)).length:Int)>0)
 else false then
 true
 else
 bif !hW (A1 (iD (A1 (A0 y 0)))) then
 bif A1 (A0 y 3) !=0 then true else A1 (A0 y 4) !=0
 else false then
 p (A6 true) else
 (bif bif
 bif
 bif !hP (A1 (iD (A1 (A0 y 0)))) then
 bif A1 (A0 y 11) !=0 then true
 else
 decide (IntKind.i64.wrap ((↑(A2 (A0 y 12)).length:Int)+(↑(A2 (A0 y 13)).length:Int))>0)
 else false then
 true
 else
 bif
 !hN (A1 (iD (A1 (A0 y 0))))
 (A1 (iD (A1 (A0 y 1)))) then
 !(A1 (A0 y 5)==0&&(A1 (A0 y 6)==0&&true))
 else false then
 true
 else
 bif !hNm (A1 (iD (A1 (A0 y 0)))) then
 decide ((↑(A2 (A0 y 7)).length:Int)>0)
 else false then
 p (A6 true) else
 p
 (A6 (bif
 bif
 bif
 bif !hWo (A1 (iD (A1 (A0 y 0)))) then P5 (A0 y 8)
 else false then
 true
 else
 bif !A1 (iD (A1 (A0 y 0)))==7 then A1 (A0 y 9) !=0
 else false then
 true
 else
 bif
 !hT (A1 (iD (A1 (A0 y 0))))
 (A1 (iD (A1 (A0 y 1)))) then
 !(A4 (A0 y 14)).toList==(ByteArray.mk #[]).toList
 else false then
 true
 else (↑(A2 (A0 y 15)).length:Int) !=hA (A1 (iD (A1 (A0 y 0)))))))))):=by kernel_rfl
noncomputable def a5v (y:D):Bool :=
 (bif bif
 bif
 bif bif (↑(Y4 (A1 (A0 y 0))).length:Int)==0 then A1 (A0 y 1) !=0 else false then true
 else
 bif !hM (A1 (D.lit (Value.int IntKind.i64 (A1 (A0 y 0))))) then
 decide ((↑(A2 (A0 y 2)).length:Int)>0)
 else false then
 true
 else
 bif !hS (A1 (D.lit (Value.int IntKind.i64 (A1 (A0 y 0))))) then
 decide ((↑(A2 (A0 y 10)).length:Int)>0)
 else false then
 true
 else
 bif !hW (A1 (D.lit (Value.int IntKind.i64 (A1 (A0 y 0))))) then
 bif A1 (A0 y 3) !=0 then true else A1 (A0 y 4) !=0
 else false then
 true else
 (bif bif
 bif
 bif !hP (A1 (D.lit (Value.int IntKind.i64 (A1 (A0 y 0))))) then
 bif A1 (A0 y 11) !=0 then true
 else
 decide (IntKind.i64.wrap ((↑(A2 (A0 y 12)).length:Int)+(↑(A2 (A0 y 13)).length:Int))>0)
 else false then
 true
 else
 bif
 !hN (A1 (D.lit (Value.int IntKind.i64 (A1 (A0 y 0)))))
 (A1 (D.lit (Value.int IntKind.i64 (A1 (A0 y 1))))) then
 !(A1 (A0 y 5)==0&&(A1 (A0 y 6)==0&&true))
 else false then
 true
 else
 bif !hNm (A1 (D.lit (Value.int IntKind.i64 (A1 (A0 y 0))))) then
 decide ((↑(A2 (A0 y 7)).length:Int)>0)
 else false then
 true else
 (bif
 bif
 bif
 bif !hWo (A1 (D.lit (Value.int IntKind.i64 (A1 (A0 y 0))))) then P5 (A0 y 8)
 else false then
 true
 else
 bif !A1 (D.lit (Value.int IntKind.i64 (A1 (A0 y 0))))==7 then A1 (A0 y 9) !=0
 else false then
 true
 else
 bif
 !hT (A1 (D.lit (Value.int IntKind.i64 (A1 (A0 y 0)))))
 (A1 (D.lit (Value.int IntKind.i64 (A1 (A0 y 1))))) then
 !(A4 (A0 y 14)).toList==(ByteArray.mk #[]).toList
 else false then
 true
 else (↑(A2 (A0 y 15)).length:Int) !=hA (A1 (D.lit (Value.int IntKind.i64 (A1 (A0 y 0))))))))
noncomputable def h8h:Ct:=⟨fun | [x]=>D1 x|_=>False,fun | [x]=>some (.lit (.bool (a5v x)))|_=>none⟩
noncomputable def g3d:Tab:=g3n.add 138 h8h
theorem w73 (y:D) (p:V→Prop):(B6 (Cn g3d) g3d D5 0 B8 B1 73 [V.d (eV y)] B3.empty fun v H=>p (B4 H v)) =
 (bif bif decide (A1 (A0 y 0)<1) then true else decide (A1 (A0 y 0)>13) then
 p (A3 8) else
 (True∧
 (bif bif decide ((↑(Y4 (A1 (A0 y 0))).length:Int)>0) then
 bif decide (A1 (A0 y 1)<1) then true
 else decide (A1 (A0 y 1)≥(↑(Y4 (A1 (A0 y 0))).length:Int))
 else false then
 p (A3 8) else
 (D1 (eV y)∧
 (bif a5v (eV y) then
 p (A3 1) else
 (D1 (eV y)∧
 ((3=3∧∀(y_1:D),y_1∈A2 (A0 y 2)→w3 y_1∧Bd y_1)∧
 (bif G1 (A2 (A0 y 2)) !=0 then
 p (A3 (G1 (A2 (A0 y 2)))) else
 (bif bif hW (A1 (iD (A1 (A0 y 0)))) then
 bif
 bif bif decide (A1 (A0 y 3)<1) then true else decide (A1 (A0 y 3)>1099511627776) then true
 else decide (A1 (A0 y 4)<0) then
 true
 else decide (A1 (A0 y 4)>1099511627776)
 else false then
 p (A3 2) else
 (D1 (eV y)∧
 (bif bif
 hN (A1 (iD (A1 (A0 y 0))))
 (A1 (iD (A1 (A0 y 1)))) then
 Q5 (eV y) !=0
 else false then
 p (A3 (Q5 (eV y))) else
 ((D1 (eV y)∧Bd (eV y))∧
 (bif P4 (A2 (D.slice (E5 (A0 y 7)) 1 (A2 (A0 y 7))))
 (A1 (iD (A1 (A0 y 0)))==4) !=
 0 then
 p
 (A3 (P4 (A2 (D.slice (E5 (A0 y 7)) 1 (A2 (A0 y 7))))
 (A1 (iD (A1 (A0 y 0)))==4))) else
 (bif bif decide (A1 (A0 y 9)<0) then true else decide (A1 (A0 y 9)>2) then
 p (A3 8) else
 ((4=4∧∀(y_1:D),y_1∈A2 (A0 y 10)→a2a y_1∧Bd y_1)∧
 (bif V4 (A2 (A0 y 10)) !=0 then
 p (A3 (V4 (A2 (A0 y 10)))) else
 ((J1 (paV y)∧Bd (paV y))∧
 (bif bif hP (A1 (iD (A1 (A0 y 0)))) then P3 (paV y) !=0 else false then
 p (A3 (P3 (paV y))) else
 (bif hT (A1 (iD (A1 (A0 y 0))))
 (A1 (iD (A1 (A0 y 1)))) then
 ((D1 (eV y)∧Bd (eV y))∧
 p (A3 (b7x (eV y)))) else
 p (A3 0)))))))))))))))))))):=by kernel_rfl
noncomputable def f6o (y:D):Int :=
 (bif bif decide (A1 (A0 y 0)<1) then true else decide (A1 (A0 y 0)>13) then
 8 else
 (bif bif decide ((↑(Y4 (A1 (A0 y 0))).length:Int)>0) then
 bif decide (A1 (A0 y 1)<1) then true
 else decide (A1 (A0 y 1)≥(↑(Y4 (A1 (A0 y 0))).length:Int))
 else false then
 8 else
 (bif a5v (eV y) then
 1 else
 (bif G1 (A2 (A0 y 2)) !=0 then
 (G1 (A2 (A0 y 2))) else
 (bif bif hW (A1 (D.lit (Value.int IntKind.i64 (A1 (A0 y 0))))) then
 bif
 bif bif decide (A1 (A0 y 3)<1) then true else decide (A1 (A0 y 3)>1099511627776) then true
 else decide (A1 (A0 y 4)<0) then
 true
 else decide (A1 (A0 y 4)>1099511627776)
 else false then
 2 else
 (bif bif
 hN (A1 (D.lit (Value.int IntKind.i64 (A1 (A0 y 0)))))
 (A1 (D.lit (Value.int IntKind.i64 (A1 (A0 y 1))))) then
 Q5 (eV y) !=0
 else false then
 (Q5 (eV y)) else
 (bif P4 (A2 (D.slice (E5 (A0 y 7)) 1 (A2 (A0 y 7))))
 (A1 (D.lit (Value.int IntKind.i64 (A1 (A0 y 0))))==4) !=
 0 then
 (P4 (A2 (D.slice (E5 (A0 y 7)) 1 (A2 (A0 y 7))))
 (A1 (D.lit (Value.int IntKind.i64 (A1 (A0 y 0))))==4)) else
 (bif bif decide (A1 (A0 y 9)<0) then true else decide (A1 (A0 y 9)>2) then
 8 else
 (bif V4 (A2 (A0 y 10)) !=0 then
 (V4 (A2 (A0 y 10))) else
 (bif bif hP (A1 (D.lit (Value.int IntKind.i64 (A1 (A0 y 0))))) then P3 (paV y) !=0 else false then
 (P3 (paV y)) else
 (bif hT (A1 (D.lit (Value.int IntKind.i64 (A1 (A0 y 0)))))
 (A1 (D.lit (Value.int IntKind.i64 (A1 (A0 y 1))))) then
 (b7x (eV y)) else
 0)))))))))))
noncomputable def c73:Ct:=⟨fun | [x]=>D1 x∧Bd x|_=>False,fun | [x]=>some (.lit (.int .i64 (a4r x)))|_=>none⟩
noncomputable def T73:Tab:=g3d.add 73 c73
theorem d5k (y:D):a4r y=c5o (A1 (A0 y 0)) (A1 (A0 y 1)) (eV y):=rfl
noncomputable def g8v (k f:Int) (y:D):Int :=
 bif ob (decide (k<1)) (decide (k>13)) then 8 else
 bif ab (decide (((Y4 k).length:Int)>0)) (ob (decide (f<1)) (decide (f≥((Y4 k).length:Int)))) then 8 else
 bif a5v y then 1 else
 bif G1 (A2 (A0 y 2)) !=0 then G1 (A2 (A0 y 2)) else
 bif ab (hW k) (ob (ob (ob (decide (A1 (A0 y 3)<1)) (decide (A1 (A0 y 3)>1099511627776))) (decide (A1 (A0 y 4)<0))) (decide (A1 (A0 y 4)>1099511627776))) then 2 else
 bif ab (hN k f) (Q5 y !=0) then Q5 y else
 bif P4 (A2 (A0 y 7)) (k==4) !=0 then P4 (A2 (A0 y 7)) (k==4) else
 bif ob (decide (A1 (A0 y 9)<0)) (decide (A1 (A0 y 9)>2)) then 8 else
 bif V4 (A2 (A0 y 10)) !=0 then V4 (A2 (A0 y 10)) else
 bif ab (hP k) (P3 (paV y) !=0) then P3 (paV y) else
 bif hT k f then b7x y else 0
theorem f6m (y:D):f6o y=g8v (A1 (A0 y 0)) (A1 (A0 y 1)) (eV y):=by
 unfold f6o
 kernel_rfl
def f9j (k f:Int) (y:D):Bool :=
 ob (ob (ob (ob (ob (ob (ob (ob (ob (ob (ab (!hF k) (J7 y 0)) (ab (!hM k) (J7 y 4))) (ab (!hS k) (J7 y 6))) (ab (!hW k) (J7 y 7))) (ab (!hP k) (J7 y 5))) (ab (!hN k f) (J7 y 2))) (ab (!hNm k) (J7 y 8))) (ab (!hWo k) (J7 y 9))) (ab (!(k==7)) (J7 y 1))) (ab (!hT k f) (J7 y 3))) ((↑(A2 (A0 y 15)).length:Int) !=hA k)
theorem b2y (k:Int):decide (((Y4 k).length:Int)>0)=hF k∧(hF k=true→((Y4 k).length:Int)=nF k+1):=by
 unfold Y4 hF nF
 by_cases h2:k=2
 ·subst h2;exact ⟨rfl,fun _=>rfl⟩
 by_cases h3:k=3
 ·subst h3;exact ⟨rfl,fun _=>rfl⟩
 by_cases h6:k=6
 ·subst h6;exact ⟨rfl,fun _=>rfl⟩
 by_cases h7:k=7
 ·subst h7;exact ⟨rfl,fun _=>rfl⟩
 have e2:(k==2)=false:=by simpa using h2
 have e3:(k==3)=false:=by simpa using h3
 have e6:(k==6)=false:=by simpa using h6
 have e7:(k==7)=false:=by simpa using h7
 rw[e2,e3,e6,e7]
 exact ⟨rfl,fun h=>by cases h⟩
theorem d8v (y:D) (hs:J0 (E6 y 12)∧J0 (E6 y 13)):a5v y=f9j (A1 (A0 y 0)) (A1 (A0 y 1)) y:=by
 unfold a5v f9j
 have e0:(((Y4 (A1 (A0 y 0))).length:Int)==0)= !hF (A1 (A0 y 0)):=by
  rw[←(b2y _).1]
  cases Y4 (A1 (A0 y 0)) with
  | nil=>rfl
  | cons a l =>
   have h1:(((a::l).length:Int)==0)=false:=by simp only[List.length_cons,beq_eq_false_iff_ne,ne_eq];omega
   have h2:decide (((a::l).length:Int)>0)=true:=by simp only[List.length_cons,decide_eq_true_eq];omega
   rw[h1,h2];rfl
 have e1:(bif A1 (A0 y 11) !=0 then true else decide (IntKind.i64.wrap ((↑(A2 (A0 y 12)).length:Int)+(↑(A2 (A0 y 13)).length:Int))>0))=J7 y 5:=by
  have h1:(A2 (A0 y 12)).length≤1152921504606846976:=hs.1
  have h2:(A2 (A0 y 13)).length≤1152921504606846976:=hs.2
  rw[wr (by omega) (by omega)]
  show _=a2n y
  unfold a2n E6
  rw[a6a]
  have:decide ((↑(A2 (A0 y 12)).length:Int)+(↑(A2 (A0 y 13)).length:Int)>0)=(decide (0<(A2 (A0 y 12)).length)||decide (0<(A2 (A0 y 13)).length)):=by
   rw[←Bool.decide_or];exact decide_eq_decide.2 (by omega)
  rw[this]
  congr 1
  cases h:(A1 (A0 y 11) !=0) with
  | true=>have:=f4e h;simp[this]
  | false=>have:=e4s h;simp[this]
 rw[e0]
 show (bif ob (ob (ob (ab (!hF (A1 (A0 y 0))) (J7 y 0)) (ab (!hM (A1 (A0 y 0))) (J7 y 4))) (ab (!hS (A1 (A0 y 0))) (J7 y 6))) (ab (!hW (A1 (A0 y 0))) (J7 y 7)) then true else
  bif ob (ob (ab (!hP (A1 (A0 y 0))) (bif A1 (A0 y 11) !=0 then true else decide (IntKind.i64.wrap ((↑(A2 (A0 y 12)).length:Int)+(↑(A2 (A0 y 13)).length:Int))>0))) (ab (!hN (A1 (A0 y 0)) (A1 (A0 y 1))) (J7 y 2))) (ab (!hNm (A1 (A0 y 0))) (J7 y 8)) then true else
  ob (ob (ob (ab (!hWo (A1 (A0 y 0))) (J7 y 9)) (ab (!(A1 (A0 y 0)==7)) (J7 y 1))) (ab (!hT (A1 (A0 y 0)) (A1 (A0 y 1))) (J7 y 3))) ((↑(A2 (A0 y 15)).length:Int) !=hA (A1 (A0 y 0))))=_
 rw[e1]
 simp only[ob,ab,a6a,Bool.or_assoc]
theorem f9f:∀x0 x1 x2 x3 x4 x5 x6 x7 x8 x9 c:Bool,ob (!(x0==false&&(x1==false&&(x2==false&&(x3==false&&(x4==false&&(x5==false&&(x6==false&&(x7==false&&(x8==false&&(x9==false&&true))))))))))) c =
 ob (ob (ob (ob (ob (ob (ob (ob (ob (ob x0 x4) x6) x7) x5) x2) x8) x9) x1) x3) c:=by decide +kernel
theorem g9n (p h:Bool):r8 p h=ab (!h) p:=by cases p<;>cases h<;>rfl
theorem g9r {k f:Int} {y:D} (h1:gN k f=hN k f) (h2:gT k f=hT k f):d2p k f y=f9j k f y:=by
 unfold d2p f9j
 rw[h1,h2,f9f]
 simp only[g9n]
theorem f3a (k f:Int):gT k f=hT k f:=by
 unfold gT c5z hT
 by_cases h2:k=2
 ·subst h2;rfl
 by_cases h3:k=3
 ·subst h3
  show (f==3)=ob (ob (ob (f==3) false) false) false
  cases (f==3)<;>rfl
 by_cases h6:k=6
 ·subst h6
  show (f==8)=ob (ob (ob false false) (f==8)) false
  cases (f==8)<;>rfl
 have e2:(k==2)=false:=by simpa using h2
 have e3:(k==3)=false:=by simpa using h3
 have e6:(k==6)=false:=by simpa using h6
 rw[e2,e3,e6]
 cases (k==5)<;>cases (k==13)<;>rfl
theorem f3b {k f:Int} (h:ab (hF k) (ob (decide (f<1)) (decide (f>nF k)))=false):gN k f=hN k f:=by
 unfold gN e6b hN
 by_cases h2:k=2
 ·subst h2
  have h:ob (decide (f<1)) (decide (f>11))=false:=h
  have:=(a3u h).2
  simp only[decide_eq_false_iff_not] at this
  show (ob (f==10) (f==11))=ob (ob false (decide (f≥10))) false
  by_cases h10:f≥10
  ·have:f=10∨f=11:=by omega
   rcases this with rfl|rfl<;>rfl
  ·have d:decide (f≥10)=false:=by simpa using h10
   have e1:(f==10)=false:=by simp;omega
   have e2:(f==11)=false:=by simp;omega
   rw[d,e1,e2];rfl
 by_cases h3:k=3
 ·subst h3;rfl
 by_cases h6:k=6
 ·subst h6;rfl
 have e2:(k==2)=false:=by simpa using h2
 have e3:(k==3)=false:=by simpa using h3
 have e6:(k==6)=false:=by simpa using h6
 rw[e2,e3,e6]
 cases (k==1)<;>rfl
theorem h6q (k f:Int):ab (decide (((Y4 k).length:Int)>0)) (ob (decide (f<1)) (decide (f≥((Y4 k).length:Int))))=ab (hF k) (ob (decide (f<1)) (decide (f>nF k))):=by
 obtain ⟨h1,h2⟩:=b2y k
 rw[h1]
 cases h:hF k with
 | false=>rfl
 | true =>
  have:=h2 h
  have e:decide (f≥((Y4 k).length:Int))=decide (f>nF k):=decide_eq_decide.2 (by omega)
  rw[e]
theorem c2p {β:Type} {f:Nat→Option β}:∀{n i:Nat} {b:β},rounds (fun i _=>S6 (f i)) n i ()= .inr b→∃j,f j=some b
 | 0,i,b,h=>by cases h
 | n+1,i,b,h=>by
  unfold rounds at h
  cases hf:f i with
  | none=>rw[hf] at h;exact c2p h
  | some c=>rw[hf] at h;exact ⟨i,by rw[hf];simp only[S6] at h;cases h;rfl⟩
theorem d3i {β:Type} {f:Nat→Option β} {n:Nat} {b:β} (h:C1 f n=some b):∃j,f j=some b:=by
 unfold C1 at h
 split at h
 ·rename_i c hc
  cases h
  exact c2p hc
 ·cases h
theorem f5f (s:ByteArray):(bif !a9c s then (5:Int) else 0)=(bif (bif decide ((s.size:Int)<1) then true else decide ((s.size:Int)>60)) then 5 else (match C1 (W7 (D9 s)) (D9 s).length with|some e=>e|none=>0)):=by
 unfold a9c
 have e1:decide ((s.size:Int)>0)= !decide ((s.size:Int)<1):=by rw[←decide_not];exact decide_eq_decide.2 (by omega)
 have e2:decide ((s.size:Int)≤60)= !decide ((s.size:Int)>60):=by rw[←decide_not];exact decide_eq_decide.2 (by omega)
 rw[e1,e2]
 cases h:C1 (W7 (D9 s)) (D9 s).length with
 | none=>cases decide ((s.size:Int)<1)<;>cases decide ((s.size:Int)>60)<;>rfl
 | some e =>
  obtain ⟨j,hj⟩:=d3i h
  unfold W7 at hj
  have:e=5:=by
   cases hb:(bif A1 ((D9 s).getD j .any) !=95 then (bif decide (A1 ((D9 s).getD j .any)<97) then true else decide (A1 ((D9 s).getD j .any)>122)) else false) with
   | true=>rw[hb] at hj;cases hj;rfl
   | false=>rw[hb] at hj;cases hj
  subst this
  cases decide ((s.size:Int)<1)<;>cases decide ((s.size:Int)>60)<;>rfl
theorem f5n {y:D} (h:hT (A1 (A0 y 0)) (A1 (A0 y 1))=true):b7x y=b4y y:=by
 unfold b7x b4y
 generalize hk:A1 (A0 y 0)=k at h ⊢
 have hcase:k=3∨k=5∨k=6∨k=13:=by
  by_cases h3:k=3
  ·exact .inl h3
  by_cases h5:k=5
  ·exact .inr (.inl h5)
  by_cases h6:k=6
  ·exact .inr (.inr (.inl h6))
  by_cases h13:k=13
  ·exact .inr (.inr (.inr h13))
  exfalso
  unfold hT at h
  have e3:(k==3)=false:=by simpa using h3
  have e5:(k==5)=false:=by simpa using h5
  have e6:(k==6)=false:=by simpa using h6
  have e13:(k==13)=false:=by simpa using h13
  rw[e3,e5,e6,e13] at h
  cases h
 rcases hcase with rfl|rfl|rfl|rfl
 ·show (bif !H8 (A4 (A0 y 14)) then (5:Int) else 0)=_
  rfl
 ·show (bif decide ((↑(A4 (A0 y 14)).size:Int)>60) then (4:Int) else 0)=_
  rfl
 ·show (bif !H8 (A4 (A0 y 14)) then (5:Int) else 0)=_
  rfl
 ·show (bif (bif !a9c (A4 (A0 y 14)) then true else false) then (5:Int) else 0)=_
  have:(bif !a9c (A4 (A0 y 14)) then true else false)= !a9c (A4 (A0 y 14)):=by cases a9c (A4 (A0 y 14))<;>rfl
  rw[this,f5f]
  rfl
theorem g8u {y:D} (hs:J0 (E6 y 12)∧J0 (E6 y 13)):g8v (A1 (A0 y 0)) (A1 (A0 y 1)) y=c5o (A1 (A0 y 0)) (A1 (A0 y 1)) y:=by
 unfold g8v c5o
 rw[h6q]
 cases h1:ob (decide (A1 (A0 y 0)<1)) (decide (A1 (A0 y 0)>13)) with
 | true=>rfl
 | false =>
 cases h2:ab (hF (A1 (A0 y 0))) (ob (decide (A1 (A0 y 1)<1)) (decide (A1 (A0 y 1)>nF (A1 (A0 y 0))))) with
 | true=>rfl
 | false =>
 have hgN:=f3b h2
 rw[d8v y hs, ←g9r hgN (f3a _ _)]
 cases h3:d2p (A1 (A0 y 0)) (A1 (A0 y 1)) y with
 | true=>rfl
 | false =>
 simp only[cond_false]
 rw[hgN]
 unfold c2w
 rw[f3a]
 have hM0:hM (A1 (A0 y 0))=false→G1 (A2 (A0 y 2))=0:=fun hm=>by
  have h4:J7 y 4=false:=by
   unfold d2p at h3
   have h3:=(a3u h3).1
   simp only[Bool.not_eq_false',Bool.and_eq_true,beq_iff_eq] at h3
   have:=h3.2.2.2.2.1
   unfold r8 at this
   rw[hm] at this
   cases hp:J7 y 4 with
   | true=>rw[hp] at this;cases this
   | false=>rfl
  rw[c9c h4];rfl
 have e1:∀R:Int,(bif G1 (A2 (A0 y 2)) !=0 then G1 (A2 (A0 y 2)) else R)=(bif ab (hM (A1 (A0 y 0))) (G1 (A2 (A0 y 2)) !=0) then G1 (A2 (A0 y 2)) else R):=fun R=>by
  cases hm:hM (A1 (A0 y 0)) with
  | true=>rfl
  | false=>rw[hM0 hm];rfl
 rw[e1]
 have e2:∀(g N R:Int) (b:Bool),(bif ab b (N !=0) then N else R)=(bif b then (bif N !=0 then N else R) else R):=fun g N R b=>by cases b<;>rfl
 rw[e2 0 (Q5 y) _ (hN (A1 (A0 y 0)) (A1 (A0 y 1)))]
 have e3:(bif hT (A1 (A0 y 0)) (A1 (A0 y 1)) then b7x y else 0)=(bif hT (A1 (A0 y 0)) (A1 (A0 y 1)) then b4y y else 0):=by
  cases ht:hT (A1 (A0 y 0)) (A1 (A0 y 1)) with
  | true=>rw[f5n ht]
  | false=>rfl
 rw[e3]
theorem g6v {y:D} (hv:eV y=y) (hs:J0 (E6 y 12)∧J0 (E6 y 13)):f6o y=a4r y:=by
 rw[f6m,d5k,hv,g8u hs]
theorem k98:C3 B T98:=by
 refine C4 B9 i9c (fn:=Tryz.f98) (cd:=A7 Tryz.f98) (sp:=B8) (hn:=B1) Tryz.func98 (by kernel_rfl) (by kernel_rfl) A8 fun ds r hp hr=>?_
 unfold c98 at hp hr
 simp only[] at hr hp
 split at hr
 ·rename_i x
  cases hr
  rw[X9 (D1.v hp)]
  refine keep (w98 x fun v=>v=_) ?_
  refine A5 (fun g=>?_) (fun g=>?_)
  ·have g':ob (A1 (A0 x 0)==6) (A1 (A0 x 0)==12)=true:=g
   refine A5 (fun g=>?_) (fun g=>?_)
   ·have e:hA (A1 (A0 x 0))=2:=by unfold hA;rw[g];rfl
    rw[e];rfl
   ·have e:hA (A1 (A0 x 0))=1:=by unfold hA;rw[g,g'];rfl
    rw[e];rfl
  ·have g':ob (A1 (A0 x 0)==6) (A1 (A0 x 0)==12)=false:=g
   refine A5 (fun g=>?_) (fun g=>?_)
   ·have e:hA (A1 (A0 x 0))=2:=by unfold hA;rw[g];rfl
    rw[e];rfl
   ·have e:hA (A1 (A0 x 0))=0:=by unfold hA;rw[g,g'];rfl
    rw[e];rfl
 ·cases hr
theorem i9p:C3 B g3n:=by
 refine C4 B9 k98 (fn:=Tryz.f100) (cd:=A7 Tryz.f100) (sp:=B8) (hn:=B1) Tryz.func100 (by kernel_rfl) (by kernel_rfl) A8 fun ds r hp hr=>?_
 unfold h8t at hr
 simp only[] at hr
 split at hr
 ·rename_i k
  cases hr
  have hw:=i6d k fun v=>v= .d (.slice false 1 (Y4 k))
  refine keep hw ?_
  clear hw
  unfold Y4
  refine A5 (fun g=>?_) (fun g=>?_)
  ·rw[g];show _=_;kernel_rfl
  rw[g]
  refine A5 (fun g=>?_) (fun g=>?_)
  ·rw[g];show _=_;kernel_rfl
  rw[g]
  refine A5 (fun g=>?_) (fun g=>?_)
  ·rw[g];show _=_;kernel_rfl
  rw[g]
  refine A5 (fun g=>?_) (fun g=>?_)
  ·rw[g];show _=_;kernel_rfl
  rw[g];show _=_;kernel_rfl
 ·cases hr
theorem i9d:C3 B g3d:=by
 refine C4 B9 i9p (fn:=Tryz.f138) (cd:=A7 Tryz.f138) (sp:=B8) (hn:=B1) Tryz.func138 (by kernel_rfl) (by kernel_rfl) A8 fun ds r hp hr=>?_
 unfold h8h at hp hr
 simp only[] at hr hp
 split at hr
 ·rename_i x
  cases hr
  rw[X9 (D1.v hp)]
  refine keep (i5p x fun v=>v=_) ?_
  unfold a5v
  rw[D1.v hp]
  (repeat' (first|with_reducible rfl | (refine A5 (fun hcw=>?_) (fun hcw=>?_)<;>simp only[hcw,cond_true,cond_false])|refine V8 ?_ ?_))
  all_goals first|trivial|exact hp
 ·cases hr
theorem k73:C3 B T73:=by
 refine C4 B9 i9d (fn:=Tryz.f73) (cd:=A7 Tryz.f73) (sp:=B8) (hn:=B1) Tryz.func73 (by kernel_rfl) (by kernel_rfl) A8 fun ds r hp hr=>?_
 unfold c73 at hp hr
 simp only[] at hr hp
 split at hr
 ·rename_i x
  cases hr
  obtain ⟨hx,hb⟩:=hp
  rw[X9 hx.v, ←g6v hx.v ⟨hx.p.l.1,hx.p.l.2⟩]
  refine keep (w73 x fun v=>v=_) ?_
  unfold f6o
  rw[hx.v]
  have h2:∀y∈A2 (A0 x 2),w3 y∧Bd y:=fun y hy=>⟨hx.m y hy,hb.sub hy⟩
  have h10:∀y∈A2 (A0 x 10),a2a y∧Bd y:=fun y hy=>⟨hx.s y hy,hb.sub hy⟩
  have hpp:J1 (paV x):=hx.p
  have b12:Bd (lC x 12 4):=show BdL _ from b2k fun a ha=>hb.sub ha
  have b13:Bd (lC x 13 3):=show BdL _ from b2k fun a ha=>hb.sub ha
  (repeat' (first|with_reducible rfl | (refine A5 (fun hcw=>?_) (fun hcw=>?_)<;>simp only[hcw,cond_true,cond_false])|refine V8 ?_ ?_))
  all_goals first|trivial|assumption
 ·cases hr
noncomputable def c46:Ct:=⟨fun | [x]=>D1 x∧Bd x|_=>False,fun | [x]=>some (.lit (.int .i64 (K5 x)))|_=>none⟩
noncomputable def U46 (κ:Nat):Tab:=T73.add 46 (c46.below μ1 κ)
noncomputable def T46:Tab:=T73.add 46 c46
noncomputable def l46:Code:=D7 (C5 (A7 Tryz.f46) 10)
theorem b46 (κ:Nat) (y:D) (i:Int) (R:X→List V→List Box→Prop):(E1 (Cn (U46 κ)) (U46 κ) D5 0 B8 B1 l46 27 [1,4] [[5000]] [] [([5000], [5000])] [2] []
 [V.ptr [5000] 0,A3 i] [L0 y] R) =
 (bif decide (i<(↑(A2 (A0 y 15)).length:Int)) then
 ((((0:Int)≤i)∧(i.toNat<(A2 (A0 y 15)).length∧eV ((A2 (A0 y 15)).getD i.toNat D.any)=(A2 (A0 y 15)).getD i.toNat D.any))∧
 (((D1 (eV ((A2 (A0 y 15)).getD i.toNat D.any))∧Bd (eV ((A2 (A0 y 15)).getD i.toNat D.any)))∧μ1 [eV ((A2 (A0 y 15)).getD i.toNat D.any)]<κ)∧
 (bif K5 (eV ((A2 (A0 y 15)).getD i.toNat D.any)) !=0 then
 (27=27∧
 R X.ret [A3 (K5 (eV ((A2 (A0 y 15)).getD i.toNat D.any)))] []) else
 (27=27∧
 R X.normal [V.ptr [5000] 0,A3 (IntKind.i64.wrap (i+1))]
 [L0 y])))) else
 (27=27∧
 R (X.exit 0) [V.any] [])):=by kernel_rfl
noncomputable def S46 (rec:D→Int) (κ:Nat):Ev.Spec:={L:=[1,4],ns:=[([5000],[3])],L':=[2],nm':=[],G:=fun N vals bs k=>match vals,bs with
 | [.ptr [5000] 0, .d (.lit (.int .i64 i))], [.cells 33 [a0,a1,a2,a3,a4,a5,a6,a7,a8,a9,a10,a11,a12,a13,a14, .d (.slice b 16 xs)]]=>(IsE [a0,a1,a2,a3,a4,a5,a6,a7,a8,a9,a10,a11,a12,a13,a14, .d (.slice b 16 xs)]∧N=27∧rec=K5∧i=0∧J0 xs∧∀y∈xs,(D1 y∧Bd y)∧dsz y<κ)∧S3 (C1 (C9 rec xs) xs.length) (k (.exit 0) [.any] []) (fun e=>k .ret [A3 e] [])
 | _,_=>False }
theorem w46 (rec:D→Int) (κ:Nat) (y:D) (p:V→Prop):(B6 (Cn (U46 κ)) (U46 κ) D5 0 (spL [(10,S46 rec κ)]) B1 46 [V.d (eV y)] B3.empty fun v H=>p (B4 H v)) =
 ((D1 (eV y)∧Bd (eV y))∧
 (bif a4r (eV y) !=0 then
 p (A3 (a4r (eV y))) else
 ((IsE (J8 y)∧(27=27∧(rec=K5∧(((0:Int)=0)∧(J0 (A2 (A0 y 15))∧∀(y_1:D),y_1∈A2 (A0 y 15)→(D1 y_1∧Bd y_1)∧dsz y_1<κ)))))∧
 (match C1 (C9 rec (A2 (A0 y 15))) (A2 (A0 y 15)).length with
 | some y0 =>
 p (A3 y0)
 | none=>p (A3 0))))):=by kernel_rfl
noncomputable def U45 (κ:Nat):Tab:=T46.add 45 (c43.below μ1 κ)
noncomputable def T45:Tab:=T46.add 45 c43
noncomputable def l45:Code:=D7 (C5 (A7 Tryz.f45) 6)
theorem b45 (κ:Nat) (y:D) (i:Int) (m:Int) (R:X→List V→List Box→Prop):(E1 (Cn (U45 κ)) (U45 κ) D5 0 B8 B1 l45 22 [1,3,4] [[5000]] [] [([5000], [5000])] [3] []
 [V.ptr [5000] 0,A3 m,A3 i] [L0 y] R) =
 (bif decide (i<(↑(A2 (A0 y 15)).length:Int)) then
 ((((0:Int)≤i)∧(i.toNat<(A2 (A0 y 15)).length∧eV ((A2 (A0 y 15)).getD i.toNat D.any)=(A2 (A0 y 15)).getD i.toNat D.any))∧
 (((D1 (eV ((A2 (A0 y 15)).getD i.toNat D.any))∧H4 (eV ((A2 (A0 y 15)).getD i.toNat D.any))≤100)∧μ1 [eV ((A2 (A0 y 15)).getD i.toNat D.any)]<κ)∧
 (22=22∧
 R X.normal
 [V.ptr [5000] 0,
 A3 (bif true then
 if (↑(U9 (eV ((A2 (A0 y 15)).getD i.toNat D.any))):Int)>m then
 (↑(U9 (eV ((A2 (A0 y 15)).getD i.toNat D.any))):Int)
 else m
 else
 if (↑(U9 (eV ((A2 (A0 y 15)).getD i.toNat D.any))):Int)<m then
 (↑(U9 (eV ((A2 (A0 y 15)).getD i.toNat D.any))):Int)
 else m),
 A3 (IntKind.i64.wrap (i+1))]
 [L0 y]))) else
 (22=22∧
 R (X.exit 0) [A3 m] [])):=by kernel_rfl
noncomputable def S45 (κ:Nat):Ev.Spec:={L:=[1,3,4],ns:=[([5000],[3])],L':=[3],nm':=[],G:=fun N vals bs k=>match vals,bs with
 | [.ptr [5000] 0, .d (.lit (.int .i64 m)), .d (.lit (.int .i64 i))], [.cells 33 [a0,a1,a2,a3,a4,a5,a6,a7,a8,a9,a10,a11,a12,a13,a14, .d (.slice b 16 xs)]]=>(IsE [a0,a1,a2,a3,a4,a5,a6,a7,a8,a9,a10,a11,a12,a13,a14, .d (.slice b 16 xs)]∧N=22∧i=0∧m=0∧xs.length≤100∧∀y∈xs,(D1 y∧H4 y≤100)∧dsz y<κ)∧k (.exit 0) [A3 (U0 (xs.map U9):Nat)] []
 | _,_=>False }
theorem w45 (κ:Nat) (y:D) (p:V→Prop):(B6 (Cn (U45 κ)) (U45 κ) D5 0 (spL [(6,S45 κ)]) B1 45 [V.d (eV y)] B3.empty fun v H=>p (B4 H v)) =
 ((IsE (J8 y)∧(22=22∧(((0:Int)=0)∧(((0:Int)=0)∧((A2 (A0 y 15)).length≤100∧∀(y_1:D),y_1∈A2 (A0 y 15)→(D1 y_1∧H4 y_1≤100)∧dsz y_1<κ)))))∧
 p (A3 (IntKind.i64.wrap ((↑(U0 (List.map U9 (A2 (A0 y 15)))):Int)+1)))):=by kernel_rfl
theorem w18 (y:D) (p:V→Prop):(B6 (Cn T45) T45 D5 0 B8 B1 18 [V.d (eV y)] B3.empty fun v H=>p (B4 H v)) =
 (D1 (eV y)∧
 (bif decide
 ((bif false then if 101>N4 (eV y) 0 then 101 else N4 (eV y) 0
 else if 101<N4 (eV y) 0 then 101 else N4 (eV y) 0) >
 100) then
 p (A3 4) else
 ((D1 (eV y)∧H4 (eV y)≤100)∧
 (bif decide ((↑(U9 (eV y)):Int)>12) then
 p (A3 30) else
 ((D1 (eV y)∧Bd (eV y))∧
 p (A3 (K5 (eV y)))))))):=by kernel_rfl
noncomputable def c18:Ct:=⟨fun | [x]=>D1 x∧Bd x|_=>False,fun | [x]=>some (.lit (.int .i64 (F4 x)))|_=>none⟩
noncomputable def T18:Tab:=T45.add 18 c18
theorem i7m {κ:Nat} (hk:C3 B (U46 κ)):OkS (Cn (U46 κ)) 0 (.loop l46) (S46 K5 κ):=by
 refine D0 fun N vals bs K h=>?_
 simp only[S46] at h
 split at h
 case h_2=>exact h.elim
 rename_i i a0 a1 a2 a3 a4 a5 a6 a7 a8 a9 a10 a11 a12 a13 a14 b xs
 obtain ⟨⟨⟨y,hy⟩,rfl,_,rfl,hsh,hall⟩,h⟩:=h
 have hxs:xs=A2 (A0 y 15):=by
  have:=congrArg (fun l:List V=>l.getD 15 .any) hy
  simp at this
  exact this.2
 rw[hy]
 subst hxs
 have hs:(A2 (A0 y 15)).length≤1152921504606846976:=hsh
 refine G0 (D3 B9 hk C2) C0 A8 (hn:=B1) (adsI:=[]) (nsI:=[([5000],[5000])]) (nsX:=[]) rfl rfl (A2 (A0 y 15)).length
  (fun i=>[.ptr [5000] 0,A3 i]) (fun _=>[L0 y]) (C9 K5 (A2 (A0 y 15))) (fun e=>(.ret, [A3 e], [])) (by simp) (.exit 0) [.any] [] (by simp) ?_ ?_ h
 ·intro i R hi hR
  refine keep (b46 κ y i R) ?_
  have e1:decide ((i:Int)<(A2 (A0 y 15)).length)=true:=by simp;omega
  have e2:IntKind.i64.wrap ((i:Int)+1)=((i+1:Nat):Int):=by rw[Go.IntWalk.i64_in _ (by omega)];omega
  obtain ⟨hv,hlt⟩:=hall _ (D8 hi)
  rw[e1]
  simp only[Int.toNat_natCast,e2,cond_true,hv.1.v]
  refine ⟨⟨by omega,hi,(by trivial)⟩,⟨hv,hlt⟩,A5 (fun h1=>⟨(by trivial), ?_⟩) (fun h1=>⟨(by trivial), ?_⟩)⟩<;>(simp only[C9,h1,cond_true,cond_false,S3] at hR;exact hR)
 ·intro R hR
  refine keep (b46 κ y (A2 (A0 y 15)).length R) ?_
  have e1:decide (((A2 (A0 y 15)).length:Int)<(A2 (A0 y 15)).length)=false:=by simp
  rw[e1]
  exact ⟨(by trivial),hR⟩
theorem k46:C3 B T46:=by
 refine S4 B9 k73 μ1 (fn:=Tryz.f46) (cd:=A7 Tryz.f46) (sp:=fun n=>spL [(10,S46 K5 n)]) (hn:=B1) Tryz.func46 (by kernel_rfl) (by kernel_rfl) (fun n hk=>B7 (c:=.loop l46) (by kernel_rfl) (i7m hk) C8) fun κ ds r hp hm hr=>?_
 unfold c46 at hp hr
 simp only[] at hr hp
 split at hr
 ·rename_i x
  cases hr
  rw[X9 hp.1.v]
  refine keep (w46 K5 κ x fun v=>v=_) ?_
  rw[b7e]
  unfold a9p
  rw[hp.1.v]
  have ha:∀y∈A2 (A0 x 15),(D1 y∧Bd y)∧dsz y<κ:=fun y hy=>⟨⟨hp.1.a y hy,hp.2.sub hy⟩,hm▸G6 hy⟩
  have hE:IsE (J8 x):=⟨x,rfl⟩
  have hs:J0 (A2 (A0 x 15)):=hp.1.l.2.2
  generalize C1 (C9 K5 (A2 (A0 x 15))) (A2 (A0 x 15)).length=o2
  refine ⟨hp,A5 (fun g=>?_) (fun g=>?_)⟩
  ·simp only[g,cond_true]
  ·simp only[g,cond_false]
   refine ⟨⟨hE,(by trivial),(by trivial),(by trivial),hs,ha⟩, ?_⟩
   cases o2<;>rfl
 ·cases hr
theorem i7n {κ:Nat} (hk:C3 B (U45 κ)):OkS (Cn (U45 κ)) 0 (.loop l45) (S45 κ):=by
 refine D0 fun N vals bs K h=>?_
 simp only[S45] at h
 split at h
 case h_2=>exact h.elim
 rename_i m i a0 a1 a2 a3 a4 a5 a6 a7 a8 a9 a10 a11 a12 a13 a14 b xs
 obtain ⟨⟨⟨y,hy⟩,rfl,rfl,rfl,hl,hx⟩,h⟩:=h
 have hxs:xs=A2 (A0 y 15):=by
  have:=congrArg (fun l:List V=>l.getD 15 .any) hy
  simp at this
  exact this.2
 rw[hy]
 subst hxs
 have main:∀k i,i+k=(A2 (A0 y 15)).length→J2 (Cn (U45 κ)) 0 l45 22 [1,3,4] [[5000]] [3] [] [.ptr [5000] 0,A3 (U0 (((A2 (A0 y 15)).take i).map U9):Nat),A3 i] [L0 y] K:=by
  intro k
  induction k with
  | zero =>
   intro i hi
   have:i=(A2 (A0 y 15)).length:=by omega
   subst this
   refine B5 (D3 B9 hk C2) C0 A8 (hn:=B1) (adsI:=[]) (nsI:=[([5000],[5000])]) (nsX:=[]) rfl rfl (keep (b45 κ y (A2 (A0 y 15)).length _ _) ?_)
   have e1:decide (((A2 (A0 y 15)).length:Int)<(A2 (A0 y 15)).length)=false:=by simp
   rw[e1,List.take_length]
   exact ⟨(by trivial),h⟩
  | succ k ih =>
   intro i hi
   refine B5 (D3 B9 hk C2) C0 A8 (hn:=B1) (adsI:=[]) (nsI:=[([5000],[5000])]) (nsX:=[]) rfl rfl (keep (b45 κ y i _ _) ?_)
   have e1:decide ((i:Int)<(A2 (A0 y 15)).length)=true:=by simp;omega
   obtain ⟨hf,hlt⟩:=hx _ (D8 (xs:=A2 (A0 y 15)) (i:=i) (by omega))
   have hv:=hf.1.v
   rw[e1]
   simp only[Int.toNat_natCast,cond_true,hv]
   refine ⟨⟨by omega,by omega,(by trivial)⟩,⟨hf,hlt⟩,(by trivial), ?_⟩
   have:=ih (i+1) (by omega)
   rw[Go.IntWalk.i64_in _ (by omega)]
   rw[a2g (by omega)] at this
   rw[show (if (U9 ((A2 (A0 y 15)).getD i .any):Int)>(U0 (((A2 (A0 y 15)).take i).map U9):Nat) then (U9 ((A2 (A0 y 15)).getD i .any):Int) else (U0 (((A2 (A0 y 15)).take i).map U9):Nat))=(max (U0 (((A2 (A0 y 15)).take i).map U9)) (U9 ((A2 (A0 y 15)).getD i .any)):Nat) by split<;>omega]
   exact this
 exact main (A2 (A0 y 15)).length 0 (by omega)
theorem k45:C3 B T45:=by
 refine S4 B9 k46 μ1 (fn:=Tryz.f45) (cd:=A7 Tryz.f45) (sp:=fun n=>spL [(6,S45 n)]) (hn:=B1) Tryz.func45 (by kernel_rfl) (by kernel_rfl) (fun n hk=>B7 (c:=.loop l45) (by kernel_rfl) (i7n hk) C8) fun κ ds r hp hm hr=>?_
 unfold c43 at hp hr
 simp only[] at hr hp
 split at hr
 ·rename_i x
  cases hr
  obtain ⟨hf,h1⟩:=hp
  rw[X9 hf.v]
  refine keep (w45 κ x fun v=>v=_) ?_
  have e1:=t6 x
  have e2:=b9q x
  have e3:=e4e _ x (Nat.le_refl _)
  have e4:=a4a (xs:=E6 x 15)
  refine ⟨⟨⟨x,rfl⟩,(by trivial),(by trivial),(by trivial),by unfold E6 at *;omega,fun y hy=>⟨⟨hf.a y hy, ?_⟩, ?_⟩⟩, ?_⟩
  ·have:=a4k (f:=H4) (xs:=E6 x 15) hy;omega
  ·rw[←hm];exact G6 hy
  ·unfold E6 at *
   rw[Go.IntWalk.i64_in _ (by omega),show ((U0 (List.map U9 (A2 (A0 x 15))):Nat):Int)+1=(U9 x:Nat) by omega]
 ·cases hr
theorem e9r (y:D) (hs:J0 (E6 y 12)∧J0 (E6 y 13)):(bif A1 (A0 y 11) !=0 then true else decide (IntKind.i64.wrap ((↑(A2 (A0 y 12)).length:Int)+(↑(A2 (A0 y 13)).length:Int))>0))=a2n y:=by
 have h1:(A2 (A0 y 12)).length≤1152921504606846976:=hs.1
 have h2:(A2 (A0 y 13)).length≤1152921504606846976:=hs.2
 rw[wr (by omega) (by omega)]
 unfold a2n E6
 rw[a6a]
 have:decide ((↑(A2 (A0 y 12)).length:Int)+(↑(A2 (A0 y 13)).length:Int)>0)=(decide (0<(A2 (A0 y 12)).length)||decide (0<(A2 (A0 y 13)).length)):=by
  rw[←Bool.decide_or];exact decide_eq_decide.2 (by omega)
 rw[this]
 congr 1
 cases h:(A1 (A0 y 11) !=0) with
 | true=>have:=f4e h;simp[this]
 | false=>have:=e4s h;simp[this]
theorem e4m:∀(κ:Nat) (y:D),dsz y<κ→D1 y→∀n:Int,0≤n→n≤100→n≤N4 y n∧min (N4 y n) 101=min (n+(H4 y:Nat)) 101
 | 0,_,h,_,_,_,_=>absurd h (Nat.not_lt_zero _)
 | κ+1,y,h,hf,n,h0,h1=>by
  rw[e4n,t6]
  unfold d6o
  rw[e9r y ⟨hf.p.l.1,hf.p.l.2⟩]
  have hrec:∀a∈A2 (A0 y 15),∀n:Int,0≤n→n≤100→n≤N4 a n∧min (N4 a n) 101=min (n+(H4 a:Nat)) 101:=fun a ha=>e4m κ a (by have:=G6 (y:=y) (i:=15) ha;omega) (hf.a a ha)
  unfold E6
  by_cases hl:(A2 (A0 y 10)).length>100
  ·have d:decide ((↑(A2 (A0 y 10)).length:Int)>100)=true:=by simp;omega
   rw[d]
   simp only[cond_true]
   constructor
   ·omega
   ·have:min (A2 (A0 y 10)).length 100=100:=by omega
    rw[this]
    cases a2n y<;>simp only[cond_true,cond_false]<;>omega
  ·have d:decide ((↑(A2 (A0 y 10)).length:Int)>100)=false:=by simp;omega
   have em:min (A2 (A0 y 10)).length 100=(A2 (A0 y 10)).length:=by omega
   rw[d,em,wr (x:=n+1) (by omega) (by omega),wr (x:=n+1+(↑(A2 (A0 y 10)).length:Int)) (by omega) (by omega)]
   simp only[cond_false]
   cases hp:a2n y with
   | false =>
    simp only[cond_false]
    obtain ⟨p1,p2⟩:=b2d (rec:=N4) (f:=H4) (xs:=A2 (A0 y 15)) (m:=n+1+(↑(A2 (A0 y 10)).length:Int)) (by omega) hrec
    omega
   | true =>
    simp only[cond_true]
    by_cases hm:n+1+(↑(A2 (A0 y 10)).length:Int)≤100
    ·have d2:decide (n+1+(↑(A2 (A0 y 10)).length:Int)≤100)=true:=by simpa using hm
     rw[d2]
     simp only[cond_true]
     obtain ⟨q1,q2⟩:=d2i _ (paV y) (Nat.lt_succ_self _) (n+1+(↑(A2 (A0 y 10)).length:Int)) (by omega) hm
     obtain ⟨p1,p2⟩:=b2d (rec:=N4) (f:=H4) (xs:=A2 (A0 y 15)) (m:=a4y (paV y) (n+1+(↑(A2 (A0 y 10)).length:Int))) (by omega) hrec
     omega
    ·have d2:decide (n+1+(↑(A2 (A0 y 10)).length:Int)≤100)=false:=by simpa using hm
     rw[d2]
     simp only[cond_false]
     obtain ⟨p1,p2⟩:=b2d (rec:=N4) (f:=H4) (xs:=A2 (A0 y 15)) (m:=n+1+(↑(A2 (A0 y 10)).length:Int)) (by omega) hrec
     omega
theorem f5r {x:D} (h:D1 x):(bif false then if 101>N4 x 0 then 101 else N4 x 0 else if 101<N4 x 0 then 101 else N4 x 0)=((cap (H4 x):Nat):Int):=by
 have:=(e4m _ x (Nat.lt_succ_self _) h 0 (by omega) (by omega)).2
 simp only[cond_false]
 unfold cap
 split<;>omega
theorem k18:C3 B T18:=by
 refine C4 B9 k45 (fn:=Tryz.f18) (cd:=A7 Tryz.f18) (sp:=B8) (hn:=B1) Tryz.func18 (by kernel_rfl) (by kernel_rfl) A8 fun ds r hp hr=>?_
 unfold c18 at hp hr
 simp only[] at hr hp
 split at hr
 ·rename_i x
  cases hr
  rw[X9 hp.1.v]
  refine keep (w18 x fun v=>v=_) ?_
  unfold F4
  rw[hp.1.v,f5r hp.1]
  refine ⟨hp.1,A5 (fun g=>?_) (fun g=>?_)⟩
  ·simp only[g,cond_true]
  ·simp only[g,cond_false]
   simp only[decide_eq_false_iff_not] at g
   refine ⟨⟨hp.1,by unfold cap at g;omega⟩,A5 (fun g=>?_) (fun g=>?_)⟩
   ·simp only[g,cond_true]
   ·simp only[g,cond_false];exact ⟨hp,(by trivial)⟩
 ·cases hr
def b3j:Nat→Nat→List UInt8
 | 0,_=>[]
 | k+1,n=>bif decide (n<10) then [UInt8.ofNat (48+n)] else b3j k (n / 10)++ [UInt8.ofNat (48+n % 10)]
def Q3 (n:Int):ByteArray:=⟨(b3j 20 n.toNat).toArray⟩
def μN:List D→Nat
 | [.lit (.int _ n)]=>n.toNat
 | _=>0
noncomputable def g9k:Ct:=⟨fun | [.lit (.int .i64 n)]=>0≤n∧n<9223372036854775808|_=>False,fun | [.lit (.int .i64 n)]=>some (.lit (.string (Q3 n)))|_=>none⟩
noncomputable def i2h (κ:Nat):Tab:=T18.add 165 (g9k.below μN κ)
noncomputable def d7g:Tab:=T18.add 165 g9k
theorem i4q (κ:Nat) (n:Int) (p:V→Prop):(B6 (Cn (i2h κ)) (i2h κ) D5 0 B8 B1 165 [A3 n] B3.empty fun v H=>p (B4 H v)) =
 (bif decide (n<10) then
 (c5t [D.lit (Value.int IntKind.u8 (IntKind.u8.wrap (IntKind.i64.wrap (48+n))))]∧
 p (C6 (b3h [D.lit (Value.int IntKind.u8 (IntKind.u8.wrap (IntKind.i64.wrap (48+n))))]))) else
 ((IntKind.i64=IntKind.i64∧(10:Int)≠0)∧
 (((((0:Int)≤IntKind.i64.wrap (n.tdiv 10))∧((IntKind.i64.wrap (n.tdiv 10):Int)<9223372036854775808))∧μN [iD (IntKind.i64.wrap (n.tdiv 10))]<κ)∧
 ((IntKind.i64=IntKind.i64∧(10:Int)≠0)∧
 (c5t [D.lit (Value.int IntKind.u8 (IntKind.u8.wrap (IntKind.i64.wrap (48+n.tmod 10))))]∧
 ((Q3 (IntKind.i64.wrap (n.tdiv 10))).size+1≤9223372036854775807∧
 p
 (C6 (Q3 (IntKind.i64.wrap (n.tdiv 10)) ++
 b3h [D.lit (Value.int IntKind.u8 (IntKind.u8.wrap (IntKind.i64.wrap (48+n.tmod 10))))])))))))):=by kernel_rfl
noncomputable def f7w:Code:=D7 (C5 (A7 Tryz.f104) 6)
theorem h9x (xs:List D) (b:Bool) (a:ByteArray) (i:Int) (R:X→List V→List Box→Prop):(E1 (Cn d7g) d7g D5 0 B8 B1 f7w 23 [0,3,4] [] [] [] [3] [] [V.d (D.slice b 1 xs),C6 a,A3 i] [] R) =
 (bif decide (i<(↑xs.length:Int)) then
 (bif decide (i>0) then
 (a.size+1≤9223372036854775807∧
 ((((0:Int)≤i)∧(i.toNat<xs.length∧zD (A4 (xs.getD i.toNat D.any))=xs.getD i.toNat D.any))∧
 ((a++bA [32]).size+(A4 (xs.getD i.toNat D.any)).size≤9223372036854775807∧
 (23=23∧
 R X.normal
 [V.d (D.slice b 1 xs),
 C6 (a++bA [32]++A4 (xs.getD i.toNat D.any)),
 A3 (IntKind.i64.wrap (i+1))]
 [])))) else
 ((((0:Int)≤i)∧(i.toNat<xs.length∧zD (A4 (xs.getD i.toNat D.any))=xs.getD i.toNat D.any))∧
 (a.size+(A4 (xs.getD i.toNat D.any)).size≤9223372036854775807∧
 (23=23∧
 R X.normal
 [V.d (D.slice b 1 xs),C6 (a++A4 (xs.getD i.toNat D.any)),
 A3 (IntKind.i64.wrap (i+1))]
 [])))) else
 (23=23∧
 R (X.exit 0) [C6 a] [])):=by kernel_rfl
def a2j:Bool→ByteArray→List D→ByteArray
 | _,a, []=>a
 | f,a,x::r=>a2j false (bif f then a++A4 x else a++ByteArray.mk (Array.mk [32])++A4 x) r
def G2 (l:List D):ByteArray:=a2j true (ByteArray.mk (Array.mk [40])) l++ByteArray.mk (Array.mk [41])
noncomputable def R9 (l:List D):ByteArray:=a2j true (ByteArray.mk (Array.mk [40])) l
def f7 (xs:List D):Prop:=∀y∈xs,a3a y
noncomputable def g4o:Ev.Spec:={L:=[0,3,4],ns:=[],L':=[3],nm':=[],G:=fun N vals bs k=>match vals,bs with
 | [.d (.slice b 1 xs), .d (.lit (.string a)), .d (.lit (.int .i64 i))], []=>(N=23∧i=0∧a=ByteArray.mk (Array.mk [40])∧f7 xs∧(R9 xs).size≤9223372036854775806∧xs.length≤1152921504606846976)∧k (.exit 0) [C6 (R9 xs)] []
 | _,_=>False }
theorem i5z (xs:List D) (b:Bool) (p:V→Prop):(B6 (Cn d7g) d7g D5 0 (spL [(6,g4o)]) B1 104 [V.d (D.slice b 1 xs)] B3.empty fun v H=>p (B4 H v)) =
 ((23=23∧(((0:Int)=0)∧(bA [40]=bA [40]∧(f7 xs∧((R9 xs).size≤9223372036854775806∧xs.length≤1152921504606846976)))))∧
 ((R9 xs).size+1≤9223372036854775807∧
 p (C6 (R9 xs++bA [41])))):=by kernel_rfl
noncomputable def h8r:Ct:=⟨fun | [.slice _ z xs]=>z=1∧f7 xs∧(R9 xs).size≤9223372036854775806∧xs.length≤1152921504606846976|_=>False,fun | [.slice _ _ xs]=>some (.lit (.string (G2 xs)))|_=>none⟩
noncomputable def d7i:Tab:=d7g.add 104 h8r
noncomputable def f7t:Code:=D7 (C5 (A7 Tryz.f109) 6)
def f2w:Nat→Option j5:=fun id=>match id with
 | 7=>some {cut:=[([0,3,4,5], [([5000],[30])])] }
 | _=>none
theorem h9u (s : ByteArray) (xs : List D) (i : Int) (R : X → List V → List Box → Prop) : (E1 (Cn d7i) d7i D5 0 B8 f2w f7t 39 [0, 3, 4] [[5000]] [] [([5000], [36])] [3] [([5000], [5000])]
  [C6 s, V.ref [5000], A3 i] [Box.arr true false 5 1 xs []] R) =
  (bif decide (i < (↑s.size : Int)) then
   ((((0 : Int) ≤ i) ∧ i.toNat < s.size) ∧
   (bif bif bif A9 s i.toNat == 92 then true else A9 s i.toNat == 34 then true else A9 s i.toNat == 10 then
    (bif ((xs.length + 1) * 1).ble 70368744177664 then
     (bif A9 s i.toNat == 10 then
      (bif (((xs ++ [D.lit (Value.int IntKind.u8 92)]).length + 1) * 1).ble 70368744177664 then
       (39 = 39 ∧
       R X.normal [C6 s, V.ref [5000], A3 (IntKind.i64.wrap (i + 1))]
  [Box.arr true false 5 1 (xs ++ [D.lit (Value.int IntKind.u8 92)] ++ [D.lit (Value.int IntKind.u8 110)]) []]) else
       False) else
      (bif (((xs ++ [D.lit (Value.int IntKind.u8 92)]).length + 1) * 1).ble 70368744177664 then
       (39 = 39 ∧
       R X.normal [C6 s, V.ref [5000], A3 (IntKind.i64.wrap (i + 1))]
  [Box.arr true false 5 1 (xs ++ [D.lit (Value.int IntKind.u8 92)] ++ [D.lit (Value.int IntKind.u8 (A9 s i.toNat))])
      []]) else
       False)) else
     False) else
    (bif A9 s i.toNat == 10 then
     (bif ((xs.length + 1) * 1).ble 70368744177664 then
      (39 = 39 ∧
      R X.normal [C6 s, V.ref [5000], A3 (IntKind.i64.wrap (i + 1))]
  [Box.arr true false 5 1 (xs ++ [D.lit (Value.int IntKind.u8 110)]) []]) else
      False) else
     (bif ((xs.length + 1) * 1).ble 70368744177664 then
      (39 = 39 ∧
      R X.normal [C6 s, V.ref [5000], A3 (IntKind.i64.wrap (i + 1))]
  [Box.arr true false 5 1 (xs ++ [D.lit (Value.int IntKind.u8 (A9 s i.toNat))]) []]) else
      False)))) else
   (39 = 39 ∧
   R (X.exit 0) [V.ref [5000]] [Box.arr true false 5 1 xs []])) := by kernel_rfl
noncomputable def c6n (s:ByteArray):List D:=[D.lit (Value.int IntKind.u8 34)]++qL s s.size 0
noncomputable def g4k:Ev.Spec:={L:=[0,3,4],ns:=[([5000],[8])],L':=[3],nm':=[[5000]],G:=fun N vals bs k=>match vals,bs with
 | [.d (.lit (.string s)), .ref [5000], .d (.lit (.int .i64 i))], [.arr true false 5 1 xs []]=>(N=39∧i=0∧xs= [D.lit (Value.int IntKind.u8 34)]∧s.size≤17592186044400)∧k (.exit 0) [.ref [5000]] [.arr true false 5 1 (c6n s) []]
 | _,_=>False }
theorem i5u (s:ByteArray) (p:V→Prop):(B6 (Cn d7i) d7i D5 0 (spL [(6,g4k)]) f2w 109 [C6 s] B3.empty fun v H=>p (B4 H v)) =
 ((39=39∧(((0:Int)=0)∧([D.lit (Value.int IntKind.u8 34)]= [D.lit (Value.int IntKind.u8 34)]∧s.size≤17592186044400)))∧
 (bif (((c6n s).length+1)*1).ble 70368744177664 then
 (c5t (c6n s++ [D.lit (Value.int IntKind.u8 34)])∧
 p (C6 (b3h (c6n s++ [D.lit (Value.int IntKind.u8 34)])))) else
 False)):=by kernel_rfl
noncomputable def h8m:Ct:=⟨fun | [.lit (.string s)]=>s.size≤17592186044400|_=>False,fun | [.lit (.string s)]=>some (.lit (.string (K4 s)))|_=>none⟩
noncomputable def g3h:Tab:=d7i.add 109 h8m
theorem c7q:∀(k n:Nat),n<10 ^ (k+1)→b3j (k+2) n=b3j (k+1) n
 | 0,n,h=>by
  have h:n<10:=by simpa using h
  unfold b3j;rw[decide_eq_true h];rfl
 | k+1,n,h=>by
  have ih:=c7q k (n / 10) (by rw[Nat.pow_succ] at h;omega)
  show (bif decide (n<10) then _ else b3j (k+2) (n / 10)++_)=(bif decide (n<10) then _ else b3j (k+1) (n / 10)++_)
  rw[ih]
theorem f4h (a b:List UInt8):ByteArray.mk (a++b).toArray=ByteArray.mk a.toArray++ByteArray.mk b.toArray:=ByteArray.ext (by simp[ByteArray.data_append])
theorem f8u {m:Nat} (h:m<10):Q3 m=b3h [bD8 (48+m)]:=by
 unfold Q3 b3h
 simp only[Int.toNat_natCast]
 unfold b3j
 rw[decide_eq_true h]
 rfl
theorem f8v {m:Nat} (h:10≤m) (h2:m<9223372036854775808):Q3 m=Q3 (m / 10:Nat)++b3h [bD8 (48+(m % 10:Nat))]:=by
 unfold Q3 b3h
 simp only[Int.toNat_natCast]
 have e:b3j 20 m=b3j 20 (m / 10)++ [UInt8.ofNat (48+m % 10)]:=by
  rw[c7q 18 (m / 10) (by omega)]
  show (bif decide (m<10) then _ else b3j 19 (m / 10)++_)=_
  rw[decide_eq_false (by omega)]
  rfl
 rw[e]
 exact f4h _ _
theorem d6n:∀(k n:Nat),(b3j k n).length≤k
 | 0,n=>by simp[b3j]
 | k+1,n=>by
  have:=d6n k (n / 10)
  unfold b3j
  cases decide (n<10)<;>simp<;>omega
theorem a4f (n:Int):(Q3 n).size≤20:=by
 have:=d6n 20 n.toNat
 exact this
theorem d4b {c:Int} (h:0≤c∧c<256):c5t [bD8 c]:=fun d hd=>by
 simp only[List.mem_cons,List.not_mem_nil,or_false] at hd
 subst hd
 simp[a7q];omega
theorem g8g:C3 B d7g:=by
 refine S4 B9 k18 μN (fn:=Tryz.f165) (cd:=A7 Tryz.f165) (sp:=fun _=>B8) (hn:=B1) Tryz.func165 (by kernel_rfl) (by kernel_rfl) (fun _ _=>A8) fun κ ds r hp hm hr=>?_
 unfold g9k at hp hr
 simp only[] at hr hp
 split at hr
 ·rename_i n
  cases hr
  obtain ⟨h0,h1⟩:=hp
  refine keep (i4q κ n fun v=>v=_) ?_
  obtain ⟨m,rfl⟩:=Int.eq_ofNat_of_zero_le h0
  by_cases h:m<10
  ·have e:IntKind.u8.wrap (IntKind.i64.wrap (48+(m:Int)))=48+m:=by rw[Go.IntWalk.i64_in _ (by omega),Go.IntWalk.u8_in _ (by omega)]
   rw[show decide ((m:Int)<10)=true by simp;omega,e,f8u h]
   exact ⟨d4b (by omega),rfl⟩
  ·have e:IntKind.u8.wrap (IntKind.i64.wrap (48+(m:Int).tmod 10))=48+(m % 10:Nat):=by
    rw[show (m:Int).tmod 10=(m % 10:Nat) by rw[Int.tmod_eq_emod_of_nonneg (by omega)];rfl,Go.IntWalk.i64_in _ (by omega),Go.IntWalk.u8_in _ (by omega)]
   have e2:IntKind.i64.wrap ((m:Int).tdiv 10)=(m / 10:Nat):=by
    rw[show (m:Int).tdiv 10=(m / 10:Nat) by rw[Int.tdiv_eq_ediv_of_nonneg (by omega)];rfl,Go.IntWalk.i64_in _ (by omega)]
   rw[show decide ((m:Int)<10)=false by simp;omega,e,e2,f8v (by omega) (by omega)]
   have hl:=a4f (m / 10:Nat)
   refine ⟨⟨rfl,by decide⟩,⟨⟨by omega,by omega⟩, ?_⟩,⟨rfl,by decide⟩,d4b (by omega), ?_,rfl⟩
   ·rw[←hm];show ((m / 10:Nat):Int).toNat<((m:Nat):Int).toNat;omega
   ·show (Q3 _).size+1≤9223372036854775807;omega
 ·cases hr
theorem e7q {xs:List D} {i:Nat} (h:i<xs.length):xs.drop i=xs.getD i .any::xs.drop (i+1):=by
 rw[List.drop_eq_getElem_cons h,List.getD_eq_getElem?_getD,List.getElem?_eq_getElem h];rfl
theorem b4g:∀{l:List D} {f:Bool} {a:ByteArray},a.size≤(a2j f a l).size
 | [],f,a=>Nat.le_refl _
 | x::r,f,a=>by
  unfold a2j
  refine Nat.le_trans ?_ b4g
  cases f<;>simp only[cond_true,cond_false,U7]<;>omega
theorem h5v:OkS (Cn d7g) 0 (.loop f7w) g4o:=by
 refine D0 fun N vals bs K h=>?_
 simp only[g4o] at h
 split at h
 case h_2=>exact h.elim
 rename_i b xs a i
 obtain ⟨⟨rfl,rfl,rfl,hall,hr,hn⟩,h⟩:=h
 have key:∀(n i:Nat) (a:ByteArray),i+n=xs.length→(a2j (i==0) a (xs.drop i)).size≤9223372036854775806→K (.exit 0) [C6 (a2j (i==0) a (xs.drop i))] []→
   J2 (Cn d7g) 0 f7w 23 [0,3,4] [] [3] [] [.d (.slice b 1 xs),C6 a,A3 i] [] K:=by
  intro n
  induction n with
  | zero =>
   intro i a hi hs h
   refine B5 (D3 B9 g8g C2) C0 A8 (hn:=B1) (adsI:=[]) (nsI:=[]) (nsX:=[]) rfl rfl (keep (h9x xs b a i _) ?_)
   rw[show decide ((i:Int)<(xs.length:Int))=false by simp;omega]
   rw[List.drop_of_length_le (by omega)] at h
   exact ⟨(by trivial),h⟩
  | succ n ih =>
   intro i a hi hs h
   refine B5 (D3 B9 g8g C2) C0 A8 (hn:=B1) (adsI:=[]) (nsI:=[]) (nsX:=[]) rfl rfl (keep (h9x xs b a i _) ?_)
   rw[e7q (by omega)] at h hs
   unfold a2j at h hs
   have e2:IntKind.i64.wrap ((i:Int)+1)=((i+1:Nat):Int):=by rw[Go.IntWalk.i64_in _ (by omega)];omega
   have hv:=hall _ (D8 (xs:=xs) (i:=i) (by omega))
   have hlt:i<xs.length:=by omega
   simp only[show decide ((i:Int)<(xs.length:Int))=true by simp;omega,cond_true,Int.toNat_natCast,e2]
   have hz:=b4g (l:=xs.drop (i+1)) (f:=false) (a:=bif i==0 then a++A4 (xs.getD i .any) else a++ByteArray.mk (Array.mk [32])++A4 (xs.getD i .any))
   have hnext:=ih (i+1) (bif i==0 then a++A4 (xs.getD i .any) else a++ByteArray.mk (Array.mk [32])++A4 (xs.getD i .any)) (by omega) hs h
   cases hi0:i==0 with
   | true =>
    have:i=0:=by simpa using hi0
    rw[hi0] at hz hnext hs
    simp only[cond_true,U7] at hz hnext hs
    rw[show decide ((i:Int)>0)=false by simp;omega]
    exact ⟨⟨by omega,hlt,hv⟩,by omega,(by trivial),hnext⟩
   | false =>
    have:i≠0:=by simpa using hi0
    rw[hi0] at hz hnext hs
    simp only[cond_false,U7] at hz hnext hs
    have h1:(bA [32]).size=1:=rfl
    rw[show decide ((i:Int)>0)=true by simp;omega]
    refine ⟨by omega,⟨by omega,hlt,hv⟩, ?_,(by trivial),hnext⟩
    rw[U7];omega
 exact key xs.length 0 _ (by omega) hr h
theorem g8i:C3 B d7i:=by
 refine C4 B9 g8g (fn:=Tryz.f104) (cd:=A7 Tryz.f104) (sp:=spL [(6,g4o)]) (hn:=B1) Tryz.func104 (by kernel_rfl) (by kernel_rfl) (B7 (c:=.loop f7w) (by kernel_rfl) h5v C8) fun ds r hp hr=>?_
 unfold h8r at hp hr
 simp only[] at hr hp
 split at hr
 ·rename_i b z xs
  cases hr
  obtain ⟨rfl,hall,hs,hn⟩:=hp
  refine keep (i5z xs b fun v=>v=_) ?_
  exact ⟨⟨(by trivial),(by trivial),rfl,hall,hs,hn⟩,by omega,rfl⟩
 ·cases hr
theorem h5s:OkS (Cn d7i) 0 (.loop f7t) g4k:=by
 refine D0 fun N vals bs K h=>?_
 simp only[g4k] at h
 split at h
 case h_2=>exact h.elim
 rename_i s i xs
 obtain ⟨⟨rfl,rfl,rfl,hr⟩,h⟩:=h
 have key:∀(n i:Nat) (xs:List D),i+n=s.size→xs.length+2*n≤70368744177600→K (.exit 0) [.ref [5000]] [.arr true false 5 1 (xs++qL s n i) []]→
   J2 (Cn d7i) 0 f7t 39 [0,3,4] [[5000]] [3] [[5000]] [C6 s, .ref [5000],A3 i] [.arr true false 5 1 xs []] K:=by
  intro n
  induction n with
  | zero =>
   intro i xs hi hx h
   refine B5 (D3 B9 g8i C2) C0 A8 (hn:=f2w) (adsI:=[]) (nsI:=[([5000],[36])]) (nsX:=[([5000],[5000])]) rfl rfl (keep (h9u s xs i _) ?_)
   rw[show decide ((i:Int)<(s.size:Int))=false by simp;omega]
   simp only[qL,List.append_nil] at h
   exact ⟨(by trivial),h⟩
  | succ n ih =>
   intro i xs hi hx h
   refine B5 (D3 B9 g8i C2) C0 A8 (hn:=f2w) (adsI:=[]) (nsI:=[([5000],[36])]) (nsX:=[([5000],[5000])]) rfl rfl (keep (h9u s xs i _) ?_)
   have e2:IntKind.i64.wrap ((i:Int)+1)=((i+1:Nat):Int):=by rw[Go.IntWalk.i64_in _ (by omega)];omega
   have p1:((xs.length+1)*1).ble 70368744177664=true:=by rw[Nat.ble_eq];omega
   have p2:(((xs++ [D.lit (Value.int IntKind.u8 92)]).length+1)*1).ble 70368744177664=true:=by rw[Nat.ble_eq];simp;omega
   unfold qL qB at h
   simp only[show decide ((i:Int)<(s.size:Int))=true by simp;omega,Int.toNat_natCast,e2,cond_true,p1,p2]
   refine ⟨⟨by omega,by omega⟩, ?_⟩
   cases g1:(bif A9 s i==92 then true else A9 s i==34) with
   | true =>
    rw[g1] at h
    simp only[cond_true] at h ⊢
    have g2:(A9 s i==10)=false:=by
     cases g3:A9 s i==10 with
     | false=>rfl
     | true =>
      have:A9 s i=10:=by simpa using g3
      rw[this] at g1
      exact absurd g1 (by decide)
    rw[g2]
    refine ⟨(by trivial),ih (i+1) _ (by omega) (by simp;omega) ?_⟩
    simpa [List.append_assoc] using h
   | false =>
    rw[g1] at h
    simp only[cond_false] at h ⊢
    refine A5 (fun g=>?_) (fun g=>?_)
    ·rw[g] at h ⊢
     simp only[cond_true] at h ⊢
     refine ⟨(by trivial),ih (i+1) _ (by omega) (by simp;omega) ?_⟩
     simpa [List.append_assoc] using h
    ·rw[g] at h ⊢
     simp only[cond_false] at h ⊢
     refine ⟨(by trivial),ih (i+1) _ (by omega) (by simp;omega) ?_⟩
     simpa [List.append_assoc] using h
 exact key s.size 0 _ (by omega) (by simp;omega) h
theorem i9h:C3 B g3h:=by
 refine C4 B9 g8i (fn:=Tryz.f109) (cd:=A7 Tryz.f109) (sp:=spL [(6,g4k)]) (hn:=f2w) Tryz.func109 (by kernel_rfl) (by kernel_rfl) (B7 (c:=.loop f7t) (by kernel_rfl) h5s C8) fun ds r hp hr=>?_
 unfold h8m at hp hr
 simp only[] at hr hp
 split at hr
 ·rename_i s
  cases hr
  have hp:s.size≤17592186044400:=hp
  refine keep (i5u s fun v=>v=_) ?_
  have hl:=c8n (s:=s) (n:=s.size) (i:=0)
  have p1:(((c6n s).length+1)*1).ble 70368744177664=true:=by rw[Nat.ble_eq];unfold c6n;simp only[List.length_append,List.length_cons,List.length_nil];omega
  rw[p1]
  exact ⟨⟨(by trivial),(by trivial),rfl,hp⟩,c6m s,rfl⟩
 ·cases hr
abbrev lst (b:Bool) (e:Nat) (ys:List D):V:=.d (.slice b e ys)
def E4:Bool→Bool→List D→List D→Bool×List D
 | _,nl,xs, []=>(nl,xs)
 | fi,nl,xs,y::ys=>E4 false (J6 fi nl (A4 y)) (D2 fi xs (A4 y)) ys
def L1:List D→Nat
 | []=>0
 | y::ys=>(A4 y).size+1+L1 ys
def j2e (y:D):Prop:=.lit (.string (A4 y))=y
def b4u (ys:List D):Prop:=∀z∈ys,j2e z
abbrev a5y (fi nl:Bool) (xs its:List D):Box:=buf (E4 fi nl xs its).1 (E4 fi nl xs its).2
def fiA (fi:Bool) (its:List D):Bool:=fi&&its.isEmpty
noncomputable def g8a:Code:=D7 (C5 (A7 Tryz.f163) 2)
abbrev wI:List (B2×B2):=[([0,0],[0,0]),([5000],[0,1])]
abbrev wJ (n:B2):List (B2×B2):=[([0,0],[0,0]),([5000],n),([0,1],[0,1])]
abbrev wX:List (B2×B2):=wJ [5000]
abbrev e8i:List (B2×B2):=wJ [16,2]
theorem h9q (t:D) (fi:Bool) (nl:Bool) (b:Bool) (xs:List D) (ys:List D) (n:Int) (i:Int) (R:X→List V→List Box→Prop):(E1 (Cn b2i) b2i (H7 U94) 2 B8 B1 g8a 16 [0,6,7,8] [[0,0], [5000], [0,1]] [] e8i [] wX
 [V.ptr [0,0] 0,lst b 1 ys,A3 n,A3 i] [wB [5000] t fi,buf nl xs,Box.junk] R) =
 (bif decide (i<n) then
 ((((0:Int)≤i)∧(i.toNat<ys.length∧zD (A4 (ys.getD i.toNat D.any))=ys.getD i.toNat D.any))∧
 (s86.pre [V.ptr [0,0] 0,C6 (A4 (ys.getD i.toNat D.any))]
 [Box.cells 75 [V.opt [0,0] 0,V.ref [0,1],V.d t,A6 fi],Box.arr true nl 5 1 xs []]∧
 (16=16∧
 R X.normal
 [V.ptr [0,0] 0,V.d (D.slice b 1 ys),A3 n,
 A3 (IntKind.i64.wrap (i+1))]
 [Box.cells 75 [V.opt [0,0] 0,V.ref [5000],V.d t,A6 false],
 Box.arr true (J6 fi nl (A4 (ys.getD i.toNat D.any))) 5 1 (D2 fi xs (A4 (ys.getD i.toNat D.any))) [],
 Box.junk]))) else
 (16=16∧
 R (X.exit 0) []
 [Box.cells 75 [V.opt [0,0] 0,V.ref [5000],V.d t,A6 fi],Box.arr true nl 5 1 xs [],Box.junk])):=by kernel_rfl
noncomputable def g4g:Ev.Spec:={L:=[0,6,7,8],ns:=wI,L':=[],nm':=S9 wI,G:=fun N vals bs k=>match vals,bs with
 | [.ptr [0,0] 0, .d (.slice b 1 ys), .d (.lit (.int .i64 n)), .d (.lit (.int .i64 i))], [.cells 75 [.opt [0,0] 0, .ref [5000], .d t, .d (.lit (.bool fi))], .arr true nl 5 1 xs [], .junk]=>(N=16∧i=0∧n=ys.length∧b4u ys∧P2 (xs.length+L1 ys))∧k (.exit 0) [] [wB [5000] t (fiA fi ys),a5y fi nl xs ys, .junk]
 | _,_=>False }
abbrev eW1:List (List (B2×B2)):=[[([0,0],[0,0]),([0,1],[0,1]),([2],[5000])]]
theorem i4s (t:D) (fi:Bool) (nl:Bool) (b:Bool) (xs:List D) (ys:List D) (R:V→List Box→Prop):(F3 (Cn b2i) b2i (H7 U94) 2 (spL [(2,g4g)]) B1 adW eW1 163 [V.ptr [0,0] 0,lst b 1 ys]
 (H6 [wB [0,1] t fi,buf nl xs]) R) =
 ((16=16∧(((0:Int)=0)∧((((↑ys.length:Int):Int)=(↑ys.length:Int))∧(b4u ys∧P2 (xs.length+L1 ys)))))∧
 R (V.d (D.tup []))
 [Box.cells 75 [V.opt [0,0] 0,V.ref [2],V.d t,A6 (fiA fi ys)],Box.junk,
 Box.arr true (E4 fi nl xs ys).fst 5 1 (E4 fi nl xs ys).snd []]):=by kernel_rfl
def e5p:Sm:=⟨fun vals bs=>match vals,bs with | [_, .d (.slice _ _ ys)], [_, .arr _ _ _ _ xs _]=>b4u ys∧P2 (xs.length+L1 ys)|_,_=>False,fun vals bs=>match vals,bs with
 | [.ptr [0,0] 0, .d (.slice _ 1 ys)], [.cells 75 [.opt [0,0] 0, .ref [0,1], .d t, .d (.lit (.bool fi))], .arr true nl 5 1 xs []]=>one (.d (.tup [])) [wB [2] t (fiA fi ys), .junk] [buf (E4 fi nl xs ys).1 (E4 fi nl xs ys).2]
 | _,_=>none⟩
def h2c:L4:=U94.add 163 e5p
theorem S8 (fi:Bool) (xs:List D) (s:ByteArray):(D2 fi xs s).length≤xs.length+1+s.size:=by
 have h:=v7 s
 cases fi<;>simp[D2,h]<;>omega
theorem d2d {α:Type} {ys rest:List α} {y d:α} {i:Nat} (h:ys.drop i=y::rest):i<ys.length∧ys.getD i d=y∧ys.drop (i+1)=rest:=by
 have h1:i<ys.length:=by
  have:=congrArg List.length h
  simp at this;omega
 have h2:=List.drop_eq_getElem_cons h1
 rw[h2] at h
 injection h with h3 h4
 exact ⟨h1,by rw[←h3];simp[List.getD,List.getElem?_eq_getElem h1],h4⟩
theorem f5d (ys:List D):ys.length≤L1 ys:=by
 induction ys with
 | nil=>simp[L1]
 | cons y ys ih=>simp only[L1,List.length_cons];omega
theorem b4w (l m:List D):L1 (l++m)=L1 l+L1 m:=by
 induction l with
 | nil=>simp[L1]
 | cons y l ih=>simp only[List.cons_append,L1,ih];omega
theorem a5o:∀(l m:List D) (fi nl:Bool) (xs:List D),E4 fi nl xs (l++m)=E4 (fiA fi l) (E4 fi nl xs l).1 (E4 fi nl xs l).2 m
 | [],m,fi,nl,xs=>by simp[E4,fiA]
 | y::l,m,fi,nl,xs=>by
  simp only[List.cons_append,E4]
  rw[a5o l m]
  simp[fiA]
theorem u3:∀(l:List D) (fi nl:Bool) (xs:List D),(E4 fi nl xs l).2.length≤xs.length+L1 l
 | [],_,_,_=>by simp[E4,L1]
 | y::l,fi,nl,xs=>by
  have:=u3 l false (J6 fi nl (A4 y)) (D2 fi xs (A4 y))
  have:=S8 fi xs (A4 y)
  simp only[E4,L1];omega
theorem e2n {C:Cx} {k:Nat} {l:Code} {N e:Nat} {L L':List Nat} {nm nm':List B2} {vals:Int→List V} {valsX:List V} {bsO:Bool→Box→List Box} {K:X→List V→List Box→Prop} (ys:List D) (g:D→D) (c:Nat)
  (hs:∀(i:Nat) fi nl xs,i<ys.length→P2 (xs.length+1+(A4 (g (ys.getD i .any))).size+c)→J2 C k l N L nm L' nm' (vals ((i+1:Nat):Int)) (bsO false (buf (J6 fi nl (A4 (g (ys.getD i .any)))) (D2 fi xs (A4 (g (ys.getD i .any)))))) K→J2 C k l N L nm L' nm' (vals i) (bsO fi (buf nl xs)) K)
  (he:∀fi nl xs,K (.exit e) valsX (bsO fi (buf nl xs))→J2 C k l N L nm L' nm' (vals ys.length) (bsO fi (buf nl xs)) K) :
  ∀(rest:List D) (i:Nat) fi nl xs,ys.drop i=rest→i+rest.length=ys.length→P2 (xs.length+L1 (rest.map g)+c)→K (.exit e) valsX (bsO (fiA fi rest) (a5y fi nl xs (rest.map g)))→J2 C k l N L nm L' nm' (vals i) (bsO fi (buf nl xs)) K:=by
 intro rest
 induction rest with
 | nil =>
  intro i fi nl xs hd hi hr hk
  simp only[List.length_nil,Nat.add_zero] at hi
  subst hi
  refine he fi nl xs ?_
  simpa [fiA,a5y,E4] using hk
 | cons y rest ih =>
  intro i fi nl xs hd hi hr hk
  obtain ⟨g1,g2,g3⟩:=d2d (d:=D.any) hd
  simp only[List.map_cons,L1] at hr
  have hp:=S8 fi xs (A4 (g y))
  have hr:xs.length+((A4 (g y)).size+1+L1 (rest.map g))+c≤70368744177664:=hr
  simp only[List.length_cons] at hi
  refine hs i fi nl xs g1 (by rw[g2];show _≤_;omega) ?_
  rw[g2]
  refine ih (i+1) false _ _ g3 (by omega) (by show _≤_;omega) ?_
  simpa [fiA,a5y,E4] using hk
theorem h5n:OkS (Cn b2i) 2 (.loop g8a) g4g:=by
 refine D0 fun N vals bs K h=>?_
 simp only[g4g] at h
 split at h
 case h_2=>exact h.elim
 rename_i b ys n i t fi nl xs
 obtain ⟨⟨rfl,rfl,rfl,hall,hr⟩,h⟩:=h
 have hr:xs.length+L1 ys≤70368744177664:=hr
 have hw:=f5d ys
 refine e2n (vals:=fun i=>[.ptr [0,0] 0,lst b 1 ys,A3 ys.length,A3 i]) (bsO:=fun fi r=>[wB [5000] t fi,r, .junk]) (e:=0) (valsX:=[]) ys id 0 ?_ ?_ ys 0 fi nl xs rfl (by simp) (by simpa using (show P2 (xs.length+L1 ys) from hr)) (by simpa using h)
 ·intro i fi nl xs hi hr hK
  refine B5 (L8 B9 d4w q94) C0 A8 (hn:=B1) (adsI:=[]) (nsI:=e8i) (nsX:=wX) rfl rfl (keep (h9q t fi nl b xs ys ys.length i _) ?_)
  have e1:decide ((i:Int)<ys.length)=true:=by simp;omega
  have e2:IntKind.i64.wrap ((i:Int)+1)=((i+1:Nat):Int):=by rw[Go.IntWalk.i64_in _ (by omega)];omega
  simp only[e1,Int.toNat_natCast,e2,cond_true]
  exact ⟨⟨by omega,hi,hall _ (D8 hi)⟩,hr,(by trivial),hK⟩
 ·intro fi nl xs hK
  refine B5 (L8 B9 d4w q94) C0 A8 (hn:=B1) (adsI:=[]) (nsI:=e8i) (nsX:=wX) rfl rfl (keep (h9q t fi nl b xs ys ys.length ys.length _) ?_)
  have e1:decide ((ys.length:Int)<ys.length)=false:=by simp
  rw[e1]
  exact ⟨(by trivial),hK⟩
theorem h4q:H9 B h2c:=by
 refine P9 q94 fun vals bs c x y hp hf=>?_
 unfold e5p at hp hf
 simp only[] at hp hf
 split at hf
 case h_2=>cases hf
 rename_i b ys t fi nl xs
 simp only[one,Option.some.injEq,Prod.mk.injEq] at hf
 obtain ⟨rfl,rfl,rfl⟩:=hf
 refine F6 B9 d4w q94 (fn:=Tryz.f163) (cd:=A7 Tryz.f163) (sp:=spL [(2,g4g)]) (hn:=B1) (k:=2) (ads:=adW) (ends:=eW1) Tryz.func163 (by kernel_rfl) (by kernel_rfl) (by kernel_rfl) (by kernel_rfl) (B7 (c:=.loop g8a) (by kernel_rfl) h5n C8) rfl rfl (keep (i4s t fi nl b xs ys _) ?_)
 exact ⟨⟨rfl,rfl,rfl,hp⟩,rfl,rfl⟩
theorem i6c (n:Int) (d:Int) (p:V→Prop):(B6 (Cn g3h) g3h D5 0 B8 B1 101 [V.d (rV n d)] B3.empty fun v H=>p (B4 H v)) =
 (True∧
 (bif X0 n d !=0 then
 p (C6 (bA [])) else
 ((((-4611686018427387904:Int)≤n)∧((n:Int)≤4611686018427387904))∧
 ((((0:Int)≤(↑n.natAbs:Int))∧(((↑n.natAbs:Int):Int)<9223372036854775808))∧
 (bif decide (n<0) then
 (1+(Q3 (↑n.natAbs:Int)).size≤9223372036854775807∧
 (bif decide (d>1) then
 ((bA [45]++Q3 (↑n.natAbs:Int)).size+1≤9223372036854775807∧
 ((((0:Int)≤d)∧((d:Int)<9223372036854775808))∧
 ((bA [45]++Q3 (↑n.natAbs:Int)++bA [47]).size+(Q3 d).size≤
 9223372036854775807∧
 p
 (C6 (bA [45]++Q3 (↑n.natAbs:Int)++bA [47]++Q3 d))))) else
 p (C6 (bA [45]++Q3 (↑n.natAbs:Int))))) else
 (bif decide (d>1) then
 ((Q3 (↑n.natAbs:Int)).size+1≤9223372036854775807∧
 ((((0:Int)≤d)∧((d:Int)<9223372036854775808))∧
 ((Q3 (↑n.natAbs:Int)++bA [47]).size+(Q3 d).size≤9223372036854775807∧
 p (C6 (Q3 (↑n.natAbs:Int)++bA [47]++Q3 d))))) else
 p (C6 (Q3 (↑n.natAbs:Int))))))))):=by kernel_rfl
noncomputable def b8y (n d:Int):ByteArray:=bif X0 n d !=0 then ByteArray.mk (Array.mk []) else bif decide (n<0) then (bif decide (d>1) then ByteArray.mk (Array.mk [45])++Q3 (n.natAbs:Nat)++ByteArray.mk (Array.mk [47])++Q3 d else ByteArray.mk (Array.mk [45])++Q3 (n.natAbs:Nat)) else (bif decide (d>1) then Q3 (n.natAbs:Nat)++ByteArray.mk (Array.mk [47])++Q3 d else Q3 (n.natAbs:Nat))
noncomputable def h8s:Ct:=⟨fun _=>True,fun | [.agg [.lit (.int .i64 n), .lit (.int .i64 d)]]=>some (.lit (.string (b8y n d)))|_=>none⟩
noncomputable def g3m:Tab:=g3h.add 101 h8s
theorem i5w (n:Int) (p:V→Prop):(B6 (Cn g3m) g3m D5 0 B8 B1 107 [A3 n] B3.empty fun v H=>p (B4 H v)) =
 (True∧
 p (C6 (b8y n 1))):=by kernel_rfl
noncomputable def h8o:Ct:=⟨fun | [.lit (.int .i64 n)]=>0≤n∧n≤1152921504606846976|_=>False,fun | [.lit (.int .i64 n)]=>some (.lit (.string (Q3 n)))|_=>none⟩
noncomputable def g3i:Tab:=g3m.add 107 h8o
def cLr (l:List D):Ct:=⟨fun _=>True,fun | []=>some (.slice false 1 l)|_=>none⟩
noncomputable def opR:List D:=([[], [61], [33,61], [61,126], [33,126], [60], [62]]:List (List UInt8)).map sB
noncomputable def J5:List D:=([[], [99,111,110,116,97,105,110,115], [110,111,116,99,111,110,116,97,105,110,115], [114,101,103,101,120], [112,97,114,115,101], [102,105,101,108,100], [107,101,101,112], [100,114,111,112], [108,97,98,101,108]]:List (List UInt8)).map sB
noncomputable def u5:List D:=([[], [115,112,97,110], [99,104,105,108,100], [100,101,115,99,101,110,100,97,110,116], [115,105,98,108,105,110,103], [102,111,108,108,111,119,115], [108,105,110,107,101,100], [97,110,100], [111,114], [110,111,116]]:List (List UInt8)).map sB
noncomputable def a6t:List D:=([[111,110,101], [109,97,110,121,116,111,111,110,101], [111,110,101,116,111,109,97,110,121]]:List (List UInt8)).map sB
noncomputable def U5:List D:=([[], [110,117,109,98,101,114], [119,105,110,100,111,119], [108,111,103,99,111,117,110,116], [116,114,97,99,101,99,111,117,110,116], [102,108,97,109,101,119,101,105,103,104,116], [97,103,103,114,101,103,97,116,101], [98,105,110,97,114,121], [108,111,103,115], [116,114,97,99,101,115], [102,108,97,109,101], [101,120,101,109,112,108,97,114,116,114,97,99,101,115], [108,111,103,115,111,102], [118,105,101,119]]:List (List UInt8)).map sB
noncomputable def g2m:Tab:=g3i.add 168 (cLr opR)
noncomputable def g2k:Tab:=g2m.add 169 (cLr J5)
noncomputable def g2n:Tab:=g2k.add 167 (cLr u5)
noncomputable def g3k:Tab:=g2n.add 102 (cLr a6t)
noncomputable def T99:Tab:=g3k.add 99 (cLr U5)
def MTx (y:D):Prop:=w3 y∧1≤A1 (A0 y 0)∧(A1 (A0 y 0)).toNat<opR.length∧(A4 (A0 y 1)).size≤4096∧(A4 (A0 y 2)).size≤4096
def b2m (xs:List D):Prop:=xs.length≤128∧∀y∈xs,MTx y
noncomputable def f7v:Code:=D7 (C5 (A7 Tryz.f105) 6)
theorem h9w (xs:List D) (ts:List D) (b:Bool) (i:Int) (R:X→List V→List Box→Prop):(E1 (Cn T99) T99 D5 0 B8 B1 f7v 37 [0,3,4] [[5000]] [] [([5000], [37])] [3] [([5000], [5000])]
 [V.d (D.slice b 3 xs),V.ref [5000],A3 i] [Box.arr true false 9 1 ts []] R) =
 (bif decide (i<(↑xs.length:Int)) then
 (True∧
 ((((0:Int)≤i)∧(i.toNat<xs.length∧mV (xs.getD i.toNat D.any)=xs.getD i.toNat D.any))∧
 ((((0:Int)≤A1 (A0 (xs.getD i.toNat D.any) 0))∧((A1 (A0 (xs.getD i.toNat D.any) 0)).toNat<opR.length∧zD (A4 (opR.getD (A1 (A0 (xs.getD i.toNat D.any) 0)).toNat D.any)) =
 opR.getD (A1 (A0 (xs.getD i.toNat D.any) 0)).toNat D.any))∧
 ((((0:Int)≤i)∧(i.toNat<xs.length∧mV (xs.getD i.toNat D.any)=xs.getD i.toNat D.any))∧
 ((((0:Int)≤i)∧(i.toNat<xs.length∧mV (xs.getD i.toNat D.any)=xs.getD i.toNat D.any))∧
 ((A4 (A0 (xs.getD i.toNat D.any) 2)).size.le 17592186044400∧
 ((1=1∧(f7
 [zD (A4 (opR.getD (A1 (A0 (xs.getD i.toNat D.any) 0)).toNat D.any)),
 zD (A4 (A0 (xs.getD i.toNat D.any) 1)),
 zD (K4 (A4 (A0 (xs.getD i.toNat D.any) 2)))]∧((R9
 [zD (A4 (opR.getD (A1 (A0 (xs.getD i.toNat D.any) 0)).toNat D.any)),
 zD (A4 (A0 (xs.getD i.toNat D.any) 1)),
 zD (K4 (A4 (A0 (xs.getD i.toNat D.any) 2)))]).size≤
 9223372036854775806∧3≤1152921504606846976)))∧
 (bif ((ts.length+1)*16).ble 70368744177664 then
 (37=37∧
 R X.normal [V.d (D.slice b 3 xs),V.ref [5000],A3 (IntKind.i64.wrap (i+1))]
 [Box.arr true false 9 1
 (ts ++
 [zD (G2
 [zD (A4 (opR.getD (A1 (A0 (xs.getD i.toNat D.any) 0)).toNat D.any)),
 zD (A4 (A0 (xs.getD i.toNat D.any) 1)),
 zD (K4 (A4 (A0 (xs.getD i.toNat D.any) 2)))])])
 []]) else
 False)))))))) else
 (37=37∧
 R (X.exit 0) [V.ref [5000]] [Box.arr true false 9 1 ts []])):=by kernel_rfl
def wdD (l:List D) (k:Int):D:=.lit (.string (A4 (l.getD k.toNat .any)))
def sDD (y:D) (i:Nat):D:=.lit (.string (A4 (A0 y i)))
noncomputable def qDD (y:D) (i:Nat):D:=.lit (.string (K4 (A4 (A0 y i))))
noncomputable def M7 (y:D):D:=.lit (.string (G2 [wdD opR (A1 (A0 y 0)),sDD y 1,qDD y 2]))
noncomputable def g4n:Ev.Spec:={L:=[0,3,4],ns:=[([5000],[7])],L':=[3],nm':=[[5000]],G:=fun N vals bs k=>match vals,bs with
 | [.d (.slice b 3 xs), .ref [5000], .d (.lit (.int .i64 i))], [.arr true false 9 1 ts []]=>(N=37∧i=0∧ts= []∧b2m xs)∧k (.exit 0) [.ref [5000]] [.arr true false 9 1 (xs.map M7) []]
 | _,_=>False }
theorem i5y (xs:List D) (b:Bool) (p:V→Prop):(B6 (Cn T99) T99 D5 0 (spL [(6,g4n)]) B1 105 [V.d (D.slice b 3 xs)] B3.empty fun v H=>p (B4 H v)) =
 ((37=37∧(((0:Int)=0)∧(([]:List D)= []∧b2m xs)))∧
 p (V.d (D.slice false 1 (List.map M7 xs)))):=by kernel_rfl
noncomputable def h8q:Ct:=⟨fun | [.slice _ z xs]=>z=3∧b2m xs|_=>False,fun | [.slice _ _ xs]=>some (.slice false 1 (xs.map M7))|_=>none⟩
noncomputable def d7h:Tab:=T99.add 105 h8q
def d7n (xs:List D):Prop:=xs.length≤128∧∀y∈xs,a3a y∧(A4 y).size≤4096
def STx (y:D):Prop:=a2a y∧1≤A1 (A0 y 0)∧(A1 (A0 y 0)).toNat<J5.length∧(A4 (A0 y 1)).size≤4096∧b2m (A2 (A0 y 2))∧d7n (A2 (A0 y 3))
def b9d (xs:List D):Prop:=xs.length≤128∧∀y∈xs,STx y
noncomputable def f7u:Code:=D7 (C5 (A7 Tryz.f106) 6)
theorem h9v (xs:List D) (ts:List D) (b:Bool) (i:Int) (R:X→List V→List Box→Prop):(E1 (Cn d7h) d7h D5 0 B8 B1 f7u 58 [0,3,4] [[5000]] [] [([5000], [57])] [3] [([5000], [5000])]
 [V.d (D.slice b 4 xs),V.ref [5000],A3 i] [Box.arr true false 9 1 ts []] R) =
 (bif decide (i<(↑xs.length:Int)) then
 (True∧
 ((((0:Int)≤i)∧(i.toNat<xs.length∧gV (xs.getD i.toNat D.any)=xs.getD i.toNat D.any))∧
 ((((0:Int)≤A1 (A0 (xs.getD i.toNat D.any) 0))∧((A1 (A0 (xs.getD i.toNat D.any) 0)).toNat<J5.length∧zD (A4 (J5.getD (A1 (A0 (xs.getD i.toNat D.any) 0)).toNat D.any)) =
 J5.getD (A1 (A0 (xs.getD i.toNat D.any) 0)).toNat D.any))∧
 ((((0:Int)≤i)∧(i.toNat<xs.length∧gV (xs.getD i.toNat D.any)=xs.getD i.toNat D.any))∧
 (bif decide (A1 (A0 (xs.getD i.toNat D.any) 0)≤3) then
 ((((0:Int)≤i)∧(i.toNat<xs.length∧gV (xs.getD i.toNat D.any)=xs.getD i.toNat D.any))∧
 ((A4 (A0 (xs.getD i.toNat D.any) 1)).size.le 17592186044400∧
 ((((0:Int)≤i)∧(i.toNat<xs.length∧gV (xs.getD i.toNat D.any)=xs.getD i.toNat D.any))∧
 ((3=3∧b2m (A2 (A0 (xs.getD i.toNat D.any) 2)))∧
 (bif ((2+((List.map M7 (A2 (A0 (xs.getD i.toNat D.any) 2))).length+0))*16).ble 70368744177664 then
 ((((0:Int)≤i)∧(i.toNat<xs.length∧gV (xs.getD i.toNat D.any)=xs.getD i.toNat D.any))∧
 (bif ((([zD (A4 (J5.getD (A1 (A0 (xs.getD i.toNat D.any) 0)).toNat D.any)),
 zD (K4 (A4 (A0 (xs.getD i.toNat D.any) 1)))] ++
 List.map M7 (A2 (A0 (xs.getD i.toNat D.any) 2))).length +
 ((A2 (A0 (xs.getD i.toNat D.any) 3)).length+0)) *
 16).ble
 70368744177664 then
 ((1=1∧(f7
 ([zD (A4 (J5.getD (A1 (A0 (xs.getD i.toNat D.any) 0)).toNat D.any)),
 zD (K4 (A4 (A0 (xs.getD i.toNat D.any) 1)))] ++
 List.map M7 (A2 (A0 (xs.getD i.toNat D.any) 2)) ++
 A2 (A0 (xs.getD i.toNat D.any) 3))∧((R9
 ([zD (A4 (J5.getD (A1 (A0 (xs.getD i.toNat D.any) 0)).toNat D.any)),
 zD (K4 (A4 (A0 (xs.getD i.toNat D.any) 1)))] ++
 List.map M7 (A2 (A0 (xs.getD i.toNat D.any) 2)) ++
 A2 (A0 (xs.getD i.toNat D.any) 3))).size≤
 9223372036854775806∧([zD (A4 (J5.getD (A1 (A0 (xs.getD i.toNat D.any) 0)).toNat D.any)),
 zD (K4 (A4 (A0 (xs.getD i.toNat D.any) 1)))] ++
 List.map M7 (A2 (A0 (xs.getD i.toNat D.any) 2)) ++
 A2 (A0 (xs.getD i.toNat D.any) 3)).length≤
 1152921504606846976)))∧
 (bif ((ts.length+1)*16).ble 70368744177664 then
 (58=58∧
 R X.normal [V.d (D.slice b 4 xs),V.ref [5000],A3 (IntKind.i64.wrap (i+1))]
 [Box.arr true false 9 1
 (ts ++
 [zD (G2
 ([zD (A4 (J5.getD (A1 (A0 (xs.getD i.toNat D.any) 0)).toNat D.any)),
 zD (K4 (A4 (A0 (xs.getD i.toNat D.any) 1)))] ++
 List.map M7 (A2 (A0 (xs.getD i.toNat D.any) 2)) ++
 A2 (A0 (xs.getD i.toNat D.any) 3)))])
 []]) else
 False)) else
 False)) else
 False))))) else
 ((((0:Int)≤i)∧(i.toNat<xs.length∧gV (xs.getD i.toNat D.any)=xs.getD i.toNat D.any))∧
 ((3=3∧b2m (A2 (A0 (xs.getD i.toNat D.any) 2)))∧
 (bif ((1+((List.map M7 (A2 (A0 (xs.getD i.toNat D.any) 2))).length+0))*16).ble 70368744177664 then
 ((((0:Int)≤i)∧(i.toNat<xs.length∧gV (xs.getD i.toNat D.any)=xs.getD i.toNat D.any))∧
 (bif ((([zD (A4 (J5.getD (A1 (A0 (xs.getD i.toNat D.any) 0)).toNat D.any))] ++
 List.map M7 (A2 (A0 (xs.getD i.toNat D.any) 2))).length +
 ((A2 (A0 (xs.getD i.toNat D.any) 3)).length+0)) *
 16).ble
 70368744177664 then
 ((1=1∧(f7
 ([zD (A4 (J5.getD (A1 (A0 (xs.getD i.toNat D.any) 0)).toNat D.any))] ++
 List.map M7 (A2 (A0 (xs.getD i.toNat D.any) 2)) ++
 A2 (A0 (xs.getD i.toNat D.any) 3))∧((R9
 ([zD (A4 (J5.getD (A1 (A0 (xs.getD i.toNat D.any) 0)).toNat D.any))] ++
 List.map M7 (A2 (A0 (xs.getD i.toNat D.any) 2)) ++
 A2 (A0 (xs.getD i.toNat D.any) 3))).size≤
 9223372036854775806∧([zD (A4 (J5.getD (A1 (A0 (xs.getD i.toNat D.any) 0)).toNat D.any))] ++
 List.map M7 (A2 (A0 (xs.getD i.toNat D.any) 2)) ++
 A2 (A0 (xs.getD i.toNat D.any) 3)).length≤
 1152921504606846976)))∧
 (bif ((ts.length+1)*16).ble 70368744177664 then
 (58=58∧
 R X.normal [V.d (D.slice b 4 xs),V.ref [5000],A3 (IntKind.i64.wrap (i+1))]
 [Box.arr true false 9 1
 (ts ++
 [zD (G2
 ([zD (A4 (J5.getD (A1 (A0 (xs.getD i.toNat D.any) 0)).toNat D.any))] ++
 List.map M7 (A2 (A0 (xs.getD i.toNat D.any) 2)) ++
 A2 (A0 (xs.getD i.toNat D.any) 3)))])
 []]) else
 False)) else
 False)) else
 False)))))))) else
 (58=58∧
 R (X.exit 0) [V.ref [5000]] [Box.arr true false 9 1 ts []])):=by kernel_rfl
noncomputable def a3b (y:D):List D:=(bif decide (A1 (A0 y 0)≤3) then [wdD J5 (A1 (A0 y 0)),qDD y 1] else [wdD J5 (A1 (A0 y 0))])++(A2 (A0 y 2)).map M7++A2 (A0 y 3)
noncomputable def a5k (y:D):D:=.lit (.string (G2 (a3b y)))
noncomputable def g4m:Ev.Spec:={L:=[0,3,4],ns:=[([5000],[8])],L':=[3],nm':=[[5000]],G:=fun N vals bs k=>match vals,bs with
 | [.d (.slice b 4 xs), .ref [5000], .d (.lit (.int .i64 i))], [.arr true false 9 1 ts []]=>(N=58∧i=0∧ts= []∧b9d xs)∧k (.exit 0) [.ref [5000]] [.arr true false 9 1 (xs.map a5k) []]
 | _,_=>False }
theorem i5x (xs:List D) (b:Bool) (p:V→Prop):(B6 (Cn d7h) d7h D5 0 (spL [(6,g4m)]) B1 106 [V.d (D.slice b 4 xs)] B3.empty fun v H=>p (B4 H v)) =
 ((58=58∧(((0:Int)=0)∧(([]:List D)= []∧b9d xs)))∧
 ((1=1∧(f7 (List.map a5k xs)∧((R9 (List.map a5k xs)).size≤9223372036854775806∧(List.map a5k xs).length≤1152921504606846976)))∧
 p (C6 (G2 (List.map a5k xs))))):=by kernel_rfl
noncomputable def h8p:Ct:=⟨fun | [.slice _ z xs]=>z=4∧b9d xs|_=>False,fun | [.slice _ _ xs]=>some (.lit (.string (G2 (xs.map a5k))))|_=>none⟩
noncomputable def h2p:Tab:=d7h.add 106 h8p
def Lim (M:Nat) (l:List D):Prop:=∀y∈l,a3a y∧(A4 y).size≤M
theorem Lim.str {M:Nat} {l:List D} (h:Lim M l):f7 l:=fun y hy=>(h y hy).1
theorem Lim.nil {M:Nat}:Lim M []:=fun y hy=>by simp at hy
theorem Lim.cons {M:Nat} {l:List D} {s:ByteArray} (hs:s.size≤M) (h:Lim M l):Lim M (.lit (.string s)::l):=fun y hy=>by
 rcases List.mem_cons.1 hy with rfl|hy
 ·exact ⟨rfl,hs⟩
 ·exact h y hy
theorem Lim.app {M:Nat} {l m:List D} (h:Lim M l) (h':Lim M m):Lim M (l++m):=fun y hy=>by
 rcases List.mem_append.1 hy with hy|hy
 ·exact h y hy
 ·exact h' y hy
theorem Lim.map {M:Nat} {f:D→ByteArray} {l:List D} (h:∀y∈l,(f y).size≤M):Lim M (l.map fun y=>.lit (.string (f y))):=fun y hy=>by
 obtain ⟨a,ha,rfl⟩:=List.mem_map.1 hy
 exact ⟨rfl,h a ha⟩
theorem Lim.mono {M M':Nat} {l:List D} (h:Lim M l) (hm:M≤M'):Lim M' l:=fun y hy=>⟨(h y hy).1,Nat.le_trans (h y hy).2 hm⟩
theorem d4y {M:Nat}:∀{l:List D} {f:Bool} {a:ByteArray},Lim M l→(a2j f a l).size≤a.size+l.length*(M+1)
 | [],f,a,_=>by simp[a2j]
 | x::r,f,a,h=>by
  unfold a2j
  refine Nat.le_trans (d4y fun y hy=>h y (List.mem_cons_of_mem _ hy)) ?_
  have hx:=(h x (by simp)).2
  have h1:(ByteArray.mk (Array.mk [32])).size=1:=rfl
  rw[List.length_cons,Nat.add_mul]
  cases f<;>simp only[cond_true,cond_false,U7]<;>omega
theorem n4 {l:List D} {M n b:Nat} (h:Lim M l) (hc:l.length≤n) (hb:n*(M+1)+2≤b):(R9 l).size<b∧(G2 l).size≤b:=by
 have h1:=d4y (f:=true) (a:=ByteArray.mk (Array.mk [40])) h
 have h2:l.length*(M+1)≤n*(M+1):=Nat.mul_le_mul_right _ hc
 have h3:(ByteArray.mk (Array.mk [40])).size=1:=rfl
 have h4:(ByteArray.mk (Array.mk [41])).size=1:=rfl
 unfold R9 G2
 rw[U7]
 omega
theorem a9m (s:ByteArray):(K4 s).size≤2*s.size+2:=by
 show ((c3a s).map _).length≤_
 have:=c8n (s:=s) (n:=s.size) (i:=0)
 unfold c3a
 simp only[List.length_map,List.length_append,List.length_cons,List.length_nil]
 omega
theorem a7i {l:List (List UInt8)} (h:l.all (fun b=>b.length.ble 16)=true):Lim 16 (l.map sB):=fun y hy=>by
 obtain ⟨a,ha,rfl⟩:=List.mem_map.1 hy
 exact ⟨rfl,Nat.le_of_ble_eq_true (List.all_eq_true.1 h a ha)⟩
theorem a6j:Lim 16 opR:=a7i rfl
theorem b3x:Lim 16 J5:=a7i rfl
theorem c3d:Lim 16 u5:=a7i rfl
theorem b4e:Lim 16 a6t:=a7i rfl
theorem c6z:Lim 16 U5:=a7i rfl
theorem a4m {l:List D} {k:Int} (h:Lim 16 l) (hk:k.toNat<l.length):wdD l k=l.getD k.toNat .any∧(A4 (l.getD k.toNat .any)).size≤16 :=
 h _ (D8 hk)
theorem b7b {n d:Int} (h:(X0 n d !=0)=false):(1≤d∧d≤1152921504606846976)∧ -1152921504606846976≤n∧n≤1152921504606846976:=by
 have two:∀{a b:Prop} [Decidable a] [Decidable b],(bif decide a then true else decide b)=false→¬a∧¬b:=by
  intro a b _ _ h
  by_cases ha:a
  ·rw[decide_eq_true ha] at h;cases h
  ·rw[decide_eq_false ha] at h
   exact ⟨ha,of_decide_eq_false h⟩
 unfold X0 at h
 cases h1:(bif decide (d<1) then true else decide (d>1152921504606846976)) with
 | true=>rw[h1,cond_true] at h;exact absurd h (by decide)
 | false =>
  rw[h1] at h
  simp only[cond_false] at h
  cases h2:(bif decide (n< -1152921504606846976) then true else decide (n>1152921504606846976)) with
  | true=>rw[h2,cond_true] at h;exact absurd h (by decide)
  | false =>
   have a:=two h1
   have b:=two h2
   omega
theorem f8k {n:Int} (h0:0≤n) (h1:n≤1152921504606846976):b8y n 1=Q3 n:=by
 have e:X0 n 1=0:=by
  unfold X0
  rw[show decide ((1:Int)<1)=false by decide,show decide ((1:Int)>1152921504606846976)=false by decide,decide_eq_false (show ¬n< -1152921504606846976 by omega),decide_eq_false (show ¬n>1152921504606846976 by omega),show IntKind.u64.wrap 1=1 from rfl]
  simp
 unfold b8y
 rw[e,decide_eq_false (show ¬n<0 by omega),show decide ((1:Int)>1)=false by decide,show ((n.natAbs:Nat):Int)=n by omega]
 rfl
theorem i9o:C3 B g3m:=by
 refine C4 B9 i9h (fn:=Tryz.f101) (cd:=A7 Tryz.f101) (sp:=B8) (hn:=B1) Tryz.func101 (by kernel_rfl) (by kernel_rfl) A8 fun ds r hp hr=>?_
 unfold h8s at hp hr
 simp only[] at hr hp
 split at hr
 ·rename_i n d
  cases hr
  refine keep (i6c n d fun v=>v=_) ?_
  have l1:=a4f (n.natAbs:Nat)
  have l2:=a4f d
  have l3:(bA [47]).size=1:=rfl
  have l4:(bA [45]).size=1:=rfl
  unfold b8y
  refine ⟨(by trivial),A5 (fun g=>?_) (fun g=>?_)⟩
  ·simp only[g,cond_true]
  ·simp only[g,cond_false]
   have hr:=b7b g
   refine ⟨⟨by omega,by omega⟩,⟨by omega,by omega⟩,A5 (fun g=>?_) (fun g=>?_)⟩
   ·simp only[g,cond_true]
    refine ⟨by omega,A5 (fun g=>?_) (fun g=>?_)⟩
    ·simp only[g,cond_true]
     exact ⟨by rw[U7];omega,⟨by omega,by omega⟩,by simp only[U7];omega,(by trivial)⟩
    ·simp only[g,cond_false]
   ·simp only[g,cond_false]
    refine A5 (fun g=>?_) (fun g=>?_)
    ·simp only[g,cond_true]
     exact ⟨by omega,⟨by omega,by omega⟩,by simp only[U7];omega,(by trivial)⟩
    ·simp only[g,cond_false]
 ·cases hr
theorem i9j:C3 B g3i:=by
 refine C4 B9 i9o (fn:=Tryz.f107) (cd:=A7 Tryz.f107) (sp:=B8) (hn:=B1) Tryz.func107 (by kernel_rfl) (by kernel_rfl) A8 fun ds r hp hr=>?_
 unfold h8o at hp hr
 simp only[] at hr hp
 split at hr
 ·rename_i n
  cases hr
  obtain ⟨h0,h1⟩:=hp
  refine keep (i5w n fun v=>v=_) ?_
  rw[f8k h0 h1]
  exact ⟨(by trivial),rfl⟩
 ·cases hr
theorem i4n (p:V→Prop):(B6 (Cn g3i) g3i D5 0 B8 B1 168 [] B3.empty fun v H=>p (B4 H v))=p (.d (.slice false 1 opR)):=by kernel_rfl
theorem i8o:C3 B g2m:=by
 refine C4 B9 i9j (fn:=Tryz.f168) (cd:=A7 Tryz.f168) (sp:=B8) (hn:=B1) Tryz.func168 (by kernel_rfl) (by kernel_rfl) A8 fun ds r hp hr=>?_
 unfold cLr at hr
 simp only[] at hr
 split at hr
 ·cases hr
  exact keep (i4n fun v=>v=_) rfl
 ·cases hr
theorem i4m (p:V→Prop):(B6 (Cn g2m) g2m D5 0 B8 B1 169 [] B3.empty fun v H=>p (B4 H v))=p (.d (.slice false 1 J5)):=by kernel_rfl
theorem i8n:C3 B g2k:=by
 refine C4 B9 i8o (fn:=Tryz.f169) (cd:=A7 Tryz.f169) (sp:=B8) (hn:=B1) Tryz.func169 (by kernel_rfl) (by kernel_rfl) A8 fun ds r hp hr=>?_
 unfold cLr at hr
 simp only[] at hr
 split at hr
 ·cases hr
  exact keep (i4m fun v=>v=_) rfl
 ·cases hr
theorem i4o (p:V→Prop):(B6 (Cn g2k) g2k D5 0 B8 B1 167 [] B3.empty fun v H=>p (B4 H v))=p (.d (.slice false 1 u5)):=by kernel_rfl
theorem i8p:C3 B g2n:=by
 refine C4 B9 i8n (fn:=Tryz.f167) (cd:=A7 Tryz.f167) (sp:=B8) (hn:=B1) Tryz.func167 (by kernel_rfl) (by kernel_rfl) A8 fun ds r hp hr=>?_
 unfold cLr at hr
 simp only[] at hr
 split at hr
 ·cases hr
  exact keep (i4o fun v=>v=_) rfl
 ·cases hr
theorem i6b (p:V→Prop):(B6 (Cn g2n) g2n D5 0 B8 B1 102 [] B3.empty fun v H=>p (B4 H v))=p (.d (.slice false 1 a6t)):=by kernel_rfl
theorem i9n:C3 B g3k:=by
 refine C4 B9 i8p (fn:=Tryz.f102) (cd:=A7 Tryz.f102) (sp:=B8) (hn:=B1) Tryz.func102 (by kernel_rfl) (by kernel_rfl) A8 fun ds r hp hr=>?_
 unfold cLr at hr
 simp only[] at hr
 split at hr
 ·cases hr
  exact keep (i6b fun v=>v=_) rfl
 ·cases hr
theorem w99 (p:V→Prop):(B6 (Cn g3k) g3k D5 0 B8 B1 99 [] B3.empty fun v H=>p (B4 H v))=p (.d (.slice false 1 U5)):=by kernel_rfl
theorem k99:C3 B T99:=by
 refine C4 B9 i9n (fn:=Tryz.f99) (cd:=A7 Tryz.f99) (sp:=B8) (hn:=B1) Tryz.func99 (by kernel_rfl) (by kernel_rfl) A8 fun ds r hp hr=>?_
 unfold cLr at hr
 simp only[] at hr
 split at hr
 ·cases hr
  exact keep (w99 fun v=>v=_) rfl
 ·cases hr
theorem c8y {y:D} (h:MTx y):(G2 [wdD opR (A1 (A0 y 0)),sDD y 1,qDD y 2]).size≤32768:=by
 obtain ⟨_,h0,h1,h2,h3⟩:=h
 have hq:=a9m (A4 (A0 y 2))
 refine (n4 (M:=8194) (n:=3) (b:=32768) (.cons ?_ (.cons ?_ (.cons ?_ .nil))) (by simp) (by decide)).2
 ·exact Nat.le_trans (a4m a6j h1).2 (by decide)
 ·exact Nat.le_trans h2 (by decide)
 ·exact Nat.le_trans hq (by omega)
theorem a9d {f:D→D} {xs:List D} {i:Nat} (h:i<xs.length):(xs.take i).map f++ [f (xs.getD i .any)]=(xs.take (i+1)).map f:=by
 rw[List.take_add_one,List.map_append,List.getElem?_eq_getElem h,List.getD_eq_getElem?_getD,List.getElem?_eq_getElem h];rfl
theorem h5u:OkS (Cn T99) 0 (.loop f7v) g4n:=by
 refine D0 fun N vals bs K h=>?_
 simp only[g4n] at h
 split at h
 case h_2=>exact h.elim
 rename_i b xs i ts
 obtain ⟨⟨rfl,rfl,rfl,hn,hall⟩,h⟩:=h
 have main:∀k i ts,i+k=xs.length→ts=(xs.take i).map M7→J2 (Cn T99) 0 f7v 37 [0,3,4] [[5000]] [3] [[5000]] [.d (.slice b 3 xs), .ref [5000],A3 i] [.arr true false 9 1 ts []] K:=by
  intro k
  induction k with
  | zero =>
   intro i ts hi hts
   rw[List.take_of_length_le (by omega)] at hts
   subst hts
   refine B5 (D3 B9 k99 C2) C0 A8 (hn:=B1) (adsI:=[]) (nsI:=[([5000],[37])]) (nsX:=[([5000],[5000])]) rfl rfl (keep (h9w xs _ b i _) ?_)
   rw[show decide ((i:Int)<(xs.length:Int))=false by simp;omega]
   exact ⟨(by trivial),h⟩
  | succ k ih =>
   intro i ts hi hts
   refine B5 (D3 B9 k99 C2) C0 A8 (hn:=B1) (adsI:=[]) (nsI:=[([5000],[37])]) (nsX:=[([5000],[5000])]) rfl rfl (keep (h9w xs ts b i _) ?_)
   have e2:IntKind.i64.wrap ((i:Int)+1)=((i+1:Nat):Int):=by rw[Go.IntWalk.i64_in _ (by omega)];omega
   have hm:=hall _ (D8 (xs:=xs) (i:=i) (by omega))
   have hlt:i<xs.length:=by omega
   have hl:ts.length=i:=by rw[hts,List.length_map,List.length_take];omega
   have e3:((ts.length+1)*16).ble 70368744177664=true:=by rw[hl,Nat.ble_eq];omega
   simp only[show decide ((i:Int)<(xs.length:Int))=true by simp;omega,cond_true,Int.toNat_natCast,e2,e3]
   obtain ⟨hv,h0,h1,h2,h3⟩:=hm
   have hq:=a9m (A4 (A0 (xs.getD i .any) 2))
   have hlim:Lim 8194 [wdD opR (A1 (A0 (xs.getD i .any) 0)),sDD (xs.getD i .any) 1,qDD (xs.getD i .any) 2]:=.cons (Nat.le_trans (a4m a6j h1).2 (by decide)) (.cons (Nat.le_trans h2 (by decide)) (.cons (Nat.le_trans hq (by omega)) .nil))
   have hi0:(0:Int)≤i∧i<xs.length∧mV (xs.getD i .any)=xs.getD i .any:=⟨by omega,hlt,hv⟩
   refine ⟨(by trivial),hi0,⟨Int.le_trans (by decide) h0,h1,(a4m a6j h1).1⟩,hi0,hi0, ?_,⟨(by trivial),hlim.str, ?_,by decide⟩,(by trivial),ih (i+1) _ (by omega) ?_⟩
   ·exact Nat.le_trans h3 (by decide)
   ·have:=(n4 (n:=3) (b:=32768) hlim (by simp) (by decide)).1
    refine Nat.le_trans (Nat.le_of_lt this) (by decide)
   ·rw[hts];exact a9d hlt
 exact main xs.length 0 [] (by omega) (by simp)
theorem g8h:C3 B d7h:=by
 refine C4 B9 k99 (fn:=Tryz.f105) (cd:=A7 Tryz.f105) (sp:=spL [(6,g4n)]) (hn:=B1) Tryz.func105 (by kernel_rfl) (by kernel_rfl) (B7 (c:=.loop f7v) (by kernel_rfl) h5u C8) fun ds r hp hr=>?_
 unfold h8q at hp hr
 simp only[] at hr hp
 split at hr
 ·rename_i b z xs
  cases hr
  obtain ⟨rfl,hall⟩:=hp
  exact keep (i5y xs b fun v=>v=_) ⟨⟨(by trivial),(by trivial),rfl,hall⟩,rfl⟩
 ·cases hr
theorem e8p {y:D} (h:STx y) {hd:List D} (hh:Lim 32768 hd) (hl:hd.length≤2):Lim 32768 (hd++(A2 (A0 y 2)).map M7++A2 (A0 y 3))∧(hd++(A2 (A0 y 2)).map M7++A2 (A0 y 3)).length≤258:=by
 obtain ⟨_,_,_,_,⟨hm,hma⟩,hn,hna⟩:=h
 refine ⟨(hh.app (Lim.map fun a ha=>c8y (hma a ha))).app fun a ha=>⟨(hna a ha).1,Nat.le_trans (hna a ha).2 (by decide)⟩, ?_⟩
 simp only[List.length_append,List.length_map];omega
theorem b6z {y:D} (h:STx y):Lim 32768 (a3b y)∧(a3b y).length≤258:=by
 have hw:(A4 (J5.getD (A1 (A0 y 0)).toNat .any)).size≤32768:=Nat.le_trans (a4m b3x h.2.2.1).2 (by decide)
 have hq:(K4 (A4 (A0 y 1))).size≤32768:=Nat.le_trans (a9m _) (by have:=h.2.2.2.1;omega)
 refine e8p h ?_ ?_
 ·cases decide (A1 (A0 y 0)≤3)
  ·exact .cons hw .nil
  ·exact .cons hw (.cons hq .nil)
 ·cases decide (A1 (A0 y 0)≤3)<;>simp
theorem h5t:OkS (Cn d7h) 0 (.loop f7u) g4m:=by
 refine D0 fun N vals bs K h=>?_
 simp only[g4m] at h
 split at h
 case h_2=>exact h.elim
 rename_i b xs i ts
 obtain ⟨⟨rfl,rfl,rfl,hn,hall⟩,h⟩:=h
 have main:∀k i ts,i+k=xs.length→ts=(xs.take i).map a5k→J2 (Cn d7h) 0 f7u 58 [0,3,4] [[5000]] [3] [[5000]] [.d (.slice b 4 xs), .ref [5000],A3 i] [.arr true false 9 1 ts []] K:=by
  intro k
  induction k with
  | zero =>
   intro i ts hi hts
   rw[List.take_of_length_le (by omega)] at hts
   subst hts
   refine B5 (D3 B9 g8h C2) C0 A8 (hn:=B1) (adsI:=[]) (nsI:=[([5000],[57])]) (nsX:=[([5000],[5000])]) rfl rfl (keep (h9v xs _ b i _) ?_)
   rw[show decide ((i:Int)<(xs.length:Int))=false by simp;omega]
   exact ⟨(by trivial),h⟩
  | succ k ih =>
   intro i ts hi hts
   refine B5 (D3 B9 g8h C2) C0 A8 (hn:=B1) (adsI:=[]) (nsI:=[([5000],[57])]) (nsX:=[([5000],[5000])]) rfl rfl (keep (h9v xs ts b i _) ?_)
   have e2:IntKind.i64.wrap ((i:Int)+1)=((i+1:Nat):Int):=by rw[Go.IntWalk.i64_in _ (by omega)];omega
   have hm:=hall _ (D8 (xs:=xs) (i:=i) (by omega))
   have hlt:i<xs.length:=by omega
   have hl:ts.length=i:=by rw[hts,List.length_map,List.length_take];omega
   have e3:((ts.length+1)*16).ble 70368744177664=true:=by rw[hl,Nat.ble_eq];omega
   have hlim:=b6z hm
   have hnext:=ih (i+1) (ts++ [a5k (xs.getD i .any)]) (by omega) (by rw[hts];exact a9d hlt)
   have hsz:=n4 (n:=258) (b:=16777216) hlim.1 hlim.2 (by decide)
   have hi0:(0:Int)≤i∧i<xs.length∧gV (xs.getD i .any)=xs.getD i .any:=⟨by omega,hlt,hm.1.v⟩
   simp only[show decide ((i:Int)<(xs.length:Int))=true by simp;omega,cond_true,Int.toNat_natCast,e2,e3]
   obtain ⟨hv,h0,h1,h2,hma,hna⟩:=hm
   have hma1:=hma.1
   have hna1:=hna.1
   refine ⟨(by trivial),hi0,⟨Int.le_trans (by decide) h0,h1,(a4m b3x h1).1⟩,hi0, ?_⟩
   unfold a5k at hnext
   unfold a3b at hnext hlim hsz
   cases hk:decide (A1 (A0 (xs.getD i .any) 0)≤3) with
   | true =>
    rw[hk] at hnext hlim hsz
    simp only[cond_true] at hnext hlim hsz ⊢
    have r1:((2+(((A2 (A0 (xs.getD i .any) 2)).map M7).length+0))*16).ble 70368744177664=true:=by rw[Nat.ble_eq,List.length_map];omega
    have r2:∀z:List D,z.length≤4098→((z.length+((A2 (A0 (xs.getD i .any) 3)).length+0))*16).ble 70368744177664=true:=fun z hz=>by rw[Nat.ble_eq];omega
    rw[r1,r2 _ (by simp only[List.length_append,List.length_map,List.length_cons,List.length_nil];omega)]
    exact ⟨hi0,Nat.le_trans h2 (by decide),hi0,⟨(by trivial),hma⟩,hi0,⟨(by trivial),hlim.1.str,Nat.le_trans (Nat.le_of_lt hsz.1) (by decide),Nat.le_trans hlim.2 (by decide)⟩,(by trivial),hnext⟩
   | false =>
    rw[hk] at hnext hlim hsz
    simp only[cond_false] at hnext hlim hsz ⊢
    have r1:((1+(((A2 (A0 (xs.getD i .any) 2)).map M7).length+0))*16).ble 70368744177664=true:=by rw[Nat.ble_eq,List.length_map];omega
    have r2:∀z:List D,z.length≤4098→((z.length+((A2 (A0 (xs.getD i .any) 3)).length+0))*16).ble 70368744177664=true:=fun z hz=>by rw[Nat.ble_eq];omega
    rw[r1,r2 _ (by simp only[List.length_append,List.length_map,List.length_cons,List.length_nil];omega)]
    exact ⟨hi0,⟨(by trivial),hma⟩,hi0,⟨(by trivial),hlim.1.str,Nat.le_trans (Nat.le_of_lt hsz.1) (by decide),Nat.le_trans hlim.2 (by decide)⟩,(by trivial),hnext⟩
 exact main xs.length 0 [] (by omega) (by simp)
theorem i9k:C3 B h2p:=by
 refine C4 B9 g8h (fn:=Tryz.f106) (cd:=A7 Tryz.f106) (sp:=spL [(6,g4m)]) (hn:=B1) Tryz.func106 (by kernel_rfl) (by kernel_rfl) (B7 (c:=.loop f7u) (by kernel_rfl) h5t C8) fun ds r hp hr=>?_
 unfold h8p at hp hr
 simp only[] at hr hp
 split at hr
 ·rename_i b z xs
  cases hr
  obtain ⟨rfl,hall⟩:=hp
  have hl:Lim 16777216 (xs.map a5k):=Lim.map fun y hy=>by
   have hlim:=b6z (hall.2 y hy)
   exact (n4 (n:=258) (b:=16777216) hlim.1 hlim.2 (by decide)).2
  have hsz:=n4 (n:=128) (b:=4294967296) hl (by rw[List.length_map];exact hall.1) (by decide)
  have hn:=hall.1
  refine keep (i5x xs b fun v=>v=_) ⟨⟨(by trivial),(by trivial),rfl,hall⟩,⟨rfl,hl.str,Nat.le_trans (Nat.le_of_lt hsz.1) (by decide), ?_⟩,rfl⟩
  show (xs.map a5k).length≤_
  rw[List.length_map];omega
 ·cases hr
def CTx (y:D):Prop:=a3m y∧1≤A1 (A0 y 1)∧(A1 (A0 y 1)).toNat<opR.length∧(A4 (A0 y 0)).size≤4096∧(A4 (A0 y 2)).size≤4096∧(K0 (A4 (A0 y 0))=true→0≤A1 (A0 y 3)∧A1 (A0 y 3)≤1152921504606846976)
noncomputable def v6 (y:D):D:=.lit (.string (G2 [wdD opR (A1 (A0 y 1)),sDD y 0,bif K0 (A4 (A0 y 0)) then .lit (.string (Q3 (A1 (A0 y 3)))) else qDD y 2]))
def e2g (xs:List D):Prop:=xs.length≤128∧∀y∈xs,CTx y
def h2r:Nat→D→Prop
 | 0,_=>True
 | n+1,y=>(J1 y∧1≤A1 (A0 y 0)∧(A1 (A0 y 0)).toNat<u5.length∧e2g (A2 (A0 y 1))∧N6 y≤100)∧∀a∈E6 y 2,h2r n a
structure PTx (y:D):Prop where
 h:∀n,h2r n y
noncomputable def f6f (rec:D→ByteArray) (y:D):ByteArray:=G2 ([wdD u5 (A1 (A0 y 0))]++(A2 (A0 y 1)).map v6++(E6 y 2).map fun a=>.lit (.string (rec a)))
noncomputable def b4d (y:D):ByteArray:=b4k f6f (ByteArray.mk (Array.mk [])) (dsz y+1) y
noncomputable def pD (y:D):D:=.lit (.string (b4d y))
def f5b (κ:Nat) (xs:List D):Prop:=xs.length≤4096∧∀y∈xs,PTx y∧dsz y<κ
noncomputable def g9m:Ct:=⟨fun | [x]=>PTx x|_=>False,fun | [x]=>some (pD x)|_=>none⟩
noncomputable def b9c (κ:Nat):Tab:=h2p.add 103 (g9m.below μ1 κ)
noncomputable def g3j:Tab:=h2p.add 103 g9m
noncomputable def e3s:Code:=D7 (C5 (A7 Tryz.f103) 6)
noncomputable def e3r:Code:=D7 (C5 (A7 Tryz.f103) 22)
abbrev nmP:List (B2×B2):=[([5000],[5000]),([5001],[5001])]
theorem g5q (κ:Nat) (q:Int) (cs:List D) (xs:List D) (ts:List D) (b1:Bool) (b2:Bool) (i:Int) (R:X→List V→List Box→Prop):(E1 (Cn (b9c κ)) (b9c κ) D5 0 B8 B1 e3s 66 [1,3,4] [[5000], [5001]] [] [([5000], [5000]),([5001], [49])]
 [1,3] nmP [V.ptr [5000] 0,V.ref [5001],A3 i] [u6 q b1 cs b2 xs,Box.arr true false 9 1 ts []] R) =
 (bif decide (i<(↑cs.length:Int)) then
 ((((0:Int)≤i)∧(i.toNat<cs.length∧cV (cs.getD i.toNat D.any)=cs.getD i.toNat D.any))∧
 ((A4 (A0 (cs.getD i.toNat D.any) 2)).size.le 17592186044400∧
 (True∧
 (bif K0 (A4 (A0 (cs.getD i.toNat D.any) 0)) then
 ((((0:Int)≤A1 (A0 (cs.getD i.toNat D.any) 3))∧((A1 (A0 (cs.getD i.toNat D.any) 3):Int)≤1152921504606846976))∧
 (True∧
 ((((0:Int)≤A1 (A0 (cs.getD i.toNat D.any) 1))∧((A1 (A0 (cs.getD i.toNat D.any) 1)).toNat<7∧zD (A4 (opR.getD (A1 (A0 (cs.getD i.toNat D.any) 1)).toNat D.any)) =
 opR.getD (A1 (A0 (cs.getD i.toNat D.any) 1)).toNat D.any))∧
 ((1=1∧(f7
 [zD (A4 (opR.getD (A1 (A0 (cs.getD i.toNat D.any) 1)).toNat D.any)),
 zD (A4 (A0 (cs.getD i.toNat D.any) 0)),
 zD (Q3 (A1 (A0 (cs.getD i.toNat D.any) 3)))]∧((R9
 [zD (A4 (opR.getD (A1 (A0 (cs.getD i.toNat D.any) 1)).toNat D.any)),
 zD (A4 (A0 (cs.getD i.toNat D.any) 0)),
 zD (Q3 (A1 (A0 (cs.getD i.toNat D.any) 3)))]).size≤
 9223372036854775806∧3≤1152921504606846976)))∧
 (bif ((ts.length+1)*16).ble 70368744177664 then
 (66=66∧
 R X.normal [V.ptr [5000] 0,V.ref [5001],A3 (IntKind.i64.wrap (i+1))]
 [Box.cells 30 [A3 q,V.d (D.slice b1 4 cs),V.d (D.slice b2 3 xs)],
 Box.arr true false 9 1
 (ts ++
 [zD (G2
 [zD (A4 (opR.getD (A1 (A0 (cs.getD i.toNat D.any) 1)).toNat D.any)),
 zD (A4 (A0 (cs.getD i.toNat D.any) 0)),
 zD (Q3 (A1 (A0 (cs.getD i.toNat D.any) 3)))])])
 []]) else
 False))))) else
 (True∧
 ((((0:Int)≤A1 (A0 (cs.getD i.toNat D.any) 1))∧((A1 (A0 (cs.getD i.toNat D.any) 1)).toNat<7∧zD (A4 (opR.getD (A1 (A0 (cs.getD i.toNat D.any) 1)).toNat D.any)) =
 opR.getD (A1 (A0 (cs.getD i.toNat D.any) 1)).toNat D.any))∧
 ((1=1∧(f7
 [zD (A4 (opR.getD (A1 (A0 (cs.getD i.toNat D.any) 1)).toNat D.any)),
 zD (A4 (A0 (cs.getD i.toNat D.any) 0)),
 zD (K4 (A4 (A0 (cs.getD i.toNat D.any) 2)))]∧((R9
 [zD (A4 (opR.getD (A1 (A0 (cs.getD i.toNat D.any) 1)).toNat D.any)),
 zD (A4 (A0 (cs.getD i.toNat D.any) 0)),
 zD (K4 (A4 (A0 (cs.getD i.toNat D.any) 2)))]).size≤
 9223372036854775806∧3≤1152921504606846976)))∧
 (bif ((ts.length+1)*16).ble 70368744177664 then
 (66=66∧
 R X.normal [V.ptr [5000] 0,V.ref [5001],A3 (IntKind.i64.wrap (i+1))]
 [Box.cells 30 [A3 q,V.d (D.slice b1 4 cs),V.d (D.slice b2 3 xs)],
 Box.arr true false 9 1
 (ts ++
 [zD (G2
 [zD (A4 (opR.getD (A1 (A0 (cs.getD i.toNat D.any) 1)).toNat D.any)),
 zD (A4 (A0 (cs.getD i.toNat D.any) 0)),
 zD (K4 (A4 (A0 (cs.getD i.toNat D.any) 2)))])])
 []]) else
 False)))))))) else
 (66=66∧
 R (X.exit 0) [V.ptr [5000] 0,V.ref [5001]]
 [Box.cells 30 [A3 q,V.d (D.slice b1 4 cs),V.d (D.slice b2 3 xs)],
 Box.arr true false 9 1 ts []])):=by kernel_rfl
theorem g5p (κ:Nat) (q:Int) (cs:List D) (xs:List D) (ts:List D) (b1:Bool) (b2:Bool) (i:Int) (R:X→List V→List Box→Prop):(E1 (Cn (b9c κ)) (b9c κ) D5 0 B8 B1 e3r 66 [1,3,7] [[5000], [5001]] [] [([5000], [5000]),([5001], [65])]
 [3] [([5001], [5001])] [V.ptr [5000] 0,V.ref [5001],A3 i] [u6 q b1 cs b2 xs,Box.arr true false 9 1 ts []] R) =
 (bif decide (i<(↑xs.length:Int)) then
 ((((0:Int)≤i)∧(i.toNat<xs.length∧pV (xs.getD i.toNat D.any)=xs.getD i.toNat D.any))∧
 ((PTx (pV (xs.getD i.toNat D.any))∧μ1 [pV (xs.getD i.toNat D.any)]<κ)∧
 (bif ((ts.length+1)*16).ble 70368744177664 then
 (66=66∧
 R X.normal [V.ptr [5000] 0,V.ref [5001],A3 (IntKind.i64.wrap (i+1))]
 [Box.cells 30 [A3 q,V.d (D.slice b1 4 cs),V.d (D.slice b2 3 xs)],
 Box.arr true false 9 1 (ts++ [zD (b4d (pV (xs.getD i.toNat D.any)))]) []]) else
 False))) else
 (66=66∧
 R (X.exit 2) [V.ref [5001]] [Box.arr true false 9 1 ts []])):=by kernel_rfl
noncomputable def e5d:Ev.Spec:={L:=[1,3,4],ns:=[([5000],[3]),([5001],[15])],L':=[1,3],nm':=[[5000],[5001]],G:=fun N vals bs k=>match vals,bs with
 | [.ptr [5000] 0, .ref [5001], .d (.lit (.int .i64 i))], [.cells 30 [.d (.lit (.int .i64 q)), .d (.slice b1 4 cs), .d (.slice b2 3 xs)], .arr true false 9 1 ts []]=>(N=66∧i=0∧ts.length≤1∧e2g cs)∧k (.exit 0) [.ptr [5000] 0, .ref [5001]] [u6 q b1 cs b2 xs, .arr true false 9 1 (ts++cs.map v6) []]
 | _,_=>False }
noncomputable def e5c (κ:Nat):Ev.Spec:={L:=[1,3,7],ns:=[([5000],[5000]),([5001],[5001])],L':=[3],nm':=[[5001]],G:=fun N vals bs k=>match vals,bs with
 | [.ptr [5000] 0, .ref [5001], .d (.lit (.int .i64 i))], [.cells 30 [.d (.lit (.int .i64 q)), .d (.slice b1 4 cs), .d (.slice b2 3 xs)], .arr true false 9 1 ts []]=>(N=66∧i=0∧ts.length≤4097∧f5b κ xs)∧k (.exit 2) [.ref [5001]] [.arr true false 9 1 (ts++xs.map pD) []]
 | _,_=>False }
theorem i6a (κ:Nat) (y:D) (p:V→Prop):(B6 (Cn (b9c κ)) (b9c κ) D5 0 (spL [(6,e5d),(22,e5c κ)]) B1 103 [V.d (pV y)] B3.empty fun v H =>
 p (B4 H v)) =
 (True∧
 ((((0:Int)≤A1 (A0 y 0))∧((A1 (A0 y 0)).toNat<10∧zD (A4 (u5.getD (A1 (A0 y 0)).toNat D.any))=u5.getD (A1 (A0 y 0)).toNat D.any))∧
 ((66=66∧(((0:Int)=0)∧(1≤1∧e2g (A2 (A0 y 1)))))∧
 ((66=66∧(((0:Int)=0)∧(([zD (A4 (u5.getD (A1 (A0 y 0)).toNat D.any))] ++
 List.map v6 (A2 (A0 y 1))).length≤
 4097∧f5b κ (A2 (A0 y 2)))))∧
 ((1=1∧(f7
 ([zD (A4 (u5.getD (A1 (A0 y 0)).toNat D.any))]++List.map v6 (A2 (A0 y 1)) ++
 List.map pD (A2 (A0 y 2)))∧((R9
 ([zD (A4 (u5.getD (A1 (A0 y 0)).toNat D.any))] ++
 List.map v6 (A2 (A0 y 1)) ++
 List.map pD (A2 (A0 y 2)))).size≤
 9223372036854775806∧([zD (A4 (u5.getD (A1 (A0 y 0)).toNat D.any))]++List.map v6 (A2 (A0 y 1)) ++
 List.map pD (A2 (A0 y 2))).length≤
 1152921504606846976)))∧
 p
 (C6 (G2
 ([zD (A4 (u5.getD (A1 (A0 y 0)).toNat D.any))] ++
 List.map v6 (A2 (A0 y 1)) ++
 List.map pD (A2 (A0 y 2)))))))))):=by kernel_rfl
theorem PTx.l {y:D} (h:PTx y):J1 y∧1≤A1 (A0 y 0)∧(A1 (A0 y 0)).toNat<u5.length∧e2g (A2 (A0 y 1))∧N6 y≤100:=(h.h 1).1
theorem PTx.a {y:D} (h:PTx y) {a:D} (ha:a∈E6 y 2):PTx a:=⟨fun n=>(h.h (n+1)).2 a ha⟩
theorem d8f (r r':D→ByteArray) (y:D) (h:∀a∈E6 y 2,r a=r' a):f6f r y=f6f r' y:=by
 unfold f6f
 rw[show (E6 y 2).map (fun a=>D.lit (.string (r a)))=(E6 y 2).map (fun a=>D.lit (.string (r' a))) from List.map_congr_left fun a ha=>by rw[h a ha]]
theorem b5r (y:D):b4d y=G2 ([wdD u5 (A1 (A0 y 0))]++(A2 (A0 y 1)).map v6++(A2 (A0 y 2)).map pD):=e8 d8f y
def tot (l:List D):Nat:=(l.map fun y=>(A4 y).size+1).sum
theorem c8d (l m:List D):tot (l++m)=tot l+tot m:=by simp[tot]
theorem e2s {M:Nat} {l:List D} (h:Lim M l):tot l≤l.length*(M+1):=by
 induction l with
 | nil=>simp[tot]
 | cons x r ih =>
  have h1:=(h x (by simp)).2
  have h2:=ih fun y hy=>h y (List.mem_cons_of_mem _ hy)
  simp only[tot,List.map_cons,List.sum_cons,List.length_cons,Nat.add_mul] at h2 ⊢
  omega
theorem c7b:∀{l:List D} {f:Bool} {a:ByteArray},(a2j f a l).size≤a.size+tot l
 | [],f,a=>by simp[a2j,tot]
 | x::r,f,a=>by
  unfold a2j
  refine Nat.le_trans c7b ?_
  have h1:(ByteArray.mk (Array.mk [32])).size=1:=rfl
  simp only[tot,List.map_cons,List.sum_cons]
  cases f<;>simp only[cond_true,cond_false,U7]<;>omega
theorem d4r (l:List D):(R9 l).size≤tot l+1∧(G2 l).size≤tot l+2:=by
 have h1:=c7b (l:=l) (f:=true) (a:=ByteArray.mk (Array.mk [40]))
 have h3:(ByteArray.mk (Array.mk [40])).size=1:=rfl
 have h4:(ByteArray.mk (Array.mk [41])).size=1:=rfl
 unfold R9 G2
 rw[U7]
 omega
theorem d6q {y:D} (h:CTx y):Lim 8194 [wdD opR (A1 (A0 y 1)),sDD y 0,bif K0 (A4 (A0 y 0)) then .lit (.string (Q3 (A1 (A0 y 3)))) else qDD y 2]:=by
 obtain ⟨_,h0,h1,h2,h3,_⟩:=h
 have hq:=a9m (A4 (A0 y 2))
 refine .cons (Nat.le_trans (a4m a6j h1).2 (by decide)) (.cons (Nat.le_trans h2 (by decide)) ?_)
 cases K0 (A4 (A0 y 0))
 ·exact .cons (Nat.le_trans hq (by omega)) .nil
 ·exact .cons (Nat.le_trans (a4f _) (by decide)) .nil
theorem d6r {l:List D} (h:e2g l):Lim 32768 (l.map v6):=Lim.map fun y hy=>(n4 (n:=3) (b:=32768) (d6q (h.2 y hy)) (by simp) (by decide)).2
theorem g4r:∀{n:Nat} {y:D},PTx y→dsz y<n→(b4d y).size+1≤N6 y*8388608:=by
 intro n
 induction n with
 | zero=>intro y _ h;omega
 | succ n ih =>
  intro y h hn
  have key:∀l:List D,(∀a∈l,a∈E6 y 2)→tot (l.map pD)≤(l.map N6).sum*8388608:=by
   intro l hl
   induction l with
   | nil=>simp[tot]
   | cons x r ih2 =>
    have hx:=hl x (by simp)
    have h1:=ih (h.a hx) (by have:=G6 hx;omega)
    have h2:=ih2 fun a ha=>hl a (List.mem_cons_of_mem _ ha)
    simp only[tot,List.map_cons,List.sum_cons,Nat.add_mul] at h2 ⊢
    have h3:(A4 (pD x)).size=(b4d x).size:=rfl
    omega
  have h1:=key (E6 y 2) fun a ha=>ha
  have h2:=e2s (d6r h.l.2.2.2.1)
  have h3:(A2 (A0 y 1)).length≤128:=h.l.2.2.2.1.1
  rw[List.length_map] at h2
  have h4:(A2 (A0 y 1)).length*(32768+1)≤128*(32768+1):=Nat.mul_le_mul_right _ h3
  have h5:=(a4m c3d h.l.2.2.1).2
  have h6:=(d4r ([wdD u5 (A1 (A0 y 0))]++(A2 (A0 y 1)).map v6++(A2 (A0 y 2)).map pD)).2
  have h7:tot [wdD u5 (A1 (A0 y 0))]≤17:=by
   show (A4 (u5.getD (A1 (A0 y 0)).toNat .any)).size+1+0≤17
   omega
  rw[b5r,a2e,Nat.add_mul]
  rw[c8d,c8d] at h6
  unfold E6 at h1
  unfold E6
  omega
theorem g7j {κ:Nat} (hk:C3 B (b9c κ)):OkS (Cn (b9c κ)) 0 (.loop e3s) e5d:=by
 refine D0 fun N vals bs K h=>?_
 simp only[e5d] at h
 split at h
 case h_2=>exact h.elim
 rename_i i q b1 cs b2 xs t0
 obtain ⟨⟨rfl,rfl,ht0,hn,hall⟩,h⟩:=h
 have main:∀k i ts,i+k=cs.length→ts=t0++(cs.take i).map v6→J2 (Cn (b9c κ)) 0 e3s 66 [1,3,4] [[5000],[5001]] [1,3] [[5000],[5001]] [.ptr [5000] 0, .ref [5001],A3 i] [u6 q b1 cs b2 xs, .arr true false 9 1 ts []] K:=by
  intro k
  induction k with
  | zero =>
   intro i ts hi hts
   rw[List.take_of_length_le (by omega)] at hts
   subst hts
   refine B5 (D3 B9 hk C2) C0 A8 (hn:=B1) (adsI:=[]) (nsI:=[([5000],[5000]),([5001],[49])]) (nsX:=nmP) rfl rfl (keep (g5q κ q cs xs _ b1 b2 i _) ?_)
   rw[show decide ((i:Int)<(cs.length:Int))=false by simp;omega]
   exact ⟨(by trivial),h⟩
  | succ k ih =>
   intro i ts hi hts
   refine B5 (D3 B9 hk C2) C0 A8 (hn:=B1) (adsI:=[]) (nsI:=[([5000],[5000]),([5001],[49])]) (nsX:=nmP) rfl rfl (keep (g5q κ q cs xs ts b1 b2 i _) ?_)
   have e2:IntKind.i64.wrap ((i:Int)+1)=((i+1:Nat):Int):=by rw[Go.IntWalk.i64_in _ (by omega)];omega
   have hm:=hall _ (D8 (xs:=cs) (i:=i) (by omega))
   have hlt:i<cs.length:=by omega
   have hl:ts.length≤i+1:=by rw[hts,List.length_append,List.length_map,List.length_take];omega
   have e3:((ts.length+1)*16).ble 70368744177664=true:=by rw[Nat.ble_eq];omega
   have hnext:=ih (i+1) (ts++ [v6 (cs.getD i .any)]) (by omega) (by rw[hts,List.append_assoc,a9d hlt])
   have hlim:=d6q hm
   have hi0:(0:Int)≤i∧i<cs.length∧cV (cs.getD i .any)=cs.getD i .any:=⟨by omega,hlt,hm.1⟩
   have hsz:=(n4 (n:=3) (b:=32768) hlim (by simp) (by decide)).1
   simp only[show decide ((i:Int)<(cs.length:Int))=true by simp;omega,cond_true,Int.toNat_natCast,e2,e3]
   obtain ⟨hv,h0,h1,h2,h3,h4⟩:=hm
   unfold v6 at hnext
   refine ⟨hi0,Nat.le_trans h3 (by decide),(by trivial), ?_⟩
   cases hk:K0 (A4 (A0 (cs.getD i .any) 0)) with
   | true =>
    rw[hk] at hnext hlim hsz
    exact ⟨h4 hk,(by trivial),⟨Int.le_trans (by decide) h0,h1,(a4m a6j h1).1⟩,⟨(by trivial),hlim.str,Nat.le_trans (Nat.le_of_lt hsz) (by decide),by decide⟩,(by trivial),hnext⟩
   | false =>
    rw[hk] at hnext hlim hsz
    exact ⟨(by trivial),⟨Int.le_trans (by decide) h0,h1,(a4m a6j h1).1⟩,⟨(by trivial),hlim.str,Nat.le_trans (Nat.le_of_lt hsz) (by decide),by decide⟩,(by trivial),hnext⟩
 exact main cs.length 0 t0 (by omega) (by simp)
theorem g7i {κ:Nat} (hk:C3 B (b9c κ)):OkS (Cn (b9c κ)) 0 (.loop e3r) (e5c κ):=by
 refine D0 fun N vals bs K h=>?_
 simp only[e5c] at h
 split at h
 case h_2=>exact h.elim
 rename_i i q b1 cs b2 xs t0
 obtain ⟨⟨rfl,rfl,ht0,hn,hall⟩,h⟩:=h
 have main:∀k i ts,i+k=xs.length→ts=t0++(xs.take i).map pD→J2 (Cn (b9c κ)) 0 e3r 66 [1,3,7] [[5000],[5001]] [3] [[5001]] [.ptr [5000] 0, .ref [5001],A3 i] [u6 q b1 cs b2 xs, .arr true false 9 1 ts []] K:=by
  intro k
  induction k with
  | zero =>
   intro i ts hi hts
   rw[List.take_of_length_le (by omega)] at hts
   subst hts
   refine B5 (D3 B9 hk C2) C0 A8 (hn:=B1) (adsI:=[]) (nsI:=[([5000],[5000]),([5001],[65])]) (nsX:=[([5001],[5001])]) rfl rfl (keep (g5p κ q cs xs _ b1 b2 i _) ?_)
   rw[show decide ((i:Int)<(xs.length:Int))=false by simp;omega]
   exact ⟨(by trivial),h⟩
  | succ k ih =>
   intro i ts hi hts
   refine B5 (D3 B9 hk C2) C0 A8 (hn:=B1) (adsI:=[]) (nsI:=[([5000],[5000]),([5001],[65])]) (nsX:=[([5001],[5001])]) rfl rfl (keep (g5p κ q cs xs ts b1 b2 i _) ?_)
   have e2:IntKind.i64.wrap ((i:Int)+1)=((i+1:Nat):Int):=by rw[Go.IntWalk.i64_in _ (by omega)];omega
   have hlt:i<xs.length:=by omega
   obtain ⟨hm,hs⟩:=hall _ (D8 (xs:=xs) (i:=i) hlt)
   have hv:pV (xs.getD i .any)=xs.getD i .any:=J1.v hm.l.1
   have hl:ts.length≤i+4097:=by rw[hts,List.length_append,List.length_map,List.length_take];omega
   have e3:((ts.length+1)*16).ble 70368744177664=true:=by rw[Nat.ble_eq];omega
   have hnext:=ih (i+1) (ts++ [pD (xs.getD i .any)]) (by omega) (by rw[hts,List.append_assoc,a9d hlt])
   simp only[show decide ((i:Int)<(xs.length:Int))=true by simp;omega,cond_true,Int.toNat_natCast,e2,e3,hv]
   exact ⟨⟨by omega,hlt,(by trivial)⟩,⟨hm,hs⟩,(by trivial),hnext⟩
 exact main xs.length 0 t0 (by omega) (by simp)
theorem i9m:C3 B g3j:=by
 refine S4 B9 i9k μ1 (fn:=Tryz.f103) (cd:=A7 Tryz.f103) (sp:=fun κ=>spL [(6,e5d),(22,e5c κ)]) (hn:=B1) Tryz.func103 (by kernel_rfl) (by kernel_rfl) (fun κ hk=>B7 (c:=.loop e3s) (by kernel_rfl) (g7j hk) (B7 (c:=.loop e3r) (by kernel_rfl) (g7i hk) C8)) fun κ ds r hp hm hr=>?_
 unfold g9m at hp hr
 simp only[] at hr hp
 split at hr
 ·rename_i y
  cases hr
  rw[show [y].map V.d= [V.d (pV y)] by rw[J1.v hp.l.1];rfl]
  refine keep (i6a κ y fun v=>v=_) ?_
  obtain ⟨hf,h0,h1,hc,ht⟩:=hp.l
  have hlen:=g4r hp (Nat.lt_succ_self _)
  have ha:(A2 (A0 y 2)).length≤100:=by
   have:=a2e y
   have:=c3s (xs:=E6 y 2)
   unfold E6 at *
   omega
  have hc1:=hc.1
  have hw:=a4m c3d h1
  have hstr:f7 ([wdD u5 (A1 (A0 y 0))]++(A2 (A0 y 1)).map v6++(A2 (A0 y 2)).map pD):=fun a ha=>by
   rcases List.mem_append.1 ha with ha|ha
   ·rcases List.mem_append.1 ha with ha|ha
    ·simp only[List.mem_cons,List.not_mem_nil,or_false] at ha
     subst ha;rfl
    ·exact (d6r hc).str a ha
   ·obtain ⟨x,_,rfl⟩:=List.mem_map.1 ha
    rfl
  have hjq:=(b4g (l:=[]) (f:=true) (a:=ByteArray.mk (Array.mk [])))
  refine ⟨(by trivial),⟨Int.le_trans (by decide) h0,h1,hw.1⟩,⟨(by trivial),(by trivial),by decide,hc⟩,⟨(by trivial),(by trivial), ?_,by omega,fun a ha=>⟨hp.a ha,hm▸G6 ha⟩⟩,⟨(by trivial),hstr, ?_, ?_⟩, ?_⟩
  ·simp only[List.length_append,List.length_map,List.length_cons,List.length_nil];omega
  ·rw[b5r] at hlen
   have h9:(G2 ([wdD u5 (A1 (A0 y 0))]++(A2 (A0 y 1)).map v6++(A2 (A0 y 2)).map pD)).size=(R9 ([wdD u5 (A1 (A0 y 0))]++(A2 (A0 y 1)).map v6++(A2 (A0 y 2)).map pD)).size+1:=by
    unfold G2 R9;rw[U7];rfl
   have:N6 y*8388608≤100*8388608:=Nat.mul_le_mul_right _ ht
   show (R9 ([wdD u5 (A1 (A0 y 0))]++(A2 (A0 y 1)).map v6++(A2 (A0 y 2)).map pD)).size≤_
   omega
  ·simp only[List.length_append,List.length_map,List.length_cons,List.length_nil];omega
  ·unfold pD;rw[b5r];rfl
 ·cases hr
end Go.Ev.R2
end
section
namespace Go.Ev
def u4 (C:Cx) (tb:Tab) (cs:CS) (k:Nat) (sp:Nat→Option Spec) (hn:Nat→Option j5) (il:Bool) (c:Code) (N:Nat) (L:List Nat) (nm:List B2) (adsI:List Ad) (L':List Nat) (nsX:List (B2×B2)) (vals:List V) (bs:List Box) (R:X→List V→List Box→Prop):Prop :=
 Q8 C tb cs k sp hn il c (stN N L nm vals bs) fun x s=>s.N=N∧go (v8 adsI s) fun s=>go (a2t k L' nsX s) fun p=>R x p.1 p.2
theorem c6r {C:Cx} {tb:Tab} {cs:CS} {k:Nat} (F:b4v C cs.call) (hE:Has C tb) {sp:Nat→Option Spec} {hn:Nat→Option j5} {il:Bool} {c:Code} {S:Spec} {adsI:List Ad} {nsX:List (B2×B2)}
  (ok:s6 C k sp (K3 il c)) (hX:S9 nsX=S.nm')
  (h:∀N vals bs K,S.G N vals bs K→a6d (u4 C tb cs k sp hn il c N S.L (S9 S.ns) adsI S.L' nsX vals bs K)):OkS C k c S:=fun N vals bs K hg=>by
 refine b4s (a5e F hE c il _ _ ok (h N vals bs K hg).h) ?_
 intro x s' ⟨hN,hx⟩
 obtain ⟨s1,h1,hx⟩:=F9 hx
 obtain ⟨⟨vs,bs'⟩,h2,h3⟩:=F9 hx
 have hw:a5a C k s' _:=(V9 (k:=k) h1).trans (k8 h2)
 have hN1:s1.N=N:=(c5j h1).trans hN
 rw[hN1,hX] at hw
 exact ⟨_,hw,vs,bs',rfl,h3⟩
end Go.Ev
end
