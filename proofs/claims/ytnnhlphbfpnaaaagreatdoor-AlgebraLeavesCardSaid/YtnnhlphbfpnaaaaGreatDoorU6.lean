/- What the proofs of the lexer's laws share, part 6 of 14. -/
import Derived.Test.YtnnhlphbfpnaaaaGreatDoorU5
import Derived.Test.YtnnhlphbfpnaaaaGreatDoorU1
import Derived.ChangeArms
import Derived.SizedLaws
import Derived.Test.YtnnhlphbfpnaaaaGreatDoorU4
import Derived.Laws.IdiomRangeMap
import Derived.Test.YtnnhlphbfpnaaaaGreatDoorProg
import Derived.KernelRfl
import Derived.Shelf.Strings.BuilderX
import Derived.Shelf.RegionOpenPlain
import Derived.Lib.Strings
import Derived.Lib.Slices
import Derived.Lib.Walk
import Derived.Lib.Builder
import Derived.Lib.AppendStr
import Derived.Lib.UnsafeStr
import Derived.Lib.MakeNoZero
import Derived.WalkKit
import Derived.Laws.Externs
import Derived.Laws.IdiomCopy
import Derived.Laws.BitsLemmas
set_option linter.unusedVariables false
set_option linter.unusedSimpArgs false
section
namespace Go.Ev.R2
open Go Go.Ev Go.Proofs
set_option maxRecDepth 100000
def a5b (rec:D→Int→Int):List D→Int→Int
 | [],m=>m
 | a::r,m=>bif decide (m≤100) then a5b rec r (rec a m) else m
noncomputable def d6y (rec:D→Int→Int) (y:D) (n:Int):Int :=
 (a5b rec (A2 (A0 y 2)) (IntKind.i64.wrap (n+1)))
noncomputable def a3x (y:D):Int→Int:=b2x (fun rec y=>d6y rec y) (fun n=>n) (dsz y+1) y
noncomputable def c49:Ct:=⟨fun | [x, .lit (.int .i64 n)]=>G7 x|_=>False,fun | [x, .lit (.int .i64 n)]=>some (.lit (.int .i64 (a3x x n)))|_=>none⟩
noncomputable def U49 (κ:Nat):Tab:=T15.add 49 (c49.below μ1 κ)
noncomputable def T49:Tab:=T15.add 49 c49
noncomputable def l49:Code:=D6 (C6 (A7 Tryz.f49) 6)
noncomputable def S49 (rec:D→Int→Int) (κ:Nat):Ev.Spec:={L:=[1,2,5],ns:=[([5000],[4])],L':=[1],nm':=[],G:=fun N vals bs k=>match vals,bs with
 | [.d (.lit (.int .i64 m)), .ptr [5000] 0, .d (.lit (.int .i64 i))], [.cells 30 [.d (.lit (.int .i64 q)), .d (.slice b1 4 cs), .d (.slice b2 3 xs)]]=>(N=27∧rec=a3x∧i=0∧G6 xs∧∀y∈xs,G7 y∧dsz y<κ)∧k (.exit 0) [A3 (a5b rec xs m)] []
 | _,_=>False }
theorem b49 (κ:Nat) (q:Int) (cs:List D) (xs:List D) (b1:Bool) (b2:Bool) (i:Int) (m:Int) (R:X→List V→List Box→Prop):(D7 (Cn (U49 κ)) (U49 κ) D4 0 C5 B1 l49 27 [1,2,5] [[5000]] [] [([5000], [5000])] [1] []
 [A3 m,V.ptr [5000] 0,A3 i] [r5 q b1 cs b2 xs] R) =
 (bif bif decide (i<(↑xs.length:Int)) then decide (m≤100) else false then
 ((((0:Int)≤i)∧(i.toNat<xs.length∧pV (xs.getD i.toNat D.any)=xs.getD i.toNat D.any))∧
 ((G7 (pV (xs.getD i.toNat D.any))∧μ1 [pV (xs.getD i.toNat D.any),iD m]<κ)∧
 (27=27∧
 R X.normal
 [A3 (a3x (pV (xs.getD i.toNat D.any)) m),V.ptr [5000] 0,
 A3 (IntKind.i64.wrap (i+1))]
 [Box.cells 30 [A3 q,V.d (D.slice b1 4 cs),V.d (D.slice b2 3 xs)]]))) else
 (27=27∧
 R (X.exit 0) [A3 m] [])):=by kernel_rfl
theorem w49 (rec:D→Int→Int) (κ:Nat) (y:D) (n:Int) (p:V→Prop):(B7 (Cn (U49 κ)) (U49 κ) D4 0 (spL [(6,S49 rec κ)]) B1 49 [V.d (pV y),A3 n] B4.empty fun v H =>
 p (B5 H v)) =
 ((27=27∧(rec=a3x∧(((0:Int)=0)∧(G6 (A2 (A0 y 2))∧∀(y_1:D),y_1∈A2 (A0 y 2)→G7 y_1∧dsz y_1<κ))))∧
 p (A3 (a5b rec (A2 (A0 y 2)) (IntKind.i64.wrap (n+1))))):=by kernel_rfl
noncomputable def d3x (rec:D→Int→Int) (y:D) (n:Int):Int :=
 (bif decide ((↑(A2 (A0 y 10)).length:Int)>100) then
 101 else
 (bif bif
 bif A1 (A0 y 11) !=0 then true
 else
 decide (IntKind.i64.wrap ((↑(A2 (A0 y 12)).length:Int)+(↑(A2 (A0 y 13)).length:Int))>0) then
 decide (IntKind.i64.wrap (IntKind.i64.wrap (n+1)+(↑(A2 (A0 y 10)).length:Int))≤100)
 else false then
 (a5b rec (A2 (A0 y 15))
 (a3x (paV y) (IntKind.i64.wrap (IntKind.i64.wrap (n+1)+(↑(A2 (A0 y 10)).length:Int))))) else
 (a5b rec (A2 (A0 y 15))
 (IntKind.i64.wrap (IntKind.i64.wrap (n+1)+(↑(A2 (A0 y 10)).length:Int))))))
noncomputable def L9 (y:D):Int→Int:=b2x (fun rec y=>d3x rec y) (fun n=>n) (dsz y+1) y
noncomputable def c48:Ct:=⟨fun | [x, .lit (.int .i64 n)]=>D0 x|_=>False,fun | [x, .lit (.int .i64 n)]=>some (.lit (.int .i64 (L9 x n)))|_=>none⟩
noncomputable def U48 (κ:Nat):Tab:=T49.add 48 (c48.below μ1 κ)
noncomputable def T48:Tab:=T49.add 48 c48
noncomputable def l48:Code:=D6 (C6 (A7 Tryz.f48) 16)
noncomputable def S48 (rec:D→Int→Int) (κ:Nat):Ev.Spec:={L:=[1,2,5],ns:=[([5000],[4])],L':=[1],nm':=[],G:=fun N vals bs k=>match vals,bs with
 | [.d (.lit (.int .i64 m)), .ptr [5000] 0, .d (.lit (.int .i64 i))], [.cells 33 [a0,a1,a2,a3,a4,a5,a6,a7,a8,a9,a10,a11,a12,a13,a14, .d (.slice b 16 xs)]]=>(IsE [a0,a1,a2,a3,a4,a5,a6,a7,a8,a9,a10,a11,a12,a13,a14, .d (.slice b 16 xs)]∧N=60∧rec=L9∧i=0∧G6 xs∧∀y∈xs,D0 y∧dsz y<κ)∧k (.exit 0) [A3 (a5b rec xs m)] []
 | _,_=>False }
theorem b48 (κ:Nat) (y:D) (i:Int) (m:Int) (R:X→List V→List Box→Prop):(D7 (Cn (U48 κ)) (U48 κ) D4 0 C5 B1 l48 60 [1,2,5] [[5000]] [] [([5000], [5000])] [1] []
 [A3 m,V.ptr [5000] 0,A3 i] [G5 y] R) =
 (bif bif decide (i<(↑(A2 (A0 y 15)).length:Int)) then decide (m≤100) else false then
 ((((0:Int)≤i)∧(i.toNat<(A2 (A0 y 15)).length∧eV ((A2 (A0 y 15)).getD i.toNat D.any)=(A2 (A0 y 15)).getD i.toNat D.any))∧
 ((D0 (eV ((A2 (A0 y 15)).getD i.toNat D.any))∧μ1 [eV ((A2 (A0 y 15)).getD i.toNat D.any),iD m]<κ)∧
 (60=60∧
 R X.normal
 [A3 (L9 (eV ((A2 (A0 y 15)).getD i.toNat D.any)) m),V.ptr [5000] 0,
 A3 (IntKind.i64.wrap (i+1))]
 [G5 y]))) else
 (60=60∧
 R (X.exit 0) [A3 m] [])):=by kernel_rfl
theorem w48 (rec:D→Int→Int) (κ:Nat) (y:D) (n:Int) (p:V→Prop):(B7 (Cn (U48 κ)) (U48 κ) D4 0 (spL [(16,S48 rec κ)]) B1 48 [V.d (eV y),A3 n] B4.empty fun v H =>
 p (B5 H v)) =
 (bif decide ((↑(A2 (A0 y 10)).length:Int)>100) then
 p (A3 101) else
 (bif bif
 bif A1 (A0 y 11) !=0 then true
 else
 decide (IntKind.i64.wrap ((↑(A2 (A0 y 12)).length:Int)+(↑(A2 (A0 y 13)).length:Int))>0) then
 decide (IntKind.i64.wrap (IntKind.i64.wrap (n+1)+(↑(A2 (A0 y 10)).length:Int))≤100)
 else false then
 (G7 (paV y)∧
 ((IsE (N5 y)∧(60=60∧(rec=L9∧(((0:Int)=0)∧(G6 (A2 (A0 y 15))∧∀(y_1:D),y_1∈A2 (A0 y 15)→D0 y_1∧dsz y_1<κ)))))∧
 p
 (A3 (a5b rec (A2 (A0 y 15))
 (a3x (paV y) (IntKind.i64.wrap (IntKind.i64.wrap (n+1)+(↑(A2 (A0 y 10)).length:Int)))))))) else
 ((IsE (N5 y)∧(60=60∧(rec=L9∧(((0:Int)=0)∧(G6 (A2 (A0 y 15))∧∀(y_1:D),y_1∈A2 (A0 y 15)→D0 y_1∧dsz y_1<κ)))))∧
 p
 (A3 (a5b rec (A2 (A0 y 15))
 (IntKind.i64.wrap (IntKind.i64.wrap (n+1)+(↑(A2 (A0 y 10)).length:Int)))))))):=by kernel_rfl
noncomputable def c20:Ct:=⟨fun | [x]=>D0 x|_=>False,fun | [x]=>some (.lit (.int .i64 (bif false then if 101>L9 x 0 then 101 else L9 x 0 else if 101<L9 x 0 then 101 else L9 x 0)))|_=>none⟩
noncomputable def T20:Tab:=T48.add 20 c20
theorem w20 (y:D) (p:V→Prop):(B7 (Cn T48) T48 D4 0 C5 B1 20 [V.d (eV y)] B4.empty fun v H=>p (B5 H v)) =
 (D0 (eV y)∧
 p
 (A3 (bif false then if 101>L9 (eV y) 0 then 101 else L9 (eV y) 0
 else if 101<L9 (eV y) 0 then 101 else L9 (eV y) 0))):=by kernel_rfl
theorem d9p {xs:List D} {i:Nat} (h:i<xs.length):xs.drop i=xs.getD i .any::xs.drop (i+1):=by
 rw[List.drop_eq_getElem_cons h,List.getD_eq_getElem?_getD,List.getElem?_eq_getElem h];rfl
theorem b3c {r r':D→Int→Int}:∀{xs:List D} {m:Int},(∀a∈xs,r a=r' a)→a5b r xs m=a5b r' xs m
 | [],m,h=>rfl
 | a::l,m,h=>by
  unfold a5b
  rw[h a (.head _),b3c fun b hb=>h b (.tail _ hb)]
theorem d6x (r r':D→Int→Int) (y:D) (h:∀a∈E3 y 2,r a=r' a):d6y r y=d6y r' y:=by
 funext n;unfold d6y;exact b3c h
theorem d9u (y:D):a3x y=d6y a3x y:=X7 (F:=fun rec y=>d6y rec y) d6x y
theorem d6w (r r':D→Int→Int) (y:D) (h:∀a∈E3 y 15,r a=r' a):d3x r y=d3x r' y:=by
 have e:∀m,a5b r (A2 (A0 y 15)) m=a5b r' (A2 (A0 y 15)) m:=fun m=>b3c h
 funext n;unfold d3x;simp only[e]
theorem d9t (y:D):L9 y=d3x L9 y:=X7 (F:=fun rec y=>d3x rec y) d6w y
theorem h7v {κ:Nat} (hk:C2 B (U49 κ)):OkS (Cn (U49 κ)) 0 (.loop l49) (S49 a3x κ):=by
 refine D2 fun N vals bs K h=>?_
 simp only[S49] at h
 split at h
 case h_2=>exact h.elim
 rename_i m i q b1 cs b2 xs
 obtain ⟨⟨rfl,_,rfl,hsh,hx⟩,h⟩:=h
 have main:∀k i (m:Int),i+k=xs.length→K (.exit 0) [A3 (a5b a3x (xs.drop i) m)] []→J5 (Cn (U49 κ)) 0 l49 27 [1,2,5] [[5000]] [1] [] [A3 m, .ptr [5000] 0,A3 i] [r5 q b1 cs b2 xs] K:=by
  intro k
  induction k with
  | zero =>
   intro i m hi h
   have:i=xs.length:=by omega
   subst this
   refine B6 (D1 C4 hk B9) C1 A8 (hn:=B1) (adsI:=[]) (nsI:=[([5000],[5000])]) (nsX:=[]) rfl rfl (keep (b49 κ q cs xs b1 b2 xs.length m _) ?_)
   have e1:decide ((xs.length:Int)<xs.length)=false:=by simp
   rw[e1]
   rw[List.drop_length] at h
   exact ⟨rfl,h⟩
  | succ k ih =>
   intro i m hi h
   refine B6 (D1 C4 hk B9) C1 A8 (hn:=B1) (adsI:=[]) (nsI:=[([5000],[5000])]) (nsX:=[]) rfl rfl (keep (b49 κ q cs xs b1 b2 i m _) ?_)
   have e1:decide ((i:Int)<xs.length)=true:=by simp;omega
   have hs:xs.length≤1152921504606846976:=hsh
   have e2:IntKind.i64.wrap ((i:Int)+1)=((i+1:Nat):Int):=by rw[Go.IntWalk.i64_in _ (by omega)];omega
   obtain ⟨hf,hlt⟩:=hx _ (E1 (xs:=xs) (i:=i) (by omega))
   have hv:=hf.v
   rw[d9p (by omega)] at h
   unfold a5b at h
   rw[e1]
   simp only[Int.toNat_natCast,e2,cond_true,hv]
   refine A4 (fun hb=>?_) (fun hb=>?_)
   ·rw[hb] at h
    exact ⟨⟨by omega,by omega,trivial⟩,⟨hf,hlt⟩,trivial,ih (i+1) _ (by omega) h⟩
   ·rw[hb] at h
    exact ⟨trivial,h⟩
 exact main xs.length 0 m (by omega) (by rw[List.drop_zero];exact h)
theorem k49:C2 B T49:=by
 refine P9 C4 k15 μ1 (fn:=Tryz.f49) (cd:=A7 Tryz.f49) (sp:=fun n=>spL [(6,S49 a3x n)]) (hn:=B1) Tryz.func49 (by kernel_rfl) (by kernel_rfl) (fun n hk=>B8 (c:=.loop l49) (by kernel_rfl) (h7v hk) C8) fun κ ds r hp hm hr=>?_
 unfold c49 at hp hr
 simp only[] at hr hp
 split at hr
 ·rename_i x n
  cases hr
  rw[d7h (G7.v hp)]
  refine keep (w49 a3x κ x n fun v=>v=_) ?_
  rw[d9u]
  exact ⟨⟨rfl,rfl,rfl,(G7.l hp).2,fun y hy=>⟨G7.a hp y hy,hm▸G3 hy⟩⟩,rfl⟩
 ·cases hr
theorem h7w {κ:Nat} (hk:C2 B (U48 κ)):OkS (Cn (U48 κ)) 0 (.loop l48) (S48 L9 κ):=by
 refine D2 fun N vals bs K h=>?_
 simp only[S48] at h
 split at h
 case h_2=>exact h.elim
 rename_i m i a0 a1 a2 a3 a4 a5 a6 a7 a8 a9 a10 a11 a12 a13 a14 b xs
 obtain ⟨⟨⟨y,hy⟩,rfl,_,rfl,hsh,hx⟩,h⟩:=h
 have hxs:xs=A2 (A0 y 15):=by
  have:=congrArg (fun l:List V=>l.getD 15 .any) hy
  simp at this
  exact this.2
 rw[hy]
 subst hxs
 have main:∀k i (m:Int),i+k=(A2 (A0 y 15)).length→K (.exit 0) [A3 (a5b L9 ((A2 (A0 y 15)).drop i) m)] []→J5 (Cn (U48 κ)) 0 l48 60 [1,2,5] [[5000]] [1] [] [A3 m, .ptr [5000] 0,A3 i] [G5 y] K:=by
  intro k
  induction k with
  | zero =>
   intro i m hi h
   have:i=(A2 (A0 y 15)).length:=by omega
   subst this
   refine B6 (D1 C4 hk B9) C1 A8 (hn:=B1) (adsI:=[]) (nsI:=[([5000],[5000])]) (nsX:=[]) rfl rfl (keep (b48 κ y (A2 (A0 y 15)).length m _) ?_)
   have e1:decide (((A2 (A0 y 15)).length:Int)<(A2 (A0 y 15)).length)=false:=by simp
   rw[e1]
   rw[List.drop_length] at h
   exact ⟨rfl,h⟩
  | succ k ih =>
   intro i m hi h
   refine B6 (D1 C4 hk B9) C1 A8 (hn:=B1) (adsI:=[]) (nsI:=[([5000],[5000])]) (nsX:=[]) rfl rfl (keep (b48 κ y i m _) ?_)
   have e1:decide ((i:Int)<(A2 (A0 y 15)).length)=true:=by simp;omega
   have hs:(A2 (A0 y 15)).length≤1152921504606846976:=hsh
   have e2:IntKind.i64.wrap ((i:Int)+1)=((i+1:Nat):Int):=by rw[Go.IntWalk.i64_in _ (by omega)];omega
   obtain ⟨hf,hlt⟩:=hx _ (E1 (xs:=A2 (A0 y 15)) (i:=i) (by omega))
   have hv:=hf.v
   rw[d9p (by omega)] at h
   unfold a5b at h
   rw[e1]
   simp only[Int.toNat_natCast,e2,cond_true,hv]
   refine A4 (fun hb=>?_) (fun hb=>?_)
   ·rw[hb] at h
    exact ⟨⟨by omega,by omega,trivial⟩,⟨hf,hlt⟩,trivial,ih (i+1) _ (by omega) h⟩
   ·rw[hb] at h
    exact ⟨trivial,h⟩
 exact main (A2 (A0 y 15)).length 0 m (by omega) (by rw[List.drop_zero];exact h)
theorem k48:C2 B T48:=by
 refine P9 C4 k49 μ1 (fn:=Tryz.f48) (cd:=A7 Tryz.f48) (sp:=fun n=>spL [(16,S48 L9 n)]) (hn:=B1) Tryz.func48 (by kernel_rfl) (by kernel_rfl) (fun n hk=>B8 (c:=.loop l48) (by kernel_rfl) (h7w hk) C8) fun κ ds r hp hm hr=>?_
 unfold c48 at hp hr
 simp only[] at hr hp
 split at hr
 ·rename_i x n
  cases hr
  rw[d7h (D0.v hp)]
  refine keep (w48 L9 κ x n fun v=>v=_) ?_
  rw[d9t]
  unfold d3x
  have hE:IsE (N5 x):=⟨x,rfl⟩
  have hs:G6 (A2 (A0 x 15)):=(D0.l hp).2.2
  have ha:∀y∈A2 (A0 x 15),D0 y∧dsz y<κ:=fun y hy=>⟨D0.a hp y hy,hm▸G3 hy⟩
  (repeat' (first|with_reducible rfl | (refine A4 (fun hcw=>?_) (fun hcw=>?_)<;>simp only[hcw,cond_true,cond_false])|refine S4 ?_ ?_))
  all_goals first|trivial|assumption|exact hE|exact D0.p hp
 ·cases hr
theorem k20:C2 B T20:=by
 refine C3 C4 k48 (fn:=Tryz.f20) (cd:=A7 Tryz.f20) (sp:=C5) (hn:=B1) Tryz.func20 (by kernel_rfl) (by kernel_rfl) A8 fun ds r hp hr=>?_
 unfold c20 at hp hr
 simp only[] at hr hp
 split at hr
 ·rename_i x
  cases hr
  rw[W1 (D0.v hp)]
  refine keep (w20 x fun v=>v=_) ?_
  rw[D0.v hp]
  exact ⟨hp,rfl⟩
 ·cases hr
def N0 (f:D→Bool) (xs:List D) (i:Nat):Option Bool:=bif f (xs.getD i .any) then some true else none
def e3o (y:D):Bool:=bif (bif decide (((A5 (A0 y 1)).size:Int)>61) then true else (bif decide (((A5 (A0 y 2)).size:Int)>40) then decide (A1 (A0 y 0)>2) else false)) then true else decide (((A5 (A0 y 2)).size:Int)>201)
noncomputable def l51:Code:=D6 (C6 (A7 Tryz.f51) 4)
noncomputable def S51:Ev.Spec:={L:=[0,3],ns:=[],L':=[0,2],nm':=[],G:=fun N vals bs k=>match vals,bs with
 | [.d (.slice b 3 xs), .d (.lit (.int .i64 i))], []=>(N=46∧i=0∧G6 xs∧∀y∈xs,a2a y)∧P7 (C0 (N0 e3o xs) xs.length) (k (.exit 0) [.d (.slice b 3 xs), .any] []) (fun e=>k .ret [.d (.slice b 3 xs),A9 e] [])
 | _,_=>False }
theorem b51 (xs:List D) (i:Int) (b:Bool) (R:X→List V→List Box→Prop):(D7 (Cn T20) T20 D4 0 C5 B1 l51 46 [0,3] [] [] [] [0,2] [] [V.d (D.slice b 3 xs),A3 i] [] R) =
 (bif decide (i<(↑xs.length:Int)) then
 ((((0:Int)≤i)∧(i.toNat<xs.length∧mV (xs.getD i.toNat D.any)=xs.getD i.toNat D.any))∧
 (((!decide ((↑(A5 (A0 (xs.getD i.toNat D.any) 1)).size:Int)>61)&&true)=true→(((0:Int)≤i)∧(i.toNat<xs.length∧mV (xs.getD i.toNat D.any)=xs.getD i.toNat D.any)))∧
 (((decide ((↑(A5 (A0 (xs.getD i.toNat D.any) 2)).size:Int)>40) &&
 (!decide ((↑(A5 (A0 (xs.getD i.toNat D.any) 1)).size:Int)>61)&&true)) =
 true→(((0:Int)≤i)∧(i.toNat<xs.length∧mV (xs.getD i.toNat D.any)=xs.getD i.toNat D.any)))∧
 ((((!bif decide ((↑(A5 (A0 (xs.getD i.toNat D.any) 1)).size:Int)>61) then true
 else
 bif decide ((↑(A5 (A0 (xs.getD i.toNat D.any) 2)).size:Int)>40) then
 decide (A1 (A0 (xs.getD i.toNat D.any) 0)>2)
 else false) &&
 true) =
 true→(((0:Int)≤i)∧(i.toNat<xs.length∧mV (xs.getD i.toNat D.any)=xs.getD i.toNat D.any)))∧
 (bif bif
 bif decide ((↑(A5 (A0 (xs.getD i.toNat D.any) 1)).size:Int)>61) then true
 else
 bif decide ((↑(A5 (A0 (xs.getD i.toNat D.any) 2)).size:Int)>40) then
 decide (A1 (A0 (xs.getD i.toNat D.any) 0)>2)
 else false then
 true
 else decide ((↑(A5 (A0 (xs.getD i.toNat D.any) 2)).size:Int)>201) then
 (46=46∧
 R X.ret [V.d (D.slice b 3 xs),A9 true] []) else
 (46=46∧
 R X.normal [V.d (D.slice b 3 xs),A3 (IntKind.i64.wrap (i+1))] [])))))) else
 (46=46∧
 R (X.exit 0) [V.d (D.slice b 3 xs),V.any] [])):=by kernel_rfl
theorem w51 (xs:List D) (b:Bool) (p:V→Prop):(B7 (Cn T20) T20 D4 0 (spL [(4,S51)]) B1 51 [V.d (D.slice b 3 xs)] B4.empty fun v H=>p (B5 H v)) =
 ((46=46∧(((0:Int)=0)∧(G6 xs∧∀(y:D),y∈xs→a2a y)))∧
 (match C0 (N0 e3o xs) xs.length with
 | some y0 =>
 p (A9 y0)
 | none=>p (A9 (decide ((↑xs.length:Int)>17))))):=by kernel_rfl
noncomputable def U9 (xs:List D):Bool :=
 (match C0 (N0 e3o xs) xs.length with
 | some y0=>y0
 | none=>(decide ((↑xs.length:Int)>17)))
noncomputable def c51:Ct:=⟨fun | [.slice _ z xs]=>z=3∧G6 xs∧∀y∈xs,a2a y|_=>False,fun | [.slice _ _ xs]=>some (.lit (.bool (U9 xs)))|_=>none⟩
noncomputable def T51:Tab:=T20.add 51 c51
def e3j (y:D):Bool:=decide (((A5 y).size:Int)>70)
noncomputable def l52:Code:=D6 (C6 (A7 Tryz.f52) 4)
noncomputable def S52:Ev.Spec:={L:=[0,3],ns:=[],L':=[0,2],nm':=[],G:=fun N vals bs k=>match vals,bs with
 | [.d (.slice b 1 xs), .d (.lit (.int .i64 i))], []=>(N=19∧i=0∧G6 xs∧∀y∈xs,a2d y)∧P7 (C0 (N0 e3j xs) xs.length) (k (.exit 0) [.d (.slice b 1 xs), .any] []) (fun e=>k .ret [.d (.slice b 1 xs),A9 e] [])
 | _,_=>False }
theorem b52 (xs:List D) (i:Int) (b:Bool) (R:X→List V→List Box→Prop):(D7 (Cn T51) T51 D4 0 C5 B1 l52 19 [0,3] [] [] [] [0,2] [] [V.d (D.slice b 1 xs),A3 i] [] R) =
 (bif decide (i<(↑xs.length:Int)) then
 ((((0:Int)≤i)∧(i.toNat<xs.length∧zD (A5 (xs.getD i.toNat D.any))=xs.getD i.toNat D.any))∧
 (bif decide ((↑(A5 (xs.getD i.toNat D.any)).size:Int)>70) then
 (19=19∧
 R X.ret [V.d (D.slice b 1 xs),A9 true] []) else
 (19=19∧
 R X.normal [V.d (D.slice b 1 xs),A3 (IntKind.i64.wrap (i+1))] []))) else
 (19=19∧
 R (X.exit 0) [V.d (D.slice b 1 xs),V.any] [])):=by kernel_rfl
theorem w52 (xs:List D) (b:Bool) (p:V→Prop):(B7 (Cn T51) T51 D4 0 (spL [(4,S52)]) B1 52 [V.d (D.slice b 1 xs)] B4.empty fun v H=>p (B5 H v)) =
 ((19=19∧(((0:Int)=0)∧(G6 xs∧∀(y:D),y∈xs→a2d y)))∧
 (match C0 (N0 e3j xs) xs.length with
 | some y0 =>
 p (A9 y0)
 | none=>p (A9 (decide ((↑xs.length:Int)>17))))):=by kernel_rfl
noncomputable def a8o (xs:List D):Bool :=
 (match C0 (N0 e3j xs) xs.length with
 | some y0=>y0
 | none=>(decide ((↑xs.length:Int)>17)))
noncomputable def c52:Ct:=⟨fun | [.slice _ z xs]=>z=1∧G6 xs∧∀y∈xs,a2d y|_=>False,fun | [.slice _ _ xs]=>some (.lit (.bool (a8o xs)))|_=>none⟩
noncomputable def T52:Tab:=T51.add 52 c52
noncomputable def l22:Code:=D6 (C6 (A7 Tryz.f22) 8)
theorem b22 (xs:List D) (i:Int) (b:Bool) (R:X→List V→List Box→Prop):(D7 (Cn T52) T52 D4 0 C5 B1 l22 45 [0,3] [] [] [] [2] [] [V.d (D.slice b 4 xs),A3 i] [] R) =
 (bif bif decide (i<(↑xs.length:Int)) then decide (i<12) else false then
 ((((0:Int)≤i)∧(i.toNat<xs.length∧gV (xs.getD i.toNat D.any)=xs.getD i.toNat D.any))∧
 (((!decide ((↑(A5 (A0 (xs.getD i.toNat D.any) 1)).size:Int)>210)&&true)=true→(((0:Int)≤i)∧(i.toNat<xs.length∧gV (xs.getD i.toNat D.any)=xs.getD i.toNat D.any)))∧
 (((!decide ((↑(A5 (A0 (xs.getD i.toNat D.any) 1)).size:Int)>210)&&true)=true→(3=3∧(G6 (A2 (A0 (xs.getD i.toNat D.any) 2))∧∀(y:D),y∈A2 (A0 (xs.getD i.toNat D.any) (0+1+1))→a2a y)))∧
 ((((!bif decide ((↑(A5 (A0 (xs.getD i.toNat D.any) 1)).size:Int)>210) then true
 else U9 (A2 (A0 (xs.getD i.toNat D.any) 2))) &&
 true) =
 true→(((0:Int)≤i)∧(i.toNat<xs.length∧gV (xs.getD i.toNat D.any)=xs.getD i.toNat D.any)))∧
 ((((!bif decide ((↑(A5 (A0 (xs.getD i.toNat D.any) 1)).size:Int)>210) then true
 else U9 (A2 (A0 (xs.getD i.toNat D.any) 2))) &&
 true) =
 true→(1=1∧(G6 (A2 (A0 (xs.getD i.toNat D.any) 3))∧∀(y:D),y∈A2 (A0 (xs.getD i.toNat D.any) (0+1+1+1))→a2d y)))∧
 (bif bif
 bif decide ((↑(A5 (A0 (xs.getD i.toNat D.any) 1)).size:Int)>210) then true
 else U9 (A2 (A0 (xs.getD i.toNat D.any) 2)) then
 true
 else a8o (A2 (A0 (xs.getD i.toNat D.any) 3)) then
 (45=45∧
 R X.ret [A9 true] []) else
 (45=45∧
 R X.normal [V.d (D.slice b 4 xs),A3 (IntKind.i64.wrap (i+1))] []))))))) else
 (45=45∧
 R (X.exit 0) [V.any] [])):=by kernel_rfl
noncomputable def e3z (y:D):Bool:=bif (bif decide (((A5 (A0 y 1)).size:Int)>210) then true else U9 (A2 (A0 y 2))) then true else a8o (A2 (A0 y 3))
noncomputable def S22:Ev.Spec:={L:=[0,3],ns:=[],L':=[2],nm':=[],G:=fun N vals bs k=>match vals,bs with
 | [.d (.slice b 4 xs), .d (.lit (.int .i64 i))], []=>(N=45∧i=0∧G6 xs∧∀y∈xs,a2e y)∧P7 (C0 (N0 e3z xs) (min xs.length 12)) (k (.exit 0) [.any] []) (fun e=>k .ret [A9 e] [])
 | _,_=>False }
theorem w22 (xs:List D) (b:Bool) (p:V→Prop):(B7 (Cn T52) T52 D4 0 (spL [(8,S22)]) B1 22 [V.d (D.slice b 4 xs)] B4.empty fun v H=>p (B5 H v)) =
 (bif bif decide ((↑xs.length:Int)>12) then decide ((↑xs.length:Int)≤100) else false then
 p (A9 true) else
 ((45=45∧(((0:Int)=0)∧(G6 xs∧∀(y:D),y∈xs→a2e y)))∧
 (match C0 (N0 e3z xs) (min xs.length 12) with
 | some y0 =>
 p (A9 y0)
 | none=>p (A9 false)))):=by kernel_rfl
noncomputable def b3k (xs:List D):Bool :=
 (bif bif decide ((↑xs.length:Int)>12) then decide ((↑xs.length:Int)≤100) else false then
 true else
 (match C0 (N0 e3z xs) (min xs.length 12) with
 | some y0=>y0
 | none=>false))
noncomputable def c22:Ct:=⟨fun | [.slice _ z xs]=>z=4∧G6 xs∧∀y∈xs,a2e y|_=>False,fun | [.slice _ _ xs]=>some (.lit (.bool (b3k xs)))|_=>none⟩
noncomputable def T22:Tab:=T52.add 22 c22
theorem h7u:OkS (Cn T20) 0 (.loop l51) S51:=by
 refine D2 fun N vals bs K h=>?_
 simp only[S51] at h
 split at h
 case h_2=>exact h.elim
 rename_i b xs i
 obtain ⟨⟨rfl,rfl,hsh,hall⟩,h⟩:=h
 have hs:xs.length≤1152921504606846976:=hsh
 refine F5 (D1 C4 k20 B9) C1 A8 (hn:=B1) (adsI:=[]) (nsI:=[]) (nsX:=[]) rfl rfl xs.length
  (fun i=>[.d (.slice b 3 xs),A3 i]) (fun _=>[]) (N0 e3o xs) (fun e=>(.ret, [.d (.slice b 3 xs),A9 e], [])) (by simp) (.exit 0) [.d (.slice b 3 xs), .any] [] (by simp) ?_ ?_ h
 ·intro i R hi hR
  refine keep (b51 xs i b R) ?_
  have e1:decide ((i:Int)<xs.length)=true:=by simp;omega
  have e2:IntKind.i64.wrap ((i:Int)+1)=((i+1:Nat):Int):=by rw[Go.IntWalk.i64_in _ (by omega)];omega
  have hv:=hall _ (E1 hi)
  have hg:(0:Int)≤i∧i<xs.length∧mV (xs.getD i .any)=xs.getD i .any:=⟨by omega,hi,hv⟩
  rw[e1]
  simp only[Int.toNat_natCast,e2,cond_true]
  refine ⟨hg,fun _=>hg,fun _=>hg,fun _=>hg,A4 (fun h1=>⟨trivial, ?_⟩) (fun h1=>⟨trivial, ?_⟩)⟩<;>(simp only[N0,e3o,h1,cond_true,cond_false,P7] at hR;exact hR)
 ·intro R hR
  refine keep (b51 xs xs.length b R) ?_
  have e1:decide ((xs.length:Int)<xs.length)=false:=by simp
  rw[e1]
  exact ⟨rfl,hR⟩
theorem k51:C2 B T51:=by
 refine C3 C4 k20 (fn:=Tryz.f51) (cd:=A7 Tryz.f51) (sp:=spL [(4,S51)]) (hn:=B1) Tryz.func51 (by kernel_rfl) (by kernel_rfl) (B8 (c:=.loop l51) (by kernel_rfl) h7u C8) fun ds r hp hr=>?_
 unfold c51 at hp hr
 simp only[] at hr hp
 split at hr
 ·rename_i b z xs
  cases hr
  obtain ⟨rfl,hs,hall⟩:=hp
  refine keep (w51 xs b fun v=>v=_) ?_
  unfold U9
  refine ⟨⟨rfl,rfl,hs,hall⟩, ?_⟩
  cases C0 (N0 e3o xs) xs.length<;>rfl
 ·cases hr
theorem h7t:OkS (Cn T51) 0 (.loop l52) S52:=by
 refine D2 fun N vals bs K h=>?_
 simp only[S52] at h
 split at h
 case h_2=>exact h.elim
 rename_i b xs i
 obtain ⟨⟨rfl,rfl,hsh,hall⟩,h⟩:=h
 have hs:xs.length≤1152921504606846976:=hsh
 refine F5 (D1 C4 k51 B9) C1 A8 (hn:=B1) (adsI:=[]) (nsI:=[]) (nsX:=[]) rfl rfl xs.length
  (fun i=>[.d (.slice b 1 xs),A3 i]) (fun _=>[]) (N0 e3j xs) (fun e=>(.ret, [.d (.slice b 1 xs),A9 e], [])) (by simp) (.exit 0) [.d (.slice b 1 xs), .any] [] (by simp) ?_ ?_ h
 ·intro i R hi hR
  refine keep (b52 xs i b R) ?_
  have e1:decide ((i:Int)<xs.length)=true:=by simp;omega
  have e2:IntKind.i64.wrap ((i:Int)+1)=((i+1:Nat):Int):=by rw[Go.IntWalk.i64_in _ (by omega)];omega
  have hv:=hall _ (E1 hi)
  have hg:(0:Int)≤i∧i<xs.length∧D.lit (Value.string (A5 (xs.getD i .any)))=xs.getD i .any:=⟨by omega,hi,hv⟩
  rw[e1]
  simp only[Int.toNat_natCast,e2,cond_true]
  refine ⟨hg,A4 (fun h1=>⟨trivial, ?_⟩) (fun h1=>⟨trivial, ?_⟩)⟩<;>(simp only[N0,e3j,h1,cond_true,cond_false,P7] at hR;exact hR)
 ·intro R hR
  refine keep (b52 xs xs.length b R) ?_
  have e1:decide ((xs.length:Int)<xs.length)=false:=by simp
  rw[e1]
  exact ⟨rfl,hR⟩
theorem k52:C2 B T52:=by
 refine C3 C4 k51 (fn:=Tryz.f52) (cd:=A7 Tryz.f52) (sp:=spL [(4,S52)]) (hn:=B1) Tryz.func52 (by kernel_rfl) (by kernel_rfl) (B8 (c:=.loop l52) (by kernel_rfl) h7t C8) fun ds r hp hr=>?_
 unfold c52 at hp hr
 simp only[] at hr hp
 split at hr
 ·rename_i b z xs
  cases hr
  obtain ⟨rfl,hs,hall⟩:=hp
  refine keep (w52 xs b fun v=>v=_) ?_
  unfold a8o
  refine ⟨⟨rfl,rfl,hs,hall⟩, ?_⟩
  cases C0 (N0 e3j xs) xs.length<;>rfl
 ·cases hr
theorem h8h:OkS (Cn T52) 0 (.loop l22) S22:=by
 refine D2 fun N vals bs K h=>?_
 simp only[S22] at h
 split at h
 case h_2=>exact h.elim
 rename_i b xs i
 obtain ⟨⟨rfl,rfl,hsh,hall⟩,h⟩:=h
 have hs:xs.length≤1152921504606846976:=hsh
 refine F5 (D1 C4 k52 B9) C1 A8 (hn:=B1) (adsI:=[]) (nsI:=[]) (nsX:=[]) rfl rfl (min xs.length 12)
  (fun i=>[.d (.slice b 4 xs),A3 i]) (fun _=>[]) (N0 e3z xs) (fun e=>(.ret, [A9 e], [])) (by simp) (.exit 0) [.any] [] (by simp) ?_ ?_ h
 ·intro i R hi hR
  have hi':i<xs.length:=by omega
  refine keep (b22 xs i b R) ?_
  have e1:decide ((i:Int)<xs.length)=true:=by simp;omega
  have e0:decide ((i:Int)<12)=true:=by simp;omega
  have e2:IntKind.i64.wrap ((i:Int)+1)=((i+1:Nat):Int):=by rw[Go.IntWalk.i64_in _ (by omega)];omega
  have hv:=hall _ (E1 hi')
  have hg:(0:Int)≤i∧i<xs.length∧gV (xs.getD i .any)=xs.getD i .any:=⟨by omega,hi',hv.v⟩
  rw[e1,e0]
  simp only[Int.toNat_natCast,e2,cond_true]
  refine ⟨hg,fun _=>hg,fun _=>⟨trivial,hv.ml,hv.m⟩,fun _=>hg,fun _=>⟨trivial,hv.nl,hv.n⟩,A4 (fun h1=>⟨trivial, ?_⟩) (fun h1=>⟨trivial, ?_⟩)⟩<;>(simp only[N0,e3z,h1,cond_true,cond_false,P7] at hR;exact hR)
 ·intro R hR
  refine keep (b22 xs (min xs.length 12:Nat) b R) ?_
  have e1:(bif decide (((min xs.length 12:Nat):Int)<xs.length) then decide (((min xs.length 12:Nat):Int)<12) else false)=false:=by
   by_cases h:xs.length≤12
   ·have:decide (((min xs.length 12:Nat):Int)<xs.length)=false:=by simp;omega
    rw[this];rfl
   ·have:decide (((min xs.length 12:Nat):Int)<12)=false:=by simp;omega
    rw[this];cases decide (((min xs.length 12:Nat):Int)<xs.length)<;>rfl
  rw[e1]
  exact ⟨rfl,hR⟩
theorem k22:C2 B T22:=by
 refine C3 C4 k52 (fn:=Tryz.f22) (cd:=A7 Tryz.f22) (sp:=spL [(8,S22)]) (hn:=B1) Tryz.func22 (by kernel_rfl) (by kernel_rfl) (B8 (c:=.loop l22) (by kernel_rfl) h8h C8) fun ds r hp hr=>?_
 unfold c22 at hp hr
 simp only[] at hr hp
 split at hr
 ·rename_i b z xs
  cases hr
  obtain ⟨rfl,hs,hall⟩:=hp
  refine keep (w22 xs b fun v=>v=_) ?_
  unfold b3k
  generalize C0 (N0 e3z xs) (min xs.length 12)=o1
  cases o1<;>(repeat' (first|with_reducible rfl | (refine A4 (fun hcw=>?_) (fun hcw=>?_)<;>simp only[hcw,cond_true,cond_false])|refine S4 ?_ ?_))
  all_goals first|trivial|assumption
 ·cases hr
noncomputable def e4z (y:D):Bool:=bif decide (((A5 (A0 y 2)).size:Int)>210) then true else decide (((A5 (A0 y 0)).size:Int)>100)
noncomputable def gpT (rec:D→Bool) (y:D):Bool :=
 (bif decide ((↑(A2 (A0 y 1)).length:Int)>17) then
 true else
 (match C0 (N0 e4z (A2 (A0 y 1))) (A2 (A0 y 1)).length with
 | some y1=>y1
 | none=>(match C0 (N0 rec (A2 (A0 y 2))) (A2 (A0 y 2)).length with
 | some y0=>y0
 | none=>false)))
noncomputable def gpE (y:D):Bool:=b2x gpT false (dsz y+1) y
noncomputable def c50:Ct:=⟨fun | [x]=>G7 x|_=>False,fun | [x]=>some (.lit (.bool (gpE x)))|_=>none⟩
noncomputable def U50 (κ:Nat):Tab:=T22.add 50 (c50.below μ1 κ)
noncomputable def T50:Tab:=T22.add 50 c50
noncomputable def g2v:Code:=D6 (C6 (A7 Tryz.f50) 8)
noncomputable def g2u:Code:=D6 (C6 (A7 Tryz.f50) 18)
noncomputable def f7n:Ev.Spec:={L:=[1,3],ns:=[([5000],[3])],L':=[1,2],nm':=[[5000]],G:=fun N vals bs k=>match vals,bs with
 | [.ptr [5000] 0, .d (.lit (.int .i64 i))], [.cells 30 [.d (.lit (.int .i64 q)), .d (.slice b1 4 cs), .d (.slice b2 3 xs)]]=>(N=47∧i=0∧G6 cs∧∀y∈cs,a4z y)∧P7 (C0 (N0 e4z cs) cs.length) (k (.exit 0) [.ptr [5000] 0, .any] [r5 q b1 cs b2 xs]) (fun e=>k .ret [.ptr [5000] 0,A9 e] [r5 q b1 cs b2 xs])
 | _,_=>False }
noncomputable def f7m (rec:D→Bool) (κ:Nat):Ev.Spec:={L:=[1,4],ns:=[([5000],[5000])],L':=[2],nm':=[],G:=fun N vals bs k=>match vals,bs with
 | [.ptr [5000] 0, .d (.lit (.int .i64 i))], [.cells 30 [.d (.lit (.int .i64 q)), .d (.slice b1 4 cs), .d (.slice b2 3 xs)]]=>(N=47∧rec=gpE∧i=0∧G6 xs∧∀y∈xs,G7 y∧dsz y<κ)∧P7 (C0 (N0 rec xs) xs.length) (k (.exit 2) [.any] []) (fun e=>k .ret [A9 e] [])
 | _,_=>False }
theorem h2v (κ:Nat) (q:Int) (cs:List D) (xs:List D) (b1:Bool) (b2:Bool) (i:Int) (R:X→List V→List Box→Prop):(D7 (Cn (U50 κ)) (U50 κ) D4 0 C5 B1 g2v 47 [1,3] [[5000]] [] [([5000], [5000])] [1,2] [([5000], [5000])]
 [V.ptr [5000] 0,A3 i] [r5 q b1 cs b2 xs] R) =
 (bif decide (i<(↑cs.length:Int)) then
 ((((0:Int)≤i)∧(i.toNat<cs.length∧cV (cs.getD i.toNat D.any)=cs.getD i.toNat D.any))∧
 (((!decide ((↑(A5 (A0 (cs.getD i.toNat D.any) 2)).size:Int)>210)&&true)=true→(((0:Int)≤i)∧(i.toNat<cs.length∧cV (cs.getD i.toNat D.any)=cs.getD i.toNat D.any)))∧
 (bif bif decide ((↑(A5 (A0 (cs.getD i.toNat D.any) 2)).size:Int)>210) then true
 else decide ((↑(A5 (A0 (cs.getD i.toNat D.any) 0)).size:Int)>100) then
 (47=47∧
 R X.ret [V.ptr [5000] 0,A9 true]
 [Box.cells 30 [A3 q,V.d (D.slice b1 4 cs),V.d (D.slice b2 3 xs)]]) else
 (47=47∧
 R X.normal [V.ptr [5000] 0,A3 (IntKind.i64.wrap (i+1))]
 [Box.cells 30 [A3 q,V.d (D.slice b1 4 cs),V.d (D.slice b2 3 xs)]])))) else
 (47=47∧
 R (X.exit 0) [V.ptr [5000] 0,V.any]
 [Box.cells 30 [A3 q,V.d (D.slice b1 4 cs),V.d (D.slice b2 3 xs)]])):=by kernel_rfl
theorem h2u (κ:Nat) (q:Int) (cs:List D) (xs:List D) (b1:Bool) (b2:Bool) (i:Int) (R:X→List V→List Box→Prop):(D7 (Cn (U50 κ)) (U50 κ) D4 0 C5 B1 g2u 47 [1,4] [[5000]] [] [([5000], [5000])] [2] []
 [V.ptr [5000] 0,A3 i] [r5 q b1 cs b2 xs] R) =
 (bif decide (i<(↑xs.length:Int)) then
 ((((0:Int)≤i)∧(i.toNat<xs.length∧pV (xs.getD i.toNat D.any)=xs.getD i.toNat D.any))∧
 ((G7 (pV (xs.getD i.toNat D.any))∧μ1 [pV (xs.getD i.toNat D.any)]<κ)∧
 (bif gpE (pV (xs.getD i.toNat D.any)) then
 (47=47∧
 R X.ret [A9 true] []) else
 (47=47∧
 R X.normal [V.ptr [5000] 0,A3 (IntKind.i64.wrap (i+1))]
 [Box.cells 30 [A3 q,V.d (D.slice b1 4 cs),V.d (D.slice b2 3 xs)]])))) else
 (47=47∧
 R (X.exit 2) [V.any] [])):=by kernel_rfl
theorem w50 (rec:D→Bool) (κ:Nat) (y:D) (p:V→Prop):(B7 (Cn (U50 κ)) (U50 κ) D4 0 (spL [(8,f7n),(18,f7m rec κ)]) B1 50 [V.d (pV y)] B4.empty fun v H =>
 p (B5 H v)) =
 (bif decide ((↑(A2 (A0 y 1)).length:Int)>17) then
 p (A9 true) else
 ((47=47∧(((0:Int)=0)∧(G6 (A2 (A0 y 1))∧∀(y_1:D),y_1∈A2 (A0 y 1)→a4z y_1)))∧
 (match C0 (N0 e4z (A2 (A0 y 1))) (A2 (A0 y 1)).length with
 | some y1 =>
 p (A9 y1)
 | none=>((47=47∧(rec=gpE∧(((0:Int)=0)∧(G6 (A2 (A0 y 2))∧∀(y_1:D),y_1∈A2 (A0 y 2)→G7 y_1∧dsz y_1<κ))))∧
 (match C0 (N0 rec (A2 (A0 y 2))) (A2 (A0 y 2)).length with
 | some y0 =>
 p (A9 y0)
 | none=>p (A9 false)))))):=by kernel_rfl
noncomputable def goT (rec:D→Bool) (y:D):Bool :=
 (bif bif
 bif
 bif bif decide ((↑(A5 (A0 y 14)).size:Int)>210) then true else U9 (A2 (A0 y 2)) then
 true
 else a8o (A2 (A0 y 7)) then
 true
 else b3k (A2 (A0 y 10)) then
 true
 else gpE (paV y) then
 true else
 (match C0 (N0 rec (A2 (A0 y 15))) (A2 (A0 y 15)).length with
 | some y0=>y0
 | none=>false))
noncomputable def goE (y:D):Bool:=b2x goT false (dsz y+1) y
noncomputable def c38:Ct:=⟨fun | [x]=>D0 x|_=>False,fun | [x]=>some (.lit (.bool (goE x)))|_=>none⟩
noncomputable def U38 (κ:Nat):Tab:=T50.add 38 (c38.below μ1 κ)
noncomputable def T38:Tab:=T50.add 38 c38
noncomputable def l38:Code:=D6 (C6 (A7 Tryz.f38) 8)
noncomputable def S38 (rec:D→Bool) (κ:Nat):Ev.Spec:={L:=[1,3],ns:=[([5000],[3])],L':=[2],nm':=[],G:=fun N vals bs k=>match vals,bs with
 | [.ptr [5000] 0, .d (.lit (.int .i64 i))], [.cells 33 [a0,a1,a2,a3,a4,a5,a6,a7,a8,a9,a10,a11,a12,a13,a14, .d (.slice b 16 xs)]]=>(IsE [a0,a1,a2,a3,a4,a5,a6,a7,a8,a9,a10,a11,a12,a13,a14, .d (.slice b 16 xs)]∧N=41∧rec=goE∧i=0∧G6 xs∧∀y∈xs,D0 y∧dsz y<κ)∧P7 (C0 (N0 rec xs) xs.length) (k (.exit 0) [.any] []) (fun e=>k .ret [A9 e] [])
 | _,_=>False }
theorem b38 (κ:Nat) (y:D) (i:Int) (R:X→List V→List Box→Prop):(D7 (Cn (U38 κ)) (U38 κ) D4 0 C5 B1 l38 41 [1,3] [[5000]] [] [([5000], [5000])] [2] []
 [V.ptr [5000] 0,A3 i] [G5 y] R) =
 (bif decide (i<(↑(A2 (A0 y 15)).length:Int)) then
 ((((0:Int)≤i)∧(i.toNat<(A2 (A0 y 15)).length∧eV ((A2 (A0 y 15)).getD i.toNat D.any)=(A2 (A0 y 15)).getD i.toNat D.any))∧
 ((D0 (eV ((A2 (A0 y 15)).getD i.toNat D.any))∧μ1 [eV ((A2 (A0 y 15)).getD i.toNat D.any)]<κ)∧
 (bif goE (eV ((A2 (A0 y 15)).getD i.toNat D.any)) then
 (41=41∧
 R X.ret [A9 true] []) else
 (41=41∧
 R X.normal [V.ptr [5000] 0,A3 (IntKind.i64.wrap (i+1))]
 [G5 y])))) else
 (41=41∧
 R (X.exit 0) [V.any] [])):=by kernel_rfl
theorem w38 (rec:D→Bool) (κ:Nat) (y:D) (p:V→Prop):(B7 (Cn (U38 κ)) (U38 κ) D4 0 (spL [(8,S38 rec κ)]) B1 38 [V.d (eV y)] B4.empty fun v H=>p (B5 H v)) =
 (((!decide ((↑(A5 (A0 y 14)).size:Int)>210)&&true)=true→(3=3∧(G6 (A2 (A0 y 2))∧∀(y_1:D),y_1∈A2 (A0 y 2)→a2a y_1)))∧
 ((((!bif decide ((↑(A5 (A0 y 14)).size:Int)>210) then true else U9 (A2 (A0 y 2)))&&true)=true→(1=1∧(G6 (A2 (A0 y 7))∧∀(y_1:D),y_1∈A2 (A0 y 7)→a2d y_1)))∧
 ((((!bif bif decide ((↑(A5 (A0 y 14)).size:Int)>210) then true else U9 (A2 (A0 y 2)) then true
 else a8o (A2 (A0 y 7))) &&
 true) =
 true→(4=4∧(G6 (A2 (A0 y 10))∧∀(y_1:D),y_1∈A2 (A0 y 10)→a2e y_1)))∧
 ((((!bif
 bif bif decide ((↑(A5 (A0 y 14)).size:Int)>210) then true else U9 (A2 (A0 y 2)) then
 true
 else a8o (A2 (A0 y 7)) then
 true
 else b3k (A2 (A0 y 10))) &&
 true) =
 true→G7 (paV y))∧
 (bif bif
 bif
 bif bif decide ((↑(A5 (A0 y 14)).size:Int)>210) then true else U9 (A2 (A0 y 2)) then
 true
 else a8o (A2 (A0 y 7)) then
 true
 else b3k (A2 (A0 y 10)) then
 true
 else gpE (paV y) then
 p (A9 true) else
 ((IsE (N5 y)∧(41=41∧(rec=goE∧(((0:Int)=0)∧(G6 (A2 (A0 y 15))∧∀(y_1:D),y_1∈A2 (A0 y 15)→D0 y_1∧dsz y_1<κ)))))∧
 (match C0 (N0 rec (A2 (A0 y 15))) (A2 (A0 y 15)).length with
 | some y0 =>
 p (A9 y0)
 | none=>p (A9 false)))))))):=by kernel_rfl
theorem w13 (y:D) (p:V→Prop):(B7 (Cn T38) T38 D4 0 C5 B1 13 [V.d (eV y)] B4.empty fun v H=>p (B5 H v)) =
 (D0 (eV y)∧
 (((!decide
 ((bif false then if 101>L9 (eV y) 0 then 101 else L9 (eV y) 0
 else if 101<L9 (eV y) 0 then 101 else L9 (eV y) 0) >
 20) &&
 (decide
 ((bif false then if 101>L9 (eV y) 0 then 101 else L9 (eV y) 0
 else if 101<L9 (eV y) 0 then 101 else L9 (eV y) 0)≤
 100) &&
 true)) =
 true→D0 (eV y))∧
 p
 (A9 (bif
 decide
 ((bif false then if 101>L9 (eV y) 0 then 101 else L9 (eV y) 0
 else if 101<L9 (eV y) 0 then 101 else L9 (eV y) 0)≤
 100) then
 bif
 decide
 ((bif false then if 101>L9 (eV y) 0 then 101 else L9 (eV y) 0
 else if 101<L9 (eV y) 0 then 101 else L9 (eV y) 0) >
 20) then
 true
 else goE (eV y)
 else false)))):=by kernel_rfl
noncomputable def b9x (y:D):Bool :=
 (bif
 decide
 ((bif false then if 101>L9 (eV y) 0 then 101 else L9 (eV y) 0
 else if 101<L9 (eV y) 0 then 101 else L9 (eV y) 0)≤
 100) then
 bif
 decide
 ((bif false then if 101>L9 (eV y) 0 then 101 else L9 (eV y) 0
 else if 101<L9 (eV y) 0 then 101 else L9 (eV y) 0) >
 20) then
 true
 else goE (eV y)
 else false)
noncomputable def c13:Ct:=⟨fun | [x]=>D0 x|_=>False,fun | [x]=>some (.lit (.bool (b9x x)))|_=>none⟩
noncomputable def T13:Tab:=T38.add 13 c13
theorem c3c {f g:D→Bool} {xs:List D} (h:∀a∈xs,f a=g a):C0 (N0 f xs) xs.length=C0 (N0 g xs) xs.length:=by
 have key:∀n i,i+n≤xs.length→rounds (fun i _=>Q1 (N0 f xs i)) n i ()=rounds (fun i _=>Q1 (N0 g xs i)) n i ():=by
  intro n
  induction n with
  | zero=>intro i _;rfl
  | succ n ih =>
   intro i hi
   unfold rounds
   have e:N0 f xs i=N0 g xs i:=by unfold N0;rw[h _ (E1 (by omega))]
   simp only[e]
   cases Q1 (N0 g xs i) with
   | inl _=>exact ih (i+1) (by omega)
   | inr _=>rfl
 unfold C0
 rw[key _ 0 (by omega)]
theorem e3w (r r':D→Bool) (y:D) (h:∀a∈E3 y 2,r a=r' a):gpT r y=gpT r' y:=by
 unfold gpT
 rw[c3c h]
theorem g3n (y:D):gpE y=gpT gpE y:=X7 e3w y
theorem e3x (r r':D→Bool) (y:D) (h:∀a∈E3 y 15,r a=r' a):goT r y=goT r' y:=by
 unfold goT
 rw[c3c h]
theorem g3o (y:D):goE y=goT goE y:=X7 e3x y
theorem g6n {κ:Nat} (hk:C2 B (U50 κ)):OkS (Cn (U50 κ)) 0 (.loop g2v) f7n:=by
 refine D2 fun N vals bs K h=>?_
 simp only[f7n] at h
 split at h
 case h_2=>exact h.elim
 rename_i i q b1 cs b2 xs
 obtain ⟨⟨rfl,rfl,hsh,hall⟩,h⟩:=h
 have hs:cs.length≤1152921504606846976:=hsh
 refine F5 (D1 C4 hk B9) C1 A8 (hn:=B1) (adsI:=[]) (nsI:=[([5000],[5000])]) (nsX:=[([5000],[5000])]) rfl rfl cs.length
  (fun i=>[.ptr [5000] 0,A3 i]) (fun _=>[r5 q b1 cs b2 xs]) (N0 e4z cs) (fun e=>(.ret, [.ptr [5000] 0,A9 e], [r5 q b1 cs b2 xs])) (by simp) (.exit 0) [.ptr [5000] 0, .any] [r5 q b1 cs b2 xs] (by simp) ?_ ?_ h
 ·intro i R hi hR
  refine keep (h2v κ q cs xs b1 b2 i R) ?_
  have e1:decide ((i:Int)<cs.length)=true:=by simp;omega
  have e2:IntKind.i64.wrap ((i:Int)+1)=((i+1:Nat):Int):=by rw[Go.IntWalk.i64_in _ (by omega)];omega
  have hg:(0:Int)≤i∧i<cs.length∧cV (cs.getD i .any)=cs.getD i .any:=⟨by omega,hi,hall _ (E1 hi)⟩
  rw[e1]
  simp only[Int.toNat_natCast,e2,cond_true]
  refine ⟨hg,fun _=>hg,A4 (fun h1=>⟨trivial, ?_⟩) (fun h1=>⟨trivial, ?_⟩)⟩<;>(simp only[N0,e4z,h1,cond_true,cond_false,P7] at hR;exact hR)
 ·intro R hR
  refine keep (h2v κ q cs xs b1 b2 cs.length R) ?_
  have e1:decide ((cs.length:Int)<cs.length)=false:=by simp
  rw[e1]
  exact ⟨rfl,hR⟩
theorem g6m {κ:Nat} (hk:C2 B (U50 κ)):OkS (Cn (U50 κ)) 0 (.loop g2u) (f7m gpE κ):=by
 refine D2 fun N vals bs K h=>?_
 simp only[f7m] at h
 split at h
 case h_2=>exact h.elim
 rename_i i q b1 cs b2 xs
 obtain ⟨⟨rfl,_,rfl,hsh,hall⟩,h⟩:=h
 have hs:xs.length≤1152921504606846976:=hsh
 refine F5 (D1 C4 hk B9) C1 A8 (hn:=B1) (adsI:=[]) (nsI:=[([5000],[5000])]) (nsX:=[]) rfl rfl xs.length
  (fun i=>[.ptr [5000] 0,A3 i]) (fun _=>[r5 q b1 cs b2 xs]) (N0 gpE xs) (fun e=>(.ret, [A9 e], [])) (by simp) (.exit 2) [.any] [] (by simp) ?_ ?_ h
 ·intro i R hi hR
  refine keep (h2u κ q cs xs b1 b2 i R) ?_
  have e1:decide ((i:Int)<xs.length)=true:=by simp;omega
  have e2:IntKind.i64.wrap ((i:Int)+1)=((i+1:Nat):Int):=by rw[Go.IntWalk.i64_in _ (by omega)];omega
  obtain ⟨hv,hlt⟩:=hall _ (E1 hi)
  rw[e1]
  simp only[Int.toNat_natCast,e2,cond_true,hv.v]
  refine ⟨⟨by omega,hi,trivial⟩,⟨hv,hlt⟩,A4 (fun h1=>⟨trivial, ?_⟩) (fun h1=>⟨trivial, ?_⟩)⟩<;>(simp only[N0,h1,cond_true,cond_false,P7] at hR;exact hR)
 ·intro R hR
  refine keep (h2u κ q cs xs b1 b2 xs.length R) ?_
  have e1:decide ((xs.length:Int)<xs.length)=false:=by simp
  rw[e1]
  exact ⟨rfl,hR⟩
theorem k50:C2 B T50:=by
 refine P9 C4 k22 μ1 (fn:=Tryz.f50) (cd:=A7 Tryz.f50) (sp:=fun n=>spL [(8,f7n),(18,f7m gpE n)]) (hn:=B1) Tryz.func50 (by kernel_rfl) (by kernel_rfl) (fun n hk=>B8 (c:=.loop g2v) (by kernel_rfl) (g6n hk) (B8 (c:=.loop g2u) (by kernel_rfl) (g6m hk) C8)) fun κ ds r hp hm hr=>?_
 unfold c50 at hp hr
 simp only[] at hr hp
 split at hr
 ·rename_i x
  cases hr
  rw[W1 (G7.v hp)]
  refine keep (w50 gpE κ x fun v=>v=_) ?_
  rw[g3n]
  unfold gpT
  have hc:∀y∈A2 (A0 x 1),a4z y:=G7.c hp
  have h1:G6 (A2 (A0 x 1)):=(G7.l hp).1
  have h2:G6 (A2 (A0 x 2)):=(G7.l hp).2
  have ha:∀y∈A2 (A0 x 2),G7 y∧dsz y<κ:=fun y hy=>⟨G7.a hp y hy,hm▸G3 hy⟩
  generalize C0 (N0 e4z (A2 (A0 x 1))) (A2 (A0 x 1)).length=o1
  generalize C0 (N0 gpE (A2 (A0 x 2))) (A2 (A0 x 2)).length=o2
  cases o1<;>cases o2<;>(repeat' (first|with_reducible rfl | (refine A4 (fun hcw=>?_) (fun hcw=>?_)<;>simp only[hcw,cond_true,cond_false])|refine S4 ?_ ?_))
  all_goals first|trivial|assumption
 ·cases hr
theorem h8d {κ:Nat} (hk:C2 B (U38 κ)):OkS (Cn (U38 κ)) 0 (.loop l38) (S38 goE κ):=by
 refine D2 fun N vals bs K h=>?_
 simp only[S38] at h
 split at h
 case h_2=>exact h.elim
 rename_i i a0 a1 a2 a3 a4 a5 a6 a7 a8 a9 a10 a11 a12 a13 a14 b xs
 obtain ⟨⟨⟨y,hy⟩,rfl,_,rfl,hsh,hall⟩,h⟩:=h
 have hxs:xs=A2 (A0 y 15):=by
  have:=congrArg (fun l:List V=>l.getD 15 .any) hy
  simp at this
  exact this.2
 rw[hy]
 subst hxs
 have hs:(A2 (A0 y 15)).length≤1152921504606846976:=hsh
 refine F5 (D1 C4 hk B9) C1 A8 (hn:=B1) (adsI:=[]) (nsI:=[([5000],[5000])]) (nsX:=[]) rfl rfl (A2 (A0 y 15)).length
  (fun i=>[.ptr [5000] 0,A3 i]) (fun _=>[G5 y]) (N0 goE (A2 (A0 y 15))) (fun e=>(.ret, [A9 e], [])) (by simp) (.exit 0) [.any] [] (by simp) ?_ ?_ h
 ·intro i R hi hR
  refine keep (b38 κ y i R) ?_
  have e1:decide ((i:Int)<(A2 (A0 y 15)).length)=true:=by simp;omega
  have e2:IntKind.i64.wrap ((i:Int)+1)=((i+1:Nat):Int):=by rw[Go.IntWalk.i64_in _ (by omega)];omega
  obtain ⟨hv,hlt⟩:=hall _ (E1 hi)
  rw[e1]
  simp only[Int.toNat_natCast,e2,cond_true,hv.v]
  refine ⟨⟨by omega,hi,trivial⟩,⟨hv,hlt⟩,A4 (fun h1=>⟨trivial, ?_⟩) (fun h1=>⟨trivial, ?_⟩)⟩<;>(simp only[N0,h1,cond_true,cond_false,P7] at hR;exact hR)
 ·intro R hR
  refine keep (b38 κ y (A2 (A0 y 15)).length R) ?_
  have e1:decide (((A2 (A0 y 15)).length:Int)<(A2 (A0 y 15)).length)=false:=by simp
  rw[e1]
  exact ⟨rfl,hR⟩
theorem k38:C2 B T38:=by
 refine P9 C4 k50 μ1 (fn:=Tryz.f38) (cd:=A7 Tryz.f38) (sp:=fun n=>spL [(8,S38 goE n)]) (hn:=B1) Tryz.func38 (by kernel_rfl) (by kernel_rfl) (fun n hk=>B8 (c:=.loop l38) (by kernel_rfl) (h8d hk) C8) fun κ ds r hp hm hr=>?_
 unfold c38 at hp hr
 simp only[] at hr hp
 split at hr
 ·rename_i x
  cases hr
  rw[W1 (D0.v hp)]
  refine keep (w38 goE κ x fun v=>v=_) ?_
  rw[g3o]
  unfold goT
  have hE:IsE (N5 x):=⟨x,rfl⟩
  obtain ⟨⟨s1,s2⟩,s3,s4⟩:=D0.l hp
  have hm':∀y∈A2 (A0 x 2),a2a y:=D0.m hp
  have hn:∀y∈A2 (A0 x 7),a2d y:=D0.n hp
  have hs:∀y∈A2 (A0 x 10),a2e y:=D0.s hp
  have hpp:=D0.p hp
  have ha:∀y∈A2 (A0 x 15),D0 y∧dsz y<κ:=fun y hy=>⟨D0.a hp y hy,hm▸G3 hy⟩
  generalize C0 (N0 goE (A2 (A0 x 15))) (A2 (A0 x 15)).length=o1
  cases o1<;>(repeat' (first|with_reducible rfl | (refine A4 (fun hcw=>?_) (fun hcw=>?_)<;>simp only[hcw,cond_true,cond_false])|refine S4 ?_ ?_))
  all_goals first|trivial|assumption|exact hE | (intro _;first|assumption|exact ⟨rfl,by assumption,by assumption⟩)
 ·cases hr
theorem k13:C2 B T13:=by
 refine C3 C4 k38 (fn:=Tryz.f13) (cd:=A7 Tryz.f13) (sp:=C5) (hn:=B1) Tryz.func13 (by kernel_rfl) (by kernel_rfl) A8 fun ds r hp hr=>?_
 unfold c13 at hp hr
 simp only[] at hr hp
 split at hr
 ·rename_i x
  cases hr
  rw[W1 (D0.v hp)]
  refine keep (w13 x fun v=>v=_) ?_
  unfold b9x
  rw[D0.v hp]
  exact ⟨hp,fun _=>hp,rfl⟩
 ·cases hr
noncomputable def c14:Ct:=⟨fun | []=>True|_=>False,fun | []=>some (.lit (.bool true))|_=>none⟩
noncomputable def T14:Tab:=T13.add 14 c14
noncomputable def l9:Code:=D6 (C6 (A7 Tryz.f9) 16)
theorem b9 (y:D) (e:Int) (s:Int) (xs:List D) (i:Int) (n:Int) (b:Bool) (R:X→List V→List Box→Prop):(D7 (Cn T14) T14 D4 0 C5 B1 l9 75 [1,4,5,37,38,39] [[5000]] [] [([5000], [5000])] [1,5,2]
 [([5000], [5000])] [V.ptr [5000] 0,A3 e,A3 s,V.d (D.slice b 16 xs),A3 n,A3 i] [G5 y] R) =
 (bif decide (i<n) then
 ((((0:Int)≤i)∧(i.toNat<xs.length∧eV (xs.getD i.toNat D.any)=xs.getD i.toNat D.any))∧
 (D0 (eV (xs.getD i.toNat D.any))∧
 (D0 (eV (xs.getD i.toNat D.any))∧
 (D0 (eV (xs.getD i.toNat D.any))∧
 (bif bif E2 (eV (xs.getD i.toNat D.any)) !=0 then true
 else
 bif e==0 then
 bif
 (bif E2 (eV (xs.getD i.toNat D.any)) !=0 then E2 (eV (xs.getD i.toNat D.any))
 else bif s5 (eV (xs.getD i.toNat D.any))==0 then 15 else 0) !=
 0 then
 true
 else (bif E2 (eV (xs.getD i.toNat D.any)) !=0 then 0 else s5 (eV (xs.getD i.toNat D.any)))==0
 else false then
 (75=75∧
 R X.ret
 [V.ptr [5000] 0,
 A3 (IntKind.i64.wrap (s+(↑(cap (G1 (eV (xs.getD i.toNat D.any)))):Int))),
 A9 false]
 [G5 y]) else
 (75=75∧
 R X.normal
 [V.ptr [5000] 0,A3 e,
 A3 (IntKind.i64.wrap (s+(↑(cap (G1 (eV (xs.getD i.toNat D.any)))):Int))),
 V.d (D.slice b 16 xs),A3 n,
 A3 (IntKind.i64.wrap (i+1))]
 [G5 y])))))) else
 (75=75∧
 R (X.exit 0) [V.ptr [5000] 0,A3 s,V.any]
 [G5 y])):=by kernel_rfl
noncomputable def c9:Ct:=⟨fun | [x]=>D0 x|_=>False,fun | [x]=>some (.lit (.bool true))|_=>none⟩
end Go.Ev.R2
end
section
namespace Go.Ev
def a7s (w:World) (b:Nat):Nat:=match w.heap[b]? with
 | some (.cells c _ _)=>c.size
 | some (.map _ _)=>1
 | _=>0
theorem d5y {w:World} {b:Nat} (h:w.heap.size≤b):a7s w b=0:=by simp[a7s,Array.getElem?_eq_none h]
theorem e3q {w:World} {b o:Nat} {v:Value} (h:w.cell? ⟨b,o,none⟩=some v):o<a7s w b:=by
 unfold World.cell? at h
 unfold a7s
 split at h
 ·rename_i c t fr hb
  rw[hb]
  simp at h
  exact (Array.getElem?_eq_some_iff.1 h).1
 ·cases h
def s8 (P:Program) (e:TypeId) (cs:List D):D:=match P.underlying e with
 | some (.struct _)=>.agg cs
 | _=>cs.headD .any
def U0 (P:Program):Nat→TypeId→List D→Prop
 | 0,_,_=>False
 | n+1,t,ds=>match P.underlying t with
  | some .bool=>∃b,ds= [.lit (.bool b)]
  | some (.int k)=>∃i,ds= [.lit (.int k i)]∧(Lit.int k i).wf=true
  | some .string=>∃s:ByteArray,ds= [.lit (.string s)]∧s.size≤reachBytes
  | some (.slice e)=>∃nil xs,ds= [.slice nil (P.cellsOf e) xs]∧xs.length≤reachBytes∧∀x∈xs,∃cs,x=s8 P e cs∧U0 P n e cs
  | some (.struct fs)=>ds.length=P.cellsOf t∧∀(i:Nat) (f:Field),fs[i]?=some f→U0 P n f.type ((ds.drop f.offset).take (P.cellsOf f.type))
  | _=>False
structure b7v (P:Program) (T:TypeId→Prop):Prop where
 slice:∀t e,T t→P.underlying t=some (.slice e)→T e∧(0<P.cellsOf e∧0<P.bytesOf e)
 struct:∀t fs,T t→P.underlying t=some (.struct fs)→(∀f∈fs.toList,T f.type)∧P.cellsOf t=(fs.toList.map fun f=>P.cellsOf f.type).sum∧
  ∀(j:Nat) f,fs.toList[j]?=some f→f.offset=((fs.toList.take j).map fun f=>P.cellsOf f.type).sum
 kinds:∀t,T t→(∃fs,P.underlying t=some (.struct fs))∨(P.cellsOf t=1∧(P.underlying t=some .bool∨(∃k,P.underlying t=some (.int k))∨P.underlying t=some .string∨∃e,P.underlying t=some (.slice e)))
theorem d3t {P:Program} {e:TypeId} {cs:List D} (h:(∃fs,P.underlying e=some (.struct fs))∨(cs.length=1∧(∀x∈cs,x.cells= [x])∧∀fs,P.underlying e≠some (.struct fs))):(s8 P e cs).cells=cs:=by
 unfold s8
 rcases h with ⟨fs,h⟩|⟨hl,hx,hn⟩
 ·rw[h];rfl
 ·split
  ·rename_i fs h;exact absurd h (hn fs)
  ·obtain ⟨x,rfl⟩:=List.length_eq_one_iff.1 hl
   exact hx x (by simp)
section
variable {H : Type} {enc : TypeId × Value → H} {P : Program} {w : World} {held : Bool} {T : TypeId → Prop}
def e9k (P:Program) (w:World) (n:Nat) (t:TypeId) (cs:List Value):Prop :=
 cs.length=P.cellsOf t∧(∀v∈cs,K6 v)∧∃ds,E5 w (a7s w) ds cs∧U0 P n t ds∧∀x∈ds,x.cells= [x]
theorem c9c {n:Nat} {e:TypeId} {b off sz:Nat}:∀(k:Nat) (f:Nat→List Value),
  (∀i,i<k→(f i).length=sz∧(∀v∈f i,K6 v)∧(∀j v,(f i)[j]?=some v→w.cell? ⟨b,off+i*sz+j,none⟩=some v)∧∃ds,E5 w (a7s w) ds (f i)∧U0 P n e ds∧(s8 P e ds).cells=ds)→
  ∃xs vs,xs.length=k∧E5 w (a7s w) (E9 xs) vs∧(∀v∈vs,K6 v)∧vs.length=k*sz∧(∀j v,vs[j]?=some v→w.cell? ⟨b,off+j,none⟩=some v)∧(∀x∈xs,x.cells.length=sz)∧∀x∈xs,∃cs,x=s8 P e cs∧U0 P n e cs
 | 0,f,h=>⟨[], [],rfl, .nil,by simp,by simp,by simp,by simp,by simp⟩
 | k+1,f,h=>by
  obtain ⟨xs,vs,h1,h2,h3,h4,h5,h6,h7⟩:=c9c k f fun i hi=>h i (by omega)
  obtain ⟨g1,g2,g3,ds,g4,g5,g6⟩:=h k (by omega)
  refine ⟨xs++ [s8 P e ds],vs++f k,by simp[h1], ?_, ?_, ?_, ?_, ?_, ?_⟩
  ·have:E9 (xs++ [s8 P e ds])=E9 xs++ds:=by simp[E9,g6]
   rw[this];exact h2.append g4
  ·intro v hv
   rcases List.mem_append.1 hv with hv|hv
   ·exact h3 v hv
   ·exact g2 v hv
  ·rw[List.length_append,h4,g1,Nat.add_mul];omega
  ·intro j v hj
   by_cases hlt:j<vs.length
   ·rw[List.getElem?_append_left hlt] at hj;exact h5 j v hj
   ·rw[List.getElem?_append_right (by omega)] at hj
    have:=g3 _ _ hj
    rw[h4] at this hlt
    rw[show off+k*sz+(j-k*sz)=off+j by omega] at this
    exact this
  ·intro x hx
   rcases List.mem_append.1 hx with hx|hx
   ·exact h6 x hx
   ·simp only[List.mem_singleton] at hx;subst hx;rw[g6,g4.length,g1]
  ·intro x hx
   rcases List.mem_append.1 hx with hx|hx
   ·exact h7 x hx
   ·simp only[List.mem_singleton] at hx;subst hx;exact ⟨ds,rfl,g5⟩
theorem b8f {n:Nat}:∀(l:List Field) (cs:List Value),cs.length=(l.map fun f=>P.cellsOf f.type).sum→
  (∀(j:Nat) (f:Field),l[j]?=some f→e9k P w n f.type ((cs.drop ((l.take j).map fun f=>P.cellsOf f.type).sum).take (P.cellsOf f.type)))→
  ∃ds,E5 w (a7s w) ds cs∧(∀v∈cs,K6 v)∧(∀x∈ds,x.cells= [x])∧
   ∀(j:Nat) (f:Field),l[j]?=some f→U0 P n f.type ((ds.drop ((l.take j).map fun f=>P.cellsOf f.type).sum).take (P.cellsOf f.type))
 | [],cs,hl,_=>by
  have:cs= []:=List.length_eq_zero_iff.1 (by simpa using hl)
  subst this
  exact ⟨[], .nil,by simp,by simp,fun j f h=>by simp at h⟩
 | f::l,cs,hl,h=>by
  have h0:=h 0 f rfl
  simp only[List.take_zero,List.map_nil,List.sum_nil,List.drop_zero] at h0
  obtain ⟨g1,g2,ds1,g3,g4,g5⟩:=h0
  simp only[List.map_cons,List.sum_cons] at hl
  obtain ⟨ds2,k1,k2,k3,k4⟩:=b8f l (cs.drop (P.cellsOf f.type)) (by rw[List.length_drop];omega) fun j f' hf'=>by
   have:=h (j+1) f' (by simpa using hf')
   simp only[List.take_succ_cons,List.map_cons,List.sum_cons] at this
   rw[List.drop_drop]
   exact this
  have e1:ds1.length=P.cellsOf f.type:=by rw[g3.length,g1]
  refine ⟨ds1++ds2,by have:=g3.append k1;rwa [List.take_append_drop] at this,fun v hv=>?_,fun x hx=>?_,fun j f' hf'=>?_⟩
  ·rw[←List.take_append_drop (P.cellsOf f.type) cs] at hv
   rcases List.mem_append.1 hv with hv|hv
   ·exact g2 v hv
   ·exact k2 v hv
  ·rcases List.mem_append.1 hx with hx|hx
   ·exact g5 x hx
   ·exact k3 x hx
  ·cases j with
   | zero =>
    simp only[List.getElem?_cons_zero,Option.some.injEq] at hf'
    subst hf'
    simp only[List.take_zero,List.map_nil,List.sum_nil,List.drop_zero]
    rw[←e1,List.take_left]
    exact g4
   | succ j =>
    have:=k4 j f' (by simpa using hf')
    simp only[List.take_succ_cons,List.map_cons,List.sum_cons]
    rw[←e1, ←List.drop_drop,List.drop_left]
    exact this
theorem a7u {e:TypeId}:∀{l:List (DataW H)} {d:DataW H},d∈l→∀n∈d.weights P e,n∈DataW.weightsAll P e l
 | x::l,d,h,n,hn=>by
  simp only[DataW.weightsAll,List.mem_append]
  rcases List.mem_cons.1 h with rfl|h
  ·exact .inl hn
  ·exact .inr (a7u h n hn)
theorem e5k (hT:b7v P T):∀(n:Nat) (t:TypeId) (cs:List Value) (x:DataW H×List MemPlace),T t→DataW.trod enc P w 0 (fun _=>true) held n t cs=some x→(∀m∈x.1.weights P t,m≤reachBytes)→e9k P w n t cs:=by
 intro n
 induction n with
 | zero=>intro t cs x _ h;simp[DataW.trod] at h
 | succ n ih =>
  intro t cs x ht h hwt
  rcases hT.kinds t ht with ⟨fs,hu⟩|⟨hc1,hu|⟨k,hu⟩|hu|⟨e,hu⟩⟩
  ·obtain ⟨xs,m,hm,hx,hl,hxl,hfs⟩:=DataW.trod_struct hu h
   obtain rfl:n=m:=by omega
   obtain ⟨hft,hsum,hoff⟩:=hT.struct t fs ht hu
   have each:∀(j:Nat) (f:Field),fs.toList[j]?=some f→e9k P w n f.type ((cs.drop ((fs.toList.take j).map fun f=>P.cellsOf f.type).sum).take (P.cellsOf f.type)):=fun i f hf=>by
    have hf':fs[i]?=some f:=by simpa using hf
    have h1:=hfs i f hf'
    have hi:i<xs.length:=by rw[hxl];exact (Array.getElem?_eq_some_iff.1 hf').1
    rw[List.getElem?_eq_getElem hi] at h1
    rw[←hoff i f hf]
    refine ih _ _ _ (hft f (List.mem_of_getElem? hf)) h1 fun m hm=>hwt m ?_
    rw[hx]
    simp only[DataW.weights,hu]
    exact DataW.weights_mem_each (j:=i) (t:=f.type) (d:=xs[i].1) (by simp[hf]) (by simp[hi]) m hm
   obtain ⟨ds,d1,d2,d3,d4⟩:=b8f fs.toList cs (by rw[hl,hsum]) each
   refine ⟨hl,d2,ds,d1, ?_,d3⟩
   unfold U0
   rw[hu]
   refine ⟨by rw[d1.length,hl],fun i f hf=>?_⟩
   have hf':fs.toList[i]?=some f:=by simpa using hf
   rw[hoff i f hf']
   exact d4 i f hf'
  ·obtain ⟨b,rfl,_⟩:=DataW.trod_bool hu h
   exact ⟨hc1.symm,by simp[K6], [.lit (.bool b)], .cons (.lit (by simp)) .nil,by unfold U0;rw[hu];exact ⟨b,rfl⟩,by simp[D.cells]⟩
  ·obtain ⟨i,rfl,_,hw⟩:=DataW.trod_int hu h
   exact ⟨hc1.symm,by simp[K6], [.lit (.int k i)], .cons (.lit (by simp)) .nil,by unfold U0;rw[hu];exact ⟨i,rfl,hw⟩,by simp[D.cells]⟩
  ·obtain ⟨s,rfl,rfl,_⟩:=DataW.trod_string hu h
   have hs:s.size≤reachBytes:=hwt s.size (by simp[DataW.weights])
   exact ⟨hc1.symm,by simp[K6], [.lit (.string s)], .cons (.lit (by simp)) .nil,by unfold U0;rw[hu];exact ⟨s,rfl,hs⟩,by simp[D.cells]⟩
  ·obtain ⟨hte,hpos,hby⟩:=hT.slice t e ht hu
   rcases DataW.trod_slice hu h with ⟨rfl,_⟩|⟨a,len,cap,elems,rest,m,hm,rfl,hx,_,hlc,hcm,hel,hi,_⟩
   ·exact ⟨hc1.symm,by simp[K6], [.slice true (P.cellsOf e) []], .cons .nils .nil,by unfold U0;rw[hu];exact ⟨true, [],rfl,Nat.zero_le _,by simp⟩,by simp[D.cells]⟩
   ·obtain rfl:n=m:=by omega
    refine ⟨hc1.symm,by simp[K6], ?_⟩
    by_cases h0:len=0
    ·subst h0
     exact ⟨[.slice false (P.cellsOf e) []], .cons (.slice (vs:=[]) .nil (by simp) (fun h=>absurd rfl h) (by simp) rfl hlc) .nil,by unfold U0;rw[hu];exact ⟨false, [],rfl,Nat.zero_le _,by simp⟩,by simp[D.cells]⟩
    have hlen:len≤reachBytes:=by
     have h1:=hwt ((elems.length+rest.length)*P.bytesOf e) (by rw[hx];simp[DataW.weights,hu])
     have h2:elems.length+rest.length≤(elems.length+rest.length)*P.bytesOf e:=Nat.le_mul_of_pos_right _ hby
     omega
    have elem:∀i,i<len→∃cs y,w.cells? 0 (a.add (i*P.cellsOf e)) (P.cellsOf e)=some cs∧DataW.trod enc P w 0 (fun _=>true) held n e cs=some y∧y∈elems:=fun i hlt=>by
     have h1:=hi i hlt
     rw[List.getElem?_eq_getElem (by omega)] at h1
     cases hc:w.cells? 0 (a.add (i*P.cellsOf e)) (P.cellsOf e) with
     | none=>rw[hc] at h1;cases h1
     | some cs=>rw[hc] at h1;exact ⟨cs,_,rfl,h1,List.getElem_mem _⟩
    have hsp:a.spot=none:=by
     obtain ⟨cs,y,hc,_⟩:=elem 0 (by omega)
     obtain ⟨_,hl,hcell⟩:=World.cells?_some hc
     have h1:=hcell 0 hpos
     have:0<cs.length:=by omega
     rw[List.getElem?_eq_getElem this] at h1
     simpa [Addr.add] using World.cell?_spot h1
    obtain ⟨b,off,sp⟩:=a
    obtain rfl:sp=none:=hsp
    have hadd:∀k:Nat,(⟨b,off,none⟩:Addr).add k=⟨b,off+k,none⟩:=fun k=>by unfold Addr.add;split<;>simp_all
    have hadd2:∀i j:Nat,((⟨b,off,none⟩:Addr).add i).add j=⟨b,off+i+j,none⟩:=fun i j=>by rw[hadd];unfold Addr.add;split<;>simp_all
    let f:Nat→List Value:=fun i=>(w.cells? 0 ((⟨b,off,none⟩:Addr).add (i*P.cellsOf e)) (P.cellsOf e)).getD []
    obtain ⟨xs,vs,h1,h2,h3,h4,h5,h6,h7⟩:=c9c (P:=P) (w:=w) (n:=n) (e:=e) (b:=b) (off:=off) (sz:=P.cellsOf e) len f (fun i hlt=>by
     obtain ⟨cs,y,hc,hy,hym⟩:=elem i hlt
     have hfi:f i=cs:=by simp only[f,hc,Option.getD_some]
     rw[hfi]
     obtain ⟨_,hl,hcell⟩:=World.cells?_some hc
     obtain ⟨_,g1,ds,g2,g3,g4⟩:=ih e cs y hte hy fun m hm=>hwt m (by
      rw[hx]
      simp only[DataW.weights,hu,List.mem_cons,List.mem_append]
      exact .inr (.inl (a7u (List.mem_map.2 ⟨y,hym,rfl⟩) m hm)))
     refine ⟨hl,g1,fun j v hj=>?_,ds,g2,g3, ?_⟩
     ·have hlt:j<P.cellsOf e:=by rw[←hl];exact (List.getElem?_eq_some_iff.1 hj).1
      have:=hcell j hlt
      rw[hadd2] at this
      rw[this,hj]
     ·apply d3t
      rcases hT.kinds e hte with hs|⟨hc1,hk⟩
      ·exact .inl hs
      ·refine .inr ⟨by rw[g2.length,hl,hc1],g4,fun fs hfs=>?_⟩
       rcases hk with hk|⟨_,hk⟩|hk|⟨_,hk⟩<;>rw[hk] at hfs<;>cases hfs)
    refine ⟨[.slice false (P.cellsOf e) xs], .cons (.slice h2 h3 (fun _=>⟨rfl,fun i v hv=>⟨e3q (h5 i v hv),h5 i v hv⟩⟩) h6 h1.symm hlc) .nil, ?_,by simp[D.cells]⟩
    unfold U0
    rw[hu]
    exact ⟨false,xs,rfl,by rw[h1];exact hlen,h7⟩
end
def f9x (P:Program) (l:List TypeId):Bool:=l.all fun t=>match P.underlying t with
 | some (.slice e)=>l.contains e&&(decide (0<P.cellsOf e)&&(decide (0<P.bytesOf e)&&P.cellsOf t==1))
 | some (.struct fs)=>fs.toList.all (fun f=>l.contains f.type)&&(P.cellsOf t==(fs.toList.map fun f=>P.cellsOf f.type).sum &&
  (List.range fs.toList.length).all fun j=>(fs.toList[j]?.map (·.offset))==some ((fs.toList.take j).map fun f=>P.cellsOf f.type).sum)
 | some .bool|some (.int _)|some .string=>P.cellsOf t==1
 | _=>false
theorem e6g {P:Program} {l:List TypeId} (h:f9x P l=true):b7v P (· ∈l):=by
 have at_:∀t∈l,_:=fun t ht=>List.all_eq_true.1 h t ht
 refine ⟨fun t e ht hu=>?_,fun t fs ht hu=>?_,fun t ht=>?_⟩
 ·have:=at_ t ht
  simp only[hu,Bool.and_eq_true,decide_eq_true_eq] at this
  exact ⟨List.elem_iff.1 this.1,this.2.1,this.2.2.1⟩
 ·have:=at_ t ht
  simp only[hu,Bool.and_eq_true,beq_iff_eq,List.all_eq_true] at this
  refine ⟨fun f hf=>List.elem_iff.1 (this.1 f hf),this.2.1,fun j f hf=>?_⟩
  have h2:=this.2.2 j (List.mem_range.2 (List.getElem?_eq_some_iff.1 hf).1)
  rw[hf] at h2
  simpa using h2
 ·have:=at_ t ht
  cases hu:P.underlying t with
  | none=>rw[hu] at this;cases this
  | some u =>
   rw[hu] at this
   cases u<;>simp at this
   case bool=>exact .inr ⟨this, .inl rfl⟩
   case int k=>exact .inr ⟨this, .inr (.inl ⟨k,rfl⟩)⟩
   case string=>exact .inr ⟨this, .inr (.inr (.inl rfl))⟩
   case slice e=>exact .inr ⟨this.2.2.2, .inr (.inr (.inr ⟨e,rfl⟩))⟩
   case struct fs=>exact .inl ⟨fs,rfl⟩
section
variable {P : Program} {n : Nat} {t : TypeId} {x : D}
theorem e7u (hu:P.underlying t=some .bool) (h:U0 P n t [x]):∃b,x= .lit (.bool b):=by
 cases n with
 | zero=>exact h.elim
 | succ n=>unfold U0 at h;rw[hu] at h;obtain ⟨b,hb⟩:=h;exact ⟨b,by simpa using hb⟩
theorem p5 {k:IntKind} (hu:P.underlying t=some (.int k)) (h:U0 P n t [x]):∃i,x= .lit (.int k i)∧(Lit.int k i).wf=true:=by
 cases n with
 | zero=>exact h.elim
 | succ n=>unfold U0 at h;rw[hu] at h;obtain ⟨b,hb,hw⟩:=h;exact ⟨b,by simpa using hb,hw⟩
theorem a9r (hu:P.underlying t=some .string) (h:U0 P n t [x]):∃s:ByteArray,x= .lit (.string s)∧s.size≤reachBytes:=by
 cases n with
 | zero=>exact h.elim
 | succ n=>unfold U0 at h;rw[hu] at h;obtain ⟨b,hb,hw⟩:=h;exact ⟨b,by simpa using hb,hw⟩
theorem a4b {e:TypeId} (hu:P.underlying t=some (.slice e)) (h:U0 P n t [x]):∃m nil xs,n=m+1∧x= .slice nil (P.cellsOf e) xs∧xs.length≤reachBytes∧∀y∈xs,∃cs,y=s8 P e cs∧U0 P m e cs:=by
 cases n with
 | zero=>exact h.elim
 | succ n=>unfold U0 at h;rw[hu] at h;obtain ⟨nil,xs,hb,hw⟩:=h;exact ⟨n,nil,xs,rfl,by simpa using hb,hw⟩
theorem Z5 {fs:Array Field} {ds:List D} (hu:P.underlying t=some (.struct fs)) (h:U0 P n t ds):∃m,n=m+1∧ds.length=P.cellsOf t∧∀(i:Nat) (f:Field),fs[i]?=some f→U0 P m f.type ((ds.drop f.offset).take (P.cellsOf f.type)):=by
 cases n with
 | zero=>exact h.elim
 | succ n=>unfold U0 at h;rw[hu] at h;exact ⟨n,rfl,h⟩
end
end Go.Ev
end
section
namespace Go.Ev.R2
open Go Go.Ev Go.Proofs
set_option maxRecDepth 100000
def tyL:List TypeId:=[33,3,22,24,25,4,26,30,9,31,98,65,27,28,107]
theorem b5e:b7v Tryz.prog (· ∈tyL):=e6g (by kernel_rfl)
theorem a6f {xs:List D} (h:xs.length≤reachBytes):G6 xs:=by unfold G6;unfold reachBytes at h;omega
theorem g8t:Tryz.prog.cellsOf 33=16:=by kernel_rfl
theorem g4c:Tryz.prog.cellsOf 30=3:=by kernel_rfl
theorem f9a:Tryz.prog.cellsOf 107=4:=by kernel_rfl
theorem g8r:Tryz.prog.cellsOf 98=3:=by kernel_rfl
theorem g8s:Tryz.prog.cellsOf 65=4:=by kernel_rfl
theorem co9:Tryz.prog.cellsOf 9=1:=by kernel_rfl
theorem g8i {n:Nat} {ds:List D} (h:U0 Tryz.prog n 98 ds):a2a (.agg ds):=by
 obtain ⟨m,rfl,hl,hf⟩:=Z5 Tryz.underlying98 h
 rw[g8r] at hl
 match ds,hl with
 | [x0,x1,x2],_ =>
  obtain ⟨i,rfl,_⟩:=p5 Tryz.underlying3 (hf 0 _ rfl)
  obtain ⟨s1,rfl,_⟩:=a9r Tryz.underlying9 (hf 1 _ rfl)
  obtain ⟨s2,rfl,_⟩:=a9r Tryz.underlying9 (hf 2 _ rfl)
  rfl
theorem g3s {n:Nat} {ds:List D} (h:U0 Tryz.prog n 107 ds):a4z (.agg ds):=by
 obtain ⟨m,rfl,hl,hf⟩:=Z5 Tryz.underlying107 h
 rw[f9a] at hl
 match ds,hl with
 | [x0,x1,x2,x3],_ =>
  obtain ⟨s0,rfl,_⟩:=a9r Tryz.underlying9 (hf 0 _ rfl)
  obtain ⟨i,rfl,_⟩:=p5 Tryz.underlying3 (hf 1 _ rfl)
  obtain ⟨s2,rfl,_⟩:=a9r Tryz.underlying9 (hf 2 _ rfl)
  obtain ⟨j,rfl,_⟩:=p5 Tryz.underlying3 (hf 3 _ rfl)
  rfl
theorem g3w (cs:List D):s8 Tryz.prog 98 cs= .agg cs:=by unfold s8;rw[Tryz.underlying98]
theorem f4t (cs:List D):s8 Tryz.prog 107 cs= .agg cs:=by unfold s8;rw[Tryz.underlying107]
theorem g3x (cs:List D):s8 Tryz.prog 65 cs= .agg cs:=by unfold s8;rw[Tryz.underlying65]
theorem g3z (cs:List D):s8 Tryz.prog 30 cs= .agg cs:=by unfold s8;rw[Tryz.underlying30]
theorem g3y (cs:List D):s8 Tryz.prog 33 cs= .agg cs:=by unfold s8;rw[Tryz.underlying33]
theorem f8x {n:Nat} {x:D} (h:U0 Tryz.prog n 22 [x]):∃nil xs,x= .slice nil 3 xs∧G6 xs∧∀m∈xs,a2a m:=by
 obtain ⟨m,nil,xs,rfl,rfl,hs,hx⟩:=a4b Tryz.underlying22 h
 refine ⟨nil,xs,by rw[g8r],a6f hs,fun y hy=>?_⟩
 obtain ⟨cs,rfl,hc⟩:=hx y hy
 rw[g3w];exact g8i hc
theorem f8w {n:Nat} {x:D} (h:U0 Tryz.prog n 25 [x]):∃nil xs,x= .slice nil 1 xs∧G6 xs∧∀m∈xs,a2d m:=by
 obtain ⟨m,nil,xs,rfl,rfl,hs,hx⟩:=a4b Tryz.underlying25 h
 refine ⟨nil,xs,by rw[co9],a6f hs,fun y hy=>?_⟩
 obtain ⟨cs,rfl,hc⟩:=hx y hy
 have hcs:∃s:ByteArray,cs= [.lit (.string s)]:=by
  cases m with
  | zero=>exact hc.elim
  | succ m =>
   unfold U0 at hc
   rw[Tryz.underlying9] at hc
   obtain ⟨s,h1,_⟩:=hc
   exact ⟨s,h1⟩
 obtain ⟨s,rfl⟩:=hcs
 unfold s8
 rw[Tryz.underlying9]
 rfl
theorem g8j {n:Nat} {ds:List D} (h:U0 Tryz.prog n 65 ds):a2e (.agg ds):=by
 obtain ⟨m,rfl,hl,hf⟩:=Z5 Tryz.underlying65 h
 rw[g8s] at hl
 match ds,hl with
 | [x0,x1,x2,x3],_ =>
  obtain ⟨i,rfl,_⟩:=p5 Tryz.underlying3 (hf 0 _ rfl)
  obtain ⟨s1,rfl,_⟩:=a9r Tryz.underlying9 (hf 1 _ rfl)
  obtain ⟨b2,l2,rfl,hs2,h2⟩:=f8x (hf 2 _ rfl)
  obtain ⟨b3,l3,rfl,hs3,h3⟩:=f8w (hf 3 _ rfl)
  exact ⟨rfl,hs2,hs3,h2,h3⟩
theorem g8m {n:Nat} {x:D} (h:U0 Tryz.prog n 26 [x]):∃nil xs,x= .slice nil 4 xs∧G6 xs∧∀m∈xs,a2e m:=by
 obtain ⟨m,nil,xs,rfl,rfl,hs,hx⟩:=a4b Tryz.underlying26 h
 refine ⟨nil,xs,by rw[g8s],a6f hs,fun y hy=>?_⟩
 obtain ⟨cs,rfl,hc⟩:=hx y hy
 rw[g3x];exact g8j hc
theorem g8k {n:Nat} {x:D} (h:U0 Tryz.prog n 27 [x]):∃nil xs,x= .slice nil 4 xs∧G6 xs∧∀m∈xs,a4z m:=by
 obtain ⟨m,nil,xs,rfl,rfl,hs,hx⟩:=a4b Tryz.underlying27 h
 refine ⟨nil,xs,by rw[f9a],a6f hs,fun y hy=>?_⟩
 obtain ⟨cs,rfl,hc⟩:=hx y hy
 rw[f4t];exact g3s hc
theorem f8v:∀(N n:Nat) {ds:List D},n≤N→U0 Tryz.prog n 30 ds→G7 (.agg ds)
 | 0,n,ds,hn,h=>by
  obtain ⟨m,rfl,_⟩:=Z5 Tryz.underlying30 h
  omega
 | N+1,n,ds,hn,h=>by
  obtain ⟨m,rfl,hl,hf⟩:=Z5 Tryz.underlying30 h
  rw[g4c] at hl
  match ds,hl with
  | [x0,x1,x2],_ =>
   obtain ⟨i,rfl,_⟩:=p5 Tryz.underlying3 (hf 0 _ rfl)
   obtain ⟨b1,l1,rfl,hs1,h1⟩:=g8k (hf 1 _ rfl)
   obtain ⟨q,b2,l2,hq,rfl,hs2,h2⟩:=a4b Tryz.underlying28 (hf 2 _ rfl)
   refine G7.mk (y:=.agg [.lit (.int .i64 i), .slice b1 4 l1, .slice b2 (Tryz.prog.cellsOf 30) l2]) ?_ ⟨hs1,a6f hs2⟩ h1 ?_
   ·rw[g4c];rfl
   ·intro a ha
    obtain ⟨cs,rfl,hc⟩:=h2 a ha
    rw[g3z]
    exact f8v N q (by omega) hc
theorem f8u:∀(N n:Nat) {ds:List D},n≤N→U0 Tryz.prog n 33 ds→D0 (.agg ds)
 | 0,n,ds,hn,h=>by
  obtain ⟨m,rfl,_⟩:=Z5 Tryz.underlying33 h
  omega
 | N+1,n,ds,hn,h=>by
  obtain ⟨m,rfl,hl,hf⟩:=Z5 Tryz.underlying33 h
  rw[g8t] at hl
  match ds,hl with
  | [x0,x1,x2,x3,x4,x5,x6,x7,x8,x9,x10,x11,x12,x13,x14,x15],_ =>
   obtain ⟨i0,rfl,_⟩:=p5 Tryz.underlying3 (hf 0 _ rfl)
   obtain ⟨i1,rfl,_⟩:=p5 Tryz.underlying3 (hf 1 _ rfl)
   obtain ⟨b2,l2,rfl,hs2,h2⟩:=f8x (hf 2 _ rfl)
   obtain ⟨i3,rfl,_⟩:=p5 Tryz.underlying3 (hf 3 _ rfl)
   obtain ⟨i4,rfl,_⟩:=p5 Tryz.underlying3 (hf 4 _ rfl)
   obtain ⟨m5,hm5,_,hf5⟩:=Z5 Tryz.underlying24 (hf 5 _ rfl)
   have g5:=hf5 0 _ rfl
   have g6:=hf5 1 _ rfl
   obtain ⟨i5,rfl,_⟩:=p5 Tryz.underlying3 g5
   obtain ⟨i6,rfl,_⟩:=p5 Tryz.underlying3 g6
   obtain ⟨b7,l7,rfl,hs7,h7⟩:=f8w (hf 6 _ rfl)
   obtain ⟨i8,rfl⟩:=e7u Tryz.underlying4 (hf 7 _ rfl)
   obtain ⟨i9,rfl,_⟩:=p5 Tryz.underlying3 (hf 8 _ rfl)
   obtain ⟨b10,l10,rfl,hs10,h10⟩:=g8m (hf 9 _ rfl)
   obtain ⟨s14,rfl,_⟩:=a9r Tryz.underlying9 (hf 11 _ rfl)
   obtain ⟨q,b15,l15,hq,rfl,hs15,h15⟩:=a4b Tryz.underlying31 (hf 12 _ rfl)
   have hpc:U0 Tryz.prog m 30 [x11,x12,x13]:=by
    have this:U0 Tryz.prog m 30 (List.take (Tryz.prog.cellsOf 30) [x11,x12,x13, .lit (.string s14), .slice b15 (Tryz.prog.cellsOf 33) l15]):=hf 10 _ rfl
    rw[g4c] at this
    exact this
   have hp':G7 (.agg [x11,x12,x13]):=f8v m m (Nat.le_refl _) hpc
   rw[g8t]
   have hpv:pV (.agg [x11,x12,x13])= .agg [x11,x12,x13]:=hp'.v
   simp only[D.agg.injEq,List.cons.injEq,and_true] at hpv
   obtain ⟨e1,e2,e3⟩:=hpv
   refine D0.mk ?_ ⟨⟨hs2,hs7⟩,hs10,a6f hs15⟩ h2 h7 h10 ?_ ?_
   ·simp only[D.agg.injEq,List.cons.injEq,and_true]
    exact ⟨rfl,rfl,rfl,rfl,rfl,rfl,rfl,rfl,rfl,rfl,rfl,e1,e2,e3,rfl,rfl⟩
   ·have:paV (.agg [.lit (.int .i64 i0), .lit (.int .i64 i1), .slice b2 3 l2, .lit (.int .i64 i3), .lit (.int .i64 i4), .lit (.int .i64 i5), .lit (.int .i64 i6), .slice b7 1 l7, .lit (.bool i8), .lit (.int .i64 i9), .slice b10 4 l10,x11,x12,x13, .lit (.string s14), .slice b15 16 l15])=pV (.agg [x11,x12,x13]):=rfl
    rw[this,hp'.v];exact hp'
   ·intro a ha
    obtain ⟨cs,rfl,hc⟩:=h15 a ha
    rw[g3y]
    exact f8u N q (by omega) hc
end Go.Ev.R2
end
section
namespace Go.Ev
structure SmB where
 pre:List V→List Box→Bool
 f:List V→List Box→Option (V×List Box×List Box)
def SmB.sm (S:SmB):Sm:=⟨fun v b=>S.pre v b=true,fun v b=>match S.f v b with|some (r,bs,news)=>one r bs news|none=>none⟩
abbrev a9c:=List (FuncId×SmB)
def c9y:a9c→FuncId→Option SmB
 | [],_=>none
 | (a,S)::r,n=>bif n==a then some S else c9y r n
def a9c.st (tb:a9c):Y7:=fun K=>match c9y tb K with|some S=>some S.sm|none=>none
def b3p (tb:a9c):E7:=fun K args H=>match c9y tb K with
 | none=>none
 | some S=>match c9i H 200 [] (J1 args) with
  | none=>none
  | some l=>match p8 H (V6 0 l) with
   | none=>none
   | some bs=>bif Q4 l&&(l.all Y3&&(a8u l (J1 args)&&bs.all (fun b=>a8u l (o6 b)))) then
     (match S.f (a2b (K2 (V6 0 l)) args) (bs.map (·.ren (K2 (V6 0 l)))) with
     | some x=>bif S.pre (a2b (K2 (V6 0 l)) args) (bs.map (·.ren (K2 (V6 0 l))))&&x.2.1.length==bs.length then some (c8w H l x) else none
     | none=>none)
    else none
theorem d5c (tb:a9c):R8 (b3p tb) (b4y tb.st):=by
 intro K args H r h
 unfold b3p at h
 unfold b4y d8h a9c.st
 cases hl:c9y tb K with
 | none=>rw[hl] at h;cases h
 | some S =>
  rw[hl] at h
  simp only[] at h ⊢
  cases hr:c9i H 200 [] (J1 args) with
  | none=>rw[hr] at h;cases h
  | some l =>
   rw[hr] at h
   simp only[] at h ⊢
   cases hb:p8 H (V6 0 l) with
   | none=>rw[hb] at h;cases h
   | some bs =>
    rw[hb] at h
    simp only[] at h ⊢
    cases hc:(Q4 l&&(l.all Y3&&(a8u l (J1 args)&&bs.all (fun b=>a8u l (o6 b))))) with
    | false=>rw[hc] at h;cases h
    | true =>
     rw[hc] at h
     simp only[cond_true] at h ⊢
     simp only[SmB.sm]
     cases hf:S.f (a2b (K2 (V6 0 l)) args) (bs.map (·.ren (K2 (V6 0 l)))) with
     | none=>rw[hf] at h;cases h
     | some x =>
      obtain ⟨x1,x2,x3⟩:=x
      rw[hf] at h
      simp only[] at h ⊢
      cases hp:S.pre (a2b (K2 (V6 0 l)) args) (bs.map (·.ren (K2 (V6 0 l)))) with
      | false=>rw[hp] at h;cases h
      | true =>
       rw[hp] at h
       simp only[Bool.true_and] at h
       cases he:(x2.length==bs.length) with
       | false=>rw[he] at h;cases h
       | true =>
        rw[he] at h
        simp only[cond_true,Option.some.injEq] at h
        subst h
        simp[one,he]
theorem X2.le {C:Cx} {c c':E7} (h:R8 c c') (hv:X2 C c'):X2 C c:=fun K args H r H' hr=>hv K args H r H' (h K args H _ hr)
def evB (C:Cx) (C4:E7):Nat→E7
 | 0=>C4
 | n+1=>fun K args H=>match C4 K args H with
  | some r=>some r
  | none=>a5z C (j5 100000) (evB C C4 n) K args H
theorem c5h {C:Cx} {C4:E7} (ok:a7m C) (okc:U6 C) (hn:a9w C) (hb:X2 C C4):∀n,X2 C (evB C C4 n)
 | 0=>hb
 | n+1=>fun K args H r H' h=>by
  simp only[evB] at h
  split at h
  ·rename_i r' hr
   simp only[Option.some.injEq] at h
   subst h
   exact hb K args H _ _ hr
  ·exact c2x ok okc hn (b4e _) (c5h ok okc hn hb n) K args H r H' h
theorem f9q {C:Cx}:S6 C (a9c.st []):=fun K f vals bs c x y h=>by cases h
theorem b8k {C:Cx} {K:FuncId} {S:SmB} {tb:a9c} (h:S6 C tb.st)
  (hS:∀vals bs r bs' news,S.pre vals bs=true→S.f vals bs=some (r,bs',news)→Q0 C.P K∧V8 C K vals (L5 bs) fun r' H'=>r'=r∧H'=Y4 bs' news):S6 C (a9c.st ((K,S)::tb)):=fun K' f vals bs c x y ht hp hf=>by
 unfold a9c.st c9y at ht
 by_cases e:K'=K
 ·subst e
  simp only[beq_self_eq_true,cond_true,Option.some.injEq] at ht
  subst ht
  simp only[SmB.sm] at hp hf
  cases hx:S.f vals bs with
  | none=>rw[hx] at hf;cases hf
  | some q =>
   obtain ⟨r,bs',news⟩:=q
   rw[hx] at hf
   simp only[one,Option.some.injEq,Prod.mk.injEq] at hf
   obtain ⟨rfl,rfl,rfl⟩:=hf
   exact hS vals bs r bs' news hp hx
 ·have:(K'==K)=false:=by simpa using e
  rw[this] at ht
  exact h K' f vals bs c x y ht hp hf
end Go.Ev
end
section
namespace Go.Ev
abbrev itV (it:Nat):V:=.d (.lit (.pointer (some ⟨it,0,none⟩)))
structure a6q (it r:Nat) (ms:Array MapEntry) (c:Nat) (es:List (D×D)) (seen:Array Nat) (g:G) (w:World):Prop where
 blk:w.heap[it]?=some (.mapIter (some r) c seen c)
 own:g.owner it=none
 map:w.heap[r]?=some (.map ms c)
 pos:0<g.lim r
 keys:E5 w g.lim (es.map (·.1)) (ms.toList.map (·.key))
 vals:E5 w g.lim (es.map (·.2)) (ms.toList.map (·.val))
 st:c8j ms c
section
variable {C : Cx} {w w' : World} {g g' : G} {s s' : St} {a : Act} {it r c : Nat} {ms : Array MapEntry} {es : List (D × D)} {seen : Array Nat}
theorem a6q.lt (h:a6q it r ms c es seen g w):it<w.heap.size:=(Array.getElem?_eq_some_iff.1 h.blk).1
theorem a6q.step (h:a6q it r ms c es seen g w) (st:j7 w g w' g'):a6q it r ms c es seen g' w' :=
 ⟨(st.free it h.lt h.own).1.trans h.blk,(st.free it h.lt h.own).2.2,st.grow.map r ms c h.pos h.map,Nat.lt_of_lt_of_le h.pos (st.grow.le r),h.keys.mono st.grow,h.vals.mono st.grow,h.st⟩
theorem e7e (R:Rel C g s a w) (h:a6q it r ms c es seen g w) (seen':Array Nat) (hal:w'.os=w.os∧w'.tape=w.tape∧w'.output=w.output) (hw:w'.heap=w.heap.setIfInBounds it (.mapIter (some r) c seen' c)) :
  Rel C g s a w'∧a6q it r ms c es seen' g w'∧∀(w0:World) (g0:G),w0.heap.size≤it→j7 w0 g0 w g→j7 w0 g0 w' g:=by
 have hother:∀k,k≠it→w'.heap[k]?=w.heap[k]?:=fun k hk=>by rw[hw,Array.getElem?_setIfInBounds,if_neg (Ne.symm hk)]
 have hsame:w'.heap[it]?=some (.mapIter (some r) c seen' c):=by rw[hw];simp[h.lt]
 have hri:r≠it:=fun e=>by have:=h.map;rw[e,h.blk] at this;cases this
 have hg:Q9 w g.lim w' g.lim:=⟨fun _=>Nat.le_refl _,fun b o ho=>by
   by_cases e:b=it
   ·subst e;simp only[World.cell?,hsame,h.blk]
   ·simp only[World.cell?,hother b e],fun b ms' c' hb hm=>by
   by_cases e:b=it
   ·subst e;rw[h.blk] at hm;cases hm
   ·rw[hother b e];exact hm,fun b c' t m hb hm=>by
   by_cases e:b=it
   ·subst e;rw[h.blk] at hm;cases hm
   ·exact ⟨c',_,by rw[hother b e];exact hm,rfl⟩⟩
 have hsz:w'.heap.size=w.heap.size:=by rw[hw];simp
 have hnm:J9 s.H g s.H g:=.refl _ _
 have hH:K7 w' g s.H:=⟨fun n b hb=>(R.heap.box n b hb).mono hb hg hnm fun _ k hk=>by
   have hk':k≠it:=fun e=>by subst e;rw[h.own] at hk;cases hk
   exact ⟨hother k hk',hk,rfl⟩,fun b hb=>R.heap.fresh b (by rw[←hsz];exact hb)⟩
 refine ⟨R.later hg hnm hH,⟨hsame,h.own,(hother r hri).trans h.map,h.pos,h.keys.mono hg,h.vals.mono hg,h.st⟩,fun w0 g0 hle st=>?_⟩
 exact ⟨hal.1.trans st.os,hal.2.1.trans st.tape,hal.2.2.trans st.output,by rw[hsz];exact st.size,fun b hb ho=>by
  have:b≠it:=by omega
  obtain ⟨k1,k2,k3⟩:=st.free b hb ho
  exact ⟨(hother b this).trans k1,k2,k3⟩,st.grow.trans hg⟩
theorem c9a (P:Program) (ty:TypeId) (h:a6q it r ms c es seen g w) :
  ((leftOf ms seen).size=0∧(Instr.next (.pointer (some ⟨it,0,none⟩)) false ty).run P w= .ok (.tuple #[.bool false]) w)∨
  ∃e∈(leftOf ms seen).toList,∃w':World,(w'.os=w.os∧w'.tape=w.tape∧w'.output=w.output)∧w'.heap=w.heap.setIfInBounds it (.mapIter (some r) c (seen.push e.born) c)∧
   (Instr.next (.pointer (some ⟨it,0,none⟩)) false ty).run P w= .ok (.tuple #[.bool true,e.key,e.val]) w':=by
 simp only[Instr.next,getObj,Sem.run_bind,Sem.run,h.blk,h.map,Result.andThen,next_test_false seen ms c c h.st.old (Nat.le_refl _),Bool.false_eq_true,if_false]
 unfold leftOf
 have hmem:∀x∈(Array.filter (fun e=> !seen.contains e.born) ms).toList,x.born<c:=fun x hx=>h.st.old x (by simp at hx ⊢;exact hx.1)
 generalize Array.filter (fun e=> !seen.contains e.born) ms=L at hmem ⊢
 have e1:L.filter (fun x=>decide (x.born<c))=L:=Array.filter_eq_self.2 (fun x hx=>by simpa using hmem x (by simpa using hx))
 have e2:L.filter (fun x=>decide (x.born≥c))= #[]:=by
  rw[Array.filter_eq_empty_iff]
  intro x hx
  have:=hmem x (by simpa using hx)
  simp
  omega
 simp only[e1,e2,Array.append_empty]
 by_cases h0:L.size=0
 ·left
  have:L= #[]:=Array.eq_empty_of_size_eq_zero h0
  subst this
  refine ⟨rfl, ?_⟩
  simp[choose,Sem.run,Question.forced]
 ·right
  have hne:L.isEmpty=false:=by simp[Array.isEmpty,h0]
  simp only[hne,Bool.false_eq_true,if_false,Array.empty_append,Array.size_map]
  have hch:∃(j:Nat) (w1:World),j<L.size∧(w1.os=w.os∧w1.tape=w.tape∧w1.output=w.output)∧w1.heap=w.heap∧(choose (Question.mapNext L.size)).run P w= .ok j w1:=by
   by_cases hf:L.size≤1
   ·exact ⟨0,w,by omega,⟨rfl,rfl,rfl⟩,rfl,by simp[choose,Sem.run,Question.forced,hf]⟩
   ·exact ⟨_,w.drew,Nat.mod_lt _ (by omega),⟨rfl,rfl,rfl⟩,rfl,by
     simp only[choose,Sem.run,Question.forced,decide_eq_true_eq,hf,if_false,Question.cut]
     rfl⟩
  obtain ⟨j,w1,hj,hal,hhp,hrun⟩:=hch
  refine ⟨L[j],by simp,{w1 with heap:=w1.heap.setIfInBounds it (.mapIter (some r) c (seen.push L[j].born) c) },hal,by simp[hhp], ?_⟩
  have hi:w1.heap[it]?=some (.mapIter (some r) c seen c):=by rw[hhp];exact h.blk
  have hset:∀(o':Obj),(setObj it o').run P w1= .ok () {w1 with heap:=w1.heap.setIfInBounds it o' }:=fun o'=>by
   simp only[setObj,Sem.run,hi]
  simp only[hrun,Array.getElem?_map,Array.getElem?_eq_getElem hj,Option.map_some,Sem.run_bind,hset,Result.andThen]
  rfl
theorem c6f (P:Program) {e:MapEntry} (h:a6q it r ms c es (seen.push e.born) g w) (he:e∈ms.toList) :
  (Instr.entry (.pointer (some ⟨it,0,none⟩))).run P w= .ok (.tuple #[e.key,e.val]) w:=by
 have hf:ms.find? (·.born==e.born)=some e:=by rw[←Array.find?_toList];exact find_born e ms.toList h.st.uniq he
 simp only[Instr.entry,getObj,Sem.run_bind,Sem.run,h.blk,h.map,Result.andThen,Array.back?_push,bne_self_eq_false,Bool.false_eq_true,if_false,hf]
 rfl
theorem E5.at {lim:Nat→Nat} {xs:List D} {vs:List Value} {i:Nat} {v:Value} (h:E5 w lim xs vs) (hv:vs[i]?=some v):∃x,xs[i]?=some x∧N7 w lim x v:=by
 have hl:=h.length
 have hi:i<xs.length:=by rw[hl];exact (List.getElem?_eq_some_iff.1 hv).1
 obtain ⟨v',h1,h2⟩:=h.get (List.getElem?_eq_getElem hi)
 rw[h1] at hv;cases hv
 exact ⟨_,List.getElem?_eq_getElem hi,h2⟩
theorem a6q.entry (h:a6q it r ms c es seen g w) {e:MapEntry} (he:e∈ms.toList):∃(i:Nat) (p:D×D),ms.toList[i]?=some e∧es[i]?=some p∧N7 w g.lim p.1 e.key∧N7 w g.lim p.2 e.val:=by
 obtain ⟨i,hi⟩:=List.mem_iff_getElem?.1 he
 obtain ⟨x,h1,h2⟩:=h.keys.at (i:=i) (v:=e.key) (by simp[hi])
 obtain ⟨y,h3,h4⟩:=h.vals.at (i:=i) (v:=e.val) (by simp[hi])
 rw[List.getElem?_map] at h1 h3
 cases hp:es[i]? with
 | none=>rw[hp] at h1;cases h1
 | some p =>
  rw[hp] at h1 h3
  simp at h1 h3
  subst h1 h3
  exact ⟨i,p,hi,hp,h2,h4⟩
end
def b5i (C:Cx) (tb:Tab) (cs:CS) (k:Nat) (sp:Nat→Option Spec) (hn:Nat→Option o9) (d9 d10 d11:Nat) (ops3:Array Oper) (tail:Code) (kx vx:D) (s:St) (K:X→St→Prop):Prop :=
 go (s.put (some d9) (.d (.tup [.lit (.bool true),kx,vx]))) fun s=>go (s.put (some d10) (A9 true)) fun s =>
  go ((f0 s ops3.toList).put (some d11) (.d (.tup [kx,vx]))) fun s=>bif M1 ops3.toList then False else
   a7d C tb cs ops3 ops3.toList.tail s fun s2=>P1 C tb cs k sp hn true tail s2 K
section
variable {C : Cx} {tb : Tab} {cs : CS} {k : Nat}
theorem d4c {l:List MapEntry} (hn:(l.map (·.born)).Nodup) {i j:Nat} {e:MapEntry} (hi:l[i]?=some e) (hj:l[j]?=some e):i=j:=by
 obtain ⟨a1,b1⟩:=List.getElem?_eq_some_iff.1 hi
 obtain ⟨a2,b2⟩:=List.getElem?_eq_some_iff.1 hj
 exact (List.getElem_inj (h₀:=by simpa using a1) (h₁:=by simpa using a2) hn).1 (by simp[b1,b2])
theorem d5w (F : a9y C cs.call) (hE : Has C tb) {sp : Nat → Option Spec} {hn : Nat → Option o9} {d8 d9 d10 d11 idX id2 id3 b1 : Nat} {oN oX oE : Oper} {rest : List Oper} {ops3 : Array Oper} {tail : Code}
  (hops : ops3.toList = oE :: rest) (hN1 : oN.op = .next (.tmp d8) false) (hN2 : oN.dst = some d9) (hN3 : oN.guard = none) (hX1 : oX.op = .extract (.tmp d9) 0) (hX2 : oX.dst = some d10) (hX3 : oX.guard = none)
  (hE1 : oE.op = .entry (.tmp d8)) (hE2 : oE.dst = some d11) (hE3 : oE.guard = none) (h98 : d9 ≠ d8) (h108 : d10 ≠ d8) (ok : o8 C k sp (H8 true tail))
  {it r c : Nat} {ms : Array MapEntry} {es : List (D × D)} {N : Nat} {L L' : List Nat} {nm nm' : List B2} {nsI nsX : List (B2 × B2)} (hI : Q8 nsI = nm) (hX : Q8 nsX = nm')
  (Inv : List Nat → List V → List Box → Prop) (Kx : List V → List Box → Prop)
  (hF : ∀ dn vals bs, Inv dn vals bs → (stN N L nm vals bs).F d8 = itV it)
  (hround : ∀ dn vals bs (i : Nat) (p : D × D), Inv dn vals bs → i ∉ dn → es[i]? = some p → a5c (b5i C tb cs k sp hn d9 d10 d11 ops3 tail p.1 p.2 (stN N L nm vals bs) fun x s => s.N = N ∧ (x = .normal ∧ go (w6 k L nsI s) fun q => Inv (i :: dn) q.1 q.2)))
  (hend : ∀ dn vals bs, Inv dn vals bs → (∀ i, i < es.length → i ∈ dn) →
   a5c (go ((stN N L nm vals bs).put (some d9) (.d (.tup [.lit (.bool false)]))) fun s => go (s.put (some d10) (A9 false)) fun s => s.N = N ∧ go (w6 k L' nsX s) fun q => Kx q.1 q.2))
  {w0 : World} {g0 : G} {H0 : B4} {Q : Exit → Act → World → Prop} (hit : w0.heap.size ≤ it)
  (hq : ∀ s' a' w', (∃ vs bs', s' = stN N L' nm' vs bs' ∧ Kx vs bs') → Z0 k s'.H → Y8 C g0 H0 w0 s' a' w' → Q (.exit idX) a' w') :
  ∀ (n : Nat) (seen : Array Nat) (dn : List Nat) (vals : List V) (bs : List Box) (g : G) (a : Act) (w : World), (leftOf ms seen).size < n → (∀ (i : Nat) e, ms.toList[i]? = some e → (seen.contains e.born = true ↔ i ∈ dn)) → Inv dn vals bs →
   Rel C g (stN N L nm vals bs) a w → Z0 k (stN N L nm vals bs).H → a6q it r ms c es seen g w → j7 w0 g0 w g → z8 H0 g0 (stN N L nm vals bs).H g →
   wpL C.P (.seq (.region id2 #[oN, oX] false) (.seq (.cond (.tmp d10) .skip (.exit idX)) (.block b1 (.seq (.region id3 ops3 false) tail)))) Q a w := by
 intro n
 induction n with
 | zero => intro seen dn vals bs g a w h; omega
 | succ n ih =>
  intro seen dn vals bs g a w hn hag hinv R z iw st kp
  have hlen : es.length = ms.toList.length := by have := iw.keys.length; simpa using this
  have hp8 : a.eval (.tmp d8) = .pointer (some ⟨it, 0, none⟩) := by
   have := R.slots d8
   rw [hF dn vals bs hinv] at this
   exact this.lit_inv
  -- the step, and its first part
  have step2 : ∀ {v : Value} {x : V} {b : Bool} {xs : List D} {g1 : G} {w1 : World} {s1 s2 : St} {Q' : Exit → Act → World → Prop}, (execOp a.eval oN).run C.P w = .ok (.value v) w1 → Rel C g1 (stN N L nm vals bs) a w1 → D9 w1 g1 (stN N L nm vals bs).H x v →
    x = .d (.tup (.lit (.bool b) :: xs)) → (stN N L nm vals bs).put (some d9) x = some s1 → s1.put (some d10) (A9 b) = some s2 → (∀ a', Rel C g1 s2 a' w1 → s2.H = (stN N L nm vals bs).H → a'.eval (.tmp d8) = .pointer (some ⟨it, 0, none⟩) → Q' .normal a' w1) →
    (Code.region id2 #[oN, oX] false).wp C.P Q' a w := by
   intro v x b xs g1 w1 s1 s2 Q' hx R1 hv hxe h1 h2 hk
   refine wp_region_list ?_
   show wpList C.P #[oN, oX] Q' [oN, oX] a w
   unfold wpList
   rw [if_pos (X3 R1 (show J6 #[oN, oX] oN (stN N L nm vals bs).F = some true by unfold J6; rw [hN3]))]
   refine .inl (H7 (C := C) hx ?_)
   obtain ⟨R2, e2⟩ := X8 R1 h1 hv
   rw [← hN2] at R2
   unfold wpList
   rw [if_pos (X3 R2 (show J6 #[oN, oX] oX s1.F = some true by unfold J6; rw [hX3]))]
   have hs1 : s1.F d9 = x := by
    simp only [St.put] at h1
    cases hb : Nat.blt d9 (stN N L nm vals bs).N with
    | false => rw [hb] at h1; cases h1
    | true => rw [hb] at h1; simp at h1; subst h1; simp [upd]
   have h9 := R2.slots d9
   rw [hs1, hxe] at h9
   obtain ⟨ar, har, hb0⟩ : ∃ ar : Array Value, (a.put oN.dst v).eval (.tmp d9) = .tuple ar ∧ ar[0]? = some (.bool b) := by
    cases h9 with
    | d h9 =>
     generalize hz : (a.put oN.dst v).tmps.getD d9 undef = u at h9
     cases h9 with
     | tup h9 =>
      rename_i ar
      refine ⟨ar, hz, ?_⟩
      generalize hl : ar.toList = l at h9
      cases h9 with
      | cons h0 t =>
       cases h0
       have : ar.toList[0]? = some (.bool b) := by rw [hl]; rfl
       simpa using this
   refine .inl (H7 (C := C) (v := .bool b) (w' := w1) ?_ ?_)
   ·simp [execOp, hX1, har, Instr.extract, hb0]
   ·unfold wpList
    obtain ⟨R3, e3⟩ := X8 R2 h2 (.d (.lit (by simp)) : D9 w1 g1 s1.H (A9 b) (.bool b))
    rw [← hX2] at R3
    refine hk _ R3 (e3.trans e2) ?_
    have : ((a.put oN.dst v).put oX.dst (.bool b)).eval (.tmp d8) = a.eval (.tmp d8) := by
     rw [hN2, hX2]
     simp only [Act.eval, Act.put, Array.getD_eq_getD_getElem?]
     rw [Array.getElem?_setIfInBounds_ne h108, Array.getElem?_setIfInBounds_ne h98]
    rw [this]; exact hp8
  refine d7y (wp_seq ?_)
  rcases c9a C.P oN.type iw with ⟨h0, hrun⟩ | ⟨e, he, w1, hal, hhp, hrun⟩
  ·-- the end
   have hall : ∀ i, i < es.length → i ∈ dn := fun i hi => by
    have hi' : i < ms.toList.length := by omega
    exact (hag i _ (List.getElem?_eq_getElem hi')).1 (all_seen ms seen h0 _ (List.getElem_mem hi'))
   obtain ⟨s1, h1, hk⟩ := F4 (hend dn vals bs hinv hall).h
   obtain ⟨s2, h2, hN', hk⟩ := F4 hk
   obtain ⟨⟨vs, bs'⟩, h3, hk⟩ := F4 hk
   refine step2 (x := .d (.tup [.lit (.bool false)])) (b := false) (xs := []) (v := .tuple #[.bool false]) (w1 := w) (g1 := g) ?_ R (.d (.tup (.cons (.lit (by simp)) .nil))) rfl h1 h2 ?_
   ·simp only [execOp, hN1, hp8]; simp [hrun]
   ·intro a' R' hH' _
    refine wp_seq (wp_cond_false ?_ ?_)
    ·have : s2.F d10 = A9 false := by
      simp only [St.put] at h2
      cases hb : Nat.blt d10 s1.N with
      | false => rw [hb] at h2; cases h2
      | true => rw [hb] at h2; simp at h2; subst h2; simp [upd]
     have h10 := R'.slots d10
     rw [this] at h10
     exact h10.lit_inv
    ·refine wp_exit ?_
     have z2 : Z0 k s2.H := by rw [hH']; exact z
     obtain ⟨z3, p⟩ := Z7 h3 g a' w R' z2
     rw [hN', hX] at z3 p
     exact hq _ _ _ ⟨vs, bs', rfl, hk⟩ z3 (p.after st (by rw [hH']; exact kp))
  ·-- an entry
   have hml := mem_left he
   obtain ⟨i, p, hi, hpi, hk1, hk2⟩ := iw.entry hml.1
   have hnd : i ∉ dn := fun h => by have := (hag i e hi).2 h; rw [hml.2] at this; cases this
   obtain ⟨s1, h1, hk⟩ := F4 (hround dn vals bs i p hinv hnd hpi).h
   obtain ⟨s2, h2, hk⟩ := F4 hk
   obtain ⟨s3, h3, hk⟩ := F4 hk
   have hset : M1 ops3.toList = false := by
    cases hs : M1 ops3.toList with
    | false => rfl
    | true => rw [hs] at hk; exact hk.elim
   rw [hset] at hk
   simp only [cond_false] at hk
   obtain ⟨s4, h4, hk⟩ := r7 hE hk
   obtain ⟨R1, iw1, hst⟩ := e7e R iw (seen.push e.born) hal hhp
   have hkd := iw1.entry hml.1
   have rk : N7 w1 g.lim p.1 e.key ∧ N7 w1 g.lim p.2 e.val := by
    obtain ⟨j, q, hj, hqj, k1, k2⟩ := iw1.entry hml.1
    have hij : j = i := d4c iw.st.uniq hj hi
    subst hij
    rw [hqj] at hpi; cases hpi
    exact ⟨k1, k2⟩
   refine step2 (x := .d (.tup [.lit (.bool true), p.1, p.2])) (b := true) (xs := [p.1, p.2]) (v := .tuple #[.bool true, e.key, e.val]) (w1 := w1) (g1 := g) ?_ R1 (.d (.tup (.cons (.lit (by simp)) (.cons rk.1 (.cons rk.2 .nil))))) rfl h1 h2 ?_
   ·simp only [execOp, hN1, hp8]; simp [hrun]
   ·intro a2 R2 hH2 hp82
    refine wp_seq (wp_cond_true ?_ (wp_skip ?_))
    ·have : s2.F d10 = A9 true := by
      simp only [St.put] at h2
      cases hb : Nat.blt d10 s1.N with
      | false => rw [hb] at h2; cases h2
      | true => rw [hb] at h2; simp at h2; subst h2; simp [upd]
     have h10 := R2.slots d10
     rw [this] at h10
     exact h10.lit_inv
    ·have z2 : Z0 k s2.H := by rw [hH2]; exact z
     have st2 := hst w0 g0 hit st
     have kp2 : z8 H0 g0 s2.H g := by rw [hH2]; exact kp
     refine wp_block (wp_seq (wp_region_list ?_))
     obtain ⟨g3, R3, st3, kp3⟩ := a7k ops3.toList R2
     have iw3 := iw1.step st3
     rw [hops]
     unfold wpList
     rw [if_pos (X3 R3 (show J6 ops3 oE (f0 s2 ops3.toList).F = some true by unfold J6; rw [hE3]))]
     have hent := c6f C.P (e := e) iw3 hml.1
     refine .inl (H7 (C := C) (v := .tuple #[e.key, e.val]) (w' := w1) (by simp only [execOp, hE1, hp82]; simp [hent]) ?_)
     have rk3 : D9 w1 g3 (f0 s2 ops3.toList).H (.d (.tup [p.1, p.2])) (.tuple #[e.key, e.val]) := .d (.tup (.cons (rk.1.mono st3.grow) (.cons (rk.2.mono st3.grow) .nil)))
     obtain ⟨R4, e4⟩ := X8 R3 h3 rk3
     rw [← hE2] at R4
     have h4' : P0 C false cs.call ops3 rest s3 = some s4 := by rw [hops] at h4; exact h4
     refine a7c F.ok F.calls F.valid rest R4 h4' fun a5 w5 hp5 => ?_
     obtain ⟨g5, R5, st5, kp5⟩ := hp5
     have zb : j9 s2.H s4.H := by
      refine (a5o ops3.toList).trans (j9.trans ?_ (a2o (fun K f args H r H' h1 h2 => (F.calls.prim K f args H r H' h1 h2).2) (fun K args H r H' h => (F.valid K args H r H' h).2.2) h4'))
      rw [e4]; exact .rfl'
     have z5 := z2.back zb
     have kp5' : z8 (f0 s2 ops3.toList).H g3 s4.H g5 := by rw [← e4]; exact kp5
     refine (a4c F hE tail true _ _ ok hk) g5 a5 w5 _ R5 z5 fun x s' a' w' hx z6 hp6 => ?_
     obtain ⟨g6, R6, st6, kp6⟩ := hp6
     obtain ⟨hN', rfl, hx⟩ := hx
     obtain ⟨⟨vs, bs'⟩, h7, hinv'⟩ := F4 hx
     obtain ⟨z7, g7, R7, st7, kp7⟩ := Z7 h7 g6 a' w' R6 z6
     rw [hN', hI] at z7 R7 kp7
     have stA := ((st3.trans st5).trans st6).trans st7
     refine ih (seen.push e.born) (i :: dn) vs bs' g7 a' w' ?_ ?_ hinv' R7 z7 (iw1.step stA) (st2.trans stA) ((kp2.trans kp3).trans ((kp5'.trans kp6).trans kp7))
     ·have := left_shrinks ms seen e he; omega
     ·intro j e' hj
      rw [contains_push, List.mem_cons, ← hag j e' hj]
      constructor
      ·intro h
       cases hc : seen.contains e'.born with
       | true => exact .inr rfl
       | false =>
        rw [hc, Bool.false_or] at h
        have heq : e'.born = e.born := by simpa using h
        have := born_inj iw.st.uniq (List.mem_of_getElem? hj) hml.1 heq
        subst this
        exact .inl (d4c iw.st.uniq hj hi)
      ·rintro (rfl | h)
       ·rw [hi] at hj; cases hj; simp
       ·rw [h]; rfl
theorem a4t (ok:a7m C) (okc:U6 C) {call:E7} (hv:X2 C call) {ops:Array Oper} {Q:Exit→Act→World→Prop} {m:List Oper} {s':St} :
  ∀(l:List Oper) {g:G} {s:St} {a:Act} {w:World},Rel C g s a w→P0 C false call ops l s=some s'→(∀a' w',Y8 C g s.H w s' a' w'→wpList C.P ops Q m a' w')→wpList C.P ops Q (l++m) a w
 | [],g,s,a,w,R,h,hq=>by
  simp[P0] at h;subst h
  exact hq _ _ ⟨g,R, .refl _ _, .refl _ _⟩
 | o::l,g,s,a,w,R,h,hq=>by
  simp only[P0] at h
  simp only[List.cons_append]
  unfold wpList
  split at h
  ·rename_i hw
   rw[if_pos (X3 R hw)]
   split at h
   ·rename_i s1 ho
    refine .inl (c7m ok okc hv R (fun h=>by cases h) ho fun a' w' hp=>?_)
    obtain ⟨g1,r1,st,k⟩:=hp
    exact a4t ok okc hv l r1 h fun a2 w2 hp2=>hq _ _ (hp2.after st k)
   ·simp at h
  ·rename_i hw
   rw[if_neg (by rw[X3 R hw];simp)]
   split at h
   ·rename_i s1 hp
    obtain ⟨r1,e1⟩:=X8 R hp a4j
    refine a4t ok okc hv l r1 h fun a2 w2 hp2=>hq _ _ ?_
    rw[←e1];exact hp2
   ·simp at h
  ·simp at h
theorem d5v (F : a9y C cs.call) (hE : Has C tb) {sp : Nat → Option Spec} {hn : Nat → Option o9} {d7 d8 d9 d10 d11 idX id1 id2 id3 b1 : Nat} {oR oN oX oE : Oper} {pre rest : List Oper} {ops1 ops3 : Array Oper} {tail : Code} {t kt et : TypeId}
  (hops1 : ops1.toList = pre ++ [oR]) (hR1 : oR.op = .range t (.tmp d7)) (hR2 : oR.dst = some d8) (hR3 : oR.guard = none) (hu : C.P.underlying t = some (.map kt et))
  (hops : ops3.toList = oE :: rest) (hN1 : oN.op = .next (.tmp d8) false) (hN2 : oN.dst = some d9) (hN3 : oN.guard = none) (hX1 : oX.op = .extract (.tmp d9) 0) (hX2 : oX.dst = some d10) (hX3 : oX.guard = none)
  (hE1 : oE.op = .entry (.tmp d8)) (hE2 : oE.dst = some d11) (hE3 : oE.guard = none) (h98 : d9 ≠ d8) (h108 : d10 ≠ d8) (ok : o8 C k sp (H8 true tail))
  {es : List (D × D)} {N : Nat} {L L' : List Nat} {nm nm' : List B2} {ns0 nsI nsX : List (B2 × B2)} (h0 : Q8 ns0 = nm) (hI : Q8 nsI = nm) (hX : Q8 nsX = nm')
  (Inv : Nat → List Nat → List V → List Box → Prop) (Kx : List V → List Box → Prop) {K : X → St → Prop} {s : St} (hKx : ∀ vs bs, Kx vs bs → K .normal (stN N L' nm' vs bs))
  (hF : ∀ it dn vals bs, Inv it dn vals bs → (stN N L nm vals bs).F d8 = itV it)
  (hstart : a5c (go (P0 C false cs.call ops1 pre s) fun s1 => s1.F d7 = .d (.map es) ∧ (s1.N = N ∧ ∀ it, go (s1.put (some d8) (itV it)) fun s2 => go (w6 k L ns0 s2) fun q => Inv it [] q.1 q.2)))
  (hround : ∀ it dn vals bs (i : Nat) (p : D × D), Inv it dn vals bs → i ∉ dn → es[i]? = some p → a5c (b5i C tb cs k sp hn d9 d10 d11 ops3 tail p.1 p.2 (stN N L nm vals bs) fun x s => s.N = N ∧ (x = .normal ∧ go (w6 k L nsI s) fun q => Inv it (i :: dn) q.1 q.2)))
  (hend : ∀ it dn vals bs, Inv it dn vals bs → (∀ i, i < es.length → i ∈ dn) →
   a5c (go ((stN N L nm vals bs).put (some d9) (.d (.tup [.lit (.bool false)]))) fun s => go (s.put (some d10) (A9 false)) fun s => s.N = N ∧ go (w6 k L' nsX s) fun q => Kx q.1 q.2)) :
  T C k (.seq (.region id1 ops1 false) (.block idX (.loop (.seq (.region id2 #[oN, oX] false) (.seq (.cond (.tmp d10) .skip (.exit idX)) (.block b1 (.seq (.region id3 ops3 false) tail))))))) s K := by
 intro g a w Q R z hq
 obtain ⟨s1, h1, hes, hN, hst⟩ := F4 hstart.h
 have zb : Z0 k s1.H := z.back (a2o (fun K f args H r H' h1 h2 => (F.calls.prim K f args H r H' h1 h2).2) (fun K args H r H' h => (F.valid K args H r H' h).2.2) h1)
 refine wp_seq (wp_region_list ?_)
 rw [hops1]
 refine a4t F.ok F.calls F.valid pre R h1 fun a1 w1 hp => ?_
 obtain ⟨g1, R1, st1, kp1⟩ := hp
 have h7 := R1.slots d7
 rw [hes] at h7
 have h7' : ∃ r ms c, a1.eval (.tmp d7) = .map (some r) ∧ 0 < g1.lim r ∧ w1.heap[r]? = some (.map ms c) ∧ E5 w1 g1.lim (es.map (·.1)) (ms.toList.map (·.key)) ∧ E5 w1 g1.lim (es.map (·.2)) (ms.toList.map (·.val)) ∧ c8j ms c := by
  cases h7 with
  | d h7 =>
   generalize hz : a1.tmps.getD d7 undef = u at h7
   cases h7 with
   | map x1 x2 x3 x4 x5 => exact ⟨_, _, _, hz, x1, x2, x3, x4, x5⟩
 obtain ⟨r, ms, c, hev, hpos, hw, hk, hvl, hstm⟩ := h7'
 unfold wpList
 rw [if_pos (X3 R1 (show J6 ops1 oR s1.F = some true by unfold J6; rw [hR3]))]
 have hrun := run_range_map (P := C.P) w1 t kt et r ms c hu hw
 refine .inl (H7 (C := C) (v := .pointer (some ⟨w1.heap.size, 0, none⟩)) (w' := w1.alloc (.mapIter (some r) c #[] c)) (by simp only [execOp, hR1, hev]; simp [hrun]) ?_)
 have hE1' := Ext.alloc w1 (.mapIter (some r) c #[] c)
 obtain ⟨R2, st2, nm2⟩ := a9t (lim' := g1.lim) R1 hE1' (fun _ _ => rfl) (fun b hb => (R1.heap.fresh b (Nat.le_trans hE1'.size hb)).1)
 obtain ⟨s2, h2, hk2⟩ := F4 (hst w1.heap.size)
 obtain ⟨⟨vals, bs⟩, h3, hinv⟩ := F4 hk2
 obtain ⟨R3, e3⟩ := X8 R2 h2 (.d (.lit (by simp)) : D9 _ _ s1.H (itV w1.heap.size) (.pointer (some ⟨w1.heap.size, 0, none⟩)))
 rw [← hR2] at R3
 have z2 : Z0 k s2.H := by rw [e3]; exact zb
 have hNs : s2.N = N := (e6d h2).trans hN
 obtain ⟨z3, g4, R4, st4, kp4⟩ := Z7 h3 _ _ _ R3 z2
 rw [hNs, h0] at z3 R4 kp4
 have kp2 : z8 s1.H g1 s2.H ⟨g1.val, g1.lim, g1.owner⟩ := by rw [e3]; exact .of_names nm2
 have iw : a6q w1.heap.size r ms c es #[] ⟨g1.val, g1.lim, g1.owner⟩ (w1.alloc (.mapIter (some r) c #[] c)) :=
  ⟨heap_alloc_new w1 _, (R1.heap.fresh _ (Nat.le_refl _)).2, by rw [heap_alloc_old w1 _ (Array.getElem?_eq_some_iff.1 hw).1]; exact hw, hpos, hk.mono st2.grow, hvl.mono st2.grow, hstm⟩
 unfold wpList
 refine wp_block (e5h ?_)
 refine d5w F hE hops hN1 hN2 hN3 hX1 hX2 hX3 hE1 hE2 hE3 h98 h108 ok (es := es) (N := N) (L := L) (L' := L') (nm := nm) (nm' := nm') hI hX (Inv w1.heap.size) Kx (hF _) (hround _) (fun dn vals bs hi hall => hend _ dn vals bs hi hall)
  (w0 := w1) (g0 := g1) (H0 := s1.H) (Nat.le_refl _) ?_ ((leftOf ms #[]).size + 1) #[] [] vals bs g4 _ _ (Nat.lt_succ_self _) (fun i e _ => by simp) hinv R4 z3 (iw.step st4) (st2.trans st4) (kp2.trans kp4)
 rintro s' a' w' ⟨vs, bs', rfl, hk'⟩ zz hp
 have := hq .normal (stN N L' nm' vs bs') a' w' (hKx vs bs' hk') zz (hp.after st1 kp1)
 simpa [a4e, Exit.inBlock] using this
end
theorem c5g {C:Cx} {tb:Tab} {cs:CS} {k:Nat} (F:a9y C cs.call) (hE:Has C tb) {sp:Nat→Option Spec} {hn:Nat→Option o9} {c:Code} {il:Bool} {s:St} {K:X→St→Prop} (ok:o8 C k sp (H8 il c)) (h:a5c (P1 C tb cs k sp hn il c s K)):T C k c s K:=a4c F hE c il s K ok h.h
def g8o (k:Nat) (ads:List Ad) (ends:List (List (B2×B2))) (L:List Nat) (R:V→List Box→Prop) (x:X) (s:St):Prop:=match x with
 | .exit _=>False
 | _=>go (r8 ads s) fun s=>d3r k L ends s fun vs bs=>R (Y9 vs) bs
theorem e5t {B:Cx} {etb:Tab} {stb:Y7} (hB:b4t B) {K:FuncId} {fn:Func} {cd:Code} {k:Nat} {ads:List Ad} {ends:List (List (B2×B2))} {L:List Nat} (hf:B.P.funcs[K]?=some fn) (hb:fn.body=some cd) (hr:(fn.name == "runtime.NumGoroutine")=false)
  (hL:t6 fn.results.toList=some L) (hLn:b5g L=true)
  (hends:ends.all (fun ns=>Q8 ns==F9 k++K0 ((Q8 ns).length-k))=true)
  {vals:List V} {bs bs' news:List Box} {r:V} (hk:bs.length=k) (hl:bs'.length=bs.length)
  (hc:T (B.tab etb) k cd ⟨max fn.ntmps vals.length,fun t=>(vals[t]?).getD K9,L5 bs⟩ (g8o k ads ends L fun r' bx=>r'=r∧bx=bs'++news)) :
  Q0 B.P K∧V8 B K vals (L5 bs) fun r' H'=>r'=r∧H'=Y4 bs' news:=by
 refine ⟨⟨fn,hf,by simpa using hr,by rw[hb];rfl⟩, ?_⟩
 have key:V8 (B.tab etb) K vals (L5 bs) fun r' H'=>∃ns∈ends,∃bx,bx.length=(Q8 ns).length∧H'=ofL (N8 (Q8 ns) bx)∧(r'=r∧bx=bs'++news):=by
  refine a8a (k:=k) hf hb (d8i hk) (b3e hc ?_)
  intro x s' hx
  cases x with
  | exit i=>exact hx.elim
  | normal =>
   obtain ⟨s1,h1,hx⟩:=F4 (show go (r8 ads s') _ from hx)
   obtain ⟨ns,hns,vs,bx,hw,h2,h3,h4⟩:=a8v (C:=B.tab etb) hx
   exact ⟨_,(S5 h1).trans hw,vs,by rw[m9 hL];exact congrArg some (b9i hLn h2),ns,hns,bx,h3,rfl,h4⟩
  | ret =>
   obtain ⟨s1,h1,hx⟩:=F4 (show go (r8 ads s') _ from hx)
   obtain ⟨ns,hns,vs,bx,hw,h2,h3,h4⟩:=a8v (C:=B.tab etb) hx
   exact ⟨_,(S5 h1).trans hw,vs,by rw[m9 hL];exact congrArg some (b9i hLn h2),ns,hns,bx,h3,rfl,h4⟩
 intro w g vs a b c d
 refine ((key.of (C':=B) rfl rfl) w g vs a b c d).mono ?_
 rintro e w' ⟨v,r',H',g',⟨ns,hns,bx,hlen,rfl,rfl,rfl⟩,h2⟩
 refine ⟨v,_,_,g',⟨rfl, ?_⟩,h2⟩
 have hn:=List.all_eq_true.1 hends ns hns
 have hn:Q8 ns=F9 k++K0 ((Q8 ns).length-k):=by simpa using hn
 have hlen2:(Q8 ns).length-k=news.length:=by
  rw[←hlen];simp;omega
 rw[hlen2] at hn
 unfold Y4
 rw[hn,a6r (by simp[F9];omega)]
 rw[show bs'.length=k by omega]
end Go.Ev
end
section
namespace Go.Ev.R2
open Go Go.Proofs Go.Shelf Go.RowKit
theorem e5u:∃j,Tryz.prog.info? 73=some j∧j.size≠0:=by
 have h:(match Tryz.prog.info? 73 with|some i=>decide (i.size≠0)|none=>false)=true:=by kernel_rfl
 cases hi:Tryz.prog.info? 73 with
 | none=>rw[hi] at h;cases h
 | some i=>rw[hi] at h;exact ⟨i,rfl,by simpa using h⟩
set_option maxHeartbeats 1000000 in
set_option maxRecDepth 100000 in
theorem f5a (b:Nat) (w:World) (h0:w.cell? ⟨b,0,none⟩=some (.pointer (some ⟨b,0,none⟩))) :
  Calls Tryz.prog 195 #[.pointer (some ⟨b,0,none⟩)] w fun e w'=>e= .returned (.tuple #[])∧w'=w:=by
 obtain ⟨j,hj,_⟩:=e5u
 go_enter Tryz.func195,Tryz.ntmps195
 go_wp2
 rw[Lib.run_neq_ptr_same w _ Tryz.underlying70 hj]
 go_wp2
 go_end0
 exact ⟨rfl,rfl⟩
set_option maxHeartbeats 1000000 in
set_option maxRecDepth 100000 in
theorem e8m (b T n:Nat) (w:World) (h0:w.cell? ⟨b,0,none⟩=some (.pointer none)) (hsh:w.shape? b=some (T,n)) (hn:0<n) (hlies:liesAt Tryz.prog Tryz.prog.depth T (n / Tryz.prog.cellsOf T) 0 73 1=true) (hfz:w.frozen? ⟨b,0,none⟩=false) :
  Calls Tryz.prog 195 #[.pointer (some ⟨b,0,none⟩)] w fun e w'=>e= .returned (.tuple #[])∧w'=w.setCell ⟨b,0,none⟩ (.pointer (some ⟨b,0,none⟩)):=by
 obtain ⟨j,hj,hjs⟩:=e5u
 go_enter Tryz.func195,Tryz.ntmps195
 go_wp2
 rw[Lib.run_to_unsafe w ⟨b,0,none⟩ Tryz.underlying70 Tryz.underlying241 hj hjs hsh hn]
 simp only[Result.andThen]
 rw[Oper.upon_value]
 go_wp2
 rw[run_callFunc_extern Tryz.func218 (by kernel_rfl) (by kernel_rfl) (by kernel_rfl) (e:=Extern.AbiNoEscape.same) (by kernel_rfl)]
 rw[Lib.run_noEscape]
 simp only[Result.andThen]
 rw[Oper.upon_value]
 go_wp2
 rw[Lib.run_from_unsafe w ⟨b,0,none⟩ Tryz.underlying241 Tryz.underlying70 hj hsh hlies]
 simp only[Result.andThen]
 rw[Oper.upon_value]
 go_wp2
 go_end0
 exact ⟨rfl,rfl⟩
set_option maxHeartbeats 2000000 in
set_option maxRecDepth 100000 in
theorem e9w (b g cap:Nat) (cur:Array Value) (l:List UInt8) (w:World) (hl:l≠ []) (h1:w.cell? ⟨b,1,none⟩=some (.slice (some ⟨g,0,none⟩) l.length cap)) (hc:l.length≤cap) (hcm:cap≤maxLen)
  (hg:w.heap[g]?=some (.cells cur 5 (0,0))) (hcur:l.length≤cur.size) (hb:∀(j:Nat) (x:UInt8),l[j]?=some x→w.cell? ⟨g,j,none⟩=some (.int .u8 x.toNat)) :
  Calls Tryz.prog 61 #[.pointer (some ⟨b,0,none⟩)] w fun e w'=>e= .returned (.string ⟨l.toArray⟩)∧w'=w.drew.freeze ⟨g,0,none⟩ l.length:=by
 have hl0:l.length≠0:=by simpa using hl
 have c1:w.drew.cell? ⟨b,1,none⟩=some (.slice (some ⟨g,0,none⟩) l.length cap):=h1
 have hSD:(Builtin.unsafeSliceData_ #[71] 124 #[.slice (some ⟨g,0,none⟩) l.length cap]).run Tryz.prog w.drew= .ok (.pointer (some ⟨g,0,none⟩)) w.drew :=
  Lib.run_unsafeSliceData_row _ _ _ _ _ _ (by omega)
 have hUS:(Builtin.unsafeString_ #[124,3] 9 #[.pointer (some ⟨g,0,none⟩), .int .i64 l.length]).run Tryz.prog w.drew= .ok (.string ⟨l.toArray⟩) (w.drew.freeze ⟨g,0,none⟩ l.length):=by
  refine Lib.run_unsafeString_row w.drew 124 3 9 5 Tryz.underlying124 (by kernel_rfl) g cur.size (by have hg':w.drew.heap[g]?=some (.cells cur 5 (0,0)):=hg;simp[World.shape?,hg']) l hl hcur (by unfold maxLen at hcm;omega) ?_
  intro j x hx
  have:=hb j x hx
  unfold Addr.add
  split
  ·subst_vars;exact this
  ·simpa using this
 have mixed:Tryz.prog.follows Departure.mixedOrders=true:=by kernel_rfl
 go_enter Tryz.func61,Tryz.ntmps61
 go_wp2
 go_region_o
 all_goals (go_wp2;go_ret;exact ⟨rfl,rfl⟩)
set_option maxHeartbeats 2000000 in
set_option maxRecDepth 100000 in
theorem d8d (b:Nat) (w:World) (h1:w.cell? ⟨b,1,none⟩=some (.slice none 0 0)) :
  Calls Tryz.prog 61 #[.pointer (some ⟨b,0,none⟩)] w fun e w'=>e= .returned (.string ⟨#[]⟩)∧w'=w.drew:=by
 have hUS:∀(W:World) (q:Option Addr),(Builtin.unsafeString_ #[124,3] 9 #[.pointer q, .int .i64 0]).run Tryz.prog W= .ok (.string .empty) W:=fun W q=>Lib.run_unsafeString_none W _ _ _ q
 have c1:w.drew.cell? ⟨b,1,none⟩=some (.slice none 0 0):=h1
 have hSD:(Builtin.unsafeSliceData_ #[71] 124 #[.slice none 0 0]).run Tryz.prog w.drew= .ok (.pointer none) w.drew:=rfl
 have mixed:Tryz.prog.follows Departure.mixedOrders=true:=by kernel_rfl
 go_enter Tryz.func61,Tryz.ntmps61
 go_wp2
 go_region_o
 all_goals (go_wp2;go_ret;exact ⟨rfl,rfl⟩)
end Go.Ev.R2
end
section
namespace Go.Ev
theorem a6v {bs:List Box} {i:Nat} {b:Box} (h:bs[i]?=some b):L5 bs [0,i]=some b:=by
 have hlt:=(List.getElem?_eq_some_iff.1 h).1
 exact f8 (by have:=nodup_range 0 bs.length;simpa [F9] using this) (by simp[F9,hlt]) h
theorem c4c {bs:List Box} {n:B2} {b:Box} (h:L5 bs n=some b):∃i:Nat,n= [0,i]∧bs[i]?=some b:=by
 obtain ⟨i,h1,h2⟩:=g9 h
 refine ⟨i, ?_,h2⟩
 have hlt:=(List.getElem?_eq_some_iff.1 h2).1
 simp[F9,hlt] at h1
 exact h1.symm
theorem c8x {bs:List Box} {i:Nat} {b:Box} (h:i<bs.length):L5 (bs.set i b)=(L5 bs).set [0,i] b:=by
 funext n
 by_cases hn:n= [0,i]
 ·subst hn
  rw[F2]
  exact a6v (by simp[h])
 ·rw[D3 _ _ hn]
  cases hs:L5 bs n with
  | some c =>
   obtain ⟨j,rfl,hj⟩:=c4c hs
   have hji:i≠j:=fun e=>hn (by rw[e])
   exact a6v (by rw[List.getElem?_set_ne hji];exact hj)
  | none =>
   cases hs2:L5 (bs.set i b) n with
   | none=>rfl
   | some c =>
    obtain ⟨j,rfl,hj⟩:=c4c hs2
    have hji:i≠j:=fun e=>hn (by rw[e])
    rw[List.getElem?_set_ne hji] at hj
    rw[a6v hj] at hs;cases hs
theorem X4 (bs:List Box):Y4 bs []=L5 bs:=by
 unfold Y4 L5
 simp[K0,N8]
theorem f2h {C:Cx} {w:World} {g:G} {s:St} {n:B2} {u:TypeId} {cs:List V} {i:Nat} {x:V} {a:Act} (R:Rel C g s a w) (hb:s.H n=some (.cells u cs)) (hx:∀b c,g.val n= .pointer (some ⟨b,0,none⟩)→w.heap[b]?=some (.cells c u (0,0))→∀v,c.toList[i]?=some v→D9 w g s.H x v) :
  Rel C g (s.with (s.H.set n (.cells u (cs.set i x)))) a w∧J9 s.H g (s.H.set n (.cells u (cs.set i x))) g:=by
 have hn:J9 s.H g (s.H.set n (.cells u (cs.set i x))) g:=fun m q hq=>by
  refine ⟨?_,rfl⟩
  by_cases e:m=n
  ·subst e;simp[kd,hb,Box.kind] at hq;subst hq;simp[kd,F2,Box.kind]
  ·simpa [kd,D3 _ _ e] using hq
 refine ⟨R.later (.refl _ _) hn ?_,hn⟩
 refine K7.upd (n0:=n) R.heap (.refl _ _) hn (fun _ _ _ _ ho=>⟨rfl,ho,rfl⟩) (fun m hm=>D3 _ _ hm) (fun b hb'=>?_) (fun b hb=>R.heap.fresh b hb)
 rw[F2] at hb'
 cases hb'
 obtain ⟨b,c,h1,h2,h3,h4,h5,h6⟩:=R.heap.box n _ hb
 exact ⟨b,c,h1,h2,E0.mono (.refl _ _) hn (h3.set fun v hv=>hx b c h1 h2 v hv),h4,h5,h6⟩
theorem f2g {C:Cx} {w:World} {g:G} {H:B4} (hH:K7 w g H) (hG:a7q C w g.lim):Rel C g ⟨0,fun _=>K9,H⟩ {tmps:= #[],defers:=[] } w :=
 ⟨rfl,fun t=>by simpa using a4j,hH,hG,rfl⟩
end Go.Ev
namespace Go.Ev.R2
open Go Go.Ev Go.Proofs
set_option maxRecDepth 100000
theorem e2o {C:Cx} {H:B4} {n m:B2} {off t:Nat} {T:TypeId} {c0:V} {cs:List V} (hb:H n=some (.cells T (c0::cs))) (hs:K8 C t=some 1):Q3 C H t (.ptr n 0) (.ptr m off)=some (H.set n (.cells T (.ptr m off::cs))):=by
 simp[Q3,hb,hs,W5,V.cells,b4x]
 rfl
def okB (T n:Nat):Bool:=(T==73&&n==1)||(T==75&&n==3)
def f2d:SmB:=⟨fun _ _=>true,fun vals bs=>match vals,bs with
 | [.ptr [0,0] 0], .cells T (c0::cs)::rest=>bif okB T cs.length then (match c0 with
  | .d (.lit (.pointer none))=>some (.d (.tup []), .cells T (.ptr [0,0] 0::cs)::rest, [])
  | .ptr [0,0] 0=>some (.d (.tup []), .cells T (.ptr [0,0] 0::cs)::rest, [])
  | .opt [0,0] 0=>some (.d (.tup []), .cells T (.ptr [0,0] 0::cs)::rest, [])
  | _=>none) else none
 | _,_=>none⟩
theorem g2n:liesAt Tryz.prog Tryz.prog.depth 75 (4 / Tryz.prog.cellsOf 75) 0 73 1=true:=by kernel_rfl
theorem g2o:liesAt Tryz.prog Tryz.prog.depth 73 (2 / Tryz.prog.cellsOf 73) 0 73 1=true:=by kernel_rfl
theorem e5v:K8 B 70=some 1:=by kernel_rfl
theorem f2a:∃i,Tryz.prog.info? 70=some i∧i.size=1:=by
 obtain ⟨i,h1,h2⟩:=G8 e5v
 exact ⟨i,h1,h2⟩
theorem e4s:Q0 Tryz.prog 195:=by
 have h:(Tryz.f195.name == "runtime.NumGoroutine")=false:=by kernel_rfl
 exact ⟨Tryz.f195,Tryz.func195,by simpa using h,by kernel_rfl⟩
theorem e8c:Q0 Tryz.prog 61:=by
 have h:(Tryz.f61.name == "runtime.NumGoroutine")=false:=by kernel_rfl
 exact ⟨Tryz.f61,Tryz.func61,by simpa using h,by kernel_rfl⟩
theorem e2n {w:World} {b:Nat} {p:Addr} (h0:∃v,w.cell? ⟨b,0,none⟩=some v) (hfz:w.frozen? ⟨b,0,none⟩=false):(Instr.storeAt 70 (.pointer (some ⟨b,0,none⟩)) (.pointer (some p))).run Tryz.prog w= .ok () (w.setCell ⟨b,0,none⟩ (.pointer (some p))):=by
 obtain ⟨i,h1,h2⟩:=f2a
 obtain ⟨v,hv⟩:=h0
 have hs:=run_store Tryz.prog w ⟨b,0,none⟩ (.pointer (some p)) .plain rfl
 rw[hv] at hs
 simp only[hfz,Bool.false_eq_true,if_false] at hs
 simp[Instr.storeAt,Instr.sureAddr,storeVar,L1 _ w h1,h2,storeCells,Addr.add,Value.cells,hs]
theorem e9c {w:World} {g:G} {H:B4} {vs:Array Value} {n:B2} {b:Nat} (hr:E0 w g H [.ptr n 0] vs.toList) (hval:g.val n= .pointer (some ⟨b,0,none⟩)):vs= #[.pointer (some ⟨b,0,none⟩)]:=by
 obtain ⟨vs⟩:=vs
 cases hr with
 | cons h t =>
  cases t
  cases h with
  | ptr _=>rw[hval];rfl
theorem g6y:∀vals bs r bs' news,f2d.pre vals bs=true→f2d.f vals bs=some (r,bs',news)→Q0 B.P 195∧V8 B 195 vals (L5 bs) fun r' H'=>r'=r∧H'=Y4 bs' news:=by
 intro vals bs r bs' news _ hf
 refine ⟨e4s,fun w g vs hH hG hr hz=>?_⟩
 unfold f2d at hf
 simp only[] at hf
 split at hf
 case h_2=>cases hf
 rename_i T c0 cs rest hpre
 cases hT:okB T cs.length with
 | false=>rw[hT] at hf;cases hf
 | true =>
  rw[hT] at hf
  simp only[cond_true] at hf
  have hbox:=a6v (bs:=.cells T (c0::cs)::rest) (i:=0) rfl
  obtain ⟨b,c,hval,hw,hcs,hfl,hlim,how⟩:=hH.box _ _ hbox
  have hvs:=e9c hr hval
  subst hvs
  have hsz:c.size=cs.length+1:=by have:=hcs.length;simp at this;omega
  have hsh:w.shape? b=some (T,c.size):=by simp[World.shape?,hw]
  have hfz:w.frozen? ⟨b,0,none⟩=false:=by simp[World.frozen?,hw]
  have hlies:liesAt Tryz.prog Tryz.prog.depth T (c.size / Tryz.prog.cellsOf T) 0 73 1=true:=by
   rw[hsz]
   unfold okB at hT
   simp only[Bool.or_eq_true,Bool.and_eq_true,beq_iff_eq] at hT
   rcases hT with ⟨rfl,h⟩|⟨rfl,h⟩
   · rw[h];exact g2o
   · rw[h];exact g2n
  have hc0:∃v,c.toList[0]?=some v∧D9 w g (L5 (.cells T (c0::cs)::rest)) c0 v:=by
   have:=hcs.get (i:=0) (x:=c0) rfl
   exact this
  obtain ⟨v0,hv0,hr0⟩:=hc0
  have hcell:w.cell? ⟨b,0,none⟩=some v0:=by simp[World.cell?,hw];simpa using hv0
  have hset:L5 (.cells T (.ptr [0,0] 0::cs)::rest)=(L5 (.cells T (c0::cs)::rest)).set [0,0] (.cells T (.ptr [0,0] 0::cs)):=c8x (bs:=.cells T (c0::cs)::rest) (i:=0) (by simp)
  have hres:r= .d (.tup [])∧bs'= .cells T (.ptr [0,0] 0::cs)::rest∧news= []:=by
   split at hf
   · simp only[Option.some.injEq,Prod.mk.injEq] at hf;exact ⟨hf.1.symm,hf.2.1.symm,hf.2.2.symm⟩
   · simp only[Option.some.injEq,Prod.mk.injEq] at hf;exact ⟨hf.1.symm,hf.2.1.symm,hf.2.2.symm⟩
   · simp only[Option.some.injEq,Prod.mk.injEq] at hf;exact ⟨hf.1.symm,hf.2.1.symm,hf.2.2.symm⟩
   · cases hf
  have hv:v0= .pointer none∨v0= .pointer (some ⟨b,0,none⟩):=by
   split at hf
   · exact .inl hr0.lit_inv
   ·right;cases hr0 with
    | ptr _=>rw[hval];rfl
   ·cases hr0 with
    | opt _ h =>
     rcases h with h|h
     · exact .inl h
     · right;rw[h,hval];rfl
   · cases hf
  clear hf
  obtain ⟨rfl,rfl,rfl⟩:=hres
  have hp:D9 w g (L5 (.cells T (c0::cs)::rest)) (.ptr [0,0] 0) (.pointer (some ⟨b,0,none⟩)):=by
   have:D9 w g (L5 (.cells T (c0::cs)::rest)) (.ptr [0,0] 0) (a2w (g.val [0,0]) 0):=.ptr (by simp[kd,hbox,Box.kind])
   rw[hval] at this;exact this
  rcases hv with rfl|rfl
  ·refine (e8m b T c.size w hcell hsh (by omega) hlies hfz).mono ?_
   rintro e w' ⟨rfl,rfl⟩
   obtain ⟨w2,hrun,g',R',st,nm⟩:=b8g (C:=B) (f2g hH hG) (e2o hbox e5v) hp hp
   have hrun2:=e2n (w:=w) (b:=b) (p:=⟨b,0,none⟩) ⟨_,hcell⟩ hfz
   have hrun':(Instr.storeAt 70 (.pointer (some ⟨b,0,none⟩)) (.pointer (some ⟨b,0,none⟩))).run Tryz.prog w= .ok () w2:=hrun
   rw[hrun2] at hrun'
   cases hrun'
   refine ⟨_,_,_,g',⟨rfl,rfl⟩,rfl, .d (.tup .nil), ?_,st, ?_⟩
   · rw[X4,hset];exact R'.heap
   · rw[X4,hset];exact .of_names nm
  ·refine (f5a b w hcell).mono ?_
   rintro e w' ⟨rfl,rfl⟩
   obtain ⟨R',nm⟩:=f2h (C:=B) (i:=0) (x:=.ptr [0,0] 0) (f2g hH hG) hbox (fun b' c' hval' hw' v hv=>by
    rw[hval] at hval'
    cases hval'
    rw[hw] at hw'
    cases hw'
    rw[hv0] at hv
    cases hv
    exact hp)
   exact ⟨_,_,_,g,⟨rfl,rfl⟩,rfl, .d (.tup .nil),by rw[X4,hset];exact R'.heap, .refl _ _,by rw[X4,hset];exact .of_names nm⟩
def s61:SmB:=⟨fun _ _=>true,fun vals bs=>match vals,bs with
 | [.ptr [0,0] 0], .cells T (c0:: .d (.slice true z [])::cs)::rest=>some (.d (.lit (.string ⟨#[]⟩)), .cells T (c0:: .d (.slice true z [])::cs)::rest, [])
 | [.ptr [0,0] 0], .cells T (c0:: .ref [0,1]::cs):: .arr live nil 5 1 xs []::rest =>
  bif live&&xs.all b2m then (bif nil then (bif xs.isEmpty then some (.d (.lit (.string ⟨#[]⟩)), .cells T (c0:: .ref [0,1]::cs):: .arr live nil 5 1 xs []::rest, []) else none)
   else bif xs.isEmpty then none else (match U3 xs with
    | some l=>some (.d (.lit (.string ⟨l.toArray⟩)), .cells T (c0:: .ref [0,1]::cs):: .arr false false 5 1 xs []::rest, [])
    | none=>none)) else none
 | _,_=>none⟩
theorem b6q (w:World) (b n:Nat) (x:Addr):(w.freeze ⟨b,0,none⟩ n).cell? x=w.cell? x:=by
 unfold World.freeze
 split
 ·rfl
 ·unfold World.cell?
  simp only[Array.getElem?_modify]
  by_cases h:b=x.block
  ·rw[if_pos h]
   cases w.heap[x.block]? with
   | none=>rfl
   | some o=>cases o<;>rfl
  ·rw[if_neg h]
theorem c7g (w:World) {b n k:Nat} (h:k≠b):(w.freeze ⟨b,0,none⟩ n).heap[k]?=w.heap[k]?:=by
 unfold World.freeze
 split
 ·rfl
 ·simp only[Array.getElem?_modify]
  rw[if_neg (Ne.symm h)]
theorem d2q (w:World) {b n:Nat} {c:Array Value} {t:TypeId} {m:Nat×Nat} (h:w.heap[b]?=some (.cells c t m)):∃m',(w.freeze ⟨b,0,none⟩ n).heap[b]?=some (.cells c t m'):=by
 unfold World.freeze
 split
 ·exact ⟨m,h⟩
 ·simp only[Array.getElem?_modify,if_true,h]
  exact ⟨_,rfl⟩
theorem c7f (w:World) (b n:Nat):(w.freeze ⟨b,0,none⟩ n).os=w.os∧(w.freeze ⟨b,0,none⟩ n).tape=w.tape∧(w.freeze ⟨b,0,none⟩ n).output=w.output∧(w.freeze ⟨b,0,none⟩ n).heap.size=w.heap.size:=by
 unfold World.freeze
 split
 ·exact ⟨rfl,rfl,rfl,rfl⟩
 ·exact ⟨rfl,rfl,rfl,by simp⟩
theorem d4b {w:World} {lim:Nat→Nat}:∀{xs:List D} {vs:List Value} {l:List UInt8},xs.all b2m=true→U3 xs=some l→E5 w lim (E9 xs) vs→vs=l.map fun c=>.int .u8 c.toNat
 | [],vs,l,_,h,hr=>by
  simp only[U3,Option.some.injEq] at h;subst h
  simp only[E9,List.flatMap_nil] at hr
  cases hr;rfl
 | x::xs,vs,l,hb,h,hr=>by
  simp only[List.all_cons,Bool.and_eq_true] at hb
  obtain ⟨hb1,hb2⟩:=hb
  unfold b2m at hb1
  split at hb1
  ·rename_i n
   simp only[U3] at h
   split at h
   ·rename_i l' hl
    simp only[Option.some.injEq] at h
    subst h
    have hr':E5 w lim (.lit (.int .u8 n)::E9 xs) vs:=hr
    cases hr' with
    | cons h0 t =>
     have ih:=d4b hb2 hl t
     subst ih
     cases h0
     simp only[Bool.and_eq_true,decide_eq_true_eq] at hb1
     simp only[List.map_cons]
     congr 2
     have:(UInt8.ofNat n.toNat).toNat=n.toNat:=by rw[UInt8.toNat_ofNat'];omega
     rw[this];omega
   ·cases h
  ·cases hb1
theorem h7p:∀vals bs r bs' news,s61.pre vals bs=true→s61.f vals bs=some (r,bs',news)→Q0 B.P 61∧V8 B 61 vals (L5 bs) fun r' H'=>r'=r∧H'=Y4 bs' news:=by
 intro vals bs r bs' news hpre hf
 refine ⟨e8c,fun w g vs hH hG hr hz=>?_⟩
 clear hpre
 unfold s61 at hf
 simp only[] at hf
 split at hf
 ·rename_i T c0 z cs rest
  simp only[Option.some.injEq,Prod.mk.injEq] at hf
  obtain ⟨rfl,rfl,rfl⟩:=hf
  have hbox:=a6v (bs:=.cells T (c0:: .d (.slice true z [])::cs)::rest) (i:=0) rfl
  obtain ⟨b,c,hval,hw,hcs,hfl,hlim,how⟩:=hH.box _ _ hbox
  have hvs:=e9c hr hval
  subst hvs
  obtain ⟨v1,hv1,hr1⟩:=hcs.get (i:=1) rfl
  have hv1':v1= .slice none 0 0:=by cases hr1 with|d h=>cases h;rfl
  subst hv1'
  have hcell:w.cell? ⟨b,1,none⟩=some (.slice none 0 0):=by simp[World.cell?,hw];simpa using hv1
  refine (d8d b w hcell).mono ?_
  rintro e w' ⟨rfl,rfl⟩
  obtain ⟨R,st,nm⟩:=a9t (C:=B) (w':=w.drew) (lim':=g.lim) (f2g hH hG) ⟨rfl,rfl,rfl,Nat.le_refl _,fun _ _=>rfl⟩ (fun _ _=>rfl) (fun b hb=>(hH.fresh b hb).1)
  exact ⟨_,_,_,_,⟨rfl,rfl⟩,rfl, .d (.lit (by simp)),by rw[X4];exact R.heap,st,by rw[X4];exact .of_names nm⟩
 ·rename_i T c0 cs live nil xs rest
  cases hg:(live&&xs.all b2m) with
  | false=>rw[hg] at hf;cases hf
  | true =>
   rw[hg] at hf
   simp only[Bool.and_eq_true] at hg
   obtain ⟨rfl,hby⟩:=hg
   simp only[cond_true] at hf
   have hbox:=a6v (bs:=.cells T (c0:: .ref [0,1]::cs):: .arr true nil 5 1 xs []::rest) (i:=0) rfl
   have hbox1:=a6v (bs:=.cells T (c0:: .ref [0,1]::cs):: .arr true nil 5 1 xs []::rest) (i:=1) rfl
   obtain ⟨b,c,hval,hw,hcs,hfl,hlim,how⟩:=hH.box _ _ hbox
   have hvs:=e9c hr hval
   subst hvs
   obtain ⟨v1,hv1,hr1⟩:=hcs.get (i:=1) rfl
   have hv1':v1=g.val [0,1]:=by cases hr1;rfl
   subst hv1'
   have hcell:w.cell? ⟨b,1,none⟩=some (g.val [0,1]):=by simp[World.cell?,hw];simpa using hv1
   obtain ⟨vs,us,q1,q2,q3,q4,q5,q6,q7,q8⟩:=hH.box _ _ hbox1
   cases nil with
   | true =>
    simp only[cond_true] at hf
    cases he:xs.isEmpty with
    | false=>rw[he] at hf;cases hf
    | true =>
     rw[he] at hf
     simp only[cond_true,Option.some.injEq,Prod.mk.injEq] at hf
     obtain ⟨rfl,rfl,rfl⟩:=hf
     rw[q5.1 rfl] at hcell
     refine (d8d b w hcell).mono ?_
     rintro e w' ⟨rfl,rfl⟩
     obtain ⟨R,st,nm⟩:=a9t (C:=B) (w':=w.drew) (lim':=g.lim) (f2g hH hG) ⟨rfl,rfl,rfl,Nat.le_refl _,fun _ _=>rfl⟩ (fun _ _=>rfl) (fun b hb=>(hH.fresh b hb).1)
     exact ⟨_,_,_,_,⟨rfl,rfl⟩,rfl, .d (.lit (by simp)),by rw[X4];exact R.heap,st,by rw[X4];exact .of_names nm⟩
   | false =>
    simp only[cond_false] at hf
    cases he:xs.isEmpty with
    | true=>rw[he] at hf;cases hf
    | false =>
     rw[he] at hf
     simp only[cond_false] at hf
     cases hu:U3 xs with
     | none=>rw[hu] at hf;cases hf
     | some l =>
      rw[hu] at hf
      simp only[Option.some.injEq,Prod.mk.injEq] at hf
      obtain ⟨rfl,rfl,rfl⟩:=hf
      have hus:us= []:=by simp[E9] at q2;cases q2;rfl
      subst hus
      have hvs:=d4b hby hu q1
      have hvl:vs.length=xs.length:=by
       rw[←q1.length,E8 (sz:=1) (fun x hx=>q4 x (by simp[hx]))];omega
      have hll:l.length=xs.length:=by rw[←hvl,hvs];simp
      have hne:l≠ []:=by
       rintro rfl
       simp at hll
       have:xs= []:=List.length_eq_zero_iff.1 hll.symm
       subst this;simp at he
      obtain ⟨hown,hob⟩:=q7 rfl
      rcases hown.2 with ⟨hv,_⟩|⟨gb,cap,cur,hv,_,hwg,hn,hm,hs,ht⟩
      ·have:=q5.2 hv;cases this
      ·obtain ⟨ho1,ho2⟩:=hob gb (by rw[hv];rfl)
       have hcells:=hown.cells (g:=gb) (by rw[hv];rfl)
       have hread:∀(j:Nat) v,vs[j]?=some v→w.cell? ⟨gb,j,none⟩=some v:=fun j v hj=>by
        have:=hcells j v (by simpa using hj)
        unfold Addr.add at this
        split at this
        ·subst_vars;exact this
        ·simpa using this
       rw[hv] at hcell
       simp only[List.length_nil,Nat.add_zero] at hcell hn hs
       rw[←hll] at hcell hn
       refine (e9w b gb cap cur l w hne hcell hn hm hwg (by rw[hs];omega) (fun j x hj=>hread j _ (by rw[hvs];simp[hj]))).mono ?_
       rintro e w' ⟨rfl,rfl⟩
       have hother:∀k,k≠gb→(w.drew.freeze ⟨gb,0,none⟩ l.length).heap[k]?=w.heap[k]?:=fun k hk=>c7g w.drew hk
       obtain ⟨m',hsame⟩:=d2q w.drew (n:=l.length) (b:=gb) (c:=cur) (t:=5) (m:=(0,0)) hwg
       obtain ⟨f1,f2,f3,f4⟩:=c7f w.drew gb l.length
       have hgr:Q9 w g.lim (w.drew.freeze ⟨gb,0,none⟩ l.length) g.lim:=⟨fun _=>Nat.le_refl _,fun b o _=>b6q w.drew gb l.length _,fun b ms cc hb hm=>by
        have:b≠gb:=fun e=>by subst e;rw[hwg] at hm;cases hm
        rw[hother b this];exact hm,fun b cc tt mm hb hm=>by
        by_cases e:b=gb
        ·subst e;rw[hwg] at hm;cases hm;exact ⟨_,_,hsame,rfl⟩
        ·exact ⟨_,_,by rw[hother b e];exact hm,rfl⟩⟩
       have hset:L5 (.cells T (c0:: .ref [0,1]::cs):: .arr false false 5 1 xs []::rest)=(L5 (.cells T (c0:: .ref [0,1]::cs):: .arr true false 5 1 xs []::rest)).set [0,1] (.arr false false 5 1 xs []) :=
        c8x (bs:=.cells T (c0:: .ref [0,1]::cs):: .arr true false 5 1 xs []::rest) (i:=1) (by simp)
       have hnm:J9 (L5 (.cells T (c0:: .ref [0,1]::cs):: .arr true false 5 1 xs []::rest)) g ((L5 (.cells T (c0:: .ref [0,1]::cs):: .arr true false 5 1 xs []::rest)).set [0,1] (.arr false false 5 1 xs [])) g:=fun n k hk=>by
        refine ⟨?_,rfl⟩
        by_cases e:n= [0,1]
        ·subst e
         simp only[kd,hbox1,Option.map_some,Box.kind] at hk
         simpa [kd,F2,Box.kind] using hk
        ·simpa [kd,D3 _ _ e] using hk
       have hH':K7 (w.drew.freeze ⟨gb,0,none⟩ l.length) g ((L5 (.cells T (c0:: .ref [0,1]::cs):: .arr true false 5 1 xs []::rest)).set [0,1] (.arr false false 5 1 xs [])):=by
        refine K7.upd (n0:=[0,1]) hH hgr hnm (fun n k hn _ ho=>?_) (fun n hn=>D3 _ _ hn) (fun b' hb'=>?_) (fun b hb=>hH.fresh b (by have h4:(w.drew.freeze ⟨gb,0,none⟩ l.length).heap.size=w.heap.size:=f4;omega))
        ·have hk:k≠gb:=fun e=>by subst e;rw[ho1] at ho;cases ho;exact hn rfl
         exact ⟨hother k hk,ho,rfl⟩
        ·rw[F2] at hb';cases hb'
         refine ⟨vs, [],q1.mono hgr, .nil,q3,q4,q5,q6,by simp,fun _=>⟨rfl, .inr ⟨⟨gb,0,none⟩,cap, ?_,by omega,rfl,fun i v hi=>⟨?_, ?_⟩⟩⟩⟩
         ·rw[hv];simp
         ·show 0+i<g.lim gb
          have:=(List.getElem?_eq_some_iff.1 hi).1
          omega
         ·show (w.drew.freeze _ _).cell? ⟨gb,0+i,none⟩=_
          rw[b6q,Nat.zero_add]
          exact hread i v hi
       refine ⟨_,_,_,g,⟨rfl,rfl⟩,rfl, .d (.lit (by simp)), ?_,⟨f1,f2,f3,Nat.le_of_eq f4.symm,fun k hk ho=>⟨hother k (fun e=>by subst e;rw[ho1] at ho;cases ho),rfl,ho⟩,hgr⟩, ?_⟩
       ·rw[X4,hset];exact hH'
       ·rw[X4,hset];exact .of_names hnm
 ·cases hf
end Go.Ev.R2
end
section
namespace Go.Ev.R2
open Go Go.Ev Go.Proofs
set_option maxRecDepth 100000
def b2o:Code→Array Oper | .region _ ops _=>ops|_=> #[]
def b4z:Code→Code | .seq a _=>a|_=>.skip
def c8y:Code→Code | .seq _ b=>b|_=>.skip
def f9b:Code→Code | .block _ c=>c|_=>.skip
noncomputable def f2p (c:Code) (i:Nat):Oper:=(b2o c).toList.getD i default
noncomputable def c9w:Code:=b4z (c8y (A7 Tryz.f115))
noncomputable def g4n:Code:=D6 (f9b (c8y c9w))
noncomputable def e2m:Code:=f9b (c8y (c8y g4n))
noncomputable def d6h:Code:=c8y (c8y (A7 Tryz.f115))
noncomputable def e6e:List Oper:=(b2o (b4z c9w)).toList.dropLast
abbrev eBx (k0:Int) (y1 y2 y3 y4 y5 y6 y7 y8 y9 y10 y11 y12 y13 y14 y15:D):Box:=.cells 33 [A3 k0, .d y1, .d y2, .d y3, .d y4, .d y5, .d y6, .d y7, .d y8, .d y9, .d y10, .d y11, .d y12, .d y13, .d y14, .d y15]
abbrev nBx (l q:Bool) (s:ByteArray) (x:D):Box:=.cells 85 [A9 l,A9 q,C9 s, .d x]
abbrev nmI:List B2:=[[0,0],[0,1],[5000]]
abbrev e3f:List (B2×B2):=[([0,0],[0,0]),([0,1],[0,1]),([5000],[5000])]
abbrev e01:List (List (B2×B2)):=[[([0,0],[0,0]),([0,1],[0,1])]]
theorem g5r (l:Bool) (q:Bool) (s:ByteArray) (x:D) (es:List (D×D)) (k0:Int) (y1:D) (y2:D) (y3:D) (y4:D) (y5:D) (y6:D) (y7:D) (y8:D) (y9:D) (y10:D) (y11:D) (y12:D) (y13:D) (y14:D) (y15:D) (R:List V→List Box→Prop):(P1 (Cn T13) T13 D4 2 C5 B1 false (b4z (A7 Tryz.f115))
 (St.mk 34
 (fun t =>
 [V.d (D.agg [oD l,oD q,zD s,x]),V.ptr [0,0] 0,
 V.ptr [0,1] 0][t]?.getD
 K9)
 (L5 [Box.cells 59 [V.d (D.map es)],eBx k0 y1 y2 y3 y4 y5 y6 y7 y8 y9 y10 y11 y12 y13 y14 y15]))
 fun x s =>
 x=X.normal∧
 s.N=34∧go (w6 2 [1,2,3] [([0,0], [0,0]),([0,1], [0,1]),([5000], [5])] s) fun p=>R p.fst p.snd) =
 (X.normal=X.normal∧
 (34=34∧
 R [V.ptr [0,0] 0,V.ptr [0,1] 0,V.ptr [5000] 0]
 [Box.cells 59 [V.d (D.map es)],
 Box.cells 33
 [A3 k0,V.d y1,V.d y2,V.d y3,V.d y4,V.d y5,V.d y6,V.d y7,V.d y8,V.d y9,
 V.d y10,V.d y11,V.d y12,V.d y13,V.d y14,V.d y15],
 Box.cells 85 [A9 l,A9 q,C9 s,V.d x]])):=by kernel_rfl
theorem g5n (l:Bool) (q:Bool) (s:ByteArray) (x:D) (es:List (D×D)) (k0:Int) (y1:D) (y2:D) (y3:D) (y4:D) (y5:D) (y6:D) (y7:D) (y8:D) (y9:D) (y10:D) (y11:D) (y12:D) (y13:D) (y14:D) (y15:D) (R:Nat→List V→List Box→Prop):(go
 (P0 (Cn T13) false D4.call (b2o (b4z c9w)) e6e
 (stN 34 [1,2,3] nmI [V.ptr [0,0] 0,V.ptr [0,1] 0,V.ptr [5000] 0]
 [Box.cells 59 [V.d (D.map es)],eBx k0 y1 y2 y3 y4 y5 y6 y7 y8 y9 y10 y11 y12 y13 y14 y15,nBx l q s x]))
 fun s1 =>
 s1.F 7=V.d (D.map es)∧
 s1.N=34∧
 ∀(it:Nat),go (s1.put (some 8) (itV it)) fun s2=>go (w6 2 [2,3,8] e3f s2) fun p=>R it p.fst p.snd) =
 (V.d (D.map es)=V.d (D.map es)∧
 (34=34∧
 (∀z0:Nat,R z0 [V.ptr [0,1] 0,V.ptr [5000] 0,V.d (D.lit (Value.pointer (some (Addr.mk z0 0 none))))]
 [Box.cells 59 [V.d (D.map es)],
 Box.cells 33
 [A3 k0,V.d y1,V.d y2,V.d y3,V.d y4,V.d y5,V.d y6,V.d y7,V.d y8,V.d y9,
 V.d y10,V.d y11,V.d y12,V.d y13,V.d y14,V.d y15],
 Box.cells 85 [A9 l,A9 q,C9 s,V.d x]]))):=by kernel_rfl
theorem g5o (l:Bool) (q:Bool) (s:ByteArray) (nm:ByteArray) (x:D) (es:List (D×D)) (k0:Int) (code:Int) (it:Nat) (c1:D) (c2:D) (c3:D) (c4:D) (c5:D) (c6:D) (c7:D) (c8:D) (c9:D) (c10:D) (c11:D) (c12:D) (c13:D) (y1:D) (y2:D) (y3:D) (y4:D) (y5:D) (y6:D) (y7:D) (y8:D) (y9:D) (y10:D) (y11:D) (y12:D) (y13:D) (y14:D) (y15:D) (R:List V→List Box→Prop):(b5i (Cn T13) T13 D4 2 C5 B1 9 10 11 (b2o (b4z e2m)) (c8y e2m) (iD code)
 (D.agg [zD nm,c1,c2,c3,c4,c5,c6,c7,c8,c9,c10,c11,c12,c13])
 (stN 34 [2,3,8] nmI [V.ptr [0,1] 0,V.ptr [5000] 0,itV it]
 [Box.cells 59 [V.d (D.map es)],eBx k0 y1 y2 y3 y4 y5 y6 y7 y8 y9 y10 y11 y12 y13 y14 y15,nBx l q s x])
 fun x s=>s.N=34∧x=X.normal∧go (w6 2 [2,3,8] e3f s) fun p=>R p.fst p.snd) =
 (bif nm.toList==s.toList then
 (34=34∧
 (X.normal=X.normal∧
 R [V.ptr [0,1] 0,V.ptr [5000] 0,V.d (D.lit (Value.pointer (some (Addr.mk it 0 none))))]
 [Box.cells 59 [V.d (D.map es)],
 Box.cells 33
 [A3 code,V.d y1,V.d y2,V.d y3,V.d y4,V.d y5,V.d y6,V.d y7,V.d y8,V.d y9,
 V.d y10,V.d y11,V.d y12,V.d y13,V.d y14,V.d y15],
 Box.cells 85 [A9 l,A9 q,C9 s,V.d x]])) else
 (34=34∧
 (X.normal=X.normal∧
 R [V.ptr [0,1] 0,V.ptr [5000] 0,V.d (D.lit (Value.pointer (some (Addr.mk it 0 none))))]
 [Box.cells 59 [V.d (D.map es)],
 Box.cells 33
 [A3 k0,V.d y1,V.d y2,V.d y3,V.d y4,V.d y5,V.d y6,V.d y7,V.d y8,V.d y9,
 V.d y10,V.d y11,V.d y12,V.d y13,V.d y14,V.d y15],
 Box.cells 85 [A9 l,A9 q,C9 s,V.d x]]))):=by kernel_rfl
theorem g5q (l:Bool) (q:Bool) (s:ByteArray) (x:D) (es:List (D×D)) (k0:Int) (it:Nat) (y1:D) (y2:D) (y3:D) (y4:D) (y5:D) (y6:D) (y7:D) (y8:D) (y9:D) (y10:D) (y11:D) (y12:D) (y13:D) (y14:D) (y15:D) (R:List V→List Box→Prop):(go
 ((stN 34 [2,3,8] nmI [V.ptr [0,1] 0,V.ptr [5000] 0,itV it]
 [Box.cells 59 [V.d (D.map es)],eBx k0 y1 y2 y3 y4 y5 y6 y7 y8 y9 y10 y11 y12 y13 y14 y15,nBx l q s x]).put
 (some 9) (V.d (D.tup [oD false])))
 fun s=>go (s.put (some 10) (A9 false)) fun s=>s.N=34∧go (w6 2 [2,3] e3f s) fun p=>R p.fst p.snd) =
 (34=34∧
 R [V.ptr [0,1] 0,V.ptr [5000] 0]
 [Box.cells 59 [V.d (D.map es)],
 Box.cells 33
 [A3 k0,V.d y1,V.d y2,V.d y3,V.d y4,V.d y5,V.d y6,V.d y7,V.d y8,V.d y9,
 V.d y10,V.d y11,V.d y12,V.d y13,V.d y14,V.d y15],
 Box.cells 85 [A9 l,A9 q,C9 s,V.d x]]):=by kernel_rfl
theorem g5p (l:Bool) (q:Bool) (s:ByteArray) (x:D) (es:List (D×D)) (k0:Int) (y1:D) (y2:D) (y3:D) (y4:D) (y5:D) (y6:D) (y7:D) (y8:D) (y9:D) (y10:D) (y11:D) (y12:D) (y13:D) (y14:D) (y15:D) (R:V→List Box→Prop):(P1 (Cn T13) T13 D4 2 C5 B1 false d6h
 (stN 34 [2,3] nmI [V.ptr [0,1] 0,V.ptr [5000] 0]
 [Box.cells 59 [V.d (D.map es)],eBx k0 y1 y2 y3 y4 y5 y6 y7 y8 y9 y10 y11 y12 y13 y14 y15,nBx l q s x])
 (g8o 2 [] e01 [4] R)) =
 R (A9 (bif bif !l then !q else false then k0 !=0 else false))
 [Box.cells 59 [V.d (D.map es)],
 Box.cells 33
 [A3 k0,V.d y1,V.d y2,V.d y3,V.d y4,V.d y5,V.d y6,V.d y7,V.d y8,V.d y9,
 V.d y10,V.d y11,V.d y12,V.d y13,V.d y14,V.d y15]]:=by kernel_rfl
def e6a:D×D→Bool
 | (.lit (.int .i64 _), .agg [.lit (.string _),_,_,_,_,_,_,_,_,_,_,_,_,_])=>true
 | _=>false
def c6g:D×D→Int
 | (.lit (.int .i64 k),_)=>k
 | _=>0
def f6:D×D→List UInt8
 | (_, .agg (.lit (.string n)::_))=>n.toList
 | _=>[]
def c3b:List (List UInt8)→Bool
 | []=>true
 | a::l=>l.all (fun b=> !(a==b))&&c3b l
def d5j (es:List (D×D)):Bool:=es.all e6a&&c3b (es.map f6)
def u3:List (D×D)→List UInt8→Int→Int
 | [],_,k0=>k0
 | p::r,s,k0=>bif f6 p==s then c6g p else u3 r s k0
def f2e:SmB:=⟨fun _ bs=>match bs with
  | .cells 59 [.d (.map es)]::_=>d5j es
  | _=>false,fun vals bs=>match vals,bs with
 | [.d (.agg [.lit (.bool l), .lit (.bool q), .lit (.string s),x]), .ptr [0,0] 0, .ptr [0,1] 0], [.cells 59 [.d (.map es)], .cells 33 [.d (.lit (.int .i64 k0)), .d y1, .d y2, .d y3, .d y4, .d y5, .d y6, .d y7, .d y8, .d y9, .d y10, .d y11, .d y12, .d y13, .d y14, .d y15]] =>
  some (A9 (bif bif !l then !q else false then u3 es s.toList k0 !=0 else false), [.cells 59 [.d (.map es)],eBx (u3 es s.toList k0) y1 y2 y3 y4 y5 y6 y7 y8 y9 y10 y11 y12 y13 y14 y15], [])
 | _,_=>none⟩
theorem e2v {p:D×D} (h:e6a p=true):∃k nm c1 c2 c3 c4 c5 c6 c7 c8 c9 c10 c11 c12 c13,p=(.lit (.int .i64 k), .agg [.lit (.string nm),c1,c2,c3,c4,c5,c6,c7,c8,c9,c10,c11,c12,c13]):=by
 unfold e6a at h
 split at h
 ·exact ⟨_,_,_,_,_,_,_,_,_,_,_,_,_,_,_,rfl⟩
 ·cases h
def f9j (es:List (D×D)) (s:List UInt8) (k0:Int) (dn:List Nat) (kk:Int):Prop :=
 (∃(i:Nat) (p:D×D),es[i]?=some p∧f6 p=s∧kk=c6g p)∨((∀(i:Nat) (p:D×D),i∈dn→es[i]?=some p→f6 p≠s)∧kk=k0)
theorem b6n {s:List UInt8} {k0:Int}:∀{es:List (D×D)},(∀p∈es,f6 p≠s)→u3 es s k0=k0
 | [],_=>rfl
 | p::r,h=>by
  have h1:(f6 p==s)=false:=by simpa using h p (by simp)
  simp only[u3,h1,cond_false]
  exact b6n fun q hq=>h q (by simp[hq])
theorem b6m {s:List UInt8} {k0:Int} {p:D×D} (hs:f6 p=s):∀{es:List (D×D)},c3b (es.map f6)=true→p∈es→u3 es s k0=c6g p
 | q::r,ha,hp=>by
  simp only[List.map_cons,c3b,Bool.and_eq_true,List.all_eq_true] at ha
  rcases List.mem_cons.1 hp with rfl|hp
  ·have:(f6 p==s)=true:=by simpa using hs
   simp only[u3,this,cond_true]
  ·have h1:=ha.1 (f6 p) (List.mem_map.2 ⟨p,hp,rfl⟩)
   have:(f6 q==s)=false:=by rw[←hs];simpa using h1
   simp only[u3,this,cond_false]
   exact b6m hs ha.2 hp
theorem e4a {es:List (D×D)} {s:List UInt8} {k0 kk:Int} {dn:List Nat} (ha:c3b (es.map f6)=true) (h:f9j es s k0 dn kk) (hall:∀i,i<es.length→i∈dn):kk=u3 es s k0:=by
 rcases h with ⟨i,p,hp,hn,rfl⟩|⟨h,rfl⟩
 ·exact (b6m hn ha (List.mem_of_getElem? hp)).symm
 ·refine (b6n fun p hp=>?_).symm
  obtain ⟨i,hi⟩:=List.mem_iff_getElem?.1 hp
  exact h i p (hall i (List.getElem?_eq_some_iff.1 hi).1) hi
theorem f4j:c9w= .seq (.region 1 (b2o (b4z c9w)) false) (.block 0 (.loop (.seq (.region 2 #[f2p (b4z g4n) 0,f2p (b4z g4n) 1] false) (.seq (.cond (.tmp 10) .skip (.exit 0)) (.block 1 (.seq (.region 3 (b2o (b4z e2m)) false) (c8y e2m))))))):=by kernel_rfl
theorem f5g:A7 Tryz.f115= .seq (b4z (A7 Tryz.f115)) (.seq c9w d6h):=by kernel_rfl
theorem g7i:∀vals bs r bs' news,f2e.pre vals bs=true→f2e.f vals bs=some (r,bs',news)→Q0 B.P 115∧V8 B 115 vals (L5 bs) fun r' H'=>r'=r∧H'=Y4 bs' news:=by
 intro vals bs r bs' news hpre hf
 unfold f2e at hpre hf
 simp only[] at hf
 split at hf
 case h_2=>cases hf
 rename_i l q s x es k0 y1 y2 y3 y4 y5 y6 y7 y8 y9 y10 y11 y12 y13 y14 y15
 simp only[Option.some.injEq,Prod.mk.injEq] at hf
 obtain ⟨rfl,rfl,rfl⟩:=hf
 have hrows:d5j es=true:=hpre
 unfold d5j at hrows
 simp only[Bool.and_eq_true] at hrows
 obtain ⟨hro,hap⟩:=hrows
 have F:a9y (B.tab T13) D4.call:=D1 C4 k13 B9
 refine e5t (stb:=a5u) (etb:=T13) C4 (fn:=Tryz.f115) (cd:=A7 Tryz.f115) (k:=2) (ads:=[]) (ends:=e01) (L:=[4]) Tryz.func115 (by kernel_rfl) (by kernel_rfl) (by kernel_rfl) (by kernel_rfl) (by kernel_rfl) rfl rfl ?_
 rw[f5g]
 refine e9i ?_
 have hA:=c5g (k:=2) F (C1 (B:=B) (tb:=T13)) A8 (keep (g5r l q s x es k0 y1 y2 y3 y4 y5 y6 y7 y8 y9 y10 y11 y12 y13 y14 y15 fun vs bx=>vs= [.ptr [0,0] 0, .ptr [0,1] 0, .ptr [5000] 0]∧bx= [.cells 59 [.d (.map es)],eBx k0 y1 y2 y3 y4 y5 y6 y7 y8 y9 y10 y11 y12 y13 y14 y15,nBx l q s x]) ⟨rfl,rfl,rfl,rfl⟩)
 refine b3e hA ?_
 rintro X s1 ⟨rfl,hN,hc⟩
 obtain ⟨⟨vs,bx⟩,hcut,rfl,rfl⟩:=F4 hc
 have hw:=Z7 (C:=B.tab T13) hcut
 rw[hN] at hw
 refine ⟨_,hw, ?_⟩
 show T (B.tab T13) 2 (.seq c9w d6h) (stN 34 [1,2,3] nmI _ _) _
 refine e9i ?_
 rw[f4j]
 let I:Nat→List Nat→List V→List Box→Prop:=fun it dn vs bx=>∃kk,f9j es s.toList k0 dn kk∧vs= [.ptr [0,1] 0, .ptr [5000] 0,itV it]∧bx= [.cells 59 [.d (.map es)],eBx kk y1 y2 y3 y4 y5 y6 y7 y8 y9 y10 y11 y12 y13 y14 y15,nBx l q s x]
 refine d5v (t:=59) F (C1 (B:=B) (tb:=T13)) (sp:=C5) (hn:=B1) (d7:=7) (d8:=8) (d9:=9) (d10:=10) (d11:=11) (pre:=e6e) (oR:=f2p (b4z c9w) 1) (oE:=f2p (b4z e2m) 0) (rest:=(b2o (b4z e2m)).toList.tail) (by kernel_rfl) (by kernel_rfl) (by kernel_rfl) (by kernel_rfl) Tryz.underlying59
  (by kernel_rfl) (by kernel_rfl) (by kernel_rfl) (by kernel_rfl) (by kernel_rfl) (by kernel_rfl) (by kernel_rfl) (by kernel_rfl) (by kernel_rfl) (by kernel_rfl) (by decide) (by decide) A8
  (es:=es) (N:=34) (L:=[2,3,8]) (L':=[2,3]) (nm:=nmI) (nm':=nmI) (ns0:=e3f) (nsI:=e3f) (nsX:=e3f) rfl rfl rfl I (fun vs bx=>vs= [.ptr [0,1] 0, .ptr [5000] 0]∧bx= [.cells 59 [.d (.map es)],eBx (u3 es s.toList k0) y1 y2 y3 y4 y5 y6 y7 y8 y9 y10 y11 y12 y13 y14 y15,nBx l q s x]) ?_ ?_ ?_ ?_ ?_
 ·rintro vs bx ⟨rfl,rfl⟩
  have hF:=c5g (k:=2) F (C1 (B:=B) (tb:=T13)) A8 (keep (g5p l q s x es (u3 es s.toList k0) y1 y2 y3 y4 y5 y6 y7 y8 y9 y10 y11 y12 y13 y14 y15 (fun r' bx=>r'=A9 (bif bif !l then !q else false then u3 es s.toList k0 !=0 else false)∧bx= [.cells 59 [.d (.map es)],eBx (u3 es s.toList k0) y1 y2 y3 y4 y5 y6 y7 y8 y9 y10 y11 y12 y13 y14 y15]++ [])) ⟨rfl,rfl⟩)
  exact hF
 ·rintro it dn vals bs ⟨kk,_,rfl,rfl⟩
  rfl
 ·refine keep (g5n l q s x es k0 y1 y2 y3 y4 y5 y6 y7 y8 y9 y10 y11 y12 y13 y14 y15 fun it vs bx=>I it [] vs bx) ?_
  exact ⟨rfl,rfl,fun it=>⟨k0, .inr ⟨(fun i p hi=>by cases hi),rfl⟩,rfl,rfl⟩⟩
 ·rintro it dn vals bs i p ⟨kk,hfd,rfl,rfl⟩ hnd hp
  obtain ⟨code,nm,c1,c2,c3,c4,c5,c6,c7,c8,c9,c10,c11,c12,c13,rfl⟩:=e2v (List.all_eq_true.1 hro p (List.mem_of_getElem? hp))
  refine keep (g5o l q s nm x es kk code it c1 c2 c3 c4 c5 c6 c7 c8 c9 c10 c11 c12 c13 y1 y2 y3 y4 y5 y6 y7 y8 y9 y10 y11 y12 y13 y14 y15 fun vs bx=>I it (i::dn) vs bx) ?_
  cases hcs:(nm.toList==s.toList) with
  | true =>
   refine ⟨rfl,rfl,code, .inl ⟨i,_,hp, ?_,rfl⟩,rfl,rfl⟩
   simpa [f6] using hcs
  | false =>
   refine ⟨rfl,rfl,kk, ?_,rfl,rfl⟩
   rcases hfd with h|⟨h,rfl⟩
   ·exact .inl h
   ·refine .inr ⟨fun j p' hj hp'=>?_,rfl⟩
    rcases List.mem_cons.1 hj with rfl|hj
    ·rw[hp] at hp';cases hp'
     have:¬nm.toList=s.toList:=by simpa using hcs
     exact this
    ·exact h j p' hj hp'
 ·rintro it dn vals bs ⟨kk,hfd,rfl,rfl⟩ hall
  refine keep (g5q l q s x es kk it y1 y2 y3 y4 y5 y6 y7 y8 y9 y10 y11 y12 y13 y14 y15 (fun vs bx=>vs= [.ptr [0,1] 0, .ptr [5000] 0]∧bx= [.cells 59 [.d (.map es)],eBx (u3 es s.toList k0) y1 y2 y3 y4 y5 y6 y7 y8 y9 y10 y11 y12 y13 y14 y15,nBx l q s x])) ?_
  have hk:=e4a hap hfd hall
  subst hk
  exact ⟨rfl,rfl,rfl⟩
end Go.Ev.R2
end
