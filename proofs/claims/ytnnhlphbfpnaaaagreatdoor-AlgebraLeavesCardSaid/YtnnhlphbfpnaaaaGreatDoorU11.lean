/- What the proofs of the lexer's laws share, part 11 of 14. -/
import Derived.Test.YtnnhlphbfpnaaaaGreatDoorU10
import Derived.Test.YtnnhlphbfpnaaaaGreatDoorU7
import Derived.Test.YtnnhlphbfpnaaaaGreatDoorU6
import Derived.Test.YtnnhlphbfpnaaaaGreatDoorU2
import Derived.Shelf.Spec.SlicesGrow
set_option linter.unusedVariables false
set_option linter.unusedSimpArgs false
section
namespace Go.Ev.R2
open Go Go.Ev Go.Proofs
set_option maxRecDepth 100000
theorem d5e {β:Type} {f:Nat→Option β} {len:Nat} (h:C0 f len=none):∀j,j<len→f j=none:=by
 have key:∀n i,rounds (fun i _=>Q1 (f i)) n i ()= .inl ()→∀j,i≤j→j<i+n→f j=none:=by
  intro n
  induction n with
  | zero=>intro i _ j h1 h2;omega
  | succ n ih =>
   intro i hr j h1 h2
   unfold rounds at hr
   cases hf:f i with
   | some e=>simp only[hf,Q1] at hr;cases hr
   | none =>
    simp only[hf,Q1] at hr
    by_cases hj:j=i
    ·subst hj;exact hf
    ·exact ih (i+1) hr j (by omega) (by omega)
 unfold C0 at h
 cases hr:rounds (fun i _=>Q1 (f i)) len 0 () with
 | inr b=>rw[hr] at h;cases h
 | inl u=>exact fun j hj=>key _ 0 hr j (by omega) (by omega)
theorem d5d {β:Type} {f:Nat→Option β} {len:Nat} {e:β} (h:C0 f len=some e):∃j,f j=some e:=by
 have key:∀n i,rounds (fun i _=>Q1 (f i)) n i ()= .inr e→∃j,f j=some e:=by
  intro n
  induction n with
  | zero=>intro i h;cases h
  | succ n ih =>
   intro i hr
   unfold rounds at hr
   cases hf:f i with
   | none=>simp only[hf,Q1] at hr;exact ih _ hr
   | some x=>simp only[hf,Q1] at hr;cases hr;exact ⟨i,hf⟩
 unfold C0 at h
 cases hr:rounds (fun i _=>Q1 (f i)) len 0 () with
 | inr b=>rw[hr] at h;cases h;exact key _ _ hr
 | inl u=>rw[hr] at h;cases h
theorem a9n {s:ByteArray} (h:G4 s=true):s.size≤60:=by
 unfold G4 at h
 simp only[Bool.and_eq_true,decide_eq_true_eq] at h
 exact h.1.1.2
theorem e5y {s:ByteArray} (h:a5f s=0):s.size≤200:=by
 unfold a5f at h
 have:=(J2 (by decide) h).1
 simp at this;omega
theorem d2p {xs:List D} {a:D} (h:a∈xs):∃j,j<xs.length∧xs.getD j .any=a:=by
 obtain ⟨j,hj,rfl⟩:=List.getElem_of_mem h
 exact ⟨j,hj,by rw[List.getD_eq_getElem?_getD,List.getElem?_eq_getElem hj];rfl⟩
theorem f3h {y:D} (hf:a2a y) (h:n3 y=0):MTx y:=by
 unfold n3 at h
 obtain ⟨h1,h⟩:=J2 (by decide) h
 obtain ⟨h2,h⟩:=J2 (by decide) h
 obtain ⟨a,b⟩:=a8i h1
 have a:=of_decide_eq_false a
 have b:=of_decide_eq_false b
 have hn:G4 (A5 (A0 y 1))=true:=by
  rw[←a5w];simpa using h2
 have:=a9n hn
 refine ⟨hf,by omega,by show (A1 (A0 y 0)).toNat<7;omega,by omega, ?_⟩
 cases hc:(bif A1 (A0 y 0)==3 then true else A1 (A0 y 0)==4) with
 | true=>rw[hc] at h;simp only[cond_true] at h;have:=e5y h;omega
 | false =>
  rw[hc] at h
  simp only[cond_false] at h
  have h3:=of_decide_eq_false (J2 (by decide) h).1
  omega
theorem b6k {xs:List D} (hf:∀y∈xs,a2a y) (h:F6 xs=0):b7e xs:=by
 unfold F6 at h
 obtain ⟨h1,h⟩:=J2 (by decide) h
 have h1:=of_decide_eq_false h1
 refine ⟨by omega,fun y hy=>f3h (hf y hy) ?_⟩
 cases hs:C0 (C7 n3 xs) xs.length with
 | none=>exact a4h hs y hy
 | some e=>rw[hs] at h;exact absurd h (a6m hs)
theorem c9r {xs:List D} {sp:Bool} (hf:∀y∈xs,a2d y) (h:M6 xs sp=0):d7u xs:=by
 unfold M6 at h
 obtain ⟨h1,h⟩:=J2 (by decide) h
 have h1:=of_decide_eq_false h1
 refine ⟨by omega,fun y hy=>⟨hf y hy, ?_⟩⟩
 cases hs:C0 (M2 sp xs) xs.length with
 | none =>
  obtain ⟨j,hj,rfl⟩:=d2p hy
  have hn:=d5e hs j hj
  unfold M2 at hn
  cases hb:G4 (A5 (xs.getD j .any)) with
  | true=>have:=a9n hb;omega
  | false=>rw[hb] at hn;cases hn
 | some e =>
  rw[hs] at h
  obtain ⟨j,hj⟩:=d5d hs
  unfold M2 at hj
  have h:e=0:=h
  subst h
  revert hj
  cases (bif !G4 (A5 (xs.getD j .any)) then true else bif (bif sp then !eqS (A5 (xs.getD j .any)) (ByteArray.mk #[110,97,109,101]) else false) then !eqS (A5 (xs.getD j .any)) (ByteArray.mk #[115,101,114,118,105,99,101]) else false)<;>cases (bif decide ((j:Int)>0) then leS (A5 (xs.getD j .any)) (A5 (xs.getD (j-1) .any)) else false)<;>simp
theorem b4n {s t:ByteArray} (h:(s.toList==t.toList)=true):s.size=t.size:=by
 have h:s.toList=t.toList:=by simpa using h
 rw[ByteArray.toList_eq,ByteArray.toList_eq] at h
 exact congrArg List.length h
theorem b3a {s:ByteArray} (h:(s.toList==(ByteArray.mk #[]).toList)=true):s.size=0:=b4n h
theorem e5q {y:D} (hf:a2e y) (h:S8 y=0):STx y:=by
 unfold S8 at h
 obtain ⟨h1,h⟩:=J2 (by decide) h
 obtain ⟨a,b⟩:=a8i h1
 have a:=of_decide_eq_false a
 have b:=of_decide_eq_false b
 obtain ⟨h2,h⟩:=J2 (by decide) h
 obtain ⟨h3,h4⟩:=a8i h2
 obtain ⟨h5,h6⟩:=a8i h3
 have hk:(A1 (A0 y 0)).toNat<S7.length:=by show _<9;omega
 have nm:(A2 (A0 y 2)).length≠0→A1 (A0 y 0)=5:=fun hn=>by
  have:decide ((↑(A2 (A0 y 2)).length:Int)>0)=true:=by simp;omega
  rw[this] at h6
  simpa using h6
 have nn:(A2 (A0 y 3)).length≠0→A1 (A0 y 0)≥6:=fun hn=>by
  have:decide ((↑(A2 (A0 y 3)).length:Int)>0)=true:=by simp;omega
  rw[this] at h4
  simpa using h4
 have nx:(A5 (A0 y 1)).size≠0→A1 (A0 y 0)≤3:=fun hn=>by
  cases he:(A5 (A0 y 1)).toList==(ByteArray.mk #[]).toList with
  | true=>exact absurd (b3a he) hn
  | false =>
   rw[he] at h5
   simpa using h5
 have e2:A1 (A0 y 0)≠5→b7e (A2 (A0 y 2)):=fun hn=>by
  have:(A2 (A0 y 2)).length=0:=Classical.byContradiction fun hc=>hn (nm hc)
  rw[List.eq_nil_of_length_eq_zero this]
  exact ⟨by simp,fun y hy=>by simp at hy⟩
 have e3:¬A1 (A0 y 0)≥6→d7u (A2 (A0 y 3)):=fun hn=>by
  have:(A2 (A0 y 3)).length=0:=Classical.byContradiction fun hc=>hn (nn hc)
  rw[List.eq_nil_of_length_eq_zero this]
  exact ⟨by simp,fun y hy=>by simp at hy⟩
 have e1:¬A1 (A0 y 0)≤3→(A5 (A0 y 1)).size≤4096:=fun hn=>by
  have:(A5 (A0 y 1)).size=0:=Classical.byContradiction fun hc=>hn (nx hc)
  omega
 refine ⟨hf,by omega,hk, ?_⟩
 have hcase:A1 (A0 y 0)=1∨A1 (A0 y 0)=2∨A1 (A0 y 0)=3∨A1 (A0 y 0)=4∨A1 (A0 y 0)=5∨(A1 (A0 y 0)≥6∧(A1 (A0 y 0)==1)=false∧(A1 (A0 y 0)==2)=false∧(A1 (A0 y 0)==3)=false∧(A1 (A0 y 0)==5)=false):=by
  by_cases h6:A1 (A0 y 0)≥6
  ·right;right;right;right;right
   refine ⟨h6, ?_, ?_, ?_, ?_⟩<;>(simp;omega)
  ·omega
 rcases hcase with hk|hk|hk|hk|hk|⟨hk,g1,g2,g3,g5⟩
 ·rw[hk] at h
  simp only[Int.reduceBEq,cond_true,cond_false] at h
  have:=of_decide_eq_false (J2 (by decide) (J2 (by decide) h).2).1
  exact ⟨by omega,e2 (by omega),e3 (by omega)⟩
 ·rw[hk] at h
  simp only[Int.reduceBEq,cond_true,cond_false] at h
  have:=of_decide_eq_false (J2 (by decide) (J2 (by decide) h).2).1
  exact ⟨by omega,e2 (by omega),e3 (by omega)⟩
 ·rw[hk] at h
  simp only[Int.reduceBEq,cond_true,cond_false] at h
  have:=e5y h
  exact ⟨by omega,e2 (by omega),e3 (by omega)⟩
 ·exact ⟨e1 (by omega),e2 (by omega),e3 (by omega)⟩
 ·rw[hk] at h
  simp only[Int.reduceBEq,cond_true,cond_false] at h
  exact ⟨e1 (by omega),b6k hf.m h,e3 (by omega)⟩
 ·rw[g1,g2,g3,g5] at h
  simp only[cond_false] at h
  exact ⟨e1 (by omega),e2 (by omega),c9r hf.n h⟩
theorem e2q {xs:List D} (hf:∀y∈xs,a2e y) (h:S0 xs=0):d7t xs:=by
 unfold S0 at h
 obtain ⟨h1,h⟩:=J2 (by decide) h
 have h1:=of_decide_eq_false h1
 refine ⟨by omega,fun y hy=>e5q (hf y hy) ?_⟩
 cases hs:C0 (C7 S8 xs) xs.length with
 | none=>exact a4h hs y hy
 | some e=>rw[hs] at h;exact absurd h (a6m hs)
theorem g4b {c:Bool} {a k:Int} (hk:k≠0) (h:(bif c then a else k)=0):c=true∧a=0:=by
 cases c with
 | true=>exact ⟨rfl,h⟩
 | false=>exact absurd h hk
theorem d5t {s:ByteArray} (h:L7 s=true):s.size≤8:=by
 unfold L7 eqS at h
 rcases Bool.or_eq_true _ _ |>.mp h with h|h
 ·have:=b4n h;rw[this];decide
 ·have:=b4n h;rw[this];decide
theorem f4y {y:D} (hf:a4z y) (h:M3 y=0):CTx y:=by
 unfold M3 at h
 cases hn:L7 (A5 (A0 y 0)) with
 | true =>
  rw[hn] at h
  simp only[cond_true] at h
  obtain ⟨h1,h⟩:=J2 (by decide) h
  obtain ⟨h2,h⟩:=J2 (by decide) h
  obtain ⟨h3,h⟩:=J2 (by decide) h
  obtain ⟨a,b⟩:=a8i h3
  have a:=of_decide_eq_false a
  have b:=of_decide_eq_false b
  have h2:=b3a (s:=A5 (A0 y 2)) (by simpa using h2)
  have ho:A1 (A0 y 1)=1∨A1 (A0 y 1)=2∨A1 (A0 y 1)=5∨A1 (A0 y 1)=6:=Classical.byContradiction fun hc=>by
   have a1:(A1 (A0 y 1) !=1)=true:=by simp;omega
   have a2:(A1 (A0 y 1) !=2)=true:=by simp;omega
   have a3:(A1 (A0 y 1) !=5)=true:=by simp;omega
   have a4:(A1 (A0 y 1) !=6)=true:=by simp;omega
   rw[a1,a2,a3,a4] at h1
   cases h1
  have:=d5t hn
  exact ⟨hf,by omega,by show (A1 (A0 y 1)).toNat<7;omega,by omega,by omega,fun _=>⟨by omega,by omega⟩⟩
 | false =>
  rw[hn] at h
  simp only[cond_false] at h
  obtain ⟨h1,h⟩:=g4b (by decide) h
  obtain ⟨h2,h⟩:=J2 (by decide) h
  obtain ⟨h3,h⟩:=J2 (by decide) h
  obtain ⟨a,b⟩:=a8i h2
  have a:=of_decide_eq_false a
  have b:=of_decide_eq_false b
  have hfl:(A5 (A0 y 0)).size≤65:=by
   cases g1:(A5 (A0 y 0)).toList==(ByteArray.mk #[115,101,114,118,105,99,101]).toList with
   | true=>have:=b4n g1;rw[this];decide
   | false =>
    cases g2:(A5 (A0 y 0)).toList==(ByteArray.mk #[110,97,109,101]).toList with
    | true=>have:=b4n g2;rw[this];decide
    | false =>
     rw[g1,g2] at h1
     simp only[cond_false] at h1
     cases g3:M8 (A5 (A0 y 0)) (ByteArray.mk (Array.mk [97,116,116,114,46])) with
     | false=>rw[g3] at h1;cases h1
     | true =>
      rw[g3] at h1
      simp only[cond_true] at h1
      have:=a9n h1
      rw[ByteArray.size_extract] at this
      omega
  have ht:(A5 (A0 y 2)).size≤200:=by
   cases g:decide (A1 (A0 y 1)≥3) with
   | true=>rw[g] at h;simp only[cond_true] at h;exact e5y h
   | false =>
    rw[g] at h
    simp only[cond_false] at h
    have:=of_decide_eq_false (J2 (by decide) h).1
    omega
  exact ⟨hf,by omega,by show (A1 (A0 y 1)).toNat<7;omega,by omega,by omega,fun hc=>by rw[hn] at hc;cases hc⟩
theorem e3b {y:D} (h:X9 y=0):(1≤A1 (A0 y 0)∧A1 (A0 y 0)≤9)∧(A2 (A0 y 1)).length≤16∧(∀c∈A2 (A0 y 1),M3 c=0)∧∀a∈E3 y 2,X9 a=0:=by
 rw[c6k] at h
 unfold c6j at h
 obtain ⟨h1,h⟩:=J2 (by decide) h
 obtain ⟨a,b⟩:=a8i h1
 have a:=of_decide_eq_false a
 have b:=of_decide_eq_false b
 refine ⟨⟨by omega,by omega⟩, ?_⟩
 have fin:∀{c1 c2:Bool} {z:Int},z=0→z=(bif c1 then 1 else bif c2 then 4 else (match C0 (C7 M3 (A2 (A0 y 1))) (A2 (A0 y 1)).length with|some y1=>y1|none=>(match C0 (C7 X9 (A2 (A0 y 2))) (A2 (A0 y 2)).length with|some y0=>y0|none=>0)))→c2=false∧(∀c∈A2 (A0 y 1),M3 c=0)∧∀a∈E3 y 2,X9 a=0:=by
  intro c1 c2 z hz he
  subst hz
  obtain ⟨_,h⟩:=J2 (by decide) he.symm
  obtain ⟨g,h⟩:=J2 (by decide) h
  refine ⟨g, ?_⟩
  cases hs:C0 (C7 M3 (A2 (A0 y 1))) (A2 (A0 y 1)).length with
  | some e=>rw[hs] at h;exact absurd h (a6m hs)
  | none =>
   rw[hs] at h
   cases ht:C0 (C7 X9 (A2 (A0 y 2))) (A2 (A0 y 2)).length with
   | some e=>rw[ht] at h;exact absurd h (a6m ht)
   | none=>exact ⟨a4h hs,a4h ht⟩
 have main:decide ((↑(A2 (A0 y 1)).length:Int)>16)=false∧(∀c∈A2 (A0 y 1),M3 c=0)∧∀a∈E3 y 2,X9 a=0:=by
  cases g1:A1 (A0 y 0)==1 with
  | true=>rw[g1] at h;exact fin h rfl
  | false =>
   cases g2:A1 (A0 y 0)==9 with
   | true=>rw[g1,g2] at h;exact fin h rfl
   | false=>rw[g1,g2] at h;exact fin h rfl
 have:=of_decide_eq_false main.1
 exact ⟨by omega,main.2⟩
theorem e6k:∀(n:Nat) {y:D},G7 y→X9 y=0→M4 y≤100→g5g n y
 | 0,_,_,_,_=>trivial
 | n+1,y,hf,h,ht=>by
  obtain ⟨⟨h1,h2⟩,h3,h4,h5⟩:=e3b h
  refine ⟨⟨hf,by omega,by show (A1 (A0 y 0)).toNat<10;omega,⟨by omega,fun c hc=>f4y (hf.c c hc) (h4 c hc)⟩,ht⟩,fun a ha=>e6k n (hf.a a ha) (h5 a ha) ?_⟩
  have:=a3u y
  have:=a2j (f:=M4) (xs:=E3 y 2) ha
  omega
theorem f2n {y:D} (hf:G7 y) (h:M5 y=0):PTx y:=by
 unfold M5 at h
 rw[hf.v] at h
 obtain ⟨h1,h⟩:=J2 (by decide) h
 obtain ⟨h2,h⟩:=J2 (by decide) h
 have h1:=of_decide_eq_false h1
 unfold cap at h1
 exact ⟨fun n=>e6k n hf h (by omega)⟩
theorem e8j {c:Bool} {z r:Int} (h:(bif ab c (z !=0) then z else r)=0):(c=true→z=0)∧r=0:=by
 cases c with
 | false=>exact ⟨(fun h=>by cases h),h⟩
 | true =>
  cases hz:z !=0 with
  | true=>simp only[ab,hz,cond_true] at h;subst h;cases hz
  | false=>simp only[ab,hz,cond_true,cond_false] at h;exact ⟨fun _=>by simpa using hz,h⟩
theorem c7x {z r:Int} (h:(bif z !=0 then z else r)=0):z=0∧r=0:=by
 cases hz:z !=0 with
 | true=>rw[hz] at h;simp only[cond_true] at h;subst h;cases hz
 | false=>rw[hz] at h;exact ⟨by simpa using hz,h⟩
theorem h3w {a b:Bool} (h:ab a b=false) (ha:a=true):b=false:=by subst ha;exact h
theorem e9u {y:D} (h:b3h y=0):(A5 (A0 y 14)).size≤60:=by
 unfold b3h at h
 cases g1:A1 (A0 y 0)==5 with
 | true=>rw[g1] at h;simp only[cond_true] at h;have:=of_decide_eq_false (J2 (by decide) h).1;omega
 | false =>
  rw[g1] at h
  simp only[cond_false] at h
  cases g2:A1 (A0 y 0)==13 with
  | true=>rw[g2] at h;simp only[cond_true] at h;have:=of_decide_eq_false (a8i (J2 (by decide) h).1).2;omega
  | false =>
   rw[g2] at h
   simp only[cond_false] at h
   have:=(J2 (by decide) h).1
   exact a9n (by simpa using this)
theorem f4n {y:D} (hf:D0 y) (h:a3r y=0):(1≤kd y∧(kd y).toNat<Z3.length)∧(A5 (A0 y 14)).size≤4096∧∀i,J3 i y=true→a3o i y:=by
 rw[d2v,hf.v] at h
 unfold c3n at h
 obtain ⟨h1,h⟩:=J2 (by decide) h
 obtain ⟨h2,h⟩:=J2 (by decide) h
 obtain ⟨h3,h⟩:=J2 (by decide) h
 obtain ⟨h4,h⟩:=e8j h
 obtain ⟨h5,h⟩:=J2 (by decide) h
 have hgN:=f8t h2
 obtain ⟨hnum,h⟩:(gN (A1 (A0 y 0)) (A1 (A0 y 1))=true→N9 y=0)∧b8u (A1 (A0 y 0)) (A1 (A0 y 1)) y=0:=by
  cases g:gN (A1 (A0 y 0)) (A1 (A0 y 1)) with
  | true=>rw[g] at h;exact ⟨fun _=>(c7x h).1,(c7x h).2⟩
  | false=>rw[g] at h;exact ⟨(fun h=>by cases h),h⟩
 unfold b8u at h
 obtain ⟨h6,h⟩:=c7x h
 obtain ⟨h7,h⟩:=J2 (by decide) h
 obtain ⟨h8,h⟩:=c7x h
 obtain ⟨h9,h⟩:=e8j h
 obtain ⟨a,b⟩:=a8i h1
 have a:=of_decide_eq_false a
 have b:=of_decide_eq_false b
 obtain ⟨m0,m1⟩:=a8i h7
 have m0:=of_decide_eq_false m0
 have m1:=of_decide_eq_false m1
 have htx:(A5 (A0 y 14)).size≤4096:=by
  cases g:gT (A1 (A0 y 0)) (A1 (A0 y 1)) with
  | true=>rw[g] at h;have:=e9u h;omega
  | false =>
   unfold c8e at h3
   have h3:=(a8i h3).1
   simp only[Bool.not_eq_false',Bool.and_eq_true] at h3
   have h33:=h3.2.2.2.1
   rw[g] at h33
   have:H5 y 3=false:=by
    cases gp:H5 y 3 with
    | false=>rfl
    | true=>rw[gp] at h33;cases h33
   have he:=b3a (s:=A5 (A0 y 14)) (by
    have h0:(!(A5 (A0 y 14)).toList==(ByteArray.mk #[]).toList)=false:=this
    simpa using h0)
   omega
 refine ⟨⟨by show 1≤A1 (A0 y 0);omega,by show (A1 (A0 y 0)).toNat<14;omega⟩,htx,fun i hc=>?_⟩
 unfold a3o
 split
 ·have hc:decide (((n9 (kd y)).length:Int)>0)=true:=hc
  obtain ⟨l1,l2⟩:=c7i (A1 (A0 y 0))
  have g:hF (A1 (A0 y 0))=true:=by rw[←l1];exact hc
  have hl:=l2 g
  obtain ⟨c1,c2⟩:=a8i (h3w h2 g)
  have c1:=of_decide_eq_false c1
  have c2:=of_decide_eq_false c2
  show 1≤A1 (A0 y 1)∧(A1 (A0 y 1)).toNat<(n9 (A1 (A0 y 0))).length
  exact ⟨by omega,by omega⟩
 ·show _∧(A1 (A0 y 9)).toNat<3;exact ⟨by omega,by omega⟩
 ·exact f2n hf.p (h9 hc)
 ·exact b6k hf.m (h4 hc)
 ·exact e2q hf.s h8
 ·obtain ⟨c1,c2⟩:=a8i (h3w h5 hc)
  obtain ⟨c1,c3⟩:=a8i c1
  obtain ⟨c1,c4⟩:=a8i c1
  have c1:=of_decide_eq_false c1
  have c2:=of_decide_eq_false c2
  have c3:=of_decide_eq_false c3
  have c4:=of_decide_eq_false c4
  exact ⟨⟨by omega,by omega⟩,by omega,by omega⟩
 ·exact ⟨hf,c9r hf.n h6⟩
 ·have hn:=hnum (by rw[hgN];exact hc)
  unfold N9 at hn
  simpa using (J2 (by decide) hn).1
 ·trivial
 ·exact htx
theorem f8y:∀(n:Nat) {y:D},D0 y→H9 y=0→G1 y≤100→g5i n y
 | 0,_,_,_,_=>trivial
 | n+1,y,hf,h,ht=>by
  obtain ⟨h1,h2⟩:=a2g hf.v h
  obtain ⟨e1,e2,e3⟩:=f4n hf h1
  refine ⟨⟨hf,e1,ht,e2,e3⟩,fun a ha=>f8y n (hf.a a ha) (h2 a ha) ?_⟩
  have:=p6 y
  have:=a2j (f:=G1) (xs:=E3 y 15) ha
  omega
theorem g3t {y:D} (hf:D0 y) (h:E2 y=0):ETx y:=by
 obtain ⟨h1,_,h3⟩:=c3k h hf.v
 exact ⟨fun n=>f8y n hf h3 h1⟩
theorem g6d {y:D} (hf:D0 y) (hb:Bd y):c3g y:=⟨hf,hb,g3t hf⟩
def r6 (y:D):Bool:=bif decide (kd y≥2) then decide (kd y≤5) else false
noncomputable def lvS (rec:D→List D) (y:D):List D:=bif r6 y then [y] else ((E3 y 15).map rec).flatten
noncomputable def lvE (y:D):List D:=b2x lvS [] (dsz y+1) y
noncomputable def c64:Ct:=⟨fun | [x]=>D0 x∧G1 x≤100|_=>False,fun | [x]=>some (.slice false 16 (lvE x))|_=>none⟩
noncomputable def U64 (κ:Nat):Tab:=T31.add 64 (c64.below μ1 κ)
noncomputable def T64:Tab:=T31.add 64 c64
noncomputable def l64:Code:=D6 (C6 (A7 Tryz.f64) 10)
def g5k (κ:Nat) (xs:List D):Prop:=(xs.map G1).sum≤100∧∀y∈xs,(D0 y∧G1 y≤100)∧dsz y<κ
theorem b64 (κ:Nat) (y:D) (ts:List D) (i:Int) (R:X→List V→List Box→Prop):(D7 (Cn (U64 κ)) (U64 κ) D4 0 C5 B1 l64 32 [1,3,4] [[5000], [5001]] [] [([5000], [5000]),([5001], [32])] [3]
 [([5001], [5001])] [V.ptr [5000] 0,V.ref [5001],A3 i] [G5 y,Box.arr true false 33 16 ts []] R) =
 (bif decide (i<(↑(A2 (A0 y 15)).length:Int)) then
 ((((0:Int)≤i)∧(i.toNat<(A2 (A0 y 15)).length∧eV ((A2 (A0 y 15)).getD i.toNat D.any)=(A2 (A0 y 15)).getD i.toNat D.any))∧
 (((D0 (eV ((A2 (A0 y 15)).getD i.toNat D.any))∧G1 (eV ((A2 (A0 y 15)).getD i.toNat D.any))≤100)∧μ1 [eV ((A2 (A0 y 15)).getD i.toNat D.any)]<κ)∧
 (bif ((ts.length+((lvE (eV ((A2 (A0 y 15)).getD i.toNat D.any))).length+0))*232).ble 70368744177664 then
 (32=32∧
 R X.normal [V.ptr [5000] 0,V.ref [5001],A3 (IntKind.i64.wrap (i+1))]
 [G5 y,
 Box.arr true false 33 16 (ts++lvE (eV ((A2 (A0 y 15)).getD i.toNat D.any))) []]) else
 False))) else
 (32=32∧
 R (X.exit 0) [V.ref [5001]] [Box.arr true false 33 16 ts []])):=by kernel_rfl
noncomputable def S64 (κ:Nat):Ev.Spec:={L:=[1,3,4],ns:=[([5000],[3]),([5001],[17])],L':=[3],nm':=[[5001]],G:=fun N vals bs k=>match vals,bs with
 | [.ptr [5000] 0, .ref [5001], .d (.lit (.int .i64 i))], [.cells 33 cs, .arr true false 33 16 ts []]=>(N=32∧i=0∧ts= []∧IsE cs∧g5k κ (A2 (A0 (yOf cs) 15)))∧k (.exit 0) [.ref [5001]] [.arr true false 33 16 ((A2 (A0 (yOf cs) 15)).map lvE).flatten []]
 | _,_=>False }
theorem w64 (κ:Nat) (y:D) (p:V→Prop):(B7 (Cn (U64 κ)) (U64 κ) D4 0 (spL [(10,S64 κ)]) B1 64 [V.d (eV y)] B4.empty fun v H=>p (B5 H v)) =
 (bif bif decide (A1 (A0 y 0)≥2) then decide (A1 (A0 y 0)≤5) else false then
 p (V.d (D.slice false 16 [eV y])) else
 ((32=32∧(((0:Int)=0)∧(([]:List D)= []∧(IsE
 (N5 y)∧g5k κ (A2 (D.slice (K3 (A0 y 15)) 16 (A2 (A0 y 15))))))))∧
 p (V.d (D.slice false 16 (List.map lvE (A2 (D.slice (K3 (A0 y 15)) 16 (A2 (A0 y 15))))).flatten)))):=by kernel_rfl
theorem w30 (y:D) (p:V→Prop):(B7 (Cn T64) T64 D4 0 C5 B1 30 [V.d (eV y)] B4.empty fun v H=>p (B5 H v)) =
 ((D0 (eV y)∧Bd (eV y))∧
 (bif E2 (eV y) !=0 then
 p (V.d (D.tup [D.slice false 16 [],iD (E2 (eV y))])) else
 ((D0 (eV y)∧G1 (eV y)≤100)∧
 p (V.d (D.tup [D.slice false 16 (lvE (eV y)),iD 0]))))):=by kernel_rfl
noncomputable def c30:Ct:=⟨fun | [x]=>D0 x∧Bd x|_=>False,fun | [x]=>some (.tup [.slice false 16 (bif E2 x !=0 then [] else lvE x),n8 (E2 x)])|_=>none⟩
noncomputable def T30:Tab:=T64.add 30 c30
theorem e3p (r r':D→List D) (y:D) (h:∀a∈E3 y 15,r a=r' a):lvS r y=lvS r' y:=by
 unfold lvS
 rw[List.map_congr_left h]
theorem b9q (y:D):lvE y=bif r6 y then [y] else ((E3 y 15).map lvE).flatten:=X7 e3p y
theorem d5x:∀{l:List D},(∀a∈l,(lvE a).length≤G1 a)→((l.map lvE).flatten).length≤(l.map G1).sum
 | [],_=>by simp
 | x::r,h=>by
  have h1:=h x (by simp)
  have h2:=d5x (l:=r) fun a ha=>h a (List.mem_cons_of_mem _ ha)
  simp only[List.map_cons,List.flatten_cons,List.length_append,List.sum_cons]
  omega
theorem b5j:∀{n:Nat} {y:D},dsz y<n→(lvE y).length≤G1 y:=by
 intro n
 induction n with
 | zero=>intro y h;omega
 | succ n ih =>
  intro y hn
  have h1:=d5x (l:=E3 y 15) fun a ha=>ih (by have:=G3 ha;omega)
  have h2:=a3e y
  rw[b9q]
  cases r6 y
  ·simp only[cond_false];omega
  ·simp only[cond_true,List.length_cons,List.length_nil];omega
theorem e2k {xs:List D} {i:Nat} (h:i<xs.length):((xs.take i).map lvE).flatten++lvE (xs.getD i .any)=((xs.take (i+1)).map lvE).flatten:=by
 rw[List.take_add_one,List.map_append,List.flatten_append,List.getElem?_eq_getElem h,List.getD_eq_getElem?_getD,List.getElem?_eq_getElem h];simp
theorem e5n (xs:List D) (i:Nat):((xs.take i).map G1).sum≤(xs.map G1).sum:=by
 conv=>rhs;rw[←List.take_append_drop i xs]
 rw[List.map_append,List.sum_append];omega
theorem h7o {κ:Nat} (hk:C2 B (U64 κ)):OkS (Cn (U64 κ)) 0 (.loop l64) (S64 κ):=by
 refine D2 fun N vals bs K h=>?_
 simp only[S64] at h
 split at h
 case h_2=>exact h.elim
 rename_i i cs t0
 obtain ⟨⟨rfl,rfl,rfl,⟨y,rfl⟩,hn,hall⟩,h⟩:=h
 have hn:((A2 (A0 y 15)).map G1).sum≤100:=hn
 have hall:∀a∈A2 (A0 y 15),(D0 a∧G1 a≤100)∧dsz a<κ:=hall
 have h:K (.exit 0) [.ref [5001]] [.arr true false 33 16 ((A2 (A0 y 15)).map lvE).flatten []]:=h
 have hlen:=a4o (xs:=A2 (A0 y 15))
 have main:∀k i ts,i+k=(A2 (A0 y 15)).length→ts=(((A2 (A0 y 15)).take i).map lvE).flatten→J5 (Cn (U64 κ)) 0 l64 32 [1,3,4] [[5000],[5001]] [3] [[5001]] [.ptr [5000] 0, .ref [5001],A3 i] [G5 y, .arr true false 33 16 ts []] K:=by
  intro k
  induction k with
  | zero =>
   intro i ts hi hts
   rw[List.take_of_length_le (by omega)] at hts
   subst hts
   refine B6 (D1 C4 hk B9) C1 A8 (hn:=B1) (adsI:=[]) (nsI:=[([5000],[5000]),([5001],[32])]) (nsX:=[([5001],[5001])]) rfl rfl (keep (b64 κ y _ i _) ?_)
   rw[show decide ((i:Int)<((A2 (A0 y 15)).length:Int))=false by simp;omega]
   exact ⟨(by trivial),h⟩
  | succ k ih =>
   intro i ts hi hts
   refine B6 (D1 C4 hk B9) C1 A8 (hn:=B1) (adsI:=[]) (nsI:=[([5000],[5000]),([5001],[32])]) (nsX:=[([5001],[5001])]) rfl rfl (keep (b64 κ y ts i _) ?_)
   have e2:IntKind.i64.wrap ((i:Int)+1)=((i+1:Nat):Int):=by rw[Go.IntWalk.i64_in _ (by omega)];omega
   have hlt:i<(A2 (A0 y 15)).length:=by omega
   obtain ⟨⟨hf,ht⟩,hs⟩:=hall _ (E1 (xs:=A2 (A0 y 15)) (i:=i) hlt)
   have l1:ts.length≤100:=by
    rw[hts]
    have:=d5x (l:=(A2 (A0 y 15)).take i) fun a _=>b5j (Nat.lt_succ_self _)
    have:=e5n (A2 (A0 y 15)) i
    omega
   have l2:=b5j (y:=(A2 (A0 y 15)).getD i .any) (Nat.lt_succ_self _)
   have e3:((ts.length+((lvE ((A2 (A0 y 15)).getD i .any)).length+0))*232).ble 70368744177664=true:=by rw[Nat.ble_eq];omega
   have hnext:=ih (i+1) (ts++lvE ((A2 (A0 y 15)).getD i .any)) (by omega) (by rw[hts,e2k hlt])
   simp only[show decide ((i:Int)<((A2 (A0 y 15)).length:Int))=true by simp;omega,cond_true,Int.toNat_natCast,e2,hf.v,e3]
   exact ⟨⟨by omega,hlt,(by trivial)⟩,⟨⟨hf,ht⟩,hs⟩,(by trivial),hnext⟩
 exact main (A2 (A0 y 15)).length 0 [] (by omega) (by simp)
theorem k64:C2 B T64:=by
 refine P9 C4 k31 μ1 (fn:=Tryz.f64) (cd:=A7 Tryz.f64) (sp:=fun κ=>spL [(10,S64 κ)]) (hn:=B1) Tryz.func64 (by kernel_rfl) (by kernel_rfl) (fun κ hk=>B8 (c:=.loop l64) (by kernel_rfl) (h7o hk) C8) fun κ ds r hp hm hr=>?_
 unfold c64 at hp hr
 simp only[] at hr hp
 split at hr
 ·rename_i y
  cases hr
  obtain ⟨hf,ht⟩:=hp
  rw[W1 hf.v]
  refine keep (w64 κ y fun v=>v=_) ?_
  rw[hf.v]
  have h2:=a3e y
  have hL:g5k κ (A2 (A0 y 15)):=⟨by unfold E3 at h2;omega,fun a ha=>⟨⟨hf.a a ha,by
   have:=a2j (f:=G1) (xs:=E3 y 15) ha
   omega⟩,hm▸G3 ha⟩⟩
  rw[b9q]
  unfold r6
  refine A4 (fun g=>?_) (fun g=>?_)
  ·have g':(bif decide (kd y≥2) then decide (kd y≤5) else false)=true:=g
   rw[g'];rfl
  ·have g':(bif decide (kd y≥2) then decide (kd y≤5) else false)=false:=g
   rw[g']
   exact ⟨⟨(by trivial),(by trivial),rfl,⟨y,rfl⟩,hL⟩,rfl⟩
 ·cases hr
theorem k30:C2 B T30:=by
 refine C3 C4 k64 (fn:=Tryz.f30) (cd:=A7 Tryz.f30) (sp:=C5) (hn:=B1) Tryz.func30 (by kernel_rfl) (by kernel_rfl) A8 fun ds r hp hr=>?_
 unfold c30 at hp hr
 simp only[] at hr hp
 split at hr
 ·rename_i y
  cases hr
  obtain ⟨hf,hb⟩:=hp
  rw[W1 hf.v]
  refine keep (w30 y fun v=>v=_) ?_
  rw[hf.v]
  refine ⟨⟨hf,hb⟩,A4 (fun g=>?_) (fun g=>?_)⟩
  ·simp only[g,cond_true]
  ·have g0:E2 y=0:=by simpa using g
   simp only[g0]
   exact ⟨⟨hf,(c3k g0 hf.v).1⟩,rfl⟩
 ·cases hr
abbrev a6g (nl:Bool) (ts:List D):Box:=.arr true nl 33 16 ts []
def L63 (y:D):Prop:=D0 y∧G1 y≤100∧H9 y=0
noncomputable def s63:Sm:=⟨fun vals bs=>match vals,bs with | [.d y,_], [.arr _ _ _ _ ts _]=>L63 y∧ts.length+G1 y≤200 | [.d y,_], []=>L63 y|_,_=>False,fun vals bs=>match vals,bs with
 | [.d y, .ref [0,0]], [.arr true nl 33 16 ts []]=>one (.ref [2]) [.junk] [a6g (nl&&(lvE y).isEmpty) (ts++lvE y)]
 | [.d y, .d (.slice true _ [])], []=>one (.ref [2]) [] [a6g (lvE y).isEmpty (lvE y)]
 | _,_=>none⟩
noncomputable def μ63:FuncId→List V→List Box→Nat:=fun _ vals _=>match vals with | .d y::_=>dsz y|_=>0
noncomputable def U63 (κ:Nat):Y7:=a5u.addG (b5x [(63,s63)] μ63 κ)
noncomputable def l63:Code:=D6 (C6 (A7 Tryz.f63) 16)
abbrev n63 (k:Nat):List (B2×B2):=(List.range k).map fun i=>([0,i],[0,i])
def slf (y:D):List D:=bif r6 y then [y] else []
def d4t (k:Nat) (ns:List (B2×B2)):Ev.Spec:={L:=[1,2,9],ns:=([5002],[4])::ns,L':=[1,2],nm':=[[5002],[5000]]++F9 k,G:=fun N vals bs K=>match vals,bs with
 | [.ref [5000], .ptr [5002] 0, .d (.lit (.bool c))], .cells 33 cs:: .arr true nl 33 16 ts []::more=>(N=30∧more=List.replicate k .junk∧IsE cs∧c=r6 (yOf cs)∧ts.length≤200)∧K .normal [.ref [5000], .ptr [5002] 0] (.cells 33 cs::a6g (nl&&(slf (yOf cs)).isEmpty) (ts++slf (yOf cs))::more)
 | _,_=>False }
def h63:Nat→Option o9:=fun id=>match id with | 0=>some {ads:=[.slot 1 33 16 [5001]] }|_=>none
noncomputable def d4u (κ k:Nat):Ev.Spec:={L:=[1,19,20,21],ns:=([5000],[5000])::n63 k,L':=[1],nm':=[5000]::F9 k,G:=fun N vals bs K=>match vals,bs with
 | [.ref [5000], .d (.slice b z ys), .d (.lit (.int .i64 n)), .d (.lit (.int .i64 i))], .arr true nl 33 16 ts []::more=>(N=30∧z=16∧i=0∧n=ys.length∧more=List.replicate k .junk∧ts.length+(ys.map G1).sum≤200∧∀a∈ys,L63 a∧dsz a<κ)∧K (.exit 1) [.ref [5000]] (a6g (nl&&((ys.map lvE).flatten).isEmpty) (ts++(ys.map lvE).flatten)::more)
 | _,_=>False }
def f4g (k:Nat):Nat→Option o9:=fun id=>match id with | 6=>some {cut:=[([1,2],([5002],[5002])::([5000],[19])::n63 k)] }|_=>none
theorem h7i (κ:Nat) (y:D) (nl:Bool) (c:Bool) (ts:List D) (R:X→List V→List Box→Prop):(q9 (Cn T30) T30 (L6 (U63 κ)) 1 C5 (f4g 1) false (C6 (A7 Tryz.f63) 13) 30 [1,2,9]
 [[5002], [5000], [0,0]] [] [1,2] (([5002], [5002])::([5000], [5000])::n63 1)
 [V.ref [5000],V.ptr [5002] 0,A9 c] [G5 y,a6g nl ts,Box.junk] R) =
 (bif c then
 (bif ((ts.length+1)*232).ble 70368744177664 then
 (30=30∧
 R X.normal [V.ref [5000],V.ptr [5002] 0]
 [G5 y,
 Box.arr true (nl&&false) 33 16 (ts++ [eV y]) [],Box.junk]) else
 False) else
 (30=30∧
 R X.normal [V.ref [5000],V.ptr [5002] 0]
 [G5 y,
 Box.arr true nl 33 16 ts [],Box.junk])):=by kernel_rfl
theorem h2p (κ:Nat) (nl:Bool) (b:Bool) (ts:List D) (ys:List D) (n:Int) (i:Int) (R:X→List V→List Box→Prop):(D7 (Cn T30) T30 (L6 (U63 κ)) 1 C5 B1 l63 30 [1,19,20,21] [[5000], [0,0]] [] (([5000], [29,2])::n63 1)
 [1] (([5000], [5000])::n63 1) [V.ref [5000],V.d (D.slice b 16 ys),A3 n,A3 i] [a6g nl ts,Box.junk] R) =
 (bif decide (i<n) then
 ((((0:Int)≤i)∧(i.toNat<ys.length∧eV (ys.getD i.toNat D.any)=ys.getD i.toNat D.any))∧
 (((63,s63).snd.below (μ63 (63,s63).fst) κ).pre [V.d (eV (ys.getD i.toNat D.any)),V.ref [0,0]]
 [Box.arr true nl 33 16 ts []]∧
 (30=30∧
 R X.normal
 [V.ref [5000],V.d (D.slice b 16 ys),A3 n,
 A3 (IntKind.i64.wrap (i+1))]
 [Box.arr true (nl&&(lvE (eV (ys.getD i.toNat D.any))).isEmpty) 33 16 (ts++lvE (eV (ys.getD i.toNat D.any))) [],
 Box.junk]))) else
 (30=30∧
 R (X.exit 1) [V.ref [5000]] [Box.arr true nl 33 16 ts [],Box.junk])):=by kernel_rfl
noncomputable def G63 (κ k:Nat) (y:D) (nl:Bool) (ts:List D) (R:V→List Box→Prop) (c:Bool):Prop:=(30=30∧List.replicate k Box.junk=List.replicate k .junk∧IsE (N5 y)∧c=r6 (eV y)∧ts.length≤200)∧
 (30=30∧16=16∧(0:Int)=0∧((A2 (A0 y 15)).length:Int)=(A2 (A0 y 15)).length∧List.replicate k Box.junk=List.replicate k .junk∧(ts++slf (eV y)).length+((A2 (A0 y 15)).map G1).sum≤200∧∀a∈A2 (A0 y 15),L63 a∧dsz a<κ)∧
 R (.ref [2]) (List.replicate k .junk++ [a6g ((nl&&(slf (eV y)).isEmpty)&&((A2 (A0 y 15)).map lvE).flatten.isEmpty) (ts++slf (eV y)++((A2 (A0 y 15)).map lvE).flatten)])
def d8x (k:Int) (g:Bool→Prop):Prop:=bif k==2 then g true else bif k==3 then g true else bif k==4 then g true else g (k==5)
theorem h4f (κ:Nat) (y:D) (nl:Bool) (ts:List D) (R:V→List Box→Prop):P8 (Cn T30) T30 (L6 (U63 κ)) 1 (spL [(13,d4t 1 [([5000],[0,0])]),(16,d4u κ 1)]) B1 [] [[([0,0],[0,0]),([2],[5000])]] 63 [.d (eV y), .ref [0,0]] (L5 [a6g nl ts]) R=d8x (kd y) (G63 κ 1 y nl ts R):=by kernel_rfl
theorem h4e (κ:Nat) (y:D) (e:Nat) (R:V→List Box→Prop):P8 (Cn T30) T30 (L6 (U63 κ)) 0 (spL [(13,d4t 0 [([5000],[5001])]),(16,d4u κ 0)]) h63 [] [[([2],[5000])]] 63 [.d (eV y), .d (.slice true e [])] (L5 []) R=d8x (kd y) (G63 κ 0 y true [] R):=by kernel_rfl
theorem h7h (κ:Nat) (y:D) (nl:Bool) (c:Bool) (ts:List D) (R:X→List V→List Box→Prop):(q9 (Cn T30) T30 (L6 (U63 κ)) 0 C5 (f4g 0) false (C6 (A7 Tryz.f63) 13) 30 [1,2,9] [[5002], [5000]] []
 [1,2] (([5002], [5002])::([5000], [5000])::n63 0) [V.ref [5000],V.ptr [5002] 0,A9 c] [G5 y,a6g nl ts] R) =
 (bif c then
 (bif ((ts.length+1)*232).ble 70368744177664 then
 (30=30∧
 R X.normal [V.ref [5000],V.ptr [5002] 0]
 [G5 y,
 Box.arr true (nl&&false) 33 16 (ts++ [eV y]) []]) else
 False) else
 (30=30∧
 R X.normal [V.ref [5000],V.ptr [5002] 0]
 [G5 y,
 Box.arr true nl 33 16 ts []])):=by kernel_rfl
theorem h2o (κ:Nat) (nl:Bool) (b:Bool) (ts:List D) (ys:List D) (n:Int) (i:Int) (R:X→List V→List Box→Prop):(D7 (Cn T30) T30 (L6 (U63 κ)) 0 C5 B1 l63 30 [1,19,20,21] [[5000]] [] (([5000], [29,2])::n63 0) [1]
 (([5000], [5000])::n63 0) [V.ref [5000],V.d (D.slice b 16 ys),A3 n,A3 i] [a6g nl ts] R) =
 (bif decide (i<n) then
 ((((0:Int)≤i)∧(i.toNat<ys.length∧eV (ys.getD i.toNat D.any)=ys.getD i.toNat D.any))∧
 (((63,s63).snd.below (μ63 (63,s63).fst) κ).pre [V.d (eV (ys.getD i.toNat D.any)),V.ref [0,0]]
 [Box.arr true nl 33 16 ts []]∧
 (30=30∧
 R X.normal
 [V.ref [5000],V.d (D.slice b 16 ys),A3 n,
 A3 (IntKind.i64.wrap (i+1))]
 [Box.arr true (nl&&(lvE (eV (ys.getD i.toNat D.any))).isEmpty) 33 16 (ts++lvE (eV (ys.getD i.toNat D.any))) []]))) else
 (30=30∧
 R (X.exit 1) [V.ref [5000]] [Box.arr true nl 33 16 ts []])):=by kernel_rfl
noncomputable def h3x:Y7:=a5u.addG [(63,s63)]
theorem w29 (y:D) (p:V→Prop):(B7 (Cn T30) T30 (L6 h3x) 0 C5 B1 29 [V.d (eV y)] B4.empty fun v H=>p (B5 H v)) =
 (D0 (eV y)∧
 (bif E2 (eV y) !=0 then
 p (V.d (D.tup [D.slice true 0 [],iD (E2 (eV y))])) else
 (s63.pre [V.d (eV y),V.d (D.slice true 0 [])] []∧
 p (V.d (D.tup [D.slice (lvE (eV y)).isEmpty 16 (lvE (eV y)),iD 0]))))):=by kernel_rfl
noncomputable def lvN (x:D):Bool:=bif E2 x !=0 then true else (lvE x).isEmpty
noncomputable def lvZ (x:D):Nat:=bif E2 x !=0 then 0 else 16
noncomputable def lvL (x:D):List D:=bif E2 x !=0 then [] else lvE x
noncomputable def c29:Ct:=⟨fun | [x]=>D0 x|_=>False,fun | [x]=>some (.tup [.slice (lvN x) (lvZ x) (lvL x),n8 (E2 x)])|_=>none⟩
noncomputable def T29:Tab:=T30.add 29 c29
theorem d2f {k:Int} {g:Bool→Prop} (h:g (bif decide (k≥2) then decide (k≤5) else false)):d8x k g:=by
 unfold d8x
 by_cases h2:k=2
 ·subst h2;exact h
 by_cases h3:k=3
 ·subst h3;exact h
 by_cases h4:k=4
 ·subst h4;exact h
 have e2:(k==2)=false:=by simpa using h2
 have e3:(k==3)=false:=by simpa using h3
 have e4:(k==4)=false:=by simpa using h4
 rw[e2,e3,e4]
 have e:(bif decide (k≥2) then decide (k≤5) else false)=(k==5):=by
  by_cases h5:k=5
  ·subst h5;rfl
  ·have:(k==5)=false:=by simpa using h5
   rw[this]
   by_cases h1:k≥2
   ·rw[decide_eq_true h1,cond_true];simp;omega
   ·rw[decide_eq_false h1];rfl
 rw[←e];exact h
theorem L63.sub {y a:D} (h:L63 y) (ha:a∈E3 y 15):L63 a:=by
 obtain ⟨hf,ht,hp⟩:=h
 refine ⟨hf.a a ha, ?_,(a2g hf.v hp).2 a ha⟩
 have:=a3e y
 have:=a2j (f:=G1) (xs:=E3 y 15) ha
 omega
theorem g2m {y:D} (h:L63 y):slf y++((E3 y 15).map lvE).flatten=lvE y∧(slf y).length≤1:=by
 obtain ⟨hf,ht,hp⟩:=h
 rw[b9q]
 unfold slf
 cases g:r6 y with
 | false=>exact ⟨rfl,Nat.zero_le _⟩
 | true =>
  refine ⟨?_,Nat.le_refl _⟩
  have ha:=(b2y (a2g hf.v hp).1).1
  have hk:2≤kd y∧kd y≤5:=by
   unfold r6 at g
   cases h1:decide (kd y≥2) with
   | false=>rw[h1] at g;cases g
   | true=>rw[h1] at g;exact ⟨of_decide_eq_true h1,of_decide_eq_true g⟩
  have h0:b6o (A1 (A0 y 0))=0:=by
   have:kd y=2∨kd y=3∨kd y=4∨kd y=5:=by omega
   rcases this with h|h|h|h<;>(show b6o (kd y)=0;rw[h];rfl)
  rw[h0] at ha
  have:E3 y 15= []:=List.eq_nil_of_length_eq_zero (by omega)
  rw[this];rfl
theorem f8p {κ k:Nat} {l:Code} (hb:l=l63) (hk:S6 B (U63 κ))
  (h1:∀(nl b:Bool) (ts ys:List D) (i:Nat) (K:X→List V→List Box→Prop),i<ys.length→ys.length≤200→(L63 (ys.getD i .any)∧ts.length+G1 (ys.getD i .any)≤200)∧dsz (ys.getD i .any)<κ→J5 (Cn T30) k l 30 [1,19,20,21] ([5000]::F9 k) [1] ([5000]::F9 k) [.ref [5000], .d (.slice b 16 ys),A3 ys.length,A3 ((i+1:Nat):Int)] (a6g (nl&&(lvE (ys.getD i .any)).isEmpty) (ts++lvE (ys.getD i .any))::List.replicate k .junk) K→J5 (Cn T30) k l 30 [1,19,20,21] ([5000]::F9 k) [1] ([5000]::F9 k) [.ref [5000], .d (.slice b 16 ys),A3 ys.length,A3 i] (a6g nl ts::List.replicate k .junk) K)
  (h2:∀(nl b:Bool) (ts ys:List D) (K:X→List V→List Box→Prop),K (.exit 1) [.ref [5000]] (a6g nl ts::List.replicate k .junk)→J5 (Cn T30) k l 30 [1,19,20,21] ([5000]::F9 k) [1] ([5000]::F9 k) [.ref [5000], .d (.slice b 16 ys),A3 ys.length,A3 ys.length] (a6g nl ts::List.replicate k .junk) K)
  (hn:Q8 (([5000],[5000])::n63 k)= [5000]::F9 k):OkS (Cn T30) k (.loop l) (d4u κ k):=by
 refine D2 fun N vals bs K h=>?_
 simp only[d4u] at h
 split at h
 case h_2=>exact h.elim
 rename_i b z ys n i nl ts more
 obtain ⟨⟨rfl,rfl,rfl,rfl,rfl,hs,hall⟩,h⟩:=h
 show J5 (Cn T30) k l 30 [1,19,20,21] (Q8 (([5000],[5000])::n63 k)) [1] ([5000]::F9 k) _ _ _
 rw[hn]
 have hlen:=a4o (xs:=ys)
 have main:∀(rest:List D) (i:Nat) (nl:Bool) (ts:List D),ys.drop i=rest→i+rest.length=ys.length→ts.length+(rest.map G1).sum≤200→K (.exit 1) [.ref [5000]] (a6g (nl&&((rest.map lvE).flatten).isEmpty) (ts++(rest.map lvE).flatten)::List.replicate k .junk)→
   J5 (Cn T30) k l 30 [1,19,20,21] ([5000]::F9 k) [1] ([5000]::F9 k) [.ref [5000], .d (.slice b 16 ys),A3 ys.length,A3 i] (a6g nl ts::List.replicate k .junk) K:=by
  intro rest
  induction rest with
  | nil =>
   intro i nl ts hd hi hr hK
   simp only[List.length_nil,Nat.add_zero] at hi
   subst hi
   refine h2 nl b ts ys K ?_
   simpa using hK
  | cons a rest ih =>
   intro i nl ts hd hi hr hK
   have hil:i<ys.length:=by simp only[List.length_cons] at hi;omega
   have hd2:=List.drop_eq_getElem_cons hil
   rw[hd] at hd2
   injection hd2 with g2 g3
   have hg:ys.getD i .any=a:=by rw[List.getD_eq_getElem?_getD,List.getElem?_eq_getElem hil];exact g2.symm
   obtain ⟨hL,hd3⟩:=hall a (by rw[←hg];exact E1 hil)
   simp only[List.map_cons,List.sum_cons] at hr
   have hlv:=b5j (y:=a) (Nat.lt_succ_self _)
   refine h1 nl b ts ys i K hil (by omega) (by rw[hg];exact ⟨⟨hL,by omega⟩,hd3⟩) ?_
   rw[hg]
   refine ih (i+1) _ _ g3.symm (by simp only[List.length_cons] at hi;omega) (by simp only[List.length_append];omega) ?_
   simp only[List.map_cons,List.flatten_cons, ←List.append_assoc] at hK
   have e:(nl&&(lvE a++(rest.map lvE).flatten).isEmpty)=((nl&&(lvE a).isEmpty)&&((rest.map lvE).flatten).isEmpty):=by
    cases nl<;>cases lvE a<;>simp
   rw[←e];exact hK
 exact main ys 0 nl ts rfl (by simp) hs h
theorem c9d {ts:List D} (h:ts.length≤200):((ts.length+1)*232).ble 70368744177664=true:=by rw[Nat.ble_eq];omega
theorem f8q {κ k:Nat} {ns:List (B2×B2)} (hX:Q8 (([5002],[5002])::([5000],[5000])::n63 k)= [[5002],[5000]]++F9 k) (hk:S6 B (U63 κ))
  (hb:∀(y:D) (nl c:Bool) (ts:List D) (R:X→List V→List Box→Prop),ts.length≤200→R .normal [.ref [5000], .ptr [5002] 0] (G5 y::a6g (nl&& !c) (ts++(bif c then [eV y] else []))::List.replicate k .junk)→a5c (q9 (Cn T30) T30 (L6 (U63 κ)) k C5 (f4g k) false (C6 (A7 Tryz.f63) 13) 30 [1,2,9] (Q8 (([5002],[4])::ns)) [] [1,2] (([5002],[5002])::([5000],[5000])::n63 k) [.ref [5000], .ptr [5002] 0,A9 c] (G5 y::a6g nl ts::List.replicate k .junk) R)):OkS (Cn T30) k (C6 (A7 Tryz.f63) 13) (d4t k ns):=by
 refine c4n (U8 C4 k30 hk) C1 (sp:=C5) (hn:=f4g k) (il:=false) A8 (adsI:=[]) (nsX:=([5002],[5002])::([5000],[5000])::n63 k) hX fun N vals bs K h=>?_
 simp only[d4t] at h
 split at h
 case h_2=>exact h.elim
 rename_i c cs nl ts more
 obtain ⟨⟨rfl,rfl,⟨y,rfl⟩,rfl,ht⟩,h⟩:=h
 refine hb y nl _ ts K ht ?_
 have e:∀c,(bif c then [eV y] else []).isEmpty= !c:=fun c=>by cases c<;>rfl
 have h:K .normal [.ref [5000], .ptr [5002] 0] (G5 y::a6g (nl&&(bif r6 (eV y) then [eV y] else []).isEmpty) (ts++(bif r6 (eV y) then [eV y] else []))::List.replicate k .junk):=h
 rw[e] at h
 exact h
theorem g6f {κ:Nat} (hk:S6 B (U63 κ)):OkS (Cn T30) 1 (C6 (A7 Tryz.f63) 13) (d4t 1 [([5000],[0,0])]):=f8q rfl hk fun y nl c ts R ht hR=>by
 refine keep (h7i κ y nl c ts R) ?_
 rw[c9d ht]
 cases c with
 | true=>exact ⟨(by trivial),hR⟩
 | false=>exact ⟨(by trivial),by simpa using hR⟩
theorem g6e {κ:Nat} (hk:S6 B (U63 κ)):OkS (Cn T30) 0 (C6 (A7 Tryz.f63) 13) (d4t 0 [([5000],[5001])]):=f8q rfl hk fun y nl c ts R ht hR=>by
 refine keep (h7h κ y nl c ts R) ?_
 rw[c9d ht]
 cases c with
 | true=>exact ⟨(by trivial),hR⟩
 | false=>exact ⟨(by trivial),by simpa using hR⟩
theorem g2a {κ:Nat} (hk:S6 B (U63 κ)):OkS (Cn T30) 1 (.loop l63) (d4u κ 1):=f8p rfl hk (fun nl b ts ys i K hi hl hp hK=>by
 refine B6 (U8 C4 k30 hk) C1 A8 (hn:=B1) (adsI:=[]) (nsI:=([5000],[29,2])::n63 1) (nsX:=([5000],[5000])::n63 1) rfl rfl (keep (h2p κ nl b ts ys ys.length i _) ?_)
 have hv:eV (ys.getD i .any)=ys.getD i .any:=hp.1.1.1.v
 have e1:decide ((i:Int)<(ys.length:Int))=true:=by simp;omega
 have e2:IntKind.i64.wrap ((i:Int)+1)=((i+1:Nat):Int):=by rw[Go.IntWalk.i64_in _ (by omega)];omega
 simp only[e1,Int.toNat_natCast,e2,cond_true,hv]
 exact ⟨⟨by omega,hi,(by trivial)⟩,hp,(by trivial),hK⟩) (fun nl b ts ys K hK=>by
 refine B6 (U8 C4 k30 hk) C1 A8 (hn:=B1) (adsI:=[]) (nsI:=([5000],[29,2])::n63 1) (nsX:=([5000],[5000])::n63 1) rfl rfl (keep (h2p κ nl b ts ys ys.length ys.length _) ?_)
 rw[show decide ((ys.length:Int)<(ys.length:Int))=false by simp]
 exact ⟨(by trivial),hK⟩) rfl
theorem f9z {κ:Nat} (hk:S6 B (U63 κ)):OkS (Cn T30) 0 (.loop l63) (d4u κ 0):=f8p rfl hk (fun nl b ts ys i K hi hl hp hK=>by
 refine B6 (U8 C4 k30 hk) C1 A8 (hn:=B1) (adsI:=[]) (nsI:=([5000],[29,2])::n63 0) (nsX:=([5000],[5000])::n63 0) rfl rfl (keep (h2o κ nl b ts ys ys.length i _) ?_)
 have hv:eV (ys.getD i .any)=ys.getD i .any:=hp.1.1.1.v
 have e1:decide ((i:Int)<(ys.length:Int))=true:=by simp;omega
 have e2:IntKind.i64.wrap ((i:Int)+1)=((i+1:Nat):Int):=by rw[Go.IntWalk.i64_in _ (by omega)];omega
 simp only[e1,Int.toNat_natCast,e2,cond_true,hv]
 exact ⟨⟨by omega,hi,(by trivial)⟩,hp,(by trivial),hK⟩) (fun nl b ts ys K hK=>by
 refine B6 (U8 C4 k30 hk) C1 A8 (hn:=B1) (adsI:=[]) (nsI:=([5000],[29,2])::n63 0) (nsX:=([5000],[5000])::n63 0) rfl rfl (keep (h2o κ nl b ts ys ys.length ys.length _) ?_)
 rw[show decide ((ys.length:Int)<(ys.length:Int))=false by simp]
 exact ⟨(by trivial),hK⟩) rfl
theorem e7r {κ k:Nat} {y:D} {nl:Bool} {ts:List D} {R:V→List Box→Prop} (hL:L63 y) (hd:dsz y=κ) (ht:ts.length+G1 y≤200) (hR:R (.ref [2]) (List.replicate k .junk++ [a6g (nl&&(lvE y).isEmpty) (ts++lvE y)])):G63 κ k y nl ts R (r6 y):=by
 obtain ⟨h1,h2⟩:=g2m hL
 have hs:=a3e y
 have hv:eV y=y:=hL.1.v
 have hsub:∀a∈A2 (A0 y 15),L63 a∧dsz a<κ:=fun a ha=>⟨hL.sub ha,hd▸G3 (y:=y) (i:=15) ha⟩
 have hs:1+((A2 (A0 y 15)).map G1).sum≤G1 y:=hs
 have h1:slf y++((A2 (A0 y 15)).map lvE).flatten=lvE y:=h1
 unfold G63
 rw[hv]
 refine ⟨⟨rfl,rfl,⟨y,rfl⟩,rfl,by omega⟩,⟨rfl,rfl,rfl,rfl,rfl,by simp only[List.length_append];omega,hsub⟩, ?_⟩
 have e:((nl&&(slf y).isEmpty)&&((A2 (A0 y 15)).map lvE).flatten.isEmpty)=(nl&&(lvE y).isEmpty):=by
  rw[←h1]
  cases nl<;>cases slf y<;>simp
 rw[e,List.append_assoc,h1]
 exact hR
theorem q63:S6 B h3x:=by
 refine c8v L8 [(63,s63)] μ63 fun n hk K S hmem vals bs c x y hp hmu hf=>?_
 simp only[List.mem_singleton,Prod.mk.injEq] at hmem
 obtain ⟨rfl,rfl⟩:=hmem
 unfold s63 at hp hf
 simp only[] at hp hf
 split at hf
 ·rename_i z nl ts
  simp only[one,Option.some.injEq,Prod.mk.injEq] at hf
  obtain ⟨rfl,rfl,rfl⟩:=hf
  obtain ⟨hL,ht⟩:=hp
  have hv:eV z=z:=hL.1.v
  rw[show ([V.d z, .ref [0,0]]:List V)= [.d (eV z), .ref [0,0]] by rw[hv]]
  refine P3 C4 k30 hk (fn:=Tryz.f63) (cd:=A7 Tryz.f63) (sp:=spL [(13,d4t 1 [([5000],[0,0])]),(16,d4u n 1)]) (hn:=B1) (k:=1) (ads:=[]) (ends:=[[([0,0],[0,0]),([2],[5000])]]) Tryz.func63 (by kernel_rfl) (by kernel_rfl) (by kernel_rfl) (by kernel_rfl) (B8 (c:=C6 (A7 Tryz.f63) 13) (by kernel_rfl) (g6f hk) (B8 (c:=.loop l63) (by kernel_rfl) (g2a hk) C8)) rfl rfl (keep (h4f n z nl ts _) ?_)
  exact d2f (e7r hL hmu ht ⟨rfl,rfl⟩)
 ·rename_i z e
  simp only[one,Option.some.injEq,Prod.mk.injEq] at hf
  obtain ⟨rfl,rfl,rfl⟩:=hf
  have hL:L63 z:=hp
  have hv:eV z=z:=hL.1.v
  rw[show ([V.d z, .d (.slice true e [])]:List V)= [.d (eV z), .d (.slice true e [])] by rw[hv]]
  refine P3 C4 k30 hk (fn:=Tryz.f63) (cd:=A7 Tryz.f63) (sp:=spL [(13,d4t 0 [([5000],[5001])]),(16,d4u n 0)]) (hn:=h63) (k:=0) (ads:=[]) (ends:=[[([2],[5000])]]) Tryz.func63 (by kernel_rfl) (by kernel_rfl) (by kernel_rfl) (by kernel_rfl) (B8 (c:=C6 (A7 Tryz.f63) 13) (by kernel_rfl) (g6e hk) (B8 (c:=.loop l63) (by kernel_rfl) (f9z hk) C8)) rfl rfl (keep (h4e n z e _) ?_)
  exact d2f (e7r (k:=0) (ts:=[]) hL hmu (by have:=hL.2.1;simp;omega) ⟨rfl,rfl⟩)
 ·cases hf
theorem k29:C2 B T29:=by
 refine b5y C4 k30 q63 (fn:=Tryz.f29) (cd:=A7 Tryz.f29) (sp:=C5) (hn:=B1) Tryz.func29 (by kernel_rfl) (by kernel_rfl) A8 fun ds r hp hr=>?_
 unfold c29 at hp hr
 simp only[] at hr hp
 split at hr
 ·rename_i y
  cases hr
  have hf:D0 y:=hp
  rw[W1 hf.v]
  refine keep (w29 y fun v=>v=_) ?_
  rw[hf.v]
  refine ⟨hf,A4 (fun g=>?_) (fun g=>?_)⟩
  ·simp only[lvN,lvZ,lvL,g,cond_true]
  ·have g0:E2 y=0:=by simpa using g
   obtain ⟨a,_,b⟩:=c3k g0 hf.v
   simp only[lvN,lvZ,lvL,g,cond_false,g0]
   exact ⟨⟨hf,a,b⟩,(by trivial)⟩
 ·cases hr
end Go.Ev.R2
end
section
namespace Go.Ev.R2
open Go Go.Ev Go.Proofs
theorem c5o {y:D} (hv:eV y=y) (h1:G1 y≤100) (h2:Q6 y≤12) (h3:H9 y=0):E2 y=0:=by
 unfold E2
 rw[hv,h3]
 have a:decide ((↑(cap (G1 y)):Int)>100)=false:=by unfold cap;simp;omega
 have b:decide ((↑(Q6 y):Int)>12)=false:=by simp;omega
 rw[a,b]
 rfl
theorem d8y {l:List Nat} {n:Nat} (h:n∈l):n≤Q2 l:=by
 induction l with
 | nil=>cases h
 | cons a l ih =>
  have e:Q2 (a::l)=max (max 0 a) (Q2 l):=b9m l (max 0 a)
  rw[e]
  rcases List.mem_cons.1 h with rfl|h
  ·omega
  ·have:=ih h;omega
structure f8k (a:D):Prop where
 f:D0 a
 b:Bd a
 c:E2 a=0
 k:2≤kd a∧kd a≤5
theorem d8w:∀(n:Nat) {y:D},dsz y<n→D0 y→Bd y→G1 y≤100→Q6 y≤12→H9 y=0→∀a∈lvE y,f8k a
 | 0,y,hn,_,_,_,_,_,_,_=>by omega
 | n+1,y,hn,hf,hb,ht,hd,hp,a,ha=>by
  rw[b9q] at ha
  cases g:r6 y with
  | true =>
   rw[g] at ha
   simp only[cond_true,List.mem_singleton] at ha
   subst ha
   refine ⟨hf,hb,c5o hf.v ht hd hp, ?_⟩
   unfold r6 at g
   cases h1:decide (kd a≥2) with
   | false=>rw[h1] at g;cases g
   | true=>rw[h1] at g;exact ⟨of_decide_eq_true h1,of_decide_eq_true g⟩
  | false =>
   rw[g] at ha
   simp only[cond_false,List.mem_flatten,List.mem_map] at ha
   obtain ⟨l,⟨c,hc,rfl⟩,ha⟩:=ha
   have h1:=G3 (y:=y) (i:=15) hc
   have h2:=a3e y
   have h3:=a2j (f:=G1) (xs:=E3 y 15) hc
   have h4:=b4o y
   have h5:=d8y (List.mem_map_of_mem (f:=Q6) hc)
   exact d8w n (by omega) (hf.a c hc) (hb.sub hc) (by omega) (by omega) ((a2g hf.v hp).2 c hc) a ha
theorem b5k {y:D} (hf:D0 y) (hb:Bd y) (h:E2 y=0):∀a∈lvE y,f8k a:=by
 obtain ⟨h1,h2,h3⟩:=c3k h hf.v
 exact d8w _ (Nat.lt_succ_self _) hf hb h1 h2 h3
theorem b6e {β:Type} {f:Nat→Option β}:∀(n i:Nat),(∀j,i≤j→j<i+n→f j=none)→rounds (fun i _=>Q1 (f i)) n i ()= .inl ()
 | 0,i,_=>rfl
 | n+1,i,h=>by
  unfold rounds
  simp only[h i (Nat.le_refl _) (by omega),Q1]
  exact b6e n (i+1) fun j h1 h2=>h j (by omega) (by omega)
theorem d5h {xs:List D} (h:∀y∈xs,E2 y=0):b8p xs xs=true:=by
 unfold b8p
 have e:((xs.length:Int) !=(xs.length:Int))=false:=by simp
 rw[e,cond_false]
 have hs:C0 (c9q xs xs) xs.length=none:=by
  unfold C0
  rw[b6e xs.length 0 fun j _ hj=>?_]
  unfold c9q
  have hc:=h (xs.getD j .any) (E1 (by omega))
  have:eqB (xs.getD j .any) (xs.getD j .any)=true:=by
   unfold eqB
   rw[hc]
   simp
  rw[this];rfl
 rw[hs]
end Go.Ev.R2
end
section
namespace Go.Ev.R2
open Go Go.Ev Go.Proofs
set_option maxRecDepth 100000
theorem i2j (b1:Bool) (b2:Bool) (z:Nat) (z':Nat) (R:X→List V→List Box→Prop):(D7 (Cn T33) T33 D4 0 C5 B1 l31 27 [0,1,5] [] [] [] [4] []
 [V.d (D.slice b1 z []),V.d (D.slice b2 z' []),A3 0] [] R) =
 (27=27∧
 R (X.exit 0) [V.any] []):=by kernel_rfl
noncomputable def f7q:Ev.Spec:={L:=[0,1,5],ns:=[],L':=[4],nm':=[],G:=fun N vals bs k=>match vals,bs with
 | [.d (.slice b1 z []), .d (.slice b2 z' []), .d (.lit (.int .i64 i))], []=>(N=27∧i=0)∧k (.exit 0) [.any] []
 | _,_=>False }
theorem h4g (b1:Bool) (b2:Bool) (z:Nat) (z':Nat) (p:V→Prop):(B7 (Cn T33) T33 D4 0 (spL [(8,f7q)]) B1 31 [V.d (D.slice b1 z []),V.d (D.slice b2 z' [])] B4.empty
 fun v H=>p (B5 H v)) =
 ((27=27∧((0:Int)=0))∧
 p (A9 true)):=by kernel_rfl
noncomputable def e8r:Ct:=⟨fun | [.slice _ _ [], .slice _ _ []]=>True|_=>False,fun | [.slice _ _ [], .slice _ _ []]=>some (.lit (.bool true))|_=>none⟩
def f8n (ds:List D):Prop:=c31.pre ds∨e8r.pre ds
noncomputable def g4e:Ct:=⟨f8n,fun | [.slice _ _ xs, .slice _ _ ys]=>some (.lit (.bool (b8p xs ys)))|_=>none⟩
theorem g6q:OkS (Cn T33) 0 (.loop l31) f7q:=by
 refine D2 fun N vals bs K h=>?_
 simp only[f7q] at h
 split at h
 case h_2=>exact h.elim
 rename_i b1 z b2 z' i
 obtain ⟨⟨rfl,rfl⟩,h⟩:=h
 refine B6 (D1 C4 k33 B9) C1 A8 (hn:=B1) (adsI:=[]) (nsI:=[]) (nsX:=[]) rfl rfl (keep (i2j b1 b2 z z' _) ?_)
 exact ⟨(by trivial),h⟩
theorem h8k:C2 B (T33.add 31 e8r):=by
 refine C3 C4 k33 (fn:=Tryz.f31) (cd:=A7 Tryz.f31) (sp:=spL [(8,f7q)]) (hn:=B1) Tryz.func31 (by kernel_rfl) (by kernel_rfl) (B8 (c:=.loop l31) (by kernel_rfl) g6q C8) fun ds r hp hr=>?_
 unfold e8r at hp hr
 simp only[] at hr hp
 split at hr
 ·rename_i b1 z b2 z'
  cases hr
  exact keep (h4g b1 b2 z z' fun v=>v=_) ⟨⟨(by trivial),(by trivial)⟩,rfl⟩
 ·cases hr
end Go.Ev.R2
end
section
namespace Go.Proofs
open Go.Shelf
def Tryz.growE_ren:Go.Shelf.Ren:=⟨fun | 4=>69|n=>n,fun | 22=>31 | 25=>33 | 3=>3 | 4=>4 | 9=>9 | 20=>20 | 0=>0|n=>n,fun|n=>n⟩
theorem Tryz.growE:Go.Proofs.Lays8.n4 Tryz.prog Tryz.growE_ren:={
 mixed:=by kernel_rfl
 f4:=⟨Tryz.f69.name,by decide,Tryz.func69.trans (congrArg some (by kernel_rfl))⟩
 t0:=Tryz.underlying0
 a0:=Tryz.isAgg0
 z0:=Tryz.sizeOf0
 v0:=Tryz.zeroValue0
 t3:=Tryz.underlying3
 a3:=Tryz.isAgg3
 z3:=Tryz.sizeOf3
 v3:=Tryz.zeroValue3
 t4:=Tryz.underlying4
 a4:=Tryz.isAgg4
 z4:=Tryz.sizeOf4
 v4:=Tryz.zeroValue4
 t9:=Tryz.underlying9
 a9:=Tryz.isAgg9
 z9:=Tryz.sizeOf9
 v9:=Tryz.zeroValue9
 t20:=Tryz.underlying20
 a20:=Tryz.isAgg20
 z20:=Tryz.sizeOf20
 v20:=Tryz.zeroValue20
 t22:=Tryz.underlying31
 a22:=Tryz.isAgg31
 z22:=Tryz.sizeOf31
 v22:=Tryz.zeroValue31 }
end Go.Proofs
namespace Go.Ev.R2
open Go Go.Ev Go.Proofs
set_option maxRecDepth 100000
def s69:Sm:=⟨fun vals _=>match vals with | [_, .d (.lit (.int .i64 n))]=>0≤n∧n≤1000|_=>False,fun vals bs=>match vals,bs with
 | [.d (.slice true _ []), .d (.lit (.int .i64 n))], []=>one (.ref [2]) [] [.arr true (n==0) 33 16 [] []]
 | _,_=>none⟩
def U69:Y7:=a5u.add 69 s69
theorem e8b:Q0 Tryz.prog 69:=by
 have h:(Tryz.f69.name == "runtime.NumGoroutine")=false:=by kernel_rfl
 exact ⟨Tryz.f69,Tryz.func69,by simpa using h,by kernel_rfl⟩
theorem g3j:∃i z,Tryz.prog.info? 33=some i∧i.size=16∧i.bytes=232∧i.zero=some z∧z.cells.size=16:=by
 have h:(match Tryz.prog.info? 33 with|some i=>(match i.zero with|some z=>i.size==16&&(i.bytes==232&&z.cells.size==16)|none=>false)|none=>false)=true:=by kernel_rfl
 cases hi:Tryz.prog.info? 33 with
 | none=>rw[hi] at h;cases h
 | some i =>
  rw[hi] at h
  cases hz:i.zero with
  | none=>simp only[hz] at h;cases h
  | some z =>
   simp only[hz,Bool.and_eq_true,beq_iff_eq] at h
   exact ⟨i,z,rfl,h.1,h.2.1,hz,h.2.2⟩
theorem c4b (b:Box):Y4 [] [b]=(L5 []).set [2] b:=by
 funext n
 by_cases h:n= [2]
 ·subst h;rw[F2];rfl
 ·rw[D3 _ _ h]
  have e:(n== [2])=false:=by simpa using h
  show ofL [([2],b)] n=none
  simp only[ofL,e,cond_false]
theorem q69:S6 B U69:=by
 refine a5p L8 fun vals bs c x y hp hf=>?_
 unfold s69 at hp hf
 simp only[] at hp hf
 split at hf
 case h_2=>cases hf
 rename_i z n
 simp only[one,Option.some.injEq,Prod.mk.injEq] at hf
 obtain ⟨rfl,rfl,rfl⟩:=hf
 obtain ⟨h0,h1⟩:=hp
 refine ⟨e8b,fun w g vs hH hG hr hz=>?_⟩
 obtain ⟨k,rfl⟩:∃k:Nat,n=k:=⟨n.toNat,by omega⟩
 have hvs:vs= #[.slice none 0 0, .int .i64 k]:=by
  obtain ⟨l⟩:=vs
  cases hr with
  | cons a t=>cases t with
   | cons b u=>cases u with
    | nil =>
     cases a with|d a=>cases a with
      | nils=>rw[show _=_ from b.lit_inv]
 subst hvs
 have R:Rel B g ⟨1,fun _=>K9,L5 []⟩ {tmps:= #[.tuple #[]],defers:=[] } w:=⟨rfl,fun t=>by
  have:(#[Value.tuple #[]]:Array Value).getD t undef= .tuple #[]:=by
   cases t with
   | zero=>rfl
   | succ t=>simp[undef]
  rw[this];exact .d (.lit (by simp)),hH,hG,rfl⟩
 by_cases hk:k=0
 ·subst hk
  refine (Any8.slices_Grow_room Tryz.growE none 0 0 0 w (Nat.le_refl _) (by decide) (by decide) (Nat.le_refl _)).mono ?_
  rintro e w' ⟨rfl,rfl⟩
  obtain ⟨g',R',st,kp⟩:=c9u (dst:=some 0) (e:=33) (sz:=16) R (s':=⟨1,upd (fun _=>K9) 0 (.ref [2]),(L5 []).set [2] (.arr true true 33 16 [] [])⟩) rfl
  refine ⟨_, .ref [2],Y4 [] [.arr true true 33 16 [] []],g',⟨rfl,rfl⟩,rfl, ?_, ?_,st, ?_⟩<;>rw[c4b]
  ·exact R'.slots 0
  ·exact R'.heap
  ·exact kp
 ·obtain ⟨i0,zv,e1,e2,e3,e4,e5⟩:=g3j
  refine (Any8.slices_Grow_grow Tryz.growE i0 zv e1 e4 (by omega) none 0 0 k [] w (Nat.le_refl _) (by omega) (by rw[e3];omega) (by omega) (by simp) (fun _=>rfl) (fun a h=>by cases h)).mono ?_
  rintro e w' ⟨rfl,rfl⟩
  have hge:=grownCap_ge w (0+k) 0 33
  have hle:=grownCap_le_maxLen w (0+k) 0 33 (by simp only[maxLen];omega)
  obtain ⟨g',R',st,kp⟩:=a8r (dst:=some 0) (c:=([]:List Value).toArray++Builtin.zeroCells zv.cells (0+k-0)++Builtin.zeroCells zv.cells (grownCap w (0+k) 0 33-(0+k))) (cap:=grownCap w (0+k) 0 33) (e:=33) (sz:=16) (xs:=[]) (ys:=[]) (vs:=[]) (us:=[]) (o:=.map #[] 0) R (s':=⟨1,upd (fun _=>K9) 0 (.ref [2]),(L5 []).set [2] (.arr true false 33 16 [] [])⟩) rfl (Ext.drew w _) (M7 w.drew _) (heap_alloc_new w.drew _) .nil .nil (by simp) (by simp) (by simp) hle
   (by simp only[Array.size_append,size_zeroCells,e5,List.size_toArray,List.length_nil];omega) (by simp)
  have en:(((k:Nat):Int)==0)=false:=by simpa using hk
  rw[en]
  refine ⟨_, .ref [2],Y4 [] [.arr true false 33 16 [] []],g',⟨rfl,rfl⟩,rfl, ?_, ?_,st, ?_⟩<;>rw[c4b]
  ·exact R'.slots 0
  ·exact R'.heap
  ·exact kp
end Go.Ev.R2
end
section
namespace Go.Ev.R2
open Go Go.Ev Go.Proofs
set_option maxRecDepth 100000
noncomputable def B3:Cx:={B with keep:=fun K=>K==69 }
noncomputable def Ck:Cx:=B3.tab a5i
noncomputable def e3s:Code:=D6 (C6 (A7 Tryz.f37) 6)
noncomputable def e3r:Code:=D6 (C6 (A7 Tryz.f37) 22)
abbrev two (b b1 b2:Bool) (xs ys:List D):V:=.d (.slice b 1 [.slice b1 16 xs, .slice b2 16 ys])
theorem h3b (b:Bool) (b1:Bool) (b2:Bool) (xs:List D) (ys:List D) (s:Int) (R:X→List V→List Box→Prop):(D7 Ck a5i (L6 U69) 0 C5 B1 e3s 36 [0,3,9,10,11] [] [] [] [0,3] []
 [two b b1 b2 xs ys,A3 s,two b b1 b2 xs ys,A3 2,A3 0] [] R) =
 ((((0:Int)≤0)∧(0<2∧D.slice b1 16 xs=D.slice b1 16 xs))∧
 (bif decide (IntKind.i64.wrap (s+(↑xs.length:Int))<0) then
 False else
 (36=36∧
 R X.normal
 [V.d (D.slice b 1 [D.slice b1 16 xs,D.slice b2 16 ys]),
 A3 (IntKind.i64.wrap (s+(↑xs.length:Int))),
 V.d (D.slice b 1 [D.slice b1 16 xs,D.slice b2 16 ys]),A3 2,
 A3 (IntKind.i64.wrap (0+1))]
 []))):=by kernel_rfl
theorem h3a (b:Bool) (b1:Bool) (b2:Bool) (xs:List D) (ys:List D) (s:Int) (R:X→List V→List Box→Prop):(D7 Ck a5i (L6 U69) 0 C5 B1 e3s 36 [0,3,9,10,11] [] [] [] [0,3] []
 [two b b1 b2 xs ys,A3 s,two b b1 b2 xs ys,A3 2,A3 1] [] R) =
 ((((0:Int)≤1)∧(1<2∧D.slice b2 16 ys=D.slice b2 16 ys))∧
 (bif decide (IntKind.i64.wrap (s+(↑ys.length:Int))<0) then
 False else
 (36=36∧
 R X.normal
 [V.d (D.slice b 1 [D.slice b1 16 xs,D.slice b2 16 ys]),
 A3 (IntKind.i64.wrap (s+(↑ys.length:Int))),
 V.d (D.slice b 1 [D.slice b1 16 xs,D.slice b2 16 ys]),A3 2,
 A3 (IntKind.i64.wrap (1+1))]
 []))):=by kernel_rfl
theorem h2z (b:Bool) (b1:Bool) (b2:Bool) (xs:List D) (ys:List D) (s:Int) (R:X→List V→List Box→Prop):(D7 Ck a5i (L6 U69) 0 C5 B1 e3s 36 [0,3,9,10,11] [] [] [] [0,3] []
 [two b b1 b2 xs ys,A3 s,two b b1 b2 xs ys,A3 2,A3 2] [] R) =
 (36=36∧
 R (X.exit 0) [V.d (D.slice b 1 [D.slice b1 16 xs,D.slice b2 16 ys]),A3 s] []):=by kernel_rfl
noncomputable def f7p:Ev.Spec:={L:=[0,3,9,10,11],ns:=[],L':=[0,3],nm':=[],G:=fun N vals bs k=>match vals,bs with
 | [.d (.slice b z [.slice b1 z1 xs, .slice b2 z2 ys]), .d (.lit (.int .i64 s)),_, .d (.lit (.int .i64 n)), .d (.lit (.int .i64 i))], []=>(N=36∧s=0∧n=2∧i=0∧z=1∧z1=16∧z2=16∧xs.length≤200∧ys.length≤200∧vals= [two b b1 b2 xs ys,A3 0,two b b1 b2 xs ys,A3 2,A3 0])∧k (.exit 0) [two b b1 b2 xs ys,A3 ((xs.length+ys.length:Nat):Int)] []
 | _,_=>False }
theorem h2y (b:Bool) (b1:Bool) (b2:Bool) (nl:Bool) (ts:List D) (xs:List D) (ys:List D) (R:X→List V→List Box→Prop):(D7 Ck a5i (L6 U69) 0 C5 B1 e3r 36 [6,25,26,27] [[5000]] [] [([5000], [35])] [6] [([5000], [5000])]
 [V.ref [5000],two b b1 b2 xs ys,A3 2,A3 0] [Box.arr true nl 33 16 ts []] R) =
 ((((0:Int)≤0)∧(0<2∧D.slice b1 16 xs=D.slice b1 16 xs))∧
 (bif ((ts.length+(xs.length+0))*232).ble 70368744177664 then
 (36=36∧
 R X.normal
 [V.ref [5000],V.d (D.slice b 1 [D.slice b1 16 xs,D.slice b2 16 ys]),A3 2,
 A3 (IntKind.i64.wrap (0+1))]
 [Box.arr true (nl&&(xs.isEmpty&&true)) 33 16 (ts++xs) []]) else
 False)):=by kernel_rfl
theorem h2x (b:Bool) (b1:Bool) (b2:Bool) (nl:Bool) (ts:List D) (xs:List D) (ys:List D) (R:X→List V→List Box→Prop):(D7 Ck a5i (L6 U69) 0 C5 B1 e3r 36 [6,25,26,27] [[5000]] [] [([5000], [35])] [6] [([5000], [5000])]
 [V.ref [5000],two b b1 b2 xs ys,A3 2,A3 1] [Box.arr true nl 33 16 ts []] R) =
 ((((0:Int)≤1)∧(1<2∧D.slice b2 16 ys=D.slice b2 16 ys))∧
 (bif ((ts.length+(ys.length+0))*232).ble 70368744177664 then
 (36=36∧
 R X.normal
 [V.ref [5000],V.d (D.slice b 1 [D.slice b1 16 xs,D.slice b2 16 ys]),A3 2,
 A3 (IntKind.i64.wrap (1+1))]
 [Box.arr true (nl&&(ys.isEmpty&&true)) 33 16 (ts++ys) []]) else
 False)):=by kernel_rfl
theorem h2w (b:Bool) (b1:Bool) (b2:Bool) (nl:Bool) (ts:List D) (xs:List D) (ys:List D) (R:X→List V→List Box→Prop):(D7 Ck a5i (L6 U69) 0 C5 B1 e3r 36 [6,25,26,27] [[5000]] [] [([5000], [35])] [6] [([5000], [5000])]
 [V.ref [5000],two b b1 b2 xs ys,A3 2,A3 2] [Box.arr true nl 33 16 ts []] R) =
 (36=36∧
 R (X.exit 2) [V.ref [5000]] [Box.arr true nl 33 16 ts []]):=by kernel_rfl
noncomputable def f7o:Ev.Spec:={L:=[6,25,26,27],ns:=[([5000],[26,2])],L':=[6],nm':=[[5000]],G:=fun N vals bs k=>match vals,bs with
 | [.ref [5000], .d (.slice b z [.slice b1 z1 xs, .slice b2 z2 ys]), .d (.lit (.int .i64 n)), .d (.lit (.int .i64 i))], [.arr true nl 33 16 ts []]=>(N=36∧n=2∧i=0∧z=1∧z1=16∧z2=16∧xs.length≤200∧ys.length≤200∧ts= [])∧k (.exit 2) [.ref [5000]] [.arr true ((nl&&xs.isEmpty)&&ys.isEmpty) 33 16 (xs++ys) []]
 | _,_=>False }
theorem w37 (b:Bool) (b1:Bool) (b2:Bool) (xs:List D) (ys:List D) (p:V→Prop):(B7 Ck a5i (L6 U69) 0 (spL [(6,f7p),(22,f7o)]) B1 37 [two b b1 b2 xs ys] B4.empty fun v H =>
 p (B5 H v)) =
 ((36=36∧(((0:Int)=0)∧((((↑2:Int):Int)=2)∧(((0:Int)=0)∧(1=1∧(16=16∧(16=16∧(xs.length≤200∧(ys.length≤200∧ [V.d (D.slice b 1 [D.slice b1 16 xs,D.slice b2 16 ys]),A3 0,
 V.d (D.slice b 1 [D.slice b1 16 xs,D.slice b2 16 ys]),A3 (↑2:Int),
 A3 0] =
 [V.d (D.slice b 1 [D.slice b1 16 xs,D.slice b2 16 ys]),A3 0,
 V.d (D.slice b 1 [D.slice b1 16 xs,D.slice b2 16 ys]),A3 2,
 A3 0])))))))))∧
 (s69.pre [V.d (D.slice true 0 []),A3 (↑(xs.length+ys.length):Int)] []∧
 ((36=36∧((((↑2:Int):Int)=2)∧(((0:Int)=0)∧(1=1∧(16=16∧(16=16∧(xs.length≤200∧(ys.length≤200∧([]:List D)= []))))))))∧
 p (V.d (D.slice ((↑(xs.length+ys.length):Int)==0&&xs.isEmpty&&ys.isEmpty) 16 (xs++ys)))))):=by kernel_rfl
noncomputable def c37:Ct:=⟨fun | [.slice _ 1 [.slice _ 16 xs, .slice _ 16 ys]]=>xs.length≤200∧ys.length≤200|_=>False,fun | [.slice _ _ [.slice _ _ xs, .slice _ _ ys]]=>some (.slice ((((xs.length+ys.length:Nat):Int)==0&&xs.isEmpty)&&ys.isEmpty) 16 (xs++ys))|_=>none⟩
theorem f9c:b4t B3:=⟨⟨C4.ok.plain,C4.ok.mixed⟩,fun _=>rfl⟩
theorem g5w:S6 B3 U69:=q69.of rfl rfl
theorem F37:a9y Ck (L6 U69).call:=U8 f9c b9f g5w
theorem g6p:OkS Ck 0 (.loop e3s) f7p:=by
 refine D2 fun N vals bs K h=>?_
 simp only[f7p] at h
 split at h
 case h_2=>exact h.elim
 rename_i b z b1 z1 xs b2 z2 ys s y n i
 obtain ⟨⟨rfl,rfl,rfl,rfl,rfl,rfl,rfl,h1,h2,hv⟩,h⟩:=h
 rw[hv]
 show J5 Ck 0 e3s 36 [0,3,9,10,11] [] [0,3] [] _ _ _
 have e1:IntKind.i64.wrap (0+(xs.length:Int))=((xs.length:Nat):Int):=by rw[Go.IntWalk.i64_in _ (by omega)];omega
 have e2:IntKind.i64.wrap (((xs.length:Nat):Int)+(ys.length:Int))=((xs.length+ys.length:Nat):Int):=by rw[Go.IntWalk.i64_in _ (by omega)];omega
 have w0:IntKind.i64.wrap (0+1)=1:=by rfl
 have w1:IntKind.i64.wrap (1+1)=2:=by rfl
 refine B6 F37 C1 A8 (hn:=B1) (adsI:=[]) (nsI:=[]) (nsX:=[]) rfl rfl (keep (h3b b b1 b2 xs ys 0 _) ?_)
 simp only[e1,w0]
 rw[show decide (((xs.length:Nat):Int)<0)=false by simp]
 refine ⟨⟨by omega,by omega,(by trivial)⟩,(by trivial), ?_⟩
 refine B6 F37 C1 A8 (hn:=B1) (adsI:=[]) (nsI:=[]) (nsX:=[]) rfl rfl (keep (h3a b b1 b2 xs ys _ _) ?_)
 simp only[e2,w1]
 rw[show decide (((xs.length+ys.length:Nat):Int)<0)=false by simp;omega]
 refine ⟨⟨by omega,by omega,(by trivial)⟩,(by trivial), ?_⟩
 exact B6 F37 C1 A8 (hn:=B1) (adsI:=[]) (nsI:=[]) (nsX:=[]) rfl rfl (keep (h2z b b1 b2 xs ys _ _) ⟨(by trivial),h⟩)
theorem g6o:OkS Ck 0 (.loop e3r) f7o:=by
 refine D2 fun N vals bs K h=>?_
 simp only[f7o] at h
 split at h
 case h_2=>exact h.elim
 rename_i b z b1 z1 xs b2 z2 ys n i nl ts
 obtain ⟨⟨rfl,rfl,rfl,rfl,rfl,rfl,h1,h2,rfl⟩,h⟩:=h
 show J5 Ck 0 e3r 36 [6,25,26,27] [[5000]] [6] [[5000]] [.ref [5000],two b b1 b2 xs ys,A3 2,A3 0] _ _
 have w0:IntKind.i64.wrap (0+1)=1:=by rfl
 have w1:IntKind.i64.wrap (1+1)=2:=by rfl
 refine B6 F37 C1 A8 (hn:=B1) (adsI:=[]) (nsI:=[([5000],[35])]) (nsX:=[([5000],[5000])]) rfl rfl (keep (h2y b b1 b2 nl [] xs ys _) ?_)
 rw[show ((([]:List D).length+(xs.length+0))*232).ble 70368744177664=true by rw[Nat.ble_eq];simp only[List.length_nil];omega]
 simp only[w0,List.nil_append,Bool.and_true]
 refine ⟨⟨by omega,by omega,(by trivial)⟩,(by trivial), ?_⟩
 refine B6 F37 C1 A8 (hn:=B1) (adsI:=[]) (nsI:=[([5000],[35])]) (nsX:=[([5000],[5000])]) rfl rfl (keep (h2x b b1 b2 _ xs xs ys _) ?_)
 rw[show ((xs.length+(ys.length+0))*232).ble 70368744177664=true by rw[Nat.ble_eq];omega]
 simp only[w1,Bool.and_true]
 refine ⟨⟨by omega,by omega,(by trivial)⟩,(by trivial), ?_⟩
 exact B6 F37 C1 A8 (hn:=B1) (adsI:=[]) (nsI:=[([5000],[35])]) (nsX:=[([5000],[5000])]) rfl rfl (keep (h2w b b1 b2 _ _ xs ys _) ⟨(by trivial),h⟩)
theorem k37:C2 B3 (a5i.add 37 c37):=by
 refine b5y f9c b9f g5w (fn:=Tryz.f37) (cd:=A7 Tryz.f37) (sp:=spL [(6,f7p),(22,f7o)]) (hn:=B1) Tryz.func37 (by kernel_rfl) (by kernel_rfl) (B8 (c:=.loop e3s) (by kernel_rfl) g6p (B8 (c:=.loop e3r) (by kernel_rfl) g6o C8)) fun ds r hp hr=>?_
 unfold c37 at hp hr
 simp only[] at hr hp
 split at hr
 ·rename_i b z b1 z1 xs b2 z2 ys
  cases hr
  split at hp
  ·rename_i heq
   injection heq with g1 g2
   injection g1 with e1 e2 e3
   subst e2
   injection e3 with e4 e5
   injection e4 with e6 e7 e8
   injection e5 with e9 e10
   injection e9 with e11 e12 e13
   subst e6 e7 e8 e11 e12 e13
   obtain ⟨h1,h2⟩:=hp
   refine keep (w37 b _ _ xs ys fun v=>v=_) ?_
   exact ⟨⟨(by trivial),(by trivial),(by trivial),(by trivial),(by trivial),(by trivial),(by trivial),h1,h2,(by trivial)⟩,⟨by omega,by omega⟩,⟨(by trivial),(by trivial),(by trivial),(by trivial),(by trivial),(by trivial),h1,h2,(by trivial)⟩,(by trivial)⟩
  ·exact hp.elim
 ·cases hr
noncomputable def a4w (x y:D):D:=.agg [.lit (.int .i64 7), .lit (.int .i64 1), .slice true 0 [], .lit (.int .i64 0), .lit (.int .i64 0), .lit (.int .i64 0), .lit (.int .i64 0), .slice true 0 [], .lit (.bool false), .lit (.int .i64 0), .slice true 0 [], .lit (.int .i64 0), .slice true 0 [], .slice true 0 [], .lit (.string ⟨#[]⟩), .slice false 16 [x,y]]
noncomputable def uE (x:D):D:=eV x
def c5w (x y:D):Prop:=∀(w:World) (lim:Nat→Nat) (v:Value),N7 w lim x v→N7 w lim y v
noncomputable def g8v:Ct:=⟨fun | [x]=>D0 (uE x)∧c5w x (uE x)|_=>False,fun | [x]=>some (.tup [.slice (lvN (uE x)) (lvZ (uE x)) (lvL (uE x)),n8 (E2 (uE x))])|_=>none⟩
noncomputable def g4d:Ct:=⟨fun | [.slice _ z [.slice _ z1 xs, .slice _ z2 ys]]=>z=1∧z1=16∧z2=16∧xs.length≤200∧ys.length≤200|_=>False,c37.f⟩
noncomputable def T12:Tab:=(((T29.add 14 c14).add 31 g4e).add 37 g4d).add 29 g8v
noncomputable def l12:Code:=D6 (C6 (A7 Tryz.f12) 16)
def e9j (a:D):Prop:=D0 a∧E2 a=0∧s5 a=2∧A2 (A0 a 15)= []
def h3z (cs ds:List V):Prop:=IsE cs∧IsE ds
def f8j (z:Nat) (xs:List D):Prop:=(xs= []∨z=16)∧xs.length≤200∧∀y∈xs,e9j y
noncomputable def S12:Ev.Spec:={L:=[2,3,5,6,7,8,42,43,44],ns:=[([5000],[4]),([5001],[5])],L':=[2,3,5,6,7,8,4],nm':=[[5000],[5001]],G:=fun N vals bs k=>match vals,bs with
 | [.ptr [5000] 0, .ptr [5001] 0, .d v5, .d v6, .d v7, .d v8, .d (.slice b z xs), .d (.lit (.int .i64 n)), .d (.lit (.int .i64 i))], [.cells 33 cs, .cells 33 ds]=>(h3z cs ds∧N=99∧i=0∧n=xs.length∧f8j z xs)∧k (.exit 0) [.ptr [5000] 0, .ptr [5001] 0, .d v5, .d v6, .d v7, .d v8, .any] [.cells 33 cs, .cells 33 ds]
 | _,_=>False }
noncomputable def g4k (a:D):Bool:=bif bif (bif E2 a !=0 then 0 else s5 a) !=2 then true else (bif E2 a !=0 then E2 a else bif s5 a==0 then 15 else 0) !=0 then true else ((A2 (A0 a 15)).length:Int) !=0
theorem b12 (x y v5 v6 v7 v8:D) (xs:List D) (i n:Int) (b:Bool) (R:X→List V→List Box→Prop):D7 (Cn T12) T12 D4 0 C5 B1 l12 99 [2,3,5,6,7,8,42,43,44] [[5000],[5001]] [] [([5000],[5000]),([5001],[5001])] [2,3,5,6,7,8,4] [([5000],[5000]),([5001],[5001])] [.ptr [5000] 0, .ptr [5001] 0, .d v5, .d v6, .d v7, .d v8, .d (.slice b 16 xs),A3 n,A3 i] [G5 x,G5 y] R =
 bif decide (i<n) then (((0:Int)≤i∧i.toNat<xs.length∧eV (xs.getD i.toNat .any)=xs.getD i.toNat .any)∧D0 (eV (xs.getD i.toNat .any))∧(bif g4k (eV (xs.getD i.toNat .any)) then (99=99∧R .ret [.ptr [5000] 0, .ptr [5001] 0, .d v5, .d v6, .d v7, .d v8,A9 false] [G5 x,G5 y]) else (99=99∧R .normal [.ptr [5000] 0, .ptr [5001] 0, .d v5, .d v6, .d v7, .d v8, .d (.slice b 16 xs),A3 n,A3 (IntKind.i64.wrap (i+1))] [G5 x,G5 y]))) else (99=99∧R (.exit 0) [.ptr [5000] 0, .ptr [5001] 0, .d v5, .d v6, .d v7, .d v8, .any] [G5 x,G5 y]):=by kernel_rfl
theorem e12 (x y v5 v6 v7 v8:D) (z:Nat) (b:Bool) (R:X→List V→List Box→Prop):D7 (Cn T12) T12 D4 0 C5 B1 l12 99 [2,3,5,6,7,8,42,43,44] [[5000],[5001]] [] [([5000],[5000]),([5001],[5001])] [2,3,5,6,7,8,4] [([5000],[5000]),([5001],[5001])] [.ptr [5000] 0, .ptr [5001] 0, .d v5, .d v6, .d v7, .d v8, .d (.slice b z []),A3 0,A3 0] [G5 x,G5 y] R=(99=99∧R (.exit 0) [.ptr [5000] 0, .ptr [5001] 0, .d v5, .d v6, .d v7, .d v8, .any] [G5 x,G5 y]):=by kernel_rfl
noncomputable def G12 (x y b:D) (p:Bool→Prop):Prop:=D0 x∧((!b9x x&&true)=true→D0 y)∧(bif bif b9x x then true else b9x y then (True∧p true) else
 ((D0 (uE x)∧c5w x (uE x))∧(D0 (uE y)∧c5w y (uE y))∧D0 x∧(((!(E2 (uE x) !=E2 x))&&true)=true→D0 y)∧(bif bif E2 (uE x) !=E2 x then true else E2 (uE y) !=E2 y then p false else
 ((h3z (N5 x) (N5 y)∧99=99∧(0:Int)=0∧((lvL (uE x)).length:Int)=(lvL (uE x)).length∧f8j (lvZ (uE x)) (lvL (uE x)))∧(D0 (uE b)∧c5w b (uE b))∧
 (bif E2 (uE b) !=0 then (((((lvL (uE b)).length:Int)==0&&true)=true→True)∧p (bif ((lvL (uE b)).length:Int)==0 then true else false)) else
 (bif E2 (uE x)==0 then (bif E2 (uE y)==0 then ((1=1∧lvZ (uE x)=16∧lvZ (uE y)=16∧(lvL (uE x)).length≤200∧(lvL (uE y)).length≤200)∧f8n [.slice (lvN (uE b)) (lvZ (uE b)) (lvL (uE b)), .slice ((((lvL (uE x)).length+(lvL (uE y)).length:Nat):Int)==0&&(lvL (uE x)).isEmpty&&(lvL (uE y)).isEmpty) 16 (lvL (uE x)++lvL (uE y))]∧(bif b8p (lvL (uE b)) (lvL (uE x)++lvL (uE y)) then (True∧p true) else p false)) else p false) else p false))))))
theorem w12 (x y:D) (p:V→Prop):(B7 (Cn T12) T12 D4 0 (spL [(16,S12)]) B1 12 [.d (eV x), .d (eV y)] B4.empty (fun v H=>p (B5 H v)))=G12 (eV x) (eV y) (a4w (eV x) (eV y)) fun b=>p (.d (.lit (.bool b))):=by kernel_rfl
noncomputable def c12:Ct:=⟨fun | [x,y]=>(D0 x∧Bd x)∧D0 y∧Bd y|_=>False,fun | [x,y]=>some (.lit (.bool true))|_=>none⟩
theorem ty2 {a:D} (h:f8k a):e9j a:=by
 obtain ⟨hf,hb,hc,hk⟩:=h
 have hp:=(a2g hf.v (c3k hc hf.v).2.2).1
 have ha:=(b2y hp).1
 have hk2:A1 (A0 a 0)=2∨A1 (A0 a 0)=3∨A1 (A0 a 0)=4∨A1 (A0 a 0)=5:=by
  have:2≤A1 (A0 a 0)∧A1 (A0 a 0)≤5:=hk
  omega
 have h0:b6o (A1 (A0 a 0))=0:=by rcases hk2 with h|h|h|h<;>rw[h]<;>rfl
 rw[h0] at ha
 refine ⟨hf,hc, ?_,List.eq_nil_of_length_eq_zero (show (E3 a 15).length=0 by omega)⟩
 rw[c8t]
 unfold b8d
 rcases hk2 with h|h|h|h<;>rw[h]<;>rfl
theorem g7q {x:D} (hf:D0 x) (hb:Bd x):f8j (lvZ x) (lvL x):=by
 unfold f8j lvZ lvL
 cases g:(E2 x !=0) with
 | true=>exact ⟨.inl rfl,by simp,fun y hy=>by simp at hy⟩
 | false =>
  have g0:E2 x=0:=by simpa using g
  have h1:=b5j (y:=x) (Nat.lt_succ_self _)
  have h2:=(c3k g0 hf.v).1
  exact ⟨.inr rfl,by simp only[cond_false];omega,fun y hy=>ty2 (b5k hf hb g0 y hy)⟩
theorem g4j {a:D} (h:e9j a):g4k a=false:=by
 obtain ⟨hf,hc,ht,hs⟩:=h
 unfold g4k
 rw[hc,ht,hs];rfl
theorem c8i:C2 B T12:=by
 have k1:C2 B ((T29.add 14 c14).add 31 g4e):=Y1 (Y1 k29 fun ds r hp hr=>k14 14 c14 ds r rfl hp hr) fun ds r hp hr=>by
  rcases hp with hp|hp
  ·exact k31 31 c31 ds r rfl hp hr
  ·unfold e8r at hp
   simp only[] at hp
   split at hp
   ·rename_i b1 z b2 z'
    have hr:some (D.lit (.bool (b8p [] [])))=some r:=hr
    exact h8k 31 e8r [.slice b1 z [], .slice b2 z' []] r rfl trivial (by rw[←hr];rfl)
   ·exact hp.elim
 have k2:C2 B (((T29.add 14 c14).add 31 g4e).add 37 g4d):=Y1 k1 fun ds r hp hr=>by
  unfold g4d at hp
  simp only[] at hp
  split at hp
  ·obtain ⟨rfl,rfl,rfl,h1,h2⟩:=hp
   refine a5a.of rfl rfl (k37 37 c37 _ r rfl ?_ hr)
   exact ⟨h1,h2⟩
  ·exact hp.elim
 refine Y1 k2 fun ds r hp hr=>?_
 unfold g8v at hp hr
 simp only[] at hr hp
 split at hr
 ·rename_i x
  cases hr
  have h:=k29 29 c29 [uE x] _ rfl hp.1 rfl
  exact ⟨h.1,fun w lim vs a b c=>h.2 w lim vs a b (by
   obtain ⟨vs⟩:=vs
   cases c with
   | cons h1 t=>exact .cons (hp.2 w lim _ h1) t)⟩
 ·cases hr
theorem h8i:OkS (Cn T12) 0 (.loop l12) S12:=by
 refine D2 fun N vals bs K h=>?_
 simp only[S12] at h
 split at h
 case h_2=>exact h.elim
 rename_i v5 v6 v7 v8 b z xs n i cs ds
 obtain ⟨⟨⟨⟨x,rfl⟩,⟨y,rfl⟩⟩,rfl,rfl,rfl,h1,h2,h3⟩,h⟩:=h
 show J5 (Cn T12) 0 l12 99 [2,3,5,6,7,8,42,43,44] [[5000],[5001]] [2,3,5,6,7,8,4] [[5000],[5001]] _ _ _
 rcases h1 with rfl|rfl
 ·exact B6 (D1 C4 c8i B9) C1 A8 (hn:=B1) (adsI:=[]) (nsI:=[([5000],[5000]),([5001],[5001])]) (nsX:=[([5000],[5000]),([5001],[5001])]) rfl rfl (keep (e12 x y v5 v6 v7 v8 z b _) ⟨rfl,h⟩)
 have main:∀k i,i+k=xs.length→J5 (Cn T12) 0 l12 99 [2,3,5,6,7,8,42,43,44] [[5000],[5001]] [2,3,5,6,7,8,4] [[5000],[5001]] [.ptr [5000] 0, .ptr [5001] 0, .d v5, .d v6, .d v7, .d v8, .d (.slice b 16 xs),A3 xs.length,A3 i] [G5 x,G5 y] K:=by
  intro k
  induction k with
  | zero =>
   intro i hi
   have:i=xs.length:=by omega
   subst this
   refine B6 (D1 C4 c8i B9) C1 A8 (hn:=B1) (adsI:=[]) (nsI:=[([5000],[5000]),([5001],[5001])]) (nsX:=[([5000],[5000]),([5001],[5001])]) rfl rfl (keep (b12 x y v5 v6 v7 v8 xs xs.length xs.length b _) ?_)
   rw[show decide ((xs.length:Int)<xs.length)=false by simp]
   exact ⟨rfl,h⟩
  | succ k ih =>
   intro i hi
   refine B6 (D1 C4 c8i B9) C1 A8 (hn:=B1) (adsI:=[]) (nsI:=[([5000],[5000]),([5001],[5001])]) (nsX:=[([5000],[5000]),([5001],[5001])]) rfl rfl (keep (b12 x y v5 v6 v7 v8 xs i xs.length b _) ?_)
   have e1:decide ((i:Int)<xs.length)=true:=by simp;omega
   have hl:=h3 _ (E1 (xs:=xs) (i:=i) (by omega))
   have e2:IntKind.i64.wrap ((i:Int)+1)=((i+1:Nat):Int):=by rw[Go.IntWalk.i64_in _ (by omega)];omega
   rw[e1]
   simp only[Int.toNat_natCast,e2,cond_true,hl.1.v,g4j hl,cond_false]
   exact ⟨⟨by omega,by omega,trivial⟩,hl.1,trivial,ih (i+1) (by omega)⟩
 exact main xs.length 0 (by omega)
theorem c8d {x y:D}:eV (uE (a4w x y))=uE (a4w x y):=by kernel_rfl
theorem g8h:G7 (.agg [.lit (.int .i64 0), .slice true 4 [], .slice true 3 []]) :=
 G7.mk (y:=.agg [.lit (.int .i64 0), .slice true 4 [], .slice true 3 []]) rfl ⟨Nat.zero_le _,Nat.zero_le _⟩ (by intro c hc;cases hc) (by intro c hc;cases hc)
theorem e5d {x y:D} (hx:D0 x) (hy:D0 y):D0 (uE (a4w x y)):=by
 refine D0.mk c8d ⟨⟨Nat.zero_le _,Nat.zero_le _⟩,Nat.zero_le _, ?_⟩ (by intro c hc;cases hc) (by intro c hc;cases hc) (by intro c hc;cases hc) g8h ?_
 ·show [x,y].length≤_
  simp
 ·intro a ha
  have ha:a∈ [x,y]:=ha
  simp only[List.mem_cons,List.not_mem_nil,or_false] at ha
  rcases ha with rfl|rfl
  ·exact hx
  ·exact hy
def f7g:List D→List D→Prop
 | [], []=>True
 | a::l,b::m=>(b=a∨∃z z',a= .slice true z []∧b= .slice true z' [])∧f7g l m
 | _,_=>False
theorem f7g.rep {w:World} {lim:Nat→Nat}:∀{l m:List D} {vs:List Value},f7g l m→E5 w lim l vs→E5 w lim m vs
 | [], [],_,_,h=>h
 | [],b::m,_,h,_=>h.elim
 | a::l, [],_,h,_=>h.elim
 | a::l,b::m,_,⟨h1,h2⟩, .cons h t=>by
  refine .cons ?_ (h2.rep t)
  rcases h1 with rfl|⟨z,z',rfl,rfl⟩
  ·exact h
  ·cases h;exact .nils
theorem e2r {l m:List D} (h:f7g l m):c5w (.agg l) (.agg m):=fun w lim v hr=>by
 cases hr with
 | agg h1 h2=>exact .agg (h.rep h1) h2
theorem d7d {x y:D}:c5w (a4w x y) (uE (a4w x y)) :=
 e2r ⟨.inl rfl, .inl rfl, .inr ⟨_,_,rfl,rfl⟩, .inl rfl, .inl rfl, .inl rfl, .inl rfl, .inr ⟨_,_,rfl,rfl⟩, .inl rfl, .inl rfl, .inr ⟨_,_,rfl,rfl⟩, .inl rfl, .inr ⟨_,_,rfl,rfl⟩, .inr ⟨_,_,rfl,rfl⟩, .inl rfl, .inl rfl,trivial⟩
theorem d7e {x y:D}:r6 (uE (a4w x y))=false:=by kernel_rfl
theorem e8t {x y:D} (hx:D0 x) (hy:D0 y) (h:E2 (uE (a4w x y))=0):E2 x=0∧E2 y=0∧lvE (uE (a4w x y))=lvE x++lvE y:=by
 obtain ⟨h1,h2,h3⟩:=c3k h c8d
 have key:∀c∈E3 (uE (a4w x y)) 15,D0 c→E2 c=0:=fun c hc hf=>by
  have e1:=a3e (uE (a4w x y))
  have e2:=a2j (f:=G1) (xs:=E3 (uE (a4w x y)) 15) hc
  have e3:=b4o (uE (a4w x y))
  have e4:=d8y (List.mem_map_of_mem (f:=Q6) hc)
  exact c5o hf.v (by omega) (by omega) ((a2g c8d h3).2 c hc)
 have hs:E3 (uE (a4w x y)) 15= [x,y]:=rfl
 refine ⟨key x (by rw[hs];simp) hx,key y (by rw[hs];simp) hy, ?_⟩
 rw[b9q,d7e,hs]
 simp
theorem k12:C2 B (T12.add 12 c12):=by
 refine C3 C4 c8i (fn:=Tryz.f12) (cd:=A7 Tryz.f12) (sp:=spL [(16,S12)]) (hn:=B1) Tryz.func12 (by kernel_rfl) (by kernel_rfl) (B8 (c:=.loop l12) (by kernel_rfl) h8i C8) fun ds r hp hr=>?_
 unfold c12 at hp hr
 simp only[] at hr hp
 split at hr
 ·rename_i x y
  cases hr
  obtain ⟨⟨fx,bx⟩,fy,bY⟩:=hp
  rw[show [x,y].map V.d= [V.d (eV x),V.d (eV y)] by rw[fx.v,fy.v];rfl]
  refine keep (w12 x y fun v=>v=_) ?_
  rw[fx.v,fy.v]
  have fb:=e5d fx fy
  have sb:=d7d (x:=x) (y:=y)
  have ob:=e8t fx fy
  generalize a4w x y=b at fb sb ob ⊢
  have nx:uE x=x:=fx.v
  have ny:uE y=y:=fy.v
  unfold G12
  rw[nx,ny]
  have e1:(E2 x !=E2 x)=false:=by simp
  have e2:(E2 y !=E2 y)=false:=by simp
  rw[e1,e2]
  refine ⟨fx,fun _=>fy,A4 (fun _=>⟨trivial,rfl⟩) (fun _=>⟨⟨fx,fun _ _ _ h=>h⟩,⟨fy,fun _ _ _ h=>h⟩,fx,fun _=>fy, ?_⟩)⟩
  refine ⟨⟨⟨⟨x,rfl⟩,⟨y,rfl⟩⟩,rfl,rfl,rfl,g7q fx bx⟩,⟨fb,sb⟩,A4 (fun g=>?_) (fun g=>?_)⟩
  ·refine ⟨fun _=>trivial, ?_⟩
   unfold lvL
   rw[g];rfl
  ·have g0:E2 (uE b)=0:=by simpa using g
   obtain ⟨cx,cy,hl⟩:=ob g0
   have lx:=b5k fx bx cx
   have ly:=b5k fy bY cy
   have h1:=b5j (y:=x) (Nat.lt_succ_self _)
   have h2:=(c3k cx fx.v).1
   have h3:=b5j (y:=y) (Nat.lt_succ_self _)
   have h4:=(c3k cy fy.v).1
   have h0:((0:Int) !=0)=false:=rfl
   unfold lvZ lvL
   rw[cx,cy,g0,h0,hl]
   simp only[cond_false]
   have la:∀a∈lvE x++lvE y,f8k a:=fun a ha=>by
    rcases List.mem_append.1 ha with h|h
    ·exact lx a h
    ·exact ly a h
   have ap:c3h (lvE x++lvE y):=⟨by rw[List.length_append];omega,fun a ha=>g6d (la a ha).f (la a ha).b⟩
   refine ⟨⟨(by trivial),(by trivial),(by trivial),by omega,by omega⟩, .inl ⟨rfl,rfl,ap,ap⟩, ?_⟩
   rw[d5h fun a ha=>(la a ha).c]
   exact ⟨trivial,(by trivial)⟩
 ·cases hr
end Go.Ev.R2
end
