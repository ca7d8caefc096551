/- What the proofs of the lexer's laws share, part 12 of 15. -/
import Derived.Test.YtnnhlphbfpnaaaaGreatDoorI11
import Derived.Test.YtnnhlphbfpnaaaaGreatDoorI10
set_option linter.unusedVariables false
set_option linter.unusedSimpArgs false
section
namespace Go.Ev.R2
open Go Go.Ev Go.Proofs
set_option maxRecDepth 100000
noncomputable def i2g:L4:=g9t.add 60 (b5i E0k a7p)
def h27:Nat→Option j5:=fun id=>match id with
 | 4=>some {ads:=[.cell [7] 1 5 1 [5001], .opt [7] 0 [7] 0] }
 | _=>none
theorem w27 (y:D) (p:V→Prop):(B6 (Cn T88) T88 (H7 i2g) 0 B8 h27 27 [V.d (eV y)] B3.empty fun v H=>p (B4 H v)) =
 (D1 (eV y)∧
 (bif F4 (eV y) !=0 then
 p (V.d (D.tup [zD (bA []),iD (F4 (eV y))])) else
 (True∧
 ((b5i E0k a7p).pre [V.ptr [0,0] 0,V.d (eV y)]
 [Box.cells 75 [V.opt [0,0] 0,V.ref [0,1],V.d (D.map Q6),A6 true],
 Box.arr true true 5 1 [] []]∧
 (f5t.pre [V.ptr [0,0] 0]
 [Box.cells 75 [V.opt [0,0] 0,V.ref [0,1],V.d (D.map Q6),A6 false],
 Box.arr true false 5 1 (D2 true [] (a7p (eV y))) []]∧
 p (V.d (D.tup [zD (b3h (D2 true [] (a7p (eV y)))),iD 0]))))))):=by kernel_rfl
noncomputable def T27:Tab:=T88.add 27 c28
theorem e3v {pre:D→D→Prop} {f:D→ByteArray} {y t:D} {fi nl:Bool} {xs:List D} (h1:pre t y) (h2:xs.length+1+(f y).size+1≤70368744177664):(b5i pre f).pre [.ptr [0,0] 0, .d y] [wB [0,1] t fi,buf nl xs]:=⟨h1,h2⟩
theorem g5e {y:D} (h:ETx y):E0k tK y:=⟨rfl,h⟩
theorem i6x {κ:Nat} (hk:H9 B (U60 κ)):OkS (Cn T88) 6 (.loop l85) (S85 κ):=by
 refine D0 fun M vals bs K h=>?_
 simp only[S85] at h
 split at h
 case h_2=>exact h.elim
 rename_i b z ys n i ks fs cs t fi nl0 xs0 nl xs
 obtain ⟨⟨rfl,rfl,rfl,rfl,rfl,⟨k,f,c,rfl,rfl,rfl⟩,hall,hr⟩,h⟩:=h
 refine e2n (vals:=fun i=>[.ptr [0,0] 0, .ptr [0,1] 0, .ptr [0,2] 0, .ptr [0,3] 0, .d (.slice b 16 ys),A3 ys.length,A3 i]) (bsO:=fun fi r=>[hB [0,4], .cells 104 (v14 k), .cells 102 (v10 f), .cells 33 (v16 c),wN [0,4] [5000] tK fi,W3 nl0 xs0,r]) (e:=0) (valsX:=[]) ys eD 1 (fun i fi nl xs hi hr hK=>?_) (fun fi nl xs hK=>?_) ys 0 fi nl xs rfl (by simp) hr h
 ·refine B5 (L8 B9 k88 hk) C0 A8 (hn:=B1) (adsI:=[]) (nsI:=xI [98,2]) (nsX:=xI [5000]) rfl rfl (keep (b85 κ k f c tK fi nl nl0 b xs xs0 ys ys.length i _) ?_)
  obtain ⟨e1,e2⟩:=c2i hi hall.1
  have hm:=hall.2 _ (D8 hi)
  have hnl:J6 fi nl (A4 (eD (ys.getD i .any)))=false:=by
   show J6 fi nl (a7p (ys.getD i .any))=false
   rw[b6k];exact b5v
  rw[hnl] at hK
  simp only[e1,Int.toNat_natCast,e2,cond_true]
  have hv:eV (ys.getD i .any)=ys.getD i .any:=hm.1.l.1.v
  have hpre:=e3v (pre:=ETk κ) (f:=a7p) (t:=tK) (fi:=fi) (nl:=nl) ⟨g5e hm.1,hm.2⟩ hr
  refine ⟨⟨by omega,hi,hv⟩, ?_,(by trivial), ?_⟩
  ·rw[hv];exact hpre
  ·rw[hv];exact hK
 ·refine B5 (L8 B9 k88 hk) C0 A8 (hn:=B1) (adsI:=[]) (nsI:=xI [98,2]) (nsX:=xI [5000]) rfl rfl (keep (b85 κ k f c tK fi nl nl0 b xs xs0 ys ys.length ys.length _) ?_)
  rw[c2h]
  exact ⟨(by trivial),hK⟩
theorem g5w {i:Nat} (h:1≤i∧i≤13):W85 i:=b6n (p:=W85) ⟨h3n,h3m,h3k,h3j,h3i,h3h,h3g,h3f,h3e,g6a,g5z,g5y,g5x⟩ h
theorem g6b {i:Nat} (h:1≤i∧i≤13):W60 i:=b6n (p:=W60) ⟨h3w,h3v,h3u,h3t,h3s,h3r,h3q,h3p,h3o,g6f,g6e,g6d,g6c⟩ h
theorem q85 {κ:Nat} (hk:H9 B (U60 κ)):H9 B (U85 κ):=by
 refine P9 hk fun vals bs c x y hp hf=>?_
 unfold g6m at hp hf
 simp only[] at hp hf
 split at hf
 case h_2=>cases hf
 rename_i ks fs cs t fi nl xs
 simp only[one,Option.some.injEq,Prod.mk.injEq] at hf
 obtain ⟨rfl,rfl,rfl⟩:=hf
 obtain ⟨⟨i,y,h1,rfl,rfl,rfl,rfl,hE,hd⟩,hr⟩:=hp
 refine F6 B9 k88 hk (fn:=Tryz.f85) (cd:=A7 Tryz.f85) (sp:=spL [(46,S85 κ)]) (hn:=h85) (k:=6) (ads:=adE) (ends:=eC7) Tryz.func85 (by kernel_rfl) (by kernel_rfl) (by kernel_rfl) (by kernel_rfl) (B7 (c:=.loop l85) (by kernel_rfl) (i6x hk) C8) rfl rfl (keep (g5w h1 κ y fi nl xs _) ?_)
 exact g8w h1 hE hd hr ⟨rfl,rfl⟩
theorem i6j {κ:Nat} (hk:H9 B (U60 κ)):H9 B (i2c κ):=by
 refine g4q (q85 hk) rfl fun vals bs c x y hp hf=>?_
 unfold g6k at hp hf
 simp only[] at hp hf
 split at hf
 case h_2=>cases hf
 rename_i t fi ks fs cs nl xs
 simp only[one,Option.some.injEq,Prod.mk.injEq] at hf
 obtain ⟨rfl,rfl,rfl⟩:=hf
 obtain ⟨hE,hr⟩:=hp
 have hE':=hE
 obtain ⟨i,y,h1,rfl,rfl,rfl,rfl,_,_⟩:=hE'
 obtain ⟨k,f,c,ek,ef,ec⟩:=e3x h1 y
 rw[ek,ef,ec] at hE ⊢
 rw[ec] at hr
 have hr:xs.length+L1 (wIt (yOf (v16 c)))+3≤70368744177664:=hr
 refine F6 B9 k88 (q85 hk) (fn:=Tryz.f84) (cd:=A7 Tryz.f84) (sp:=B8) (hn:=B1) (k:=6) (ads:=adW) (ends:=h6x) Tryz.func84 (by kernel_rfl) (by kernel_rfl) (by kernel_rfl) (by kernel_rfl) A8 rfl rfl (keep (i2r κ k f c tK fi nl xs _) ?_)
 have h1:(D2 fi xs a2f).length≤xs.length+1+1:=S8 fi xs a2f
 have h2:=u3 (wIt (yOf (v16 c))) true (J6 fi nl a2f) (D2 fi xs a2f)
 refine ⟨by show xs.length+1+1≤70368744177664;omega,⟨hE,by show _≤70368744177664;omega⟩,by show (E4 true (J6 fi nl a2f) (D2 fi xs a2f) (wIt (yOf (v16 c)))).2.length+1≤70368744177664;omega, ?_⟩
 rw[d3u]
 exact ⟨rfl,rfl⟩
theorem f5e (z:D):wIt z=a4t z++(A2 (A0 z 15)).map eD:=by
 have h1:∀r,C7 15 z++(C7 19 z++(C7 23 z++r))=C7 23 z++(C7 15 z++(C7 19 z++r)):=fun r=>by
  have:=congrArg (· ++ r) (e5y z);simpa [List.append_assoc] using this
 have h2:∀r,C7 27 z++(C7 31 z++r)=C7 31 z++(C7 27 z++r):=fun r=>by
  have:=congrArg (· ++ r) (d3z z);simpa [List.append_assoc] using this
 unfold wIt a4t
 simp only[List.append_assoc]
 rw[h1,h2]
theorem f3p (z:D):a7p z=G2 (wIt z):=by rw[b6k,f5e]
theorem q60:H9 B i2g:=e3u i6k dsz fun n hk t y fi nl xs hp hn hr=>by
 obtain ⟨rfl,hE⟩:=hp
 have hv:=hE.l.1.v
 obtain ⟨k0,k1⟩:=hE.l.2.1
 have k1:(kd y).toNat<14:=k1
 obtain ⟨i,hi⟩:∃i:Nat,kd y=i:=⟨(kd y).toNat,by omega⟩
 have h13:1≤i∧i≤13:=⟨by omega,by omega⟩
 have he:D.agg (eVk i y)=y:=by
  have:D.agg (eVk i y)=eV y:=by
   show D.agg (.lit (.int .i64 (i:Int))::_)=D.agg (.lit (.int .i64 (A1 (A0 y 0)))::_)
   rw[show A1 (A0 y 0)=(i:Int) from hi]
  rw[this,hv]
 rw[show ([V.ptr [0,0] 0, .d y]:List V)= [.ptr [0,0] 0, .d (.agg (eVk i y))] by rw[he]]
 refine F6 B9 k88 (i6j (κ:=n) hk) (fn:=Tryz.f60) (cd:=A7 Tryz.f60) (sp:=B8) (hn:=B1) (k:=2) (ads:=adW) (ends:=eW3 20) Tryz.func60 (by kernel_rfl) (by kernel_rfl) (by kernel_rfl) (by kernel_rfl) A8 rfl rfl (keep (g6b h13 n y fi nl xs _) ?_)
 have hl:=Z5 (wIt y)
 rw[f3p] at hr ⊢
 refine ⟨by rw[he];exact hE.l.1,⟨⟨i,y,h13,rfl,rfl,rfl,rfl,by rw[he];exact hE,by rw[he];omega⟩,by show xs.length+L1 (wIt (.agg (eVk i y)))+3≤_;rw[he];omega⟩,rfl, ?_⟩
 rw[he]
 rfl
theorem d9o (s:ByteArray):c5t (D9 s):=fun d hd=>by
 unfold D9 at hd
 obtain ⟨c,_,rfl⟩:=List.mem_map.1 hd
 have:=c.toNat_lt
 simp[a7q];omega
theorem d7p (s:ByteArray):b3h (D9 s)=s:=by
 unfold b3h D9
 rw[List.map_map]
 have:(s.data.toList.map ((fun d=>UInt8.ofNat (A1 d).toNat) ∘ fun c=>D.lit (.int .u8 (c.toNat:Nat))))=s.data.toList:=by
  conv=>rhs;rw[←List.map_id s.data.toList]
  exact List.map_congr_left fun c _=>by simp[A1]
 rw[this]
theorem k27:C3 B T27:=by
 refine b3f B9 k88 q60 (fn:=Tryz.f27) (cd:=A7 Tryz.f27) (sp:=B8) (hn:=h27) Tryz.func27 (by kernel_rfl) (by kernel_rfl) A8 fun ds r hp hr=>?_
 unfold c28 at hp hr
 simp only[] at hr hp
 split at hr
 ·rename_i y
  cases hr
  rw[X9 hp.f.v]
  refine keep (w27 y fun v=>v=_) ?_
  rw[hp.f.v]
  unfold prS
  refine ⟨hp.f,A5 (fun g=>?_) (fun g=>?_)⟩
  ·simp only[g,cond_true]
  ·have g0:F4 y=0:=by simpa using g
   have hE:=hp.t g0
   have hlen:=g5d hE (Nat.lt_succ_self _)
   have:H4 y*68719476736≤100*68719476736:=Nat.mul_le_mul_right _ hE.l.2.2.1
   have hb:D2 true [] (a7p y)=D9 (a7p y):=by simp[D2]
   simp only[g0]
   refine ⟨(by trivial),e3v (g5e hE) ?_, ?_, ?_⟩
   ·simp only[List.length_nil];omega
   ·rw[hb]
    refine ⟨d9o _,fun e=>?_⟩
    have h1:=v7 (a7p y)
    have h2:=Z5 (wIt y)
    rw[←f3p] at h2
    rw[e] at h1;simp at h1;omega
   ·rw[hb,d7p];rfl
 ·cases hr
end Go.Ev.R2
end
section
namespace Go.Ev.R2
open Go Go.Ev Go.Proofs
def h3a (c:UInt8):Prop:=c≠32∧c≠34∧c≠40∧c≠41
def i9u (c:UInt8):List UInt8:=if c=92 then [92,92] else if c=34 then [92,34] else if c=10 then [92,110] else [c]
def h4c (xs:List (List UInt8)):List UInt8:=(xs.map fun x=>32::x).flatten
def g8o:List (List UInt8)→List UInt8
 | []=>[]
 | x::r=>x++h4c r
inductive Tok:List UInt8→Prop
 | w {s:List UInt8}:s≠ []→(∀c∈s,h3a c)→Tok s
 | q (s:List UInt8):Tok (34::((s.map i9u).flatten++ [34]))
 | l {xs:List (List UInt8)}:(∀x∈xs,Tok x)→Tok (40::(g8o xs++ [41]))
abbrev byt (s:ByteArray):List UInt8:=s.data.toList
abbrev h4d (y:D):List UInt8:=byt (A4 y)
def d9x (l:List D):Prop:=∀y∈l,Tok (h4d y)
end Go.Ev.R2
end
section
namespace Go.Ev.R2
open Go Go.Ev Go.Proofs
set_option maxRecDepth 100000
theorem d7w {β:Type} {f:Nat→Option β} {len:Nat} (h:C1 f len=none):∀j,j<len→f j=none:=by
 have key:∀n i,rounds (fun i _=>S6 (f i)) n i ()= .inl ()→∀j,i≤j→j<i+n→f j=none:=by
  intro n
  induction n with
  | zero=>intro i _ j h1 h2;omega
  | succ n ih =>
   intro i hr j h1 h2
   unfold rounds at hr
   cases hf:f i with
   | some e=>simp only[hf,S6] at hr;cases hr
   | none =>
    simp only[hf,S6] at hr
    by_cases hj:j=i
    ·subst hj;exact hf
    ·exact ih (i+1) hr j (by omega) (by omega)
 unfold C1 at h
 cases hr:rounds (fun i _=>S6 (f i)) len 0 () with
 | inr b=>rw[hr] at h;cases h
 | inl u=>exact fun j hj=>key _ 0 hr j (by omega) (by omega)
theorem d7v {β:Type} {f:Nat→Option β} {len:Nat} {e:β} (h:C1 f len=some e):∃j,f j=some e:=by
 have key:∀n i,rounds (fun i _=>S6 (f i)) n i ()= .inr e→∃j,f j=some e:=by
  intro n
  induction n with
  | zero=>intro i h;cases h
  | succ n ih =>
   intro i hr
   unfold rounds at hr
   cases hf:f i with
   | none=>simp only[hf,S6] at hr;exact ih _ hr
   | some x=>simp only[hf,S6] at hr;cases hr;exact ⟨i,hf⟩
 unfold C1 at h
 cases hr:rounds (fun i _=>S6 (f i)) len 0 () with
 | inr b=>rw[hr] at h;cases h;exact key _ _ hr
 | inl u=>rw[hr] at h;cases h
theorem b2u {s:ByteArray} (h:H8 s=true):s.size≤60:=by
 unfold H8 at h
 simp only[Bool.and_eq_true,decide_eq_true_eq] at h
 exact h.1.1.2
theorem e9c {s:ByteArray} (h:a6g s=0):s.size≤200:=by
 unfold a6g at h
 have:=(K8 (by decide) h).1
 simp at this;omega
theorem d5e {xs:List D} {a:D} (h:a∈xs):∃j,j<xs.length∧xs.getD j .any=a:=by
 obtain ⟨j,hj,rfl⟩:=List.getElem_of_mem h
 exact ⟨j,hj,by rw[List.getD_eq_getElem?_getD,List.getElem?_eq_getElem hj];rfl⟩
theorem f7f {y:D} (hf:w3 y) (h:p6 y=0):MTx y:=by
 unfold p6 at h
 obtain ⟨h1,h⟩:=K8 (by decide) h
 obtain ⟨h2,h⟩:=K8 (by decide) h
 obtain ⟨a,b⟩:=a9r h1
 have a:=of_decide_eq_false a
 have b:=of_decide_eq_false b
 have hn:H8 (A4 (A0 y 1))=true:=by
  rw[←a6v];simpa using h2
 have:=b2u hn
 refine ⟨hf,by omega,by show (A1 (A0 y 0)).toNat<7;omega,by omega, ?_⟩
 cases hc:(bif A1 (A0 y 0)==3 then true else A1 (A0 y 0)==4) with
 | true=>rw[hc] at h;simp only[cond_true] at h;have:=e9c h;omega
 | false =>
  rw[hc] at h
  simp only[cond_false] at h
  have h3:=of_decide_eq_false (K8 (by decide) h).1
  omega
theorem b8i {xs:List D} (hf:∀y∈xs,w3 y) (h:G1 xs=0):b2m xs:=by
 unfold G1 at h
 obtain ⟨h1,h⟩:=K8 (by decide) h
 have h1:=of_decide_eq_false h1
 refine ⟨by omega,fun y hy=>f7f (hf y hy) ?_⟩
 cases hs:C1 (C9 p6 xs) xs.length with
 | none=>exact a5j hs y hy
 | some e=>rw[hs] at h;exact absurd h (a7n hs)
theorem d4f {xs:List D} {sp:Bool} (hf:∀y∈xs,a3a y) (h:P4 xs sp=0):d7n xs:=by
 unfold P4 at h
 obtain ⟨h1,h⟩:=K8 (by decide) h
 have h1:=of_decide_eq_false h1
 refine ⟨by omega,fun y hy=>⟨hf y hy, ?_⟩⟩
 cases hs:C1 (P0 sp xs) xs.length with
 | none =>
  obtain ⟨j,hj,rfl⟩:=d5e hy
  have hn:=d7w hs j hj
  unfold P0 at hn
  cases hb:H8 (A4 (xs.getD j .any)) with
  | true=>have:=b2u hb;omega
  | false=>rw[hb] at hn;cases hn
 | some e =>
  rw[hs] at h
  obtain ⟨j,hj⟩:=d7v hs
  unfold P0 at hj
  have h:e=0:=h
  subst h
  revert hj
  cases (bif !H8 (A4 (xs.getD j .any)) then true else bif (bif sp then !eqS (A4 (xs.getD j .any)) (ByteArray.mk #[110,97,109,101]) else false) then !eqS (A4 (xs.getD j .any)) (ByteArray.mk #[115,101,114,118,105,99,101]) else false)<;>cases (bif decide ((j:Int)>0) then leS (A4 (xs.getD j .any)) (A4 (xs.getD (j-1) .any)) else false)<;>simp
theorem b6j {s t:ByteArray} (h:(s.toList==t.toList)=true):s.size=t.size:=by
 have h:s.toList=t.toList:=by simpa using h
 rw[ByteArray.toList_eq,ByteArray.toList_eq] at h
 exact congrArg List.length h
theorem b4n {s:ByteArray} (h:(s.toList==(ByteArray.mk #[]).toList)=true):s.size=0:=b6j h
theorem e8r {y:D} (hf:a2a y) (h:W0 y=0):STx y:=by
 unfold W0 at h
 obtain ⟨h1,h⟩:=K8 (by decide) h
 obtain ⟨a,b⟩:=a9r h1
 have a:=of_decide_eq_false a
 have b:=of_decide_eq_false b
 obtain ⟨h2,h⟩:=K8 (by decide) h
 obtain ⟨h3,h4⟩:=a9r h2
 obtain ⟨h5,h6⟩:=a9r h3
 have hk:(A1 (A0 y 0)).toNat<J5.length:=by show _<9;omega
 have nm:(A2 (A0 y 2)).length≠0→A1 (A0 y 0)=5:=fun hn=>by
  have:decide ((↑(A2 (A0 y 2)).length:Int)>0)=true:=by simp;omega
  rw[this] at h6
  simpa using h6
 have nn:(A2 (A0 y 3)).length≠0→A1 (A0 y 0)≥6:=fun hn=>by
  have:decide ((↑(A2 (A0 y 3)).length:Int)>0)=true:=by simp;omega
  rw[this] at h4
  simpa using h4
 have nx:(A4 (A0 y 1)).size≠0→A1 (A0 y 0)≤3:=fun hn=>by
  cases he:(A4 (A0 y 1)).toList==(ByteArray.mk #[]).toList with
  | true=>exact absurd (b4n he) hn
  | false =>
   rw[he] at h5
   simpa using h5
 have e2:A1 (A0 y 0)≠5→b2m (A2 (A0 y 2)):=fun hn=>by
  have:(A2 (A0 y 2)).length=0:=Classical.byContradiction fun hc=>hn (nm hc)
  rw[List.eq_nil_of_length_eq_zero this]
  exact ⟨by simp,fun y hy=>by simp at hy⟩
 have e3:¬A1 (A0 y 0)≥6→d7n (A2 (A0 y 3)):=fun hn=>by
  have:(A2 (A0 y 3)).length=0:=Classical.byContradiction fun hc=>hn (nn hc)
  rw[List.eq_nil_of_length_eq_zero this]
  exact ⟨by simp,fun y hy=>by simp at hy⟩
 have e1:¬A1 (A0 y 0)≤3→(A4 (A0 y 1)).size≤4096:=fun hn=>by
  have:(A4 (A0 y 1)).size=0:=Classical.byContradiction fun hc=>hn (nx hc)
  omega
 refine ⟨hf,by omega,hk, ?_⟩
 have hcase:A1 (A0 y 0)=1∨A1 (A0 y 0)=2∨A1 (A0 y 0)=3∨A1 (A0 y 0)=4∨A1 (A0 y 0)=5∨(A1 (A0 y 0)≥6∧(A1 (A0 y 0)==1)=false∧(A1 (A0 y 0)==2)=false∧(A1 (A0 y 0)==3)=false∧(A1 (A0 y 0)==5)=false):=by
  by_cases h6:A1 (A0 y 0)≥6
  ·right;right;right;right;right
   refine ⟨h6, ?_, ?_, ?_, ?_⟩<;>(simp;omega)
  ·omega
 rcases hcase with hk|hk|hk|hk|hk|⟨hk,g1,g2,g3,g5⟩
 ·rw[hk] at h
  simp only[Int.reduceBEq,cond_true,cond_false] at h
  have:=of_decide_eq_false (K8 (by decide) (K8 (by decide) h).2).1
  exact ⟨by omega,e2 (by omega),e3 (by omega)⟩
 ·rw[hk] at h
  simp only[Int.reduceBEq,cond_true,cond_false] at h
  have:=of_decide_eq_false (K8 (by decide) (K8 (by decide) h).2).1
  exact ⟨by omega,e2 (by omega),e3 (by omega)⟩
 ·rw[hk] at h
  simp only[Int.reduceBEq,cond_true,cond_false] at h
  have:=e9c h
  exact ⟨by omega,e2 (by omega),e3 (by omega)⟩
 ·exact ⟨e1 (by omega),e2 (by omega),e3 (by omega)⟩
 ·rw[hk] at h
  simp only[Int.reduceBEq,cond_true,cond_false] at h
  exact ⟨e1 (by omega),b8i hf.m h,e3 (by omega)⟩
 ·rw[g1,g2,g3,g5] at h
  simp only[cond_false] at h
  exact ⟨e1 (by omega),e2 (by omega),d4f hf.n h⟩
theorem e5m {xs:List D} (hf:∀y∈xs,a2a y) (h:V4 xs=0):b9d xs:=by
 unfold V4 at h
 obtain ⟨h1,h⟩:=K8 (by decide) h
 have h1:=of_decide_eq_false h1
 refine ⟨by omega,fun y hy=>e8r (hf y hy) ?_⟩
 cases hs:C1 (C9 W0 xs) xs.length with
 | none=>exact a5j hs y hy
 | some e=>rw[hs] at h;exact absurd h (a7n hs)
theorem g9i {c:Bool} {a k:Int} (hk:k≠0) (h:(bif c then a else k)=0):c=true∧a=0:=by
 cases c with
 | true=>exact ⟨rfl,h⟩
 | false=>exact absurd h hk
theorem d8h {s:ByteArray} (h:K0 s=true):s.size≤8:=by
 unfold K0 eqS at h
 rcases Bool.or_eq_true _ _ |>.mp h with h|h
 ·have:=b6j h;rw[this];decide
 ·have:=b6j h;rw[this];decide
theorem f8y {y:D} (hf:a3m y) (h:P1 y=0):CTx y:=by
 unfold P1 at h
 cases hn:K0 (A4 (A0 y 0)) with
 | true =>
  rw[hn] at h
  simp only[cond_true] at h
  obtain ⟨h1,h⟩:=K8 (by decide) h
  obtain ⟨h2,h⟩:=K8 (by decide) h
  obtain ⟨h3,h⟩:=K8 (by decide) h
  obtain ⟨a,b⟩:=a9r h3
  have a:=of_decide_eq_false a
  have b:=of_decide_eq_false b
  have h2:=b4n (s:=A4 (A0 y 2)) (by simpa using h2)
  have ho:A1 (A0 y 1)=1∨A1 (A0 y 1)=2∨A1 (A0 y 1)=5∨A1 (A0 y 1)=6:=Classical.byContradiction fun hc=>by
   have a1:(A1 (A0 y 1) !=1)=true:=by simp;omega
   have a2:(A1 (A0 y 1) !=2)=true:=by simp;omega
   have a3:(A1 (A0 y 1) !=5)=true:=by simp;omega
   have a4:(A1 (A0 y 1) !=6)=true:=by simp;omega
   rw[a1,a2,a3,a4] at h1
   cases h1
  have:=d8h hn
  exact ⟨hf,by omega,by show (A1 (A0 y 1)).toNat<7;omega,by omega,by omega,fun _=>⟨by omega,by omega⟩⟩
 | false =>
  rw[hn] at h
  simp only[cond_false] at h
  obtain ⟨h1,h⟩:=g9i (by decide) h
  obtain ⟨h2,h⟩:=K8 (by decide) h
  obtain ⟨h3,h⟩:=K8 (by decide) h
  obtain ⟨a,b⟩:=a9r h2
  have a:=of_decide_eq_false a
  have b:=of_decide_eq_false b
  have hfl:(A4 (A0 y 0)).size≤65:=by
   cases g1:(A4 (A0 y 0)).toList==(ByteArray.mk #[115,101,114,118,105,99,101]).toList with
   | true=>have:=b6j g1;rw[this];decide
   | false =>
    cases g2:(A4 (A0 y 0)).toList==(ByteArray.mk #[110,97,109,101]).toList with
    | true=>have:=b6j g2;rw[this];decide
    | false =>
     rw[g1,g2] at h1
     simp only[cond_false] at h1
     cases g3:P6 (A4 (A0 y 0)) (ByteArray.mk (Array.mk [97,116,116,114,46])) with
     | false=>rw[g3] at h1;cases h1
     | true =>
      rw[g3] at h1
      simp only[cond_true] at h1
      have:=b2u h1
      rw[ByteArray.size_extract] at this
      omega
  have ht:(A4 (A0 y 2)).size≤200:=by
   cases g:decide (A1 (A0 y 1)≥3) with
   | true=>rw[g] at h;simp only[cond_true] at h;exact e9c h
   | false =>
    rw[g] at h
    simp only[cond_false] at h
    have:=of_decide_eq_false (K8 (by decide) h).1
    omega
  exact ⟨hf,by omega,by show (A1 (A0 y 1)).toNat<7;omega,by omega,by omega,fun hc=>by rw[hn] at hc;cases hc⟩
theorem e5w {y:D} (h:f0 y=0):(1≤A1 (A0 y 0)∧A1 (A0 y 0)≤9)∧(A2 (A0 y 1)).length≤16∧(∀c∈A2 (A0 y 1),P1 c=0)∧∀a∈E6 y 2,f0 a=0:=by
 rw[c8q] at h
 unfold c8p at h
 obtain ⟨h1,h⟩:=K8 (by decide) h
 obtain ⟨a,b⟩:=a9r h1
 have a:=of_decide_eq_false a
 have b:=of_decide_eq_false b
 refine ⟨⟨by omega,by omega⟩, ?_⟩
 have fin:∀{c1 c2:Bool} {z:Int},z=0→z=(bif c1 then 1 else bif c2 then 4 else (match C1 (C9 P1 (A2 (A0 y 1))) (A2 (A0 y 1)).length with|some y1=>y1|none=>(match C1 (C9 f0 (A2 (A0 y 2))) (A2 (A0 y 2)).length with|some y0=>y0|none=>0)))→c2=false∧(∀c∈A2 (A0 y 1),P1 c=0)∧∀a∈E6 y 2,f0 a=0:=by
  intro c1 c2 z hz he
  subst hz
  obtain ⟨_,h⟩:=K8 (by decide) he.symm
  obtain ⟨g,h⟩:=K8 (by decide) h
  refine ⟨g, ?_⟩
  cases hs:C1 (C9 P1 (A2 (A0 y 1))) (A2 (A0 y 1)).length with
  | some e=>rw[hs] at h;exact absurd h (a7n hs)
  | none =>
   rw[hs] at h
   cases ht:C1 (C9 f0 (A2 (A0 y 2))) (A2 (A0 y 2)).length with
   | some e=>rw[ht] at h;exact absurd h (a7n ht)
   | none=>exact ⟨a5j hs,a5j ht⟩
 have main:decide ((↑(A2 (A0 y 1)).length:Int)>16)=false∧(∀c∈A2 (A0 y 1),P1 c=0)∧∀a∈E6 y 2,f0 a=0:=by
  cases g1:A1 (A0 y 0)==1 with
  | true=>rw[g1] at h;exact fin h rfl
  | false =>
   cases g2:A1 (A0 y 0)==9 with
   | true=>rw[g1,g2] at h;exact fin h rfl
   | false=>rw[g1,g2] at h;exact fin h rfl
 have:=of_decide_eq_false main.1
 exact ⟨by omega,main.2⟩
theorem e9q:∀(n:Nat) {y:D},J1 y→f0 y=0→N6 y≤100→h2r n y
 | 0,_,_,_,_=>trivial
 | n+1,y,hf,h,ht=>by
  obtain ⟨⟨h1,h2⟩,h3,h4,h5⟩:=e5w h
  refine ⟨⟨hf,by omega,by show (A1 (A0 y 0)).toNat<10;omega,⟨by omega,fun c hc=>f8y (hf.c c hc) (h4 c hc)⟩,ht⟩,fun a ha=>e9q n (hf.a a ha) (h5 a ha) ?_⟩
  have:=a2e y
  have:=a4k (f:=N6) (xs:=E6 y 2) ha
  omega
theorem f6h {y:D} (hf:J1 y) (h:P3 y=0):PTx y:=by
 unfold P3 at h
 rw[hf.v] at h
 obtain ⟨h1,h⟩:=K8 (by decide) h
 obtain ⟨h2,h⟩:=K8 (by decide) h
 have h1:=of_decide_eq_false h1
 unfold cap at h1
 exact ⟨fun n=>e9q n hf h (by omega)⟩
theorem f3v {c:Bool} {z r:Int} (h:(bif ab c (z !=0) then z else r)=0):(c=true→z=0)∧r=0:=by
 cases c with
 | false=>exact ⟨(fun h=>by cases h),h⟩
 | true =>
  cases hz:z !=0 with
  | true=>simp only[ab,hz,cond_true] at h;subst h;cases hz
  | false=>simp only[ab,hz,cond_true,cond_false] at h;exact ⟨fun _=>by simpa using hz,h⟩
theorem d2h {z r:Int} (h:(bif z !=0 then z else r)=0):z=0∧r=0:=by
 cases hz:z !=0 with
 | true=>rw[hz] at h;simp only[cond_true] at h;subst h;cases hz
 | false=>rw[hz] at h;exact ⟨by simpa using hz,h⟩
theorem h9z {a b:Bool} (h:ab a b=false) (ha:a=true):b=false:=by subst ha;exact h
theorem f5m {y:D} (h:b4y y=0):(A4 (A0 y 14)).size≤60:=by
 unfold b4y at h
 cases g1:A1 (A0 y 0)==5 with
 | true=>rw[g1] at h;simp only[cond_true] at h;have:=of_decide_eq_false (K8 (by decide) h).1;omega
 | false =>
  rw[g1] at h
  simp only[cond_false] at h
  cases g2:A1 (A0 y 0)==13 with
  | true=>rw[g2] at h;simp only[cond_true] at h;have:=of_decide_eq_false (a9r (K8 (by decide) h).1).2;omega
  | false =>
   rw[g2] at h
   simp only[cond_false] at h
   have:=(K8 (by decide) h).1
   exact b2u (by simpa using this)
theorem f8n {y:D} (hf:D1 y) (h:a4r y=0):(1≤kd y∧(kd y).toNat<U5.length)∧(A4 (A0 y 14)).size≤4096∧∀i,G4 i y=true→a4o i y:=by
 rw[d5k,hf.v] at h
 unfold c5o at h
 obtain ⟨h1,h⟩:=K8 (by decide) h
 obtain ⟨h2,h⟩:=K8 (by decide) h
 obtain ⟨h3,h⟩:=K8 (by decide) h
 obtain ⟨h4,h⟩:=f3v h
 obtain ⟨h5,h⟩:=K8 (by decide) h
 have hgN:=f3b h2
 obtain ⟨hnum,h⟩:(gN (A1 (A0 y 0)) (A1 (A0 y 1))=true→Q5 y=0)∧c2w (A1 (A0 y 0)) (A1 (A0 y 1)) y=0:=by
  cases g:gN (A1 (A0 y 0)) (A1 (A0 y 1)) with
  | true=>rw[g] at h;exact ⟨fun _=>(d2h h).1,(d2h h).2⟩
  | false=>rw[g] at h;exact ⟨(fun h=>by cases h),h⟩
 unfold c2w at h
 obtain ⟨h6,h⟩:=d2h h
 obtain ⟨h7,h⟩:=K8 (by decide) h
 obtain ⟨h8,h⟩:=d2h h
 obtain ⟨h9,h⟩:=f3v h
 obtain ⟨a,b⟩:=a9r h1
 have a:=of_decide_eq_false a
 have b:=of_decide_eq_false b
 obtain ⟨m0,m1⟩:=a9r h7
 have m0:=of_decide_eq_false m0
 have m1:=of_decide_eq_false m1
 have htx:(A4 (A0 y 14)).size≤4096:=by
  cases g:gT (A1 (A0 y 0)) (A1 (A0 y 1)) with
  | true=>rw[g] at h;have:=f5m h;omega
  | false =>
   unfold d2p at h3
   have h3:=(a9r h3).1
   simp only[Bool.not_eq_false',Bool.and_eq_true] at h3
   have h33:=h3.2.2.2.1
   rw[g] at h33
   have:J7 y 3=false:=by
    cases gp:J7 y 3 with
    | false=>rfl
    | true=>rw[gp] at h33;cases h33
   have he:=b4n (s:=A4 (A0 y 14)) (by
    have h0:(!(A4 (A0 y 14)).toList==(ByteArray.mk #[]).toList)=false:=this
    simpa using h0)
   omega
 refine ⟨⟨by show 1≤A1 (A0 y 0);omega,by show (A1 (A0 y 0)).toNat<14;omega⟩,htx,fun i hc=>?_⟩
 unfold a4o
 split
 ·have hc:decide (((Y4 (kd y)).length:Int)>0)=true:=hc
  obtain ⟨l1,l2⟩:=b2y (A1 (A0 y 0))
  have g:hF (A1 (A0 y 0))=true:=by rw[←l1];exact hc
  have hl:=l2 g
  obtain ⟨c1,c2⟩:=a9r (h9z h2 g)
  have c1:=of_decide_eq_false c1
  have c2:=of_decide_eq_false c2
  show 1≤A1 (A0 y 1)∧(A1 (A0 y 1)).toNat<(Y4 (A1 (A0 y 0))).length
  exact ⟨by omega,by omega⟩
 ·show _∧(A1 (A0 y 9)).toNat<3;exact ⟨by omega,by omega⟩
 ·exact f6h hf.p (h9 hc)
 ·exact b8i hf.m (h4 hc)
 ·exact e5m hf.s h8
 ·obtain ⟨c1,c2⟩:=a9r (h9z h5 hc)
  obtain ⟨c1,c3⟩:=a9r c1
  obtain ⟨c1,c4⟩:=a9r c1
  have c1:=of_decide_eq_false c1
  have c2:=of_decide_eq_false c2
  have c3:=of_decide_eq_false c3
  have c4:=of_decide_eq_false c4
  exact ⟨⟨by omega,by omega⟩,by omega,by omega⟩
 ·exact ⟨hf,d4f hf.n h6⟩
 ·have hn:=hnum (by rw[hgN];exact hc)
  unfold Q5 at hn
  simpa using (K8 (by decide) hn).1
 ·trivial
 ·exact htx
theorem g5b:∀(n:Nat) {y:D},D1 y→K5 y=0→H4 y≤100→h2u n y
 | 0,_,_,_,_=>trivial
 | n+1,y,hf,h,ht=>by
  obtain ⟨h1,h2⟩:=a7h hf.v h
  obtain ⟨e1,e2,e3⟩:=f8n hf h1
  refine ⟨⟨hf,e1,ht,e2,e3⟩,fun a ha=>g5b n (hf.a a ha) (h2 a ha) ?_⟩
  have:=t6 y
  have:=a4k (f:=H4) (xs:=E6 y 15) ha
  omega
theorem g9a {y:D} (hf:D1 y) (h:F4 y=0):ETx y:=by
 obtain ⟨h1,_,h3⟩:=e6q h hf.v
 exact ⟨fun n=>g5b n hf h3 h1⟩
theorem e3b {y:D} (hf:D1 y) (hb:Bd y):a8r y:=⟨hf,hb,g9a hf⟩
end Go.Ev.R2
end
section
namespace Go.Ev.R2
open Go Go.Ev Go.Proofs
theorem d9x.app {l m:List D} (h:d9x l) (h':d9x m):d9x (l++m):=fun y hy=>by
 rcases List.mem_append.1 hy with h1|h1
 ·exact h y h1
 ·exact h' y h1
theorem d9x.cons {y:D} {l:List D} (h:Tok (h4d y)) (h':d9x l):d9x (y::l):=fun z hz=>by
 rcases List.mem_cons.1 hz with rfl|hz
 ·exact h
 ·exact h' z hz
end Go.Ev.R2
end
section
namespace Go.Ev.R2
open Go Go.Ev Go.Proofs
end Go.Ev.R2
end
section
namespace Go.Ev.R2
open Go Go.Ev Go.Proofs
set_option maxRecDepth 100000
noncomputable def eqT (x y:D):Bool:=(prS x).toList==(prS y).toList
noncomputable def G32 (x y:D) (p:Bool→Prop):Prop:=a8r x∧(bif F4 x !=0 then p false else (a8r y∧p (bif F4 y==0 then eqT x y else false)))
theorem w32 (x y:D) (p:V→Prop):(B6 (Cn T27) T27 D5 0 B8 B1 32 [.d (eV x), .d (eV y)] B3.empty (fun v H=>p (B4 H v)))=G32 (eV x) (eV y) fun b=>p (.d (.lit (.bool b))):=by kernel_rfl
noncomputable def T32:Tab:=T27.add 32 e7y
noncomputable def c11:Ct:=⟨fun | [x,y]=>(D1 x∧Bd x)∧D1 y∧Bd y|_=>False,fun | [x,y]=>some (.lit (.bool true))|_=>none⟩
theorem k32:C3 B T32:=by
 refine C4 B9 k27 (fn:=Tryz.f32) (cd:=A7 Tryz.f32) (sp:=B8) (hn:=B1) Tryz.func32 (by kernel_rfl) (by kernel_rfl) A8 fun ds r hp hr=>?_
 unfold e7y at hp hr
 simp only[] at hr hp
 split at hr
 ·rename_i x y
  cases hr
  obtain ⟨hx,hy⟩:=hp
  rw[show [x,y].map V.d= [V.d (eV x),V.d (eV y)] by rw[hx.f.v,hy.f.v];rfl]
  refine keep (w32 x y fun v=>v=_) ?_
  rw[hx.f.v,hy.f.v]
  unfold G32
  have he:eqB x y=bif bif F4 x==0 then F4 y==0 else false then eqT x y else false:=rfl
  rw[he]
  refine ⟨hx,A5 (fun g=>?_) (fun g=>?_)⟩
  ·have h:(F4 x==0)=false:=by simpa using g
   rw[h];rfl
  ·have h:(F4 x==0)=true:=by simpa using g
   rw[h]
   exact ⟨hy,rfl⟩
 ·cases hr
def a2k (y:D):Bool:=bif decide (kd y≥2) then decide (kd y≤5) else false
noncomputable def lvS (rec:D→List D) (y:D):List D:=bif a2k y then [y] else ((E6 y 15).map rec).flatten
noncomputable def lvE (y:D):List D:=b4k lvS [] (dsz y+1) y
noncomputable def c64:Ct:=⟨fun | [x]=>D1 x∧H4 x≤100|_=>False,fun | [x]=>some (.slice false 16 (lvE x))|_=>none⟩
noncomputable def U64 (κ:Nat):Tab:=T31.add 64 (c64.below μ1 κ)
noncomputable def T64:Tab:=T31.add 64 c64
noncomputable def l64:Code:=D7 (C5 (A7 Tryz.f64) 10)
def h2w (κ:Nat) (xs:List D):Prop:=(xs.map H4).sum≤100∧∀y∈xs,(D1 y∧H4 y≤100)∧dsz y<κ
theorem b64 (κ:Nat) (y:D) (ts:List D) (i:Int) (R:X→List V→List Box→Prop):(E1 (Cn (U64 κ)) (U64 κ) D5 0 B8 B1 l64 32 [1,3,4] [[5000], [5001]] [] [([5000], [5000]),([5001], [32])] [3]
 [([5001], [5001])] [V.ptr [5000] 0,V.ref [5001],A3 i] [L0 y,Box.arr true false 33 16 ts []] R) =
 (bif decide (i<(↑(A2 (A0 y 15)).length:Int)) then
 ((((0:Int)≤i)∧(i.toNat<(A2 (A0 y 15)).length∧eV ((A2 (A0 y 15)).getD i.toNat D.any)=(A2 (A0 y 15)).getD i.toNat D.any))∧
 (((D1 (eV ((A2 (A0 y 15)).getD i.toNat D.any))∧H4 (eV ((A2 (A0 y 15)).getD i.toNat D.any))≤100)∧μ1 [eV ((A2 (A0 y 15)).getD i.toNat D.any)]<κ)∧
 (bif ((ts.length+((lvE (eV ((A2 (A0 y 15)).getD i.toNat D.any))).length+0))*232).ble 70368744177664 then
 (32=32∧
 R X.normal [V.ptr [5000] 0,V.ref [5001],A3 (IntKind.i64.wrap (i+1))]
 [L0 y,
 Box.arr true false 33 16 (ts++lvE (eV ((A2 (A0 y 15)).getD i.toNat D.any))) []]) else
 False))) else
 (32=32∧
 R (X.exit 0) [V.ref [5001]] [Box.arr true false 33 16 ts []])):=by kernel_rfl
noncomputable def S64 (κ:Nat):Ev.Spec:={L:=[1,3,4],ns:=[([5000],[3]),([5001],[17])],L':=[3],nm':=[[5001]],G:=fun N vals bs k=>match vals,bs with
 | [.ptr [5000] 0, .ref [5001], .d (.lit (.int .i64 i))], [.cells 33 cs, .arr true false 33 16 ts []]=>(N=32∧i=0∧ts= []∧IsE cs∧h2w κ (A2 (A0 (yOf cs) 15)))∧k (.exit 0) [.ref [5001]] [.arr true false 33 16 ((A2 (A0 (yOf cs) 15)).map lvE).flatten []]
 | _,_=>False }
theorem w64 (κ:Nat) (y:D) (p:V→Prop):(B6 (Cn (U64 κ)) (U64 κ) D5 0 (spL [(10,S64 κ)]) B1 64 [V.d (eV y)] B3.empty fun v H=>p (B4 H v)) =
 (bif bif decide (A1 (A0 y 0)≥2) then decide (A1 (A0 y 0)≤5) else false then
 p (V.d (D.slice false 16 [eV y])) else
 ((32=32∧(((0:Int)=0)∧(([]:List D)= []∧(IsE
 (J8 y)∧h2w κ (A2 (D.slice (E5 (A0 y 15)) 16 (A2 (A0 y 15))))))))∧
 p (V.d (D.slice false 16 (List.map lvE (A2 (D.slice (E5 (A0 y 15)) 16 (A2 (A0 y 15))))).flatten)))):=by kernel_rfl
theorem w30 (y:D) (p:V→Prop):(B6 (Cn T64) T64 D5 0 B8 B1 30 [V.d (eV y)] B3.empty fun v H=>p (B4 H v)) =
 ((D1 (eV y)∧Bd (eV y))∧
 (bif F4 (eV y) !=0 then
 p (V.d (D.tup [D.slice false 16 [],iD (F4 (eV y))])) else
 ((D1 (eV y)∧H4 (eV y)≤100)∧
 p (V.d (D.tup [D.slice false 16 (lvE (eV y)),iD 0]))))):=by kernel_rfl
noncomputable def c30:Ct:=⟨fun | [x]=>D1 x∧Bd x|_=>False,fun | [x]=>some (.tup [.slice false 16 (bif F4 x !=0 then [] else lvE x),u7 (F4 x)])|_=>none⟩
noncomputable def T30:Tab:=T64.add 30 c30
theorem e6n (r r':D→List D) (y:D) (h:∀a∈E6 y 15,r a=r' a):lvS r y=lvS r' y:=by
 unfold lvS
 rw[List.map_congr_left h]
theorem c9a (y:D):lvE y=bif a2k y then [y] else ((E6 y 15).map lvE).flatten:=e8 e6n y
theorem d8m:∀{l:List D},(∀a∈l,(lvE a).length≤H4 a)→((l.map lvE).flatten).length≤(l.map H4).sum
 | [],_=>by simp
 | x::r,h=>by
  have h1:=h x (by simp)
  have h2:=d8m (l:=r) fun a ha=>h a (List.mem_cons_of_mem _ ha)
  simp only[List.map_cons,List.flatten_cons,List.length_append,List.sum_cons]
  omega
theorem c8z:∀{n:Nat} {y:D},dsz y<n→(lvE y).length≤H4 y:=by
 intro n
 induction n with
 | zero=>intro y h;omega
 | succ n ih =>
  intro y hn
  have h1:=d8m (l:=E6 y 15) fun a ha=>ih (by have:=G6 ha;omega)
  have h2:=a4d y
  rw[c9a]
  cases a2k y
  ·simp only[cond_false];omega
  ·simp only[cond_true,List.length_cons,List.length_nil];omega
theorem e5g {xs:List D} {i:Nat} (h:i<xs.length):((xs.take i).map lvE).flatten++lvE (xs.getD i .any)=((xs.take (i+1)).map lvE).flatten:=by
 rw[List.take_add_one,List.map_append,List.flatten_append,List.getElem?_eq_getElem h,List.getD_eq_getElem?_getD,List.getElem?_eq_getElem h];simp
theorem e8o (xs:List D) (i:Nat):((xs.take i).map H4).sum≤(xs.map H4).sum:=by
 conv=>rhs;rw[←List.take_append_drop i xs]
 rw[List.map_append,List.sum_append];omega
theorem i7c {κ:Nat} (hk:C3 B (U64 κ)):OkS (Cn (U64 κ)) 0 (.loop l64) (S64 κ):=by
 refine D0 fun N vals bs K h=>?_
 simp only[S64] at h
 split at h
 case h_2=>exact h.elim
 rename_i i cs t0
 obtain ⟨⟨rfl,rfl,rfl,⟨y,rfl⟩,hn,hall⟩,h⟩:=h
 have hn:((A2 (A0 y 15)).map H4).sum≤100:=hn
 have hall:∀a∈A2 (A0 y 15),(D1 a∧H4 a≤100)∧dsz a<κ:=hall
 have h:K (.exit 0) [.ref [5001]] [.arr true false 33 16 ((A2 (A0 y 15)).map lvE).flatten []]:=h
 have hlen:=a4a (xs:=A2 (A0 y 15))
 have main:∀k i ts,i+k=(A2 (A0 y 15)).length→ts=(((A2 (A0 y 15)).take i).map lvE).flatten→J2 (Cn (U64 κ)) 0 l64 32 [1,3,4] [[5000],[5001]] [3] [[5001]] [.ptr [5000] 0, .ref [5001],A3 i] [L0 y, .arr true false 33 16 ts []] K:=by
  intro k
  induction k with
  | zero =>
   intro i ts hi hts
   rw[List.take_of_length_le (by omega)] at hts
   subst hts
   refine B5 (D3 B9 hk C2) C0 A8 (hn:=B1) (adsI:=[]) (nsI:=[([5000],[5000]),([5001],[32])]) (nsX:=[([5001],[5001])]) rfl rfl (keep (b64 κ y _ i _) ?_)
   rw[show decide ((i:Int)<((A2 (A0 y 15)).length:Int))=false by simp;omega]
   exact ⟨(by trivial),h⟩
  | succ k ih =>
   intro i ts hi hts
   refine B5 (D3 B9 hk C2) C0 A8 (hn:=B1) (adsI:=[]) (nsI:=[([5000],[5000]),([5001],[32])]) (nsX:=[([5001],[5001])]) rfl rfl (keep (b64 κ y ts i _) ?_)
   have e2:IntKind.i64.wrap ((i:Int)+1)=((i+1:Nat):Int):=by rw[Go.IntWalk.i64_in _ (by omega)];omega
   have hlt:i<(A2 (A0 y 15)).length:=by omega
   obtain ⟨⟨hf,ht⟩,hs⟩:=hall _ (D8 (xs:=A2 (A0 y 15)) (i:=i) hlt)
   have l1:ts.length≤100:=by
    rw[hts]
    have:=d8m (l:=(A2 (A0 y 15)).take i) fun a _=>c8z (Nat.lt_succ_self _)
    have:=e8o (A2 (A0 y 15)) i
    omega
   have l2:=c8z (y:=(A2 (A0 y 15)).getD i .any) (Nat.lt_succ_self _)
   have e3:((ts.length+((lvE ((A2 (A0 y 15)).getD i .any)).length+0))*232).ble 70368744177664=true:=by rw[Nat.ble_eq];omega
   have hnext:=ih (i+1) (ts++lvE ((A2 (A0 y 15)).getD i .any)) (by omega) (by rw[hts,e5g hlt])
   simp only[show decide ((i:Int)<((A2 (A0 y 15)).length:Int))=true by simp;omega,cond_true,Int.toNat_natCast,e2,hf.v,e3]
   exact ⟨⟨by omega,hlt,(by trivial)⟩,⟨⟨hf,ht⟩,hs⟩,(by trivial),hnext⟩
 exact main (A2 (A0 y 15)).length 0 [] (by omega) (by simp)
theorem k64:C3 B T64:=by
 refine S4 B9 k31 μ1 (fn:=Tryz.f64) (cd:=A7 Tryz.f64) (sp:=fun κ=>spL [(10,S64 κ)]) (hn:=B1) Tryz.func64 (by kernel_rfl) (by kernel_rfl) (fun κ hk=>B7 (c:=.loop l64) (by kernel_rfl) (i7c hk) C8) fun κ ds r hp hm hr=>?_
 unfold c64 at hp hr
 simp only[] at hr hp
 split at hr
 ·rename_i y
  cases hr
  obtain ⟨hf,ht⟩:=hp
  rw[X9 hf.v]
  refine keep (w64 κ y fun v=>v=_) ?_
  rw[hf.v]
  have h2:=a4d y
  have hL:h2w κ (A2 (A0 y 15)):=⟨by unfold E6 at h2;omega,fun a ha=>⟨⟨hf.a a ha,by
   have:=a4k (f:=H4) (xs:=E6 y 15) ha
   omega⟩,hm▸G6 ha⟩⟩
  rw[c9a]
  unfold a2k
  refine A5 (fun g=>?_) (fun g=>?_)
  ·have g':(bif decide (kd y≥2) then decide (kd y≤5) else false)=true:=g
   rw[g'];rfl
  ·have g':(bif decide (kd y≥2) then decide (kd y≤5) else false)=false:=g
   rw[g']
   exact ⟨⟨(by trivial),(by trivial),rfl,⟨y,rfl⟩,hL⟩,rfl⟩
 ·cases hr
theorem k30:C3 B T30:=by
 refine C4 B9 k64 (fn:=Tryz.f30) (cd:=A7 Tryz.f30) (sp:=B8) (hn:=B1) Tryz.func30 (by kernel_rfl) (by kernel_rfl) A8 fun ds r hp hr=>?_
 unfold c30 at hp hr
 simp only[] at hr hp
 split at hr
 ·rename_i y
  cases hr
  obtain ⟨hf,hb⟩:=hp
  rw[X9 hf.v]
  refine keep (w30 y fun v=>v=_) ?_
  rw[hf.v]
  refine ⟨⟨hf,hb⟩,A5 (fun g=>?_) (fun g=>?_)⟩
  ·simp only[g,cond_true]
  ·have g0:F4 y=0:=by simpa using g
   simp only[g0]
   exact ⟨⟨hf,(e6q g0 hf.v).1⟩,rfl⟩
 ·cases hr
abbrev a7f (nl:Bool) (ts:List D):Box:=.arr true nl 33 16 ts []
def L63 (y:D):Prop:=D1 y∧H4 y≤100∧K5 y=0
noncomputable def s63:Sm:=⟨fun vals bs=>match vals,bs with | [.d y,_], [.arr _ _ _ _ ts _]=>L63 y∧ts.length+H4 y≤200 | [.d y,_], []=>L63 y|_,_=>False,fun vals bs=>match vals,bs with
 | [.d y, .ref [0,0]], [.arr true nl 33 16 ts []]=>one (.ref [2]) [.junk] [a7f (nl&&(lvE y).isEmpty) (ts++lvE y)]
 | [.d y, .d (.slice true _ [])], []=>one (.ref [2]) [] [a7f (lvE y).isEmpty (lvE y)]
 | _,_=>none⟩
noncomputable def μ63:FuncId→List V→List Box→Nat:=fun _ vals _=>match vals with | .d y::_=>dsz y|_=>0
noncomputable def U63 (κ:Nat):L4:=a6s.addG (b7u [(63,s63)] μ63 κ)
noncomputable def l63:Code:=D7 (C5 (A7 Tryz.f63) 16)
abbrev n63 (k:Nat):List (B2×B2):=(List.range k).map fun i=>([0,i],[0,i])
def slf (y:D):List D:=bif a2k y then [y] else []
def d7j (k:Nat) (ns:List (B2×B2)):Ev.Spec:={L:=[1,2,9],ns:=([5002],[4])::ns,L':=[1,2],nm':=[[5002],[5000]]++G8 k,G:=fun N vals bs K=>match vals,bs with
 | [.ref [5000], .ptr [5002] 0, .d (.lit (.bool c))], .cells 33 cs:: .arr true nl 33 16 ts []::more=>(N=30∧more=List.replicate k .junk∧IsE cs∧c=a2k (yOf cs)∧ts.length≤200)∧K .normal [.ref [5000], .ptr [5002] 0] (.cells 33 cs::a7f (nl&&(slf (yOf cs)).isEmpty) (ts++slf (yOf cs))::more)
 | _,_=>False }
def h63:Nat→Option j5:=fun id=>match id with | 0=>some {ads:=[.slot 1 33 16 [5001]] }|_=>none
noncomputable def d7k (κ k:Nat):Ev.Spec:={L:=[1,19,20,21],ns:=([5000],[5000])::n63 k,L':=[1],nm':=[5000]::G8 k,G:=fun N vals bs K=>match vals,bs with
 | [.ref [5000], .d (.slice b z ys), .d (.lit (.int .i64 n)), .d (.lit (.int .i64 i))], .arr true nl 33 16 ts []::more=>(N=30∧z=16∧i=0∧n=ys.length∧more=List.replicate k .junk∧ts.length+(ys.map H4).sum≤200∧∀a∈ys,L63 a∧dsz a<κ)∧K (.exit 1) [.ref [5000]] (a7f (nl&&((ys.map lvE).flatten).isEmpty) (ts++(ys.map lvE).flatten)::more)
 | _,_=>False }
def f8g (k:Nat):Nat→Option j5:=fun id=>match id with | 6=>some {cut:=[([1,2],([5002],[5002])::([5000],[19])::n63 k)] }|_=>none
theorem i6t (κ:Nat) (y:D) (nl:Bool) (c:Bool) (ts:List D) (R:X→List V→List Box→Prop):(u4 (Cn T30) T30 (H7 (U63 κ)) 1 B8 (f8g 1) false (C5 (A7 Tryz.f63) 13) 30 [1,2,9]
 [[5002], [5000], [0,0]] [] [1,2] (([5002], [5002])::([5000], [5000])::n63 1)
 [V.ref [5000],V.ptr [5002] 0,A6 c] [L0 y,a7f nl ts,Box.junk] R) =
 (bif c then
 (bif ((ts.length+1)*232).ble 70368744177664 then
 (30=30∧
 R X.normal [V.ref [5000],V.ptr [5002] 0]
 [L0 y,
 Box.arr true (nl&&false) 33 16 (ts++ [eV y]) [],Box.junk]) else
 False) else
 (30=30∧
 R X.normal [V.ref [5000],V.ptr [5002] 0]
 [L0 y,
 Box.arr true nl 33 16 ts [],Box.junk])):=by kernel_rfl
theorem h8x (κ:Nat) (nl:Bool) (b:Bool) (ts:List D) (ys:List D) (n:Int) (i:Int) (R:X→List V→List Box→Prop):(E1 (Cn T30) T30 (H7 (U63 κ)) 1 B8 B1 l63 30 [1,19,20,21] [[5000], [0,0]] [] (([5000], [29,2])::n63 1)
 [1] (([5000], [5000])::n63 1) [V.ref [5000],V.d (D.slice b 16 ys),A3 n,A3 i] [a7f nl ts,Box.junk] R) =
 (bif decide (i<n) then
 ((((0:Int)≤i)∧(i.toNat<ys.length∧eV (ys.getD i.toNat D.any)=ys.getD i.toNat D.any))∧
 (((63,s63).snd.below (μ63 (63,s63).fst) κ).pre [V.d (eV (ys.getD i.toNat D.any)),V.ref [0,0]]
 [Box.arr true nl 33 16 ts []]∧
 (30=30∧
 R X.normal
 [V.ref [5000],V.d (D.slice b 16 ys),A3 n,
 A3 (IntKind.i64.wrap (i+1))]
 [Box.arr true (nl&&(lvE (eV (ys.getD i.toNat D.any))).isEmpty) 33 16 (ts++lvE (eV (ys.getD i.toNat D.any))) [],
 Box.junk]))) else
 (30=30∧
 R (X.exit 1) [V.ref [5000]] [Box.arr true nl 33 16 ts [],Box.junk])):=by kernel_rfl
noncomputable def G63 (κ k:Nat) (y:D) (nl:Bool) (ts:List D) (R:V→List Box→Prop) (c:Bool):Prop:=(30=30∧List.replicate k Box.junk=List.replicate k .junk∧IsE (J8 y)∧c=a2k (eV y)∧ts.length≤200)∧
 (30=30∧16=16∧(0:Int)=0∧((A2 (A0 y 15)).length:Int)=(A2 (A0 y 15)).length∧List.replicate k Box.junk=List.replicate k .junk∧(ts++slf (eV y)).length+((A2 (A0 y 15)).map H4).sum≤200∧∀a∈A2 (A0 y 15),L63 a∧dsz a<κ)∧
 R (.ref [2]) (List.replicate k .junk++ [a7f ((nl&&(slf (eV y)).isEmpty)&&((A2 (A0 y 15)).map lvE).flatten.isEmpty) (ts++slf (eV y)++((A2 (A0 y 15)).map lvE).flatten)])
def e3m (k:Int) (g:Bool→Prop):Prop:=bif k==2 then g true else bif k==3 then g true else bif k==4 then g true else g (k==5)
theorem i2x (κ:Nat) (y:D) (nl:Bool) (ts:List D) (R:V→List Box→Prop):F3 (Cn T30) T30 (H7 (U63 κ)) 1 (spL [(13,d7j 1 [([5000],[0,0])]),(16,d7k κ 1)]) B1 [] [[([0,0],[0,0]),([2],[5000])]] 63 [.d (eV y), .ref [0,0]] (H6 [a7f nl ts]) R=e3m (kd y) (G63 κ 1 y nl ts R):=by kernel_rfl
theorem i2w (κ:Nat) (y:D) (e:Nat) (R:V→List Box→Prop):F3 (Cn T30) T30 (H7 (U63 κ)) 0 (spL [(13,d7j 0 [([5000],[5001])]),(16,d7k κ 0)]) h63 [] [[([2],[5000])]] 63 [.d (eV y), .d (.slice true e [])] (H6 []) R=e3m (kd y) (G63 κ 0 y true [] R):=by kernel_rfl
theorem i6s (κ:Nat) (y:D) (nl:Bool) (c:Bool) (ts:List D) (R:X→List V→List Box→Prop):(u4 (Cn T30) T30 (H7 (U63 κ)) 0 B8 (f8g 0) false (C5 (A7 Tryz.f63) 13) 30 [1,2,9] [[5002], [5000]] []
 [1,2] (([5002], [5002])::([5000], [5000])::n63 0) [V.ref [5000],V.ptr [5002] 0,A6 c] [L0 y,a7f nl ts] R) =
 (bif c then
 (bif ((ts.length+1)*232).ble 70368744177664 then
 (30=30∧
 R X.normal [V.ref [5000],V.ptr [5002] 0]
 [L0 y,
 Box.arr true (nl&&false) 33 16 (ts++ [eV y]) []]) else
 False) else
 (30=30∧
 R X.normal [V.ref [5000],V.ptr [5002] 0]
 [L0 y,
 Box.arr true nl 33 16 ts []])):=by kernel_rfl
theorem h8w (κ:Nat) (nl:Bool) (b:Bool) (ts:List D) (ys:List D) (n:Int) (i:Int) (R:X→List V→List Box→Prop):(E1 (Cn T30) T30 (H7 (U63 κ)) 0 B8 B1 l63 30 [1,19,20,21] [[5000]] [] (([5000], [29,2])::n63 0) [1]
 (([5000], [5000])::n63 0) [V.ref [5000],V.d (D.slice b 16 ys),A3 n,A3 i] [a7f nl ts] R) =
 (bif decide (i<n) then
 ((((0:Int)≤i)∧(i.toNat<ys.length∧eV (ys.getD i.toNat D.any)=ys.getD i.toNat D.any))∧
 (((63,s63).snd.below (μ63 (63,s63).fst) κ).pre [V.d (eV (ys.getD i.toNat D.any)),V.ref [0,0]]
 [Box.arr true nl 33 16 ts []]∧
 (30=30∧
 R X.normal
 [V.ref [5000],V.d (D.slice b 16 ys),A3 n,
 A3 (IntKind.i64.wrap (i+1))]
 [Box.arr true (nl&&(lvE (eV (ys.getD i.toNat D.any))).isEmpty) 33 16 (ts++lvE (eV (ys.getD i.toNat D.any))) []]))) else
 (30=30∧
 R (X.exit 1) [V.ref [5000]] [Box.arr true nl 33 16 ts []])):=by kernel_rfl
noncomputable def i2f:L4:=a6s.addG [(63,s63)]
theorem w29 (y:D) (p:V→Prop):(B6 (Cn T30) T30 (H7 i2f) 0 B8 B1 29 [V.d (eV y)] B3.empty fun v H=>p (B4 H v)) =
 (D1 (eV y)∧
 (bif F4 (eV y) !=0 then
 p (V.d (D.tup [D.slice true 0 [],iD (F4 (eV y))])) else
 (s63.pre [V.d (eV y),V.d (D.slice true 0 [])] []∧
 p (V.d (D.tup [D.slice (lvE (eV y)).isEmpty 16 (lvE (eV y)),iD 0]))))):=by kernel_rfl
noncomputable def lvN (x:D):Bool:=bif F4 x !=0 then true else (lvE x).isEmpty
noncomputable def lvZ (x:D):Nat:=bif F4 x !=0 then 0 else 16
noncomputable def lvL (x:D):List D:=bif F4 x !=0 then [] else lvE x
noncomputable def c29:Ct:=⟨fun | [x]=>D1 x|_=>False,fun | [x]=>some (.tup [.slice (lvN x) (lvZ x) (lvL x),u7 (F4 x)])|_=>none⟩
noncomputable def T29:Tab:=T30.add 29 c29
theorem d4t {k:Int} {g:Bool→Prop} (h:g (bif decide (k≥2) then decide (k≤5) else false)):e3m k g:=by
 unfold e3m
 by_cases h2:k=2
 ·subst h2;exact h
 by_cases h3:k=3
 ·subst h3;exact h
 by_cases h4:k=4
 ·subst h4;exact h
 have e2:(k==2)=false:=by simpa using h2
 have e3:(k==3)=false:=by simpa using h3
 have e4:(k==4)=false:=by simpa using h4
 rw[e2,e3,e4]
 have e:(bif decide (k≥2) then decide (k≤5) else false)=(k==5):=by
  by_cases h5:k=5
  ·subst h5;rfl
  ·have:(k==5)=false:=by simpa using h5
   rw[this]
   by_cases h1:k≥2
   ·rw[decide_eq_true h1,cond_true];simp;omega
   ·rw[decide_eq_false h1];rfl
 rw[←e];exact h
theorem L63.sub {y a:D} (h:L63 y) (ha:a∈E6 y 15):L63 a:=by
 obtain ⟨hf,ht,hp⟩:=h
 refine ⟨hf.a a ha, ?_,(a7h hf.v hp).2 a ha⟩
 have:=a4d y
 have:=a4k (f:=H4) (xs:=E6 y 15) ha
 omega
theorem g7n {y:D} (h:L63 y):slf y++((E6 y 15).map lvE).flatten=lvE y∧(slf y).length≤1:=by
 obtain ⟨hf,ht,hp⟩:=h
 rw[c9a]
 unfold slf
 cases g:a2k y with
 | false=>exact ⟨rfl,Nat.zero_le _⟩
 | true =>
  refine ⟨?_,Nat.le_refl _⟩
  have ha:=(c4i (a7h hf.v hp).1).1
  have hk:2≤kd y∧kd y≤5:=by
   unfold a2k at g
   cases h1:decide (kd y≥2) with
   | false=>rw[h1] at g;cases g
   | true=>rw[h1] at g;exact ⟨of_decide_eq_true h1,of_decide_eq_true g⟩
  have h0:c3u (A1 (A0 y 0))=0:=by
   have:kd y=2∨kd y=3∨kd y=4∨kd y=5:=by omega
   rcases this with h|h|h|h<;>(show c3u (kd y)=0;rw[h];rfl)
  rw[h0] at ha
  have:E6 y 15= []:=List.eq_nil_of_length_eq_zero (by omega)
  rw[this];rfl
theorem g4s {κ k:Nat} {l:Code} (hb:l=l63) (hk:H9 B (U63 κ))
  (h1:∀(nl b:Bool) (ts ys:List D) (i:Nat) (K:X→List V→List Box→Prop),i<ys.length→ys.length≤200→(L63 (ys.getD i .any)∧ts.length+H4 (ys.getD i .any)≤200)∧dsz (ys.getD i .any)<κ→J2 (Cn T30) k l 30 [1,19,20,21] ([5000]::G8 k) [1] ([5000]::G8 k) [.ref [5000], .d (.slice b 16 ys),A3 ys.length,A3 ((i+1:Nat):Int)] (a7f (nl&&(lvE (ys.getD i .any)).isEmpty) (ts++lvE (ys.getD i .any))::List.replicate k .junk) K→J2 (Cn T30) k l 30 [1,19,20,21] ([5000]::G8 k) [1] ([5000]::G8 k) [.ref [5000], .d (.slice b 16 ys),A3 ys.length,A3 i] (a7f nl ts::List.replicate k .junk) K)
  (h2:∀(nl b:Bool) (ts ys:List D) (K:X→List V→List Box→Prop),K (.exit 1) [.ref [5000]] (a7f nl ts::List.replicate k .junk)→J2 (Cn T30) k l 30 [1,19,20,21] ([5000]::G8 k) [1] ([5000]::G8 k) [.ref [5000], .d (.slice b 16 ys),A3 ys.length,A3 ys.length] (a7f nl ts::List.replicate k .junk) K)
  (hn:S9 (([5000],[5000])::n63 k)= [5000]::G8 k):OkS (Cn T30) k (.loop l) (d7k κ k):=by
 refine D0 fun N vals bs K h=>?_
 simp only[d7k] at h
 split at h
 case h_2=>exact h.elim
 rename_i b z ys n i nl ts more
 obtain ⟨⟨rfl,rfl,rfl,rfl,rfl,hs,hall⟩,h⟩:=h
 show J2 (Cn T30) k l 30 [1,19,20,21] (S9 (([5000],[5000])::n63 k)) [1] ([5000]::G8 k) _ _ _
 rw[hn]
 have hlen:=a4a (xs:=ys)
 have main:∀(rest:List D) (i:Nat) (nl:Bool) (ts:List D),ys.drop i=rest→i+rest.length=ys.length→ts.length+(rest.map H4).sum≤200→K (.exit 1) [.ref [5000]] (a7f (nl&&((rest.map lvE).flatten).isEmpty) (ts++(rest.map lvE).flatten)::List.replicate k .junk)→
   J2 (Cn T30) k l 30 [1,19,20,21] ([5000]::G8 k) [1] ([5000]::G8 k) [.ref [5000], .d (.slice b 16 ys),A3 ys.length,A3 i] (a7f nl ts::List.replicate k .junk) K:=by
  intro rest
  induction rest with
  | nil =>
   intro i nl ts hd hi hr hK
   simp only[List.length_nil,Nat.add_zero] at hi
   subst hi
   refine h2 nl b ts ys K ?_
   simpa using hK
  | cons a rest ih =>
   intro i nl ts hd hi hr hK
   have hil:i<ys.length:=by simp only[List.length_cons] at hi;omega
   have hd2:=List.drop_eq_getElem_cons hil
   rw[hd] at hd2
   injection hd2 with g2 g3
   have hg:ys.getD i .any=a:=by rw[List.getD_eq_getElem?_getD,List.getElem?_eq_getElem hil];exact g2.symm
   obtain ⟨hL,hd3⟩:=hall a (by rw[←hg];exact D8 hil)
   simp only[List.map_cons,List.sum_cons] at hr
   have hlv:=c8z (y:=a) (Nat.lt_succ_self _)
   refine h1 nl b ts ys i K hil (by omega) (by rw[hg];exact ⟨⟨hL,by omega⟩,hd3⟩) ?_
   rw[hg]
   refine ih (i+1) _ _ g3.symm (by simp only[List.length_cons] at hi;omega) (by simp only[List.length_append];omega) ?_
   simp only[List.map_cons,List.flatten_cons, ←List.append_assoc] at hK
   have e:(nl&&(lvE a++(rest.map lvE).flatten).isEmpty)=((nl&&(lvE a).isEmpty)&&((rest.map lvE).flatten).isEmpty):=by
    cases nl<;>cases lvE a<;>simp
   rw[←e];exact hK
 exact main ys 0 nl ts rfl (by simp) hs h
theorem d3n {ts:List D} (h:ts.length≤200):((ts.length+1)*232).ble 70368744177664=true:=by rw[Nat.ble_eq];omega
theorem g4t {κ k:Nat} {ns:List (B2×B2)} (hX:S9 (([5002],[5002])::([5000],[5000])::n63 k)= [[5002],[5000]]++G8 k) (hk:H9 B (U63 κ))
  (hb:∀(y:D) (nl c:Bool) (ts:List D) (R:X→List V→List Box→Prop),ts.length≤200→R .normal [.ref [5000], .ptr [5002] 0] (L0 y::a7f (nl&& !c) (ts++(bif c then [eV y] else []))::List.replicate k .junk)→a6d (u4 (Cn T30) T30 (H7 (U63 κ)) k B8 (f8g k) false (C5 (A7 Tryz.f63) 13) 30 [1,2,9] (S9 (([5002],[4])::ns)) [] [1,2] (([5002],[5002])::([5000],[5000])::n63 k) [.ref [5000], .ptr [5002] 0,A6 c] (L0 y::a7f nl ts::List.replicate k .junk) R)):OkS (Cn T30) k (C5 (A7 Tryz.f63) 13) (d7j k ns):=by
 refine c6r (L8 B9 k30 hk) C0 (sp:=B8) (hn:=f8g k) (il:=false) A8 (adsI:=[]) (nsX:=([5002],[5002])::([5000],[5000])::n63 k) hX fun N vals bs K h=>?_
 simp only[d7j] at h
 split at h
 case h_2=>exact h.elim
 rename_i c cs nl ts more
 obtain ⟨⟨rfl,rfl,⟨y,rfl⟩,rfl,ht⟩,h⟩:=h
 refine hb y nl _ ts K ht ?_
 have e:∀c,(bif c then [eV y] else []).isEmpty= !c:=fun c=>by cases c<;>rfl
 have h:K .normal [.ref [5000], .ptr [5002] 0] (L0 y::a7f (nl&&(bif a2k (eV y) then [eV y] else []).isEmpty) (ts++(bif a2k (eV y) then [eV y] else []))::List.replicate k .junk):=h
 rw[e] at h
 exact h
theorem h4s {κ:Nat} (hk:H9 B (U63 κ)):OkS (Cn T30) 1 (C5 (A7 Tryz.f63) 13) (d7j 1 [([5000],[0,0])]):=g4t rfl hk fun y nl c ts R ht hR=>by
 refine keep (i6t κ y nl c ts R) ?_
 rw[d3n ht]
 cases c with
 | true=>exact ⟨(by trivial),hR⟩
 | false=>exact ⟨(by trivial),by simpa using hR⟩
theorem h4r {κ:Nat} (hk:H9 B (U63 κ)):OkS (Cn T30) 0 (C5 (A7 Tryz.f63) 13) (d7j 0 [([5000],[5001])]):=g4t rfl hk fun y nl c ts R ht hR=>by
 refine keep (i6s κ y nl c ts R) ?_
 rw[d3n ht]
 cases c with
 | true=>exact ⟨(by trivial),hR⟩
 | false=>exact ⟨(by trivial),by simpa using hR⟩
theorem g6x {κ:Nat} (hk:H9 B (U63 κ)):OkS (Cn T30) 1 (.loop l63) (d7k κ 1):=g4s rfl hk (fun nl b ts ys i K hi hl hp hK=>by
 refine B5 (L8 B9 k30 hk) C0 A8 (hn:=B1) (adsI:=[]) (nsI:=([5000],[29,2])::n63 1) (nsX:=([5000],[5000])::n63 1) rfl rfl (keep (h8x κ nl b ts ys ys.length i _) ?_)
 have hv:eV (ys.getD i .any)=ys.getD i .any:=hp.1.1.1.v
 have e1:decide ((i:Int)<(ys.length:Int))=true:=by simp;omega
 have e2:IntKind.i64.wrap ((i:Int)+1)=((i+1:Nat):Int):=by rw[Go.IntWalk.i64_in _ (by omega)];omega
 simp only[e1,Int.toNat_natCast,e2,cond_true,hv]
 exact ⟨⟨by omega,hi,(by trivial)⟩,hp,(by trivial),hK⟩) (fun nl b ts ys K hK=>by
 refine B5 (L8 B9 k30 hk) C0 A8 (hn:=B1) (adsI:=[]) (nsI:=([5000],[29,2])::n63 1) (nsX:=([5000],[5000])::n63 1) rfl rfl (keep (h8x κ nl b ts ys ys.length ys.length _) ?_)
 rw[show decide ((ys.length:Int)<(ys.length:Int))=false by simp]
 exact ⟨(by trivial),hK⟩) rfl
theorem g6w {κ:Nat} (hk:H9 B (U63 κ)):OkS (Cn T30) 0 (.loop l63) (d7k κ 0):=g4s rfl hk (fun nl b ts ys i K hi hl hp hK=>by
 refine B5 (L8 B9 k30 hk) C0 A8 (hn:=B1) (adsI:=[]) (nsI:=([5000],[29,2])::n63 0) (nsX:=([5000],[5000])::n63 0) rfl rfl (keep (h8w κ nl b ts ys ys.length i _) ?_)
 have hv:eV (ys.getD i .any)=ys.getD i .any:=hp.1.1.1.v
 have e1:decide ((i:Int)<(ys.length:Int))=true:=by simp;omega
 have e2:IntKind.i64.wrap ((i:Int)+1)=((i+1:Nat):Int):=by rw[Go.IntWalk.i64_in _ (by omega)];omega
 simp only[e1,Int.toNat_natCast,e2,cond_true,hv]
 exact ⟨⟨by omega,hi,(by trivial)⟩,hp,(by trivial),hK⟩) (fun nl b ts ys K hK=>by
 refine B5 (L8 B9 k30 hk) C0 A8 (hn:=B1) (adsI:=[]) (nsI:=([5000],[29,2])::n63 0) (nsX:=([5000],[5000])::n63 0) rfl rfl (keep (h8w κ nl b ts ys ys.length ys.length _) ?_)
 rw[show decide ((ys.length:Int)<(ys.length:Int))=false by simp]
 exact ⟨(by trivial),hK⟩) rfl
theorem f3c {κ k:Nat} {y:D} {nl:Bool} {ts:List D} {R:V→List Box→Prop} (hL:L63 y) (hd:dsz y=κ) (ht:ts.length+H4 y≤200) (hR:R (.ref [2]) (List.replicate k .junk++ [a7f (nl&&(lvE y).isEmpty) (ts++lvE y)])):G63 κ k y nl ts R (a2k y):=by
 obtain ⟨h1,h2⟩:=g7n hL
 have hs:=a4d y
 have hv:eV y=y:=hL.1.v
 have hsub:∀a∈A2 (A0 y 15),L63 a∧dsz a<κ:=fun a ha=>⟨hL.sub ha,hd▸G6 (y:=y) (i:=15) ha⟩
 have hs:1+((A2 (A0 y 15)).map H4).sum≤H4 y:=hs
 have h1:slf y++((A2 (A0 y 15)).map lvE).flatten=lvE y:=h1
 unfold G63
 rw[hv]
 refine ⟨⟨rfl,rfl,⟨y,rfl⟩,rfl,by omega⟩,⟨rfl,rfl,rfl,rfl,rfl,by simp only[List.length_append];omega,hsub⟩, ?_⟩
 have e:((nl&&(slf y).isEmpty)&&((A2 (A0 y 15)).map lvE).flatten.isEmpty)=(nl&&(lvE y).isEmpty):=by
  rw[←h1]
  cases nl<;>cases slf y<;>simp
 rw[e,List.append_assoc,h1]
 exact hR
theorem q63:H9 B i2f:=by
 refine d3e N3 [(63,s63)] μ63 fun n hk K S hmem vals bs c x y hp hmu hf=>?_
 simp only[List.mem_singleton,Prod.mk.injEq] at hmem
 obtain ⟨rfl,rfl⟩:=hmem
 unfold s63 at hp hf
 simp only[] at hp hf
 split at hf
 ·rename_i z nl ts
  simp only[one,Option.some.injEq,Prod.mk.injEq] at hf
  obtain ⟨rfl,rfl,rfl⟩:=hf
  obtain ⟨hL,ht⟩:=hp
  have hv:eV z=z:=hL.1.v
  rw[show ([V.d z, .ref [0,0]]:List V)= [.d (eV z), .ref [0,0]] by rw[hv]]
  refine F6 B9 k30 hk (fn:=Tryz.f63) (cd:=A7 Tryz.f63) (sp:=spL [(13,d7j 1 [([5000],[0,0])]),(16,d7k n 1)]) (hn:=B1) (k:=1) (ads:=[]) (ends:=[[([0,0],[0,0]),([2],[5000])]]) Tryz.func63 (by kernel_rfl) (by kernel_rfl) (by kernel_rfl) (by kernel_rfl) (B7 (c:=C5 (A7 Tryz.f63) 13) (by kernel_rfl) (h4s hk) (B7 (c:=.loop l63) (by kernel_rfl) (g6x hk) C8)) rfl rfl (keep (i2x n z nl ts _) ?_)
  exact d4t (f3c hL hmu ht ⟨rfl,rfl⟩)
 ·rename_i z e
  simp only[one,Option.some.injEq,Prod.mk.injEq] at hf
  obtain ⟨rfl,rfl,rfl⟩:=hf
  have hL:L63 z:=hp
  have hv:eV z=z:=hL.1.v
  rw[show ([V.d z, .d (.slice true e [])]:List V)= [.d (eV z), .d (.slice true e [])] by rw[hv]]
  refine F6 B9 k30 hk (fn:=Tryz.f63) (cd:=A7 Tryz.f63) (sp:=spL [(13,d7j 0 [([5000],[5001])]),(16,d7k n 0)]) (hn:=h63) (k:=0) (ads:=[]) (ends:=[[([2],[5000])]]) Tryz.func63 (by kernel_rfl) (by kernel_rfl) (by kernel_rfl) (by kernel_rfl) (B7 (c:=C5 (A7 Tryz.f63) 13) (by kernel_rfl) (h4r hk) (B7 (c:=.loop l63) (by kernel_rfl) (g6w hk) C8)) rfl rfl (keep (i2w n z e _) ?_)
  exact d4t (f3c (k:=0) (ts:=[]) hL hmu (by have:=hL.2.1;simp;omega) ⟨rfl,rfl⟩)
 ·cases hf
theorem k29:C3 B T29:=by
 refine b3f B9 k30 q63 (fn:=Tryz.f29) (cd:=A7 Tryz.f29) (sp:=B8) (hn:=B1) Tryz.func29 (by kernel_rfl) (by kernel_rfl) A8 fun ds r hp hr=>?_
 unfold c29 at hp hr
 simp only[] at hr hp
 split at hr
 ·rename_i y
  cases hr
  have hf:D1 y:=hp
  rw[X9 hf.v]
  refine keep (w29 y fun v=>v=_) ?_
  rw[hf.v]
  refine ⟨hf,A5 (fun g=>?_) (fun g=>?_)⟩
  ·simp only[lvN,lvZ,lvL,g,cond_true]
  ·have g0:F4 y=0:=by simpa using g
   obtain ⟨a,_,b⟩:=e6q g0 hf.v
   simp only[lvN,lvZ,lvL,g,cond_false,g0]
   exact ⟨⟨hf,a,b⟩,(by trivial)⟩
 ·cases hr
end Go.Ev.R2
end
section
namespace Go.Ev.R2
open Go Go.Ev Go.Proofs
theorem e7t {y:D} (hv:eV y=y) (h1:H4 y≤100) (h2:U9 y≤12) (h3:K5 y=0):F4 y=0:=by
 unfold F4
 rw[hv,h3]
 have a:decide ((↑(cap (H4 y)):Int)>100)=false:=by unfold cap;simp;omega
 have b:decide ((↑(U9 y):Int)>12)=false:=by simp;omega
 rw[a,b]
 rfl
theorem f7i {l:List Nat} {n:Nat} (h:n∈l):n≤U0 l:=by
 induction l with
 | nil=>cases h
 | cons a l ih =>
  have e:U0 (a::l)=max (max 0 a) (U0 l):=c3o l (max 0 a)
  rw[e]
  rcases List.mem_cons.1 h with rfl|h
  ·omega
  ·have:=ih h;omega
structure i2j (a:D):Prop where
 f:D1 a
 b:Bd a
 c:F4 a=0
 k:2≤kd a∧kd a≤5
theorem e3k:∀(n:Nat) {y:D},dsz y<n→D1 y→Bd y→H4 y≤100→U9 y≤12→K5 y=0→∀a∈lvE y,i2j a
 | 0,y,hn,_,_,_,_,_,_,_=>by omega
 | n+1,y,hn,hf,hb,ht,hd,hp,a,ha=>by
  rw[c9a] at ha
  cases g:a2k y with
  | true =>
   rw[g] at ha
   simp only[cond_true,List.mem_singleton] at ha
   subst ha
   refine ⟨hf,hb,e7t hf.v ht hd hp, ?_⟩
   unfold a2k at g
   cases h1:decide (kd a≥2) with
   | false=>rw[h1] at g;cases g
   | true=>rw[h1] at g;exact ⟨of_decide_eq_true h1,of_decide_eq_true g⟩
  | false =>
   rw[g] at ha
   simp only[cond_false,List.mem_flatten,List.mem_map] at ha
   obtain ⟨l,⟨c,hc,rfl⟩,ha⟩:=ha
   have h1:=G6 (y:=y) (i:=15) hc
   have h2:=a4d y
   have h3:=a4k (f:=H4) (xs:=E6 y 15) hc
   have h4:=b9q y
   have h5:=f7i (List.mem_map_of_mem (f:=U9) hc)
   exact e3k n (by omega) (hf.a c hc) (hb.sub hc) (by omega) (by omega) ((a7h hf.v hp).2 c hc) a ha
theorem e6p {y:D} (hf:D1 y) (hb:Bd y) (h:F4 y=0):∀a∈lvE y,i2j a:=by
 obtain ⟨h1,h2,h3⟩:=e6q h hf.v
 exact e3k _ (Nat.lt_succ_self _) hf hb h1 h2 h3
theorem b8c {β:Type} {f:Nat→Option β}:∀(n i:Nat),(∀j,i≤j→j<i+n→f j=none)→rounds (fun i _=>S6 (f i)) n i ()= .inl ()
 | 0,i,_=>rfl
 | n+1,i,h=>by
  unfold rounds
  simp only[h i (Nat.le_refl _) (by omega),S6]
  exact b8c n (i+1) fun j h1 h2=>h j (by omega) (by omega)
theorem c2q {xs:List D} (h:∀y∈xs,F4 y=0):b8b xs xs=true:=by
 unfold b8b
 have e:((xs.length:Int) !=(xs.length:Int))=false:=by simp
 rw[e,cond_false]
 have hs:C1 (d4e xs xs) xs.length=none:=by
  unfold C1
  rw[b8c xs.length 0 fun j _ hj=>?_]
  unfold d4e
  have hc:=h (xs.getD j .any) (D8 (by omega))
  have:eqB (xs.getD j .any) (xs.getD j .any)=true:=by
   unfold eqB
   rw[hc]
   simp
  rw[this];rfl
 rw[hs]
end Go.Ev.R2
end
section
namespace Go.Ev.R2
open Go Go.Ev Go.Proofs
set_option maxRecDepth 100000
theorem j2a (b1:Bool) (b2:Bool) (z:Nat) (z':Nat) (R:X→List V→List Box→Prop):(E1 (Cn T33) T33 D5 0 B8 B1 l31 27 [0,1,5] [] [] [] [4] []
 [V.d (D.slice b1 z []),V.d (D.slice b2 z' []),A3 0] [] R) =
 (27=27∧
 R (X.exit 0) [V.any] []):=by kernel_rfl
noncomputable def g3u:Ev.Spec:={L:=[0,1,5],ns:=[],L':=[4],nm':=[],G:=fun N vals bs k=>match vals,bs with
 | [.d (.slice b1 z []), .d (.slice b2 z' []), .d (.lit (.int .i64 i))], []=>(N=27∧i=0)∧k (.exit 0) [.any] []
 | _,_=>False }
theorem i2y (b1:Bool) (b2:Bool) (z:Nat) (z':Nat) (p:V→Prop):(B6 (Cn T33) T33 D5 0 (spL [(8,g3u)]) B1 31 [V.d (D.slice b1 z []),V.d (D.slice b2 z' [])] B3.empty
 fun v H=>p (B4 H v)) =
 ((27=27∧((0:Int)=0))∧
 p (A6 true)):=by kernel_rfl
noncomputable def f4c:Ct:=⟨fun | [.slice _ _ [], .slice _ _ []]=>True|_=>False,fun | [.slice _ _ [], .slice _ _ []]=>some (.lit (.bool true))|_=>none⟩
def e9i (ds:List D):Prop:=c31.pre ds∨f4c.pre ds
noncomputable def i9z:Ct:=⟨e9i,fun | [.slice _ _ xs, .slice _ _ ys]=>some (.lit (.bool (b8b xs ys)))|_=>none⟩
noncomputable def T5a:Tab:=(((T29.add 27 c28).add 32 e7y).add 14 c14).add 31 i9z
noncomputable def a51 (x:D):Bool:=bif eqT x x then F4 x==F4 x else false
noncomputable def a52 (x:D):Bool:=bif a51 x then b8b (lvL x) (lvL x) else false
noncomputable def a53 (x:D):Bool:=bif a52 x then F4 x==F4 x else false
noncomputable def a54 (x y:D):Bool:=bif a53 x then eqB x y==eqB x y else false
noncomputable def G5 (x y:D) (p:Bool→Prop):Prop:=D1 x∧((!c4a x&&true)=true→D1 y)∧(bif bif c4a x then true else c4a y then (True∧p true) else
 (a8r x∧a8r x∧D1 x∧(D1 x∧Bd x)∧((a51 x&&true)=true→e9i [.slice (lvN x) (lvZ x) (lvL x), .slice false 16 (lvL x)])∧((a53 x&&true)=true→(a8r x∧a8r y))∧((a53 x&&true)=true→(a8r x∧a8r y))∧((a54 x y&&true)=true→True)∧p (bif a54 x y then true else false)))
theorem w5 (x y:D) (p:V→Prop):(B6 (Cn T5a) T5a D5 0 B8 B1 5 [.d (eV x), .d (eV y)] B3.empty (fun v H=>p (B4 H v)))=G5 (eV x) (eV y) fun b=>p (.d (.lit (.bool b))):=by kernel_rfl
noncomputable def c5:Ct:=⟨fun | [x,y]=>(D1 x∧Bd x)∧D1 y∧Bd y|_=>False,fun | [x,y]=>some (.lit (.bool true))|_=>none⟩
theorem h5a:OkS (Cn T33) 0 (.loop l31) g3u:=by
 refine D0 fun N vals bs K h=>?_
 simp only[g3u] at h
 split at h
 case h_2=>exact h.elim
 rename_i b1 z b2 z' i
 obtain ⟨⟨rfl,rfl⟩,h⟩:=h
 refine B5 (D3 B9 k33 C2) C0 A8 (hn:=B1) (adsI:=[]) (nsI:=[]) (nsX:=[]) rfl rfl (keep (j2a b1 b2 z z' _) ?_)
 exact ⟨(by trivial),h⟩
theorem i7x:C3 B (T33.add 31 f4c):=by
 refine C4 B9 k33 (fn:=Tryz.f31) (cd:=A7 Tryz.f31) (sp:=spL [(8,g3u)]) (hn:=B1) Tryz.func31 (by kernel_rfl) (by kernel_rfl) (B7 (c:=.loop l31) (by kernel_rfl) h5a C8) fun ds r hp hr=>?_
 unfold f4c at hp hr
 simp only[] at hr hp
 split at hr
 ·rename_i b1 z b2 z'
  cases hr
  exact keep (i2y b1 b2 z z' fun v=>v=_) ⟨⟨(by trivial),(by trivial)⟩,rfl⟩
 ·cases hr
theorem k5a:C3 B T5a:=by
 refine Y8 (Y8 (Y8 (Y8 k29 fun ds r hp hr=>k27 27 c28 ds r rfl hp hr) fun ds r hp hr=>k32 32 e7y ds r rfl hp hr) fun ds r hp hr=>k14 14 c14 ds r rfl hp hr) fun ds r hp hr=>?_
 rcases hp with hp|hp
 ·exact k31 31 c31 ds r rfl hp hr
 ·unfold f4c at hp
  simp only[] at hp
  split at hp
  ·rename_i b1 z b2 z'
   have hr:some (D.lit (.bool (b8b [] [])))=some r:=hr
   exact i7x 31 f4c [.slice b1 z [], .slice b2 z' []] r rfl trivial (by rw[←hr];rfl)
  ·exact hp.elim
theorem i2a {x:D} (hf:D1 x) (hb:Bd x):a51 x=true∧e9i [.slice (lvN x) (lvZ x) (lvL x), .slice false 16 (lvL x)]∧b8b (lvL x) (lvL x)=true:=by
 refine ⟨?_, ?_⟩
 ·unfold a51 eqT;simp
 unfold lvZ lvL
 cases g:(F4 x !=0) with
 | true=>exact ⟨.inr trivial,c2q fun y hy=>by simp at hy⟩
 | false =>
  have g0:F4 x=0:=by simpa using g
  have hl:=e6p hf hb g0
  have h1:=c8z (y:=x) (Nat.lt_succ_self _)
  have h2:=(e6q g0 hf.v).1
  simp only[cond_false]
  exact ⟨.inl ⟨rfl,rfl,⟨by omega,fun y hy=>e3b (hl y hy).f (hl y hy).b⟩,⟨by omega,fun y hy=>e3b (hl y hy).f (hl y hy).b⟩⟩,c2q fun y hy=>(hl y hy).c⟩
theorem k5:C3 B (T5a.add 5 c5):=by
 refine C4 B9 k5a (fn:=Tryz.f5) (cd:=A7 Tryz.f5) (sp:=B8) (hn:=B1) Tryz.func5 (by kernel_rfl) (by kernel_rfl) A8 fun ds r hp hr=>?_
 unfold c5 at hp hr
 simp only[] at hr hp
 split at hr
 ·rename_i x y
  cases hr
  obtain ⟨⟨fx,bx⟩,fy,bY⟩:=hp
  rw[show [x,y].map V.d= [V.d (eV x),V.d (eV y)] by rw[fx.v,fy.v];rfl]
  refine keep (w5 x y fun v=>v=_) ?_
  rw[fx.v,fy.v]
  have px:=e3b fx bx
  have py:=e3b fy bY
  obtain ⟨h1,h2,h3⟩:=i2a fx bx
  have h4:a54 x y=true:=by unfold a54 a53 a52;rw[h1,h3];simp
  unfold G5
  refine ⟨fx,fun _=>fy,A5 (fun _=>⟨trivial,rfl⟩) (fun _=>⟨px,px,fx,⟨fx,bx⟩,fun _=>h2,fun _=>⟨px,py⟩,fun _=>⟨px,py⟩,fun _=>trivial, ?_⟩)⟩
  rw[h4];rfl
 ·cases hr
end Go.Ev.R2
end
