/- What the proofs of the lexer's laws share, part 10 of 13. -/
import Derived.Test.YtnnhlphbfpnaaaaGreatDoorC9
set_option linter.unusedVariables false
set_option linter.unusedSimpArgs false
section
namespace Go.Ev.R2
open Go Go.Ev Go.Proofs
set_option maxRecDepth 100000
theorem f5 {c:Bool} {G:(Bool→List D→Prop)→Bool→List D→Prop} {K:Bool→List D→Prop} {nl:Bool} {xs its rest:List D} {T:Bool×List D} (hr:xs.length+H8 ((bif c then its else [])++rest)+1≤70368744177664) (ht:C7 false nl xs ((bif c then its else [])++rest)=T)
  (hG:c=true→xs.length+H8 (its++rest)+1≤70368744177664→K (C7 false nl xs its).1 (C7 false nl xs its).2→G K nl xs)
  (hK:∀nl' xs',xs'.length+H8 rest+1≤70368744177664→C7 false nl' xs' rest=T→K nl' xs'):gIf c G K nl xs:=by
 cases c with
 | false=>exact hK nl xs hr ht
 | true =>
  refine hG rfl hr (hK _ _ ?_ ?_)
  ·
   have:=k9 its false nl xs
   simp only[cond_true,b3i] at hr
   omega
  ·
   simp only[cond_true,a3r] at ht
   exact ht
theorem gel {s:ByteArray} {d:D} {K:Bool→List D→Prop} {nl:Bool} {xs rest:List D} (hs:A2 d=s) (hr:xs.length+H8 (d::rest)+1≤70368744177664) (hk:K (C7 false nl xs [d]).1 (C7 false nl xs [d]).2):gEl s K nl xs:=by
 subst hs
 have hr:xs.length+((A2 d).size+1+H8 rest)+1≤70368744177664:=hr
 exact ⟨by show xs.length+1+(A2 d).size≤_;omega,hk⟩
theorem b5e {p:Nat→Prop} (h:p 1∧p 2∧p 3∧p 4∧p 5∧p 6∧p 7∧p 8∧p 9∧p 10∧p 11∧p 12∧p 13) {i:Nat} (h1:1≤i∧i≤13):p i:=by
 have:i=1∨i=2∨i=3∨i=4∨i=5∨i=6∨i=7∨i=8∨i=9∨i=10∨i=11∨i=12∨i=13:=by omega
 obtain ⟨a,b,c,d,e,f,g,k,l,m,n,o,q⟩:=h
 rcases this with rfl|rfl|rfl|rfl|rfl|rfl|rfl|rfl|rfl|rfl|rfl|rfl|rfl<;>assumption
theorem g2a {i:Nat} (h:1≤i∧i≤13):A2 (a3y.getD i .any)=kNm i:=b5e (p:=fun i=>A2 (a3y.getD i .any)=kNm i) ⟨rfl,rfl,rfl,rfl,rfl,rfl,rfl,rfl,rfl,rfl,rfl,rfl,rfl⟩ h
theorem g2o {i:Nat} (h:1≤i∧i≤13):hF i=true→a2u i=sB []::fnL i:=by
 refine b5e (p:=fun i=>hF i=true→a2u i=sB []::fnL i) ?_ h
 refine ⟨?_, ?_, ?_, ?_, ?_, ?_, ?_, ?_, ?_, ?_, ?_, ?_, ?_⟩<;>first|exact fun _=>rfl|exact fun h=>absurd h (by decide)
def dAt (vs:List V) (j:Nat):D:=match vs.getD j .any with | .d x=>x|_=>.any
def f2b (i:Nat):Prop:=kCl i=v14 (dAt (kCl i))∧∀y,fCl i (.agg (eVk i y))=v10 (dAt (fCl i (.agg (eVk i y))))
theorem d9j {i:Nat} (h:1≤i∧i≤13) (y:D):g4f (kCl i) (fCl i (.agg (eVk i y))) (d4m i y):=by
 have hh:f2b i:=b5e (p:=f2b) ⟨⟨(by kernel_rfl),fun y=>(by kernel_rfl)⟩,⟨(by kernel_rfl),fun y=>(by kernel_rfl)⟩,⟨(by kernel_rfl),fun y=>(by kernel_rfl)⟩,⟨(by kernel_rfl),fun y=>(by kernel_rfl)⟩,⟨(by kernel_rfl),fun y=>(by kernel_rfl)⟩,⟨(by kernel_rfl),fun y=>(by kernel_rfl)⟩,⟨(by kernel_rfl),fun y=>(by kernel_rfl)⟩,⟨(by kernel_rfl),fun y=>(by kernel_rfl)⟩,⟨(by kernel_rfl),fun y=>(by kernel_rfl)⟩,⟨(by kernel_rfl),fun y=>(by kernel_rfl)⟩,⟨(by kernel_rfl),fun y=>(by kernel_rfl)⟩,⟨(by kernel_rfl),fun y=>(by kernel_rfl)⟩,⟨(by kernel_rfl),fun y=>(by kernel_rfl)⟩⟩ h
 exact ⟨_,_,fun j=>(eVk i y).getD j .any,hh.1,hh.2 y,rfl⟩
theorem f8d (z:D):wIt z=wdD a3y (kd z)::(D9 11 z++(D9 23 z++(D9 15 z++(D9 19 z++(D9 31 z++(D9 27 z++(D9 35 z++(D9 39 z++(D9 43 z++(D9 47 z++(A3 (A0 z 15)).map eD)))))))))):=by
 simp only[wIt,List.append_assoc,List.cons_append,List.nil_append]
theorem g2n {κ i:Nat} {y:D} {fi nl:Bool} {xs:List D} {R:V→List Box→Prop} (h1:1≤i∧i≤13) (hE:ETx (.agg (eVk i y))) (hd:dsz (.agg (eVk i y))<κ+1) (hr:xs.length+H8 (wIt (.agg (eVk i y)))+1≤70368744177664)
  (hR:R (.d (.tup [])) [hB [0,4], .cells 104 (kCl i), .cells 102 (fCl i (.agg (eVk i y))), .cells 33 (d4m i y),wN [0,4] [2] tK false,S2 nl xs,a4c fi nl xs (wIt (.agg (eVk i y)))]):G85 κ i y fi nl xs R:=by
 obtain ⟨hf,⟨k0,k1⟩,ht,hx,hp⟩:=hE.l
 generalize hz:D.agg (eVk i y)=z at *
 have z0:kd z=i:=by subst hz;rfl
 have e11:hF i=N7 11 z:=by
  show _=decide (((a2u (kd z)).length:Int)>0)
  rw[z0,(a4p _).1]
 have hfn:ab (hF i) (ob (decide (A1 (A0 z 1)<1)) (decide (A1 (A0 z 1)>nF i)))=false:=by
  cases g:hF i with
  | false=>rfl
  | true =>
   have h11:=hp 11 (by rw[←e11];exact g)
   have h11:1≤A1 (A0 z 1)∧(A1 (A0 z 1)).toNat<(a2u (kd z)).length:=h11
   have hl:=(a4p (i:Int)).2 g
   rw[z0] at h11
   have a1:decide (A1 (A0 z 1)<1)=false:=by have:=h11.1;simp;omega
   have a2:decide (A1 (A0 z 1)>nF i)=false:=by have:=h11.2;simp;omega
   rw[a1,a2];rfl
 have e15:gN i (A1 (A0 y 1))=N7 15 z:=by
  show _=hN (kd z) (fc z)
  rw[z0, ←e8j hfn];subst hz;rfl
 have e19:(bif gT i (A1 (A0 y 1)) then (i:Int) !=5 else false)=N7 19 z:=by
  show _=ab (hT (kd z) (fc z)) (kd z !=5)
  rw[z0,f7f];subst hz;rfl
 have e23:((i:Int)==7)=N7 23 z:=by show _=(kd z==7);rw[z0]
 have e47:((i:Int)==5)=N7 47 z:=by show _=(kd z==5);rw[z0]
 have e31:hM i=N7 31 z:=by show _=hM (kd z);rw[z0]
 have e27:hP i=N7 27 z:=by show _=hP (kd z);rw[z0]
 have e35:hS i=N7 35 z:=by show _=hS (kd z);rw[z0]
 have e39:hW i=N7 39 z:=by show _=hW (kd z);rw[z0]
 have e43:hNm i=N7 43 z:=by show _=hNm (kd z);rw[z0]
 unfold G85
 rw[e11,e15,e19,e23,e47,e31,e27,e35,e39,e43]
 have hw:=f8d z
 rw[hw] at hr
 have hnm:A2 (wdD a3y (kd z))=kNm i:=by rw[z0];exact g2a h1
 have hr:xs.length+((A2 (wdD a3y (kd z))).size+1+H8 (D9 11 z++(D9 23 z++(D9 15 z++(D9 19 z++(D9 31 z++(D9 27 z++(D9 35 z++(D9 39 z++(D9 43 z++(D9 47 z++(A3 (A0 z 15)).map eD)))))))))))+1≤70368744177664:=hr
 rw[hnm] at hr
 have hp0:=P8 fi xs (kNm i)
 have hT:C7 false (G6 fi nl (kNm i)) (B7 fi xs (kNm i)) (D9 11 z++(D9 23 z++(D9 15 z++(D9 19 z++(D9 31 z++(D9 27 z++(D9 35 z++(D9 39 z++(D9 43 z++(D9 47 z++(A3 (A0 z 15)).map eD))))))))))=C7 fi nl xs (wIt z):=by
  rw[hw]
  show _=C7 false (G6 fi nl (A2 (wdD a3y (kd z)))) (B7 fi xs (A2 (wdD a3y (kd z)))) _
  rw[hnm]
 refine ⟨by show xs.length+1+(kNm i).size≤_;omega, ?_⟩
 have hr0:(B7 fi xs (kNm i)).length+H8 (D9 11 z++(D9 23 z++(D9 15 z++(D9 19 z++(D9 31 z++(D9 27 z++(D9 35 z++(D9 39 z++(D9 43 z++(D9 47 z++(A3 (A0 z 15)).map eD))))))))))+1≤70368744177664:=by omega
 refine f5 (its:=u6 11 z) hr0 hT (fun g hr hk=>?_) fun nl xs hr hT=>?_
 ·
  have h11:1≤fc z∧(fc z).toNat<(a2u (kd z)).length:=hp 11 g
  rw[z0] at h11
  have hl:=g2o h1 (by rw[e11];exact g)
  have hlen:(a2u (i:Int)).length≤100:=by
   have:=(a4p (i:Int)).2 (by rw[e11];exact g)
   have:nF i≤11:=by unfold nF;cases ((i:Int)==2)<;>cases ((i:Int)==3)<;>cases ((i:Int)==6)<;>cases ((i:Int)==7)<;>decide
   omega
  obtain ⟨n1,n2⟩:=b4k (k:=fc z) hl (d9k _) h11.1 h11.2 hlen
  have hc:A1 (A0 y 1)=fc z:=by subst hz;rfl
  rw[hc]
  unfold gIx g6z
  rw[n2]
  refine ⟨n1,gel (d:=wdD (a2u (kd z)) (fc z)) (by rw[z0];rfl) hr hk⟩
 refine f5 (its:=u6 23 z) hr hT (fun g hr hk=>?_) fun nl xs hr hT=>?_
 ·
  have h23:0≤A1 (A0 z 9)∧(A1 (A0 z 9)).toNat<a3w.length:=hp 23 g
  have hc:A1 (A0 y 9)=A1 (A0 z 9):=by subst hz;rfl
  rw[hc]
  exact ⟨trivial,⟨h23.1,h23.2,(c2m _ (F4 (xs:=c7h) h23.2)).1⟩,gel (d:=wdD a3w (A1 (A0 z 9))) rfl hr hk⟩
 refine f5 (its:=u6 15 z) hr hT (fun g hr hk=>?_) fun nl xs hr hT=>?_
 ·
  have h15:k8 (A1 (A0 z 5)) (A1 (A0 z 6))=0:=hp 15 g
  have hr15:=c5f (n:=A1 (A0 z 5)) (d:=A1 (A0 z 6)) (by rw[h15];rfl)
  have hc:A1 (A0 y 5)=A1 (A0 z 5):=by subst hz;rfl
  have hc':A1 (A0 y 6)=A1 (A0 z 6):=by subst hz;rfl
  rw[hc,hc',g2p h15]
  exact ⟨⟨⟨by omega,by omega⟩,by omega,by omega⟩,gel (d:=.lit (.string (c4j (A1 (A0 z 5)) (A1 (A0 z 6))))) rfl hr hk⟩
 refine f5 (its:=u6 19 z) hr hT (fun g hr hk=>?_) fun nl xs hr hT=>?_
 ·
  exact gel (d:=sDD z 14) (by subst hz;rfl) hr hk
 refine f5 (its:=u6 31 z) hr hT (fun g hr hk=>?_) fun nl xs hr hT=>?_
 ·
  have hm:c4o (A3 (A0 z 2)):=hp 31 g
  have hl:=W4 (mL z)
  have hr:xs.length+((G7 (mL z)).size+1+H8 _)+1≤70368744177664:=hr
  subst hz
  exact ⟨⟨⟨hf,hm⟩,by show xs.length+H8 (mL (.agg (eVk i y)))+3≤_;omega⟩,hk⟩
 refine f5 (its:=u6 27 z) hr hT (fun g hr hk=>?_) fun nl xs hr hT=>?_
 ·
  have hm:PTx (paV z):=hp 27 g
  have hr:xs.length+((b4e (paV z)).size+1+H8 _)+1≤70368744177664:=hr
  subst hz
  exact ⟨⟨hm,by show xs.length+1+(b4e (paV (.agg (eVk i y)))).size+1≤_;omega⟩,hk⟩
 refine f5 (its:=u6 35 z) hr hT (fun g hr hk=>?_) fun nl xs hr hT=>?_
 ·
  have hm:d5g (A3 (A0 z 10)):=hp 35 g
  have hl:=W4 (sL z)
  have hr:xs.length+((G7 (sL z)).size+1+H8 _)+1≤70368744177664:=hr
  subst hz
  exact ⟨⟨⟨hf,hm⟩,by show xs.length+H8 (sL (.agg (eVk i y)))+3≤_;omega⟩,hk⟩
 refine f5 (its:=u6 39 z) hr hT (fun g hr hk=>?_) fun nl xs hr hT=>?_
 ·
  have hm:(0≤A1 (A0 z 3)∧A1 (A0 z 3)≤1152921504606846976)∧(0≤A1 (A0 z 4)∧A1 (A0 z 4)≤1152921504606846976):=hp 39 g
  have hr:xs.length+((a2c (A1 (A0 z 3))).size+1+((a2c (A1 (A0 z 4))).size+1+H8 _))+1≤70368744177664:=hr
  have hc:A1 (A0 y 3)=A1 (A0 z 3):=by subst hz;rfl
  have hc':A1 (A0 y 4)=A1 (A0 z 4):=by subst hz;rfl
  have hp1:=P8 false xs (a2c (A1 (A0 z 3)))
  rw[hc,hc']
  unfold gNm
  rw[a2q hm.1.1,a2q hm.2.1]
  refine ⟨⟨⟨by omega,by omega⟩,by rw[a2q hm.1.1];show _≤_;omega⟩,⟨⟨by omega,by omega⟩,by rw[a2q hm.2.1];show _≤_;omega⟩,hk⟩
 refine f5 (its:=u6 43 z) hr hT (fun g hr hk=>?_) fun nl xs hr hT=>?_
 ·
  have hm:C8 z∧e5m (A3 (A0 z 7)):=hp 43 g
  have hgs:b2w z=G7 (a5q z):=by unfold b2w a5q;cases L5 (A0 z 8)<;>rfl
  have hl:=W4 (a5q z)
  have hr:xs.length+((b2w z).size+1+H8 _)+1≤70368744177664:=hr
  have hk:_:=hk
  have hn:b3h (A3 (A0 z 7)):=fun q hq=>(hm.2.2 q hq).1
  rw[hgs] at hr
  have e:u6 43 z= [.lit (.string (G7 (a5q z)))]:=by rw[←hgs];rfl
  rw[e] at hk
  subst hz
  exact ⟨⟨⟨hf,hn⟩,by show xs.length+H8 (a5q (.agg (eVk i y)))+3≤_;omega⟩,hk⟩
 refine f5 (its:=u6 47 z) hr hT (fun g hr hk=>?_) fun nl' xs' hr hT=>?_
 ·
  have hc:A2 (A0 y 14)=A2 (A0 z 14):=by subst hz;rfl
  rw[hc]
  exact ⟨Nat.le_trans hx (by decide),gel (d:=qDD z 14) rfl hr hk⟩
 have hA:g4k κ (A3 (A0 z 15)):=by
  refine ⟨?_,fun a ha=>⟨hE.a ha, ?_⟩⟩
  ·
   have:=d4b z
   have:=b4o (xs:=F0 z 15)
   unfold F0 at *
   omega
  ·
   have:=J0 (y:=z) (i:=15) ha
   omega
 have hs:A3 (A0 y 15)=A3 (A0 z 15):=by subst hz;rfl
 rw[hs]
 refine ⟨⟨rfl,rfl,rfl,rfl,rfl,hz▸d9j h1 y,hA,hr⟩, ?_⟩
 unfold a4c
 rw[hT]
 subst hz
 exact hR
noncomputable def prS (y:D):ByteArray:=bif E1 y !=0 then ByteArray.mk (Array.mk []) else n8 y
structure b5j (y:D):Prop where
 f:C8 y
 b:Bd y
 t:E1 y=0→ETx y
noncomputable def c28:Ct:=⟨fun | [x]=>b5j x|_=>False,fun | [x]=>some (.tup [.lit (.string (prS x)),m4 (E1 x)])|_=>none⟩
noncomputable def eqB (x y:D):Bool:=bif bif E1 x==0 then E1 y==0 else false then (prS x).toList==(prS y).toList else false
noncomputable def g7u:Ct:=⟨fun | [x,y]=>b5j x∧b5j y|_=>False,fun | [x,y]=>some (.lit (.bool (eqB x y)))|_=>none⟩
noncomputable def l31:Code:=F5 (F9 (B2 Tryz.f31) 8)
noncomputable def g9f:J5:=g3j.add 60 (b3v E0k n8)
def h27:Nat→Option a2e:=fun id=>match id with
 | 4=>some {ads:=[.cell [7] 1 5 1 [5001], .opt [7] 0 [7] 0] }
 | _=>none
theorem w27 (y:D) (p:V→Prop):(C2 (Cn T88) T88 (K4 g9f) 0 B6 h27 27 [V.d (eV y)] A9.empty fun v H=>p (B5 H v)) =
 (C8 (eV y)∧
 (bif E1 (eV y) !=0 then
 p (V.d (D.tup [zD (bA []),iD (E1 (eV y))])) else
 (True∧
 ((b3v E0k n8).pre [V.ptr [0,0] 0,V.d (eV y)]
 [Box.cells 75 [V.opt [0,0] 0,V.ref [0,1],V.d (D.map N5),A7 true],
 Box.arr true true 5 1 [] []]∧
 (f2s.pre [V.ptr [0,0] 0]
 [Box.cells 75 [V.opt [0,0] 0,V.ref [0,1],V.d (D.map N5),A7 false],
 Box.arr true false 5 1 (B7 true [] (n8 (eV y))) []]∧
 p (V.d (D.tup [zD (c4f (B7 true [] (n8 (eV y)))),iD 0]))))))):=by kernel_rfl
noncomputable def T27:Tab:=T88.add 27 c28
theorem d9h {pre:D→D→Prop} {f:D→ByteArray} {y t:D} {fi nl:Bool} {xs:List D} (h1:pre t y) (h2:xs.length+1+(f y).size+1≤70368744177664):(b3v pre f).pre [.ptr [0,0] 0, .d y] [wB [0,1] t fi,buf nl xs]:=⟨h1,h2⟩
theorem f7p {y:D} (h:ETx y):E0k tK y:=⟨rfl,h⟩
theorem h4b {κ:Nat} (hk:H5 B (U60 κ)):OkS (Cn T88) 6 (.loop l85) (S85 κ):=by
 refine F3 fun M vals bs K h=>?_
 simp only[S85] at h
 split at h
 case h_2=>exact h.elim
 rename_i b z ys n i ks fs cs t fi nl0 xs0 nl xs
 obtain ⟨⟨rfl,rfl,rfl,rfl,rfl,⟨k,f,c,rfl,rfl,rfl⟩,hall,hr⟩,h⟩:=h
 refine d8e (vals:=fun i=>[.ptr [0,0] 0, .ptr [0,1] 0, .ptr [0,2] 0, .ptr [0,3] 0, .d (.slice b 16 ys),A4 ys.length,A4 i]) (bsO:=fun fi r=>[hB [0,4], .cells 104 (v14 k), .cells 102 (v10 f), .cells 33 (v16 c),wN [0,4] [5000] tK fi,S2 nl0 xs0,r]) (e:=0) (valsX:=[]) ys eD 1 (fun i fi nl xs hi hr hK=>?_) (fun fi nl xs hK=>?_) ys 0 fi nl xs rfl (by simp) hr h
 ·
  refine C1 (M7 B9 k88 hk) C4 A8 (hn:=B1) (adsI:=[]) (nsI:=xI [98,2]) (nsX:=xI [5000]) rfl rfl (keep (b85 κ k f c tK fi nl nl0 b xs xs0 ys ys.length i _) ?_)
  obtain ⟨e1,e2⟩:=b9i hi hall.1
  have hm:=hall.2 _ (F4 hi)
  have hnl:G6 fi nl (A2 (eD (ys.getD i .any)))=false:=by
   show G6 fi nl (n8 (ys.getD i .any))=false
   rw[a9p];exact b4i
  rw[hnl] at hK
  simp only[e1,Int.toNat_natCast,e2,cond_true]
  have hv:eV (ys.getD i .any)=ys.getD i .any:=hm.1.l.1.v
  have hpre:=d9h (pre:=ETk κ) (f:=n8) (t:=tK) (fi:=fi) (nl:=nl) ⟨f7p hm.1,hm.2⟩ hr
  refine ⟨⟨by omega,hi,hv⟩, ?_,(by trivial), ?_⟩
  ·
   rw[hv];exact hpre
  ·
   rw[hv];exact hK
 ·
  refine C1 (M7 B9 k88 hk) C4 A8 (hn:=B1) (adsI:=[]) (nsI:=xI [98,2]) (nsX:=xI [5000]) rfl rfl (keep (b85 κ k f c tK fi nl nl0 b xs xs0 ys ys.length ys.length _) ?_)
  rw[b9h]
  exact ⟨(by trivial),hK⟩
theorem f8e {i:Nat} (h:1≤i∧i≤13):W85 i:=b5e (p:=W85) ⟨g5a,g4z,g4y,g4x,g4w,g4v,g4u,g4t,g4s,f8i,f8h,f8g,f8f⟩ h
theorem f8j {i:Nat} (h:1≤i∧i≤13):W60 i:=b5e (p:=W60) ⟨g5j,g5i,g5h,g5g,g5f,g5e,g5d,g5c,g5b,f8o,f8n,f8m,f8k⟩ h
theorem q85 {κ:Nat} (hk:H5 B (U60 κ)):H5 B (U85 κ):=by
 refine M8 hk fun vals bs c x y hp hf=>?_
 unfold f8x at hp hf
 simp only[] at hp hf
 split at hf
 case h_2=>cases hf
 rename_i ks fs cs t fi nl xs
 simp only[one,Option.some.injEq,Prod.mk.injEq] at hf
 obtain ⟨rfl,rfl,rfl⟩:=hf
 obtain ⟨⟨i,y,h1,rfl,rfl,rfl,rfl,hE,hd⟩,hr⟩:=hp
 refine E9 B9 k88 hk (fn:=Tryz.f85) (cd:=B2 Tryz.f85) (sp:=spL [(46,S85 κ)]) (hn:=h85) (k:=6) (ads:=adE) (ends:=eC7) Tryz.func85 (by kernel_rfl) (by kernel_rfl) (by kernel_rfl) (by kernel_rfl) (C9 (c:=.loop l85) (by kernel_rfl) (h4b hk) E5) rfl rfl (keep (f8e h1 κ y fi nl xs _) ?_)
 exact g2n h1 hE hd hr ⟨rfl,rfl⟩
theorem h3q {κ:Nat} (hk:H5 B (U60 κ)):H5 B (g9c κ):=by
 refine f6x (q85 hk) rfl fun vals bs c x y hp hf=>?_
 unfold f8w at hp hf
 simp only[] at hp hf
 split at hf
 case h_2=>cases hf
 rename_i t fi ks fs cs nl xs
 simp only[one,Option.some.injEq,Prod.mk.injEq] at hf
 obtain ⟨rfl,rfl,rfl⟩:=hf
 obtain ⟨hE,hr⟩:=hp
 have hE':=hE
 obtain ⟨i,y,h1,rfl,rfl,rfl,rfl,_,_⟩:=hE'
 obtain ⟨k,f,c,ek,ef,ec⟩:=d9j h1 y
 rw[ek,ef,ec] at hE ⊢
 rw[ec] at hr
 have hr:xs.length+H8 (wIt (yOf (v16 c)))+3≤70368744177664:=hr
 refine E9 B9 k88 (q85 hk) (fn:=Tryz.f84) (cd:=B2 Tryz.f84) (sp:=B6) (hn:=B1) (k:=6) (ads:=adW) (ends:=g7o) Tryz.func84 (by kernel_rfl) (by kernel_rfl) (by kernel_rfl) (by kernel_rfl) A8 rfl rfl (keep (g9o κ k f c tK fi nl xs _) ?_)
 have h1:(B7 fi xs o9).length≤xs.length+1+1:=P8 fi xs o9
 have h2:=k9 (wIt (yOf (v16 c))) true (G6 fi nl o9) (B7 fi xs o9)
 refine ⟨by show xs.length+1+1≤70368744177664;omega,⟨hE,by show _≤70368744177664;omega⟩,by show (C7 true (G6 fi nl o9) (B7 fi xs o9) (wIt (yOf (v16 c)))).2.length+1≤70368744177664;omega, ?_⟩
 rw[c9u]
 exact ⟨rfl,rfl⟩
theorem f2g (z:D):wIt z=a4t z++(A3 (A0 z 15)).map eD:=by
 have h1:∀r,D9 15 z++(D9 19 z++(D9 23 z++r))=D9 23 z++(D9 15 z++(D9 19 z++r)):=fun r=>by
  have:=congrArg (· ++ r) (e3f z);simpa [List.append_assoc] using this
 have h2:∀r,D9 27 z++(D9 31 z++r)=D9 31 z++(D9 27 z++r):=fun r=>by
  have:=congrArg (· ++ r) (d2c z);simpa [List.append_assoc] using this
 unfold wIt a4t
 simp only[List.append_assoc]
 rw[h1,h2]
theorem e8x (z:D):n8 z=G7 (wIt z):=by rw[a9p,f2g]
theorem q60:H5 B g9f:=d9g h3r dsz fun n hk t y fi nl xs hp hn hr=>by
 obtain ⟨rfl,hE⟩:=hp
 have hv:=hE.l.1.v
 obtain ⟨k0,k1⟩:=hE.l.2.1
 have k1:(kd y).toNat<14:=k1
 obtain ⟨i,hi⟩:∃i:Nat,kd y=i:=⟨(kd y).toNat,by omega⟩
 have h13:1≤i∧i≤13:=⟨by omega,by omega⟩
 have he:D.agg (eVk i y)=y:=by
  have:D.agg (eVk i y)=eV y:=by
   show D.agg (.lit (.int .i64 (i:Int))::_)=D.agg (.lit (.int .i64 (A1 (A0 y 0)))::_)
   rw[show A1 (A0 y 0)=(i:Int) from hi]
  rw[this,hv]
 rw[show ([V.ptr [0,0] 0, .d y]:List V)= [.ptr [0,0] 0, .d (.agg (eVk i y))] by rw[he]]
 refine E9 B9 k88 (h3q (κ:=n) hk) (fn:=Tryz.f60) (cd:=B2 Tryz.f60) (sp:=B6) (hn:=B1) (k:=2) (ads:=adW) (ends:=eW3 20) Tryz.func60 (by kernel_rfl) (by kernel_rfl) (by kernel_rfl) (by kernel_rfl) A8 rfl rfl (keep (f8j h13 n y fi nl xs _) ?_)
 have hl:=W4 (wIt y)
 rw[e8x] at hr ⊢
 refine ⟨by rw[he];exact hE.l.1,⟨⟨i,y,h13,rfl,rfl,rfl,rfl,by rw[he];exact hE,by rw[he];omega⟩,by show xs.length+H8 (wIt (.agg (eVk i y)))+3≤_;rw[he];omega⟩,rfl, ?_⟩
 rw[he]
 rfl
theorem d7m (s:ByteArray):e5n (D5 s):=fun d hd=>by
 unfold D5 at hd
 obtain ⟨c,_,rfl⟩:=List.mem_map.1 hd
 have:=c.toNat_lt
 simp[a6z];omega
theorem d5j (s:ByteArray):c4f (D5 s)=s:=by
 unfold c4f D5
 rw[List.map_map]
 have:(s.data.toList.map ((fun d=>UInt8.ofNat (A1 d).toNat) ∘ fun c=>D.lit (.int .u8 (c.toNat:Nat))))=s.data.toList:=by
  conv=>rhs;rw[←List.map_id s.data.toList]
  exact List.map_congr_left fun c _=>by simp[A1]
 rw[this]
theorem k27:D0 B T27:=by
 refine b6n B9 k88 q60 (fn:=Tryz.f27) (cd:=B2 Tryz.f27) (sp:=B6) (hn:=h27) Tryz.func27 (by kernel_rfl) (by kernel_rfl) A8 fun ds r hp hr=>?_
 unfold c28 at hp hr
 simp only[] at hr hp
 split at hr
 ·
  rename_i y
  cases hr
  rw[a6s hp.f.v]
  refine keep (w27 y fun v=>v=_) ?_
  rw[hp.f.v]
  unfold prS
  refine ⟨hp.f,A5 (fun g=>?_) (fun g=>?_)⟩
  ·
   simp only[g,cond_true]
  ·
   have g0:E1 y=0:=by simpa using g
   have hE:=hp.t g0
   have hlen:=g7n hE (Nat.lt_succ_self _)
   have:M3 y*68719476736≤100*68719476736:=Nat.mul_le_mul_right _ hE.l.2.2.1
   have hb:B7 true [] (n8 y)=D5 (n8 y):=by simp[B7]
   simp only[g0]
   refine ⟨(by trivial),d9h (f7p hE) ?_, ?_, ?_⟩
   ·
    simp only[List.length_nil];omega
   ·
    rw[hb]
    refine ⟨d7m _,fun e=>?_⟩
    have h1:=m8 (n8 y)
    have h2:=W4 (wIt y)
    rw[←e8x] at h2
    rw[e] at h1;simp at h1;omega
   ·
    rw[hb,d5j];rfl
 ·
  cases hr
end Go.Ev.R2
end
section
namespace Go.Ev.R2
open Go Go.Ev Go.Proofs
def a2j (c:UInt8):Prop:=c≠32∧c≠34∧c≠40∧c≠41
def b7v (c:UInt8):List UInt8:=if c=92 then [92,92] else if c=34 then [92,34] else if c=10 then [92,110] else [c]
def o3 (xs:List (List UInt8)):List UInt8:=(xs.map fun x=>32::x).flatten
def a2t:List (List UInt8)→List UInt8
 | []=>[]
 | x::r=>x++o3 r
inductive Tok:List UInt8→Prop
 | w {s:List UInt8}:s≠ []→(∀c∈s,a2j c)→Tok s
 | q (s:List UInt8):Tok (34::((s.map b7v).flatten++ [34]))
 | l {xs:List (List UInt8)}:(∀x∈xs,Tok x)→Tok (40::(a2t xs++ [41]))
def Bdr (u:List UInt8):Prop:=u= []∨∃t,u=32::t∨u=41::t
theorem e2f {c:UInt8} {u:List UInt8} (h:Bdr (c::u)):¬a2j c:=fun hw=>by
 rcases h with h|⟨t,h|h⟩
 ·
  cases h
 ·
  injection h with h _;exact hw.1 h
 ·
  injection h with h _;exact hw.2.2.2 h
theorem c8z:∀{s t u v:List UInt8},(∀c∈s,a2j c)→(∀c∈t,a2j c)→Bdr u→Bdr v→s++u=t++v→s=t∧u=v
 | [], [],_,_,_,_,_,_,h=>⟨rfl,h⟩
 | [],c::t,u,v,_,ht,hu,_,h=>by
  simp only[List.nil_append,List.cons_append] at h
  subst h
  exact absurd (ht c (by simp)) (e2f hu)
 | c::s, [],u,v,hs,_,_,hv,h=>by
  simp only[List.nil_append,List.cons_append] at h
  subst h
  exact absurd (hs c (by simp)) (e2f hv)
 | c::s,d::t,u,v,hs,ht,hu,hv,h=>by
  simp only[List.cons_append,List.cons.injEq] at h
  obtain ⟨rfl,h⟩:=h
  obtain ⟨rfl,h2⟩:=c8z (fun x hx=>hs x (by simp[hx])) (fun x hx=>ht x (by simp[hx])) hu hv h
  exact ⟨rfl,h2⟩
theorem f4o {c d:UInt8} {a b:List UInt8} (h:b7v c++a=b7v d++b):c=d∧a=b:=by
 unfold b7v at h
 by_cases c1:c=92<;>by_cases c2:c=34<;>by_cases c3:c=10<;>by_cases d1:d=92<;>by_cases d2:d=34<;>by_cases d3:d=10<;>simp_all
theorem d9r:∀{s t u v:List UInt8},(s.map b7v).flatten++34::u=(t.map b7v).flatten++34::v→s=t∧u=v
 | [], [],u,v,h=>by simpa using h
 | [],d::t,u,v,h=>by
  exfalso
  simp only[List.map_nil,List.flatten_nil,List.nil_append,List.map_cons,List.flatten_cons] at h
  unfold b7v at h
  split at h
  ·
   simp at h
  ·
   split at h
   ·
    simp at h
   ·
    split at h
    ·
     simp at h
    ·
     rename_i h1 h2 h3
     simp only[List.cons_append,List.cons.injEq] at h
     exact h2 h.1.symm
 | c::s, [],u,v,h=>by
  exfalso
  simp only[List.map_nil,List.flatten_nil,List.nil_append,List.map_cons,List.flatten_cons] at h
  unfold b7v at h
  split at h
  ·
   simp at h
  ·
   split at h
   ·
    simp at h
   ·
    split at h
    ·
     simp at h
    ·
     rename_i h1 h2 h3
     simp only[List.cons_append,List.cons.injEq] at h
     exact h2 h.1
 | c::s,d::t,u,v,h=>by
  simp only[List.map_cons,List.flatten_cons,List.append_assoc] at h
  obtain ⟨he,h1⟩:=f4o h
  obtain ⟨hs,h2⟩:=d9r h1
  exact ⟨by rw[he,hs],h2⟩
theorem b3k {x:List UInt8} (h:Tok x):∃c t,x=c::t∧c≠41∧c≠32:=by
 cases h with
 | w hne hw =>
  cases x with
  | nil=>exact absurd rfl hne
  | cons c t=>exact ⟨c,t,rfl,(hw c (by simp)).2.2.2,(hw c (by simp)).1⟩
 | q s=>exact ⟨_,_,rfl,by decide,by decide⟩
 | l hx=>exact ⟨_,_,rfl,by decide,by decide⟩
theorem d4v (xs:List (List UInt8)) (u:List UInt8):Bdr (o3 xs++41::u):=by
 cases xs with
 | nil=>exact .inr ⟨u, .inr rfl⟩
 | cons x r=>exact .inr ⟨_, .inl rfl⟩
theorem b9e:∀{xs ys:List (List UInt8)} {u v:List UInt8},(∀x∈xs,∀{y u v:List UInt8},Tok y→x++u=y++v→Bdr u→Bdr v→x=y∧u=v)→(∀y∈ys,Tok y)→o3 xs++41::u=o3 ys++41::v→xs=ys∧u=v
 | [], [],u,v,_,_,h=>by simpa [o3] using h
 | [],y::ys,u,v,_,_,h=>by simp[o3] at h
 | x::xs, [],u,v,_,_,h=>by simp[o3] at h
 | x::xs,y::ys,u,v,hx,hy,h=>by
  have h:x++(o3 xs++41::u)=y++(o3 ys++41::v):=by
   simp only[o3,List.map_cons,List.flatten_cons,List.cons_append,List.cons.injEq,true_and,List.append_assoc] at h ⊢
   exact h
  obtain ⟨he,h1⟩:=hx x (by simp) (hy y (by simp)) h (d4v _ _) (d4v _ _)
  obtain ⟨hs,h2⟩:=b9e (fun z hz=>hx z (by simp[hz])) (fun z hz=>hy z (by simp[hz])) h1
  exact ⟨by rw[he,hs],h2⟩
theorem f2k {x:List UInt8} (hx:Tok x):∀{y u v:List UInt8},Tok y→x++u=y++v→Bdr u→Bdr v→x=y∧u=v:=by
 induction hx with
 | w hne hw =>
  intro y u v hy h hu hv
  rename_i s
  obtain ⟨c,t,rfl⟩:∃c t,s=c::t:=by
   cases s with
   | nil=>exact absurd rfl hne
   | cons c t=>exact ⟨c,t,rfl⟩
  have hc:=hw c (by simp)
  cases hy with
  | w hne' hw'=>exact c8z hw hw' hu hv h
  | q s=>simp only[List.cons_append,List.cons.injEq] at h;exact absurd h.1 hc.2.1
  | l hx=>simp only[List.cons_append,List.cons.injEq] at h;exact absurd h.1 hc.2.2.1
 | q s =>
  intro y u v hy h hu hv
  cases hy with
  | w hne' hw' =>
   cases y with
   | nil=>exact absurd rfl hne'
   | cons c t=>simp only[List.cons_append,List.cons.injEq] at h;exact absurd h.1.symm (hw' c (by simp)).2.1
  | q t =>
   simp only[List.cons_append,List.cons.injEq,true_and,List.append_assoc,List.nil_append] at h
   obtain ⟨he,h1⟩:=d9r h
   exact ⟨by rw[he],h1⟩
  | l hx=>simp at h
 | l hx ih =>
  intro y u v hy h hu hv
  rename_i xs
  cases hy with
  | w hne' hw' =>
   cases y with
   | nil=>exact absurd rfl hne'
   | cons c t=>simp only[List.cons_append,List.cons.injEq] at h;exact absurd h.1.symm (hw' c (by simp)).2.2.1
  | q t=>simp at h
  | l hy =>
   rename_i ys
   simp only[List.cons_append,List.cons.injEq,true_and,List.append_assoc,List.nil_append] at h
   cases xs with
   | nil =>
    cases ys with
    | nil=>simpa [a2t] using h
    | cons y ys =>
     obtain ⟨c,t,rfl,h1,h2⟩:=b3k (hy y (by simp))
     simp only[a2t,List.nil_append,List.cons_append,List.cons.injEq] at h
     exact absurd h.1.symm h1
   | cons x xs =>
    cases ys with
    | nil =>
     obtain ⟨c,t,rfl,h1,h2⟩:=b3k (hx x (by simp))
     simp only[a2t,List.nil_append,List.cons_append,List.cons.injEq] at h
     exact absurd h.1 h1
    | cons y ys =>
     have h:o3 (x::xs)++41::u=o3 (y::ys)++41::v:=by
      simp only[a2t,o3,List.map_cons,List.flatten_cons,List.cons_append,List.append_assoc] at h ⊢
      rw[h]
     obtain ⟨h1,h2⟩:=b9e (fun z hz=>ih z hz) hy h
     rw[h1]
     exact ⟨rfl,h2⟩
abbrev byt (s:ByteArray):List UInt8:=s.data.toList
abbrev K8 (y:D):List UInt8:=byt (A2 y)
theorem d2y:∀(l:List D) (a:ByteArray),byt (u5 false a l)=byt a++o3 (l.map K8)
 | [],a=>by simp[u5,o3]
 | x::r,a=>by
  unfold u5
  rw[d2y r]
  simp[o3,ByteArray.data_append]
theorem c2p (l:List D):byt (G7 l)=40::(a2t (l.map K8)++ [41]):=by
 unfold G7
 cases l with
 | nil=>rfl
 | cons x r =>
  unfold u5
  simp only[cond_true]
  show byt (_++_)=_
  simp only[byt,ByteArray.data_append,Array.toList_append]
  have:=d2y r (ByteArray.mk (Array.mk [40])++A2 x)
  simp only[byt] at this
  rw[this]
  simp[a2t,ByteArray.data_append]
def V1 (l:List D):Prop:=∀y∈l,Tok (K8 y)
theorem p8 {l:List D} (h:V1 l):Tok (byt (G7 l)):=by
 rw[c2p]
 refine .l fun x hx=>?_
 obtain ⟨y,hy,rfl⟩:=List.mem_map.1 hx
 exact h y hy
theorem a8f {l m:List D} (hl:V1 l) (hm:V1 m) (h:byt (G7 l)=byt (G7 m)):l.map K8=m.map K8:=by
 rw[c2p,c2p] at h
 have tk:∀l:List D,V1 l→∀x∈l.map K8,Tok x:=fun l hl x hx=>by
  obtain ⟨y,hy,rfl⟩:=List.mem_map.1 hx
  exact hl y hy
 have key:∀xs ys:List (List UInt8),(∀x∈xs,Tok x)→(∀y∈ys,Tok y)→a2t xs++ [41]=a2t ys++ [41]→xs=ys:=by
  intro xs ys hx hy h
  cases xs with
  | nil =>
   cases ys with
   | nil=>rfl
   | cons y ys =>
    obtain ⟨c,t,rfl,h1,h2⟩:=b3k (hy y (by simp))
    simp only[a2t,List.nil_append,List.cons_append,List.cons.injEq] at h
    exact absurd h.1.symm h1
  | cons x xs =>
   cases ys with
   | nil =>
    obtain ⟨c,t,rfl,h1,h2⟩:=b3k (hx x (by simp))
    simp only[a2t,List.nil_append,List.cons_append,List.cons.injEq] at h
    exact absurd h.1 h1
   | cons y ys =>
    have h:o3 (x::xs)++ [41]=o3 (y::ys)++ [41]:=by
     simp only[a2t,o3,List.map_cons,List.flatten_cons,List.cons_append,List.append_assoc] at h ⊢
     rw[h]
    exact (b9e (fun z hz=>f2k (hx z hz)) hy h).1
 refine key _ _ (tk l hl) (tk m hm) ?_
 simpa using h
end Go.Ev.R2
end
section
namespace Go.Ev.R2
open Go Go.Ev Go.Proofs
set_option maxRecDepth 100000
theorem b2k {β:Type} {f:Nat→Option β} {len:Nat} (h:B4 f len=none):∀j,j<len→f j=none:=by
 have key:∀n i,rounds (fun i _=>S5 (f i)) n i ()= .inl ()→∀j,i≤j→j<i+n→f j=none:=by
  intro n
  induction n with
  | zero=>intro i _ j h1 h2;omega
  | succ n ih =>
   intro i hr j h1 h2
   unfold rounds at hr
   cases hf:f i with
   | some e=>simp only[hf,S5] at hr;cases hr
   | none =>
    simp only[hf,S5] at hr
    by_cases hj:j=i
    ·
     subst hj;exact hf
    ·
     exact ih (i+1) hr j (by omega) (by omega)
 unfold B4 at h
 cases hr:rounds (fun i _=>S5 (f i)) len 0 () with
 | inr b=>rw[hr] at h;cases h
 | inl u=>exact fun j hj=>key _ 0 hr j (by omega) (by omega)
theorem b2j {β:Type} {f:Nat→Option β} {len:Nat} {e:β} (h:B4 f len=some e):∃j,f j=some e:=by
 have key:∀n i,rounds (fun i _=>S5 (f i)) n i ()= .inr e→∃j,f j=some e:=by
  intro n
  induction n with
  | zero=>intro i h;cases h
  | succ n ih =>
   intro i hr
   unfold rounds at hr
   cases hf:f i with
   | none=>simp only[hf,S5] at hr;exact ih _ hr
   | some x=>simp only[hf,S5] at hr;cases hr;exact ⟨i,hf⟩
 unfold B4 at h
 cases hr:rounds (fun i _=>S5 (f i)) len 0 () with
 | inr b=>rw[hr] at h;cases h;exact key _ _ hr
 | inl u=>rw[hr] at h;cases h
theorem a9f {s:ByteArray} (h:K7 s=true):s.size≤60:=by
 unfold K7 at h
 simp only[Bool.and_eq_true,decide_eq_true_eq] at h
 exact h.1.1.2
theorem e6n {s:ByteArray} (h:a9y s=0):s.size≤200:=by
 unfold a9y at h
 have:=(E7 (by decide) h).1
 simp at this;omega
theorem b7h {xs:List D} {a:D} (h:a∈xs):∃j,j<xs.length∧xs.getD j .any=a:=by
 obtain ⟨j,hj,rfl⟩:=List.getElem_of_mem h
 exact ⟨j,hj,by rw[List.getD_eq_getElem?_getD,List.getElem?_eq_getElem hj];rfl⟩
theorem f3q {y:D} (hf:a4h y) (h:a2x y=0):MTx y:=by
 unfold a2x at h
 obtain ⟨h1,h⟩:=E7 (by decide) h
 obtain ⟨h2,h⟩:=E7 (by decide) h
 obtain ⟨a,b⟩:=w3 h1
 have a:=of_decide_eq_false a
 have b:=of_decide_eq_false b
 have hn:K7 (A2 (A0 y 1))=true:=by
  rw[←a4z];simpa using h2
 have:=a9f hn
 refine ⟨hf,by omega,by show (A1 (A0 y 0)).toNat<7;omega,by omega, ?_⟩
 cases hc:(bif A1 (A0 y 0)==3 then true else A1 (A0 y 0)==4) with
 | true=>rw[hc] at h;simp only[cond_true] at h;have:=e6n h;omega
 | false =>
  rw[hc] at h
  simp only[cond_false] at h
  have h3:=of_decide_eq_false (E7 (by decide) h).1
  omega
theorem b7d {xs:List D} (hf:∀y∈xs,a4h y) (h:Q8 xs=0):c4o xs:=by
 unfold Q8 at h
 obtain ⟨h1,h⟩:=E7 (by decide) h
 have h1:=of_decide_eq_false h1
 refine ⟨by omega,fun y hy=>f3q (hf y hy) ?_⟩
 cases hs:B4 (E0 a2x xs) xs.length with
 | none=>exact k7 hs y hy
 | some e=>rw[hs] at h;exact absurd h (z8 hs)
theorem d2g {xs:List D} {sp:Bool} (hf:∀y∈xs,a7j y) (h:p5 xs sp=0):e5m xs:=by
 unfold p5 at h
 obtain ⟨h1,h⟩:=E7 (by decide) h
 have h1:=of_decide_eq_false h1
 refine ⟨by omega,fun y hy=>⟨hf y hy, ?_⟩⟩
 cases hs:B4 (Z1 sp xs) xs.length with
 | none =>
  obtain ⟨j,hj,rfl⟩:=b7h hy
  have hn:=b2k hs j hj
  unfold Z1 at hn
  cases hb:K7 (A2 (xs.getD j .any)) with
  | true=>have:=a9f hb;omega
  | false=>rw[hb] at hn;cases hn
 | some e =>
  rw[hs] at h
  obtain ⟨j,hj⟩:=b2j hs
  unfold Z1 at hj
  have h:e=0:=h
  subst h
  revert hj
  cases (bif !K7 (A2 (xs.getD j .any)) then true else bif (bif sp then !eqS (A2 (xs.getD j .any)) (ByteArray.mk #[110,97,109,101]) else false) then !eqS (A2 (xs.getD j .any)) (ByteArray.mk #[115,101,114,118,105,99,101]) else false)<;>cases (bif decide ((j:Int)>0) then leS (A2 (xs.getD j .any)) (A2 (xs.getD (j-1) .any)) else false)<;>simp
theorem b5b {s t:ByteArray} (h:(s.toList==t.toList)=true):s.size=t.size:=by
 have h:s.toList=t.toList:=by simpa using h
 rw[ByteArray.toList_eq,ByteArray.toList_eq] at h
 exact congrArg List.length h
theorem b3b {s:ByteArray} (h:(s.toList==(ByteArray.mk #[]).toList)=true):s.size=0:=b5b h
theorem e5z {y:D} (hf:a4g y) (h:k6 y=0):STx y:=by
 unfold k6 at h
 obtain ⟨h1,h⟩:=E7 (by decide) h
 obtain ⟨a,b⟩:=w3 h1
 have a:=of_decide_eq_false a
 have b:=of_decide_eq_false b
 obtain ⟨h2,h⟩:=E7 (by decide) h
 obtain ⟨h3,h4⟩:=w3 h2
 obtain ⟨h5,h6⟩:=w3 h3
 have hk:(A1 (A0 y 0)).toNat<L9.length:=by show _<9;omega
 have nm:(A3 (A0 y 2)).length≠0→A1 (A0 y 0)=5:=fun hn=>by
  have:decide ((↑(A3 (A0 y 2)).length:Int)>0)=true:=by simp;omega
  rw[this] at h6
  simpa using h6
 have nn:(A3 (A0 y 3)).length≠0→A1 (A0 y 0)≥6:=fun hn=>by
  have:decide ((↑(A3 (A0 y 3)).length:Int)>0)=true:=by simp;omega
  rw[this] at h4
  simpa using h4
 have nx:(A2 (A0 y 1)).size≠0→A1 (A0 y 0)≤3:=fun hn=>by
  cases he:(A2 (A0 y 1)).toList==(ByteArray.mk #[]).toList with
  | true=>exact absurd (b3b he) hn
  | false =>
   rw[he] at h5
   simpa using h5
 have e2:A1 (A0 y 0)≠5→c4o (A3 (A0 y 2)):=fun hn=>by
  have:(A3 (A0 y 2)).length=0:=Classical.byContradiction fun hc=>hn (nm hc)
  rw[List.eq_nil_of_length_eq_zero this]
  exact ⟨by simp,fun y hy=>by simp at hy⟩
 have e3:¬A1 (A0 y 0)≥6→e5m (A3 (A0 y 3)):=fun hn=>by
  have:(A3 (A0 y 3)).length=0:=Classical.byContradiction fun hc=>hn (nn hc)
  rw[List.eq_nil_of_length_eq_zero this]
  exact ⟨by simp,fun y hy=>by simp at hy⟩
 have e1:¬A1 (A0 y 0)≤3→(A2 (A0 y 1)).size≤4096:=fun hn=>by
  have:(A2 (A0 y 1)).size=0:=Classical.byContradiction fun hc=>hn (nx hc)
  omega
 refine ⟨hf,by omega,hk, ?_⟩
 have hcase:A1 (A0 y 0)=1∨A1 (A0 y 0)=2∨A1 (A0 y 0)=3∨A1 (A0 y 0)=4∨A1 (A0 y 0)=5∨(A1 (A0 y 0)≥6∧(A1 (A0 y 0)==1)=false∧(A1 (A0 y 0)==2)=false∧(A1 (A0 y 0)==3)=false∧(A1 (A0 y 0)==5)=false):=by
  by_cases h6:A1 (A0 y 0)≥6
  ·
   right;right;right;right;right
   refine ⟨h6, ?_, ?_, ?_, ?_⟩<;>(simp;omega)
  ·
   omega
 rcases hcase with hk|hk|hk|hk|hk|⟨hk,g1,g2,g3,g5⟩
 ·
  rw[hk] at h
  simp only[Int.reduceBEq,cond_true,cond_false] at h
  have:=of_decide_eq_false (E7 (by decide) (E7 (by decide) h).2).1
  exact ⟨by omega,e2 (by omega),e3 (by omega)⟩
 ·
  rw[hk] at h
  simp only[Int.reduceBEq,cond_true,cond_false] at h
  have:=of_decide_eq_false (E7 (by decide) (E7 (by decide) h).2).1
  exact ⟨by omega,e2 (by omega),e3 (by omega)⟩
 ·
  rw[hk] at h
  simp only[Int.reduceBEq,cond_true,cond_false] at h
  have:=e6n h
  exact ⟨by omega,e2 (by omega),e3 (by omega)⟩
 ·
  exact ⟨e1 (by omega),e2 (by omega),e3 (by omega)⟩
 ·
  rw[hk] at h
  simp only[Int.reduceBEq,cond_true,cond_false] at h
  exact ⟨e1 (by omega),b7d hf.m h,e3 (by omega)⟩
 ·
  rw[g1,g2,g3,g5] at h
  simp only[cond_false] at h
  exact ⟨e1 (by omega),e2 (by omega),d2g hf.n h⟩
theorem e2s {xs:List D} (hf:∀y∈xs,a4g y) (h:o4 xs=0):d5g xs:=by
 unfold o4 at h
 obtain ⟨h1,h⟩:=E7 (by decide) h
 have h1:=of_decide_eq_false h1
 refine ⟨by omega,fun y hy=>e5z (hf y hy) ?_⟩
 cases hs:B4 (E0 k6 xs) xs.length with
 | none=>exact k7 hs y hy
 | some e=>rw[hs] at h;exact absurd h (z8 hs)
theorem d7f {c:Bool} {a k:Int} (hk:k≠0) (h:(bif c then a else k)=0):c=true∧a=0:=by
 cases c with
 | true=>exact ⟨rfl,h⟩
 | false=>exact absurd h hk
theorem d6c {s:ByteArray} (h:J6 s=true):s.size≤8:=by
 unfold J6 eqS at h
 rcases Bool.or_eq_true _ _ |>.mp h with h|h
 ·
  have:=b5b h;rw[this];decide
 ·
  have:=b5b h;rw[this];decide
theorem e2a {y:D} (hf:a5f y) (h:W2 y=0):CTx y:=by
 unfold W2 at h
 cases hn:J6 (A2 (A0 y 0)) with
 | true =>
  rw[hn] at h
  simp only[cond_true] at h
  obtain ⟨h1,h⟩:=E7 (by decide) h
  obtain ⟨h2,h⟩:=E7 (by decide) h
  obtain ⟨h3,h⟩:=E7 (by decide) h
  obtain ⟨a,b⟩:=w3 h3
  have a:=of_decide_eq_false a
  have b:=of_decide_eq_false b
  have h2:=b3b (s:=A2 (A0 y 2)) (by simpa using h2)
  have ho:A1 (A0 y 1)=1∨A1 (A0 y 1)=2∨A1 (A0 y 1)=5∨A1 (A0 y 1)=6:=Classical.byContradiction fun hc=>by
   have a1:(A1 (A0 y 1) !=1)=true:=by simp;omega
   have a2:(A1 (A0 y 1) !=2)=true:=by simp;omega
   have a3:(A1 (A0 y 1) !=5)=true:=by simp;omega
   have a4:(A1 (A0 y 1) !=6)=true:=by simp;omega
   rw[a1,a2,a3,a4] at h1
   cases h1
  have:=d6c hn
  exact ⟨hf,by omega,by show (A1 (A0 y 1)).toNat<7;omega,by omega,by omega,fun _=>⟨by omega,by omega⟩⟩
 | false =>
  rw[hn] at h
  simp only[cond_false] at h
  obtain ⟨h1,h⟩:=d7f (by decide) h
  obtain ⟨h2,h⟩:=E7 (by decide) h
  obtain ⟨h3,h⟩:=E7 (by decide) h
  obtain ⟨a,b⟩:=w3 h2
  have a:=of_decide_eq_false a
  have b:=of_decide_eq_false b
  have hfl:(A2 (A0 y 0)).size≤65:=by
   cases g1:(A2 (A0 y 0)).toList==(ByteArray.mk #[115,101,114,118,105,99,101]).toList with
   | true=>have:=b5b g1;rw[this];decide
   | false =>
    cases g2:(A2 (A0 y 0)).toList==(ByteArray.mk #[110,97,109,101]).toList with
    | true=>have:=b5b g2;rw[this];decide
    | false =>
     rw[g1,g2] at h1
     simp only[cond_false] at h1
     cases g3:Q5 (A2 (A0 y 0)) (ByteArray.mk (Array.mk [97,116,116,114,46])) with
     | false=>rw[g3] at h1;cases h1
     | true =>
      rw[g3] at h1
      simp only[cond_true] at h1
      have:=a9f h1
      rw[ByteArray.size_extract] at this
      omega
  have ht:(A2 (A0 y 2)).size≤200:=by
   cases g:decide (A1 (A0 y 1)≥3) with
   | true=>rw[g] at h;simp only[cond_true] at h;exact e6n h
   | false =>
    rw[g] at h
    simp only[cond_false] at h
    have:=of_decide_eq_false (E7 (by decide) h).1
    omega
  exact ⟨hf,by omega,by show (A1 (A0 y 1)).toNat<7;omega,by omega,by omega,fun hc=>by rw[hn] at hc;cases hc⟩
theorem c5h {y:D} (h:a3d y=0):(1≤A1 (A0 y 0)∧A1 (A0 y 0)≤9)∧(A3 (A0 y 1)).length≤16∧(∀c∈A3 (A0 y 1),W2 c=0)∧∀a∈F0 y 2,a3d a=0:=by
 rw[d8v] at h
 unfold d5z at h
 obtain ⟨h1,h⟩:=E7 (by decide) h
 obtain ⟨a,b⟩:=w3 h1
 have a:=of_decide_eq_false a
 have b:=of_decide_eq_false b
 refine ⟨⟨by omega,by omega⟩, ?_⟩
 have fin:∀{c1 c2:Bool} {z:Int},z=0→z=(bif c1 then 1 else bif c2 then 4 else (match B4 (E0 W2 (A3 (A0 y 1))) (A3 (A0 y 1)).length with|some y1=>y1|none=>(match B4 (E0 a3d (A3 (A0 y 2))) (A3 (A0 y 2)).length with|some y0=>y0|none=>0)))→c2=false∧(∀c∈A3 (A0 y 1),W2 c=0)∧∀a∈F0 y 2,a3d a=0:=by
  intro c1 c2 z hz he
  subst hz
  obtain ⟨_,h⟩:=E7 (by decide) he.symm
  obtain ⟨g,h⟩:=E7 (by decide) h
  refine ⟨g, ?_⟩
  cases hs:B4 (E0 W2 (A3 (A0 y 1))) (A3 (A0 y 1)).length with
  | some e=>rw[hs] at h;exact absurd h (z8 hs)
  | none =>
   rw[hs] at h
   cases ht:B4 (E0 a3d (A3 (A0 y 2))) (A3 (A0 y 2)).length with
   | some e=>rw[ht] at h;exact absurd h (z8 ht)
   | none=>exact ⟨k7 hs,k7 ht⟩
 have main:decide ((↑(A3 (A0 y 1)).length:Int)>16)=false∧(∀c∈A3 (A0 y 1),W2 c=0)∧∀a∈F0 y 2,a3d a=0:=by
  cases g1:A1 (A0 y 0)==1 with
  | true=>rw[g1] at h;exact fin h rfl
  | false =>
   cases g2:A1 (A0 y 0)==9 with
   | true=>rw[g1,g2] at h;exact fin h rfl
   | false=>rw[g1,g2] at h;exact fin h rfl
 have:=of_decide_eq_false main.1
 exact ⟨by omega,main.2⟩
theorem e7a:∀(n:Nat) {y:D},J9 y→a3d y=0→P9 y≤100→g4e n y
 | 0,_,_,_,_=>trivial
 | n+1,y,hf,h,ht=>by
  obtain ⟨⟨h1,h2⟩,h3,h4,h5⟩:=c5h h
  refine ⟨⟨hf,by omega,by show (A1 (A0 y 0)).toNat<10;omega,⟨by omega,fun c hc=>e2a (hf.c c hc) (h4 c hc)⟩,ht⟩,fun a ha=>e7a n (hf.a a ha) (h5 a ha) ?_⟩
  have:=a4k y
  have:=b2u (f:=P9) (xs:=F0 y 2) ha
  omega
theorem f3f {y:D} (hf:J9 y) (h:n5 y=0):PTx y:=by
 unfold n5 at h
 rw[hf.v] at h
 obtain ⟨h1,h⟩:=E7 (by decide) h
 obtain ⟨h2,h⟩:=E7 (by decide) h
 have h1:=of_decide_eq_false h1
 unfold cap at h1
 exact ⟨fun n=>e7a n hf h (by omega)⟩
theorem c8n {c:Bool} {z r:Int} (h:(bif ab c (z !=0) then z else r)=0):(c=true→z=0)∧r=0:=by
 cases c with
 | false=>exact ⟨(fun h=>by cases h),h⟩
 | true =>
  cases hz:z !=0 with
  | true=>simp only[ab,hz,cond_true] at h;subst h;cases hz
  | false=>simp only[ab,hz,cond_true,cond_false] at h;exact ⟨fun _=>by simpa using hz,h⟩
theorem a8q {z r:Int} (h:(bif z !=0 then z else r)=0):z=0∧r=0:=by
 cases hz:z !=0 with
 | true=>rw[hz] at h;simp only[cond_true] at h;subst h;cases hz
 | false=>rw[hz] at h;exact ⟨by simpa using hz,h⟩
theorem g3h {a b:Bool} (h:ab a b=false) (ha:a=true):b=false:=by subst ha;exact h
theorem f2o {y:D} (h:b6s y=0):(A2 (A0 y 14)).size≤60:=by
 unfold b6s at h
 cases g1:A1 (A0 y 0)==5 with
 | true=>rw[g1] at h;simp only[cond_true] at h;have:=of_decide_eq_false (E7 (by decide) h).1;omega
 | false =>
  rw[g1] at h
  simp only[cond_false] at h
  cases g2:A1 (A0 y 0)==13 with
  | true=>rw[g2] at h;simp only[cond_true] at h;have:=of_decide_eq_false (w3 (E7 (by decide) h).1).2;omega
  | false =>
   rw[g2] at h
   simp only[cond_false] at h
   have:=(E7 (by decide) h).1
   exact a9f (by simpa using this)
theorem d9o {y:D} (hf:C8 y) (h:a4q y=0):(1≤kd y∧(kd y).toNat<a3y.length)∧(A2 (A0 y 14)).size≤4096∧∀i,N7 i y=true→c9y i y:=by
 rw[d3k,hf.v] at h
 unfold c7u at h
 obtain ⟨h1,h⟩:=E7 (by decide) h
 obtain ⟨h2,h⟩:=E7 (by decide) h
 obtain ⟨h3,h⟩:=E7 (by decide) h
 obtain ⟨h4,h⟩:=c8n h
 obtain ⟨h5,h⟩:=E7 (by decide) h
 have hgN:=e8j h2
 obtain ⟨hnum,h⟩:(gN (A1 (A0 y 0)) (A1 (A0 y 1))=true→Y9 y=0)∧b6w (A1 (A0 y 0)) (A1 (A0 y 1)) y=0:=by
  cases g:gN (A1 (A0 y 0)) (A1 (A0 y 1)) with
  | true=>rw[g] at h;exact ⟨fun _=>(a8q h).1,(a8q h).2⟩
  | false=>rw[g] at h;exact ⟨(fun h=>by cases h),h⟩
 unfold b6w at h
 obtain ⟨h6,h⟩:=a8q h
 obtain ⟨h7,h⟩:=E7 (by decide) h
 obtain ⟨h8,h⟩:=a8q h
 obtain ⟨h9,h⟩:=c8n h
 obtain ⟨a,b⟩:=w3 h1
 have a:=of_decide_eq_false a
 have b:=of_decide_eq_false b
 obtain ⟨m0,m1⟩:=w3 h7
 have m0:=of_decide_eq_false m0
 have m1:=of_decide_eq_false m1
 have htx:(A2 (A0 y 14)).size≤4096:=by
  cases g:gT (A1 (A0 y 0)) (A1 (A0 y 1)) with
  | true=>rw[g] at h;have:=f2o h;omega
  | false =>
   unfold e5f at h3
   have h3:=(w3 h3).1
   simp only[Bool.not_eq_false',Bool.and_eq_true] at h3
   have h33:=h3.2.2.2.1
   rw[g] at h33
   have:N4 y 3=false:=by
    cases gp:N4 y 3 with
    | false=>rfl
    | true=>rw[gp] at h33;cases h33
   have he:=b3b (s:=A2 (A0 y 14)) (by
    have h0:(!(A2 (A0 y 14)).toList==(ByteArray.mk #[]).toList)=false:=this
    simpa using h0)
   omega
 refine ⟨⟨by show 1≤A1 (A0 y 0);omega,by show (A1 (A0 y 0)).toNat<14;omega⟩,htx,fun i hc=>?_⟩
 unfold c9y
 split
 ·
  have hc:decide (((a2u (kd y)).length:Int)>0)=true:=hc
  obtain ⟨l1,l2⟩:=a4p (A1 (A0 y 0))
  have g:hF (A1 (A0 y 0))=true:=by rw[←l1];exact hc
  have hl:=l2 g
  obtain ⟨c1,c2⟩:=w3 (g3h h2 g)
  have c1:=of_decide_eq_false c1
  have c2:=of_decide_eq_false c2
  show 1≤A1 (A0 y 1)∧(A1 (A0 y 1)).toNat<(a2u (A1 (A0 y 0))).length
  exact ⟨by omega,by omega⟩
 ·
  show _∧(A1 (A0 y 9)).toNat<3;exact ⟨by omega,by omega⟩
 ·
  exact f3f hf.p (h9 hc)
 ·
  exact b7d hf.m (h4 hc)
 ·
  exact e2s hf.s h8
 ·
  obtain ⟨c1,c2⟩:=w3 (g3h h5 hc)
  obtain ⟨c1,c3⟩:=w3 c1
  obtain ⟨c1,c4⟩:=w3 c1
  have c1:=of_decide_eq_false c1
  have c2:=of_decide_eq_false c2
  have c3:=of_decide_eq_false c3
  have c4:=of_decide_eq_false c4
  exact ⟨⟨by omega,by omega⟩,by omega,by omega⟩
 ·
  exact ⟨hf,d2g hf.n h6⟩
 ·
  have hn:=hnum (by rw[hgN];exact hc)
  unfold Y9 at hn
  simpa using (E7 (by decide) hn).1
 ·
  trivial
 ·
  exact htx
theorem f7m:∀(n:Nat) {y:D},C8 y→K6 y=0→M3 y≤100→g4h n y
 | 0,_,_,_,_=>trivial
 | n+1,y,hf,h,ht=>by
  obtain ⟨h1,h2⟩:=v8 hf.v h
  obtain ⟨e1,e2,e3⟩:=d9o hf h1
  refine ⟨⟨hf,e1,ht,e2,e3⟩,fun a ha=>f7m n (hf.a a ha) (h2 a ha) ?_⟩
  have:=a2h y
  have:=b2u (f:=M3) (xs:=F0 y 15) ha
  omega
theorem g2r {y:D} (hf:C8 y) (h:E1 y=0):ETx y:=by
 obtain ⟨h1,_,h3⟩:=f3y h hf.v
 exact ⟨fun n=>f7m n hf h3 h1⟩
theorem f6y {y:D} (hf:C8 y) (hb:Bd y):b5j y:=⟨hf,hb,g2r hf⟩
end Go.Ev.R2
end
section
namespace Go.Ev.R2
open Go Go.Ev Go.Proofs
def d8c (c:UInt8):Bool:=c !=32&&(c !=34&&(c !=40&&c !=41))
theorem a7m {c:UInt8} (h:d8c c=true):a2j c:=by
 unfold d8c at h
 simp only[Bool.and_eq_true,bne_iff_ne] at h
 exact h
theorem o0 {l:List UInt8} (h:(!l.isEmpty&&l.all d8c)=true):Tok l:=by
 simp only[Bool.and_eq_true,Bool.not_eq_true'] at h
 refine .w (fun e=>?_) fun c hc=>a7m (List.all_eq_true.1 h.2 c hc)
 rw[e] at h;cases h.1
def a5y (l:List D):Bool:=l.all fun y=> !(K8 y).isEmpty&&(K8 y).all d8c
theorem b9d {l:List D} (h:a5y l=true):V1 l:=fun y hy=>o0 (List.all_eq_true.1 h y hy)
theorem V1.app {l m:List D} (h:V1 l) (h':V1 m):V1 (l++m):=fun y hy=>by
 rcases List.mem_append.1 hy with h1|h1
 ·
  exact h y h1
 ·
  exact h' y h1
theorem G2:V1 []:=fun y hy=>by simp at hy
theorem V1.cons {y:D} {l:List D} (h:Tok (K8 y)) (h':V1 l):V1 (y::l):=fun z hz=>by
 rcases List.mem_cons.1 hz with rfl|hz
 ·
  exact h
 ·
  exact h' z hz
theorem a5h {f:D→D} {l:List D} (h:∀y∈l,Tok (K8 (f y))):V1 (l.map f):=fun z hz=>by
 obtain ⟨y,hy,rfl⟩:=List.mem_map.1 hz
 exact h y hy
theorem b8d (l:List D) (k:Int):K8 (wdD l k)=K8 (l.getD k.toNat .any):=rfl
theorem b5k {l:List D} {k:Int} (h:a5y l.tail=true) (h1:1≤k) (h2:k.toNat<l.length):Tok (K8 (wdD l k)):=by
 rw[b8d]
 cases l with
 | nil=>simp at h2
 | cons a r =>
  obtain ⟨j,hj⟩:∃j,k.toNat=j+1:=⟨k.toNat-1,by omega⟩
  rw[hj] at h2 ⊢
  refine b9d h _ ?_
  simp only[List.length_cons] at h2
  have:(a::r).getD (j+1) D.any=r.getD j D.any:=by simp[List.getD]
  rw[this]
  exact F4 (xs:=r) (by omega)
theorem f2m {l:List D} {k:Int} (h:a5y l=true) (h2:k.toNat<l.length):Tok (K8 (wdD l k)):=by
 rw[b8d]
 exact b9d h _ (F4 h2)
theorem f7a:a5y opR.tail=true:=by kernel_rfl
theorem e6a:a5y L9.tail=true:=by kernel_rfl
theorem f9h:a5y a6e.tail=true:=by kernel_rfl
theorem e7n:a5y a3w=true:=by kernel_rfl
theorem f3w:a5y a3y.tail=true:=by kernel_rfl
theorem d6g {c:UInt8} (h:a3v (c.toNat:Nat)=true):a2j c:=by
 refine ⟨?_, ?_, ?_, ?_⟩<;>(rintro rfl;exact absurd h (by decide))
theorem b7b {s:ByteArray}:∀{n i:Nat},p6 s n i=true→∀j,i≤j→j<i+n→a3v (B3 s j)=true
 | 0,i,_,j,h1,h2=>by omega
 | n+1,i,h,j,h1,h2=>by
  unfold p6 at h
  simp only[Bool.and_eq_true] at h
  by_cases e:j=i
  ·
   subst e;exact h.1
  ·
   exact b7b h.2 j (by omega) (by omega)
theorem d4r {s:ByteArray} {p:UInt8→Prop} (h:∀j,j<s.size→p ((byt s).getD j 0)):∀c∈byt s,p c:=fun c hc=>by
 obtain ⟨j,hj,rfl⟩:=List.getElem_of_mem hc
 have:=h j (by simpa using hj)
 rwa [List.getD_eq_getElem?_getD,List.getElem?_eq_getElem hj] at this
theorem b8n (s:ByteArray):(byt s).length=s.size:=by simp
theorem e7h {s:ByteArray} (h:1≤s.size):byt s≠ []:=fun e=>by have:=b8n s;rw[e] at this;simp at this;omega
theorem d6f {s:ByteArray} (h:K7 s=true):byt s≠ []∧∀c∈byt s,a2j c:=by
 unfold K7 at h
 simp only[Bool.and_eq_true,decide_eq_true_eq] at h
 obtain ⟨⟨⟨h1,h2⟩,h3⟩,h4⟩:=h
 refine ⟨e7h h1,d4r fun j hj=>d6g ?_⟩
 exact b7b h4 j (by omega) (by omega)
theorem a8c {s:ByteArray} (h:K7 s=true):Tok (byt s):=.w (d6f h).1 (d6f h).2
theorem f9c (c:UInt8):(qB (c.toNat:Nat)).map (fun d=>UInt8.ofNat (A1 d).toNat)=b7v c:=by
 unfold qB b7v
 by_cases h1:c=92
 ·
  subst h1;rfl
 by_cases h2:c=34
 ·
  subst h2;rfl
 by_cases h3:c=10
 ·
  subst h3;rfl
 have e1:(((c.toNat:Nat):Int)==92)=false:=by
  cases g:(((c.toNat:Nat):Int)==92) with
  | false=>rfl
  | true =>
   have g:((c.toNat:Nat):Int)=92:=by simpa using g
   exact absurd (UInt8.toNat_inj.1 (show c.toNat=(92:UInt8).toNat by show c.toNat=92;omega)) h1
 have e2:(((c.toNat:Nat):Int)==34)=false:=by
  cases g:(((c.toNat:Nat):Int)==34) with
  | false=>rfl
  | true =>
   have g:((c.toNat:Nat):Int)=34:=by simpa using g
   exact absurd (UInt8.toNat_inj.1 (show c.toNat=(34:UInt8).toNat by show c.toNat=34;omega)) h2
 have e3:(((c.toNat:Nat):Int)==10)=false:=by
  cases g:(((c.toNat:Nat):Int)==10) with
  | false=>rfl
  | true =>
   have g:((c.toNat:Nat):Int)=10:=by simpa using g
   exact absurd (UInt8.toNat_inj.1 (show c.toNat=(10:UInt8).toNat by show c.toNat=10;omega)) h3
 rw[e1,e2,e3,if_neg h1,if_neg h2,if_neg h3]
 simp[A1]
theorem e6q {s:ByteArray}:∀(n i:Nat),i+n=s.size→(qL s n i).map (fun d=>UInt8.ofNat (A1 d).toNat)=(((byt s).drop i).map b7v).flatten
 | 0,i,h=>by
  rw[List.drop_of_length_le (by rw[b8n];omega)]
  rfl
 | n+1,i,h=>by
  have hi:i<(byt s).length:=by rw[b8n];omega
  unfold qL
  rw[List.map_append,e6q n (i+1) (by omega),List.drop_eq_getElem_cons hi,List.map_cons,List.flatten_cons]
  congr 1
  have:B3 s i=(((byt s)[i]).toNat:Nat):=by
   unfold B3
   rw[List.getD_eq_getElem?_getD,List.getElem?_eq_getElem hi]
   rfl
  rw[this,f9c]
theorem e2y (s:ByteArray):byt (L7 s)=34::(((byt s).map b7v).flatten++ [34]):=by
 unfold L7 c4f b5v
 simp only[byt,List.map_append,e6q (s:=s) s.size 0 (by omega)]
 rfl
theorem a8z (s:ByteArray):Tok (byt (L7 s)):=by
 rw[e2y];exact .q _
theorem f7r {m:Nat} (h:m<10):a2j (UInt8.ofNat (48+m)):=by
 have:m=0∨m=1∨m=2∨m=3∨m=4∨m=5∨m=6∨m=7∨m=8∨m=9:=by omega
 rcases this with rfl|rfl|rfl|rfl|rfl|rfl|rfl|rfl|rfl|rfl<;>exact a7m rfl
theorem e8z:∀(k n:Nat),∀c∈b7y k n,a2j c
 | 0,n,c,h=>by simp[b7y] at h
 | k+1,n,c,h=>by
  unfold b7y at h
  cases g:decide (n<10) with
  | true =>
   rw[g] at h
   simp only[cond_true,List.mem_singleton] at h
   subst h
   exact f7r (of_decide_eq_true g)
  | false =>
   rw[g] at h
   simp only[cond_false,List.mem_append,List.mem_singleton] at h
   rcases h with h|rfl
   ·
    exact e8z k _ c h
   ·
    exact f7r (by omega)
theorem f4u (k n:Nat):b7y (k+1) n≠ []:=fun h=>by
 unfold b7y at h
 cases g:decide (n<10) with
 | true=>rw[g] at h;simp at h
 | false=>rw[g] at h;simp at h
theorem d9x (n:Int):byt (a2c n)≠ []∧∀c∈byt (a2c n),a2j c:=by
 unfold a2c
 exact ⟨by simpa [byt] using f4u 19 n.toNat,by simpa [byt] using e8z 20 n.toNat⟩
theorem c8j (n:Int):Tok (byt (a2c n)):=.w (d9x n).1 (d9x n).2
theorem c4r {a b:ByteArray} (ha:∀c∈byt a,a2j c) (hb:∀c∈byt b,a2j c):∀c∈byt (a++b),a2j c:=fun c hc=>by
 simp only[byt,ByteArray.data_append,Array.toList_append,List.mem_append] at hc
 rcases hc with h|h
 ·
  exact ha c h
 ·
  exact hb c h
theorem d6e {a b:ByteArray} (hb:byt b≠ []):byt (a++b)≠ []:=fun h=>by
 simp only[byt,ByteArray.data_append,Array.toList_append,List.append_eq_nil_iff] at h
 exact hb h.2
theorem e5r:∀c∈byt (ByteArray.mk (Array.mk [45])),a2j c:=fun c hc=>by
 simp[byt] at hc;subst hc;exact a7m rfl
theorem e5q:∀c∈byt (ByteArray.mk (Array.mk [47])),a2j c:=fun c hc=>by
 simp[byt] at hc;subst hc;exact a7m rfl
theorem f7g {n d:Int} (h:k8 n d=0):byt (c4j n d)≠ []∧∀c∈byt (c4j n d),a2j c:=by
 unfold c4j
 rw[h]
 simp only[bne_self_eq_false,cond_false]
 have h1:=d9x (n.natAbs:Nat)
 have h2:=d9x d
 cases decide (n<0)<;>cases decide (d>1)
 ·
  exact h1
 ·
  exact ⟨d6e h2.1,c4r (c4r h1.2 e5q) h2.2⟩
 ·
  exact ⟨d6e h1.1,c4r e5r h1.2⟩
 ·
  exact ⟨d6e h2.1,c4r (c4r (c4r e5r h1.2) e5q) h2.2⟩
theorem f4j {n d:Int} (h:k8 n d=0):Tok (byt (c4j n d)):=.w (f7g h).1 (f7g h).2
theorem e7p {y:D} (h:a2x y=0):Tok (K8 (S0 y)):=by
 unfold a2x at h
 obtain ⟨h1,h⟩:=E7 (by decide) h
 obtain ⟨h2,h⟩:=E7 (by decide) h
 obtain ⟨a,b⟩:=w3 h1
 have a:=of_decide_eq_false a
 have b:=of_decide_eq_false b
 have hn:K7 (A2 (A0 y 1))=true:=by rw[←a4z];simpa using h2
 exact p8 (.cons (b5k f7a (by omega) (by show (A1 (A0 y 0)).toNat<7;omega)) (.cons (a8c hn) (.cons (a8z _) G2)))
theorem c7g {xs:List D} (h:Q8 xs=0):∀y∈xs,a2x y=0:=by
 unfold Q8 at h
 obtain ⟨h1,h⟩:=E7 (by decide) h
 cases hs:B4 (E0 a2x xs) xs.length with
 | none=>exact k7 hs
 | some e=>rw[hs] at h;exact absurd h (z8 hs)
theorem b2e {xs:List D} (h:Q8 xs=0):V1 (xs.map S0):=a5h fun y hy=>e7p (c7g h y hy)
theorem c5p {xs:List D} {sp:Bool} (h:p5 xs sp=0):∀y∈xs,K7 (A2 y)=true:=fun y hy=>by
 unfold p5 at h
 obtain ⟨h1,h⟩:=E7 (by decide) h
 cases hs:B4 (Z1 sp xs) xs.length with
 | none =>
  obtain ⟨j,hj,rfl⟩:=b7h hy
  have hn:=b2k hs j hj
  unfold Z1 at hn
  cases hb:K7 (A2 (xs.getD j .any)) with
  | true=>rfl
  | false=>rw[hb] at hn;cases hn
 | some e =>
  rw[hs] at h
  obtain ⟨j,hj⟩:=b2j hs
  unfold Z1 at hj
  have h:e=0:=h
  subst h
  revert hj
  cases (bif !K7 (A2 (xs.getD j .any)) then true else bif (bif sp then !eqS (A2 (xs.getD j .any)) (ByteArray.mk #[110,97,109,101]) else false) then !eqS (A2 (xs.getD j .any)) (ByteArray.mk #[115,101,114,118,105,99,101]) else false)<;>cases (bif decide ((j:Int)>0) then leS (A2 (xs.getD j .any)) (A2 (xs.getD (j-1) .any)) else false)<;>simp
theorem b2s {xs:List D} {sp:Bool} (h:p5 xs sp=0):V1 xs:=fun y hy=>a8c (c5p h y hy)
theorem e6j {y:D} (h:k6 y=0):Tok (K8 (b5t y)):=by
 unfold k6 at h
 obtain ⟨h1,h⟩:=E7 (by decide) h
 obtain ⟨a,b⟩:=w3 h1
 have a:=of_decide_eq_false a
 have b:=of_decide_eq_false b
 obtain ⟨h2,h⟩:=E7 (by decide) h
 obtain ⟨h3,h4⟩:=w3 h2
 obtain ⟨h5,h6⟩:=w3 h3
 have nm:(A3 (A0 y 2)).length≠0→A1 (A0 y 0)=5:=fun hn=>by
  have:decide ((↑(A3 (A0 y 2)).length:Int)>0)=true:=by simp;omega
  rw[this] at h6
  simpa using h6
 have nn:(A3 (A0 y 3)).length≠0→A1 (A0 y 0)≥6:=fun hn=>by
  have:decide ((↑(A3 (A0 y 3)).length:Int)>0)=true:=by simp;omega
  rw[this] at h4
  simpa using h4
 have e2:A1 (A0 y 0)≠5→V1 ((A3 (A0 y 2)).map S0):=fun hn=>by
  have:(A3 (A0 y 2)).length=0:=Classical.byContradiction fun hc=>hn (nm hc)
  rw[List.eq_nil_of_length_eq_zero this]
  exact G2
 have e3:¬A1 (A0 y 0)≥6→V1 (A3 (A0 y 3)):=fun hn=>by
  have:(A3 (A0 y 3)).length=0:=Classical.byContradiction fun hc=>hn (nn hc)
  rw[List.eq_nil_of_length_eq_zero this]
  exact G2
 have key:V1 ((A3 (A0 y 2)).map S0)∧V1 (A3 (A0 y 3)):=by
  by_cases g5:A1 (A0 y 0)=5
  ·
   rw[g5] at h
   simp only[Int.reduceBEq,cond_true,cond_false] at h
   exact ⟨b2e h,e3 (by omega)⟩
  by_cases g6:A1 (A0 y 0)≥6
  ·
   have q1:(A1 (A0 y 0)==1)=false:=by simp;omega
   have q2:(A1 (A0 y 0)==2)=false:=by simp;omega
   have q3:(A1 (A0 y 0)==3)=false:=by simp;omega
   have q5:(A1 (A0 y 0)==5)=false:=by simp;omega
   rw[q1,q2,q3,q5] at h
   simp only[cond_false] at h
   exact ⟨e2 g5,b2s h⟩
  ·
   exact ⟨e2 g5,e3 g6⟩
 have hw:Tok (K8 (wdD L9 (A1 (A0 y 0)))):=b5k e6a (by omega) (by show _<9;omega)
 show Tok (byt (G7 (o6 y)))
 unfold o6
 refine p8 ((V1.app ?_ key.1).app key.2)
 cases decide (A1 (A0 y 0)≤3)
 ·
  exact .cons hw G2
 ·
  exact .cons hw (.cons (a8z _) G2)
theorem c9e {xs:List D} (h:o4 xs=0):V1 (xs.map b5t):=by
 unfold o4 at h
 obtain ⟨h1,h⟩:=E7 (by decide) h
 refine a5h fun y hy=>e6j ?_
 cases hs:B4 (E0 k6 xs) xs.length with
 | none=>exact k7 hs y hy
 | some e=>rw[hs] at h;exact absurd h (z8 hs)
theorem a9o {s t:ByteArray} (h:(s.toList==t.toList)=true):byt s=byt t:=by
 have h:s.toList=t.toList:=by simpa using h
 rw[ByteArray.toList_eq,ByteArray.toList_eq] at h
 exact h
theorem e4d {y:D} (h:W2 y=0):Tok (byt (A2 (A0 y 0))):=by
 unfold W2 at h
 cases hn:J6 (A2 (A0 y 0)) with
 | true =>
  unfold J6 eqS at hn
  rcases Bool.or_eq_true _ _ |>.mp hn with g|g
  ·
   rw[a9o g];exact o0 rfl
  ·
   rw[a9o g];exact o0 rfl
 | false =>
  rw[hn] at h
  simp only[cond_false] at h
  obtain ⟨h1,h⟩:=d7f (by decide) h
  cases g1:(A2 (A0 y 0)).toList==(ByteArray.mk #[115,101,114,118,105,99,101]).toList with
  | true=>rw[a9o g1];exact o0 rfl
  | false =>
   cases g2:(A2 (A0 y 0)).toList==(ByteArray.mk #[110,97,109,101]).toList with
   | true=>rw[a9o g2];exact o0 rfl
   | false =>
    rw[g1,g2] at h1
    simp only[cond_false] at h1
    cases g3:Q5 (A2 (A0 y 0)) (ByteArray.mk (Array.mk [97,116,116,114,46])) with
    | false=>rw[g3] at h1;cases h1
    | true =>
     rw[g3] at h1
     simp only[cond_true] at h1
     have hn:=d6f h1
     unfold Q5 at g3
     simp only[Bool.and_eq_true,decide_eq_true_eq] at g3
     have g4:=a9o g3.2
     have e:byt (A2 (A0 y 0))=byt ((A2 (A0 y 0)).extract 0 5)++byt ((A2 (A0 y 0)).extract 5 (A2 (A0 y 0)).size):=by
      have:=g3.1
      simp only[byt,ByteArray.data_extract,Array.toList_extract]
      rw[List.extract_eq_take_drop,List.extract_eq_take_drop]
      simp only[Nat.sub_zero,List.drop_zero]
      rw[List.take_of_length_le (l:=List.drop 5 _) (by simp),List.take_append_drop]
     have e5:byt ((A2 (A0 y 0)).extract 0 5)= [97,116,116,114,46]:=g4
     rw[e,e5]
     refine .w (by simp) fun c hc=>?_
     rcases List.mem_append.1 hc with hc|hc
     ·
      simp only[List.mem_cons,List.not_mem_nil,or_false] at hc
      rcases hc with rfl|rfl|rfl|rfl|rfl<;>exact a7m rfl
     ·
      exact hn.2 c hc
theorem e9i {y:D} (hf:a5f y) (h:W2 y=0):Tok (K8 (a6r y)):=by
 have h0:=e2a hf h
 have h1:1≤A1 (A0 y 1):=by
  have h:=h
  unfold W2 at h
  cases hn:J6 (A2 (A0 y 0)) with
  | true =>
   rw[hn] at h
   simp only[cond_true] at h
   obtain ⟨h1,h⟩:=E7 (by decide) h
   refine Classical.byContradiction fun hc=>?_
   have a1:(A1 (A0 y 1) !=1)=true:=by simp;omega
   have a2:(A1 (A0 y 1) !=2)=true:=by simp;omega
   have a3:(A1 (A0 y 1) !=5)=true:=by simp;omega
   have a4:(A1 (A0 y 1) !=6)=true:=by simp;omega
   rw[a1,a2,a3,a4] at h1
   cases h1
  | false =>
   rw[hn] at h
   simp only[cond_false] at h
   obtain ⟨h1,h⟩:=d7f (by decide) h
   obtain ⟨h2,h⟩:=E7 (by decide) h
   have a:=of_decide_eq_false (w3 h2).1
   omega
 refine p8 (.cons (b5k f7a h1 h0.2.2.1) (.cons (e4d h) (.cons ?_ G2)))
 cases J6 (A2 (A0 y 0))
 ·
  exact a8z _
 ·
  exact c8j _
theorem d2b:∀(n:Nat) {y:D},dsz y<n→J9 y→a3d y=0→Tok (byt (b4e y))
 | 0,y,hn,_,_=>by omega
 | n+1,y,hn,hf,h=>by
  obtain ⟨⟨h1,h2⟩,h3,h4,h5⟩:=c5h h
  rw[b8f]
  refine p8 ((V1.app (.cons (b5k f9h h1 (by show _<10;omega)) G2) (a5h fun c hc=>e9i (hf.c c hc) (h4 c hc))).app (a5h fun a ha=>?_))
  exact d2b n (by have:=J0 (y:=y) (i:=2) ha;omega) (hf.a a ha) (h5 a ha)
theorem f8p {s:ByteArray} (h0:1≤s.size) (h:B4 (a2i (D5 s)) (D5 s).length=none):byt s≠ []∧∀c∈byt s,a2j c:=by
 refine ⟨e7h h0,d4r fun j hj=>?_⟩
 have hl:(D5 s).length=s.size:=m8 s
 have hn:=b2k h j (by omega)
 unfold a2i at hn
 have hb:A1 ((D5 s).getD j .any)=(((byt s).getD j 0).toNat:Nat):=by
  have h1:j<(byt s).length:=by rw[b8n];exact hj
  unfold D5
  rw[List.getD_eq_getElem?_getD,List.getElem?_map,List.getD_eq_getElem?_getD,List.getElem?_eq_getElem h1]
  rfl
 rw[hb] at hn
 generalize (byt s).getD j 0=c at hn ⊢
 refine ⟨?_, ?_, ?_, ?_⟩<;>(rintro rfl;exact absurd hn (by decide))
theorem f8s {y:D} (h:b6s y=0) (h5:(kd y !=5)=true):Tok (byt (A2 (A0 y 14))):=by
 unfold b6s at h
 have g1:(A1 (A0 y 0)==5)=false:=by simpa using h5
 rw[g1] at h
 simp only[cond_false] at h
 cases g2:A1 (A0 y 0)==13 with
 | true =>
  rw[g2] at h
  simp only[cond_true] at h
  obtain ⟨h1,h⟩:=E7 (by decide) h
  have a:=of_decide_eq_false (w3 h1).1
  cases hs:B4 (a2i (D5 (A2 (A0 y 14)))) (D5 (A2 (A0 y 14))).length with
  | none=>have:=f8p (by omega) hs;exact .w this.1 this.2
  | some e =>
   rw[hs] at h
   exfalso
   have h:e=0:=h
   subst h
   obtain ⟨j,hj⟩:=b2j hs
   unfold a2i at hj
   revert hj
   cases (bif A1 ((D5 (A2 (A0 y 14))).getD j .any) !=95 then (bif decide (A1 ((D5 (A2 (A0 y 14))).getD j .any)<97) then true else decide (A1 ((D5 (A2 (A0 y 14))).getD j .any)>122)) else false)<;>simp
 | false =>
  rw[g2] at h
  simp only[cond_false] at h
  exact a8c (by simpa using (E7 (by decide) h).1)
theorem a8n {y:D} (hf:C8 y) (h:a4q y=0):(1≤kd y∧kd y≤13)∧(hF (kd y)=true→1≤fc y∧fc y≤nF (kd y))∧(hF (kd y)=false→fc y=0)∧(0≤A1 (A0 y 9)∧A1 (A0 y 9)≤2)∧(∀z∈A3 (A0 y 7),K7 (A2 z)=true)∧∀i,N7 i y=true→V1 (u6 i y):=by
 have hpre:=(d9o hf h).2.2
 rw[d3k,hf.v] at h
 unfold c7u at h
 obtain ⟨h1,h⟩:=E7 (by decide) h
 obtain ⟨h2,h⟩:=E7 (by decide) h
 obtain ⟨h3,h⟩:=E7 (by decide) h
 obtain ⟨h4,h⟩:=c8n h
 obtain ⟨h5,h⟩:=E7 (by decide) h
 have hgN:=e8j h2
 obtain ⟨hnum,h⟩:(gN (A1 (A0 y 0)) (A1 (A0 y 1))=true→Y9 y=0)∧b6w (A1 (A0 y 0)) (A1 (A0 y 1)) y=0:=by
  cases g:gN (A1 (A0 y 0)) (A1 (A0 y 1)) with
  | true=>rw[g] at h;exact ⟨fun _=>(a8q h).1,(a8q h).2⟩
  | false=>rw[g] at h;exact ⟨(fun h=>by cases h),h⟩
 unfold b6w at h
 obtain ⟨h6,h⟩:=a8q h
 obtain ⟨h7,h⟩:=E7 (by decide) h
 obtain ⟨h8,h⟩:=a8q h
 obtain ⟨h9,h⟩:=c8n h
 obtain ⟨a,b⟩:=w3 h1
 have a:=of_decide_eq_false a
 have b:=of_decide_eq_false b
 have hfn:hF (kd y)=true→1≤fc y∧fc y≤nF (kd y):=fun g=>by
  obtain ⟨c1,c2⟩:=w3 (g3h h2 g)
  have c1:=of_decide_eq_false c1
  have c2:=of_decide_eq_false c2
  exact ⟨by show 1≤A1 (A0 y 1);omega,by show A1 (A0 y 1)≤nF (A1 (A0 y 0));omega⟩
 have hf0:hF (kd y)=false→fc y=0:=fun g=>by
  unfold e5f at h3
  have h3:=(w3 h3).1
  simp only[Bool.not_eq_false',Bool.and_eq_true] at h3
  have h33:=h3.1
  have g':hF (A1 (A0 y 0))=false:=g
  rw[g'] at h33
  have:N4 y 0=false:=by
   cases gp:N4 y 0 with
   | false=>rfl
   | true=>rw[gp] at h33;cases h33
  have:(A1 (A0 y 1) !=0)=false:=this
  simpa using this
 obtain ⟨m0,m1⟩:=w3 h7
 have m0:=of_decide_eq_false m0
 have m1:=of_decide_eq_false m1
 refine ⟨⟨by show 1≤A1 (A0 y 0);omega,by show A1 (A0 y 0)≤13;omega⟩,hfn,hf0,⟨by omega,by omega⟩,c5p h6,fun i hc=>?_⟩
 have hp:=hpre i hc
 unfold c9y at hp
 unfold u6
 unfold N7 at hc
 split at hp
 ·
  refine .cons ?_ G2
  obtain ⟨l1,l2⟩:=a4p (A1 (A0 y 0))
  have g:hF (A1 (A0 y 0))=true:=by rw[←l1];exact hc
  refine b5k ?_ (hfn g).1 hp.2
  show a5y (a2u (A1 (A0 y 0))).tail=true
  unfold a2u
  cases (A1 (A0 y 0)==2) with
  | true=>kernel_rfl
  | false=>cases (A1 (A0 y 0)==3) with
   | true=>kernel_rfl
   | false=>cases (A1 (A0 y 0)==6) with
    | true=>kernel_rfl
    | false=>cases (A1 (A0 y 0)==7)<;>kernel_rfl
 ·
  exact .cons (f2m e7n hp.2) G2
 ·
  refine .cons ?_ G2
  have h9:=h9 hc
  unfold n5 at h9
  rw[hf.p.v] at h9
  obtain ⟨_,h9⟩:=E7 (by decide) h9
  obtain ⟨_,h9⟩:=E7 (by decide) h9
  exact d2b _ (Nat.lt_succ_self _) hf.p h9
 ·
  exact .cons (p8 (b2e (h4 hc))) G2
 ·
  exact .cons (p8 (c9e h8)) G2
 ·
  exact .cons (c8j _) (.cons (c8j _) G2)
 ·
  refine .cons ?_ G2
  show Tok (byt (b2w y))
  unfold b2w
  cases L5 (A0 y 8)
  ·
   exact p8 ((V1.cons (o0 rfl) G2).app (b2s h6))
  ·
   exact p8 ((V1.cons (o0 rfl) G2).app (b2s h6))
 ·
  refine .cons ?_ G2
  have g:gN (A1 (A0 y 0)) (A1 (A0 y 1))=true:=by rw[hgN];exact hc
  have hn:=hnum g
  unfold Y9 at hn
  have hr:=(E7 (by decide) hn).1
  exact f4j (by simpa using hr)
 ·
  refine .cons ?_ G2
  have hc:ab (hT (kd y) (fc y)) (kd y !=5)=true:=hc
  unfold ab at hc
  cases g:hT (kd y) (fc y) with
  | false=>rw[g] at hc;cases hc
  | true =>
   rw[g] at hc
   have gt:gT (A1 (A0 y 0)) (A1 (A0 y 1))=true:=by rw[f7f];exact g
   rw[gt] at h
   exact f8s h hc
 ·
  split<;>first|exact .cons (a8z _) G2 | (exfalso;simp_all)
theorem c4d {y:D} (hf:C8 y) (h:a4q y=0):V1 (a4t y):=by
 obtain ⟨h1,_,_,_,_,h2⟩:=a8n hf h
 have hi:∀i,V1 (D9 i y):=fun i=>by
  unfold D9
  cases hc:N7 i y with
  | true=>exact h2 i hc
  | false=>exact G2
 unfold a4t
 refine ((((((((((V1.app ?_ (hi _)).app (hi _)).app (hi _)).app (hi _)).app (hi _)).app (hi _)).app (hi _)).app (hi _)).app (hi _)).app (hi _))
 exact .cons (b5k f3w h1.1 (by show (kd y).toNat<14;omega)) G2
theorem f7o:∀(n:Nat) {y:D},dsz y<n→C8 y→K6 y=0→Tok (byt (n8 y))
 | 0,y,hn,_,_=>by omega
 | n+1,y,hn,hf,h=>by
  obtain ⟨h1,h2⟩:=v8 hf.v h
  rw[a9p]
  refine p8 ((c4d hf h1).app (a5h fun a ha=>?_))
  exact f7o n (by have:=J0 (y:=y) (i:=15) ha;omega) (hf.a a ha) (h2 a ha)
theorem d5h {l:List D} (hn:(l.map K8).Nodup) {i j:Int} (hi:0≤i∧i.toNat<l.length) (hj:0≤j∧j.toNat<l.length) (h:K8 (wdD l i)=K8 (wdD l j)):i=j:=by
 rw[b8d,b8d] at h
 have e:∀{k:Nat} (hk:k<l.length),K8 (l.getD k .any)=(l.map K8)[k]'(by simpa using hk):=fun {k} hk=>by
  rw[List.getD_eq_getElem?_getD,List.getElem?_eq_getElem hk];simp
 rw[e hi.2,e hj.2] at h
 have hp:=List.pairwise_iff_getElem.1 hn
 refine Classical.byContradiction fun hne=>?_
 by_cases hlt:i.toNat<j.toNat
 ·
  exact hp _ _ (by simpa using hi.2) (by simpa using hj.2) hlt h
 ·
  exact hp _ _ (by simpa using hj.2) (by simpa using hi.2) (by omega) h.symm
def nIt (i:Nat):Nat:=match i with | 39=>2|_=>1
theorem f4f (i:Nat) (y:D):(u6 i y).length=nIt i:=by
 unfold u6 nIt
 split<;>first|rfl | (split<;>first|rfl|contradiction)
theorem g3a {i:Nat} {x y:D} (hk:kd x=kd y) (hf:fc x=fc y):N7 i x=N7 i y:=by unfold N7;rw[hk,hf]
theorem f6 {i:Nat} {x y:D} {a b:List (List UInt8)} (hk:kd x=kd y) (hf:fc x=fc y) (h:(D9 i x).map K8++a=(D9 i y).map K8++b):(D9 i x).map K8=(D9 i y).map K8∧a=b:=by
 refine List.append_inj h ?_
 simp only[List.length_map]
 unfold D9
 rw[g3a hk hf]
 cases N7 i y with
 | true=>simp only[cond_true,f4f]
 | false=>rfl
theorem e7x:(a3y.map K8).Nodup:=by decide +kernel
theorem e3p:(a3w.map K8).Nodup:=by decide +kernel
theorem f4i (k:Int):((a2u k).map K8).Nodup:=by
 unfold a2u
 cases (k==2) with
 | true=>simp only[cond_true];decide +kernel
 | false=>cases (k==3) with
  | true=>simp only[cond_true,cond_false];decide +kernel
  | false=>cases (k==6) with
   | true=>simp only[cond_true,cond_false];decide +kernel
   | false=>cases (k==7)<;>(simp only[cond_true,cond_false];decide +kernel)
theorem e5u {r:D→Int} {x y:D} (hk:kd x=kd y) (ha:(A3 (A0 x 15)).map r=(A3 (A0 y 15)).map r)
  (hb:kd x=7→fc x=fc y∧(A3 (A0 x 7)).length=(A3 (A0 y 7)).length∧L5 (A0 x 8)=L5 (A0 y 8)∧A1 (A0 x 9)=A1 (A0 y 9)):a9w r x=a9w r y:=by
 have e:∀z:D,(A3 (A0 z 15)).map (fun a=>m4 (r a))=((A3 (A0 z 15)).map r).map m4:=fun z=>by simp
 have hk:A1 (A0 x 0)=A1 (A0 y 0):=hk
 by_cases h7:kd x=7
 ·
  obtain ⟨h1,h2,h3,h4⟩:=hb h7
  have h1:A1 (A0 x 1)=A1 (A0 y 1):=h1
  have q1:∀z,A1 (A0 (eV z) 1)=A1 (A0 z 1):=fun _=>rfl
  have q7:∀z,A3 (A0 (eV z) 7)=A3 (A0 z 7):=fun _=>rfl
  have q8:∀z,L5 (A0 (eV z) 8)=L5 (A0 z 8):=fun _=>rfl
  have q9:∀z,A1 (A0 (eV z) 9)=A1 (A0 z 9):=fun _=>rfl
  unfold a9w e9m
  simp only[q1,q7,q8,q9]
  rw[e x,e y,ha,hk,h1,h2,h3,h4]
 ·
  have h7:(A1 (A0 y 0)==7)=false:=by rw[←hk];simpa using h7
  unfold a9w
  rw[e x,e y,ha,hk,h7]
  rfl
theorem d5p {x y:D} (fx:C8 x) (fy:C8 y) (hx:K6 x=0) (hy:K6 y=0) (h:byt (n8 x)=byt (n8 y)) :
  kd x=kd y∧fc x=fc y∧(∀i∈ [11,15,19,23,27,31,35,39,43,47],(D9 i x).map K8=(D9 i y).map K8)∧(A3 (A0 x 15)).map (fun a=>byt (n8 a))=(A3 (A0 y 15)).map (fun a=>byt (n8 a)):=by
 obtain ⟨x1,x2⟩:=v8 fx.v hx
 obtain ⟨y1,y2⟩:=v8 fy.v hy
 have tk:∀z:D,C8 z→(∀a∈F0 z 15,K6 a=0)→V1 ((A3 (A0 z 15)).map eD):=fun z fz hz=>a5h fun a ha=>f7o _ (Nat.lt_succ_self _) (fz.a a ha) (hz a ha)
 rw[a9p,a9p] at h
 have h:=a8f ((c4d fx x1).app (tk x fx x2)) ((c4d fy y1).app (tk y fy y2)) h
 obtain ⟨kx,gx,zx,_,_,_⟩:=a8n fx x1
 obtain ⟨ky,gy,zy,_,_,_⟩:=a8n fy y1
 simp only[a4t,List.append_assoc,List.map_append,List.map_cons,List.map_nil,List.cons_append,List.nil_append,List.cons.injEq] at h
 obtain ⟨h0,h⟩:=h
 have hk:kd x=kd y:=d5h e7x ⟨by omega,by show (kd x).toNat<14;omega⟩ ⟨by omega,by show (kd y).toNat<14;omega⟩ h0
 have hfn:fc x=fc y∧(D9 11 x).map K8=(D9 11 y).map K8∧(D9 15 x).map K8++((D9 19 x).map K8++((D9 23 x).map K8++((D9 27 x).map K8++((D9 31 x).map K8++((D9 35 x).map K8++((D9 39 x).map K8++((D9 43 x).map K8++((D9 47 x).map K8++((A3 (A0 x 15)).map eD).map K8))))))))=(D9 15 y).map K8++((D9 19 y).map K8++((D9 23 y).map K8++((D9 27 y).map K8++((D9 31 y).map K8++((D9 35 y).map K8++((D9 39 y).map K8++((D9 43 y).map K8++((D9 47 y).map K8++((A3 (A0 y 15)).map eD).map K8)))))))):=by
  cases g:hF (kd x) with
  | false =>
   have e:fc x=fc y:=by rw[zx g,zy (hk▸g)]
   exact ⟨e,f6 hk e h⟩
  | true =>
   have cx:N7 11 x=true:=by show decide (((a2u (kd x)).length:Int)>0)=true;rw[(a4p (kd x)).1];exact g
   have cy:N7 11 y=true:=by show decide (((a2u (kd y)).length:Int)>0)=true;rw[(a4p (kd y)).1, ←hk];exact g
   have ix:D9 11 x= [wdD (a2u (kd x)) (fc x)]:=by unfold D9;rw[cx];rfl
   have iy:D9 11 y= [wdD (a2u (kd y)) (fc y)]:=by unfold D9;rw[cy];rfl
   rw[ix,iy] at h
   simp only[List.map_cons,List.map_nil,List.cons_append,List.nil_append,List.cons.injEq] at h
   have lx:=(a4p (kd x)).2 g
   have bx:=gx g
   have by':=gy (hk▸g)
   have e:fc x=fc y:=by
    have h1:=h.1
    rw[←hk] at h1 by'
    exact d5h (f4i (kd x)) ⟨by omega,by omega⟩ ⟨by omega,by omega⟩ h1
   refine ⟨e, ?_,h.2⟩
   rw[ix,iy,hk,e]
 obtain ⟨hf,i11,h⟩:=hfn
 obtain ⟨i15,h⟩:=f6 hk hf h
 obtain ⟨i19,h⟩:=f6 hk hf h
 obtain ⟨i23,h⟩:=f6 hk hf h
 obtain ⟨i27,h⟩:=f6 hk hf h
 obtain ⟨i31,h⟩:=f6 hk hf h
 obtain ⟨i35,h⟩:=f6 hk hf h
 obtain ⟨i39,h⟩:=f6 hk hf h
 obtain ⟨i43,h⟩:=f6 hk hf h
 obtain ⟨i47,h⟩:=f6 hk hf h
 refine ⟨hk,hf,fun i hi=>?_,by simp only[List.map_map,Function.comp_def,eD] at h;exact h⟩
 simp only[List.mem_cons,List.not_mem_nil,or_false] at hi
 rcases hi with rfl|rfl|rfl|rfl|rfl|rfl|rfl|rfl|rfl|rfl<;>assumption
theorem e3w {x y:D} (hx:∀z∈A3 (A0 x 7),K7 (A2 z)=true) (hy:∀z∈A3 (A0 y 7),K7 (A2 z)=true) (h:byt (b2w x)=byt (b2w y)):L5 (A0 x 8)=L5 (A0 y 8)∧(A3 (A0 x 7)).map K8=(A3 (A0 y 7)).map K8:=by
 have nx:V1 (A3 (A0 x 7)):=fun z hz=>a8c (hx z hz)
 have ny:V1 (A3 (A0 y 7)):=fun z hz=>a8c (hy z hz)
 have tb:Tok (K8 (sB [98,121])):=o0 rfl
 have tw:Tok (K8 (sB [119,105,116,104,111,117,116])):=o0 rfl
 unfold b2w at h
 cases gx:L5 (A0 x 8)<;>cases gy:L5 (A0 y 8)<;>rw[gx,gy] at h<;>simp only[cond_true,cond_false] at h
 ·
  have:=a8f ((V1.cons tb G2).app nx) ((V1.cons tb G2).app ny) h
  simpa using this
 ·
  have:=a8f ((V1.cons tb G2).app nx) ((V1.cons tw G2).app ny) h
  simp only[List.map_append,List.map_cons,List.cons_append,List.cons.injEq] at this
  exact absurd this.1 (by decide)
 ·
  have:=a8f ((V1.cons tw G2).app nx) ((V1.cons tb G2).app ny) h
  simp only[List.map_append,List.map_cons,List.cons_append,List.cons.injEq] at this
  exact absurd this.1 (by decide)
 ·
  have:=a8f ((V1.cons tw G2).app nx) ((V1.cons tw G2).app ny) h
  simpa using this
theorem e5e {x y:D} (h7:kd x=7) (hk:kd x=kd y) (hi:∀i∈ [11,15,19,23,27,31,35,39,43,47],(D9 i x).map K8=(D9 i y).map K8):byt (b2w x)=byt (b2w y)∧K8 (wdD a3w (A1 (A0 x 9)))=K8 (wdD a3w (A1 (A0 y 9))):=by
 have c43x:N7 43 x=true:=by show hNm (kd x)=true;rw[h7];rfl
 have c43y:N7 43 y=true:=by show hNm (kd y)=true;rw[←hk,h7];rfl
 have c23x:N7 23 x=true:=by show (kd x==7)=true;rw[h7];rfl
 have c23y:N7 23 y=true:=by show (kd y==7)=true;rw[←hk,h7];rfl
 have e43:=hi 43 (by simp)
 have e23:=hi 23 (by simp)
 unfold D9 at e43 e23
 rw[c43x,c43y] at e43
 rw[c23x,c23y] at e23
 have e43: [byt (b2w x)]= [byt (b2w y)]:=e43
 have e23: [K8 (wdD a3w (A1 (A0 x 9)))]= [K8 (wdD a3w (A1 (A0 y 9)))]:=e23
 exact ⟨by injection e43,by injection e23⟩
theorem f9p {l m:List D} (hm:∀a∈l,∀b∈m,byt (n8 a)=byt (n8 b)→V8 a=V8 b) (h:l.map (fun a=>byt (n8 a))=m.map (fun a=>byt (n8 a))):l.map V8=m.map V8:=by
 induction l generalizing m with
 | nil=>cases m with
  | nil=>rfl
  | cons b m=>cases h
 | cons a l ih=>cases m with
  | nil=>cases h
  | cons b m =>
   simp only[List.map_cons,List.cons.injEq] at h ⊢
   exact ⟨hm a (by simp) b (by simp) h.1,ih (fun c hc d hd=>hm c (by simp[hc]) d (by simp[hd])) h.2⟩
theorem f8r (n:Nat):∀{x y:D},dsz x<n→C8 x→C8 y→K6 x=0→K6 y=0→byt (n8 x)=byt (n8 y)→V8 x=V8 y:=by
 induction n with
 | zero=>intro x y hn;omega
 | succ n ihn =>
  intro x y hn fx fy hx hy h
  obtain ⟨hk,hf,hi,ha⟩:=d5p fx fy hx hy h
  obtain ⟨x1,x2⟩:=v8 fx.v hx
  obtain ⟨y1,y2⟩:=v8 fy.v hy
  obtain ⟨kx,_,_,mx,nx,_⟩:=a8n fx x1
  obtain ⟨ky,_,_,my,ny,_⟩:=a8n fy y1
  rw[b9b x,b9b y]
  refine e5u hk (f9p (fun a ha b hb he=>ihn (by have:=J0 (y:=x) (i:=15) ha;omega) (fx.a a ha) (fy.a b hb) (x2 a ha) (y2 b hb) he) ha) fun h7=>?_
  obtain ⟨e43,e23⟩:=e5e h7 hk hi
  obtain ⟨b8,b7⟩:=e3w nx ny e43
  have l7:=congrArg List.length b7
  simp only[List.length_map] at l7
  exact ⟨hf,l7,b8,d5h e3p ⟨mx.1,by show _<3;omega⟩ ⟨my.1,by show _<3;omega⟩ e23⟩
end Go.Ev.R2
end
section
namespace Go.Ev.R2
open Go Go.Ev Go.Proofs
set_option maxRecDepth 100000
noncomputable def eqT (x y:D):Bool:=(prS x).toList==(prS y).toList
noncomputable def G32 (x y:D) (p:Bool→Prop):Prop:=b5j x∧(bif E1 x !=0 then p false else (b5j y∧p (bif E1 y==0 then eqT x y else false)))
theorem w32 (x y:D) (p:V→Prop):(C2 (Cn T27) T27 G1 0 B6 B1 32 [.d (eV x), .d (eV y)] A9.empty (fun v H=>p (B5 H v)))=G32 (eV x) (eV y) fun b=>p (.d (.lit (.bool b))):=by kernel_rfl
noncomputable def T32:Tab:=T27.add 32 g7u
noncomputable def tyE (x:D):Int:=bif E1 x !=0 then 0 else V8 x
noncomputable def tyX (x:D):Int:=bif E1 x !=0 then E1 x else bif V8 x==0 then 15 else 0
noncomputable def d8r (x y:D):Bool:=bif bif bif bif E1 x==0 then E1 y==0 else false then eqT x y else false then tyE x==tyE y else false then tyX x==tyX y else false
noncomputable def f3h (x y:D):Bool:=bif bif E1 x !=0 then true else E1 y !=0 then true else !eqT x y
noncomputable def G11 (x y:D) (p:Bool→Prop):Prop:=C8 x∧((!c2w x&&true)=true→C8 y)∧(bif bif c2w x then true else c2w y then (True∧p true) else
 ((b5j x∧b5j y)∧(b5j y∧b5j x)∧((!!eqB x y==eqB y x&&true)=true→(b5j x∧b5j x))∧((!!eqB x y==eqB y x&&true)=true→C8 x)∧
 (bif bif !eqB x y==eqB y x then true else !eqB x x==(E1 x==0) then p false else
 (b5j x∧b5j y∧C8 x∧C8 y∧(bif eqB x y then (((d8r x y&&true)=true→True)∧p (bif d8r x y then true else false)) else (((f3h x y&&true)=true→True)∧p (bif f3h x y then true else false)))))))
theorem w11 (x y:D) (p:V→Prop):(C2 (Cn T32) T32 G1 0 B6 B1 11 [.d (eV x), .d (eV y)] A9.empty (fun v H=>p (B5 H v)))=G11 (eV x) (eV y) fun b=>p (.d (.lit (.bool b))):=by kernel_rfl
noncomputable def c11:Ct:=⟨fun | [x,y]=>(C8 x∧Bd x)∧C8 y∧Bd y|_=>False,fun | [x,y]=>some (.lit (.bool true))|_=>none⟩
theorem k32:D0 B T32:=by
 refine D2 B9 k27 (fn:=Tryz.f32) (cd:=B2 Tryz.f32) (sp:=B6) (hn:=B1) Tryz.func32 (by kernel_rfl) (by kernel_rfl) A8 fun ds r hp hr=>?_
 unfold g7u at hp hr
 simp only[] at hr hp
 split at hr
 ·
  rename_i x y
  cases hr
  obtain ⟨hx,hy⟩:=hp
  rw[show [x,y].map V.d= [V.d (eV x),V.d (eV y)] by rw[hx.f.v,hy.f.v];rfl]
  refine keep (w32 x y fun v=>v=_) ?_
  rw[hx.f.v,hy.f.v]
  unfold G32
  have he:eqB x y=bif bif E1 x==0 then E1 y==0 else false then eqT x y else false:=rfl
  rw[he]
  refine ⟨hx,A5 (fun g=>?_) (fun g=>?_)⟩
  ·
   have h:(E1 x==0)=false:=by simpa using g
   rw[h];rfl
  ·
   have h:(E1 x==0)=true:=by simpa using g
   rw[h]
   exact ⟨hy,rfl⟩
 ·
  cases hr
theorem f4q {x y:D} (h:eqT x y=true):byt (prS x)=byt (prS y):=a9o h
theorem e8v (x y:D):eqB x y=eqB y x:=by
 show (bif bif E1 x==0 then E1 y==0 else false then eqT x y else false)=(bif bif E1 y==0 then E1 x==0 else false then eqT y x else false)
 have:eqT x y=eqT y x:=by unfold eqT;exact Bool.eq_iff_iff.2 ⟨fun h=>by simpa using (by simpa using h:(prS x).toList=(prS y).toList).symm,fun h=>by simpa using (by simpa using h:(prS y).toList=(prS x).toList).symm⟩
 rw[this]
 cases (E1 x==0)<;>cases (E1 y==0)<;>rfl
theorem e8u (x:D):eqB x x=(E1 x==0):=by
 show (bif bif E1 x==0 then E1 x==0 else false then eqT x x else false)=_
 have:eqT x x=true:=by unfold eqT;simp
 rw[this]
 cases (E1 x==0)<;>rfl
theorem f4r {x y:D} (h:eqB x y=true):E1 x=0∧E1 y=0∧eqT x y=true:=by
 have h:(bif bif E1 x==0 then E1 y==0 else false then eqT x y else false)=true:=h
 cases hx:(E1 x==0) with
 | false=>rw[hx] at h;cases h
 | true =>
  rw[hx] at h
  cases hy:(E1 y==0) with
  | false=>rw[hy] at h;cases h
  | true =>
   rw[hy] at h
   exact ⟨by simpa using hx,by simpa using hy,h⟩
theorem f2r {x y:D} (fx:C8 x) (fy:C8 y) (h:eqB x y=true):d8r x y=true:=by
 obtain ⟨hx,hy,ht⟩:=f4r h
 have hp:∀z,E1 z=0→prS z=n8 z:=fun z hz=>by unfold prS;rw[hz];rfl
 have hb:=f4q ht
 rw[hp x hx,hp y hy] at hb
 have hty:=f8r _ (Nat.lt_succ_self (dsz x)) fx fy (f3y hx fx.v).2.2 (f3y hy fy.v).2.2 hb
 unfold d8r tyE tyX
 rw[hx,hy,ht,hty]
 simp
theorem f9i {x y:D} (h:eqB x y=false):f3h x y=true:=by
 have h:(bif bif E1 x==0 then E1 y==0 else false then eqT x y else false)=false:=h
 unfold f3h
 cases hx:(E1 x==0) with
 | false =>
  have:(E1 x !=0)=true:=by simpa using hx
  rw[this];rfl
 | true =>
  have e:(E1 x !=0)=false:=by simpa using hx
  rw[hx] at h
  rw[e]
  cases hy:(E1 y==0) with
  | false =>
   have:(E1 y !=0)=true:=by simpa using hy
   rw[this];rfl
  | true =>
   have e:(E1 y !=0)=false:=by simpa using hy
   rw[hy] at h
   have h:eqT x y=false:=h
   rw[e,h];rfl
theorem k11:D0 B (T32.add 11 c11):=by
 refine D2 B9 k32 (fn:=Tryz.f11) (cd:=B2 Tryz.f11) (sp:=B6) (hn:=B1) Tryz.func11 (by kernel_rfl) (by kernel_rfl) A8 fun ds r hp hr=>?_
 unfold c11 at hp hr
 simp only[] at hr hp
 split at hr
 ·
  rename_i x y
  cases hr
  obtain ⟨⟨fx,bx⟩,fy,bY⟩:=hp
  rw[show [x,y].map V.d= [V.d (eV x),V.d (eV y)] by rw[fx.v,fy.v];rfl]
  refine keep (w11 x y fun v=>v=_) ?_
  rw[fx.v,fy.v]
  have px:=f6y fx bx
  have py:=f6y fy bY
  unfold G11
  refine ⟨fx,fun _=>fy,A5 (fun _=>⟨trivial,rfl⟩) (fun _=>⟨⟨px,py⟩,⟨py,px⟩,fun _=>⟨px,px⟩,fun _=>fx,A5 (fun g=>?_) (fun g=>⟨px,py,fx,fy,A5 (fun e=>⟨fun _=>trivial, ?_⟩) (fun e=>⟨fun _=>trivial, ?_⟩)⟩)⟩)⟩
  ·
   exfalso
   rw[e8v y x,e8u] at g
   simp at g
  ·
   rw[f2r fx fy e];rfl
  ·
   rw[f9i e];rfl
 ·
  cases hr
end Go.Ev.R2
end
