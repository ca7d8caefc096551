/- What the proofs of the lexer's laws share, part 3 of 14. -/
import Derived.Test.YtnnhlphbfpnaaaaGreatDoorU2
import Derived.LoopN
set_option linter.unusedVariables false
set_option linter.unusedSimpArgs false
section
namespace Go.Ev
section
variable {C : Cx} {s s' q : St} {g : G} {a : Act} {w : World}
variable {call : E7} {ops : Array Oper} {ss : Nat → St} {f : Nat → FP}
def H6 (listed:Array Bool) (k:Nat):Prop:=listed.getD k false=true
theorem b2s {listed:Array Bool} {i k:Nat} (hi:i<listed.size):H6 (listed.setIfInBounds i true) k↔H6 listed k∨k=i:=by
 unfold H6
 by_cases h:i=k
 ·subst h;simp[hi]
 ·rw[getD_set_ne false h]
  constructor
  ·exact .inl
  ·rintro (h'|h')
   ·exact h'
   ·exact absurd h'.symm h
def left (n:Nat) (listed:Array Bool):Nat:=(List.range n).countP fun k=> !listed.getD k false
theorem c5n {α:Type} {p q:α→Bool}:∀{l:List α} {x:α},(∀y∈l,p y=true→q y=true)→x∈l→q x=true→p x=false→l.countP p<l.countP q
 | [],_,_,h,_,_=>by simp at h
 | y::l,x,hpq,hx,hq,hp=>by
  simp only[List.countP_cons]
  have hle:l.countP p≤l.countP q:=List.countP_mono_left fun z hz=>hpq z (by simp[hz])
  rcases List.mem_cons.1 hx with rfl|hx
  ·simp only[hq,hp,if_true]
   simp
   omega
  ·have:=c5n (fun z hz=>hpq z (by simp[hz])) hx hq hp
   have h1:=hpq y (by simp)
   cases hpy:p y<;>cases hqy:q y<;>simp_all<;>omega
theorem d2e {n:Nat} {listed:Array Bool} {i:Nat} (hs:listed.size=n) (hi:i<n) (hn:¬H6 listed i):left n (listed.setIfInBounds i true)<left n listed:=by
 refine c5n (x:=i) (fun k _ h=>?_) (by simpa using hi) (by unfold H6 at hn;simpa using hn) ?_
 ·have:¬H6 (listed.setIfInBounds i true) k:=by unfold H6;simpa using h
  rw[b2s (by omega)] at this
  have h2:¬H6 listed k:=fun e=>this (.inl e)
  unfold H6 at h2;simpa using h2
 ·have:H6 (listed.setIfInBounds i true) i:=(b2s (by omega)).2 (.inr rfl)
  unfold H6 at this;simp[this]
theorem d5u {listed:Array Bool} (r:Run C call ops ss f) (hs:listed.size=ops.size) (h:Region.ready .any ops listed= []):∀k,k<ops.size→H6 listed k:=by
 intro k
 induction k using Nat.strongRecOn with
 | ind k ih =>
  intro hk
  cases hl:listed.getD k false with
  | true=>exact hl
  | false =>
   exfalso
   have:k∈Region.ready .any ops listed:=by
    rw[mem_ready]
    refine ⟨?_,ops[k],by simp[hk],fun e he hb=>ih e.on (r.edges k _ e (by simp[hk]) he hb) (Nat.lt_trans (r.edges k _ e (by simp[hk]) he hb) hk)⟩
    rw[Array.getD_eq_getD_getElem?] at hl ⊢
    have hk':k<listed.size:=by omega
    simp only[Array.getElem?_eq_getElem hk',Option.getD_some] at hl ⊢
    exact hl
   rw[h] at this;simp at this
theorem sim (ok:a7m C) (okc:U6 C) (hv:X2 C call) (r:Run C call ops ss f) {g0:G} {w0:World} {Q:Exit→Act→World→Prop} (hq:∀a' w',Y8 C g0 (ss 0).H w0 (ss ops.size) a' w'→Q .normal a' w') :
  ∀(fuel:Nat) (listed:Array Bool) (g:G) (a:Act) (w:World),listed.size=ops.size→d7s ops (H6 listed)→left ops.size listed≤fuel→
   Rel C g (mix ops ss f (H6 listed)) a w→j7 w0 g0 w g→z8 (ss 0).H g0 (mix ops ss f (H6 listed)).H g→wpAny C.P .any ops Q fuel listed a w:=by
 have fin:∀(listed:Array Bool) (g:G) (a:Act) (w:World),(∀k,k<ops.size→H6 listed k)→Rel C g (mix ops ss f (H6 listed)) a w→j7 w0 g0 w g→z8 (ss 0).H g0 (mix ops ss f (H6 listed)).H g→Q .normal a w:=by
  intro listed g a w hall R st k
  have e:mix ops ss f (H6 listed)=ss ops.size:=by
   have h1:(mix ops ss f (H6 listed)).F=(ss ops.size).F:=by
    funext t
    exact d8u r (Nat.le_refl _) fun l hl _=>⟨fun _=>hl,fun _=>hall l hl⟩
   have h2:(mix ops ss f (H6 listed)).H=(ss ops.size).H:=by
    funext n
    exact d8t r (Nat.le_refl _) fun l hl _=>⟨fun _=>hl,fun _=>hall l hl⟩
   have h3:(mix ops ss f (H6 listed)).N=(ss ops.size).N:=(r.frameN ops.size (Nat.le_refl _)).symm
   cases hm:mix ops ss f (H6 listed) with
   | mk N F H =>
    rw[hm] at h1 h2 h3
    cases hss:ss ops.size with
    | mk N' F' H' =>
     rw[hss] at h1 h2 h3
     simp only at h1 h2 h3
     rw[h1,h2,h3]
  rw[e] at R k
  exact hq a w ⟨g,R,st,k⟩
 intro fuel
 induction fuel with
 | zero =>
  intro listed g a w hs hd hf R st k
  have hall:∀k,k<ops.size→H6 listed k:=by
   intro k hk
   cases hl:listed.getD k false with
   | true=>exact hl
   | false =>
    have:=d2e hs hk (by unfold H6;simp[hl])
    omega
  refine ⟨?_,fin listed g a w hall R st k⟩
  rw[List.eq_nil_iff_forall_not_mem]
  intro j hj
  rw[mem_ready] at hj
  obtain ⟨h1,o,ho,_⟩:=hj
  have hjs:j<ops.size:=(Array.getElem?_eq_some_iff.1 ho).1
  have:=hall j hjs
  unfold H6 at this
  rw[Array.getD_eq_getD_getElem?] at h1 this
  have hj':j<listed.size:=by omega
  simp only[Array.getElem?_eq_getElem hj',Option.getD_some] at h1 this
  rw[this] at h1;cases h1
 | succ fuel ih =>
  intro listed g a w hs hd hf R st k
  refine ⟨fun h=>fin listed g a w (d5u r hs h) R st k,fun i hi=>?_⟩
  rw[mem_ready] at hi
  obtain ⟨h1,o,ho,he⟩:=hi
  have his:i<ops.size:=(Array.getElem?_eq_some_iff.1 ho).1
  have hn:¬H6 listed i:=by
   unfold H6
   rw[Array.getD_eq_getD_getElem?] at h1 ⊢
   have hi':i<listed.size:=by omega
   simp only[Array.getElem?_eq_getElem hi',Option.getD_some] at h1 ⊢
   rw[h1];simp
  have hnext:∀k,H6 (listed.setIfInBounds i true) k↔H6 listed k∨k=i:=fun k=>b2s (by omega)
  have hd':d7s ops (H6 (listed.setIfInBounds i true)):=by
   intro j o' e hj ho' he' hb
   rw[hnext] at hj ⊢
   rcases hj with hj|hj
   ·exact .inl (hd j o' e hj ho' he' hb)
   ·subst hj;rw[ho] at ho';cases ho';exact .inl (he e he' hb)
  have hmix:mix ops ss f (H6 (listed.setIfInBounds i true))=mix ops ss f fun k=>H6 listed k∨k=i:=e3m fun k _=>hnext k
  have hstep:=e6u r hd ho hn (fun e he' hb=>he e he' hb)
  have hlt:left ops.size (listed.setIfInBounds i true)≤fuel:=by
   have:=d2e hs his hn;omega
  unfold wpOp
  simp only[ho]
  unfold k6 at hstep
  split at hstep
  ·rename_i hw
   rw[if_pos (X3 R hw)]
   refine .inl (c7m ok okc hv R (fun _ ha=>e3k (fun K f args H r H' h1 h2=>(okc.prim K f args H r H' h1 h2).2) (fun K args H r H' h=>(hv K args H r H' h).2.2) r hd ho hn (fun e he' hb=>he e he' hb) hw ha) hstep fun a' w' hp=>?_)
   obtain ⟨g1,r1,st1,k1⟩:=hp
   exact ih _ g1 a' w' (by simpa using hs) hd' hlt (by rw[hmix];exact r1) (st.trans st1) (by rw[hmix];exact k.trans k1)
  ·rename_i hw
   rw[if_neg (by rw[X3 R hw];simp)]
   obtain ⟨r1,e1⟩:=X8 R hstep a4j
   exact ih _ g _ w (by simpa using hs) hd' hlt (by rw[hmix];exact r1) st (by rw[hmix,e1];exact k)
  ·cases hstep
theorem e4k (ok:a7m C) (okc:U6 C) (hv:X2 C call) {il:Bool} {id:Nat} {Q:Exit→Act→World→Prop} (R:Rel C g s a w)
  (h:Z6 C call il ops s=some s') (hq:∀a' w',Y8 C g s.H w s' a' w'→Q .normal a' w'):(Code.region id ops true).wp C.P Q a w:=by
 obtain ⟨ss,f,r,e0,e1⟩:=c2o h
 obtain ⟨g0,R0,st0,k0⟩:=a9a (g:=g) (a:=a) (w:=w) ops.toList R
 obtain ⟨R1,st1,n1⟩:=a9t (w':={w with drawn:=w.drawn+1 }) (lim':=g0.lim) R0 ⟨rfl,rfl,rfl,Nat.le_refl _,fun _ _=>rfl⟩ (fun _ _=>rfl) (fun b hb=>(R0.heap.fresh b hb).1)
 refine wp_region_any ok.mixed ?_
 have hempty:∀k,¬H6 (Array.replicate ops.size false) k:=by
  intro k h
  unfold H6 at h
  rw[Array.getD_eq_getD_getElem?] at h
  by_cases hk:k<ops.size
  ·simp[hk] at h
  ·simp[hk] at h
 have hmix:mix ops ss f (H6 (Array.replicate ops.size false))=P2 s ops.toList:=by
  have h1:(mix ops ss f (H6 (Array.replicate ops.size false))).F=(ss 0).F:=by
   funext t
   exact d8u r (Nat.zero_le _) fun l hl _=>⟨fun h=>absurd h (hempty l),fun h=>by omega⟩
  have h2:(mix ops ss f (H6 (Array.replicate ops.size false))).H=(ss 0).H:=by
   funext n
   exact d8t r (Nat.zero_le _) fun l hl _=>⟨fun h=>absurd h (hempty l),fun h=>by omega⟩
  rw[←e0]
  cases hm:mix ops ss f (H6 (Array.replicate ops.size false)) with
  | mk N F H =>
   have h3:(mix ops ss f (H6 (Array.replicate ops.size false))).N=(ss 0).N:=rfl
   rw[hm] at h1 h2 h3
   cases hss:ss 0 with
   | mk N' F' H' =>
    rw[hss] at h1 h2 h3
    simp only at h1 h2 h3
    rw[h1,h2,h3]
 refine sim ok okc hv r (g0:=⟨g0.val,g0.lim,g0.owner⟩) (w0:={w with drawn:=w.drawn+1 }) (fun a' w' hp=>hq a' w' ?_) ops.size _ ⟨g0.val,g0.lim,g0.owner⟩ a _ (by simp) (fun j o e hj=>absurd hj (hempty j)) ?_ ?_ (.refl _ _) ?_
 ·obtain ⟨g1,r1,st2,k2⟩:=hp
  rw[e0] at k2
  have st:j7 w g w' g1:=(st0.trans st1).trans st2
  have k:z8 s.H g (ss ops.size).H g1:=(k0.trans (.of_names n1)).trans k2
  cases hs:M1 ops.toList with
  | false=>rw[hs] at e1;simp at e1;subst e1;exact ⟨g1,r1,st,k⟩
  | true =>
   rw[hs] at e1;simp at e1;subst e1
   obtain ⟨g2,r2,st3,k3⟩:=b8n r1
   exact ⟨g2,r2,st.trans st3,k.trans k3⟩
 ·unfold left
  exact Nat.le_trans List.countP_le_length (by simp)
 ·rw[hmix];exact R1
 ·rw[hmix,e0];exact .refl _ _
theorem c4h (ok:a7m C) (okc:U6 C) (hv:X2 C call):c3f C call:=by
 intro il id ops draw s s' g a w Q R h hq
 cases draw with
 | true=>simp only[if_true] at h;exact e4k ok okc hv R h hq
 | false=>simp only[if_false,Bool.false_eq_true] at h;exact d2z ok okc hv R h hq
end
end Go.Ev
end
section
namespace Go.Ev
section
variable {C : Cx} {s s' q : St}
def b7u (C:Cx):Prop:=∀K f args H r H',C.prim K=some f→f args H=some (r,H')→e5g H H'
def c8n (call:E7):Prop:=∀K args H r H',call K args H=some (r,H')→j9 H H'
theorem a5o:∀(l:List Oper) {s:St},j9 s.H (f0 s l).H
 | [],_=>.rfl'
 | o::l,s=>by
  unfold f0
  split
  ·rename_i d _ _
   exact (b4r d).trans (a5o l)
  ·exact a5o l
theorem a7j:∀(l:List Oper) {s:St},j9 s.H (P2 s l).H
 | [],_=>.rfl'
 | o::l,s=>by
  unfold P2
  split
  ·rename_i d _ _
   exact (b4r d).trans (a7j l)
  ·exact a7j l
theorem b6d {H:B4}:j9 H (k9 H):=fun m h=>by
 unfold k9 at h
 split at h
 ·rename_i hb;rw[hb];rfl
 ·exact h
theorem c9k {v:V} {dst:Option Nat} (h:s.put dst v=some s'):j9 s.H s'.H:=by rw[b8z h];exact .rfl'
theorem a2o {call:E7} (hp:b7u C) (hv:c8n call) {ops:Array Oper}:∀{l:List Oper} {s s':St},P0 C false call ops l s=some s'→j9 s.H s'.H
 | [],s,s',h=>by simp[P0] at h;subst h;exact .rfl'
 | o::l,s,s',h=>by
  simp only[P0] at h
  split at h
  ·split at h
   ·rename_i s1 h1
    exact (c2i hp hv h1).2.trans (a2o hp hv h)
   ·cases h
  ·split at h
   ·rename_i s1 h1
    exact (c9k h1).trans (a2o hp hv h)
   ·cases h
  ·cases h
theorem c9b {call:E7} {ops:Array Oper} {ss:Nat→St} {f:Nat→FP} (hp:b7u C) (hv:c8n call) (r:Run C call ops ss f):∀k,k≤ops.size→j9 (ss 0).H (ss k).H
 | 0,_=>.rfl'
 | k+1,h=>by
  have ho:ops[k]?=some ops[k]:=by simp
  refine (c9b hp hv r k (by omega)).trans ?_
  have:=(r.step k _ ho).1
  unfold k6 at this
  split at this
  ·exact (c2i hp hv this).2
  ·exact c9k this
  ·cases this
theorem b6v {lp:a7p} {call:E7} (hl:b5z lp) (hp:b7u C) (hv:c8n call):∀(c:Code) (il:Bool) {x:X} {s s':St},G0 C lp call il c s=some (x,s')→j9 s.H s'.H:=by
 intro c
 induction c with
 | skip=>intro il x s s' h;simp[G0] at h;obtain ⟨_,rfl⟩:=h;exact .rfl'
 | region id ops draw =>
  intro il x s s' h
  simp only[G0] at h
  cases hd:(if draw=true then Z6 C call il ops s else V3 C call il ops s) with
  | none=>simp[hd] at h
  | some s1 =>
   simp[hd] at h;obtain ⟨_,rfl⟩:=h
   cases draw with
   | true =>
    simp only[if_true] at hd
    obtain ⟨ss,f,r,e0,e1⟩:=c2o hd
    have hb:j9 s.H (ss ops.size).H:=by
     refine (a7j ops.toList).trans ?_
     rw[←e0];exact c9b hp hv r _ (Nat.le_refl _)
    rw[e1]
    cases M1 ops.toList with
    | true=>exact hb.trans b6d
    | false=>exact hb
   | false =>
    simp only[if_false,Bool.false_eq_true] at hd
    unfold V3 at hd
    split at hd
    ·rename_i s2 he
     simp at hd;subst hd
     have hb:j9 s.H s2.H:=by
      cases il with
      | true=>exact (a5o ops.toList).trans (a2o hp hv he)
      | false=>exact a2o hp hv he
     cases M1 ops.toList with
     | true=>exact hb.trans b6d
     | false=>exact hb
    ·cases hd
 | seq c1 c2 ih1 ih2 =>
  intro il x s s' h
  simp only[G0] at h
  cases h1:G0 C lp call il c1 s with
  | none=>simp[h1] at h
  | some p =>
   obtain ⟨x1,s1⟩:=p
   cases x1 with
   | normal=>simp only[h1] at h;exact (ih1 il h1).trans (ih2 il h)
   | exit i=>simp[h1] at h;obtain ⟨_,rfl⟩:=h;exact ih1 il h1
   | ret=>simp[h1] at h;obtain ⟨_,rfl⟩:=h;exact ih1 il h1
 | cond c x1 x2 ih1 ih2 =>
  intro il x s s' h
  simp only[G0] at h
  split at h
  ·rename_i t hc
   cases t with
   | true=>exact ih1 il h
   | false=>exact ih2 il h
  ·cases h
 | block id c ih =>
  intro il x s s' h
  simp only[G0] at h
  cases h1:G0 C lp call il c s with
  | none=>simp[h1] at h
  | some p =>
   obtain ⟨x1,s1⟩:=p
   cases x1 with
   | normal=>simp[h1] at h;obtain ⟨_,rfl⟩:=h;exact ih il h1
   | ret=>simp[h1] at h;obtain ⟨_,rfl⟩:=h;exact ih il h1
   | exit i=>simp[h1] at h;obtain ⟨_,rfl⟩:=h;exact ih il h1
 | loop c ih =>
  intro il x s s' h
  simp only[G0] at h
  have hro:=hl _ _ _ _ h
  clear h
  induction hro with
  | last h hx=>exact ih true h
  | more h t ih2=>exact (ih true h).trans ih2
 | exit id=>intro il x s s' h;simp[G0] at h;obtain ⟨_,rfl⟩:=h;exact .rfl'
 | ret=>intro il x s s' h;simp[G0] at h;obtain ⟨_,rfl⟩:=h;exact .rfl'
 | _=>intro il x s s' h;simp[G0] at h
theorem d3j {lp:a7p} {call:E7} (hl:b5z lp) (hp:b7u C) (hv:c8n call) {K:FuncId} {args:List V} {H H':B4} {r:V} (h:a5z C lp call K args H=some (r,H')):j9 H H':=by
 unfold a5z at h
 cases hf:C.P.funcs[K]? with
 | none=>simp[hf] at h
 | some fn =>
  simp only[hf] at h
  cases hb:fn.body with
  | none=>simp[hb] at h
  | some c =>
   simp only[hb] at h
   have fin:∀(x:X) (s':St),G0 C lp call false c ⟨max fn.ntmps args.length,fun t=>(args[t]?).getD K9,H⟩=some (x,s')→
     (match u7 C s' fn.results.toList with|some vs=>some (Y9 vs,s'.H)|none=>none)=some (r,H')→j9 H H':=by
    intro x s' hc hres
    have:=b6v hl hp hv c false hc
    cases he:u7 C s' fn.results.toList with
    | none=>simp[he] at hres
    | some l=>simp[he] at hres;rw[←hres.2];exact this
   cases hc:G0 C lp call false c ⟨max fn.ntmps args.length,fun t=>(args[t]?).getD K9,H⟩ with
   | none=>simp[hc] at h
   | some p =>
    obtain ⟨x,s'⟩:=p
    simp only[hc] at h
    cases x with
    | normal=>exact fin .normal s' hc h
    | ret=>exact fin .ret s' hc h
    | exit i=>simp at h
def a9w (C:Cx):Prop:=∀(K:FuncId) (fn:Func),C.P.funcs[K]?=some fn→fn.body.isSome=true→fn.name≠ "runtime.NumGoroutine"
theorem c2x (ok:a7m C) (okc:U6 C) (hn:a9w C) {lp:a7p} {call:E7} (hl:b5z lp) (hv:X2 C call):X2 C (a5z C lp call):=by
 intro K args H r H' h
 obtain ⟨⟨fn,h1,h2⟩,h3⟩:=e4p okc hl (c4h ok okc hv) h
 exact ⟨⟨fn,h1,hn K fn h1 h2,h2⟩,h3,d3j hl (fun K f args H r H' h1 h2=>(okc.prim K f args H r H' h1 h2).2) (fun K args H r H' h=>(hv K args H r H' h).2.2) h⟩
theorem b4e:∀n,b5z (j5 n)
 | 0=>fun f s x s' h=>by simp[j5] at h
 | n+1=>fun f s x s' h=>by
  simp only[j5] at h
  split at h
  ·rename_i s1 h1
   exact .more h1 (b4e n f s1 x s' h)
  ·rename_i hne
   refine .last h fun e=>?_
   subst e
   exact hne s' h
end
end Go.Ev
end
section
namespace Go.Ev
section
variable {C : Cx} {s s' q : St}
def R8 (c c':E7):Prop:=∀K args H r,c K args H=some r→c' K args H=some r
theorem R8.rfl' {c:E7}:R8 c c:=fun _ _ _ _ h=>h
theorem R8.trans {c c' c'':E7} (h:R8 c c') (k:R8 c' c''):R8 c c'':=fun K args H r hr=>k K args H r (h K args H r hr)
theorem d3i {y:Bool} {c:E7} {dst:Option Nat} {K:FuncId} {args:List V} (h:L3 C y c s dst K args=some s') :
  (∀c':E7,L3 C y c' s dst K args=some s'∧∀H2:B4,k7 C c' H2 K args=k7 C c H2 K args)∨
  ∃a H r,c K a H=some r∧∀c':E7,c' K a H=some r→L3 C y c' s dst K args=some s'∧k7 C c' s.H K args=k7 C c s.H K args:=by
 unfold L3 at h
 split at h
 ·rename_i f he
  left
  intro c'
  refine ⟨?_,fun H2=>by unfold k7;simp only[he]⟩
  unfold L3;simp only[he];exact h
 ·rename_i he
  split at h
  ·rename_i f hp
   left
   intro c'
   refine ⟨?_,fun H2=>by unfold k7;simp only[he,hp]⟩
   unfold L3;simp only[he,hp];exact h
  ·rename_i hp
   right
   split at h
   ·rename_i ds hds
    split at h
    ·rename_i r Hc hc
     refine ⟨_,_,_,hc,fun c' hc'=>⟨?_, ?_⟩⟩
     ·unfold L3;simp only[he,hp,hds,hc'];exact h
     ·unfold k7;simp only[he,hp,hds,hc',hc]
    ·cases h
   ·rename_i hds
    cases dst with
    | none=>cases h
    | some d =>
     have key:∀(s0:St) (a0:List V),Y5 c s0 d K a0=some s'→∃a H r,c K a H=some r∧∀c':E7,c' K a H=some r→Y5 c' s0 d K a0=some s':=by
      intro s0 a0 h
      unfold Y5 at h
      split at h
      ·rename_i r Hc hc
       exact ⟨_,_,_,hc,fun c' hc'=>by unfold Y5;simp only[hc'];exact h⟩
      ·cases h
     cases y with
     | true =>
      obtain ⟨a,H,r,h1,h2⟩:=key _ _ h
      refine ⟨a,H,r,h1,fun c' hc'=>⟨?_,by unfold k7;simp only[he,hp,hds]⟩⟩
      unfold L3;simp only[he,hp,hds];exact h2 c' hc'
     | false =>
      obtain ⟨a,H,r,h1,h2⟩:=key _ _ h
      refine ⟨a,H,r,h1,fun c' hc'=>⟨?_,by unfold k7;simp only[he,hp,hds]⟩⟩
      unfold L3;simp only[he,hp,hds];exact h2 c' hc'
theorem e4g {y:Bool} {c:E7} {o:Oper} (h:D5 C y c o s=some s') :
  ∃ask:E7→Prop,ask c∧(∀c1 c2,R8 c1 c2→ask c1→ask c2)∧(∀cs:Nat→E7,(∀K a H r,c K a H=some r→∃n,cs n K a H=some r)→∃n,ask (cs n))∧
   ∀c',ask c'→D5 C y c' o s=some s'∧∀l s2,J7 C c' l o s s2=J7 C c l o s s2:=by
 have easy:(∀c':E7,D5 C y c' o s=some s'∧∀l s2,J7 C c' l o s s2=J7 C c l o s s2)→∃ask:E7→Prop,ask c∧(∀c1 c2,R8 c1 c2→ask c1→ask c2)∧(∀cs:Nat→E7,(∀K a H r,c K a H=some r→∃n,cs n K a H=some r)→∃n,ask (cs n))∧
   ∀c',ask c'→D5 C y c' o s=some s'∧∀l s2,J7 C c' l o s s2=J7 C c l o s s2:=fun h=>⟨fun _=>True,trivial,fun _ _ _ _=>trivial,fun _ _=>⟨0,trivial⟩,fun c' _=>h c'⟩
 obtain ⟨dst,op,type,pos,after,guard⟩:=o
 cases op with
 | call cl =>
  obtain ⟨callee,cargs,at_⟩:=cl
  cases callee with
  | builtin b=>exact easy fun c'=>⟨by cases b<;>exact h,fun l s2=>by cases b<;>rfl⟩
  | invoke x z=>exact easy fun c'=>⟨h,fun l s2=>rfl⟩
  | value fo =>
   simp only[D5] at h
   split at h
   ·cases h
   ·rename_i args ha
    split at h
    ·rename_i K first cap hf
     rcases d3i h with h1|⟨a,H,r,h1,h2⟩
     ·refine easy fun c'=>⟨?_,fun l s2=>?_⟩
      ·simp only[D5,ha,hf];exact (h1 c').1
      ·simp only[J7,ha,hf];rw[(h1 c').2]
     ·refine ⟨fun c'=>c' K a H=some r,h1,fun c1 c2 hle h=>hle _ _ _ _ h,fun cs hcs=>hcs K a H r h1,fun c' hc'=>⟨?_,fun l s2=>?_⟩⟩
      ·simp only[D5,ha,hf];exact (h2 c' hc').1
      ·simp only[J7,ha,hf];rw[(h2 c' hc').2]
    ·cases h
 | slice t x lo hi mx=>cases mx<;>exact easy fun c'=>⟨h,fun l s2=>rfl⟩
 | _=>exact easy fun c'=>⟨h,fun l s2=>rfl⟩
structure i2p (cs:Nat→E7) (c:E7):Prop where
 up:∀n m,n≤m→R8 (cs n) (cs m)
 le:∀n,R8 (cs n) c
 sup:∀K a H r,c K a H=some r→∃n,cs n K a H=some r
theorem d9j {y:Bool} {c c':E7} (hle:R8 c c') {o:Oper} (h:D5 C y c o s=some s'):D5 C y c' o s=some s'∧∀l s2,J7 C c' l o s s2=J7 C c l o s s2:=by
 obtain ⟨ask,h1,h2,_,h4⟩:=e4g h
 exact h4 c' (h2 c c' hle h1)
theorem c2h {y:Bool} {c c':E7} (hle:R8 c c') {ops:Array Oper}:∀{l:List Oper} {s s':St},P0 C y c ops l s=some s'→P0 C y c' ops l s=some s'
 | [],s,s',h=>h
 | o::l,s,s',h=>by
  simp only[P0] at h ⊢
  split at h
  ·split at h
   ·rename_i s1 h1
    rw[(d9j hle h1).1];exact c2h hle h
   ·cases h
  ·split at h
   ·rename_i s1 h1
    exact c2h hle h
   ·cases h
  ·cases h
theorem e5p {c c':E7} (hle:R8 c c') {ops:Array Oper} {o:Oper} (h:k6 C c ops o s=some s'):k6 C c' ops o s=some s'∧∀s2,fpY C c' ops o s s2=fpY C c ops o s s2:=by
 unfold k6 at h ⊢
 unfold fpY
 split at h
 ·rename_i hw
  obtain ⟨h1,h2⟩:=d9j hle h
  simp only[hw]
  exact ⟨h1,fun s2=>h2 _ _⟩
 ·rename_i hw
  simp only[hw]
  exact ⟨h,fun s2=>trivial⟩
 ·cases h
theorem d8m {c c':E7} (hle:R8 c c') {ops:Array Oper}:∀{l:List Oper} {s:St} {r:St×List FP},a4i C c ops l s=some r→a4i C c' ops l s=some r
 | [],s,r,h=>h
 | o::l,s,r,h=>by
  simp only[a4i] at h ⊢
  split at h
  ·rename_i s1 h1
   split at h
   ·rename_i r2 fs h2
    obtain ⟨u1,u2⟩:=e5p hle h1
    simp only[u1,d8m hle h2,u2]
    exact h
   ·cases h
  ·cases h
theorem e4j {c c':E7} (hle:R8 c c') {il:Bool} {ops:Array Oper} (h:Z6 C c il ops s=some s'):Z6 C c' il ops s=some s':=by
 unfold Z6 at h ⊢
 cases hc:(W8 ops&&(p7 ops&&a5d ops.toList)) with
 | false=>simp only[hc,cond_false] at h;cases h
 | true =>
  simp only[hc,cond_true] at h ⊢
  split at h
  ·rename_i s1 fs h1
   simp only[d8m hle h1];exact h
  ·cases h
theorem d2y {c c':E7} (hle:R8 c c') {il:Bool} {ops:Array Oper} (h:V3 C c il ops s=some s'):V3 C c' il ops s=some s':=by
 unfold V3 at h ⊢
 split at h
 ·rename_i s1 h1
  simp only[c2h hle h1];exact h
 ·cases h
theorem c9x {f f':St→Option (X×St)} (hf:∀s r,f s=some r→f' s=some r):∀{n m:Nat} {s:St} {r:X×St},n≤m→j5 n f s=some r→j5 m f' s=some r
 | 0,_,_,_,_,h=>by simp[j5] at h
 | n+1,0,_,_,hnm,_=>by omega
 | n+1,m+1,s,r,hnm,h=>by
  simp only[j5] at h ⊢
  cases hfs:f s with
  | none=>simp[hfs] at h
  | some p =>
   rw[hf s p hfs]
   obtain ⟨x,s1⟩:=p
   cases x with
   | normal=>simp only[hfs] at h ⊢;exact c9x hf (by omega) h
   | exit i=>simp only[hfs] at h ⊢;exact h
   | ret=>simp only[hfs] at h ⊢;exact h
end
section code
variable {C : Cx}
def d7r (lp lp':a7p):Prop:=∀(f f':St→Option (X×St)),(∀s r,f s=some r→f' s=some r)→∀s r,lp f s=some r→lp' f' s=some r
theorem e4m {lp lp':a7p} {c c':E7} (hl:d7r lp lp') (hle:R8 c c'):∀(k:Code) (il:Bool) (s:St) (r:X×St),G0 C lp c il k s=some r→G0 C lp' c' il k s=some r:=by
 intro k
 induction k with
 | region id ops draw =>
  intro il s r h
  simp only[G0] at h ⊢
  cases draw with
  | true =>
   simp only[if_true] at h ⊢
   split at h
   ·rename_i s1 h1;simp only[e4j hle h1];exact h
   ·cases h
  | false =>
   simp only[if_false,Bool.false_eq_true] at h ⊢
   split at h
   ·rename_i s1 h1;simp only[d2y hle h1];exact h
   ·cases h
 | seq a b ih1 ih2 =>
  intro il s r h
  simp only[G0] at h ⊢
  cases h1:G0 C lp c il a s with
  | none=>simp[h1] at h
  | some p =>
   obtain ⟨x1,s1⟩:=p
   rw[ih1 il s _ h1]
   simp only[h1] at h
   cases x1 with
   | normal=>exact ih2 il s1 r h
   | exit i=>exact h
   | ret=>exact h
 | cond x a b ih1 ih2 =>
  intro il s r h
  simp only[G0] at h ⊢
  split at h
  ·rename_i t hc
   cases t with
   | true=>exact ih1 il s r h
   | false=>exact ih2 il s r h
  ·cases h
 | block id a ih =>
  intro il s r h
  simp only[G0] at h ⊢
  cases h1:G0 C lp c il a s with
  | none=>simp[h1] at h
  | some p=>rw[ih il s _ h1];rw[h1] at h;exact h
 | loop a ih =>
  intro il s r h
  simp only[G0] at h ⊢
  exact hl _ _ (ih true) s r h
 | skip=>intro il s r h;exact h
 | exit id=>intro il s r h;exact h
 | ret=>intro il s r h;exact h
 | _=>intro il s r h;simp[G0] at h
theorem e4o {lp lp':a7p} {c c':E7} (hl:d7r lp lp') (hle:R8 c c'):R8 (a5z C lp c) (a5z C lp' c'):=by
 intro K args H r h
 unfold a5z at h ⊢
 cases hf:C.P.funcs[K]? with
 | none=>simp[hf] at h
 | some fn =>
  simp only[hf] at h ⊢
  cases hb:fn.body with
  | none=>simp[hb] at h
  | some k =>
   simp only[hb] at h ⊢
   cases hc:G0 C lp c false k ⟨max fn.ntmps args.length,fun t=>(args[t]?).getD K9,H⟩ with
   | none=>simp[hc] at h
   | some p=>rw[e4m hl hle k false _ _ hc];rw[hc] at h;exact h
theorem e6x {n m:Nat} (h:n≤m):d7r (j5 n) (j5 m):=fun f f' hf s r hr=>c9x hf h hr
def evM (C:Cx):Nat→E7
 | 0,_,_,_=>none
 | n+1,K,args,H=>a5z C (j5 n) (evM C n) K args H
theorem d6j:∀{n m:Nat},n≤m→R8 (evM C n) (evM C m)
 | 0,_,_=>fun K args H r h=>by simp[evM] at h
 | n+1,0,h=>by omega
 | n+1,m+1,h=>e4o (e6x (by omega)) (d6j (by omega))
noncomputable def f4p (C:Cx):E7:=fun K args H=>open Classical in if h:∃r,∃n,evM C n K args H=some r then some h.choose else none
theorem e4i {K:FuncId} {args:List V} {H:B4} {r:V×B4}:f4p C K args H=some r↔∃n,evM C n K args H=some r:=by
 unfold f4p
 constructor
 ·intro h
  split at h
  ·rename_i he;cases h;exact he.choose_spec
  ·cases h
 ·rintro ⟨n,hn⟩
  have he:∃r,∃n,evM C n K args H=some r:=⟨r,n,hn⟩
  rw[dif_pos he]
  obtain ⟨m,hm⟩:=he.choose_spec
  have h1:=d6j (Nat.le_max_left n m) K args H _ hn
  have h2:=d6j (Nat.le_max_right n m) K args H _ hm
  rw[h1] at h2
  exact h2.symm
theorem c5f (ok:a7m C) (okc:U6 C) (hn:a9w C):∀n,X2 C (evM C n)
 | 0=>fun K args H r H' h=>by simp[evM] at h
 | n+1=>c2x ok okc hn (b4e _) (c5f ok okc hn n)
theorem d6m (ok:a7m C) (okc:U6 C) (hn:a9w C):X2 C (f4p C):=fun K args H r H' h=>by
 obtain ⟨n,h⟩:=e4i.1 h
 exact c5f ok okc hn n K args H r H' h
end code
end Go.Ev
end
section
namespace Go.Ev
def A1:D→Int | .lit (.int _ n)=>n|_=>0
def Z8:D→Bool | .lit (.bool b)=>b|_=>false
def A5:D→ByteArray | .lit (.string s)=>s|_=>.empty
def K3:D→Bool | .slice b _ _=>b|_=>false
def A2:D→List D | .slice _ _ xs=>xs|_=>[]
def A0 (y:D) (i:Nat):D:=y.cells.getD i (.lit .nilFunc)
def e7j (k:IntKind):D→Bool | .lit (.int k' _)=>decide (k'=k)|_=>false
def d9f:D→Bool | .lit (.bool _)=>true|_=>false
def e7h:D→Bool | .lit (.string _)=>true|_=>false
def e7i (sz:Nat):D→Bool | .slice _ z _=>z==sz|_=>false
def d6a (n:Nat):D→Bool | .agg cs=>cs.length==n|_=>false
def e7z (C:Cx) (t:TypeId) (y:D):D:=match F1 C t with
 | some (.int k)=>.lit (.int k (A1 y))
 | some .bool=>.lit (.bool (Z8 y))
 | some .string=>.lit (.string (A5 y))
 | some (.slice e)=>match K8 C e with|some k=>.slice (K3 y) k (A2 y)|none=>y
 | _=>y
def d2t (C:Cx) (t:TypeId) (y:D):Bool:=match F1 C t with
 | some (.int k)=>e7j k y
 | some .bool=>d9f y
 | some .string=>e7h y
 | some (.slice e)=>match K8 C e with|some k=>e7i k y|none=>true
 | _=>true
def d9v (C:Cx):List Field→Option (List TypeId)
 | []=>some []
 | f::r=>match F1 C f.type,K8 C f.type,d9v C r with
  | some (.struct fs),some _,_=>none
  | some _,some 1,some l=>some (f.type::l)
  | _,_,_=>none
def c5i (C:Cx):List TypeId→Nat→D→List D
 | [],_,_=>[]
 | t::r,i,y=>e7z C t (A0 y i)::c5i C r (i+1) y
def c2c (C:Cx):List TypeId→Nat→D→Bool
 | [],_,_=>true
 | t::r,i,y=>d2t C t (A0 y i)&&c2c C r (i+1) y
def d8a (C:Cx) (e:TypeId) (y:D) (K:D→Prop):Prop:=match F1 C e with
 | some (.struct fs)=>match d9v C fs.toList with
  | some ts=>bif d6a ts.length y&&c2c C ts 0 y then K (.agg (c5i C ts 0 y)) else False
  | none=>K y
 | _=>bif d2t C e y then K (e7z C e y) else False
theorem d9k {C:Cx} {t:TypeId} {y:D} (h:d2t C t y=true):e7z C t y=y:=by
 unfold d2t at h
 unfold e7z
 cases hu:F1 C t with
 | none=>rfl
 | some u =>
  rw[hu] at h
  cases u with
  | int k =>
   simp only[] at h ⊢
   unfold e7j at h
   split at h
   ·simp at h;subst h;rfl
   ·cases h
  | bool =>
   simp only[] at h ⊢
   unfold d9f at h
   split at h
   ·rfl
   ·cases h
  | string =>
   simp only[] at h ⊢
   unfold e7h at h
   split at h
   ·rfl
   ·cases h
  | slice e =>
   simp only[] at h ⊢
   cases hk:K8 C e with
   | none=>rfl
   | some k =>
    rw[hk] at h
    simp only[] at h ⊢
    unfold e7i at h
    split at h
    ·simp at h;subst h;rfl
    ·cases h
  | _=>rfl
theorem d3n {C:Cx} {cs:List D}:∀{ts:List TypeId} {i:Nat},c2c C ts i (.agg cs)=true→i+ts.length=cs.length→c5i C ts i (.agg cs)=cs.drop i
 | [],i,_,h=>by simp only[c5i];rw[List.drop_of_length_le];simp at h;omega
 | t::r,i,hf,h=>by
  simp only[c2c,Bool.and_eq_true] at hf
  simp only[c5i]
  have hlt:i<cs.length:=by simp at h;omega
  rw[d9k hf.1,d3n hf.2 (by simp at h;omega)]
  have:A0 (.agg cs) i=cs[i]:=by simp[A0,D.cells,hlt]
  rw[this,List.drop_eq_getElem_cons hlt]
theorem e2i {C:Cx} {e:TypeId} {y:D} {K:D→Prop} (h:d8a C e y K):K y:=by
 unfold d8a at h
 split at h
 ·split at h
  ·rename_i ts hts
   cases hc:(d6a ts.length y&&c2c C ts 0 y) with
   | false=>rw[hc] at h;exact h.elim
   | true =>
    rw[hc] at h
    simp only[Bool.and_eq_true] at hc
    unfold d6a at hc
    split at hc
    ·rename_i cs
     have:=d3n hc.2 (by have:=hc.1;simp at this;omega)
     simp only[cond_true] at h
     rw[this] at h
     simpa using h
    ·cases hc.1
  ·exact h
 ·cases hc:d2t C e y with
  | false=>rw[hc] at h;exact h.elim
  | true=>rw[hc] at h;simp only[cond_true] at h;rw[d9k hc] at h;exact h
class Bad (Z:Type) where
 bad:Z
 vw:Cx→TypeId→D→(D→Z)→Z
instance {R:Type}:Bad (Option R):=⟨none,fun _ _ y K=>K y⟩
instance:Bad Prop:=⟨False,d8a⟩
class Plain (Z:Type) [Bad Z]:Prop where
 vw_eq:∀(C:Cx) (e:TypeId) (y:D) (K:D→Z),Bad.vw C e y K=K y
instance {R:Type}:Plain (Option R):=⟨fun _ _ _ _=>rfl⟩
def go {Z:Type} [Bad Z] {α:Type} (o:Option α) (K:α→Z):Z:=match o with|some a=>K a|none=>Bad.bad
def e7a (s:St) (d:Nat) (b:Bool):St:=⟨s.N,upd s.F d (A9 b),s.H⟩
def e6z (s:St) (x:Operand) (b:Bool):St:=match x with | .tmp t=>e7a s t b|_=>s
section
variable (C : Cx) {R : Type} {Z : Type} [Bad Z]
def d7z (ops:Array Oper) (o:Oper) (s:St) (K:Bool→St→Z):Z:=match o.guard with
 | none=>K true s
 | some (j,want)=>match (ops[j]?).bind (·.dst) with
  | none=>Bad.bad
  | some d=>match s.F d with
   | .d (.lit (.bool b))=>bif b then K want (e7a s d true) else K (!want) (e7a s d false)
   | .d (.lit (.tuple _))=>K false s
   | _=>Bad.bad
def a5r (s:St) (dst:Option Nat) (v:V) (K:St→Z):Z:=match dst with
 | none=>K s
 | some d=>bif Nat.blt d s.N then K ⟨s.N,upd s.F d v,s.H⟩ else Bad.bad
def e7k (x:V) (K:Nat→Z):Z:=match x with
 | .d (.lit (.int _ i))=>bif decide (0≤i) then K i.toNat else Bad.bad
 | _=>Bad.bad
def A6 (s:ByteArray) (k:Nat):Int:=(s.data.toList.getD k 0).toNat
def c2m (t:TypeId) (x i:V) (K:V→Z):Z:=match F1 C t,x with
 | some .string, .d (.lit (.string s))=>e7k i fun k=>bif Nat.blt k s.size then K (.d (.lit (.int .u8 (A6 s k)))) else Bad.bad
 | _,_=>go (w4 C t x i) K
def a7e (H:B4) (t:TypeId) (x i:V) (K:V→Z):Z:=match F1 C t with
 | some (.slice e)=>match a3n H x,K8 C e with
  | some (_,sz,xs),some z=>e7k i fun k=>go xs[k]? fun y=>bif sz==z then Bad.vw C e y fun y=>K (.d (.elem y.cells)) else Bad.bad
  | _,_=>go (J4 C H t x i) K
 | _=>go (J4 C H t x i) K
def b9w (d:Nat) (x:Option V) (K:Nat→Z):Z:=match x with
 | none=>K d
 | some v=>e7k v K
def c2f (H:B4) (t:TypeId) (x:V) (lo hi:Option V) (K:V→Z):Z:=match F1 C t with
 | some .string=>match x with
  | .d (.lit (.string s))=>b9w 0 lo fun l=>b9w s.size hi fun h=>bif Nat.ble l h&&Nat.ble h s.size then K (C9 (s.extract l h)) else Bad.bad
  | _=>Bad.bad
 | some (.slice e)=>match a3n H x,K8 C e with
  | some (nil,sz,xs),some k=>b9w 0 lo fun l=>b9w xs.length hi fun h=>bif Nat.ble l h&&Nat.ble h xs.length&&(sz==k||nil) then K (.d (.slice nil k ((xs.take h).drop l))) else Bad.bad
  | _,_=>Bad.bad
 | _=>Bad.bad
def d6r (H:B4) (op:BinOp) (t:TypeId) (x y:V) (K:V→Z):Z:=match x,y with
 | .d (.lit (.int k a)), .d (.lit (.int k' b))=>match op with
  | .quo=>bif decide (k=k')&& !decide (b=0) then K (.d (.lit (.int k (k.wrap (a.tdiv b))))) else Bad.bad
  | .rem=>bif decide (k=k')&& !decide (b=0) then K (.d (.lit (.int k (a.tmod b)))) else Bad.bad
  | _=>go (o3 C H op t x y) K
 | .d (.lit (.string a)), .d (.lit (.string b))=>match op with
  | .add=>bif Nat.ble (a.size+b.size) 9223372036854775807 then K (C9 (a++b)) else Bad.bad
  | _=>go (o3 C H op t x y) K
 | x,y=>go (o3 C H op t x y) K
def d9i (k:Value) (es:List (D×D)) (K:Option D→Z):Z:=match es with
 | []=>K none
 | (x,v)::r=>match b3r k x with
  | some b=>bif b then K (some v) else d9i k r K
  | none=>Bad.bad
def b5p (H:B4) (t:TypeId) (m k:V) (ok:Bool) (K:V→Z):Z:=match F1 C t,k,a2p H m with
 | some (.map kt et), .d (.lit kv),some es=>match F1 C kt,a6c C et with
  | some u,some z=>bif U4 u kv then d9i kv es fun r=>match r with
    | some v=>K (bif ok then .d (.tup [v, .lit (.bool true)]) else .d v)
    | none=>K (bif ok then .d (.tup [z, .lit (.bool false)]) else .d z)
   else Bad.bad
  | _,_=>Bad.bad
 | _,_,_=>Bad.bad
def c7q (y:Bool) (call:E7) (s:St) (dst:Option Nat) (K:FuncId) (args:List V) (k:St→Z):Z:=match C.ext K with
 | some f=>go (a2v s.H args) fun ds=>go (f ds) fun r=>a5r s dst (.d r) k
 | none=>match C.prim K with
  | some f=>go (f args s.H) fun r=>a5r ⟨s.N,s.F,r.2⟩ dst r.1 k
  | none=>go (L3 C y call s dst K args) k
def a9v (s:St) (dst:Option Nat) (t:TypeId) (x y:V) (k:St→Z):Z:=match F1 C t with
 | some (.slice e)=>match K8 C e,b5v C e,a6c C e with
  | some sz,some by_,some z=>match a7n s.H e sz x,b4s s.H sz y with
   | some (n,nil,xs),some (ys,zs) =>
    bif sz==0||by_==0|| !(J0 z&&z.cells.length==sz) then Bad.bad else
    bif Nat.ble ((xs.length+(ys.length+zs.length))*by_) a5q then
     go (St.make (s.with (match n with|some n=>s.H.set n (.arr false nil e sz xs [])|none=>s.H)) dst (.arr true (nil&&(ys.isEmpty&&zs.isEmpty)) e sz (xs++ys) zs) .ref) k
    else Bad.bad
   | _,_=>Bad.bad
  | _,_,_=>Bad.bad
 | _=>Bad.bad
def c5e (y:Bool) (call:E7) (o:Oper) (s:St) (K:St→Z):Z:=match o.op with
 | .pick c a b=>match F3 C s.F c with
  | some (.d (.lit (.bool t)))=>bif t then go (F3 C s.F a) (fun v=>a5r s o.dst v K) else go (F3 C s.F b) (fun v=>a5r s o.dst v K)
  | _=>Bad.bad
 | .index t x i=>go (F3 C s.F x) fun x=>go (F3 C s.F i) fun i=>c2m C t x i fun v=>a5r s o.dst v K
 | .indexAddr t x i=>go (F3 C s.F x) fun x=>go (F3 C s.F i) fun i=>a7e C s.H t x i fun v=>a5r s o.dst v K
 | .slice t x lo hi none=>go (F3 C s.F x) fun x=>go (a3v C s.F lo) fun lo=>go (a3v C s.F hi) fun hi=>c2f C s.H t x lo hi fun v=>a5r s o.dst v K
 | .binOp op t x y _=>go (F3 C s.F x) fun vx=>go (F3 C s.F y) fun vy=>bif a2h vx&&a2h vy&& !(Region.isConst x||Region.isConst y) then Bad.bad else d6r C s.H op t vx vy fun v=>a5r s o.dst v K
 | .lookup t m k ok=>go (F3 C s.F m) fun m=>go (F3 C s.F k) fun k=>b5p C s.H t m k ok fun v=>a5r s o.dst v K
 | .call c=>match c.callee with
  | .value f=>go (N2 C s.F c.args.toList) fun args=>match F3 C s.F f with
   | some (.fn (.func F) first cap)=>c7q C y call s o.dst F (first++args++cap) K
   | _=>Bad.bad
  | .builtin .append=>match N2 C s.F c.args.toList with
   | some [x,z]=>match c.argTypes[0]?,c.argTypes[1]? with
    | some t,some u=>(match F1 C u with
     | some (.slice _)=>a9v C s o.dst t x z K
     | some .string=>a9v C s o.dst t x z K
     | _=>Bad.bad)
    | _,_=>Bad.bad
   | _=>Bad.bad
  | _=>go (D5 C y call o s) K
 | _=>go (D5 C y call o s) K
theorem c6x {s:St} {d:Nat} {b:Bool} (h:s.F d=A9 b):e7a s d b=s:=by
 unfold e7a
 have:upd s.F d (A9 b)=s.F:=by
  funext t
  unfold upd
  by_cases ht:t=d
  ·subst ht;simp[h]
  ·have:(t==d)=false:=by simpa using ht
   simp[this]
 rw[this]
theorem a2s {s:St} {dst:Option Nat} {v:V} {K:St→Z}:a5r s dst v K=go (s.put dst v) K:=by
 unfold a5r St.put
 cases dst with
 | none=>rfl
 | some d=>simp only[];cases Nat.blt d s.N<;>rfl
theorem c8p {ops:Array Oper} {o:Oper} {s:St} {K:Bool→St→Z}:d7z ops o s K=go (J6 ops o s.F) fun b=>K b s:=by
 unfold d7z J6
 cases o.guard with
 | none=>rfl
 | some p =>
  obtain ⟨j,want⟩:=p
  simp only[]
  cases (ops[j]?).bind (·.dst) with
  | none=>rfl
  | some d =>
   simp only[]
   generalize hv:s.F d=v
   split
   ·rename_i b
    cases b with
    | true=>simp only[cond_true];rw[c6x hv];cases want<;>rfl
    | false=>simp only[cond_false];rw[c6x hv];cases want<;>rfl
   ·rfl
   ·rename_i h1 h2
    split
    ·rename_i b;exact absurd rfl (h1 _)
    ·rename_i b;exact absurd rfl (h2 _)
    ·rfl
theorem c7c {x:V} {K:Nat→Z}:e7k x K=go (idx x) K:=by
 unfold e7k idx
 split
 ·rename_i i
  by_cases h:0≤i
  ·simp[h,go]
  ·simp[h,go]
 ·rename_i h
  split
  ·exact absurd rfl (h _ _)
  ·rfl
theorem a9p {d:Nat} {x:Option V} {K:Nat→Z}:b9w d x K=go (a3q d x) K:=by
 cases x with
 | none=>rfl
 | some v=>exact c7c
theorem c5p {s:ByteArray} {k:Nat} (h:k<s.size):s[k]?=some (s.data.toList.getD k 0):=by
 have h':k<s.data.size:=h
 have e:s[k]?=some s[k]:=by
  rw[getElem?_pos]
 rw[e]
 congr 1
 rw[List.getD_eq_getElem?_getD,Array.getElem?_toList,Array.getElem?_eq_getElem h']
 rfl
theorem d3d {t:TypeId} {x i:V} {K:V→Z}:c2m C t x i K=go (w4 C t x i) K:=by
 unfold c2m
 split
 ·rename_i st hu
  rw[c7c]
  unfold w4
  rw[hu]
  cases idx i with
  | none=>rfl
  | some k =>
   simp only[go]
   by_cases h:k<st.size
   ·have hb:Nat.blt k st.size=true:=by simpa [Nat.blt_eq] using h
    rw[hb,c5p h];rfl
   ·have hb:Nat.blt k st.size=false:=by
     cases hx:Nat.blt k st.size with
     | true=>exact absurd (by simpa [Nat.blt_eq] using hx) h
     | false=>rfl
    have hn:st[k]?=none:=by rw[getElem?_neg];exact h
    rw[hb,hn];rfl
 ·rfl
theorem ble_eq {a b:Nat}:Nat.ble a b=decide (a≤b):=by
 by_cases h:a≤b
 ·simp[h,Nat.ble_eq]
 ·rw[decide_eq_false h]
  cases hx:Nat.ble a b with
  | true=>exact absurd (by simpa [Nat.ble_eq] using hx) h
  | false=>rfl
theorem d2x {H:B4} {t:TypeId} {x:V} {lo hi:Option V} {K:V→Z}:c2f C H t x lo hi K=go (W4 C H t x lo hi) K:=by
 unfold c2f
 split
 ·rename_i hu
  split
  ·rename_i st
   rw[a9p]
   unfold W4
   rw[hu]
   simp only[]
   cases a3q 0 lo with
   | none=>rfl
   | some l =>
    simp only[go]
    rw[a9p]
    cases a3q st.size hi with
    | none=>rfl
    | some h =>
     simp only[go,ble_eq]
     by_cases h1:l≤h
     ·by_cases h2:h≤st.size
      ·simp[h1,h2]
      ·simp[h1,h2]
     ·simp[h1]
  ·rename_i hne
   unfold W4
   rw[hu]
   split
   ·rename_i h1 _;exact absurd rfl (hne _)
   ·rename_i h1;cases h1
   ·rfl
 ·rename_i e hu
  split
  ·rename_i nl sz xs k hs hk
   rw[a9p]
   unfold W4
   rw[hu]
   simp only[hs,hk]
   cases a3q 0 lo with
   | none=>rfl
   | some l =>
    simp only[go]
    rw[a9p]
    cases a3q xs.length hi with
    | none=>rfl
    | some h =>
     simp only[go,ble_eq]
     by_cases h1:l≤h
     ·by_cases h2:h≤xs.length
      ·simp only[h1,h2,decide_true,Bool.true_and,if_true]
       cases (sz==k||nl)<;>rfl
      ·simp[h1,h2]
     ·simp[h1]
  ·rename_i hne
   unfold W4
   rw[hu]
   simp only[]
   rfl
 ·rename_i h1 h2
  unfold W4
  split
  ·rename_i h3;exact absurd h3 h1
  ·rename_i h3;exact absurd h3 (h2 _)
  ·rfl
theorem e4q {H:B4} {op:BinOp} {t:TypeId} {x y:V} {K:V→Z}:d6r C H op t x y K=go (o3 C H op t x y) K:=by
 unfold d6r
 split
 ·rename_i k a k' b
  split
  ·unfold o3 b5n
   by_cases h1:k=k'
   ·by_cases h2:b=0
    ·simp[h1,h2,go]
    ·simp[h1,h2,go]
   ·simp[h1,go]
  ·unfold o3 b5n
   by_cases h1:k=k'
   ·by_cases h2:b=0
    ·simp[h1,h2,go]
    ·simp[h1,h2,go]
   ·simp[h1,go]
  ·rfl
 ·rename_i a b
  split
  ·unfold o3 c6a
   simp only[ble_eq]
   have hm:IntKind.i64.max=9223372036854775807:=by rfl
   by_cases h1:a.size+b.size≤9223372036854775807
   ·have:¬(((a.size+b.size:Nat):Int)>IntKind.i64.max):=by rw[hm];omega
    simp only[h1,decide_true,cond_true,if_neg this,go]
   ·have:(((a.size+b.size:Nat):Int)>IntKind.i64.max):=by rw[hm];omega
    simp only[h1,decide_false,cond_false,if_pos this,go]
  ·rfl
 ·rfl
theorem d2u {k:Value}:∀{es:List (D×D)} {K:Option D→Z},d9i k es K=go (b4i k es) K
 | [],K=>rfl
 | (x,v)::r,K=>by
  unfold d9i b4i
  cases b3r k x with
  | none=>rfl
  | some b =>
   cases b with
   | true=>rfl
   | false=>exact d2u
theorem c7n {H:B4} {t:TypeId} {m k:V} {ok:Bool} {K:V→Z}:b5p C H t m k ok K=go (o0 C H t m k ok) K:=by
 unfold b5p o0
 split
 ·rename_i kt et kv es hu he
  simp only[hu,he]
  split
  ·rename_i u z h1 h2
   simp only[h1,h2]
   rw[d2u]
   cases b4i kv es with
   | none=>cases U4 u kv<;>rfl
   | some r =>
    simp only[]
    cases U4 u kv with
    | false=>rfl
    | true=>cases r<;>rfl
  ·rename_i hne
   split
   ·rename_i h1 _ h2;exact absurd h2 (by intro h3;exact hne _ _ h1 h3)
   ·rfl
 ·rename_i hne
  split
  ·rename_i h1 h2;exact absurd h2 (by intro h3;exact hne _ _ _ _ h1 rfl h3)
  ·rfl
theorem b2w {r:Option V} {s:St} {dst:Option Nat} {K:St→Z}:(go r fun v=>a5r s dst v K)=go (asV r s dst) K:=by
 unfold asV
 cases r with
 | none=>rfl
 | some v=>exact a2s
theorem d6p {y:Bool} {call:E7} {s:St} {dst:Option Nat} {K:FuncId} {args:List V} {k:St→Z}:c7q C y call s dst K args k=go (L3 C y call s dst K args) k:=by
 unfold c7q
 split
 ·rename_i f hf
  unfold L3
  rw[hf]
  simp only[]
  cases a2v s.H args with
  | none=>rfl
  | some ds =>
   simp only[go]
   cases f ds with
   | none=>rfl
   | some r=>exact a2s
 ·rename_i he
  split
  ·rename_i f hf
   unfold L3
   rw[he,hf]
   simp only[]
   cases f args s.H with
   | none=>rfl
   | some r=>exact a2s
  ·rfl
theorem b4m {s:St} {dst:Option Nat} {t:TypeId} {x y:V} {k:St→Z}:a9v C s dst t x y k=go (V5 C s dst t x y) k:=by
 unfold a9v V5
 cases F1 C t with
 | none=>rfl
 | some u =>
  cases u with
  | slice e =>
   simp only[]
   cases K8 C e with
   | none=>rfl
   | some sz=>cases b5v C e with
    | none=>rfl
    | some by_ =>
     cases hz:a6c C e with
     | none =>
      simp only[]
      cases a7n s.H e sz x with
      | none=>rfl
      | some p=>cases b4s s.H sz y with
       | none=>rfl
       | some q =>
        simp only[]
        cases (sz==0||by_==0) with
        | true=>rfl
        | false=>simp only[cond_false];split<;>rfl
     | some z =>
      simp only[]
      cases a7n s.H e sz x with
      | none=>rfl
      | some p=>cases b4s s.H sz y with
       | none=>rfl
       | some q =>
        obtain ⟨n,nil,xs⟩:=p
        obtain ⟨ys,zs⟩:=q
        simp only[ble_eq]
        cases (sz==0||by_==0) with
        | true=>rfl
        | false =>
         simp only[cond_false,Bool.false_or]
         by_cases hr:(xs.length+(ys.length+zs.length))*by_≤a5q
         ·simp only[hr,decide_true,cond_true,if_true]
          cases (J0 z&&z.cells.length==sz)<;>rfl
         ·simp only[hr,decide_false,cond_false,if_false]
          cases (J0 z&&z.cells.length==sz)<;>rfl
  | _=>rfl
theorem d3a {y:Bool} {call:E7} {o:Oper} {s:St} {K:St→Z} (hi:∀t x i,o.op≠ .indexAddr t x i):c5e C y call o s K=go (D5 C y call o s) K:=by
 unfold c5e
 split
 ·rename_i c a b ho
  have e:D5 C y call o s=match F3 C s.F c with|some (.d (.lit (.bool t)))=>bif t then asV (F3 C s.F a) s o.dst else asV (F3 C s.F b) s o.dst|_=>none:=by
   unfold D5;rw[ho];rfl
  rw[e]
  split
  ·rename_i t ht
   cases t with
   | true=>simp only[cond_true];exact b2w
   | false=>simp only[cond_false];exact b2w
  ·rfl
 ·rename_i t x i ho
  have e:D5 C y call o s=match F3 C s.F x,F3 C s.F i with|some x,some i=>asV (w4 C t x i) s o.dst|_,_=>none:=by
   unfold D5;rw[ho];rfl
  rw[e]
  cases F3 C s.F x with
  | none=>rfl
  | some vx=>cases F3 C s.F i with
   | none=>rfl
   | some vi=>simp only[go];rw[d3d];exact b2w
 ·rename_i t x i ho;exact absurd ho (hi t x i)
 ·rename_i t x lo hi ho
  have e:D5 C y call o s=match F3 C s.F x,a3v C s.F lo,a3v C s.F hi with|some x,some lo,some hi=>asV (W4 C s.H t x lo hi) s o.dst|_,_,_=>none:=by
   unfold D5;rw[ho];rfl
  rw[e]
  cases F3 C s.F x with
  | none=>rfl
  | some vx=>cases a3v C s.F lo with
   | none=>rfl
   | some vl=>cases a3v C s.F hi with
    | none=>rfl
    | some vh=>simp only[go];rw[d2x];exact b2w
 ·rename_i op t x y' yt ho
  have e:D5 C y call o s=match F3 C s.F x,F3 C s.F y' with|some vx,some vy=>bif a2h vx&&a2h vy&& !(Region.isConst x||Region.isConst y') then none else asV (o3 C s.H op t vx vy) s o.dst|_,_=>none:=by
   unfold D5;rw[ho];rfl
  rw[e]
  cases F3 C s.F x with
  | none=>rfl
  | some vx=>cases F3 C s.F y' with
   | none=>rfl
   | some vy =>
    simp only[go]
    cases (a2h vx&&a2h vy&& !(Region.isConst x||Region.isConst y')) with
    | true=>rfl
    | false=>simp only[cond_false];rw[e4q];exact b2w
 ·rename_i t m k ok ho
  have e:D5 C y call o s=match F3 C s.F m,F3 C s.F k with|some m,some k=>asV (o0 C s.H t m k ok) s o.dst|_,_=>none:=by
   unfold D5;rw[ho];rfl
  rw[e]
  cases F3 C s.F m with
  | none=>rfl
  | some vm=>cases F3 C s.F k with
   | none=>rfl
   | some vk=>simp only[go];rw[c7n];exact b2w
 ·rename_i c ho
  split
  ·rename_i f hc
   have e:D5 C y call o s=match N2 C s.F c.args.toList with
     | none=>none
     | some args=>match F3 C s.F f with
      | some (.fn (.func F) first cap)=>L3 C y call s o.dst F (first++args++cap)
      | _=>none:=by
    unfold D5;rw[ho];simp only[hc];rfl
   rw[e]
   cases N2 C s.F c.args.toList with
   | none=>rfl
   | some args =>
    simp only[go]
    split
    ·exact d6p C
    ·rfl
  ·rename_i hc
   have e:D5 C y call o s=match N2 C s.F c.args.toList with
     | none=>none
     | some args=>match c.argTypes[0]?,c.argTypes[1]?,args with
      | some t,some u, [x,y]=>(match F1 C u with
       | some (.slice _)=>V5 C s o.dst t x y
       | some .string=>V5 C s o.dst t x y
       | _=>none)
      | _,_,_=>none:=by
    unfold D5;rw[ho];simp only[hc];rfl
   rw[e]
   split
   ·rename_i x z hargs
    simp only[hargs]
    cases c.argTypes[0]? with
    | none=>rfl
    | some t=>cases c.argTypes[1]? with
     | none=>rfl
     | some u =>
      simp only[]
      split
      ·exact b4m C
      ·exact b4m C
      ·rfl
   ·rename_i hne
    cases hargs:N2 C s.F c.args.toList with
    | none=>rfl
    | some args =>
     simp only[]
     split
     ·rename_i x z;exact absurd hargs (hne _ _)
     ·rfl
  ·rfl
 ·rfl
def d3v (ops:Array Oper) (fs:List FP):Bool:=(a3f ops).all fun p=>match fs[p.1]?,fs[p.2]? with|some x,some y=>a6y x y|_,_=>false
theorem d2h {s:St} {x:Operand} {b:Bool} (h:F3 C s.F x=some (A9 b)):e6z s x b=s:=by
 cases x with
 | tmp t=>simp only[F3,Option.some.injEq] at h;exact c6x h
 | _=>rfl
def mk (J:Nat→V):List Nat→List V→Nat→V
 | d::l,v::vs=>upd (mk J l vs) d v
 | _,_=>J
def a5x:Code→Nat
 | .region id _ _=>id
 | .seq a _=>a5x a
 | .block _ c=>a5x c
 | .loop c=>a5x c
 | .cond _ a _=>a5x a
 | _=>0
structure i2o where
 L:List Nat
 G:Nat→List V→B4→(X→List V→B4→Prop)→Prop
theorem F4 {α:Type} {o:Option α} {K:α→Prop} (h:go o K):∃a,o=some a∧K a:=by
 cases o with
 | none=>exact h.elim
 | some a=>exact ⟨a,rfl,h⟩
theorem b5q {H:B4} {t:TypeId} {x i:V} {K:V→Prop} (h:a7e C H t x i K):go (J4 C H t x i) K:=by
 unfold a7e at h
 split at h
 ·rename_i e hu
  split at h
  ·rename_i nl sz xs z hs hz
   rw[c7c] at h
   obtain ⟨k,hk,h⟩:=F4 h
   obtain ⟨y,hy,h⟩:=F4 h
   unfold J4
   rw[hu]
   simp only[hk,hs,hz,hy]
   cases hsz:(sz==z) with
   | false=>rw[hsz] at h;exact h.elim
   | true =>
    rw[hsz] at h
    have h':d8a C e y fun y=>K (V.d (D.elem y.cells)):=h
    exact e2i h'
  ·exact h
 ·exact h
theorem e4h {y:Bool} {call:E7} {o:Oper} {s:St} {K:St→Prop} (h:c5e C y call o s K):∃s',D5 C y call o s=some s'∧K s':=by
 by_cases hi:∃t x i,o.op= .indexAddr t x i
 ·obtain ⟨t,x,i,ho⟩:=hi
  have e:D5 C y call o s=match F3 C s.F x,F3 C s.F i with|some x,some i=>asV (J4 C s.H t x i) s o.dst|_,_=>none:=by
   unfold D5;rw[ho];rfl
  unfold c5e at h
  rw[ho] at h
  simp only[] at h
  obtain ⟨vx,h1,h⟩:=F4 h
  obtain ⟨vi,h2,h⟩:=F4 h
  rw[e,h1,h2]
  simp only[]
  have:=b5q C h
  rw[b2w] at this
  exact F4 this
 ·have e:c5e C y call o s K=go (D5 C y call o s) K:=d3a C (fun t x i ho=>hi ⟨t,x,i,ho⟩)
  rw[e] at h
  exact F4 h
end
end Go.Ev
end
section
namespace Go.Ev
section
variable {C : Cx}
structure h4b (C:Cx):Prop where
 ok:a7m C
 calls:U6 C
 names:a9w C
theorem h4b.valid (h:h4b C):X2 C (f4p C):=d6m h.ok h.calls h.names
end
end Go.Ev
end
section
namespace Go.Ev
structure a5c (p:Prop):Prop where
 h:p
theorem keep {a b:Prop} (h:a=b) (k:b):a5c a:=⟨h.mpr k⟩
def Z0 (k:Nat) (H:B4):Prop:=∀m,(H (0::m)).isSome→∃i,i<k∧m= [i]
theorem Z0.back {k:Nat} {H H':B4} (h:Z0 k H) (b:j9 H H'):Z0 k H':=fun m hm=>h m (b m hm)
def T (C:Cx) (k:Nat) (c:Code) (s:St) (K:X→St→Prop):Prop :=
 ∀(g:G) (a:Act) (w:World) (Q:Exit→Act→World→Prop),Rel C g s a w→Z0 k s.H→
  (∀x s' a' w',K x s'→Z0 k s'.H→Y8 C g s.H w s' a' w'→Q (a4e x) a' w')→c.wp C.P Q a w
def a3z (C:Cx) (k:Nat) (s s':St):Prop:=∀(g:G) (a:Act) (w:World),Rel C g s a w→Z0 k s.H→Z0 k s'.H∧Y8 C g s.H w s' a w
section
variable {C : Cx} {k : Nat} {s s' : St} {c : Code} {K K' : X → St → Prop}
theorem a3z.refl:a3z C k s s:=fun g a w R z=>⟨z,g,R, .refl _ _, .refl _ _⟩
theorem a3z.trans {s1 s2 s3:St} (h:a3z C k s1 s2) (h':a3z C k s2 s3):a3z C k s1 s3:=fun g a w R z=>by
 obtain ⟨z1,g1,r1,st1,k1⟩:=h g a w R z
 obtain ⟨z2,p⟩:=h' g1 a w r1 z1
 exact ⟨z2,p.after st1 k1⟩
theorem g4x (hw:a3z C k s s') (h:T C k c s' K):T C k c s K:=fun g a w Q R z hq=>by
 obtain ⟨z1,g1,r1,st1,k1⟩:=hw g a w R z
 exact h g1 a w Q r1 z1 fun x s' a' w' hk z' hp=>hq x s' a' w' hk z' (hp.after st1 k1)
theorem d7k (h:T C k c s K) (hk:∀x s',K x s'→K' x s'):T C k c s K':=fun g a w Q R z hq=>h g a w Q R z fun x s' a' w' h1=>hq x s' a' w' (hk x s' h1)
theorem b3e (h:T C k c s K) (hk:∀x s',K x s'→∃s2,a3z C k s' s2∧K' x s2):T C k c s K':=fun g a w Q R z hq=>h g a w Q R z fun x s' a' w' h1 z1 hp=>by
 obtain ⟨s2,hw,h2⟩:=hk x s' h1
 obtain ⟨g1,r1,st1,k1⟩:=hp
 obtain ⟨z2,p⟩:=hw g1 a' w' r1 z1
 exact hq x s2 a' w' h2 z2 (p.after st1 k1)
theorem g4y (h:K .normal s):T C k .skip s K:=fun g a w Q R z hq=>wp_skip (hq .normal s a w h z ⟨g,R, .refl _ _, .refl _ _⟩)
theorem g5a {id:Nat} (h:K (.exit id) s):T C k (.exit id) s K:=fun g a w Q R z hq=>wp_exit (hq (.exit id) s a w h z ⟨g,R, .refl _ _, .refl _ _⟩)
theorem h4a (h:K .ret s):T C k .ret s K:=fun g a w Q R z hq=>wp_ret (hq .ret s a w h z ⟨g,R, .refl _ _, .refl _ _⟩)
structure a9y (C:Cx) (call:E7):Prop where
 ok:a7m C
 calls:U6 C
 valid:X2 C call
theorem d4n {call:E7} (F:a9y C call) {il draw:Bool} {id:Nat} {ops:Array Oper} {s1:St} (h:(if draw then Z6 C call il ops s else V3 C call il ops s)=some s1) (hk:K .normal s1) :
  T C k (.region id ops draw) s K:=fun g a w Q R z hq=>by
 refine c4h F.ok F.calls F.valid il id ops draw s s1 g a w Q R h fun a' w' hp=>hq .normal s1 a' w' hk (z.back ?_) hp
 exact b6v (C:=C) (lp:=j5 0) (call:=call) (b4e 0) (fun K f args H r H' h1 h2=>(F.calls.prim K f args H r H' h1 h2).2) (fun K args H r H' h=>(F.valid K args H r H' h).2.2)
  (.region id ops draw) il (x:=.normal) (by unfold G0;rw[h])
theorem e9i {a b:Code} (h:T C k a s fun x s1=>match x with | .normal=>T C k b s1 K|x=>K x s1):T C k (.seq a b) s K:=fun g ac w Q R z hq=>by
 refine wp_seq (h g ac w _ R z fun x s1 a1 w1 hk z1 hp=>?_)
 cases x with
 | normal =>
  obtain ⟨g1,r1,st1,k1⟩:=hp
  exact hk g1 a1 w1 Q r1 z1 fun x s2 a2 w2 h2 z2 hp2=>hq x s2 a2 w2 h2 z2 (hp2.after st1 k1)
 | exit i=>exact hq _ _ _ _ hk z1 hp
 | ret=>exact hq _ _ _ _ hk z1 hp
theorem g5b {x:Operand} {a b:Code} {t:Bool} (hc:F3 C s.F x=some (A9 t)) (h:T C k (bif t then a else b) s K):T C k (.cond x a b) s K:=fun g ac w Q R z hq=>by
 refine wp_cond (F8 R hc).lit_inv ?_
 cases t with
 | true=>exact h g ac w Q R z hq
 | false=>exact h g ac w Q R z hq
theorem f5p {id:Nat} {a:Code} (h:T C k a s fun x s1=>match x with | .exit i=>(bif i==id then K .normal s1 else K (.exit i) s1)|x=>K x s1):T C k (.block id a) s K:=fun g ac w Q R z hq=>by
 refine wp_block (h g ac w _ R z fun x s1 a1 w1 hk z1 hp=>?_)
 cases x with
 | normal=>exact hq _ _ _ _ hk z1 hp
 | ret=>exact hq _ _ _ _ hk z1 hp
 | exit i =>
  simp only[] at hk
  by_cases hi:i=id
  ·have:(i==id)=true:=by simpa using hi
   rw[this] at hk
   have:=hq _ _ _ _ hk z1 hp
   simpa [a4e,Exit.inBlock,hi] using this
  ·have:(i==id)=false:=by simpa using hi
   rw[this] at hk
   have:=hq _ _ _ _ hk z1 hp
   simpa [a4e,Exit.inBlock,hi] using this
def wpL (P:Program) (c:Code) (Q:Exit→Act→World→Prop) (a:Act) (w:World):Prop :=
 ∀(b:Frame) (k:List Item) (cs:List Frame),∃e a' w',Q e a' w'∧Arrives P (lone (b.at a (.code c:: .inLoop c::k)) cs w) b k cs e a' w'
theorem e5h {P:Program} {Q:Exit→Act→World→Prop} {a:Act} {w:World} {c:Code} (h:wpL P c Q a w):(Code.loop c).wp P Q a w:=fun b k cs =>
 let ⟨e,a',w',hq,harr⟩:=h b k cs
 ⟨e,a',w',hq, .of_steps (.one step_loop) harr⟩
theorem d7y {P:Program} {Q:Exit→Act→World→Prop} {a:Act} {w:World} {c:Code} (h:c.wp P (Exit.then (wpL P c Q) Q) a w):wpL P c Q a w:=fun b k cs=>by
 obtain ⟨e,a1,w1,hq,harr⟩:=h b (.inLoop c::k) cs
 cases e with
 | normal =>
  obtain ⟨e2,a2,w2,hq2,harr2⟩:=hq b k cs
  exact ⟨e2,a2,w2,hq2, .of_steps (Steps.trans harr (.one step_inLoop)) harr2⟩
 | exit id=>exact ⟨_,a1,w1,hq, .pass (x:=.inLoop c) rfl (fun _ _=>.inl (by simp)) harr⟩
 | goto l=>exact ⟨_,a1,w1,hq, .pass (x:=.inLoop c) rfl (fun _ _=>.inl (by simp)) harr⟩
 | ret=>exact ⟨_,a1,w1,hq, .pass (x:=.inLoop c) rfl (fun _ _=>.inl (by simp)) harr⟩
 | panic ch=>exact ⟨_,a1,w1,hq, .pass (x:=.inLoop c) rfl (fun _ _=>.inl (by simp)) harr⟩
 | outgrown=>exact ⟨_,a1,w1,hq, .pass (x:=.inLoop c) rfl (fun _ _=>.inl (by simp)) harr⟩
def TL (C:Cx) (k:Nat) (c:Code) (s:St) (K:X→St→Prop):Prop :=
 ∀(g:G) (a:Act) (w:World) (Q:Exit→Act→World→Prop),Rel C g s a w→Z0 k s.H→
  (∀x s' a' w',K x s'→Z0 k s'.H→Y8 C g s.H w s' a' w'→Q (a4e x) a' w')→wpL C.P c Q a w
theorem g4z (h:TL C k c s K):T C k (.loop c) s K:=fun g a w Q R z hq=>e5h (h g a w Q R z hq)
theorem f5q (h:T C k c s fun x s1=>match x with | .normal=>TL C k c s1 K|x=>K x s1):TL C k c s K:=fun g a w Q R z hq=>by
 refine d7y (h g a w _ R z fun x s1 a1 w1 hk z1 hp=>?_)
 cases x with
 | normal =>
  obtain ⟨g1,r1,st1,k1⟩:=hp
  exact hk g1 a1 w1 Q r1 z1 fun x s2 a2 w2 h2 z2 hp2=>hq x s2 a2 w2 h2 z2 (hp2.after st1 k1)
 | exit i=>exact hq _ _ _ _ hk z1 hp
 | ret=>exact hq _ _ _ _ hk z1 hp
def V8 (C:Cx) (K:FuncId) (args:List V) (H:B4) (Q:V→B4→Prop):Prop :=
 ∀(w:World) (g:G) (vs:Array Value),K7 w g H→a7q C w g.lim→E0 w g H args vs.toList→(∀n,(H n).isSome→∃m,n=0::m)→
  Calls C.P K vs w (fun e w'=>∃v r H' g',Q r H'∧e= .returned v∧D9 w' g' H' r v∧K7 w' g' H'∧j7 w g w' g'∧z8 H g H' g')
theorem V8.one {K:FuncId} {args:List V} {H H':B4} {r:V} (h:V8 C K args H fun r' Hx=>r'=r∧Hx=H'):d9z C K args H r H':=fun w g vs hH hG hr hz =>
 (h w g vs hH hG hr hz).mono fun e w' ⟨v,r',Hx,g',⟨h1,h2⟩,he,h3,h4,h5,h6⟩=>by subst h1 h2;exact ⟨v,g',he,h3,h4,h5,h6⟩
theorem a8a {K : FuncId} {args : List V} {H : B4} {Q : V → B4 → Prop} {fn : Func} {c : Code} (hf : C.P.funcs[K]? = some fn) (hb : fn.body = some c) (hz : Z0 k H)
  (h : T C k c ⟨max fn.ntmps args.length, fun t => (args[t]?).getD K9, H⟩ fun x s' => match x with
   | .exit _ => False
   | _ => ∃ vs, u7 C s' fn.results.toList = some vs ∧ Q (Y9 vs) s'.H) : V8 C K args H Q := fun w g vs hH hG hargs hdom => by
 refine calls_of_wp hf hb ?_
 have hlen : args.length = vs.size := by rw [hargs.length]; simp
 have R : Rel C g ⟨max fn.ntmps args.length, fun t => (args[t]?).getD K9, H⟩ { tmps := vs ++ Array.replicate (fn.ntmps - vs.size) undef, defers := [] } w := by
  refine ⟨by simp; omega, fun t => ?_, hH, hG, rfl⟩
  cases ht : args[t]? with
  | some x =>
   obtain ⟨v, hv, hx⟩ := hargs.get ht
   have hlt : t < vs.size := by
    have := (List.getElem?_eq_some_iff.1 ht).1; omega
   have : (vs ++ Array.replicate (fn.ntmps - vs.size) undef).getD t undef = v := by
    rw [Array.getD_eq_getD_getElem?, Array.getElem?_append_left hlt]
    simp at hv; simp [hv]
   rw [this]; simpa [ht] using hx
  | none =>
   have hge : vs.size ≤ t := by
    have := List.getElem?_eq_none_iff.1 ht; omega
   have : (vs ++ Array.replicate (fn.ntmps - vs.size) undef).getD t undef = undef := by
    rw [Array.getD_eq_getD_getElem?, Array.getElem?_append_right hge]
    by_cases h1 : t - vs.size < fn.ntmps - vs.size
    ·simp [h1]
    ·simp [h1]
   rw [this]; simpa [ht] using a4j
 refine h g _ w _ R hz fun x s' a' w' hk z1 hp => ?_
 obtain ⟨g1, r1, st, kp⟩ := hp
 cases x with
 | exit i => exact hk.elim
 | normal =>
  obtain ⟨l, he, hq⟩ := hk
  obtain ⟨v, hv, hrv⟩ := b2n r1 he
  exact ⟨r1.defers, v, hv, v, _, _, g1, hq, rfl, hrv, r1.heap, st, kp⟩
 | ret =>
  obtain ⟨l, he, hq⟩ := hk
  obtain ⟨v, hv, hrv⟩ := b2n r1 he
  exact ⟨r1.defers, v, hv, v, _, _, g1, hq, rfl, hrv, r1.heap, st, kp⟩
end
end Go.Ev
end
section
namespace Go.Ev
def ofL:List (B2×Box)→B4
 | [],_=>none
 | (n,b)::r,m=>bif m==n then some b else ofL r m
def N0:Nat→V:=fun _=>.any
def K2:List (B2×B2)→B2→B2
 | [],n=>n
 | (a,b)::r,n=>bif n==b then a else K2 r n
def X1:List (B2×B2)→B2→Option B2
 | [],_=>none
 | (a,b)::r,n=>bif n==a then some b else X1 r n
def o6:Box→List B2
 | .cells _ cs=>J1 cs
 | _=>[]
def p8 (H:B4):List (B2×B2)→Option (List Box)
 | []=>some []
 | p::r=>match H p.2,p8 H r with|some b,some l=>some (b::l)|_,_=>none
def Y3:B2→Bool
 | 0::_=>true
 | _=>false
def g4o:Box→Bool
 | .arr .. =>true
 | .junk=>true
 | _=>false
def Q4:List B2→Bool
 | []=>true
 | n::r=> !r.contains n&&Q4 r
def a2m:List (B2×B2)→List (B2×Box)
 | []=>[]
 | p::r=>bif Y3 p.2&& !(p.1==p.2) then (p.2, .junk)::a2m r else a2m r
def a7t:List (B2×B2)→List Box→List (B2×Box)
 | p::r,b::l=>(p.1,b)::a7t r l
 | _,_=>[]
def c7d:List (B2×B2)→List Box→Bool
 | p::r,b::l=>(bif Y3 p.2&& !(p.1==p.2) then g4o b else true)&&c7d r l
 | _,_=>true
def a8u (olds l:List B2):Bool:=l.all fun n=>olds.contains n
def c2t (k:Nat) (ns:List (B2×B2)) (vals:List V) (bs:List Box):Bool :=
 Q4 (ns.map (·.1))&&(Q4 (ns.map (·.2))&&(ns.all (fun p=>bif Y3 p.1 then p.1==p.2 else true)&&(vals.all (fun v=>a8u (ns.map (·.2)) v.names) &&
  (bs.all (fun b=>a8u (ns.map (·.2)) (o6 b))&&((List.range k).all (fun i=>(ns.map (·.2)).contains [0,i])&&c7d ns bs)))))
def N8:List B2→List Box→List (B2×Box)
 | n::r,b::l=>(n,b)::N8 r l
 | _,_=>[]
def stN (N:Nat) (L:List Nat) (nm:List B2) (vals:List V) (bs:List Box):St:=⟨N,mk N0 L vals,ofL (N8 nm bs)⟩
def Q8 (ns:List (B2×B2)):List B2:=ns.map (·.1)++(a2m ns).map (·.1)
def w6 (k:Nat) (L:List Nat) (ns:List (B2×B2)) (s:St):Option (List V×List Box):=match p8 s.H ns with
 | some bs=>bif c2t k ns (L.map s.F) bs then some (a2b (K2 ns) (L.map s.F),bs.map (·.ren (K2 ns))++(a2m ns).map (·.2)) else none
 | none=>none
theorem b7x:∀l:List (B2×Box),N8 (l.map (·.1)) (l.map (·.2))=l
 | []=>rfl
 | (n,b)::r=>by simp only[List.map_cons,N8,b7x r]
theorem c3s:∀{ns:List (B2×B2)} {bs:List Box} {l:List (B2×Box)},bs.length=ns.length→N8 (ns.map (·.1)++l.map (·.1)) (bs++l.map (·.2))=a7t ns bs++l
 | [], [],l,_=>by simpa [a7t] using b7x l
 | [],b::r,l,h=>by simp at h
 | p::r, [],l,h=>by simp at h
 | p::r,b::m,l,h=>by
  simp only[List.map_cons,List.cons_append,N8,a7t]
  rw[c3s (by simpa using h)]
section
variable {C : Cx} {w : World} {g g1 : G} {H H1 : B4}
mutual
theorem D9.loc (hv:g1.val=g.val) (hl:g1.lim=g.lim):∀{x:V} {v:Value},(∀n∈x.names,kd H1 n=kd H n)→D9 w g H x v→D9 w g1 H1 x v
 | _,_,_, .d h=>.d (by rw[hl];exact h)
 | _,_,k, .agg h hf=>.agg (E0.loc hv hl (by simpa [V.names] using k) h) hf
 | _,_,k, .ref h=>by rw[←hv];exact .ref (by rw[k _ (by simp[V.names])];exact h)
 | _,_,k, .ptr h=>by rw[←hv];exact .ptr (by rw[k _ (by simp[V.names])];exact h)
 | _,_,k, .hp h=>by rw[←hv];exact .hp (by rw[k _ (by simp[V.names])];exact h)
 | _,_,k, .fn ha hb=>.fn (E0.loc hv hl (fun n hn=>k n (by simp[V.names,hn])) ha) (E0.loc hv hl (fun n hn=>k n (by simp[V.names,hn])) hb)
 | _,_,k, .tup h=>.tup (E0.loc hv hl (by simpa [V.names] using k) h)
 | _,_,_, .zs h=>.zs (by rw[hl];exact h)
 | _,_,_, .any=>.any
 | _,_,k, .opt h ho=>.opt (by rw[k _ (by simp[V.names])];exact h) (by rw[hv];exact ho)
theorem E0.loc (hv:g1.val=g.val) (hl:g1.lim=g.lim):∀{xs:List V} {vs:List Value},(∀n∈J1 xs,kd H1 n=kd H n)→E0 w g H xs vs→E0 w g1 H1 xs vs
 | _,_,_, .nil=>.nil
 | _,_,k, .cons h t=>.cons (D9.loc hv hl (fun n hn=>k n (by simp[J1,hn])) h) (E0.loc hv hl (fun n hn=>k n (by simp[J1,hn])) t)
end
theorem f5.loc {n:B2} {b:Box} (hv:g1.val=g.val) (hl:g1.lim=g.lim) (ho:∀b,g.owner b=some n→g1.owner b=some n) (k:∀n∈o6 b,kd H1 n=kd H n) (h:f5 w g H n b):f5 w g1 H1 n b:=by
 cases b with
 | cells t cs =>
  obtain ⟨b,c,h1,h2,h3,h4,h5,h6⟩:=h
  exact ⟨b,c,by rw[hv];exact h1,h2,h3.loc hv hl k,h4,by rw[hl];exact h5,ho _ h6⟩
 | arr live nil t sz xs ys =>
  obtain ⟨vs,us,h1,h2,h3,h4,h5,h6,h7,h8⟩:=h
  refine ⟨vs,us,by rw[hl];exact h1,by rw[hl];exact h2,h3,h4,by rw[hv];exact h5,h6,fun hlv=>?_,fun hlv=>?_⟩
  ·obtain ⟨k1,k2⟩:=h7 hlv
   rw[hv]
   exact ⟨k1,fun b hb=>by obtain ⟨j1,j2⟩:=k2 b hb;exact ⟨ho b j1,by rw[hl];exact j2⟩⟩
  ·obtain ⟨k1,k2⟩:=h8 hlv
   refine ⟨k1, ?_⟩
   rcases k2 with k2|⟨q,cap,hq,hc,hh⟩
   ·exact .inl k2
   ·exact .inr ⟨q,cap,by rw[hv];exact hq,hc,by rw[hl];exact hh⟩
 | map es =>
  obtain ⟨r,ms,c,h1,h2,h3,h4,h5,h6,h7⟩:=h
  exact ⟨r,ms,c,by rw[hv];exact h1,h2,by rw[hl];exact h3,by rw[hl];exact h4,by rw[hl];exact h5,ho _ h6,h7⟩
 | junk =>
  show K6 (g1.val n)
  rw[hv];exact h
 | bools t k =>
  obtain ⟨b,c,h1,h2,h3,h4,h5,h6⟩:=h
  exact ⟨b,c,by rw[hv];exact h1,h2,h3,h4,by rw[hl];exact h5,ho _ h6⟩
 | blob t k lo hi =>
  obtain ⟨b,c,h1,h2,h3,h4,h5,h6⟩:=h
  exact ⟨b,c,by rw[hv];exact h1,h2,h3,h4,by rw[hl];exact h5,ho _ h6⟩
theorem a8n {n:B2} {r:List B2} (h:Q4 (n::r)=true):n ∉ r∧Q4 r=true:=by
 simp only[Q4,Bool.and_eq_true,Bool.not_eq_true'] at h
 refine ⟨fun hn=>?_,h.2⟩
 have:r.contains n=true:=by simpa using hn
 rw[this] at h;cases h.1
theorem u4:∀{ns:List (B2×B2)} {n m:B2},X1 ns n=some m→(n,m)∈ns
 | [],_,_,h=>by simp[X1] at h
 | (a,b)::r,n,m,h=>by
  unfold X1 at h
  by_cases e:n=a
  ·subst e;simp at h;subst h;simp
  ·have:(n==a)=false:=by simpa using e
   rw[this] at h;simp at h
   exact List.mem_cons_of_mem _ (u4 h)
theorem f7:∀{ns:List (B2×B2)} {a b:B2},Q4 (ns.map (·.2))=true→(a,b)∈ns→K2 ns b=a
 | [],_,_,_,h=>by simp at h
 | (c,d)::r,a,b,hd,h=>by
  obtain ⟨h1,h2⟩:=a8n hd
  unfold K2
  rcases List.mem_cons.1 h with e|e
  ·cases e;simp
  ·have:b≠d:=fun e2=>h1 (by subst e2;exact List.mem_map.2 ⟨(a,b),e,rfl⟩)
   have:(b==d)=false:=by simpa using this
   rw[this];exact f7 h2 e
theorem a9o:∀{ns:List (B2×B2)} {a b:B2},Q4 (ns.map (·.1))=true→(a,b)∈ns→X1 ns a=some b
 | [],_,_,_,h=>by simp at h
 | (c,d)::r,a,b,hd,h=>by
  obtain ⟨h1,h2⟩:=a8n hd
  unfold X1
  rcases List.mem_cons.1 h with e|e
  ·cases e;simp
  ·have:a≠c:=fun e2=>h1 (by subst e2;exact List.mem_map.2 ⟨(a,b),e,rfl⟩)
   have:(a==c)=false:=by simpa using this
   rw[this];exact a9o h2 e
theorem a2q:∀{ns:List (B2×B2)} {bs:List Box},p8 H ns=some bs→bs.length=ns.length∧∀(i:Nat) (p:B2×B2) (b:Box),ns[i]?=some p→bs[i]?=some b→H p.2=some b
 | [],bs,h=>by simp[p8] at h;subst h;exact ⟨rfl,fun i p b hp=>by simp at hp⟩
 | p::r,bs,h=>by
  unfold p8 at h
  split at h
  ·rename_i b l hb hl
   simp at h;subst h
   obtain ⟨h1,h2⟩:=a2q hl
   refine ⟨by simp[h1],fun i q c hq hc=>?_⟩
   cases i with
   | zero=>simp at hq hc;subst hq hc;exact hb
   | succ i=>exact h2 i q c (by simpa using hq) (by simpa using hc)
  ·cases h
theorem p4 (l m:List (B2×Box)) (n:B2):ofL (l++m) n=match ofL l n with|some b=>some b|none=>ofL m n:=by
 induction l with
 | nil=>rfl
 | cons p r ih =>
  obtain ⟨a,b⟩:=p
  simp only[List.cons_append,ofL]
  cases (n==a) with
  | true=>rfl
  | false=>exact ih
theorem b7k:∀{ns:List (B2×B2)} {bs:List Box} {f:Box→Box},p8 H ns=some bs→∀n,ofL (a7t ns (bs.map f)) n=match X1 ns n with|some m=>(H m).map f|none=>none
 | [],bs,f,h,n=>by simp[p8] at h;subst h;rfl
 | (a,b)::r,bs,f,h,n=>by
  unfold p8 at h
  split at h
  ·rename_i c l hb hl
   simp at h;subst h
   simp only[List.map_cons,a7t,ofL,X1]
   cases hn:(n==a) with
   | true=>simp[hb]
   | false=>simp only[cond_false];exact b7k hl n
  ·cases h
theorem b9d {ns:List (B2×B2)} {n:B2} {b:Box}:ofL (a2m ns) n=some b→b= .junk∧∃a,(a,n)∈ns∧a≠n∧Y3 n=true:=by
 induction ns with
 | nil=>intro h;simp[a2m,ofL] at h
 | cons p r ih =>
  obtain ⟨c,d⟩:=p
  intro h
  unfold a2m at h
  cases hc:(Y3 d&& !(c==d)) with
  | false =>
   simp only[hc,cond_false] at h
   obtain ⟨h1,a,h2,h3⟩:=ih h
   exact ⟨h1,a,List.mem_cons_of_mem _ h2,h3⟩
  | true =>
   simp only[hc,cond_true,ofL] at h
   simp only[Bool.and_eq_true,Bool.not_eq_true'] at hc
   by_cases e:n=d
   ·subst e
    simp at h
    exact ⟨h.symm,c,by simp,by simpa using hc.2,hc.1⟩
   ·have:(n==d)=false:=by simpa using e
    rw[this] at h
    obtain ⟨h1,a,h2,h3⟩:=ih h
    exact ⟨h1,a,List.mem_cons_of_mem _ h2,h3⟩
theorem b2u:∀{ns:List (B2×B2)} {a n:B2},(a,n)∈ns→a≠n→Y3 n=true→ofL (a2m ns) n=some .junk
 | [],_,_,h,_,_=>by simp at h
 | (c,d)::r,a,n,h,h1,h2=>by
  unfold a2m
  rcases List.mem_cons.1 h with e|e
  ·obtain ⟨rfl,rfl⟩:=Prod.mk.inj e
   have:(Y3 n&& !(a==n))=true:=by simp[h2,h1]
   rw[this];simp[ofL]
  ·cases hc:(Y3 d&& !(c==d)) with
   | false=>simp only[cond_false];exact b2u e h1 h2
   | true =>
    simp only[cond_true,ofL]
    cases (n==d) with
    | true=>rfl
    | false=>exact b2u e h1 h2
theorem c4z:∀{ns:List (B2×B2)} {bs:List Box},c7d ns bs=true→∀(i:Nat) (p:B2×B2) (b:Box),ns[i]?=some p→bs[i]?=some b→Y3 p.2=true→p.1≠p.2→g4o b=true
 | [],_,_,i,p,b,hp,_,_,_=>by simp at hp
 | q::r, [],_,i,p,b,_,hb,_,_=>by simp at hb
 | q::r,c::l,h,i,p,b,hp,hb,hz,hne=>by
  simp only[c7d,Bool.and_eq_true] at h
  cases i with
  | zero =>
   simp at hp hb;subst hp hb
   have:(Y3 q.2&& !(q.1==q.2))=true:=by simp[hz,hne]
   rw[this] at h;exact h.1
  | succ i=>exact c4z h.2 i p b (by simpa using hp) (by simpa using hb) hz hne
theorem c9s:∀(L:List Nat) (vals:List V) (t:Nat),mk N0 L vals t= .any∨∃i:Nat,L[i]?=some t∧vals[i]?=some (mk N0 L vals t)
 | [],_,t=>.inl (by simp[mk,N0])
 | d::l, [],t=>.inl (by simp[mk,N0])
 | d::l,v::vs,t=>by
  simp only[mk,upd]
  by_cases e:t=d
  ·subst e;right;exact ⟨0,by simp,by simp⟩
  ·have:(t==d)=false:=by simpa using e
   rw[this]
   rcases c9s l vs t with h|⟨i,h1,h2⟩
   ·exact .inl h
   ·exact .inr ⟨i+1,by simpa using h1,by simpa using h2⟩
theorem b8x (f:B2→B2):∀l:List V,a2b f l=l.map (·.ren f)
 | []=>rfl
 | v::l=>by simp[a2b,b8x f l]
theorem Z7 {k:Nat} {L:List Nat} {ns:List (B2×B2)} {s:St} {vals:List V} {bs:List Box} (h:w6 k L ns s=some (vals,bs)):a3z C k s (stN s.N L (Q8 ns) vals bs):=by
 unfold w6 at h
 split at h
 case h_2=>cases h
 rename_i b0 hb0
 cases hchk:c2t k ns (L.map s.F) b0 with
 | false=>rw[hchk] at h;cases h
 | true =>
  rw[hchk] at h
  simp only[cond_true,Option.some.injEq,Prod.mk.injEq] at h
  obtain ⟨rfl,rfl⟩:=h
  unfold c2t at hchk
  simp only[Bool.and_eq_true] at hchk
  obtain ⟨c1,c2,c3,c4,c5,c6,c7⟩:=hchk
  obtain ⟨hlen,hat⟩:=a2q hb0
  have hst:stN s.N L (Q8 ns) (a2b (K2 ns) (L.map s.F)) (b0.map (·.ren (K2 ns))++(a2m ns).map (·.2))=⟨s.N,mk N0 L (a2b (K2 ns) (L.map s.F)),ofL (a7t ns (b0.map (·.ren (K2 ns)))++a2m ns)⟩:=by
   unfold stN Q8
   rw[c3s (by simp[hlen])]
  rw[hst]
  intro g a w R z
  
  let olds:=ns.map (·.2)
  let H1:B4:=fun n=>bif olds.contains n then s.H n else none
  let g1:G:=⟨g.val,g.lim,fun b=>match g.owner b with|some n=>(bif olds.contains n then some n else none)|none=>none⟩
  have hin:∀n,n∈olds→olds.contains n=true:=fun n hn=>by simpa using hn
  have hkd:∀n,n∈olds→kd H1 n=kd s.H n:=fun n hn=>by simp only[kd,H1,hin n hn,cond_true]
  have hold:∀n,n∈olds→∃(i:Nat) (p:B2×B2) (b:Box),ns[i]?=some p∧b0[i]?=some b∧p.2=n∧s.H n=some b:=fun n hn=>by
   obtain ⟨p,hp,rfl⟩:=List.mem_map.1 hn
   obtain ⟨i,hi⟩:=List.getElem?_of_mem hp
   have hlt:i<b0.length:=by rw[hlen];exact (List.getElem?_eq_some_iff.1 hi).1
   exact ⟨i,p,b0[i],hi,by simp[hlt],rfl,hat i p _ hi (by simp[hlt])⟩
  have hbn:∀n b,n∈olds→s.H n=some b→∀m∈o6 b,m∈olds:=fun n b hn hb m hm=>by
   obtain ⟨i,p,b',h1,h2,h3,h4⟩:=hold n hn
   rw[hb] at h4;cases h4
   have:=List.all_eq_true.1 c5 b (List.mem_of_getElem? h2)
   have:=List.all_eq_true.1 this m hm
   exact List.elem_iff.1 this
  have hH1:K7 w g1 H1:=by
   refine ⟨fun n b hb=>?_,fun b hb=>?_⟩
   ·simp only[H1] at hb
    cases hc:olds.contains n with
    | false=>rw[hc] at hb;cases hb
    | true =>
     rw[hc] at hb
     simp only[cond_true] at hb
     have hn:n∈olds:=by simpa using hc
     exact (R.heap.box n b hb).loc (g:=g) (g1:=g1) (H1:=H1) rfl rfl (fun b' hb'=>by simp only[g1,hb',hc,cond_true]) fun m hm=>hkd m (hbn n b hn hb m hm)
   ·have:=R.heap.fresh b hb
    exact ⟨this.1,by simp only[g1,this.2]⟩
  have hinv1:∀n m,X1 ns n=some m→K2 ns m=n:=fun n m h=>f7 c2 (u4 h)
  have hinv2:∀n,(H1 n).isSome→X1 ns (K2 ns n)=some n:=fun n hn=>by
   simp only[H1] at hn
   cases hc:olds.contains n with
   | false=>rw[hc] at hn;cases hn
   | true =>
    have hm:n∈olds:=by simpa using hc
    obtain ⟨p,hp,rfl⟩:=List.mem_map.1 hm
    rw[f7 (a:=p.1) c2 hp]
    exact a9o c1 hp
  obtain ⟨r1,r2⟩:=b5c (f:=K2 ns) (inv:=X1 ns) hinv1 hinv2 hH1
  
  let H3:=ofL (a7t ns (b0.map (·.ren (K2 ns)))++a2m ns)
  let g2:=g1.ren (K2 ns) (X1 ns)
  let g3:G:=⟨fun n=>match X1 ns n with|some m=>g.val m|none=>g.val n,g2.lim,g2.owner⟩
  have hz3:∀n,ofL (a7t ns (b0.map (·.ren (K2 ns)))) n=(H1.ren (K2 ns) (X1 ns)) n:=fun n=>by
   rw[b7k hb0]
   unfold B4.ren
   cases hi:X1 ns n with
   | none=>rfl
   | some m =>
    have hm:m∈olds:=List.mem_map.2 ⟨(n,m),u4 hi,rfl⟩
    simp only[H1,hin m hm,cond_true]
    cases s.H m<;>rfl
  have hnm:J9 (H1.ren (K2 ns) (X1 ns)) g2 H3 g3:=fun n q hq=>by
   have hsome:(H1.ren (K2 ns) (X1 ns) n).isSome:=by
    unfold kd at hq
    cases hx:(H1.ren (K2 ns) (X1 ns)) n with
    | none=>rw[hx] at hq;cases hq
    | some b=>rfl
   refine ⟨?_, ?_⟩
   ·unfold kd at hq ⊢
    simp only[H3,p4,hz3]
    cases hx:(H1.ren (K2 ns) (X1 ns)) n with
    | none=>rw[hx] at hsome;cases hsome
    | some b=>rw[hx] at hq;exact hq
   ·unfold B4.ren at hsome
    cases hi:X1 ns n with
    | none=>rw[hi] at hsome;cases hsome
    | some m=>simp only[g3,g2,G.ren,hi,g1]
  have hgr:Q9 w g2.lim w g3.lim:=.refl _ _
  have hH3:K7 w g3 H3:=by
   refine ⟨fun n b hb=>?_,fun b hb=>r2.fresh b hb⟩
   simp only[H3,p4,hz3] at hb
   cases hx:(H1.ren (K2 ns) (X1 ns)) n with
   | some b' =>
    rw[hx] at hb;simp at hb;subst hb
    exact (r2.box n b' hx).mono hx hgr hnm fun _ k hk=>⟨rfl,hk,rfl⟩
   | none =>
    rw[hx] at hb
    obtain ⟨rfl,a',h1,h2,h3⟩:=b9d hb
    show K6 (g3.val n)
    have hn:n∈olds:=List.mem_map.2 ⟨(a',n),h1,rfl⟩
    obtain ⟨i,p,b',h4,h5,h6,h7⟩:=hold n hn
    have hni:X1 ns n=none:=by
     cases hi:X1 ns n with
     | none=>rfl
     | some m =>
      exfalso
      have hm:=u4 hi
      have:=List.all_eq_true.1 c3 (n,m) hm
      simp only[h3,cond_true] at this
      have:n=m:=by simpa using this
      subst this
      have e1:=f7 c2 hm
      have e2:=f7 c2 h1
      exact h2 (e2.symm.trans e1)
    simp only[g3,hni]
    exact (R.heap.box n b' h7).flat
  have hval:∀v u,(∀n∈v.names,n∈olds)→D9 w g s.H v u→D9 w g3 H3 (v.ren (K2 ns)) u:=fun v u hn hr=>by
   have h1:D9 w g1 H1 v u:=hr.loc (g:=g) (g1:=g1) rfl rfl fun n hm=>hkd n (hn n hm)
   have h2:=h1.ren (g:=g1) (g':=g2) (H':=H1.ren (K2 ns) (X1 ns)) (f:=K2 ns) (.refl _ _) r1
   exact h2.mono hgr hnm
  refine ⟨fun m hm=>?_,g3,⟨R.size,fun t=>?_,hH3,R.globs,R.defers⟩,⟨rfl,rfl,rfl,Nat.le_refl _,fun b _ ho=>⟨rfl,rfl, ?_⟩, .refl _ _⟩,fun m q hq=>?_⟩
  ·simp only[p4] at hm
   cases hx:ofL (a7t ns (b0.map (·.ren (K2 ns)))) (0::m) with
   | some b' =>
    rw[b7k hb0] at hx
    cases hi:X1 ns (0::m) with
    | none=>rw[hi] at hx;cases hx
    | some o =>
     have hmem:=u4 hi
     have:=List.all_eq_true.1 c3 _ hmem
     simp only[Y3,cond_true] at this
     have:0::m=o:=by simpa using this
     subst this
     obtain ⟨_,_,_,_,_,_,h7⟩:=hold (0::m) (List.mem_map.2 ⟨(0::m,0::m),hmem,rfl⟩)
     exact z m (by rw[h7];rfl)
   | none =>
    rw[hx] at hm
    cases hy:ofL (a2m ns) (0::m) with
    | none=>rw[hy] at hm;cases hm
    | some b' =>
     obtain ⟨_,a',h1,_⟩:=b9d hy
     obtain ⟨_,_,_,_,_,_,h7⟩:=hold (0::m) (List.mem_map.2 ⟨(a',0::m),h1,rfl⟩)
     exact z m (by rw[h7];rfl)
  ·show D9 w g3 H3 (mk N0 L (a2b (K2 ns) (L.map s.F)) t) _
   rcases c9s L (a2b (K2 ns) (L.map s.F)) t with h|⟨i,h1,h2⟩
   ·rw[h];exact .any
   ·generalize hx:mk N0 L (a2b (K2 ns) (L.map s.F)) t=x at h2 ⊢
    rw[b8x,List.map_map,List.getElem?_map,h1] at h2
    simp only[Option.map_some,Option.some.injEq,Function.comp_apply] at h2
    rw[←h2]
    refine hval _ _ (fun n hn=>?_) (R.slots t)
    have:=List.all_eq_true.1 c4 (s.F t) (List.mem_map.2 ⟨t,List.mem_of_getElem? h1,rfl⟩)
    have:=List.all_eq_true.1 this n hn
    exact List.elem_iff.1 this
  ·simp only[g3,g2,G.ren,g1,ho,Option.map_none]
  ·have hs:(s.H (0::m)).isSome:=by
    unfold kd at hq
    cases hx:s.H (0::m) with
    | none=>rw[hx] at hq;cases hq
    | some b=>rfl
   obtain ⟨i,hi,rfl⟩:=z m hs
   have hmem: [0,i]∈olds:=by
    have:=List.all_eq_true.1 c6 i (by simpa using hi)
    exact List.elem_iff.1 this
   obtain ⟨p,hp,hp2⟩:=List.mem_map.1 hmem
   obtain ⟨p1,p2⟩:=p
   simp only at hp2
   subst hp2
   by_cases e:p1= [0,i]
   ·subst e
    have hiv:=a9o c1 hp
    refine ⟨?_,by simp only[g3,hiv]⟩
    have:=r1 [0,i] q (by rw[hkd _ hmem];exact hq)
    rw[f7 c2 hp] at this
    exact (hnm _ _ this.1).1
   ·have hni:X1 ns [0,i]=none:=by
     cases hi:X1 ns [0,i] with
     | none=>rfl
     | some o =>
      exfalso
      have hm:=u4 hi
      have:=List.all_eq_true.1 c3 _ hm
      simp only[Y3,cond_true] at this
      have: [0,i]=o:=by simpa using this
      subst this
      exact e ((f7 c2 hp).symm.trans (f7 c2 hm))
    refine ⟨?_,by simp only[g3,hni]⟩
    obtain ⟨j,p,b',h4,h5,h6,h7⟩:=hold [0,i] hmem
    have hpe:p=(p1, [0,i]):=by
     have e1:=f7 (a:=p.1) (b:=p.2) c2 (List.mem_of_getElem? h4)
     have e2:=f7 c2 hp
     rw[h6] at e1
     cases p;simp only at h6 e1;subst h6;rw[←e1,e2]
    subst hpe
    have ha:=c4z c7 j _ b' h4 h5 rfl e
    show kd H3 [0,i]=some q
    unfold kd
    simp only[H3,p4,hz3]
    have:(H1.ren (K2 ns) (X1 ns)) [0,i]=none:=by unfold B4.ren;rw[hni]
    rw[this]
    simp only[]
    rw[b2u hp e rfl]
    unfold kd at hq
    rw[h7] at hq
    cases b'<;>simp[g4o] at ha<;>simpa [Box.kind] using hq
end
end Go.Ev
end
section
namespace Go.Ev
inductive Ad where
 | cell (n:B2) (i:Nat) (t sz:Nat) (new:B2)
 | slot (d:Nat) (t sz:Nat) (new:B2)
 | opt (n:B2) (i:Nat) (m:B2) (off:Nat)
 | flat (d:Nat)
 | flatC (n:B2) (i:Nat)
 | bools (n:B2)
 | flatA (d:Nat)
 | blob (n:B2) (lo hi:Nat)
structure Spec where
 L:List Nat
 ns:List (B2×B2)
 L':List Nat
 nm':List B2:=[]
 ads:List Ad:=[]
 G:Nat→List V→List Box→(X→List V→List Box→Prop)→Prop
def stO (N:Nat) (S:Spec) (vs:List V) (bs:List Box):St:=stN N S.L' S.nm' vs bs
structure o9 where
 split:List (B2×Nat):=[]
 ads:List Ad:=[]
 cut:List (List Nat×List (B2×B2)):=[]
def b4d:V→Bool
 | .d (.slice true _ [])=>true
 | _=>false
def d8r:V→Bool
 | .d (.lit (.pointer none))=>true
 | _=>false
def f4f (m:B2) (off:Nat):V→Bool
 | .ptr n o=>n==m&&o==off
 | .opt n o=>n==m&&o==off
 | _=>false
def a7a:V→Bool
 | .ptr _ _=>true
 | .ref _=>true
 | .hp _ _ _=>true
 | .opt _ _=>true
 | .fn _ _ _=>true
 | .d x=>b4g x
 | _=>false
def b6i {α:Type}:Option α→Bool
 | none=>true
 | some _=>false
def c8a:Option Box→Bool
 | some (.cells _ _)=>true
 | _=>false
def w9 (s:St):Ad→Option St
 | .cell n i t sz new=>match s.H n with
  | some (.cells u cs)=>bif b4d (cs.getD i .any)&&(b6i (s.H new)&& !Y3 new) then some ⟨s.N,s.F,(s.H.set n (.cells u (cs.set i (.ref new)))).set new (.arr true true t sz [] [])⟩ else none
  | _=>none
 | .slot d t sz new=>bif b4d (s.F d)&&(b6i (s.H new)&& !Y3 new) then some ⟨s.N,upd s.F d (.ref new),s.H.set new (.arr true true t sz [] [])⟩ else none
 | .opt n i m off=>match s.H n with
  | some (.cells u cs)=>bif (d8r (cs.getD i .any)||f4f m off (cs.getD i .any))&&c8a (s.H m) then some ⟨s.N,s.F,s.H.set n (.cells u (cs.set i (.opt m off)))⟩ else none
  | _=>none
 | .flat d=>bif a7a (s.F d) then some ⟨s.N,upd s.F d (.d .any),s.H⟩ else none
 | .flatC n i=>match s.H n with
  | some (.cells u cs)=>bif a7a (cs.getD i .any) then some ⟨s.N,s.F,s.H.set n (.cells u (cs.set i (.d .any)))⟩ else none
  | _=>none
 | .bools n=>match s.H n with
  | some (.cells u cs)=>bif cs.all o7 then some ⟨s.N,s.F,s.H.set n (.bools u cs.length)⟩ else none
  | _=>none
 | .flatA d=>match s.F d with
  | .agg cs=>some ⟨s.N,upd s.F d (.d (.agg (List.replicate cs.length .any))),s.H⟩
  | .d (.agg cs)=>some ⟨s.N,upd s.F d (.d (.agg (List.replicate cs.length .any))),s.H⟩
  | _=>none
 | .blob n lo hi=>match s.H n with
  | some (.cells u cs)=>bif a7r lo hi 0 cs&&Nat.ble hi cs.length then some ⟨s.N,s.F,s.H.set n (.blob u cs.length lo hi)⟩ else none
  | _=>none
def r8:List Ad→St→Option St
 | [],s=>some s
 | a::r,s=>match w9 s a with|some s=>r8 r s|none=>none
section
variable {C : Cx} {k : Nat} {s s' : St} {w : World} {g : G}
theorem c7e {cs:List V} {i:Nat} {v:V} (h:cs.getD i .any=v) (hne:v≠ .any):cs[i]?=some v:=by
 rw[List.getD_eq_getElem?_getD] at h
 cases hx:cs[i]? with
 | none=>rw[hx] at h;exact absurd h.symm hne
 | some x=>rw[hx] at h;simp at h;rw[h]
theorem E0.set {H:B4} {x:V}:∀{cs:List V} {vs:List Value} {i:Nat},E0 w g H cs vs→(∀u,vs[i]?=some u→D9 w g H x u)→E0 w g H (cs.set i x) vs
 | [],_,i, .nil,_=>by simpa using .nil
 | c::cs,_,0, .cons h t,k=>.cons (k _ (by simp)) t
 | c::cs,_,i+1, .cons h t,k=>.cons h (E0.set t fun u hu=>k u (by simpa using hu))
theorem d5k {n:B2} {u:TypeId} {cs:List V} {i:Nat} {x:V} {a:Act} (R:Rel C g s a w) (hb:s.H n=some (.cells u cs)) (hx:∀v,(∀y,cs[i]?=some y→D9 w g s.H y v)→(cs[i]?).isSome→D9 w g s.H x v) :
  Rel C g (s.with (s.H.set n (.cells u (cs.set i x)))) a w∧J9 s.H g (s.H.set n (.cells u (cs.set i x))) g:=by
 have hn:J9 s.H g (s.H.set n (.cells u (cs.set i x))) g:=fun m q hq=>by
  refine ⟨?_,rfl⟩
  by_cases e:m=n
  ·subst e;simp[kd,hb,Box.kind] at hq;subst hq;simp[kd,F2,Box.kind]
  ·simpa [kd,D3 _ _ e] using hq
 refine ⟨R.later (.refl _ _) hn ?_,hn⟩
 refine K7.upd (n0:=n) R.heap (.refl _ _) hn (fun _ _ _ _ ho=>⟨rfl,ho,rfl⟩) (fun m hm=>D3 _ _ hm) (fun b hb'=>?_) (fun b hb=>R.heap.fresh b hb)
 rw[F2] at hb'
 cases hb'
 obtain ⟨b,c,h1,h2,h3,h4,h5,h6⟩:=R.heap.box n _ hb
 refine ⟨b,c,h1,h2, ?_,h4,h5,h6⟩
 refine E0.mono (.refl _ _) hn (h3.set fun v hv=>hx v (fun y hy=>?_) ?_)
 ·obtain ⟨z,hz,hr⟩:=h3.get hy
  rw[hv] at hz;cases hz;exact hr
 ·have:=h3.length
  have hlt:=(List.getElem?_eq_some_iff.1 hv).1
  have:i<cs.length:=by omega
  simp[this]
theorem d8s {new:B2} {t sz:Nat} {a:Act} (R:Rel C g s a w) (hn:s.H new=none) :
  ∃g',Rel C g' (s.with (s.H.set new (.arr true true t sz [] []))) a w∧j7 w g w g'∧J9 s.H g (s.H.set new (.arr true true t sz [] [])) g'∧D9 w g' (s.H.set new (.arr true true t sz [] [])) (.ref new) (.slice none 0 0):=by
 let g':G:=⟨fun m=>if m=new then .slice none 0 0 else g.val m,g.lim,g.owner⟩
 have hnm:J9 s.H g (s.H.set new (.arr true true t sz [] [])) g':=fun m q hq=>by
  have e:m≠new:=fun e=>by subst e;simp[kd,hn] at hq
  exact ⟨by simpa [kd,D3 _ _ e] using hq,by simp[g',e]⟩
 have hgr:Q9 w g.lim w g'.lim:=.refl _ _
 refine ⟨g',R.later hgr hnm ?_,⟨rfl,rfl,rfl,Nat.le_refl _,fun b _ ho=>⟨rfl,rfl,ho⟩, .refl _ _⟩,hnm, ?_⟩
 ·refine K7.upd (n0:=new) R.heap hgr hnm (fun _ _ _ _ ho=>⟨rfl,ho,rfl⟩) (fun m hm=>D3 _ _ hm) (fun b hb'=>?_) (fun b hb=>R.heap.fresh b hb)
  rw[F2] at hb'
  cases hb'
  refine ⟨[], [],by simpa [E9] using E5.nil,by simpa [E9] using E5.nil,by simp,by simp,by simp[g'],fun _=>⟨rfl,rfl⟩,fun _=>⟨?_,fun b hb=>?_⟩,fun h=>by cases h⟩
  ·simp only[g',if_true]
   exact ⟨by simp, .inl ⟨rfl,by simp⟩⟩
  ·simp[g',Value.ownBlock] at hb
 ·have:=D9.ref (w:=w) (g:=g') (H:=s.H.set new (.arr true true t sz [] [])) (n:=new) (k:=0) (by simp[kd,F2,Box.kind])
  simpa [g'] using this
theorem d8q {v:V} {u:Value} {H:B4} (h:b4d v=true) (r:D9 w g H v u):u= .slice none 0 0:=by
 unfold b4d at h
 split at h
 ·cases r with|d r=>cases r;rfl
 ·cases h
theorem e3g {v:V} (h:b4d v=true):v≠ .any:=fun e=>by subst e;cases h
theorem d7v {new:B2} {m:B2} (h:Y3 new=false):(0::m)≠new:=fun e=>by subst e;cases h
theorem e4b {lim:Nat→Nat} {x:D} {u:Value} (h:b4g x=true) (r:N7 w lim x u):K6 u:=by
 cases r with
 | lit ha =>
  cases u with
  | agg a=>exact absurd rfl (ha a)
  | tuple a=>simp[b4g] at h
  | _=>exact ⟨by simp,by simp⟩
 | agg _ _=>simp[b4g] at h
 | tup _=>simp[b4g] at h
 | any h=>exact h
 | _=>exact ⟨by simp,by simp⟩
theorem c5c {H:B4} (hH:K7 w g H) {v:V} {u:Value} (h:a7a v=true) (r:D9 w g H v u):K6 u:=by
 have nf:∀n k,kd H n=some k→K6 (g.val n):=fun n k hn=>by
  obtain ⟨b,hb,_⟩:=a9k hn;exact (hH.box n b hb).flat
 cases r with
 | d r=>exact e4b h r
 | ref hk=>exact nf _ _ hk
 | ptr hk=>exact a6w (nf _ _ hk)
 | hp hk=>exact b6x (nf _ _ hk)
 | fn _ _=>exact ⟨by simp,by simp⟩
 | opt hk ho =>
  rcases ho with rfl|rfl
  ·exact ⟨by simp,by simp⟩
  ·exact a6w (nf _ _ hk)
 | agg _ _=>cases h
 | tup _=>cases h
 | zs _=>cases h
 | any=>cases h
theorem d7j {a:Ad} (h:w9 s a=some s'):a3z C k s s':=by
 intro g ac w R z
 cases a with
 | cell n i t sz new =>
  simp only[w9] at h
  split at h
  ·rename_i u cs hb
   cases hc:(b4d (cs.getD i .any)&&(b6i (s.H new)&& !Y3 new)) with
   | false=>rw[hc] at h;cases h
   | true =>
    rw[hc] at h
    simp only[cond_true,Option.some.injEq] at h
    subst h
    simp only[Bool.and_eq_true,Bool.not_eq_true'] at hc
    obtain ⟨h1,h2,h3⟩:=hc
    have hnone:s.H new=none:=by
     cases hx:s.H new with
     | none=>rfl
     | some b=>rw[hx] at h2;cases h2
    have hne:new≠n:=fun e=>by subst e;rw[hb] at hnone;cases hnone
    obtain ⟨g',r1,st,nm,rv⟩:=d8s (t:=t) (sz:=sz) R hnone
    have hb1:(s.with (s.H.set new (.arr true true t sz [] []))).H n=some (.cells u cs):=by
     show s.H.set new _ n=_
     rw[D3 _ _ (Ne.symm hne)];exact hb
    have hat:=c7e (i:=i) rfl (e3g h1)
    obtain ⟨r2,nm2⟩:=d5k (i:=i) (x:=.ref new) r1 hb1 fun v hv _=>by
     have:=hv _ hat
     rw[d8q h1 this];exact rv
    have he:((s.H.set new (.arr true true t sz [] [])).set n (.cells u (cs.set i (.ref new))))=(s.H.set n (.cells u (cs.set i (.ref new)))).set new (.arr true true t sz [] []):=by
     funext m
     by_cases e1:m=n
     ·subst e1;rw[F2,D3 _ _ (Ne.symm hne),F2]
     ·by_cases e2:m=new
      ·subst e2;rw[D3 _ _ e1,F2,F2]
      ·rw[D3 _ _ e1,D3 _ _ e2,D3 _ _ e2,D3 _ _ e1]
    refine ⟨fun m hm=>z m ?_,g', ?_,st, ?_⟩
    ·simp only[] at hm
     rw[D3 _ _ (d7v h3)] at hm
     by_cases e1:(0::m)=n
     ·rw[e1,hb];rfl
     ·rw[D3 _ _ e1] at hm;exact hm
    ·rw[←he];exact r2
    ·show z8 s.H g ((s.H.set n (.cells u (cs.set i (.ref new)))).set new (.arr true true t sz [] [])) g'
     rw[←he];exact .of_names (nm.trans nm2)
  ·cases h
 | slot d t sz new =>
  simp only[w9] at h
  cases hc:(b4d (s.F d)&&(b6i (s.H new)&& !Y3 new)) with
  | false=>rw[hc] at h;cases h
  | true =>
   rw[hc] at h
   simp only[cond_true,Option.some.injEq] at h
   subst h
   simp only[Bool.and_eq_true,Bool.not_eq_true'] at hc
   obtain ⟨h1,h2,h3⟩:=hc
   have hnone:s.H new=none:=by
    cases hx:s.H new with
    | none=>rfl
    | some b=>rw[hx] at h2;cases h2
   obtain ⟨g',r1,st,nm,rv⟩:=d8s (t:=t) (sz:=sz) R hnone
   refine ⟨fun m hm=>z m ?_,g',⟨r1.size,fun q=>?_,r1.heap,r1.globs,r1.defers⟩,st, .of_names nm⟩
   ·simp only[] at hm
    rw[D3 _ _ (d7v h3)] at hm;exact hm
   ·show D9 w g' (s.H.set new (.arr true true t sz [] [])) (upd s.F d (.ref new) q) _
    unfold upd
    by_cases e:q=d
    ·subst e
     simp only[beq_self_eq_true,cond_true]
     rw[d8q h1 (R.slots q)];exact rv
    ·have:(q==d)=false:=by simpa using e
     rw[this];exact r1.slots q
 | opt n i m off =>
  simp only[w9] at h
  split at h
  ·rename_i u cs hb
   cases hc:((d8r (cs.getD i .any)||f4f m off (cs.getD i .any))&&c8a (s.H m)) with
   | false=>rw[hc] at h;cases h
   | true =>
    rw[hc] at h
    simp only[cond_true,Option.some.injEq] at h
    subst h
    simp only[Bool.and_eq_true,Bool.or_eq_true] at hc
    obtain ⟨h1,h2⟩:=hc
    have hk:kd s.H m=some 0:=by
     unfold c8a at h2
     split at h2
     ·rename_i hx;simp[kd,hx,Box.kind]
     ·cases h2
    have hne:cs.getD i .any≠ .any:=fun e=>by rw[e] at h1;rcases h1 with h1|h1<;>cases h1
    have hat:=c7e (i:=i) rfl hne
    obtain ⟨r2,nm2⟩:=d5k (i:=i) (x:=.opt m off) R hb fun v hv _=>by
     have hr:=hv _ hat
     refine .opt hk ?_
     generalize cs.getD i V.any=y at h1 hr
     rcases h1 with h1|h1
     ·unfold d8r at h1
      split at h1
      ·exact .inl hr.lit_inv
      ·cases h1
     ·unfold f4f at h1
      split at h1
      ·simp only[Bool.and_eq_true,beq_iff_eq] at h1
       obtain ⟨rfl,rfl⟩:=h1
       cases hr;exact .inr rfl
      ·simp only[Bool.and_eq_true,beq_iff_eq] at h1
       obtain ⟨rfl,rfl⟩:=h1
       cases hr;assumption
      ·cases h1
    refine ⟨fun q hq=>z q ?_,g,r2, .refl _ _, .of_names nm2⟩
    simp only[] at hq
    by_cases e1:(0::q)=n
    ·rw[e1,hb];rfl
    ·rw[D3 _ _ e1] at hq;exact hq
  ·cases h
 | flat d =>
  simp only[w9] at h
  cases hc:a7a (s.F d) with
  | false=>rw[hc] at h;cases h
  | true =>
   rw[hc] at h
   simp only[cond_true,Option.some.injEq] at h
   subst h
   refine ⟨z,g,⟨R.size,fun q=>?_,R.heap,R.globs,R.defers⟩, .refl _ _, .refl _ _⟩
   show D9 w g s.H (upd s.F d (.d .any) q) _
   unfold upd
   by_cases e:q=d
   ·subst e
    simp only[beq_self_eq_true,cond_true]
    exact .d (.any (c5c R.heap hc (R.slots q)))
   ·have:(q==d)=false:=by simpa using e
    rw[this];exact R.slots q
 | flatC n i =>
  simp only[w9] at h
  split at h
  ·rename_i u cs hb
   cases hc:a7a (cs.getD i .any) with
   | false=>rw[hc] at h;cases h
   | true =>
    rw[hc] at h
    simp only[cond_true,Option.some.injEq] at h
    subst h
    have hat:=c7e (i:=i) rfl (fun e=>by rw[e] at hc;cases hc)
    obtain ⟨r2,nm2⟩:=d5k (i:=i) (x:=.d .any) R hb fun v hv _=>.d (.any (c5c R.heap hc (hv _ hat)))
    refine ⟨fun q hq=>z q ?_,g,r2, .refl _ _, .of_names nm2⟩
    simp only[] at hq
    by_cases e1:(0::q)=n
    ·rw[e1,hb];rfl
    ·rw[D3 _ _ e1] at hq;exact hq
  ·cases h
 | bools n =>
  simp only[w9] at h
  split at h
  ·rename_i u cs hb
   cases hc:cs.all o7 with
   | false=>rw[hc] at h;cases h
   | true =>
    rw[hc] at h
    simp only[cond_true,Option.some.injEq] at h
    subst h
    have hn:J9 s.H g (s.H.set n (.bools u cs.length)) g:=fun m q hq=>by
     refine ⟨?_,rfl⟩
     by_cases e:m=n
     ·subst e;simp[kd,hb,Box.kind] at hq;subst hq;simp[kd,F2,Box.kind]
     ·simpa [kd,D3 _ _ e] using hq
    refine ⟨fun q hq=>z q ?_,g,R.later (.refl _ _) hn ?_, .refl _ _, .of_names hn⟩
    ·simp only[] at hq
     by_cases e1:(0::q)=n
     ·rw[e1,hb];rfl
     ·rw[D3 _ _ e1] at hq;exact hq
    ·refine K7.upd (n0:=n) R.heap (.refl _ _) hn (fun _ _ _ _ ho=>⟨rfl,ho,rfl⟩) (fun m hm=>D3 _ _ hm) (fun b hb'=>?_) (fun b hb=>R.heap.fresh b hb)
     rw[F2] at hb'
     cases hb'
     obtain ⟨b,c,h1,h2,h3,h4,h5,h6⟩:=R.heap.box n _ hb
     refine ⟨b,c,h1,h2,by have:=h3.length;simp at this;omega, ?_,h5,h6⟩
     have key:∀(l:List V) (m:List Value),l.all o7=true→E0 w g s.H l m→∀v∈m,∃x,v= .bool x:=by
      intro l
      induction l with
      | nil=>intro m _ h v hv;cases h;cases hv
      | cons x l ih =>
       intro m ha h v hv
       cases h with
       | cons hx ht =>
        simp only[List.all_cons,Bool.and_eq_true] at ha
        rcases List.mem_cons.1 hv with rfl|hv
        ·have hb:=ha.1
         unfold o7 at hb
         split at hb
         ·exact ⟨_,hx.lit_inv'⟩
         ·cases hx with|d hx=>cases hx;exact ⟨_,rfl⟩
         ·cases hb
        ·exact ih _ ha.2 ht v hv
     exact key cs c.toList hc h3
  ·cases h
 | flatA d =>
  have hR:=R.slots d
  have key:∀(k:Nat) (a0:Array Value),(∀v∈a0.toList,K6 v)→a0.size=k→D9 w g s.H (.d (.agg (List.replicate k .any))) (.agg a0):=fun k a0 hf hk=>by
   refine .d (.agg ?_ hf)
   rw[←hk, ←Array.length_toList]
   exact d4k hf
  suffices hh:∃k:Nat,D9 w g s.H (.d (.agg (List.replicate k .any))) (ac.tmps.getD d undef)∧s'=⟨s.N,upd s.F d (.d (.agg (List.replicate k .any))),s.H⟩ by
   obtain ⟨k,hk,rfl⟩:=hh
   refine ⟨z,g,⟨R.size,fun q=>?_,R.heap,R.globs,R.defers⟩, .refl _ _, .refl _ _⟩
   show D9 w g s.H (upd s.F d _ q) _
   unfold upd
   by_cases e:q=d
   ·subst e
    simp only[beq_self_eq_true,cond_true]
    exact hk
   ·have:(q==d)=false:=by simpa using e
    rw[this];exact R.slots q
  simp only[w9] at h
  split at h
  ·rename_i cs hs
   simp only[Option.some.injEq] at h
   rw[hs] at hR
   refine ⟨cs.length, ?_,h.symm⟩
   generalize ac.tmps.getD d undef=u at hR ⊢
   cases hR with
   | agg hr hf=>exact key _ _ hf (by have:=hr.length;simp at this;omega)
  ·rename_i cs hs
   simp only[Option.some.injEq] at h
   rw[hs] at hR
   refine ⟨cs.length, ?_,h.symm⟩
   generalize ac.tmps.getD d undef=u at hR ⊢
   cases hR with
   | d hr =>
    cases hr with
    | agg hr hf=>exact key _ _ hf (by have:=hr.length;simp at this;omega)
  ·cases h
 | blob n lo hi =>
  simp only[w9] at h
  split at h
  ·rename_i u cs hb
   cases hc:(a7r lo hi 0 cs&&Nat.ble hi cs.length) with
   | false=>rw[hc] at h;cases h
   | true =>
    rw[hc] at h
    simp only[cond_true,Option.some.injEq] at h
    subst h
    simp only[Bool.and_eq_true] at hc
    have hn:J9 s.H g (s.H.set n (.blob u cs.length lo hi)) g:=fun m q hq=>by
     refine ⟨?_,rfl⟩
     by_cases e:m=n
     ·subst e;simp[kd,hb,Box.kind] at hq;subst hq;simp[kd,F2,Box.kind]
     ·simpa [kd,D3 _ _ e] using hq
    refine ⟨fun q hq=>z q ?_,g,R.later (.refl _ _) hn ?_, .refl _ _, .of_names hn⟩
    ·simp only[] at hq
     by_cases e1:(0::q)=n
     ·rw[e1,hb];rfl
     ·rw[D3 _ _ e1] at hq;exact hq
    ·refine K7.upd (n0:=n) R.heap (.refl _ _) hn (fun _ _ _ _ ho=>⟨rfl,ho,rfl⟩) (fun m hm=>D3 _ _ hm) (fun b hb'=>?_) (fun b hb=>R.heap.fresh b hb)
     rw[F2] at hb'
     cases hb'
     obtain ⟨b,c,h1,h2,h3,h4,h5,h6⟩:=R.heap.box n _ hb
     have hl:=h3.length
     simp at hl
     refine ⟨b,c,h1,h2,by omega,⟨h4,fun i i1 i2=>?_⟩,h5,h6⟩
     have hle:=Nat.le_of_ble_eq_true hc.2
     have hlt:i<c.toList.length:=by simp;omega
     obtain ⟨x,hx,hr⟩:=E0.at h3 (List.getElem?_eq_getElem hlt)
     obtain ⟨y,hy⟩:=b5w (b7j hc.1 hx (by omega) (by omega)) hr
     exact ⟨y,by rw[List.getElem?_eq_getElem hlt,hy]⟩
  ·cases h
theorem S5:∀{l:List Ad} {s s':St},r8 l s=some s'→a3z C k s s'
 | [],s,s',h=>by simp[r8] at h;subst h;exact .refl
 | a::r,s,s',h=>by
  unfold r8 at h
  split at h
  ·rename_i s1 h1
   exact (d7j h1).trans (S5 h)
  ·cases h
theorem f5n {a:Ad} (h:w9 s a=some s'):s'.N=s.N:=by
 cases a with
 | cell n i t sz new =>
  simp only[w9] at h
  split at h
  ·rename_i u cs _
   cases hc:(b4d (cs.getD i .any)&&(b6i (s.H new)&& !Y3 new)) with
   | false=>rw[hc] at h;cases h
   | true=>rw[hc] at h;simp at h;subst h;rfl
  ·cases h
 | slot d t sz new =>
  simp only[w9] at h
  cases hc:(b4d (s.F d)&&(b6i (s.H new)&& !Y3 new)) with
  | false=>rw[hc] at h;cases h
  | true=>rw[hc] at h;simp at h;subst h;rfl
 | opt n i m off =>
  simp only[w9] at h
  split at h
  ·rename_i u cs _
   cases hc:((d8r (cs.getD i .any)||f4f m off (cs.getD i .any))&&c8a (s.H m)) with
   | false=>rw[hc] at h;cases h
   | true=>rw[hc] at h;simp at h;subst h;rfl
  ·cases h
 | flat d =>
  simp only[w9] at h
  cases hc:a7a (s.F d) with
  | false=>rw[hc] at h;cases h
  | true=>rw[hc] at h;simp at h;subst h;rfl
 | flatC n i =>
  simp only[w9] at h
  split at h
  ·rename_i u cs _
   cases hc:a7a (cs.getD i .any) with
   | false=>rw[hc] at h;cases h
   | true=>rw[hc] at h;simp at h;subst h;rfl
  ·cases h
 | bools n =>
  simp only[w9] at h
  split at h
  ·rename_i u cs _
   cases hc:cs.all o7 with
   | false=>rw[hc] at h;cases h
   | true=>rw[hc] at h;simp at h;subst h;rfl
  ·cases h
 | flatA d =>
  simp only[w9] at h
  split at h
  ·simp at h;subst h;rfl
  ·simp at h;subst h;rfl
  ·cases h
 | blob n lo hi =>
  simp only[w9] at h
  split at h
  ·rename_i u cs _
   cases hc:(a7r lo hi 0 cs&&Nat.ble hi cs.length) with
   | false=>rw[hc] at h;cases h
   | true=>rw[hc] at h;simp only[cond_true,Option.some.injEq] at h;subst h;rfl
  ·cases h
theorem c3e:∀{l:List Ad} {s s':St},r8 l s=some s'→s'.N=s.N
 | [],s,s',h=>by simp[r8] at h;subst h;rfl
 | a::r,s,s',h=>by
  unfold r8 at h
  split at h
  ·rename_i s1 h1
   exact (c3e h).trans (f5n h1)
  ·cases h
theorem f5o {n:B2} {i:Nat} {u:TypeId} {cs:List V} {m:B2} {off:Nat} {c:Code} {K:X→St→Prop} (hb:s.H n=some (.cells u cs)) (hi:cs[i]?=some (.opt m off))
  (h1:T C k c ⟨s.N,s.F,s.H.set n (.cells u (cs.set i (.d (.lit (.pointer none)))))⟩ K) (h2:T C k c ⟨s.N,s.F,s.H.set n (.cells u (cs.set i (.ptr m off)))⟩ K):T C k c s K:=fun g a w Q R z hq=>by
 have hz:∀b,Z0 k (s.H.set n b):=fun b q hq=>z q (by
  by_cases e1:(0::q)=n
  ·rw[e1,hb];rfl
  ·rw[D3 _ _ e1] at hq;exact hq)
 obtain ⟨b,c0,e1,e2,e3,e4,e5,e6⟩:=R.heap.box n _ hb
 obtain ⟨v0,hv0,hr0⟩:=e3.get hi
 have hkm:kd s.H m=some 0:=by cases hr0;assumption
 have key:∀x,D9 w g s.H x v0→T C k c ⟨s.N,s.F,s.H.set n (.cells u (cs.set i x))⟩ K→c.wp C.P Q a w:=fun x hx ht=>by
  have hn:J9 s.H g (s.H.set n (.cells u (cs.set i x))) g:=fun m q hq=>by
   refine ⟨?_,rfl⟩
   by_cases e:m=n
   ·subst e;simp[kd,hb,Box.kind] at hq;subst hq;simp[kd,F2,Box.kind]
   ·simpa [kd,D3 _ _ e] using hq
  have hR:Rel C g (s.with (s.H.set n (.cells u (cs.set i x)))) a w:=by
   refine R.later (.refl _ _) hn (K7.upd (n0:=n) R.heap (.refl _ _) hn (fun _ _ _ _ ho=>⟨rfl,ho,rfl⟩) (fun m hm=>D3 _ _ hm) (fun b' hb'=>?_) (fun b hb=>R.heap.fresh b hb))
   rw[F2] at hb'
   cases hb'
   refine ⟨b,c0,e1,e2,E0.mono (.refl _ _) hn (e3.set fun v hv=>?_),e4,e5,e6⟩
   rw[hv0] at hv;cases hv;exact hx
  exact ht g a w Q hR (hz _) fun x s' a' w' hk z' hp=>hq x s' a' w' hk z' (hp.after (.refl _ _) (.of_names hn))
 cases hr0 with
 | opt hk ho =>
  rcases ho with rfl|rfl
  ·exact key _ (.d (.lit (by simp))) h1
  ·exact key _ (.ptr hk) h2
end
end Go.Ev
end
section
namespace Go.Ev
def b5u (C:Cx):Nat→TypeId→Option (List TypeId)
 | 0,_=>none
 | n+1,t=>match F1 C t with
  | some (.struct fs)=>fs.toList.foldr (fun f r=>match b5u C n f.type,r with|some a,some l=>some (a++l)|_,_=>none) (some [])
  | some (.array k e)=>match b5u C n e with|some l=>some (List.replicate k l).flatten|none=>none
  | some _=>some [t]
  | none=>none
def i2n (C:Cx) (t:TypeId):Bool:=match F1 C t with|some u=>Z4 u|none=>false
def g3u (C:Cx) (t:TypeId) (y:D):D:=bif i2n C t then (match b5u C 8 t with|some ts=>.agg (c5i C ts 0 y)|none=>y) else e7z C t y
structure Ct where
 pre:List D→Prop
 f:List D→Option D
noncomputable def Ct.gate (c:Ct) (ds:List D):Option D:=open Classical in if c.pre ds then c.f ds else none
abbrev Tab:=FuncId→Option Ct
noncomputable def Cx.tab (C:Cx) (tb:Tab):Cx:={C with ext:=fun K=>match tb K with|some c=>some c.gate|none=>none }
section
variable (C : Cx) (tb : Tab)
abbrev Ann:=Nat→List (Nat×Bool)
def sub (a b:List (Nat×Bool)):Bool:=a.all fun p=>b.contains p
def ovA (s:St) (A:Ann) (ch:List (Nat×Bool)):Operand→Option V
 | .tmp t=>bif sub (A t) ch then some (s.F t) else none
 | x=>F3 C s.F x
def ovs (ov:Operand→Option V):List Operand→Option (List V)
 | []=>some []
 | x::r=>match ov x,ovs ov r with|some v,some l=>some (v::l)|_,_=>none
def d7f (C:Cx) (H:B4) (t:TypeId) (a:V):Option Prop:=match a with
 | .ptr n off=>match H n with
  | some (.bools _ k)=>(match F1 C t,K8 C t with
   | some u,some _=>bif Z4 u then none else some (off<k)
   | _,_=>none)
  | some (.blob _ _ lo hi)=>(match F1 C t,K8 C t with
   | some u,some _=>bif Z4 u then none else some (lo≤off∧off<hi)
   | _,_=>none)
  | _=>none
 | _=>none
def b2r (ov:Operand→Option V):List (Nat×Operand)→Option (List (Nat×V))
 | []=>some []
 | (i,x)::r=>match ov x,b2r ov r with|some v,some l=>some ((i,v)::l)|_,_=>none
theorem c4k {ov:Operand→Option V} {F:Nat→V} (hov:∀x v,ov x=some v→F3 C F x=some v):∀{l:List (Nat×Operand)} {r:List (Nat×V)},b2r ov l=some r→M9 C F l=some r
 | [],r,h=>by simpa [b2r,M9] using h
 | (i,x)::l,r,h=>by
  unfold b2r at h
  cases hx:ov x with
  | none=>simp[hx] at h
  | some v =>
   cases hl:b2r ov l with
   | none=>simp[hx,hl] at h
   | some m=>simp[hx,hl] at h;subst h;simp only[M9,hov x v hx,c4k hov hl]
def b2m:D→Bool
 | .lit (.int .u8 n)=>decide (0≤n)&&decide (n<256)
 | _=>false
def c3i (xs:List D):ByteArray:=⟨(xs.map fun d=>UInt8.ofNat (A1 d).toNat).toArray⟩
def d4w (xs:List D):Prop:=∀d∈xs,b2m d=true
theorem d8e:∀{xs:List D},d4w xs→U3 xs=some (xs.map fun d=>UInt8.ofNat (A1 d).toNat)
 | [],_=>rfl
 | d::r,h=>by
  have hd:b2m d=true:=h d (by simp)
  have ih:=d8e (xs:=r) fun x hx=>h x (by simp[hx])
  unfold b2m at hd
  split at hd
  ·simp[U3,ih,A1]
  ·cases hd
def bytesOf (H:B4) (src dst:TypeId) (x:V):Option (List D):=match F1 C src,F1 C dst with
 | some (.slice e),some .string=>(match F1 C e,a3n H x with
  | some (.int .u8),some (_,sz,xs)=>bif sz==1 then some xs else none
  | _,_=>none)
 | _,_=>none
def e9q (ov:Operand→Option V) (H:B4) (o:Oper):Option (V×Option Prop):=match o.op with
 | .move x | .assign x=>match ov x with|some v=>some (v,none)|none=>none
 | .load t a=>match ov a with
  | some a=>(match d7f C H t a with
   | some p=>some (.d .anyB,some p)
   | none=>(match a2f C H t a with|some v=>some (v,none)|none=>none))
  | none=>none
 | .nilCheck x=>match ov x with
  | some (.ptr n off)=>some (.ptr n off,none)
  | some (.d (.elem cs))=>some (.d (.elem cs),none)
  | _=>none
 | .unOp op _ x=>match ov x with|some x=>(match e4d op x with|some v=>some (v,none)|none=>none)|none=>none
 | .build t parts=>match b2r ov parts.toList with|some l=>(match a9u C t l with|some v=>some (v,none)|none=>none)|none=>none
 | .convert src dst x=>match ov x with
  | some x=>(match bytesOf C H src dst x with
   | some xs=>some (.d (.lit (.string (c3i xs))),some (d4w xs))
   | none=>(match V4 C H src dst x with|some v=>some (v,none)|none=>none))
  | none=>none
 | .fieldAddr st x f=>match ov x,a9s C st f with
  | some x,some fd=>match K8 C fd.type with
   | some k=>bif k==0 then none else (match x with
    | .ptr n off=>some (.ptr n (off+fd.offset),none)
    | .d (.elem cs)=>some (.d (.elem (cs.drop fd.offset)),none)
    | _=>none)
   | none=>none
  | _,_=>none
 | .field st x f=>match ov x,a9s C st f with
  | some x,some fd=>(match b2d C fd.type fd.offset x with|some v=>some (v,none)|none=>none)
  | _,_=>none
 | .extract t i=>match ov t with
  | some (.d (.tup ds))=>match ds[i]? with|some x=>some (.d x,none)|none=>none
  | some (.tup vs)=>match vs[i]? with|some x=>some (x,none)|none=>none
  | _=>none
 | .index t x i=>match F1 C t,ov x,ov i with
  | some .string,some (.d (.lit (.string s))),some (.d (.lit (.int k i)))=>some (.d (.lit (.int .u8 (A6 s i.toNat))),some (0≤i∧i.toNat<s.size))
  | _,some x,some i=>(match w4 C t x i with|some v=>some (v,none)|none=>none)
  | _,_,_=>none
 | .indexAddr t x i=>match F1 C t,ov x,ov i with
  | some (.slice e),some x,some (.d (.lit (.int k i)))=>match a3n H x,K8 C e with
   | some (_,sz,xs),some z=>bif sz==z then some (.d (.elem (g3u C e (xs.getD i.toNat .any)).cells),some (0≤i∧i.toNat<xs.length∧g3u C e (xs.getD i.toNat .any)=xs.getD i.toNat .any)) else none
   | _,_=>none
  | some (.array n e),some (.ptr m off),some (.d (.lit (.int k i)))=>(match K8 C e with
   | some z=>some (.ptr m (off+i.toNat*z),some (0≤i∧i.toNat<n))
   | none=>none)
  | _,some x,some i=>(match J4 C H t x i with|some v=>some (v,none)|none=>none)
  | _,_,_=>none
 | .slice t x lo hi none=>match F1 C t,ov x,(match lo with|none=>some none|some x=>match ov x with|some v=>some (some v)|none=>none),(match hi with|none=>some none|some x=>match ov x with|some v=>some (some v)|none=>none) with
  | some .string,some (.d (.lit (.string s))),some lo,some hi=>(match lo,hi with
   | none,none=>some (C9 (s.extract 0 s.size),none)
   | some (.d (.lit (.int _ l))),none=>some (C9 (s.extract l.toNat s.size),some (0≤l∧l.toNat≤s.size))
   | none,some (.d (.lit (.int _ h)))=>some (C9 (s.extract 0 h.toNat),some (0≤h∧h.toNat≤s.size))
   | some (.d (.lit (.int _ l))),some (.d (.lit (.int _ h)))=>some (C9 (s.extract l.toNat h.toNat),some (0≤l∧0≤h∧l.toNat≤h.toNat∧h.toNat≤s.size))
   | _,_=>none)
  | _,_,_,_=>none
 | .binOp op t x y _=>match ov x,ov y with
  | some (.d (.lit (.int k a))),some (.d (.lit (.int k' b)))=>(match op with
   | .quo=>some (.d (.lit (.int k (k.wrap (a.tdiv b)))),some (k=k'∧b≠0))
   | .rem=>some (.d (.lit (.int k (a.tmod b))),some (k=k'∧b≠0))
   | _=>(match o3 C H op t (.d (.lit (.int k a))) (.d (.lit (.int k' b))) with|some v=>some (v,none)|none=>none))
  | some (.d (.lit (.string a))),some (.d (.lit (.string b)))=>(match op with
   | .add=>some (C9 (a++b),some (a.size+b.size≤9223372036854775807))
   | _=>(match o3 C H op t (C9 a) (C9 b) with|some v=>some (v,none)|none=>none))
  | some vx,some vy=>bif a2h vx&&a2h vy&& !(Region.isConst x||Region.isConst y) then none else (match o3 C H op t vx vy with|some v=>some (v,none)|none=>none)
  | _,_=>none
 | .call c=>match ovs ov c.args.toList with
  | none=>none
  | some args=>match c.callee with
   | .builtin .len=>match c.argTypes[0]?,args with
    | some t, [x]=>(match b6u C H t x with|some v=>some (v,none)|none=>none)
    | _,_=>none
   | .builtin .min=>(match a8p false args with|some v=>some (v,none)|none=>none)
   | .builtin .max=>(match a8p true args with|some v=>some (v,none)|none=>none)
   | .value f=>match ov f with
    | some (.fn (.func K) first cap)=>(match tb K,a2v H (first++args++cap) with
     | some ct,some ds=>(match ct.f ds with|some r=>some (.d r,some (ct.pre ds))|none=>none)
     | _,_=>none)
    | _=>none
   | _=>none
 | _=>none
def e6j (c a b:V):Option (V×Option Prop):=match c with
 | .d (.lit (.bool t))=>match a,b with
  | .d (.lit (.bool x)), .d (.lit (.bool y))=>some (A9 (bif t then x else y),none)
  | .d (.lit (.int k x)), .d (.lit (.int k' y))=>bif decide (k=k') then some (.d (.lit (.int k (bif t then x else y))),none) else none
  | a, .any=>some (a,some (t=true))
  | .any,b=>some (b,some (t=false))
  | a,b=>bif t then some (a,none) else some (b,none)
 | _=>none
def e6p (s:St) (ch:List (Nat×Bool)) (v:List (Nat×Bool)→Bool) (p:Option Prop) (k:Prop):Prop:=match p with
 | none=>k
 | some p=>match ch with
  | []=>p∧k
  | _::_=>(v ch=true→p)∧k
def isB (v:V) (w:Bool):Bool:=match v with | .d (.lit (.bool b))=>(bif w then b else !b)|_=>false
def L2 (s:St) (ch:List (Nat×Bool)):Bool:=ch.all fun p=>isB (s.F p.1) p.2
def c7z (ops:Array Oper) (A:Ann) (o:Oper):Option (List (Nat×Bool)):=match o.guard with
 | none=>some []
 | some (j,want)=>match (ops[j]?).bind (·.dst) with
  | none=>none
  | some d=>some ((d,want)::A d)
def b8m (v:V):Bool:=match v with | .d (.lit (.bool _))=>true|_=>false
def a4y (A:Ann) (d:Nat) (ch:List (Nat×Bool)):Ann:=fun t=>bif t==d then ch else A t
def a2n (s:St) (A:Ann):St:=⟨s.N,fun t=>match A t with | []=>s.F t|_::_=>.any,s.H⟩
def b2c (ops:Array Oper):List Oper→St→Ann→List Nat→(St→Prop)→Prop
 | [],s,A,_,K=>K (a2n s A)
 | o::rest,s,A,gs,K=>match c7z ops A o,o.dst with
  | some ch,some d=>bif ch.all (fun p=>b8m (s.F p.1))&&Nat.blt d s.N&& !(gs.contains d)&& !(ch.any fun p=>p.1==d) then
    (match o.op with
    | .pick (.tmp c) a b=>match ovA C s A ch (.tmp c),ovA C s A ((c,true)::(A c++ch)) a,ovA C s A ((c,false)::(A c++ch)) b with
     | some vc,some va,some vb=>(match e6j vc va vb with
      | some (v,p)=>bif c==d then False else e6p s ch (L2 s) p (b2c ops rest ⟨s.N,upd s.F d v,s.H⟩ (a4y A d ch) (c::(ch.map (·.1)++gs)) K)
      | none=>False)
     | _,_,_=>False
    | _=>match e9q C tb (ovA C s A ch) s.H o with
     | some (v,p)=>e6p s ch (L2 s) p (b2c ops rest ⟨s.N,upd s.F d v,s.H⟩ (a4y A d ch) (ch.map (·.1)++gs) K)
     | none=>(match ch with
      | []=>False
      | _::_=>e6p s ch (L2 s) (some False) (b2c ops rest ⟨s.N,upd s.F d .any,s.H⟩ (a4y A d ch) (ch.map (·.1)++gs) K)))
   else False
  | _,_=>False
end
structure a7o (q s:St) (A:Ann) (gs:List Nat):Prop where
 N:q.N=s.N
 H:q.H=s.H
 yes:∀t,L2 s (A t)=true→q.F t=s.F t
 no:∀t,L2 s (A t)=false→q.F t=K9
 has:∀t p,p∈A t→p.1∈gs
section
variable {C : Cx} {tb : Tab} {q s : St} {A : Ann} {gs : List Nat}
theorem c3u {a b:List (Nat×Bool)} (h:sub a b=true) (hb:L2 s b=true):L2 s a=true:=by
 refine List.all_eq_true.2 fun p hp=>List.all_eq_true.1 hb p ?_
 have:=List.all_eq_true.1 h p hp
 exact List.elem_iff.1 this
theorem b4a (U:a7o q s A gs) {ch:List (Nat×Bool)} (hv:L2 s ch=true) {x:Operand} {v:V} (h:ovA C s A ch x=some v):F3 C q.F x=some v:=by
 cases x with
 | tmp t =>
  simp only[ovA] at h
  cases hs:sub (A t) ch with
  | false=>rw[hs] at h;cases h
  | true =>
   rw[hs] at h
   simp only[cond_true,Option.some.injEq] at h
   simp only[F3,U.yes t (c3u hs hv),h]
 | const u=>exact h
 | global g=>exact h
 | func f=>simpa [F3,ovA] using h
theorem c4m {ov:Operand→Option V} (hov:∀x v,ov x=some v→F3 C q.F x=some v):∀{l:List Operand} {vs:List V},ovs ov l=some vs→N2 C q.F l=some vs
 | [],vs,h=>by simpa [ovs,N2] using h
 | x::r,vs,h=>by
  unfold ovs at h
  split at h
  ·rename_i v l hv hl
   simp at h;subst h
   unfold N2
   rw[hov x v hv,c4m hov hl]
  ·cases h
end
end Go.Ev
end
section
namespace Go.Ev
section
variable {C : Cx} {tb : Tab} {q s : St} {A : Ann} {gs : List Nat}
def Has (C:Cx) (tb:Tab):Prop:=∀K,C.ext K=match tb K with|some c=>some c.gate|none=>none
theorem e3y {c:Ct} {ds:List D} (h:c.pre ds):c.gate ds=c.f ds:=by unfold Ct.gate;rw[if_pos h]
theorem c5y (hE:Has C tb) {ov:Operand→Option V} (hov:∀x v,ov x=some v→F3 C q.F x=some v) {o:Oper} {v:V} {p:Option Prop} (h:e9q C tb ov q.H o=some (v,p)) (hp:∀P,p=some P→P)
  {y:Bool} {call:E7}:D5 C y call o q=q.put o.dst v:=by
 obtain ⟨dst,op,type,pos,after,guard⟩:=o
 unfold e9q at h
 cases op with
 | move x =>
  simp only[] at h
  cases hx:ov x with
  | none=>simp[hx] at h
  | some u=>simp[hx] at h;obtain ⟨rfl,rfl⟩:=h;simp only[D5,hov x u hx];rfl
 | assign x =>
  simp only[] at h
  cases hx:ov x with
  | none=>simp[hx] at h
  | some u=>simp[hx] at h;obtain ⟨rfl,rfl⟩:=h;simp only[D5,hov x u hx];rfl
 | load t a =>
  simp only[] at h
  cases hx:ov a with
  | none=>simp[hx] at h
  | some u =>
   simp only[hx] at h
   cases hbA:d7f C q.H t u with
   | some P =>
    simp only[hbA,Option.some.injEq,Prod.mk.injEq] at h
    obtain ⟨rfl,rfl⟩:=h
    have hP:=hp P rfl
    unfold d7f at hbA
    split at hbA
    ·rename_i n off
     split at hbA
     ·rename_i bt k hb
      split at hbA
      ·rename_i du sz hu hs
       cases ha:Z4 du with
       | true=>rw[ha] at hbA;cases hbA
       | false =>
        rw[ha] at hbA
        simp only[cond_false,Option.some.injEq] at hbA
        subst hbA
        have hlt:Nat.blt off k=true:=by simpa [Nat.blt_eq] using hP
        simp only[D5,hov a _ hx,a2f,hb,hu,hs,ha,cond_false,hlt,cond_true]
        rfl
      ·cases hbA
     ·rename_i bt bk lo hi hb
      split at hbA
      ·rename_i du sz hu hs
       cases ha:Z4 du with
       | true=>rw[ha] at hbA;cases hbA
       | false =>
        rw[ha] at hbA
        simp only[cond_false,Option.some.injEq] at hbA
        subst hbA
        have hlt:(Nat.ble lo off&&Nat.blt off hi)=true:=by simpa [Nat.blt_eq,Nat.ble_eq] using hP
        simp only[D5,hov a _ hx,a2f,hb,hu,hs,ha,cond_false,hlt,cond_true]
        rfl
      ·cases hbA
     ·cases hbA
    ·cases hbA
   | none =>
    simp only[hbA] at h
    cases hl:a2f C q.H t u with
    | none=>simp[hl] at h
    | some z=>simp[hl] at h;obtain ⟨rfl,rfl⟩:=h;simp only[D5,hov a u hx,hl];rfl
 | nilCheck x =>
  simp only[] at h
  split at h
  ·rename_i n off hx;simp at h;obtain ⟨rfl,rfl⟩:=h;simp only[D5,hov x _ hx]
  ·rename_i cs hx;simp at h;obtain ⟨rfl,rfl⟩:=h;simp only[D5,hov x _ hx]
  ·cases h
 | unOp op t x =>
  simp only[] at h
  cases hx:ov x with
  | none=>simp[hx] at h
  | some u =>
   simp only[hx] at h
   cases hl:e4d op u with
   | none=>simp[hl] at h
   | some z=>simp[hl] at h;obtain ⟨rfl,rfl⟩:=h;simp only[D5,hov x u hx,hl];rfl
 | build t parts =>
  simp only[] at h
  cases hx:b2r ov parts.toList with
  | none=>simp[hx] at h
  | some l =>
   simp only[hx] at h
   cases hl:a9u C t l with
   | none=>simp[hl] at h
   | some z=>simp[hl] at h;obtain ⟨rfl,rfl⟩:=h;simp only[D5,c4k C hov hx,hl];rfl
 | convert src d x =>
  simp only[] at h
  cases hx:ov x with
  | none=>simp[hx] at h
  | some u =>
   simp only[hx] at h
   cases hb:bytesOf C q.H src d u with
   | some xs =>
    simp only[hb,Option.some.injEq,Prod.mk.injEq] at h
    obtain ⟨rfl,rfl⟩:=h
    have hl:V4 C q.H src d u=some (.d (.lit (.string (c3i xs)))):=by
     unfold bytesOf at hb
     split at hb
     ·rename_i e h1 h2
      split at hb
      ·rename_i nl sz ys h3 h4
       cases hz:sz==1 with
       | false=>rw[hz] at hb;cases hb
       | true =>
        rw[hz] at hb
        cases hb
        unfold V4
        simp only[h1,h2,h3,h4,hz,Bool.true_or,cond_true,d8e (hp _ rfl)]
        rfl
      ·cases hb
     ·cases hb
    simp only[D5,hov x u hx,hl];rfl
   | none =>
   simp only[hb] at h
   cases hl:V4 C q.H src d u with
   | none=>simp[hl] at h
   | some z=>simp[hl] at h;obtain ⟨rfl,rfl⟩:=h;simp only[D5,hov x u hx,hl];rfl
 | fieldAddr st x f =>
  simp only[] at h
  split at h
  ·rename_i u fd hx hf
   split at h
   ·rename_i k hk
    cases hk0:(k==0) with
    | true=>simp[hk0] at h
    | false =>
     simp only[hk0,cond_false] at h
     simp only[D5,hov x u hx,hf,hk,hk0,cond_false]
     split at h
     ·simp at h;obtain ⟨rfl,rfl⟩:=h;rfl
     ·simp at h;obtain ⟨rfl,rfl⟩:=h;rfl
     ·cases h
   ·cases h
  ·cases h
 | field st x f =>
  simp only[] at h
  split at h
  ·rename_i u fd hx hf
   cases hl:b2d C fd.type fd.offset u with
   | none=>simp[hl] at h
   | some z=>simp[hl] at h;obtain ⟨rfl,rfl⟩:=h;simp only[D5,hov x u hx,hf,hl];rfl
  ·cases h
 | extract t i =>
  simp only[] at h
  split at h
  ·rename_i ds hx
   cases hi:ds[i]? with
   | none=>simp[hi] at h
   | some z=>simp[hi] at h;obtain ⟨rfl,rfl⟩:=h;simp only[D5,hov t _ hx,hi]
  ·rename_i vs hx
   cases hi:vs[i]? with
   | none=>simp[hi] at h
   | some z=>simp[hi] at h;obtain ⟨rfl,rfl⟩:=h;simp only[D5,hov t _ hx,hi]
  ·cases h
 | index t x i =>
  simp only[] at h
  split at h
  ·rename_i b k z hu hx hi
   simp at h;obtain ⟨rfl,rfl⟩:=h
   obtain ⟨h1,h2⟩:=hp _ rfl
   have hix:idx (.d (.lit (.int k z)))=some z.toNat:=by simp[idx,h1]
   simp only[D5,hov x _ hx,hov i _ hi,w4,hu,hix,c5p h2]
   rfl
  ·rename_i vx vi hx hi _
   cases hl:w4 C t vx vi with
   | none=>simp[hl] at h
   | some z=>simp[hl] at h;obtain ⟨rfl,rfl⟩:=h;simp only[D5,hov x _ hx,hov i _ hi,hl];rfl
  ·cases h
 | indexAddr t x i =>
  simp only[] at h
  split at h
  ·rename_i e vx k z hu hx hi
   split at h
   ·rename_i nl sz xs zz hs hz
    cases hzz:(sz==zz) with
    | false=>simp[hzz] at h
    | true =>
     simp only[hzz,cond_true,Option.some.injEq,Prod.mk.injEq] at h
     obtain ⟨rfl,rfl⟩:=h
     obtain ⟨h1,h2,h3⟩:=hp _ rfl
     have hix:idx (.d (.lit (.int k z)))=some z.toNat:=by simp[idx,h1]
     have hg:xs[z.toNat]?=some (xs.getD z.toNat .any):=by rw[List.getElem?_eq_getElem h2,List.getD_eq_getElem?_getD,List.getElem?_eq_getElem h2];rfl
     simp only[D5,hov x _ hx,hov i _ hi,J4,hu,hix,hs,hz,hg,hzz,cond_true]
     rw[h3]
     rfl
   ·cases h
  ·rename_i n e m off k z hu hx hi
   split at h
   ·rename_i sz hsz
    simp only[Option.some.injEq,Prod.mk.injEq] at h
    obtain ⟨rfl,rfl⟩:=h
    obtain ⟨h1,h2⟩:=hp _ rfl
    have hix:idx (.d (.lit (.int k z)))=some z.toNat:=by simp[idx,h1]
    simp only[D5,hov x _ hx,hov i _ hi,J4,hu,hix,hsz,h2,if_true]
    rfl
   ·cases h
  ·rename_i vx vi hx hi _ _
   cases hl:J4 C q.H t vx vi with
   | none=>simp[hl] at h
   | some z=>simp[hl] at h;obtain ⟨rfl,rfl⟩:=h;simp only[D5,hov x _ hx,hov i _ hi,hl];rfl
  ·cases h
 | slice t x lo hi mx =>
  cases mx with
  | some m=>simp only[] at h;cases h
  | none =>
   simp only[] at h
   split at h
   ·rename_i b lo' hi' hu hx hlo hhi
    have e1:a3v C q.F lo=some lo':=by
     cases lo with
     | none=>simpa [a3v] using hlo
     | some l =>
      simp only[] at hlo
      cases hl:ov l with
      | none=>simp[hl] at hlo
      | some vl=>simp[hl] at hlo;subst hlo;simp[a3v,hov l vl hl]
    have e2:a3v C q.F hi=some hi':=by
     cases hi with
     | none=>simpa [a3v] using hhi
     | some l =>
      simp only[] at hhi
      cases hl:ov l with
      | none=>simp[hl] at hhi
      | some vl=>simp[hl] at hhi;subst hhi;simp[a3v,hov l vl hl]
    simp only[D5,hov x _ hx,e1,e2,W4,hu]
    split at h
    ·simp at h;obtain ⟨rfl,rfl⟩:=h
     simp[a3q,asV]
    ·rename_i k l
     simp only[Option.some.injEq,Prod.mk.injEq] at h;obtain ⟨rfl,rfl⟩:=h
     obtain ⟨h1,h2⟩:=hp _ rfl
     simp[a3q,idx,h1,h2,asV]
    ·rename_i k l
     simp only[Option.some.injEq,Prod.mk.injEq] at h;obtain ⟨rfl,rfl⟩:=h
     obtain ⟨h1,h2⟩:=hp _ rfl
     simp[a3q,idx,h1,h2,asV]
    ·rename_i k l k' l'
     simp only[Option.some.injEq,Prod.mk.injEq] at h;obtain ⟨rfl,rfl⟩:=h
     obtain ⟨h1,h2,h3,h4⟩:=hp _ rfl
     simp only[a3q,idx,h1,h2,h3,h4,asV,if_true]
    ·cases h
   ·cases h
 | binOp op t x z zt =>
  simp only[] at h
  split at h
  ·rename_i k a k' b hx hz
   have hnn:(a2h (.d (.lit (.int k a)))&&a2h (.d (.lit (.int k' b)))&& !(Region.isConst x||Region.isConst z))=false:=rfl
   simp only[D5,hov x _ hx,hov z _ hz,hnn,cond_false]
   split at h
   ·simp only[Option.some.injEq,Prod.mk.injEq] at h;obtain ⟨rfl,rfl⟩:=h
    obtain ⟨h1,h2⟩:=hp _ rfl
    simp[o3,b5n,h1,h2,asV]
   ·simp only[Option.some.injEq,Prod.mk.injEq] at h;obtain ⟨rfl,rfl⟩:=h
    obtain ⟨h1,h2⟩:=hp _ rfl
    simp[o3,b5n,h1,h2,asV]
   ·split at h
    ·rename_i u hu;simp at h;obtain ⟨rfl,rfl⟩:=h;rw[hu];rfl
    ·cases h
  ·rename_i a b hx hz
   have hnn:(a2h (C9 a)&&a2h (C9 b)&& !(Region.isConst x||Region.isConst z))=false:=rfl
   simp only[D5,hov x _ hx,hov z _ hz,hnn,cond_false]
   split at h
   ·simp only[Option.some.injEq,Prod.mk.injEq] at h;obtain ⟨rfl,rfl⟩:=h
    have h1:=hp _ rfl
    have hm:IntKind.i64.max=9223372036854775807:=by rfl
    have:¬(((a.size+b.size:Nat):Int)>IntKind.i64.max):=by rw[hm];omega
    simp only[o3,c6a,if_neg this,asV]
   ·split at h
    ·rename_i u hu;simp at h;obtain ⟨rfl,rfl⟩:=h;rw[hu];rfl
    ·cases h
  ·rename_i vx vz _ _ hx hz
   cases hn:(a2h vx&&a2h vz&& !(Region.isConst x||Region.isConst z)) with
   | true=>rw[hn] at h;cases h
   | false =>
    simp only[hn,cond_false] at h
    split at h
    ·rename_i u hu;simp at h;obtain ⟨rfl,rfl⟩:=h;simp only[D5,hov x _ hx,hov z _ hz,hn,cond_false,hu];rfl
    ·cases h
  ·cases h
 | call cl =>
  obtain ⟨callee,cargs,tys⟩:=cl
  simp only[] at h
  split at h
  ·cases h
  ·rename_i args ha
   have ha':=c4m hov ha
   split at h
   ·split at h
    ·rename_i t x ht
     split at h
     ·rename_i u hu;simp at h;obtain ⟨rfl,rfl⟩:=h
      simp only[D5,ha',ht,hu];rfl
     ·cases h
    ·cases h
   ·split at h
    ·rename_i u hu;simp at h;obtain ⟨rfl,rfl⟩:=h;simp only[D5,ha',hu];rfl
    ·cases h
   ·split at h
    ·rename_i u hu;simp at h;obtain ⟨rfl,rfl⟩:=h;simp only[D5,ha',hu];rfl
    ·cases h
   ·rename_i f
    split at h
    ·rename_i K first cap hf
     split at h
     ·rename_i ct ds hct hds
      split at h
      ·rename_i r hr
       simp only[Option.some.injEq,Prod.mk.injEq] at h;obtain ⟨rfl,rfl⟩:=h
       have hpre:=hp _ rfl
       have hext:C.ext K=some ct.gate:=by rw[hE K,hct]
       simp only[D5,ha',hov f _ hf,L3,hext,hds,e3y hpre,hr]
      ·cases h
     ·cases h
    ·cases h
   ·cases h
 | _=>simp only[] at h;cases h
theorem e6i {c a b v:V} {p:Option Prop} (h:e6j c a b=some (v,p)):∃t,c=A9 t∧((∀P,p=some P→P)→v=(bif t then a else b)):=by
 unfold e6j at h
 split at h
 ·rename_i t
  refine ⟨t,rfl,fun hp=>?_⟩
  split at h
  ·cases h;cases t<;>rfl
  ·rename_i k x k' y
   by_cases e:k=k'
   ·subst e;simp at h;obtain ⟨rfl,rfl⟩:=h;cases t<;>rfl
   ·simp[e] at h
  ·simp only[Option.some.injEq,Prod.mk.injEq] at h
   obtain ⟨rfl,rfl⟩:=h
   have:=hp _ rfl
   subst this;rfl
  ·simp only[Option.some.injEq,Prod.mk.injEq] at h
   obtain ⟨rfl,rfl⟩:=h
   have:=hp _ rfl
   subst this;rfl
  ·cases t with
   | true=>simp at h;exact h.1.symm
   | false=>simp at h;exact h.1.symm
 ·cases h
theorem c6r {s:St} {ch:List (Nat×Bool)} {p:Option Prop} {k:Prop} (h:e6p s ch (L2 s) p k):k∧(L2 s ch=true→∀P,p=some P→P):=by
 unfold e6p at h
 split at h
 ·exact ⟨h,fun _ P hP=>by cases hP⟩
 ·split at h
  ·exact ⟨h.2,fun _ P hP=>by cases hP;exact h.1⟩
  ·exact ⟨h.2,fun hv P hP=>by cases hP;exact h.1 hv⟩
theorem a9f {d:Nat} {v:V} {ch:List (Nat×Bool)} (h:∀p∈ch,p.1≠d):L2 ⟨s.N,upd s.F d v,s.H⟩ ch=L2 s ch:=by
 unfold L2
 induction ch with
 | nil=>rfl
 | cons p r ih =>
  have hp:(p.1==d)=false:=by simpa using h p (by simp)
  simp only[List.all_cons,upd,hp,cond_false]
  congr 1
  exact ih fun x hx=>h x (by simp[hx])
theorem c5x (U:a7o q s A gs) {ops:Array Oper} {o:Oper} {ch:List (Nat×Bool)} (hc:c7z ops A o=some ch) (hs:ch.all (fun p=>b8m (s.F p.1))=true):J6 ops o q.F=some (L2 s ch):=by
 unfold c7z at hc
 unfold J6
 cases hg:o.guard with
 | none=>simp only[hg] at hc;cases hc;rfl
 | some p =>
  obtain ⟨j,want⟩:=p
  simp only[hg] at hc ⊢
  cases hd:(ops[j]?).bind (·.dst) with
  | none=>simp only[hd] at hc;cases hc
  | some d =>
   simp only[hd,Option.some.injEq] at hc ⊢
   subst hc
   have h1:b8m (s.F d)=true:=List.all_eq_true.1 hs (d,want) (by simp)
   unfold b8m at h1
   split at h1
   ·rename_i b hb
    cases hv:L2 s (A d) with
    | true =>
     rw[U.yes d hv,hb]
     have:L2 s ((d,want)::A d)=(b==want):=by
      unfold L2 at hv ⊢
      rw[List.all_cons,hv,Bool.and_true]
      simp only[hb,isB]
      cases want<;>cases b<;>rfl
     rw[this]
    | false =>
     rw[U.no d hv]
     have:L2 s ((d,want)::A d)=false:=by
      unfold L2 at hv ⊢
      rw[List.all_cons,hv,Bool.and_false]
     rw[this]
   ·cases h1
theorem c3v (U:a7o q s A gs) {d:Nat} {v u:V} {ch:List (Nat×Bool)} {gs':List Nat} (hgs:∀x,x∈gs→x∈gs') (hch:∀p∈ch,p.1∈gs') (hd:d ∉ gs) (hdc:∀p∈ch,p.1≠d)
  (h1:L2 s ch=true→u=v) (h2:L2 s ch=false→u=K9):a7o ⟨q.N,upd q.F d u,q.H⟩ ⟨s.N,upd s.F d v,s.H⟩ (a4y A d ch) gs':=by
 have hA:∀t,t≠d→∀p∈A t,p.1≠d:=fun t _ p hp e=>hd (by rw[←e];exact U.has t p hp)
 refine ⟨U.N,U.H,fun t ht=>?_,fun t ht=>?_,fun t p hp=>?_⟩
 ·by_cases e:t=d
  ·subst e
   simp only[a4y,beq_self_eq_true,cond_true] at ht
   rw[a9f hdc] at ht
   simp[upd,h1 ht]
  ·have:(t==d)=false:=by simpa using e
   simp only[a4y,this,cond_false] at ht
   rw[a9f (hA t e)] at ht
   simp only[upd,this,cond_false]
   exact U.yes t ht
 ·by_cases e:t=d
  ·subst e
   simp only[a4y,beq_self_eq_true,cond_true] at ht
   rw[a9f hdc] at ht
   simp[upd,h2 ht]
  ·have:(t==d)=false:=by simpa using e
   simp only[a4y,this,cond_false] at ht
   rw[a9f (hA t e)] at ht
   simp only[upd,this,cond_false]
   exact U.no t ht
 ·by_cases e:t=d
  ·subst e
   simp only[a4y,beq_self_eq_true,cond_true] at hp
   exact hch p hp
  ·have:(t==d)=false:=by simpa using e
   simp only[a4y,this,cond_false] at hp
   exact hgs _ (U.has t p hp)
theorem c9j {d:Nat} {v:V} (h:Nat.blt d q.N=true):q.put (some d) v=some ⟨q.N,upd q.F d v,q.H⟩:=by simp[St.put,h]
theorem a6h (hE:Has C tb) {y:Bool} {call:E7} {ops:Array Oper} {K:St→Prop}:∀{l:List Oper} {q s:St} {A:Ann} {gs:List Nat},a7o q s A gs→b2c C tb ops l s A gs K→
  ∃q' s' A' gs',P0 C y call ops l q=some q'∧a7o q' s' A' gs'∧K (a2n s' A')
 | [],q,s,A,gs,U,h=>⟨q,s,A,gs,rfl,U,h⟩
 | o::rest,q,s,A,gs,U,h=>by
  unfold b2c at h
  split at h
  case h_2=>exact h.elim
  rename_i ch d hch hd
  cases hc:(ch.all (fun p=>b8m (s.F p.1))&&Nat.blt d s.N&& !(gs.contains d)&& !(ch.any fun p=>p.1==d)) with
  | false=>rw[hc] at h;exact h.elim
  | true =>
   rw[hc] at h
   simp only[cond_true] at h
   simp only[Bool.and_eq_true,Bool.not_eq_true'] at hc
   obtain ⟨⟨⟨c1,c2⟩,c3⟩,c4⟩:=hc
   have hdg:d ∉ gs:=fun hm=>by
    have:gs.contains d=true:=by simpa using hm
    rw[this] at c3;cases c3
   have hdc:∀p∈ch,p.1≠d:=fun p hp e=>by
    have:(ch.any fun p=>p.1==d)=true:=List.any_eq_true.2 ⟨p,hp,by simpa using e⟩
    rw[this] at c4;cases c4
   have hw:=c5x U hch c1
   have hqN:Nat.blt d q.N=true:=by rw[U.N];exact c2
   
   have step:∀(v:V) (gs':List Nat),(∀x,x∈gs→x∈gs')→(∀p∈ch,p.1∈gs')→(L2 s ch=true→D5 C y call o q=q.put o.dst v)→
     b2c C tb ops rest ⟨s.N,upd s.F d v,s.H⟩ (a4y A d ch) gs' K→
     ∃q' s' A' gs',P0 C y call ops (o::rest) q=some q'∧a7o q' s' A' gs'∧K (a2n s' A'):=by
    intro v gs' hg1 hg2 hev hr
    cases hv:L2 s ch with
    | true =>
     have hev:=hev hv
     rw[hd,c9j hqN] at hev
     obtain ⟨q',s',A',gs2,e1,e2,e3⟩:=a6h hE (c3v U (v:=v) (u:=v) (ch:=ch) (gs':=gs') hg1 hg2 hdg hdc (fun _=>rfl) (fun h=>by rw[hv] at h;cases h)) hr
     refine ⟨q',s',A',gs2, ?_,e2,e3⟩
     unfold P0
     rw[hw,hv]
     simp only[hev]
     exact e1
    | false =>
     obtain ⟨q',s',A',gs2,e1,e2,e3⟩:=a6h hE (c3v U (v:=v) (u:=K9) (ch:=ch) (gs':=gs') hg1 hg2 hdg hdc (fun h=>by rw[hv] at h;cases h) (fun _=>rfl)) hr
     refine ⟨q',s',A',gs2, ?_,e2,e3⟩
     unfold P0
     rw[hw,hv]
     simp only[hd,c9j hqN]
     exact e1
   have sub1:∀x,x∈gs→x∈ch.map (·.1)++gs:=fun x hx=>by simp[hx]
   have sub2:∀p∈ch,p.1∈ch.map (·.1)++gs:=fun p hp=>List.mem_append_left _ (List.mem_map.2 ⟨p,hp,rfl⟩)
   split at h
   ·rename_i cs a b hop
    split at h
    case h_2=>exact h.elim
    rename_i vc va vb hvc hva hvb
    split at h
    case h_2=>exact h.elim
    rename_i v pp hpv
    cases hcd:(cs==d) with
    | true=>rw[hcd] at h;exact h.elim
    | false =>
     rw[hcd] at h
     simp only[cond_false] at h
     obtain ⟨h,hpp⟩:=c6r h
     obtain ⟨t,rfl,hvt⟩:=e6i hpv
     refine step _ _ (fun x hx=>by simp[hx]) (fun p hp=>List.mem_cons_of_mem _ (List.mem_append_left _ (List.mem_map.2 ⟨p,hp,rfl⟩))) (fun hv=>?_) h
     have hcv:=b4a U hv hvc
     
     have hsc:s.F cs=A9 t∧L2 s (A cs)=true:=by
      simp only[ovA] at hvc
      cases hs:sub (A cs) ch with
      | false=>rw[hs] at hvc;cases hvc
      | true=>rw[hs] at hvc;simp only[cond_true,Option.some.injEq] at hvc;exact ⟨hvc,c3u hs hv⟩
     have hx:∀w:Bool,t=w→L2 s ((cs,w)::(A cs++ch))=true:=fun w hw=>by
      unfold L2 at hv hsc ⊢
      rw[List.all_cons,List.all_append,hv,hsc.2,Bool.and_true,Bool.and_true]
      simp only[hsc.1,isB,hw]
      cases w<;>rfl
     obtain ⟨dst,op,type,pos,after,guard⟩:=o
     simp only at hop
     subst hop
     have hvt:=hvt (hpp hv)
     subst hvt
     simp only[D5,hcv]
     cases t with
     | true=>simp only[cond_true];rw[b4a U (hx true rfl) hva];rfl
     | false=>simp only[cond_false];rw[b4a U (hx false rfl) hvb];rfl
   ·split at h
    ·rename_i v p hval
     obtain ⟨h,hpp⟩:=c6r h
     refine step v _ sub1 sub2 (fun hv=>?_) h
     refine c5y hE (ov:=ovA C s A ch) (fun x u hx=>b4a U hv hx) (p:=p) ?_ (hpp hv)
     rw[U.H];exact hval
    ·split at h
     ·exact h.elim
     ·obtain ⟨h,hpp⟩:=c6r h
      exact step .any _ sub1 sub2 (fun hv=>(hpp hv _ rfl).elim) h
end
end Go.Ev
end
section
namespace Go.Ev
structure Sm where
 pre:List V→List Box→Prop
 f:List V→List Box→Option (Bool×(V×List Box×List Box)×(V×List Box×List Box))
def one (r:V) (bs news:List Box):Option (Bool×(V×List Box×List Box)×(V×List Box×List Box)):=some (true,(r,bs,news),(r,bs,news))
abbrev Y7:=FuncId→Option Sm
def c9i (H:B4):Nat→List B2→List B2→Option (List B2)
 | 0,_,_=>none
 | _+1,acc, []=>some acc
 | n+1,acc,x::todo=>bif acc.contains x then c9i H n acc todo else match H x with
  | some b=>c9i H n (acc++ [x]) (todo++o6 b)
  | none=>none
def V6:Nat→List B2→List (B2×B2)
 | _, []=>[]
 | i,n::r=>([0,i],n)::V6 (i+1) r
def F9 (k:Nat):List B2:=(List.range k).map fun i=>[0,i]
def K0 (k:Nat):List B2:=(List.range k).map fun i=>[i+2]
def a6e (l:List (B2×B2)):List (B2×B2):=l.map fun p=>(p.2,p.1)
def L5 (bs:List Box):B4:=ofL (N8 (F9 bs.length) bs)
def Y4 (bs news:List Box):B4:=ofL (N8 (F9 bs.length) bs++N8 (K0 news.length) news)
def a5h (H:B4) (l:List (B2×Box)):B4:=fun n=>match ofL l n with|some b=>some b|none=>H n
def c8w (H:B4) (l:List B2) (r:V×List Box×List Box):V×B4 :=
 (r.1.ren (K2 (a6e (V6 0 l))),a5h H (N8 l (r.2.1.map (·.ren (K2 (a6e (V6 0 l)))))++N8 (K0 r.2.2.length) (r.2.2.map (·.ren (K2 (a6e (V6 0 l)))))))
def d8h (tb:Y7) (K:FuncId) (args:List V) (H:B4):Option (Prop×Bool×(V×B4)×(V×B4)):=match tb K with
 | none=>none
 | some S=>match c9i H 200 [] (J1 args) with
  | none=>none
  | some l=>match p8 H (V6 0 l) with
   | none=>none
   | some bs=>bif Q4 l&&(l.all Y3&&(a8u l (J1 args)&&bs.all (fun b=>a8u l (o6 b)))) then
     (match S.f (a2b (K2 (V6 0 l)) args) (bs.map (·.ren (K2 (V6 0 l)))) with
     | some (c,x,y)=>bif x.2.1.length==bs.length&&y.2.1.length==bs.length then
       some (S.pre (a2b (K2 (V6 0 l)) args) (bs.map (·.ren (K2 (V6 0 l)))),c,c8w H l x,c8w H l y)
      else none
     | none=>none)
    else none
noncomputable def b4y (tb:Y7):E7:=fun K args H=>open Classical in match d8h tb K args H with
 | some (p,c,x,y)=>if p then some (bif c then x else y) else none
 | none=>none
def S6 (C:Cx) (tb:Y7):Prop:=∀K f vals bs c x y,tb K=some f→f.pre vals bs→f.f vals bs=some (c,x,y)→
 Q0 C.P K∧V8 C K vals (L5 bs) fun r' H'=>r'=(bif c then x else y).1∧H'=Y4 (bif c then x else y).2.1 (bif c then x else y).2.2
section
variable {C : Cx} {w w' : World} {g g1 : G} {H H1 : B4}
theorem c2u:∀(i:Nat) (l:List B2),(V6 i l).map (·.2)=l
 | _, []=>rfl
 | i,n::r=>by simp[V6,c2u (i+1) r]
theorem c2v:∀(i:Nat) (l:List B2),(V6 i l).map (·.1)=(List.range l.length).map fun j=>[0,i+j]
 | _, []=>rfl
 | i,n::r=>by
  simp only[V6,List.map_cons,c2v (i+1) r,List.length_cons,List.range_succ_eq_map,List.map_map]
  congr 1
  apply List.map_congr_left
  intro j _
  simp only[Function.comp_apply]
  congr 2
  omega
theorem nodup_range (i:Nat):∀(k:Nat),Q4 ((List.range k).map fun j=>[0,i+j])=true:=by
 intro k
 have key:∀(l:List Nat),l.Nodup→Q4 (l.map fun j=>[0,i+j])=true:=by
  intro l
  induction l with
  | nil=>intro _;rfl
  | cons a r ih =>
   intro h
   have h1:=List.nodup_cons.1 h
   simp only[List.map_cons,Q4,Bool.and_eq_true,Bool.not_eq_true']
   refine ⟨?_,ih h1.2⟩
   cases hc:(r.map fun j=>[0,i+j]).contains [0,i+a] with
   | false=>rfl
   | true =>
    exfalso
    have: [0,i+a]∈r.map fun j=>[0,i+j]:=List.elem_iff.1 hc
    obtain ⟨b,hb,he⟩:=List.mem_map.1 this
    simp at he
    exact h1.1 (he▸hb)
 exact key _ List.nodup_range
theorem e8g {ns:List (B2×B2)} {b0:List Box} (hH:K7 w g H) (hb0:p8 H ns=some b0) (c1:Q4 (ns.map (·.1))=true) (c2:Q4 (ns.map (·.2))=true) (c5:b0.all (fun b=>a8u (ns.map (·.2)) (o6 b))=true) :
  ∃g2:G,K7 w g2 (ofL (a7t ns (b0.map (·.ren (K2 ns)))))∧(∀v u,(∀n∈v.names,n∈ns.map (·.2))→D9 w g H v u→D9 w g2 (ofL (a7t ns (b0.map (·.ren (K2 ns))))) (v.ren (K2 ns)) u)∧g2.lim=g.lim∧
   (∀b,g.owner b=none→g2.owner b=none)∧(∀b n,g.owner b=some n→n ∉ ns.map (·.2)→g2.owner b=none)∧(∀p∈ns,g2.val p.1=g.val p.2∧kd (ofL (a7t ns (b0.map (·.ren (K2 ns))))) p.1=kd H p.2):=by
 obtain ⟨hlen,hat⟩:=a2q hb0
 let olds:=ns.map (·.2)
 let H1:B4:=fun n=>bif olds.contains n then H n else none
 let g1:G:=⟨g.val,g.lim,fun b=>match g.owner b with|some n=>(bif olds.contains n then some n else none)|none=>none⟩
 have hin:∀n,n∈olds→olds.contains n=true:=fun n hn=>by simpa using hn
 have hkd:∀n,n∈olds→kd H1 n=kd H n:=fun n hn=>by simp only[kd,H1,hin n hn,cond_true]
 have hold:∀n,n∈olds→∃(i:Nat) (p:B2×B2) (b:Box),ns[i]?=some p∧b0[i]?=some b∧p.2=n∧H n=some b:=fun n hn=>by
  obtain ⟨p,hp,rfl⟩:=List.mem_map.1 hn
  obtain ⟨i,hi⟩:=List.getElem?_of_mem hp
  have hlt:i<b0.length:=by rw[hlen];exact (List.getElem?_eq_some_iff.1 hi).1
  exact ⟨i,p,b0[i],hi,by simp[hlt],rfl,hat i p _ hi (by simp[hlt])⟩
 have hbn:∀n b,n∈olds→H n=some b→∀m∈o6 b,m∈olds:=fun n b hn hb m hm=>by
  obtain ⟨i,p,b',h1,h2,h3,h4⟩:=hold n hn
  rw[hb] at h4;cases h4
  have:=List.all_eq_true.1 c5 b (List.mem_of_getElem? h2)
  have:=List.all_eq_true.1 this m hm
  exact List.elem_iff.1 this
 have hH1:K7 w g1 H1:=by
  refine ⟨fun n b hb=>?_,fun b hb=>?_⟩
  ·simp only[H1] at hb
   cases hc:olds.contains n with
   | false=>rw[hc] at hb;cases hb
   | true =>
    rw[hc] at hb
    simp only[cond_true] at hb
    have hn:n∈olds:=by simpa using hc
    exact (hH.box n b hb).loc (g:=g) (g1:=g1) (H1:=H1) rfl rfl (fun b' hb'=>by simp only[g1,hb',hc,cond_true]) fun m hm=>hkd m (hbn n b hn hb m hm)
  ·have:=hH.fresh b hb
   exact ⟨this.1,by simp only[g1,this.2]⟩
 have hinv1:∀n m,X1 ns n=some m→K2 ns m=n:=fun n m h=>f7 c2 (u4 h)
 have hinv2:∀n,(H1 n).isSome→X1 ns (K2 ns n)=some n:=fun n hn=>by
  simp only[H1] at hn
  cases hc:olds.contains n with
  | false=>rw[hc] at hn;cases hn
  | true =>
   have hm:n∈olds:=by simpa using hc
   obtain ⟨p,hp,rfl⟩:=List.mem_map.1 hm
   rw[f7 (a:=p.1) c2 hp]
   exact a9o c1 hp
 obtain ⟨r1,r2⟩:=b5c (f:=K2 ns) (inv:=X1 ns) hinv1 hinv2 hH1
 have hz3:ofL (a7t ns (b0.map (·.ren (K2 ns))))=(H1.ren (K2 ns) (X1 ns)):=by
  funext n
  rw[b7k hb0]
  unfold B4.ren
  cases hi:X1 ns n with
  | none=>rfl
  | some m =>
   have hm:m∈olds:=List.mem_map.2 ⟨(n,m),u4 hi,rfl⟩
   simp only[H1,hin m hm,cond_true]
   cases H m<;>rfl
 rw[hz3]
 refine ⟨_,r2,fun v u hn hr=>?_,rfl,fun b hb=>?_,fun b n hb hn=>?_,fun p hp=>?_⟩
 ·have h1:D9 w g1 H1 v u:=hr.loc (g:=g) (g1:=g1) rfl rfl fun n hm=>hkd n (hn n hm)
  exact h1.ren (g:=g1) (g':=g1.ren (K2 ns) (X1 ns)) (.refl _ _) r1
 ·simp only[G.ren,g1,hb,Option.map_none]
 ·have:olds.contains n=false:=by
   cases hc:olds.contains n with
   | false=>rfl
   | true=>exact absurd (List.elem_iff.1 hc) hn
  simp only[G.ren,g1,hb,this,cond_false,Option.map_none]
 ·have hi:=a9o (a:=p.1) (b:=p.2) c1 hp
  refine ⟨by simp only[G.ren,hi];rfl, ?_⟩
  rw[e7b hi]
  exact hkd p.2 (List.mem_map.2 ⟨p,hp,rfl⟩)
theorem b7y:∀(ns:List (B2×B2)) (bs:List Box),a7t ns bs=N8 (ns.map (·.1)) bs
 | [],_=>rfl
 | p::r, []=>rfl
 | p::r,b::l=>by simp only[a7t,List.map_cons,N8,b7y r l]
theorem g9:∀{nm:List B2} {bs:List Box} {n:B2} {b:Box},ofL (N8 nm bs) n=some b→∃i:Nat,nm[i]?=some n∧bs[i]?=some b
 | [],bs,n,b,h=>by simp[N8,ofL] at h
 | m::r, [],n,b,h=>by simp[N8,ofL] at h
 | m::r,c::l,n,b,h=>by
  simp only[N8,ofL] at h
  by_cases e:n=m
  ·subst e;simp at h;subst h;exact ⟨0,by simp,by simp⟩
  ·have:(n==m)=false:=by simpa using e
   rw[this] at h
   obtain ⟨i,h1,h2⟩:=g9 h
   exact ⟨i+1,by simpa using h1,by simpa using h2⟩
theorem f8:∀{nm:List B2} {bs:List Box} {n:B2} {b:Box} {i:Nat},Q4 nm=true→nm[i]?=some n→bs[i]?=some b→ofL (N8 nm bs) n=some b
 | [],bs,n,b,i,_,h,_=>by simp at h
 | m::r, [],n,b,i,_,_,h=>by simp at h
 | m::r,c::l,n,b,i,hd,h1,h2=>by
  obtain ⟨k1,k2⟩:=a8n hd
  simp only[N8,ofL]
  cases i with
  | zero=>simp at h1 h2;subst h1 h2;simp
  | succ i =>
   have h1':r[i]?=some n:=by simpa using h1
   have:n≠m:=fun e=>k1 (by subst e;exact List.mem_of_getElem? h1')
   have:(n==m)=false:=by simpa using this
   rw[this]
   exact f8 k2 h1' (by simpa using h2)
theorem X6 {nm:List B2} {bs:List Box} {n:B2} (h:n ∉ nm):ofL (N8 nm bs) n=none:=by
 cases hx:ofL (N8 nm bs) n with
 | none=>rfl
 | some b =>
  obtain ⟨i,h1,_⟩:=g9 hx
  exact absurd (List.mem_of_getElem? h1) h
theorem c3y (l:List (B2×B2)):(a6e l).map (·.1)=l.map (·.2):=by simp[a6e]
theorem c3x (l:List (B2×B2)):(a6e l).map (·.2)=l.map (·.1):=by simp[a6e]
theorem c9f:∀{ns:List (B2×B2)} {n:B2},n ∉ ns.map (·.2)→K2 ns n=n
 | [],n,_=>rfl
 | (a,b)::r,n,h=>by
  simp only[List.map_cons,List.mem_cons,not_or] at h
  have:(n==b)=false:=by simpa using h.1
  unfold K2
  rw[this]
  exact c9f h.2
theorem d6c (l:List B2):(V6 0 l).map (·.1)=F9 l.length:=by
 rw[c2v];unfold F9
 apply List.map_congr_left
 intro j _
 simp
structure CS where
 call:E7
 cq:FuncId→List V→B4→Option (Prop×Bool×(V×B4)×(V×B4))
 ok:∀K args H p c x y,cq K args H=some (p,c,x,y)→p→call K args H=some (bif c then x else y)
noncomputable def L6 (tb:Y7):CS:=⟨b4y tb,d8h tb,fun K args H p c x y h hp=>by unfold b4y;rw[h];simp[hp]⟩
def D4:CS:=⟨fun _ _ _=>none,fun _ _ _=>none,fun K args H p c x y h=>by cases h⟩
theorem b3o {tb:Y7} (hs:S6 C tb):X2 C (b4y tb):=by
 intro K args H r H' h
 unfold b4y at h
 split at h
 case h_2=>cases h
 rename_i P sel x y hrun
 split at h
 case isFalse=>cases h
 rename_i hP
 simp only[Option.some.injEq] at h
 have hres:=h
 have h:=hrun
 unfold d8h at h
 split at h
 case h_1=>cases h
 rename_i f hf
 split at h
 case h_1=>cases h
 rename_i l hl
 split at h
 case h_1=>cases h
 rename_i b0 hb0
 cases hc:(Q4 l&&(l.all Y3&&(a8u l (J1 args)&&b0.all (fun b=>a8u l (o6 b))))) with
 | false=>rw[hc] at h;cases h
 | true =>
  rw[hc] at h
  simp only[cond_true] at h
  simp only[Bool.and_eq_true] at hc
  obtain ⟨d1,d2,d3,d4⟩:=hc
  split at h
  case h_2=>cases h
  rename_i c0 x0 y0 hfr
  cases hle:(x0.2.1.length==b0.length&&y0.2.1.length==b0.length) with
  | false=>rw[hle] at h;cases h
  | true =>
   rw[hle] at h
   simp only[cond_true,Option.some.injEq,Prod.mk.injEq] at h
   obtain ⟨rfl,rfl,rfl,rfl⟩:=h
   obtain ⟨hen,hsq⟩:=hs K f _ _ c0 x0 y0 hf hP hfr
   simp only[Bool.and_eq_true,beq_iff_eq] at hle
   have hres:c8w H l (bif c0 then x0 else y0)=(r,H'):=by rw[←hres];cases c0<;>rfl
   have hle:(bif c0 then x0 else y0).2.1.length=b0.length:=by cases c0 with|true=>exact hle.1|false=>exact hle.2
   generalize (bif c0 then x0 else y0)=res at hres hle hsq
   obtain ⟨r0,bs',news⟩:=res
   have hle:bs'.length=b0.length:=hle
   have hsq:V8 C K (a2b (K2 (V6 0 l)) args) (L5 (b0.map (·.ren (K2 (V6 0 l))))) fun r' H'=>r'=r0∧H'=Y4 bs' news:=hsq
   unfold c8w at hres
   simp only[Prod.mk.injEq] at hres
   obtain ⟨rfl,rfl⟩:=hres
   let ns:=V6 0 l
   have m1:ns.map (·.1)=F9 l.length:=d6c l
   have m2:ns.map (·.2)=l:=c2u 0 l
   have c1:Q4 (ns.map (·.1))=true:=by rw[m1];have:=nodup_range 0 l.length;simpa [F9] using this
   have c2:Q4 (ns.map (·.2))=true:=by rw[m2];exact d1
   have hbl:b0.length=l.length:=by
    have:=(a2q hb0).1
    rw[this]
    have:=congrArg List.length m2
    simpa using this
   have hlz:∀n∈l,∃m,n=0::m:=fun n hn=>by
    have:=List.all_eq_true.1 d2 n hn
    unfold Y3 at this
    split at this
    ·exact ⟨_,rfl⟩
    ·cases this
   have hnn:∀n∈K0 news.length,∃i:Nat,i<news.length∧n= [i+2]:=fun n hn=>by
    obtain ⟨i,hi,rfl⟩:=List.mem_map.1 hn
    exact ⟨i,List.mem_range.1 hi,rfl⟩
   have hnew_l:∀n∈K0 news.length,n ∉ l:=fun n hn hm=>by
    obtain ⟨i,_,rfl⟩:=hnn n hn
    obtain ⟨m,hm⟩:=hlz _ hm
    simp at hm
   have hnew_in:∀n∈K0 news.length,n ∉ F9 l.length:=fun n hn hm=>by
    obtain ⟨i,_,rfl⟩:=hnn n hn
    obtain ⟨j,_,hj⟩:=List.mem_map.1 hm
    simp at hj
   have hnewD:Q4 (K0 news.length)=true:=by
    have key:∀(q:List Nat),q.Nodup→Q4 (q.map fun j=>[j+2])=true:=by
     intro q
     induction q with
     | nil=>intro _;rfl
     | cons a r ih =>
      intro h
      have h1:=List.nodup_cons.1 h
      simp only[List.map_cons,Q4,Bool.and_eq_true,Bool.not_eq_true']
      refine ⟨?_,ih h1.2⟩
      cases hc:(r.map fun j=>[j+2]).contains [a+2] with
      | false=>rfl
      | true =>
       exfalso
       have: [a+2]∈r.map fun j=>[j+2]:=List.elem_iff.1 hc
       obtain ⟨b,hb,he⟩:=List.mem_map.1 this
       simp at he
       exact h1.1 (he▸hb)
    exact key _ List.nodup_range
   refine ⟨hen, ?_, ?_⟩
   ·intro w g vs hH hG hr hz
    obtain ⟨g2,e1,e2,e3,e4,e5,e6⟩:=e8g hH hb0 c1 c2 (by rw[m2];exact d4)
    have hH0:ofL (a7t ns (b0.map (·.ren (K2 ns))))=L5 (b0.map (·.ren (K2 ns))):=by
     unfold L5
     rw[b7y,m1]
     simp[hbl]
    rw[hH0] at e1 e2 e6
    have hargs:E0 w g2 (L5 (b0.map (·.ren (K2 ns)))) (a2b (K2 ns) args) vs.toList:=by
     have key:∀(a:List V) (u:List Value),(∀n∈J1 a,n∈l)→E0 w g H a u→E0 w g2 (L5 (b0.map (·.ren (K2 ns)))) (a2b (K2 ns) a) u:=by
      intro a
      induction a with
      | nil=>intro u _ h;cases h;exact .nil
      | cons v a ih =>
       intro u hn h
       cases h with
       | cons h t=>exact .cons (e2 v _ (fun n hm=>by rw[m2];exact hn n (by simp[J1,hm])) h) (ih _ (fun n hm=>hn n (by simp[J1,hm])) t)
     exact key args _ (fun n hn=>List.elem_iff.1 (List.all_eq_true.1 d3 n hn)) hr
    refine (hsq w g2 vs e1 (by rw[e3];exact hG) hargs (fun n hn=>?_)).mono ?_
    ·unfold L5 at hn
     cases hx:ofL (N8 (F9 (b0.map (·.ren (K2 ns))).length) (b0.map (·.ren (K2 ns)))) n with
     | none=>rw[hx] at hn;cases hn
     | some b =>
      obtain ⟨i,h1,_⟩:=g9 hx
      obtain ⟨j,_,hj⟩:=List.mem_map.1 (List.mem_of_getElem? h1)
      exact ⟨[j],hj.symm⟩
    ·rintro e w' ⟨u,r',Hx,g3,⟨rfl,rfl⟩,rfl,k1,k2,k3,k4⟩
     let back:=K2 (a6e ns)
     let L:=N8 l (bs'.map (·.ren back))++N8 (K0 news.length) (news.map (·.ren back))
     let H2:=a5h H L
     
     have hb1:∀p∈ns,back p.1=p.2:=fun p hp=>f7 (a:=p.2) (b:=p.1) (by rw[c3x];exact c1) (List.mem_map.2 ⟨p,hp,rfl⟩)
     have hb2:∀n∈K0 news.length,back n=n:=fun n hn=>c9f (by rw[c3x,m1];exact hnew_in n hn)
     have hpair:∀i,i<l.length→∃n,l[i]?=some n∧([0,i],n)∈ns:=fun i hi=>by
      refine ⟨l[i],by simp[hi], ?_⟩
      have h1:(ns.map (·.1))[i]?=some [0,i]:=by rw[m1];simp[F9,hi]
      have h2:(ns.map (·.2))[i]?=some l[i]:=by rw[m2];simp[hi]
      rw[List.getElem?_map] at h1 h2
      cases hp:ns[i]? with
      | none=>rw[hp] at h1;cases h1
      | some p =>
       rw[hp] at h1 h2
       simp at h1 h2
       have:=List.mem_of_getElem? hp
       cases p;simp at h1 h2;subst h1 h2;exact this
     let g':G:=⟨fun n=>match X1 (a6e ns) n with|some m=>g3.val m|none=>(bif (K0 news.length).contains n then g3.val n else g.val n),g3.lim,
      fun b=>match g3.owner b with|some m=>some (back m)|none=>(match g.owner b with|some n=>(bif l.contains n then none else some n)|none=>none)⟩
     have hiv:∀p∈ns,X1 (a6e ns) p.2=some p.1:=fun p hp=>a9o (a:=p.2) (b:=p.1) (by rw[c3y];exact c2) (List.mem_map.2 ⟨p,hp,rfl⟩)
     have hivn:∀n,n ∉ l→X1 (a6e ns) n=none:=fun n hn=>by
      cases hi:X1 (a6e ns) n with
      | none=>rfl
      | some m =>
       have:=u4 hi
       exact absurd (show n∈l by
        have h2:n∈(a6e ns).map (·.1):=List.mem_map.2 ⟨(n,m),this,rfl⟩
        rw[c3y,m2] at h2;exact h2) hn
     
     have hLin:∀(i:Nat) (n:B2) (b:Box),l[i]?=some n→bs'[i]?=some b→ofL L n=some (b.ren back):=fun i n b h1 h2=>by
      simp only[L,p4]
      rw[f8 d1 h1 (b:=b.ren back) (by simp[h2])]
     have hLnew:∀(i:Nat) (n:B2) (b:Box),(K0 news.length)[i]?=some n→news[i]?=some b→ofL L n=some (b.ren back):=fun i n b h1 h2=>by
      simp only[L,p4]
      rw[X6 (hnew_l n (List.mem_of_getElem? h1)),f8 hnewD h1 (b:=b.ren back) (by simp[h2])]
     have hLnot:∀n,n ∉ l→n ∉ K0 news.length→ofL L n=none:=fun n h1 h2=>by
      simp only[L,p4]
      rw[X6 h1,X6 h2]
     have hOut:∀(n:B2) (b:Box),Y4 bs' news n=some b→(∃i:Nat,i<l.length∧n= [0,i]∧bs'[i]?=some b)∨(∃i:Nat,(K0 news.length)[i]?=some n∧news[i]?=some b):=fun n b h=>by
      unfold Y4 at h
      rw[p4] at h
      cases hx:ofL (N8 (F9 bs'.length) bs') n with
      | some c =>
       rw[hx] at h;cases h
       obtain ⟨i,h1,h2⟩:=g9 hx
       have hlt:i<bs'.length:=(List.getElem?_eq_some_iff.1 h2).1
       refine .inl ⟨i,by omega, ?_,h2⟩
       simp[F9,hlt] at h1
       exact h1.symm
      | none =>
       rw[hx] at h
       obtain ⟨i,h1,h2⟩:=g9 h
       exact .inr ⟨i,h1,h2⟩
     have hOutIn:∀(i:Nat) (b:Box),bs'[i]?=some b→Y4 bs' news [0,i]=some b:=fun i b h=>by
      unfold Y4
      rw[p4]
      have hlt:i<bs'.length:=(List.getElem?_eq_some_iff.1 h).1
      rw[f8 (nm:=F9 bs'.length) (i:=i) (b:=b) (by have:=nodup_range 0 bs'.length;simpa [F9] using this) (by simp[F9,hlt]) h]
     have hren:Ren back (Y4 bs' news) g3 H2 g':=fun n q hq=>by
      obtain ⟨b,hb,hkb⟩:=a9k hq
      rcases hOut n b hb with ⟨i,hi,rfl,hbi⟩|⟨i,hi,hbi⟩
      ·obtain ⟨m,hm,hp⟩:=hpair i hi
       rw[hb1 _ hp]
       refine ⟨?_,by simp only[g',hiv _ hp]⟩
       simp only[kd,H2,a5h,hLin i m b hm hbi,Option.map_some,b4f,hkb]
      ·have hmem:=List.mem_of_getElem? hi
       rw[hb2 n hmem]
       refine ⟨?_, ?_⟩
       ·simp only[kd,H2,a5h,hLnew i n b hi hbi,Option.map_some,b4f,hkb]
       ·have:(K0 news.length).contains n=true:=by simpa using hmem
        simp only[g',hivn n (hnew_l n hmem),this,cond_true]
     have hkeep:J9 H g H2 g':=fun n q hq=>by
      by_cases hn:n∈l
      ·obtain ⟨i,hi⟩:=List.getElem?_of_mem hn
       have hlt:=(List.getElem?_eq_some_iff.1 hi).1
       obtain ⟨m,hm,hp⟩:=hpair i hlt
       rw[hi] at hm;cases hm
       obtain ⟨v1,v2⟩:=e6 _ hp
       obtain ⟨j1,j2⟩:=k4 [i] q (by rw[v2];exact hq)
       obtain ⟨b,hb,hkb⟩:=a9k j1
       rcases hOut [0,i] b hb with ⟨i',hi',he,hbi⟩|⟨i',hi',hbi⟩
       ·simp at he;subst he
        refine ⟨?_, ?_⟩
        ·simp only[kd,H2,a5h,hLin i n b hi hbi,Option.map_some,b4f,hkb]
        ·simp only[g',hiv _ hp]
         rw[j2];exact v1
       ·obtain ⟨j,_,hj⟩:=hnn _ (List.mem_of_getElem? hi')
        simp at hj
      ·have hnz:n ∉ K0 news.length:=fun hm=>by
        obtain ⟨j,_,rfl⟩:=hnn n hm
        obtain ⟨b,hb,_⟩:=a9k hq
        obtain ⟨m,hm⟩:=hz [j+2] (by rw[hb];rfl)
        simp at hm
       have hcn:(K0 news.length).contains n=false:=by
        cases hcc:(K0 news.length).contains n with
        | false=>rfl
        | true=>exact absurd (List.elem_iff.1 hcc) hnz
       refine ⟨by simpa only[kd,H2,a5h,hLnot n hn hnz] using hq,by simp only[g',hivn n hn,hcn,cond_false]⟩
     have hgr:Q9 w g.lim w' g'.lim:=by
      have:=k3.grow
      rw[e3] at this
      exact this
     have hown:∀b n,g.owner b=some n→n ∉ l→w'.heap[b]?=w.heap[b]?∧g'.owner b=some n∧g'.lim b=g.lim b:=fun b n hb hn=>by
      have h2:g2.owner b=none:=e5 b n hb (by rw[m2];exact hn)
      have hlt:b<w.heap.size:=by
       rcases Nat.lt_or_ge b w.heap.size with h1|h1
       ·exact h1
       ·rw[(hH.fresh b h1).2] at hb;cases hb
      obtain ⟨f1,f2,f3⟩:=k3.free b hlt h2
      have hcn:l.contains n=false:=by
       cases hcc:l.contains n with
       | false=>rfl
       | true=>exact absurd (List.elem_iff.1 hcc) hn
      exact ⟨f1,by simp only[g',f3,hb,hcn,cond_false],by rw[e3] at f2;exact f2⟩
     have hH2:K7 w' g' H2:=by
      refine ⟨fun n b hb=>?_,fun b hb=>?_⟩
      ·simp only[H2,a5h] at hb
       cases hx:ofL L n with
       | some c =>
        rw[hx] at hb;simp at hb;subst hb
        have hx':=hx
        simp only[L,p4] at hx'
        cases hy:ofL (N8 l (bs'.map (·.ren back))) n with
        | some c' =>
         rw[hy] at hx';simp at hx';subst hx'
         obtain ⟨i,h1,h2⟩:=g9 hy
         rw[List.getElem?_map] at h2
         cases hbi:bs'[i]? with
         | none=>rw[hbi] at h2;cases h2
         | some b1 =>
          rw[hbi] at h2;simp at h2;subst h2
          have hlt:=(List.getElem?_eq_some_iff.1 h1).1
          obtain ⟨m,hm,hp⟩:=hpair i hlt
          rw[h1] at hm;cases hm
          have hbox:=(k2.box [0,i] b1 (hOutIn i b1 hbi)).ren (g':=g') (H':=H2) (f:=back) (hOutIn i b1 hbi) (.refl _ _) hren (fun k hk=>⟨by simp only[g',hk],rfl⟩)
          rw[hb1 _ hp] at hbox
          exact hbox
        | none =>
         rw[hy] at hx'
         obtain ⟨i,h1,h2⟩:=g9 hx'
         rw[List.getElem?_map] at h2
         cases hbi:news[i]? with
         | none=>rw[hbi] at h2;cases h2
         | some b1 =>
          rw[hbi] at h2;simp at h2;subst h2
          have hmem:=List.mem_of_getElem? h1
          have hsm:Y4 bs' news n=some b1:=by
           unfold Y4
           rw[p4,X6 (fun hm=>by
            obtain ⟨j,_,rfl⟩:=hnn n hmem
            obtain ⟨j',_,hj'⟩:=List.mem_map.1 hm
            simp at hj')]
           exact f8 hnewD h1 hbi
          have hbox:=(k2.box n b1 hsm).ren (g':=g') (H':=H2) (f:=back) hsm (.refl _ _) hren (fun k hk=>⟨by simp only[g',hk],rfl⟩)
          rw[hb2 n hmem] at hbox
          exact hbox
       | none =>
        rw[hx] at hb
        have hn:n ∉ l:=fun hm=>by
         obtain ⟨i,hi⟩:=List.getElem?_of_mem hm
         have hlt:=(List.getElem?_eq_some_iff.1 hi).1
         have:i<bs'.length:=by omega
         rw[hLin i n bs'[i] hi (by simp[this])] at hx
         cases hx
        exact (hH.box n b hb).mono hb hgr hkeep fun _ k hk=>hown k n hk hn
      ·have hge:w.heap.size≤b:=Nat.le_trans k3.size hb
       obtain ⟨f1,f2⟩:=k2.fresh b hb
       exact ⟨f1,by simp only[g',f2,(hH.fresh b hge).2]⟩
     refine ⟨u,g',rfl, ?_,hH2,⟨k3.os,k3.tape,k3.output,k3.size,fun b hb ho=>?_,hgr⟩, .of_names hkeep⟩
     ·exact k1.ren (g:=g3) (g':=g') (H':=H2) (f:=back) (.refl _ _) hren
     ·obtain ⟨f1,f2,f3⟩:=k3.free b hb (e4 b ho)
      exact ⟨f1,by rw[e3] at f2;exact f2,by simp only[g',f3,ho]⟩
   ·intro m hm
    simp only[a5h,p4] at hm
    by_cases hn:(0::m)∈l
    ·obtain ⟨i,hi⟩:=List.getElem?_of_mem hn
     have hlt:=(List.getElem?_eq_some_iff.1 hi).1
     have:(ns.map (·.2))[i]?=some (0::m):=by rw[m2];exact hi
     rw[List.getElem?_map] at this
     cases hp:ns[i]? with
     | none=>rw[hp] at this;cases this
     | some p =>
      rw[hp] at this;simp at this
      have hlt2:i<b0.length:=by omega
      have:=(a2q hb0).2 i p b0[i] hp (by simp[hlt2])
      simp_all
    ·rw[X6 hn,X6 (fun hm=>by
      obtain ⟨j,_,hj⟩:=hnn _ hm
      simp at hj)] at hm
     exact hm
end
end Go.Ev
end
