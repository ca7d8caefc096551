/- What the proofs of the lexer's laws share, part 3 of 15. -/
import Derived.Test.YtnnhlphbfpnaaaaGreatDoorI2
import Derived.LoopN
set_option linter.unusedVariables false
set_option linter.unusedSimpArgs false
section
namespace Go.Ev
section
variable {C : Cx} {s s' q : St} {g : G} {a : Act} {w : World}
variable {call : E9} {ops : Array Oper} {ss : Nat → St} {f : Nat → FP}
def J9 (listed:Array Bool) (k:Nat):Prop:=listed.getD k false=true
theorem b4f {listed:Array Bool} {i k:Nat} (hi:i<listed.size):J9 (listed.setIfInBounds i true) k↔J9 listed k∨k=i:=by
 unfold J9
 by_cases h:i=k
 ·subst h;simp[hi]
 ·rw[getD_set_ne false h]
  constructor
  ·exact .inl
  ·rintro (h'|h')
   ·exact h'
   ·exact absurd h'.symm h
def left (n:Nat) (listed:Array Bool):Nat:=(List.range n).countP fun k=> !listed.getD k false
theorem c7r {α:Type} {p q:α→Bool}:∀{l:List α} {x:α},(∀y∈l,p y=true→q y=true)→x∈l→q x=true→p x=false→l.countP p<l.countP q
 | [],_,_,h,_,_=>by simp at h
 | y::l,x,hpq,hx,hq,hp=>by
  simp only[List.countP_cons]
  have hle:l.countP p≤l.countP q:=List.countP_mono_left fun z hz=>hpq z (by simp[hz])
  rcases List.mem_cons.1 hx with rfl|hx
  ·simp only[hq,hp,if_true]
   simp
   omega
  ·have:=c7r (fun z hz=>hpq z (by simp[hz])) hx hq hp
   have h1:=hpq y (by simp)
   cases hpy:p y<;>cases hqy:q y<;>simp_all<;>omega
theorem d4s {n:Nat} {listed:Array Bool} {i:Nat} (hs:listed.size=n) (hi:i<n) (hn:¬J9 listed i):left n (listed.setIfInBounds i true)<left n listed:=by
 refine c7r (x:=i) (fun k _ h=>?_) (by simpa using hi) (by unfold J9 at hn;simpa using hn) ?_
 ·have:¬J9 (listed.setIfInBounds i true) k:=by unfold J9;simpa using h
  rw[b4f (by omega)] at this
  have h2:¬J9 listed k:=fun e=>this (.inl e)
  unfold J9 at h2;simpa using h2
 ·have:J9 (listed.setIfInBounds i true) i:=(b4f (by omega)).2 (.inr rfl)
  unfold J9 at this;simp[this]
theorem d8i {listed:Array Bool} (r:Run C call ops ss f) (hs:listed.size=ops.size) (h:Region.ready .any ops listed= []):∀k,k<ops.size→J9 listed k:=by
 intro k
 induction k using Nat.strongRecOn with
 | ind k ih =>
  intro hk
  cases hl:listed.getD k false with
  | true=>exact hl
  | false =>
   exfalso
   have:k∈Region.ready .any ops listed:=by
    rw[mem_ready]
    refine ⟨?_,ops[k],by simp[hk],fun e he hb=>ih e.on (r.edges k _ e (by simp[hk]) he hb) (Nat.lt_trans (r.edges k _ e (by simp[hk]) he hb) hk)⟩
    rw[Array.getD_eq_getD_getElem?] at hl ⊢
    have hk':k<listed.size:=by omega
    simp only[Array.getElem?_eq_getElem hk',Option.getD_some] at hl ⊢
    exact hl
   rw[h] at this;simp at this
theorem sim (ok:a8s C) (okc:W8 C) (hv:Z4 C call) (r:Run C call ops ss f) {g0:G} {w0:World} {Q:Exit→Act→World→Prop} (hq:∀a' w',j4 C g0 (ss 0).H w0 (ss ops.size) a' w'→Q .normal a' w') :
  ∀(fuel:Nat) (listed:Array Bool) (g:G) (a:Act) (w:World),listed.size=ops.size→e2f ops (J9 listed)→left ops.size listed≤fuel→
   Rel C g (mix ops ss f (J9 listed)) a w→n8 w0 g0 w g→a2x (ss 0).H g0 (mix ops ss f (J9 listed)).H g→wpAny C.P .any ops Q fuel listed a w:=by
 have fin:∀(listed:Array Bool) (g:G) (a:Act) (w:World),(∀k,k<ops.size→J9 listed k)→Rel C g (mix ops ss f (J9 listed)) a w→n8 w0 g0 w g→a2x (ss 0).H g0 (mix ops ss f (J9 listed)).H g→Q .normal a w:=by
  intro listed g a w hall R st k
  have e:mix ops ss f (J9 listed)=ss ops.size:=by
   have h1:(mix ops ss f (J9 listed)).F=(ss ops.size).F:=by
    funext t
    exact e3i r (Nat.le_refl _) fun l hl _=>⟨fun _=>hl,fun _=>hall l hl⟩
   have h2:(mix ops ss f (J9 listed)).H=(ss ops.size).H:=by
    funext n
    exact e3h r (Nat.le_refl _) fun l hl _=>⟨fun _=>hl,fun _=>hall l hl⟩
   have h3:(mix ops ss f (J9 listed)).N=(ss ops.size).N:=(r.frameN ops.size (Nat.le_refl _)).symm
   cases hm:mix ops ss f (J9 listed) with
   | mk N F H =>
    rw[hm] at h1 h2 h3
    cases hss:ss ops.size with
    | mk N' F' H' =>
     rw[hss] at h1 h2 h3
     simp only at h1 h2 h3
     rw[h1,h2,h3]
  rw[e] at R k
  exact hq a w ⟨g,R,st,k⟩
 intro fuel
 induction fuel with
 | zero =>
  intro listed g a w hs hd hf R st k
  have hall:∀k,k<ops.size→J9 listed k:=by
   intro k hk
   cases hl:listed.getD k false with
   | true=>exact hl
   | false =>
    have:=d4s hs hk (by unfold J9;simp[hl])
    omega
  refine ⟨?_,fin listed g a w hall R st k⟩
  rw[List.eq_nil_iff_forall_not_mem]
  intro j hj
  rw[mem_ready] at hj
  obtain ⟨h1,o,ho,_⟩:=hj
  have hjs:j<ops.size:=(Array.getElem?_eq_some_iff.1 ho).1
  have:=hall j hjs
  unfold J9 at this
  rw[Array.getD_eq_getD_getElem?] at h1 this
  have hj':j<listed.size:=by omega
  simp only[Array.getElem?_eq_getElem hj',Option.getD_some] at h1 this
  rw[this] at h1;cases h1
 | succ fuel ih =>
  intro listed g a w hs hd hf R st k
  refine ⟨fun h=>fin listed g a w (d8i r hs h) R st k,fun i hi=>?_⟩
  rw[mem_ready] at hi
  obtain ⟨h1,o,ho,he⟩:=hi
  have his:i<ops.size:=(Array.getElem?_eq_some_iff.1 ho).1
  have hn:¬J9 listed i:=by
   unfold J9
   rw[Array.getD_eq_getD_getElem?] at h1 ⊢
   have hi':i<listed.size:=by omega
   simp only[Array.getElem?_eq_getElem hi',Option.getD_some] at h1 ⊢
   rw[h1];simp
  have hnext:∀k,J9 (listed.setIfInBounds i true) k↔J9 listed k∨k=i:=fun k=>b4f (by omega)
  have hd':e2f ops (J9 (listed.setIfInBounds i true)):=by
   intro j o' e hj ho' he' hb
   rw[hnext] at hj ⊢
   rcases hj with hj|hj
   ·exact .inl (hd j o' e hj ho' he' hb)
   ·subst hj;rw[ho] at ho';cases ho';exact .inl (he e he' hb)
  have hmix:mix ops ss f (J9 (listed.setIfInBounds i true))=mix ops ss f fun k=>J9 listed k∨k=i:=e6j fun k _=>hnext k
  have hstep:=f2a r hd ho hn (fun e he' hb=>he e he' hb)
  have hlt:left ops.size (listed.setIfInBounds i true)≤fuel:=by
   have:=d4s hs his hn;omega
  unfold wpOp
  simp only[ho]
  unfold o3 at hstep
  split at hstep
  ·rename_i hw
   rw[if_pos (Z6 R hw)]
   refine .inl (c9u ok okc hv R (fun _ ha=>e6i (fun K f args H r H' h1 h2=>(okc.prim K f args H r H' h1 h2).2) (fun K args H r H' h=>(hv K args H r H' h).2.2) r hd ho hn (fun e he' hb=>he e he' hb) hw ha) hstep fun a' w' hp=>?_)
   obtain ⟨g1,r1,st1,k1⟩:=hp
   exact ih _ g1 a' w' (by simpa using hs) hd' hlt (by rw[hmix];exact r1) (st.trans st1) (by rw[hmix];exact k.trans k1)
  ·rename_i hw
   rw[if_neg (by rw[Z6 R hw];simp)]
   obtain ⟨r1,e1⟩:=e9 R hstep a5n
   exact ih _ g _ w (by simpa using hs) hd' hlt (by rw[hmix];exact r1) st (by rw[hmix,e1];exact k)
  ·cases hstep
theorem e7h (ok:a8s C) (okc:W8 C) (hv:Z4 C call) {il:Bool} {id:Nat} {Q:Exit→Act→World→Prop} (R:Rel C g s a w)
  (h:k7 C call il ops s=some s') (hq:∀a' w',j4 C g s.H w s' a' w'→Q .normal a' w'):(Code.region id ops true).wp C.P Q a w:=by
 obtain ⟨ss,f,r,e0,e1⟩:=c4s h
 obtain ⟨g0,R0,st0,k0⟩:=b2g (g:=g) (a:=a) (w:=w) ops.toList R
 obtain ⟨R1,st1,n1⟩:=b3b (w':={w with drawn:=w.drawn+1 }) (lim':=g0.lim) R0 ⟨rfl,rfl,rfl,Nat.le_refl _,fun _ _=>rfl⟩ (fun _ _=>rfl) (fun b hb=>(R0.heap.fresh b hb).1)
 refine wp_region_any ok.mixed ?_
 have hempty:∀k,¬J9 (Array.replicate ops.size false) k:=by
  intro k h
  unfold J9 at h
  rw[Array.getD_eq_getD_getElem?] at h
  by_cases hk:k<ops.size
  ·simp[hk] at h
  ·simp[hk] at h
 have hmix:mix ops ss f (J9 (Array.replicate ops.size false))=Q9 s ops.toList:=by
  have h1:(mix ops ss f (J9 (Array.replicate ops.size false))).F=(ss 0).F:=by
   funext t
   exact e3i r (Nat.zero_le _) fun l hl _=>⟨fun h=>absurd h (hempty l),fun h=>by omega⟩
  have h2:(mix ops ss f (J9 (Array.replicate ops.size false))).H=(ss 0).H:=by
   funext n
   exact e3h r (Nat.zero_le _) fun l hl _=>⟨fun h=>absurd h (hempty l),fun h=>by omega⟩
  rw[←e0]
  cases hm:mix ops ss f (J9 (Array.replicate ops.size false)) with
  | mk N F H =>
   have h3:(mix ops ss f (J9 (Array.replicate ops.size false))).N=(ss 0).N:=rfl
   rw[hm] at h1 h2 h3
   cases hss:ss 0 with
   | mk N' F' H' =>
    rw[hss] at h1 h2 h3
    simp only at h1 h2 h3
    rw[h1,h2,h3]
 refine sim ok okc hv r (g0:=⟨g0.val,g0.lim,g0.owner⟩) (w0:={w with drawn:=w.drawn+1 }) (fun a' w' hp=>hq a' w' ?_) ops.size _ ⟨g0.val,g0.lim,g0.owner⟩ a _ (by simp) (fun j o e hj=>absurd hj (hempty j)) ?_ ?_ (.refl _ _) ?_
 ·obtain ⟨g1,r1,st2,k2⟩:=hp
  rw[e0] at k2
  have st:n8 w g w' g1:=(st0.trans st1).trans st2
  have k:a2x s.H g (ss ops.size).H g1:=(k0.trans (.of_names n1)).trans k2
  cases hs:N9 ops.toList with
  | false=>rw[hs] at e1;simp at e1;subst e1;exact ⟨g1,r1,st,k⟩
  | true =>
   rw[hs] at e1;simp at e1;subst e1
   obtain ⟨g2,r2,st3,k3⟩:=c2o r1
   exact ⟨g2,r2,st.trans st3,k.trans k3⟩
 ·unfold left
  exact Nat.le_trans List.countP_le_length (by simp)
 ·rw[hmix];exact R1
 ·rw[hmix,e0];exact .refl _ _
theorem c6j (ok:a8s C) (okc:W8 C) (hv:Z4 C call):c5k C call:=by
 intro il id ops draw s s' g a w Q R h hq
 cases draw with
 | true=>simp only[if_true] at h;exact e7h ok okc hv R h hq
 | false=>simp only[if_false,Bool.false_eq_true] at h;exact d5p ok okc hv R h hq
end
end Go.Ev
end
section
namespace Go.Ev
section
variable {C : Cx} {s s' q : St}
def b9v (C:Cx):Prop:=∀K f args H r H',C.prim K=some f→f args H=some (r,H')→e8f H H'
def d2w (call:E9):Prop:=∀K args H r H',call K args H=some (r,H')→o0 H H'
theorem a6n:∀(l:List Oper) {s:St},o0 s.H (m3 s l).H
 | [],_=>.rfl'
 | o::l,s=>by
  unfold m3
  split
  ·rename_i d _ _
   exact (b6q d).trans (a6n l)
  ·exact a6n l
theorem a8p:∀(l:List Oper) {s:St},o0 s.H (Q9 s l).H
 | [],_=>.rfl'
 | o::l,s=>by
  unfold Q9
  split
  ·rename_i d _ _
   exact (b6q d).trans (a8p l)
  ·exact a8p l
theorem b8a {H:B3}:o0 H (o6 H):=fun m h=>by
 unfold o6 at h
 split at h
 ·rename_i hb;rw[hb];rfl
 ·exact h
theorem d3w {v:V} {dst:Option Nat} (h:s.put dst v=some s'):o0 s.H s'.H:=by rw[c3b h];exact .rfl'
theorem a3i {call:E9} (hp:b9v C) (hv:d2w call) {ops:Array Oper}:∀{l:List Oper} {s s':St},Q7 C false call ops l s=some s'→o0 s.H s'.H
 | [],s,s',h=>by simp[Q7] at h;subst h;exact .rfl'
 | o::l,s,s',h=>by
  simp only[Q7] at h
  split at h
  ·split at h
   ·rename_i s1 h1
    exact (c4n hp hv h1).2.trans (a3i hp hv h)
   ·cases h
  ·split at h
   ·rename_i s1 h1
    exact (d3w h1).trans (a3i hp hv h)
   ·cases h
  ·cases h
theorem d3k {call:E9} {ops:Array Oper} {ss:Nat→St} {f:Nat→FP} (hp:b9v C) (hv:d2w call) (r:Run C call ops ss f):∀k,k≤ops.size→o0 (ss 0).H (ss k).H
 | 0,_=>.rfl'
 | k+1,h=>by
  have ho:ops[k]?=some ops[k]:=by simp
  refine (d3k hp hv r k (by omega)).trans ?_
  have:=(r.step k _ ho).1
  unfold o3 at this
  split at this
  ·exact (c4n hp hv this).2
  ·exact d3w this
  ·cases this
theorem b8s {lp:a8v} {call:E9} (hl:b7v lp) (hp:b9v C) (hv:d2w call):∀(c:Code) (il:Bool) {x:X} {s s':St},G9 C lp call il c s=some (x,s')→o0 s.H s'.H:=by
 intro c
 induction c with
 | skip=>intro il x s s' h;simp[G9] at h;obtain ⟨_,rfl⟩:=h;exact .rfl'
 | region id ops draw =>
  intro il x s s' h
  simp only[G9] at h
  cases hd:(if draw=true then k7 C call il ops s else X4 C call il ops s) with
  | none=>simp[hd] at h
  | some s1 =>
   simp[hd] at h;obtain ⟨_,rfl⟩:=h
   cases draw with
   | true =>
    simp only[if_true] at hd
    obtain ⟨ss,f,r,e0,e1⟩:=c4s hd
    have hb:o0 s.H (ss ops.size).H:=by
     refine (a8p ops.toList).trans ?_
     rw[←e0];exact d3k hp hv r _ (Nat.le_refl _)
    rw[e1]
    cases N9 ops.toList with
    | true=>exact hb.trans b8a
    | false=>exact hb
   | false =>
    simp only[if_false,Bool.false_eq_true] at hd
    unfold X4 at hd
    split at hd
    ·rename_i s2 he
     simp at hd;subst hd
     have hb:o0 s.H s2.H:=by
      cases il with
      | true=>exact (a6n ops.toList).trans (a3i hp hv he)
      | false=>exact a3i hp hv he
     cases N9 ops.toList with
     | true=>exact hb.trans b8a
     | false=>exact hb
    ·cases hd
 | seq c1 c2 ih1 ih2 =>
  intro il x s s' h
  simp only[G9] at h
  cases h1:G9 C lp call il c1 s with
  | none=>simp[h1] at h
  | some p =>
   obtain ⟨x1,s1⟩:=p
   cases x1 with
   | normal=>simp only[h1] at h;exact (ih1 il h1).trans (ih2 il h)
   | exit i=>simp[h1] at h;obtain ⟨_,rfl⟩:=h;exact ih1 il h1
   | ret=>simp[h1] at h;obtain ⟨_,rfl⟩:=h;exact ih1 il h1
 | cond c x1 x2 ih1 ih2 =>
  intro il x s s' h
  simp only[G9] at h
  split at h
  ·rename_i t hc
   cases t with
   | true=>exact ih1 il h
   | false=>exact ih2 il h
  ·cases h
 | block id c ih =>
  intro il x s s' h
  simp only[G9] at h
  cases h1:G9 C lp call il c s with
  | none=>simp[h1] at h
  | some p =>
   obtain ⟨x1,s1⟩:=p
   cases x1 with
   | normal=>simp[h1] at h;obtain ⟨_,rfl⟩:=h;exact ih il h1
   | ret=>simp[h1] at h;obtain ⟨_,rfl⟩:=h;exact ih il h1
   | exit i=>simp[h1] at h;obtain ⟨_,rfl⟩:=h;exact ih il h1
 | loop c ih =>
  intro il x s s' h
  simp only[G9] at h
  have hro:=hl _ _ _ _ h
  clear h
  induction hro with
  | last h hx=>exact ih true h
  | more h t ih2=>exact (ih true h).trans ih2
 | exit id=>intro il x s s' h;simp[G9] at h;obtain ⟨_,rfl⟩:=h;exact .rfl'
 | ret=>intro il x s s' h;simp[G9] at h;obtain ⟨_,rfl⟩:=h;exact .rfl'
 | _=>intro il x s s' h;simp[G9] at h
theorem d5z {lp:a8v} {call:E9} (hl:b7v lp) (hp:b9v C) (hv:d2w call) {K:FuncId} {args:List V} {H H':B3} {r:V} (h:a6y C lp call K args H=some (r,H')):o0 H H':=by
 unfold a6y at h
 cases hf:C.P.funcs[K]? with
 | none=>simp[hf] at h
 | some fn =>
  simp only[hf] at h
  cases hb:fn.body with
  | none=>simp[hb] at h
  | some c =>
   simp only[hb] at h
   have fin:∀(x:X) (s':St),G9 C lp call false c ⟨max fn.ntmps args.length,fun t=>(args[t]?).getD N5,H⟩=some (x,s')→
     (match a2p C s' fn.results.toList with|some vs=>some (j6 vs,s'.H)|none=>none)=some (r,H')→o0 H H':=by
    intro x s' hc hres
    have:=b8s hl hp hv c false hc
    cases he:a2p C s' fn.results.toList with
    | none=>simp[he] at hres
    | some l=>simp[he] at hres;rw[←hres.2];exact this
   cases hc:G9 C lp call false c ⟨max fn.ntmps args.length,fun t=>(args[t]?).getD N5,H⟩ with
   | none=>simp[hc] at h
   | some p =>
    obtain ⟨x,s'⟩:=p
    simp only[hc] at h
    cases x with
    | normal=>exact fin .normal s' hc h
    | ret=>exact fin .ret s' hc h
    | exit i=>simp at h
def b3g (C:Cx):Prop:=∀(K:FuncId) (fn:Func),C.P.funcs[K]?=some fn→fn.body.isSome=true→fn.name≠ "runtime.NumGoroutine"
theorem c5c (ok:a8s C) (okc:W8 C) (hn:b3g C) {lp:a8v} {call:E9} (hl:b7v lp) (hv:Z4 C call):Z4 C (a6y C lp call):=by
 intro K args H r H' h
 obtain ⟨⟨fn,h1,h2⟩,h3⟩:=e7m okc hl (c6j ok okc hv) h
 exact ⟨⟨fn,h1,hn K fn h1 h2,h2⟩,h3,d5z hl (fun K f args H r H' h1 h2=>(okc.prim K f args H r H' h1 h2).2) (fun K args H r H' h=>(hv K args H r H' h).2.2) h⟩
theorem b5z:∀n,b7v (n6 n)
 | 0=>fun f s x s' h=>by simp[n6] at h
 | n+1=>fun f s x s' h=>by
  simp only[n6] at h
  split at h
  ·rename_i s1 h1
   exact .more h1 (b5z n f s1 x s' h)
  ·rename_i hne
   refine .last h fun e=>?_
   subst e
   exact hne s' h
end
end Go.Ev
end
section
namespace Go.Ev
section
variable {C : Cx} {s s' q : St}
def V2 (c c':E9):Prop:=∀K args H r,c K args H=some r→c' K args H=some r
theorem V2.rfl' {c:E9}:V2 c c:=fun _ _ _ _ h=>h
theorem V2.trans {c c' c'':E9} (h:V2 c c') (k:V2 c' c''):V2 c c'':=fun K args H r hr=>k K args H r (h K args H r hr)
theorem d5y {y:Bool} {c:E9} {dst:Option Nat} {K:FuncId} {args:List V} (h:M9 C y c s dst K args=some s') :
  (∀c':E9,M9 C y c' s dst K args=some s'∧∀H2:B3,o4 C c' H2 K args=o4 C c H2 K args)∨
  ∃a H r,c K a H=some r∧∀c':E9,c' K a H=some r→M9 C y c' s dst K args=some s'∧o4 C c' s.H K args=o4 C c s.H K args:=by
 unfold M9 at h
 split at h
 ·rename_i f he
  left
  intro c'
  refine ⟨?_,fun H2=>by unfold o4;simp only[he]⟩
  unfold M9;simp only[he];exact h
 ·rename_i he
  split at h
  ·rename_i f hp
   left
   intro c'
   refine ⟨?_,fun H2=>by unfold o4;simp only[he,hp]⟩
   unfold M9;simp only[he,hp];exact h
  ·rename_i hp
   right
   split at h
   ·rename_i ds hds
    split at h
    ·rename_i r Hc hc
     refine ⟨_,_,_,hc,fun c' hc'=>⟨?_, ?_⟩⟩
     ·unfold M9;simp only[he,hp,hds,hc'];exact h
     ·unfold o4;simp only[he,hp,hds,hc',hc]
    ·cases h
   ·rename_i hds
    cases dst with
    | none=>cases h
    | some d =>
     have key:∀(s0:St) (a0:List V),i7 c s0 d K a0=some s'→∃a H r,c K a H=some r∧∀c':E9,c' K a H=some r→i7 c' s0 d K a0=some s':=by
      intro s0 a0 h
      unfold i7 at h
      split at h
      ·rename_i r Hc hc
       exact ⟨_,_,_,hc,fun c' hc'=>by unfold i7;simp only[hc'];exact h⟩
      ·cases h
     cases y with
     | true =>
      obtain ⟨a,H,r,h1,h2⟩:=key _ _ h
      refine ⟨a,H,r,h1,fun c' hc'=>⟨?_,by unfold o4;simp only[he,hp,hds]⟩⟩
      unfold M9;simp only[he,hp,hds];exact h2 c' hc'
     | false =>
      obtain ⟨a,H,r,h1,h2⟩:=key _ _ h
      refine ⟨a,H,r,h1,fun c' hc'=>⟨?_,by unfold o4;simp only[he,hp,hds]⟩⟩
      unfold M9;simp only[he,hp,hds];exact h2 c' hc'
theorem e7d {y:Bool} {c:E9} {o:Oper} (h:D6 C y c o s=some s') :
  ∃ask:E9→Prop,ask c∧(∀c1 c2,V2 c1 c2→ask c1→ask c2)∧(∀cs:Nat→E9,(∀K a H r,c K a H=some r→∃n,cs n K a H=some r)→∃n,ask (cs n))∧
   ∀c',ask c'→D6 C y c' o s=some s'∧∀l s2,L3 C c' l o s s2=L3 C c l o s s2:=by
 have easy:(∀c':E9,D6 C y c' o s=some s'∧∀l s2,L3 C c' l o s s2=L3 C c l o s s2)→∃ask:E9→Prop,ask c∧(∀c1 c2,V2 c1 c2→ask c1→ask c2)∧(∀cs:Nat→E9,(∀K a H r,c K a H=some r→∃n,cs n K a H=some r)→∃n,ask (cs n))∧
   ∀c',ask c'→D6 C y c' o s=some s'∧∀l s2,L3 C c' l o s s2=L3 C c l o s s2:=fun h=>⟨fun _=>True,trivial,fun _ _ _ _=>trivial,fun _ _=>⟨0,trivial⟩,fun c' _=>h c'⟩
 obtain ⟨dst,op,type,pos,after,guard⟩:=o
 cases op with
 | call cl =>
  obtain ⟨callee,cargs,at_⟩:=cl
  cases callee with
  | builtin b=>exact easy fun c'=>⟨by cases b<;>exact h,fun l s2=>by cases b<;>rfl⟩
  | invoke x z=>exact easy fun c'=>⟨h,fun l s2=>rfl⟩
  | value fo =>
   simp only[D6] at h
   split at h
   ·cases h
   ·rename_i args ha
    split at h
    ·rename_i K first cap hf
     rcases d5y h with h1|⟨a,H,r,h1,h2⟩
     ·refine easy fun c'=>⟨?_,fun l s2=>?_⟩
      ·simp only[D6,ha,hf];exact (h1 c').1
      ·simp only[L3,ha,hf];rw[(h1 c').2]
     ·refine ⟨fun c'=>c' K a H=some r,h1,fun c1 c2 hle h=>hle _ _ _ _ h,fun cs hcs=>hcs K a H r h1,fun c' hc'=>⟨?_,fun l s2=>?_⟩⟩
      ·simp only[D6,ha,hf];exact (h2 c' hc').1
      ·simp only[L3,ha,hf];rw[(h2 c' hc').2]
    ·cases h
 | slice t x lo hi mx=>cases mx<;>exact easy fun c'=>⟨h,fun l s2=>rfl⟩
 | _=>exact easy fun c'=>⟨h,fun l s2=>rfl⟩
structure j2g (cs:Nat→E9) (c:E9):Prop where
 up:∀n m,n≤m→V2 (cs n) (cs m)
 le:∀n,V2 (cs n) c
 sup:∀K a H r,c K a H=some r→∃n,cs n K a H=some r
theorem e4a {y:Bool} {c c':E9} (hle:V2 c c') {o:Oper} (h:D6 C y c o s=some s'):D6 C y c' o s=some s'∧∀l s2,L3 C c' l o s s2=L3 C c l o s s2:=by
 obtain ⟨ask,h1,h2,_,h4⟩:=e7d h
 exact h4 c' (h2 c c' hle h1)
theorem c4m {y:Bool} {c c':E9} (hle:V2 c c') {ops:Array Oper}:∀{l:List Oper} {s s':St},Q7 C y c ops l s=some s'→Q7 C y c' ops l s=some s'
 | [],s,s',h=>h
 | o::l,s,s',h=>by
  simp only[Q7] at h ⊢
  split at h
  ·split at h
   ·rename_i s1 h1
    rw[(e4a hle h1).1];exact c4m hle h
   ·cases h
  ·split at h
   ·rename_i s1 h1
    exact c4m hle h
   ·cases h
  ·cases h
theorem e8q {c c':E9} (hle:V2 c c') {ops:Array Oper} {o:Oper} (h:o3 C c ops o s=some s'):o3 C c' ops o s=some s'∧∀s2,fpY C c' ops o s s2=fpY C c ops o s s2:=by
 unfold o3 at h ⊢
 unfold fpY
 split at h
 ·rename_i hw
  obtain ⟨h1,h2⟩:=e4a hle h
  simp only[hw]
  exact ⟨h1,fun s2=>h2 _ _⟩
 ·rename_i hw
  simp only[hw]
  exact ⟨h,fun s2=>trivial⟩
 ·cases h
theorem e2z {c c':E9} (hle:V2 c c') {ops:Array Oper}:∀{l:List Oper} {s:St} {r:St×List FP},a5m C c ops l s=some r→a5m C c' ops l s=some r
 | [],s,r,h=>h
 | o::l,s,r,h=>by
  simp only[a5m] at h ⊢
  split at h
  ·rename_i s1 h1
   split at h
   ·rename_i r2 fs h2
    obtain ⟨u1,u2⟩:=e8q hle h1
    simp only[u1,e2z hle h2,u2]
    exact h
   ·cases h
  ·cases h
theorem e7g {c c':E9} (hle:V2 c c') {il:Bool} {ops:Array Oper} (h:k7 C c il ops s=some s'):k7 C c' il ops s=some s':=by
 unfold k7 at h ⊢
 cases hc:(Y9 ops&&(t7 ops&&a6e ops.toList)) with
 | false=>simp only[hc,cond_false] at h;cases h
 | true =>
  simp only[hc,cond_true] at h ⊢
  split at h
  ·rename_i s1 fs h1
   simp only[e2z hle h1];exact h
  ·cases h
theorem d5o {c c':E9} (hle:V2 c c') {il:Bool} {ops:Array Oper} (h:X4 C c il ops s=some s'):X4 C c' il ops s=some s':=by
 unfold X4 at h ⊢
 split at h
 ·rename_i s1 h1
  simp only[c4m hle h1];exact h
 ·cases h
theorem d4k {f f':St→Option (X×St)} (hf:∀s r,f s=some r→f' s=some r):∀{n m:Nat} {s:St} {r:X×St},n≤m→n6 n f s=some r→n6 m f' s=some r
 | 0,_,_,_,_,h=>by simp[n6] at h
 | n+1,0,_,_,hnm,_=>by omega
 | n+1,m+1,s,r,hnm,h=>by
  simp only[n6] at h ⊢
  cases hfs:f s with
  | none=>simp[hfs] at h
  | some p =>
   rw[hf s p hfs]
   obtain ⟨x,s1⟩:=p
   cases x with
   | normal=>simp only[hfs] at h ⊢;exact d4k hf (by omega) h
   | exit i=>simp only[hfs] at h ⊢;exact h
   | ret=>simp only[hfs] at h ⊢;exact h
end
section code
variable {C : Cx}
def e2e (lp lp':a8v):Prop:=∀(f f':St→Option (X×St)),(∀s r,f s=some r→f' s=some r)→∀s r,lp f s=some r→lp' f' s=some r
theorem e7i {lp lp':a8v} {c c':E9} (hl:e2e lp lp') (hle:V2 c c'):∀(k:Code) (il:Bool) (s:St) (r:X×St),G9 C lp c il k s=some r→G9 C lp' c' il k s=some r:=by
 intro k
 induction k with
 | region id ops draw =>
  intro il s r h
  simp only[G9] at h ⊢
  cases draw with
  | true =>
   simp only[if_true] at h ⊢
   split at h
   ·rename_i s1 h1;simp only[e7g hle h1];exact h
   ·cases h
  | false =>
   simp only[if_false,Bool.false_eq_true] at h ⊢
   split at h
   ·rename_i s1 h1;simp only[d5o hle h1];exact h
   ·cases h
 | seq a b ih1 ih2 =>
  intro il s r h
  simp only[G9] at h ⊢
  cases h1:G9 C lp c il a s with
  | none=>simp[h1] at h
  | some p =>
   obtain ⟨x1,s1⟩:=p
   rw[ih1 il s _ h1]
   simp only[h1] at h
   cases x1 with
   | normal=>exact ih2 il s1 r h
   | exit i=>exact h
   | ret=>exact h
 | cond x a b ih1 ih2 =>
  intro il s r h
  simp only[G9] at h ⊢
  split at h
  ·rename_i t hc
   cases t with
   | true=>exact ih1 il s r h
   | false=>exact ih2 il s r h
  ·cases h
 | block id a ih =>
  intro il s r h
  simp only[G9] at h ⊢
  cases h1:G9 C lp c il a s with
  | none=>simp[h1] at h
  | some p=>rw[ih il s _ h1];rw[h1] at h;exact h
 | loop a ih =>
  intro il s r h
  simp only[G9] at h ⊢
  exact hl _ _ (ih true) s r h
 | skip=>intro il s r h;exact h
 | exit id=>intro il s r h;exact h
 | ret=>intro il s r h;exact h
 | _=>intro il s r h;simp[G9] at h
theorem e7k {lp lp':a8v} {c c':E9} (hl:e2e lp lp') (hle:V2 c c'):V2 (a6y C lp c) (a6y C lp' c'):=by
 intro K args H r h
 unfold a6y at h ⊢
 cases hf:C.P.funcs[K]? with
 | none=>simp[hf] at h
 | some fn =>
  simp only[hf] at h ⊢
  cases hb:fn.body with
  | none=>simp[hb] at h
  | some k =>
   simp only[hb] at h ⊢
   cases hc:G9 C lp c false k ⟨max fn.ntmps args.length,fun t=>(args[t]?).getD N5,H⟩ with
   | none=>simp[hc] at h
   | some p=>rw[e7i hl hle k false _ _ hc];rw[hc] at h;exact h
theorem f2e {n m:Nat} (h:n≤m):e2e (n6 n) (n6 m):=fun f f' hf s r hr=>d4k hf h hr
def evM (C:Cx):Nat→E9
 | 0,_,_,_=>none
 | n+1,K,args,H=>a6y C (n6 n) (evM C n) K args H
theorem d8y:∀{n m:Nat},n≤m→V2 (evM C n) (evM C m)
 | 0,_,_=>fun K args H r h=>by simp[evM] at h
 | n+1,0,h=>by omega
 | n+1,m+1,h=>e7k (f2e (by omega)) (d8y (by omega))
noncomputable def f8p (C:Cx):E9:=fun K args H=>open Classical in if h:∃r,∃n,evM C n K args H=some r then some h.choose else none
theorem e7f {K:FuncId} {args:List V} {H:B3} {r:V×B3}:f8p C K args H=some r↔∃n,evM C n K args H=some r:=by
 unfold f8p
 constructor
 ·intro h
  split at h
  ·rename_i he;cases h;exact he.choose_spec
  ·cases h
 ·rintro ⟨n,hn⟩
  have he:∃r,∃n,evM C n K args H=some r:=⟨r,n,hn⟩
  rw[dif_pos he]
  obtain ⟨m,hm⟩:=he.choose_spec
  have h1:=d8y (Nat.le_max_left n m) K args H _ hn
  have h2:=d8y (Nat.le_max_right n m) K args H _ hm
  rw[h1] at h2
  exact h2.symm
theorem c7j (ok:a8s C) (okc:W8 C) (hn:b3g C):∀n,Z4 C (evM C n)
 | 0=>fun K args H r H' h=>by simp[evM] at h
 | n+1=>c5c ok okc hn (b5z _) (c7j ok okc hn n)
theorem d9a (ok:a8s C) (okc:W8 C) (hn:b3g C):Z4 C (f8p C):=fun K args H r H' h=>by
 obtain ⟨n,h⟩:=e7f.1 h
 exact c7j ok okc hn n K args H r H' h
end code
end Go.Ev
end
section
namespace Go.Ev
def A1:D→Int | .lit (.int _ n)=>n|_=>0
def P5:D→Bool | .lit (.bool b)=>b|_=>false
def A4:D→ByteArray | .lit (.string s)=>s|_=>.empty
def E5:D→Bool | .slice b _ _=>b|_=>false
def A2:D→List D | .slice _ _ xs=>xs|_=>[]
def A0 (y:D) (i:Nat):D:=y.cells.getD i (.lit .nilFunc)
def f2t (k:IntKind):D→Bool | .lit (.int k' _)=>decide (k'=k)|_=>false
def e3w:D→Bool | .lit (.bool _)=>true|_=>false
def f2r:D→Bool | .lit (.string _)=>true|_=>false
def f2s (sz:Nat):D→Bool | .slice _ z _=>z==sz|_=>false
def d8p (n:Nat):D→Bool | .agg cs=>cs.length==n|_=>false
def f3m (C:Cx) (t:TypeId) (y:D):D:=match F5 C t with
 | some (.int k)=>.lit (.int k (A1 y))
 | some .bool=>.lit (.bool (P5 y))
 | some .string=>.lit (.string (A4 y))
 | some (.slice e)=>match M4 C e with|some k=>.slice (E5 y) k (A2 y)|none=>y
 | _=>y
def d5i (C:Cx) (t:TypeId) (y:D):Bool:=match F5 C t with
 | some (.int k)=>f2t k y
 | some .bool=>e3w y
 | some .string=>f2r y
 | some (.slice e)=>match M4 C e with|some k=>f2s k y|none=>true
 | _=>true
def e4q (C:Cx):List Field→Option (List TypeId)
 | []=>some []
 | f::r=>match F5 C f.type,M4 C f.type,e4q C r with
  | some (.struct fs),some _,_=>none
  | some _,some 1,some l=>some (f.type::l)
  | _,_,_=>none
def c7n (C:Cx):List TypeId→Nat→D→List D
 | [],_,_=>[]
 | t::r,i,y=>f3m C t (A0 y i)::c7n C r (i+1) y
def c4f (C:Cx):List TypeId→Nat→D→Bool
 | [],_,_=>true
 | t::r,i,y=>d5i C t (A0 y i)&&c4f C r (i+1) y
def e2q (C:Cx) (e:TypeId) (y:D) (K:D→Prop):Prop:=match F5 C e with
 | some (.struct fs)=>match e4q C fs.toList with
  | some ts=>bif d8p ts.length y&&c4f C ts 0 y then K (.agg (c7n C ts 0 y)) else False
  | none=>K y
 | _=>bif d5i C e y then K (f3m C e y) else False
theorem e4b {C:Cx} {t:TypeId} {y:D} (h:d5i C t y=true):f3m C t y=y:=by
 unfold d5i at h
 unfold f3m
 cases hu:F5 C t with
 | none=>rfl
 | some u =>
  rw[hu] at h
  cases u with
  | int k =>
   simp only[] at h ⊢
   unfold f2t at h
   split at h
   ·simp at h;subst h;rfl
   ·cases h
  | bool =>
   simp only[] at h ⊢
   unfold e3w at h
   split at h
   ·rfl
   ·cases h
  | string =>
   simp only[] at h ⊢
   unfold f2r at h
   split at h
   ·rfl
   ·cases h
  | slice e =>
   simp only[] at h ⊢
   cases hk:M4 C e with
   | none=>rfl
   | some k =>
    rw[hk] at h
    simp only[] at h ⊢
    unfold f2s at h
    split at h
    ·simp at h;subst h;rfl
    ·cases h
  | _=>rfl
theorem d6c {C:Cx} {cs:List D}:∀{ts:List TypeId} {i:Nat},c4f C ts i (.agg cs)=true→i+ts.length=cs.length→c7n C ts i (.agg cs)=cs.drop i
 | [],i,_,h=>by simp only[c7n];rw[List.drop_of_length_le];simp at h;omega
 | t::r,i,hf,h=>by
  simp only[c4f,Bool.and_eq_true] at hf
  simp only[c7n]
  have hlt:i<cs.length:=by simp at h;omega
  rw[e4b hf.1,d6c hf.2 (by simp at h;omega)]
  have:A0 (.agg cs) i=cs[i]:=by simp[A0,D.cells,hlt]
  rw[this,List.drop_eq_getElem_cons hlt]
theorem e5e {C:Cx} {e:TypeId} {y:D} {K:D→Prop} (h:e2q C e y K):K y:=by
 unfold e2q at h
 split at h
 ·split at h
  ·rename_i ts hts
   cases hc:(d8p ts.length y&&c4f C ts 0 y) with
   | false=>rw[hc] at h;exact h.elim
   | true =>
    rw[hc] at h
    simp only[Bool.and_eq_true] at hc
    unfold d8p at hc
    split at hc
    ·rename_i cs
     have:=d6c hc.2 (by have:=hc.1;simp at this;omega)
     simp only[cond_true] at h
     rw[this] at h
     simpa using h
    ·cases hc.1
  ·exact h
 ·cases hc:d5i C e y with
  | false=>rw[hc] at h;exact h.elim
  | true=>rw[hc] at h;simp only[cond_true] at h;rw[e4b hc] at h;exact h
class Bad (Z:Type) where
 bad:Z
 vw:Cx→TypeId→D→(D→Z)→Z
instance {R:Type}:Bad (Option R):=⟨none,fun _ _ y K=>K y⟩
instance:Bad Prop:=⟨False,e2q⟩
class Plain (Z:Type) [Bad Z]:Prop where
 vw_eq:∀(C:Cx) (e:TypeId) (y:D) (K:D→Z),Bad.vw C e y K=K y
instance {R:Type}:Plain (Option R):=⟨fun _ _ _ _=>rfl⟩
def go {Z:Type} [Bad Z] {α:Type} (o:Option α) (K:α→Z):Z:=match o with|some a=>K a|none=>Bad.bad
def f2j (s:St) (d:Nat) (b:Bool):St:=⟨s.N,upd s.F d (A6 b),s.H⟩
def f2i (s:St) (x:Operand) (b:Bool):St:=match x with | .tmp t=>f2j s t b|_=>s
section
variable (C : Cx) {R : Type} {Z : Type} [Bad Z]
def e2o (ops:Array Oper) (o:Oper) (s:St) (K:Bool→St→Z):Z:=match o.guard with
 | none=>K true s
 | some (j,want)=>match (ops[j]?).bind (·.dst) with
  | none=>Bad.bad
  | some d=>match s.F d with
   | .d (.lit (.bool b))=>bif b then K want (f2j s d true) else K (!want) (f2j s d false)
   | .d (.lit (.tuple _))=>K false s
   | _=>Bad.bad
def a6q (s:St) (dst:Option Nat) (v:V) (K:St→Z):Z:=match dst with
 | none=>K s
 | some d=>bif Nat.blt d s.N then K ⟨s.N,upd s.F d v,s.H⟩ else Bad.bad
def f2u (x:V) (K:Nat→Z):Z:=match x with
 | .d (.lit (.int _ i))=>bif decide (0≤i) then K i.toNat else Bad.bad
 | _=>Bad.bad
def A9 (s:ByteArray) (k:Nat):Int:=(s.data.toList.getD k 0).toNat
def c4q (t:TypeId) (x i:V) (K:V→Z):Z:=match F5 C t,x with
 | some .string, .d (.lit (.string s))=>f2u i fun k=>bif Nat.blt k s.size then K (.d (.lit (.int .u8 (A9 s k)))) else Bad.bad
 | _,_=>go (a2s C t x i) K
def a8j (H:B3) (t:TypeId) (x i:V) (K:V→Z):Z:=match F5 C t with
 | some (.slice e)=>match a4n H x,M4 C e with
  | some (_,sz,xs),some z=>f2u i fun k=>go xs[k]? fun y=>bif sz==z then Bad.vw C e y fun y=>K (.d (.elem y.cells)) else Bad.bad
  | _,_=>go (K9 C H t x i) K
 | _=>go (K9 C H t x i) K
def c3z (d:Nat) (x:Option V) (K:Nat→Z):Z:=match x with
 | none=>K d
 | some v=>f2u v K
def c4j (H:B3) (t:TypeId) (x:V) (lo hi:Option V) (K:V→Z):Z:=match F5 C t with
 | some .string=>match x with
  | .d (.lit (.string s))=>c3z 0 lo fun l=>c3z s.size hi fun h=>bif Nat.ble l h&&Nat.ble h s.size then K (C6 (s.extract l h)) else Bad.bad
  | _=>Bad.bad
 | some (.slice e)=>match a4n H x,M4 C e with
  | some (nil,sz,xs),some k=>c3z 0 lo fun l=>c3z xs.length hi fun h=>bif Nat.ble l h&&Nat.ble h xs.length&&(sz==k||nil) then K (.d (.slice nil k ((xs.take h).drop l))) else Bad.bad
  | _,_=>Bad.bad
 | _=>Bad.bad
def d9f (H:B3) (op:BinOp) (t:TypeId) (x y:V) (K:V→Z):Z:=match x,y with
 | .d (.lit (.int k a)), .d (.lit (.int k' b))=>match op with
  | .quo=>bif decide (k=k')&& !decide (b=0) then K (.d (.lit (.int k (k.wrap (a.tdiv b))))) else Bad.bad
  | .rem=>bif decide (k=k')&& !decide (b=0) then K (.d (.lit (.int k (a.tmod b)))) else Bad.bad
  | _=>go (q9 C H op t x y) K
 | .d (.lit (.string a)), .d (.lit (.string b))=>match op with
  | .add=>bif Nat.ble (a.size+b.size) 9223372036854775807 then K (C6 (a++b)) else Bad.bad
  | _=>go (q9 C H op t x y) K
 | x,y=>go (q9 C H op t x y) K
def e3z (k:Value) (es:List (D×D)) (K:Option D→Z):Z:=match es with
 | []=>K none
 | (x,v)::r=>match b5h k x with
  | some b=>bif b then K (some v) else e3z k r K
  | none=>Bad.bad
def b7m (H:B3) (t:TypeId) (m k:V) (ok:Bool) (K:V→Z):Z:=match F5 C t,k,a3j H m with
 | some (.map kt et), .d (.lit kv),some es=>match F5 C kt,a7b C et with
  | some u,some z=>bif W6 u kv then e3z kv es fun r=>match r with
    | some v=>K (bif ok then .d (.tup [v, .lit (.bool true)]) else .d v)
    | none=>K (bif ok then .d (.tup [z, .lit (.bool false)]) else .d z)
   else Bad.bad
  | _,_=>Bad.bad
 | _,_,_=>Bad.bad
def c9y (y:Bool) (call:E9) (s:St) (dst:Option Nat) (K:FuncId) (args:List V) (k:St→Z):Z:=match C.ext K with
 | some f=>go (a3s s.H args) fun ds=>go (f ds) fun r=>a6q s dst (.d r) k
 | none=>match C.prim K with
  | some f=>go (f args s.H) fun r=>a6q ⟨s.N,s.F,r.2⟩ dst r.1 k
  | none=>go (M9 C y call s dst K args) k
def b3d (s:St) (dst:Option Nat) (t:TypeId) (x y:V) (k:St→Z):Z:=match F5 C t with
 | some (.slice e)=>match M4 C e,b7s C e,a7b C e with
  | some sz,some by_,some z=>match a8t s.H e sz x,b6r s.H sz y with
   | some (n,nil,xs),some (ys,zs) =>
    bif sz==0||by_==0|| !(K6 z&&z.cells.length==sz) then Bad.bad else
    bif Nat.ble ((xs.length+(ys.length+zs.length))*by_) a6p then
     go (St.make (s.with (match n with|some n=>s.H.set n (.arr false nil e sz xs [])|none=>s.H)) dst (.arr true (nil&&(ys.isEmpty&&zs.isEmpty)) e sz (xs++ys) zs) .ref) k
    else Bad.bad
   | _,_=>Bad.bad
  | _,_,_=>Bad.bad
 | _=>Bad.bad
def c7i (y:Bool) (call:E9) (o:Oper) (s:St) (K:St→Z):Z:=match o.op with
 | .pick c a b=>match F8 C s.F c with
  | some (.d (.lit (.bool t)))=>bif t then go (F8 C s.F a) (fun v=>a6q s o.dst v K) else go (F8 C s.F b) (fun v=>a6q s o.dst v K)
  | _=>Bad.bad
 | .index t x i=>go (F8 C s.F x) fun x=>go (F8 C s.F i) fun i=>c4q C t x i fun v=>a6q s o.dst v K
 | .indexAddr t x i=>go (F8 C s.F x) fun x=>go (F8 C s.F i) fun i=>a8j C s.H t x i fun v=>a6q s o.dst v K
 | .slice t x lo hi none=>go (F8 C s.F x) fun x=>go (a4w C s.F lo) fun lo=>go (a4w C s.F hi) fun hi=>c4j C s.H t x lo hi fun v=>a6q s o.dst v K
 | .binOp op t x y _=>go (F8 C s.F x) fun vx=>go (F8 C s.F y) fun vy=>bif a3d vx&&a3d vy&& !(Region.isConst x||Region.isConst y) then Bad.bad else d9f C s.H op t vx vy fun v=>a6q s o.dst v K
 | .lookup t m k ok=>go (F8 C s.F m) fun m=>go (F8 C s.F k) fun k=>b7m C s.H t m k ok fun v=>a6q s o.dst v K
 | .call c=>match c.callee with
  | .value f=>go (Q0 C s.F c.args.toList) fun args=>match F8 C s.F f with
   | some (.fn (.func F) first cap)=>c9y C y call s o.dst F (first++args++cap) K
   | _=>Bad.bad
  | .builtin .append=>match Q0 C s.F c.args.toList with
   | some [x,z]=>match c.argTypes[0]?,c.argTypes[1]? with
    | some t,some u=>(match F5 C u with
     | some (.slice _)=>b3d C s o.dst t x z K
     | some .string=>b3d C s o.dst t x z K
     | _=>Bad.bad)
    | _,_=>Bad.bad
   | _=>Bad.bad
  | _=>go (D6 C y call o s) K
 | _=>go (D6 C y call o s) K
theorem c9f {s:St} {d:Nat} {b:Bool} (h:s.F d=A6 b):f2j s d b=s:=by
 unfold f2j
 have:upd s.F d (A6 b)=s.F:=by
  funext t
  unfold upd
  by_cases ht:t=d
  ·subst ht;simp[h]
  ·have:(t==d)=false:=by simpa using ht
   simp[this]
 rw[this]
theorem a3o {s:St} {dst:Option Nat} {v:V} {K:St→Z}:a6q s dst v K=go (s.put dst v) K:=by
 unfold a6q St.put
 cases dst with
 | none=>rfl
 | some d=>simp only[];cases Nat.blt d s.N<;>rfl
theorem d2y {ops:Array Oper} {o:Oper} {s:St} {K:Bool→St→Z}:e2o ops o s K=go (L2 ops o s.F) fun b=>K b s:=by
 unfold e2o L2
 cases o.guard with
 | none=>rfl
 | some p =>
  obtain ⟨j,want⟩:=p
  simp only[]
  cases (ops[j]?).bind (·.dst) with
  | none=>rfl
  | some d =>
   simp only[]
   generalize hv:s.F d=v
   split
   ·rename_i b
    cases b with
    | true=>simp only[cond_true];rw[c9f hv];cases want<;>rfl
    | false=>simp only[cond_false];rw[c9f hv];cases want<;>rfl
   ·rfl
   ·rename_i h1 h2
    split
    ·rename_i b;exact absurd rfl (h1 _)
    ·rename_i b;exact absurd rfl (h2 _)
    ·rfl
theorem c9k {x:V} {K:Nat→Z}:f2u x K=go (idx x) K:=by
 unfold f2u idx
 split
 ·rename_i i
  by_cases h:0≤i
  ·simp[h,go]
  ·simp[h,go]
 ·rename_i h
  split
  ·exact absurd rfl (h _ _)
  ·rfl
theorem b2w {d:Nat} {x:Option V} {K:Nat→Z}:c3z d x K=go (a4q d x) K:=by
 cases x with
 | none=>rfl
 | some v=>exact c9k
theorem c7t {s:ByteArray} {k:Nat} (h:k<s.size):s[k]?=some (s.data.toList.getD k 0):=by
 have h':k<s.data.size:=h
 have e:s[k]?=some s[k]:=by
  rw[getElem?_pos]
 rw[e]
 congr 1
 rw[List.getD_eq_getElem?_getD,Array.getElem?_toList,Array.getElem?_eq_getElem h']
 rfl
theorem d5t {t:TypeId} {x i:V} {K:V→Z}:c4q C t x i K=go (a2s C t x i) K:=by
 unfold c4q
 split
 ·rename_i st hu
  rw[c9k]
  unfold a2s
  rw[hu]
  cases idx i with
  | none=>rfl
  | some k =>
   simp only[go]
   by_cases h:k<st.size
   ·have hb:Nat.blt k st.size=true:=by simpa [Nat.blt_eq] using h
    rw[hb,c7t h];rfl
   ·have hb:Nat.blt k st.size=false:=by
     cases hx:Nat.blt k st.size with
     | true=>exact absurd (by simpa [Nat.blt_eq] using hx) h
     | false=>rfl
    have hn:st[k]?=none:=by rw[getElem?_neg];exact h
    rw[hb,hn];rfl
 ·rfl
theorem ble_eq {a b:Nat}:Nat.ble a b=decide (a≤b):=by
 by_cases h:a≤b
 ·simp[h,Nat.ble_eq]
 ·rw[decide_eq_false h]
  cases hx:Nat.ble a b with
  | true=>exact absurd (by simpa [Nat.ble_eq] using hx) h
  | false=>rfl
theorem d5n {H:B3} {t:TypeId} {x:V} {lo hi:Option V} {K:V→Z}:c4j C H t x lo hi K=go (Y5 C H t x lo hi) K:=by
 unfold c4j
 split
 ·rename_i hu
  split
  ·rename_i st
   rw[b2w]
   unfold Y5
   rw[hu]
   simp only[]
   cases a4q 0 lo with
   | none=>rfl
   | some l =>
    simp only[go]
    rw[b2w]
    cases a4q st.size hi with
    | none=>rfl
    | some h =>
     simp only[go,ble_eq]
     by_cases h1:l≤h
     ·by_cases h2:h≤st.size
      ·simp[h1,h2]
      ·simp[h1,h2]
     ·simp[h1]
  ·rename_i hne
   unfold Y5
   rw[hu]
   split
   ·rename_i h1 _;exact absurd rfl (hne _)
   ·rename_i h1;cases h1
   ·rfl
 ·rename_i e hu
  split
  ·rename_i nl sz xs k hs hk
   rw[b2w]
   unfold Y5
   rw[hu]
   simp only[hs,hk]
   cases a4q 0 lo with
   | none=>rfl
   | some l =>
    simp only[go]
    rw[b2w]
    cases a4q xs.length hi with
    | none=>rfl
    | some h =>
     simp only[go,ble_eq]
     by_cases h1:l≤h
     ·by_cases h2:h≤xs.length
      ·simp only[h1,h2,decide_true,Bool.true_and,if_true]
       cases (sz==k||nl)<;>rfl
      ·simp[h1,h2]
     ·simp[h1]
  ·rename_i hne
   unfold Y5
   rw[hu]
   simp only[]
   rfl
 ·rename_i h1 h2
  unfold Y5
  split
  ·rename_i h3;exact absurd h3 h1
  ·rename_i h3;exact absurd h3 (h2 _)
  ·rfl
theorem e7n {H:B3} {op:BinOp} {t:TypeId} {x y:V} {K:V→Z}:d9f C H op t x y K=go (q9 C H op t x y) K:=by
 unfold d9f
 split
 ·rename_i k a k' b
  split
  ·unfold q9 b7j
   by_cases h1:k=k'
   ·by_cases h2:b=0
    ·simp[h1,h2,go]
    ·simp[h1,h2,go]
   ·simp[h1,go]
  ·unfold q9 b7j
   by_cases h1:k=k'
   ·by_cases h2:b=0
    ·simp[h1,h2,go]
    ·simp[h1,h2,go]
   ·simp[h1,go]
  ·rfl
 ·rename_i a b
  split
  ·unfold q9 c8e
   simp only[ble_eq]
   have hm:IntKind.i64.max=9223372036854775807:=by rfl
   by_cases h1:a.size+b.size≤9223372036854775807
   ·have:¬(((a.size+b.size:Nat):Int)>IntKind.i64.max):=by rw[hm];omega
    simp only[h1,decide_true,cond_true,if_neg this,go]
   ·have:(((a.size+b.size:Nat):Int)>IntKind.i64.max):=by rw[hm];omega
    simp only[h1,decide_false,cond_false,if_pos this,go]
  ·rfl
 ·rfl
theorem d5j {k:Value}:∀{es:List (D×D)} {K:Option D→Z},e3z k es K=go (b6f k es) K
 | [],K=>rfl
 | (x,v)::r,K=>by
  unfold e3z b6f
  cases b5h k x with
  | none=>rfl
  | some b =>
   cases b with
   | true=>rfl
   | false=>exact d5j
theorem c9v {H:B3} {t:TypeId} {m k:V} {ok:Bool} {K:V→Z}:b7m C H t m k ok K=go (p9 C H t m k ok) K:=by
 unfold b7m p9
 split
 ·rename_i kt et kv es hu he
  simp only[hu,he]
  split
  ·rename_i u z h1 h2
   simp only[h1,h2]
   rw[d5j]
   cases b6f kv es with
   | none=>cases W6 u kv<;>rfl
   | some r =>
    simp only[]
    cases W6 u kv with
    | false=>rfl
    | true=>cases r<;>rfl
  ·rename_i hne
   split
   ·rename_i h1 _ h2;exact absurd h2 (by intro h3;exact hne _ _ h1 h3)
   ·rfl
 ·rename_i hne
  split
  ·rename_i h1 h2;exact absurd h2 (by intro h3;exact hne _ _ _ _ h1 rfl h3)
  ·rfl
theorem b4j {r:Option V} {s:St} {dst:Option Nat} {K:St→Z}:(go r fun v=>a6q s dst v K)=go (asV r s dst) K:=by
 unfold asV
 cases r with
 | none=>rfl
 | some v=>exact a3o
theorem d9d {y:Bool} {call:E9} {s:St} {dst:Option Nat} {K:FuncId} {args:List V} {k:St→Z}:c9y C y call s dst K args k=go (M9 C y call s dst K args) k:=by
 unfold c9y
 split
 ·rename_i f hf
  unfold M9
  rw[hf]
  simp only[]
  cases a3s s.H args with
  | none=>rfl
  | some ds =>
   simp only[go]
   cases f ds with
   | none=>rfl
   | some r=>exact a3o
 ·rename_i he
  split
  ·rename_i f hf
   unfold M9
   rw[he,hf]
   simp only[]
   cases f args s.H with
   | none=>rfl
   | some r=>exact a3o
  ·rfl
theorem b6i {s:St} {dst:Option Nat} {t:TypeId} {x y:V} {k:St→Z}:b3d C s dst t x y k=go (X6 C s dst t x y) k:=by
 unfold b3d X6
 cases F5 C t with
 | none=>rfl
 | some u =>
  cases u with
  | slice e =>
   simp only[]
   cases M4 C e with
   | none=>rfl
   | some sz=>cases b7s C e with
    | none=>rfl
    | some by_ =>
     cases hz:a7b C e with
     | none =>
      simp only[]
      cases a8t s.H e sz x with
      | none=>rfl
      | some p=>cases b6r s.H sz y with
       | none=>rfl
       | some q =>
        simp only[]
        cases (sz==0||by_==0) with
        | true=>rfl
        | false=>simp only[cond_false];split<;>rfl
     | some z =>
      simp only[]
      cases a8t s.H e sz x with
      | none=>rfl
      | some p=>cases b6r s.H sz y with
       | none=>rfl
       | some q =>
        obtain ⟨n,nil,xs⟩:=p
        obtain ⟨ys,zs⟩:=q
        simp only[ble_eq]
        cases (sz==0||by_==0) with
        | true=>rfl
        | false =>
         simp only[cond_false,Bool.false_or]
         by_cases hr:(xs.length+(ys.length+zs.length))*by_≤a6p
         ·simp only[hr,decide_true,cond_true,if_true]
          cases (K6 z&&z.cells.length==sz)<;>rfl
         ·simp only[hr,decide_false,cond_false,if_false]
          cases (K6 z&&z.cells.length==sz)<;>rfl
  | _=>rfl
theorem d5q {y:Bool} {call:E9} {o:Oper} {s:St} {K:St→Z} (hi:∀t x i,o.op≠ .indexAddr t x i):c7i C y call o s K=go (D6 C y call o s) K:=by
 unfold c7i
 split
 ·rename_i c a b ho
  have e:D6 C y call o s=match F8 C s.F c with|some (.d (.lit (.bool t)))=>bif t then asV (F8 C s.F a) s o.dst else asV (F8 C s.F b) s o.dst|_=>none:=by
   unfold D6;rw[ho];rfl
  rw[e]
  split
  ·rename_i t ht
   cases t with
   | true=>simp only[cond_true];exact b4j
   | false=>simp only[cond_false];exact b4j
  ·rfl
 ·rename_i t x i ho
  have e:D6 C y call o s=match F8 C s.F x,F8 C s.F i with|some x,some i=>asV (a2s C t x i) s o.dst|_,_=>none:=by
   unfold D6;rw[ho];rfl
  rw[e]
  cases F8 C s.F x with
  | none=>rfl
  | some vx=>cases F8 C s.F i with
   | none=>rfl
   | some vi=>simp only[go];rw[d5t];exact b4j
 ·rename_i t x i ho;exact absurd ho (hi t x i)
 ·rename_i t x lo hi ho
  have e:D6 C y call o s=match F8 C s.F x,a4w C s.F lo,a4w C s.F hi with|some x,some lo,some hi=>asV (Y5 C s.H t x lo hi) s o.dst|_,_,_=>none:=by
   unfold D6;rw[ho];rfl
  rw[e]
  cases F8 C s.F x with
  | none=>rfl
  | some vx=>cases a4w C s.F lo with
   | none=>rfl
   | some vl=>cases a4w C s.F hi with
    | none=>rfl
    | some vh=>simp only[go];rw[d5n];exact b4j
 ·rename_i op t x y' yt ho
  have e:D6 C y call o s=match F8 C s.F x,F8 C s.F y' with|some vx,some vy=>bif a3d vx&&a3d vy&& !(Region.isConst x||Region.isConst y') then none else asV (q9 C s.H op t vx vy) s o.dst|_,_=>none:=by
   unfold D6;rw[ho];rfl
  rw[e]
  cases F8 C s.F x with
  | none=>rfl
  | some vx=>cases F8 C s.F y' with
   | none=>rfl
   | some vy =>
    simp only[go]
    cases (a3d vx&&a3d vy&& !(Region.isConst x||Region.isConst y')) with
    | true=>rfl
    | false=>simp only[cond_false];rw[e7n];exact b4j
 ·rename_i t m k ok ho
  have e:D6 C y call o s=match F8 C s.F m,F8 C s.F k with|some m,some k=>asV (p9 C s.H t m k ok) s o.dst|_,_=>none:=by
   unfold D6;rw[ho];rfl
  rw[e]
  cases F8 C s.F m with
  | none=>rfl
  | some vm=>cases F8 C s.F k with
   | none=>rfl
   | some vk=>simp only[go];rw[c9v];exact b4j
 ·rename_i c ho
  split
  ·rename_i f hc
   have e:D6 C y call o s=match Q0 C s.F c.args.toList with
     | none=>none
     | some args=>match F8 C s.F f with
      | some (.fn (.func F) first cap)=>M9 C y call s o.dst F (first++args++cap)
      | _=>none:=by
    unfold D6;rw[ho];simp only[hc];rfl
   rw[e]
   cases Q0 C s.F c.args.toList with
   | none=>rfl
   | some args =>
    simp only[go]
    split
    ·exact d9d C
    ·rfl
  ·rename_i hc
   have e:D6 C y call o s=match Q0 C s.F c.args.toList with
     | none=>none
     | some args=>match c.argTypes[0]?,c.argTypes[1]?,args with
      | some t,some u, [x,y]=>(match F5 C u with
       | some (.slice _)=>X6 C s o.dst t x y
       | some .string=>X6 C s o.dst t x y
       | _=>none)
      | _,_,_=>none:=by
    unfold D6;rw[ho];simp only[hc];rfl
   rw[e]
   split
   ·rename_i x z hargs
    simp only[hargs]
    cases c.argTypes[0]? with
    | none=>rfl
    | some t=>cases c.argTypes[1]? with
     | none=>rfl
     | some u =>
      simp only[]
      split
      ·exact b6i C
      ·exact b6i C
      ·rfl
   ·rename_i hne
    cases hargs:Q0 C s.F c.args.toList with
    | none=>rfl
    | some args =>
     simp only[]
     split
     ·rename_i x z;exact absurd hargs (hne _ _)
     ·rfl
  ·rfl
 ·rfl
def d6m (ops:Array Oper) (fs:List FP):Bool:=(a4e ops).all fun p=>match fs[p.1]?,fs[p.2]? with|some x,some y=>a8b x y|_,_=>false
theorem d4v {s:St} {x:Operand} {b:Bool} (h:F8 C s.F x=some (A6 b)):f2i s x b=s:=by
 cases x with
 | tmp t=>simp only[F8,Option.some.injEq] at h;exact c9f h
 | _=>rfl
def mk (J:Nat→V):List Nat→List V→Nat→V
 | d::l,v::vs=>upd (mk J l vs) d v
 | _,_=>J
def a6w:Code→Nat
 | .region id _ _=>id
 | .seq a _=>a6w a
 | .block _ c=>a6w c
 | .loop c=>a6w c
 | .cond _ a _=>a6w a
 | _=>0
structure j2f where
 L:List Nat
 G:Nat→List V→B3→(X→List V→B3→Prop)→Prop
theorem F9 {α:Type} {o:Option α} {K:α→Prop} (h:go o K):∃a,o=some a∧K a:=by
 cases o with
 | none=>exact h.elim
 | some a=>exact ⟨a,rfl,h⟩
theorem b7n {H:B3} {t:TypeId} {x i:V} {K:V→Prop} (h:a8j C H t x i K):go (K9 C H t x i) K:=by
 unfold a8j at h
 split at h
 ·rename_i e hu
  split at h
  ·rename_i nl sz xs z hs hz
   rw[c9k] at h
   obtain ⟨k,hk,h⟩:=F9 h
   obtain ⟨y,hy,h⟩:=F9 h
   unfold K9
   rw[hu]
   simp only[hk,hs,hz,hy]
   cases hsz:(sz==z) with
   | false=>rw[hsz] at h;exact h.elim
   | true =>
    rw[hsz] at h
    have h':e2q C e y fun y=>K (V.d (D.elem y.cells)):=h
    exact e5e h'
  ·exact h
 ·exact h
theorem e7e {y:Bool} {call:E9} {o:Oper} {s:St} {K:St→Prop} (h:c7i C y call o s K):∃s',D6 C y call o s=some s'∧K s':=by
 by_cases hi:∃t x i,o.op= .indexAddr t x i
 ·obtain ⟨t,x,i,ho⟩:=hi
  have e:D6 C y call o s=match F8 C s.F x,F8 C s.F i with|some x,some i=>asV (K9 C s.H t x i) s o.dst|_,_=>none:=by
   unfold D6;rw[ho];rfl
  unfold c7i at h
  rw[ho] at h
  simp only[] at h
  obtain ⟨vx,h1,h⟩:=F9 h
  obtain ⟨vi,h2,h⟩:=F9 h
  rw[e,h1,h2]
  simp only[]
  have:=b7n C h
  rw[b4j] at this
  exact F9 this
 ·have e:c7i C y call o s K=go (D6 C y call o s) K:=d5q C (fun t x i ho=>hi ⟨t,x,i,ho⟩)
  rw[e] at h
  exact F9 h
end
end Go.Ev
end
section
namespace Go.Ev
section
variable {C : Cx}
structure i2k (C:Cx):Prop where
 ok:a8s C
 calls:W8 C
 names:b3g C
theorem i2k.valid (h:i2k C):Z4 C (f8p C):=d9a h.ok h.calls h.names
end
end Go.Ev
end
section
namespace Go.Ev
structure a6d (p:Prop):Prop where
 h:p
theorem keep {a b:Prop} (h:a=b) (k:b):a6d a:=⟨h.mpr k⟩
def Z0 (k:Nat) (H:B3):Prop:=∀m,(H (0::m)).isSome→∃i,i<k∧m= [i]
theorem Z0.back {k:Nat} {H H':B3} (h:Z0 k H) (b:o0 H H'):Z0 k H':=fun m hm=>h m (b m hm)
def T (C:Cx) (k:Nat) (c:Code) (s:St) (K:X→St→Prop):Prop :=
 ∀(g:G) (a:Act) (w:World) (Q:Exit→Act→World→Prop),Rel C g s a w→Z0 k s.H→
  (∀x s' a' w',K x s'→Z0 k s'.H→j4 C g s.H w s' a' w'→Q (a5g x) a' w')→c.wp C.P Q a w
def a5a (C:Cx) (k:Nat) (s s':St):Prop:=∀(g:G) (a:Act) (w:World),Rel C g s a w→Z0 k s.H→Z0 k s'.H∧j4 C g s.H w s' a w
section
variable {C : Cx} {k : Nat} {s s' : St} {c : Code} {K K' : X → St → Prop}
theorem a5a.refl:a5a C k s s:=fun g a w R z=>⟨z,g,R, .refl _ _, .refl _ _⟩
theorem a5a.trans {s1 s2 s3:St} (h:a5a C k s1 s2) (h':a5a C k s2 s3):a5a C k s1 s3:=fun g a w R z=>by
 obtain ⟨z1,g1,r1,st1,k1⟩:=h g a w R z
 obtain ⟨z2,p⟩:=h' g1 a w r1 z1
 exact ⟨z2,p.after st1 k1⟩
theorem h2h (hw:a5a C k s s') (h:T C k c s' K):T C k c s K:=fun g a w Q R z hq=>by
 obtain ⟨z1,g1,r1,st1,k1⟩:=hw g a w R z
 exact h g1 a w Q r1 z1 fun x s' a' w' hk z' hp=>hq x s' a' w' hk z' (hp.after st1 k1)
theorem d9y (h:T C k c s K) (hk:∀x s',K x s'→K' x s'):T C k c s K':=fun g a w Q R z hq=>h g a w Q R z fun x s' a' w' h1=>hq x s' a' w' (hk x s' h1)
theorem b4s (h:T C k c s K) (hk:∀x s',K x s'→∃s2,a5a C k s' s2∧K' x s2):T C k c s K':=fun g a w Q R z hq=>h g a w Q R z fun x s' a' w' h1 z1 hp=>by
 obtain ⟨s2,hw,h2⟩:=hk x s' h1
 obtain ⟨g1,r1,st1,k1⟩:=hp
 obtain ⟨z2,p⟩:=hw g1 a' w' r1 z1
 exact hq x s2 a' w' h2 z2 (p.after st1 k1)
theorem h2i (h:K .normal s):T C k .skip s K:=fun g a w Q R z hq=>wp_skip (hq .normal s a w h z ⟨g,R, .refl _ _, .refl _ _⟩)
theorem h2k {id:Nat} (h:K (.exit id) s):T C k (.exit id) s K:=fun g a w Q R z hq=>wp_exit (hq (.exit id) s a w h z ⟨g,R, .refl _ _, .refl _ _⟩)
theorem i2i (h:K .ret s):T C k .ret s K:=fun g a w Q R z hq=>wp_ret (hq .ret s a w h z ⟨g,R, .refl _ _, .refl _ _⟩)
structure b4v (C:Cx) (call:E9):Prop where
 ok:a8s C
 calls:W8 C
 valid:Z4 C call
theorem d7d {call:E9} (F:b4v C call) {il draw:Bool} {id:Nat} {ops:Array Oper} {s1:St} (h:(if draw then k7 C call il ops s else X4 C call il ops s)=some s1) (hk:K .normal s1) :
  T C k (.region id ops draw) s K:=fun g a w Q R z hq=>by
 refine c6j F.ok F.calls F.valid il id ops draw s s1 g a w Q R h fun a' w' hp=>hq .normal s1 a' w' hk (z.back ?_) hp
 exact b8s (C:=C) (lp:=n6 0) (call:=call) (b5z 0) (fun K f args H r H' h1 h2=>(F.calls.prim K f args H r H' h1 h2).2) (fun K args H r H' h=>(F.valid K args H r H' h).2.2)
  (.region id ops draw) il (x:=.normal) (by unfold G9;rw[h])
theorem f4u {a b:Code} (h:T C k a s fun x s1=>match x with | .normal=>T C k b s1 K|x=>K x s1):T C k (.seq a b) s K:=fun g ac w Q R z hq=>by
 refine wp_seq (h g ac w _ R z fun x s1 a1 w1 hk z1 hp=>?_)
 cases x with
 | normal =>
  obtain ⟨g1,r1,st1,k1⟩:=hp
  exact hk g1 a1 w1 Q r1 z1 fun x s2 a2 w2 h2 z2 hp2=>hq x s2 a2 w2 h2 z2 (hp2.after st1 k1)
 | exit i=>exact hq _ _ _ _ hk z1 hp
 | ret=>exact hq _ _ _ _ hk z1 hp
theorem h2m {x:Operand} {a b:Code} {t:Bool} (hc:F8 C s.F x=some (A6 t)) (h:T C k (bif t then a else b) s K):T C k (.cond x a b) s K:=fun g ac w Q R z hq=>by
 refine wp_cond (G7 R hc).lit_inv ?_
 cases t with
 | true=>exact h g ac w Q R z hq
 | false=>exact h g ac w Q R z hq
theorem f9t {id:Nat} {a:Code} (h:T C k a s fun x s1=>match x with | .exit i=>(bif i==id then K .normal s1 else K (.exit i) s1)|x=>K x s1):T C k (.block id a) s K:=fun g ac w Q R z hq=>by
 refine wp_block (h g ac w _ R z fun x s1 a1 w1 hk z1 hp=>?_)
 cases x with
 | normal=>exact hq _ _ _ _ hk z1 hp
 | ret=>exact hq _ _ _ _ hk z1 hp
 | exit i =>
  simp only[] at hk
  by_cases hi:i=id
  ·have:(i==id)=true:=by simpa using hi
   rw[this] at hk
   have:=hq _ _ _ _ hk z1 hp
   simpa [a5g,Exit.inBlock,hi] using this
  ·have:(i==id)=false:=by simpa using hi
   rw[this] at hk
   have:=hq _ _ _ _ hk z1 hp
   simpa [a5g,Exit.inBlock,hi] using this
def wpL (P:Program) (c:Code) (Q:Exit→Act→World→Prop) (a:Act) (w:World):Prop :=
 ∀(b:Frame) (k:List Item) (cs:List Frame),∃e a' w',Q e a' w'∧Arrives P (lone (b.at a (.code c:: .inLoop c::k)) cs w) b k cs e a' w'
theorem e8g {P:Program} {Q:Exit→Act→World→Prop} {a:Act} {w:World} {c:Code} (h:wpL P c Q a w):(Code.loop c).wp P Q a w:=fun b k cs =>
 let ⟨e,a',w',hq,harr⟩:=h b k cs
 ⟨e,a',w',hq, .of_steps (.one step_loop) harr⟩
theorem e2k {P:Program} {Q:Exit→Act→World→Prop} {a:Act} {w:World} {c:Code} (h:c.wp P (Exit.then (wpL P c Q) Q) a w):wpL P c Q a w:=fun b k cs=>by
 obtain ⟨e,a1,w1,hq,harr⟩:=h b (.inLoop c::k) cs
 cases e with
 | normal =>
  obtain ⟨e2,a2,w2,hq2,harr2⟩:=hq b k cs
  exact ⟨e2,a2,w2,hq2, .of_steps (Steps.trans harr (.one step_inLoop)) harr2⟩
 | exit id=>exact ⟨_,a1,w1,hq, .pass (x:=.inLoop c) rfl (fun _ _=>.inl (by simp)) harr⟩
 | goto l=>exact ⟨_,a1,w1,hq, .pass (x:=.inLoop c) rfl (fun _ _=>.inl (by simp)) harr⟩
 | ret=>exact ⟨_,a1,w1,hq, .pass (x:=.inLoop c) rfl (fun _ _=>.inl (by simp)) harr⟩
 | panic ch=>exact ⟨_,a1,w1,hq, .pass (x:=.inLoop c) rfl (fun _ _=>.inl (by simp)) harr⟩
 | outgrown=>exact ⟨_,a1,w1,hq, .pass (x:=.inLoop c) rfl (fun _ _=>.inl (by simp)) harr⟩
def TL (C:Cx) (k:Nat) (c:Code) (s:St) (K:X→St→Prop):Prop :=
 ∀(g:G) (a:Act) (w:World) (Q:Exit→Act→World→Prop),Rel C g s a w→Z0 k s.H→
  (∀x s' a' w',K x s'→Z0 k s'.H→j4 C g s.H w s' a' w'→Q (a5g x) a' w')→wpL C.P c Q a w
theorem h2j (h:TL C k c s K):T C k (.loop c) s K:=fun g a w Q R z hq=>e8g (h g a w Q R z hq)
theorem f9u (h:T C k c s fun x s1=>match x with | .normal=>TL C k c s1 K|x=>K x s1):TL C k c s K:=fun g a w Q R z hq=>by
 refine e2k (h g a w _ R z fun x s1 a1 w1 hk z1 hp=>?_)
 cases x with
 | normal =>
  obtain ⟨g1,r1,st1,k1⟩:=hp
  exact hk g1 a1 w1 Q r1 z1 fun x s2 a2 w2 h2 z2 hp2=>hq x s2 a2 w2 h2 z2 (hp2.after st1 k1)
 | exit i=>exact hq _ _ _ _ hk z1 hp
 | ret=>exact hq _ _ _ _ hk z1 hp
def R8 (C:Cx) (K:FuncId) (args:List V) (H:B3) (Q:V→B3→Prop):Prop :=
 ∀(w:World) (g:G) (vs:Array Value),M3 w g H→a8w C w g.lim→E3 w g H args vs.toList→(∀n,(H n).isSome→∃m,n=0::m)→
  Calls C.P K vs w (fun e w'=>∃v r H' g',Q r H'∧e= .returned v∧E2 w' g' H' r v∧M3 w' g' H'∧n8 w g w' g'∧a2x H g H' g')
theorem R8.one {K:FuncId} {args:List V} {H H':B3} {r:V} (h:R8 C K args H fun r' Hx=>r'=r∧Hx=H'):e4v C K args H r H':=fun w g vs hH hG hr hz =>
 (h w g vs hH hG hr hz).mono fun e w' ⟨v,r',Hx,g',⟨h1,h2⟩,he,h3,h4,h5,h6⟩=>by subst h1 h2;exact ⟨v,g',he,h3,h4,h5,h6⟩
theorem a9h {K : FuncId} {args : List V} {H : B3} {Q : V → B3 → Prop} {fn : Func} {c : Code} (hf : C.P.funcs[K]? = some fn) (hb : fn.body = some c) (hz : Z0 k H)
  (h : T C k c ⟨max fn.ntmps args.length, fun t => (args[t]?).getD N5, H⟩ fun x s' => match x with
   | .exit _ => False
   | _ => ∃ vs, a2p C s' fn.results.toList = some vs ∧ Q (j6 vs) s'.H) : R8 C K args H Q := fun w g vs hH hG hargs hdom => by
 refine calls_of_wp hf hb ?_
 have hlen : args.length = vs.size := by rw [hargs.length]; simp
 have R : Rel C g ⟨max fn.ntmps args.length, fun t => (args[t]?).getD N5, H⟩ { tmps := vs ++ Array.replicate (fn.ntmps - vs.size) undef, defers := [] } w := by
  refine ⟨by simp; omega, fun t => ?_, hH, hG, rfl⟩
  cases ht : args[t]? with
  | some x =>
   obtain ⟨v, hv, hx⟩ := hargs.get ht
   have hlt : t < vs.size := by
    have := (List.getElem?_eq_some_iff.1 ht).1; omega
   have : (vs ++ Array.replicate (fn.ntmps - vs.size) undef).getD t undef = v := by
    rw [Array.getD_eq_getD_getElem?, Array.getElem?_append_left hlt]
    simp at hv; simp [hv]
   rw [this]; simpa [ht] using hx
  | none =>
   have hge : vs.size ≤ t := by
    have := List.getElem?_eq_none_iff.1 ht; omega
   have : (vs ++ Array.replicate (fn.ntmps - vs.size) undef).getD t undef = undef := by
    rw [Array.getD_eq_getD_getElem?, Array.getElem?_append_right hge]
    by_cases h1 : t - vs.size < fn.ntmps - vs.size
    ·simp [h1]
    ·simp [h1]
   rw [this]; simpa [ht] using a5n
 refine h g _ w _ R hz fun x s' a' w' hk z1 hp => ?_
 obtain ⟨g1, r1, st, kp⟩ := hp
 cases x with
 | exit i => exact hk.elim
 | normal =>
  obtain ⟨l, he, hq⟩ := hk
  obtain ⟨v, hv, hrv⟩ := b3y r1 he
  exact ⟨r1.defers, v, hv, v, _, _, g1, hq, rfl, hrv, r1.heap, st, kp⟩
 | ret =>
  obtain ⟨l, he, hq⟩ := hk
  obtain ⟨v, hv, hrv⟩ := b3y r1 he
  exact ⟨r1.defers, v, hv, v, _, _, g1, hq, rfl, hrv, r1.heap, st, kp⟩
end
end Go.Ev
end
section
namespace Go.Ev
def ofL:List (B2×Box)→B3
 | [],_=>none
 | (n,b)::r,m=>bif m==n then some b else ofL r m
def P8:Nat→V:=fun _=>.any
def L9:List (B2×B2)→B2→B2
 | [],n=>n
 | (a,b)::r,n=>bif n==b then a else L9 r n
def Z3:List (B2×B2)→B2→Option B2
 | [],_=>none
 | (a,b)::r,n=>bif n==a then some b else Z3 r n
def r9:Box→List B2
 | .cells _ cs=>K7 cs
 | _=>[]
def t8 (H:B3):List (B2×B2)→Option (List Box)
 | []=>some []
 | p::r=>match H p.2,t8 H r with|some b,some l=>some (b::l)|_,_=>none
def f8:B2→Bool
 | 0::_=>true
 | _=>false
def g9q:Box→Bool
 | .arr .. =>true
 | .junk=>true
 | _=>false
def U4:List B2→Bool
 | []=>true
 | n::r=> !r.contains n&&U4 r
def a3g:List (B2×B2)→List (B2×Box)
 | []=>[]
 | p::r=>bif f8 p.2&& !(p.1==p.2) then (p.2, .junk)::a3g r else a3g r
def a9a:List (B2×B2)→List Box→List (B2×Box)
 | p::r,b::l=>(p.1,b)::a9a r l
 | _,_=>[]
def c9m:List (B2×B2)→List Box→Bool
 | p::r,b::l=>(bif f8 p.2&& !(p.1==p.2) then g9q b else true)&&c9m r l
 | _,_=>true
def b2a (olds l:List B2):Bool:=l.all fun n=>olds.contains n
def c4z (k:Nat) (ns:List (B2×B2)) (vals:List V) (bs:List Box):Bool :=
 U4 (ns.map (·.1))&&(U4 (ns.map (·.2))&&(ns.all (fun p=>bif f8 p.1 then p.1==p.2 else true)&&(vals.all (fun v=>b2a (ns.map (·.2)) v.names) &&
  (bs.all (fun b=>b2a (ns.map (·.2)) (r9 b))&&((List.range k).all (fun i=>(ns.map (·.2)).contains [0,i])&&c9m ns bs)))))
def Q4:List B2→List Box→List (B2×Box)
 | n::r,b::l=>(n,b)::Q4 r l
 | _,_=>[]
def stN (N:Nat) (L:List Nat) (nm:List B2) (vals:List V) (bs:List Box):St:=⟨N,mk P8 L vals,ofL (Q4 nm bs)⟩
def S9 (ns:List (B2×B2)):List B2:=ns.map (·.1)++(a3g ns).map (·.1)
def a2t (k:Nat) (L:List Nat) (ns:List (B2×B2)) (s:St):Option (List V×List Box):=match t8 s.H ns with
 | some bs=>bif c4z k ns (L.map s.F) bs then some (a2z (L9 ns) (L.map s.F),bs.map (·.ren (L9 ns))++(a3g ns).map (·.2)) else none
 | none=>none
theorem b9y:∀l:List (B2×Box),Q4 (l.map (·.1)) (l.map (·.2))=l
 | []=>rfl
 | (n,b)::r=>by simp only[List.map_cons,Q4,b9y r]
theorem c5u:∀{ns:List (B2×B2)} {bs:List Box} {l:List (B2×Box)},bs.length=ns.length→Q4 (ns.map (·.1)++l.map (·.1)) (bs++l.map (·.2))=a9a ns bs++l
 | [], [],l,_=>by simpa [a9a] using b9y l
 | [],b::r,l,h=>by simp at h
 | p::r, [],l,h=>by simp at h
 | p::r,b::m,l,h=>by
  simp only[List.map_cons,List.cons_append,Q4,a9a]
  rw[c5u (by simpa using h)]
section
variable {C : Cx} {w : World} {g g1 : G} {H H1 : B3}
mutual
theorem E2.loc (hv:g1.val=g.val) (hl:g1.lim=g.lim):∀{x:V} {v:Value},(∀n∈x.names,kd H1 n=kd H n)→E2 w g H x v→E2 w g1 H1 x v
 | _,_,_, .d h=>.d (by rw[hl];exact h)
 | _,_,k, .agg h hf=>.agg (E3.loc hv hl (by simpa [V.names] using k) h) hf
 | _,_,k, .ref h=>by rw[←hv];exact .ref (by rw[k _ (by simp[V.names])];exact h)
 | _,_,k, .ptr h=>by rw[←hv];exact .ptr (by rw[k _ (by simp[V.names])];exact h)
 | _,_,k, .hp h=>by rw[←hv];exact .hp (by rw[k _ (by simp[V.names])];exact h)
 | _,_,k, .fn ha hb=>.fn (E3.loc hv hl (fun n hn=>k n (by simp[V.names,hn])) ha) (E3.loc hv hl (fun n hn=>k n (by simp[V.names,hn])) hb)
 | _,_,k, .tup h=>.tup (E3.loc hv hl (by simpa [V.names] using k) h)
 | _,_,_, .zs h=>.zs (by rw[hl];exact h)
 | _,_,_, .any=>.any
 | _,_,k, .opt h ho=>.opt (by rw[k _ (by simp[V.names])];exact h) (by rw[hv];exact ho)
theorem E3.loc (hv:g1.val=g.val) (hl:g1.lim=g.lim):∀{xs:List V} {vs:List Value},(∀n∈K7 xs,kd H1 n=kd H n)→E3 w g H xs vs→E3 w g1 H1 xs vs
 | _,_,_, .nil=>.nil
 | _,_,k, .cons h t=>.cons (E2.loc hv hl (fun n hn=>k n (by simp[K7,hn])) h) (E3.loc hv hl (fun n hn=>k n (by simp[K7,hn])) t)
end
theorem m4.loc {n:B2} {b:Box} (hv:g1.val=g.val) (hl:g1.lim=g.lim) (ho:∀b,g.owner b=some n→g1.owner b=some n) (k:∀n∈r9 b,kd H1 n=kd H n) (h:m4 w g H n b):m4 w g1 H1 n b:=by
 cases b with
 | cells t cs =>
  obtain ⟨b,c,h1,h2,h3,h4,h5,h6⟩:=h
  exact ⟨b,c,by rw[hv];exact h1,h2,h3.loc hv hl k,h4,by rw[hl];exact h5,ho _ h6⟩
 | arr live nil t sz xs ys =>
  obtain ⟨vs,us,h1,h2,h3,h4,h5,h6,h7,h8⟩:=h
  refine ⟨vs,us,by rw[hl];exact h1,by rw[hl];exact h2,h3,h4,by rw[hv];exact h5,h6,fun hlv=>?_,fun hlv=>?_⟩
  ·obtain ⟨k1,k2⟩:=h7 hlv
   rw[hv]
   exact ⟨k1,fun b hb=>by obtain ⟨j1,j2⟩:=k2 b hb;exact ⟨ho b j1,by rw[hl];exact j2⟩⟩
  ·obtain ⟨k1,k2⟩:=h8 hlv
   refine ⟨k1, ?_⟩
   rcases k2 with k2|⟨q,cap,hq,hc,hh⟩
   ·exact .inl k2
   ·exact .inr ⟨q,cap,by rw[hv];exact hq,hc,by rw[hl];exact hh⟩
 | map es =>
  obtain ⟨r,ms,c,h1,h2,h3,h4,h5,h6,h7⟩:=h
  exact ⟨r,ms,c,by rw[hv];exact h1,h2,by rw[hl];exact h3,by rw[hl];exact h4,by rw[hl];exact h5,ho _ h6,h7⟩
 | junk =>
  show M2 (g1.val n)
  rw[hv];exact h
 | bools t k =>
  obtain ⟨b,c,h1,h2,h3,h4,h5,h6⟩:=h
  exact ⟨b,c,by rw[hv];exact h1,h2,h3,h4,by rw[hl];exact h5,ho _ h6⟩
 | blob t k lo hi =>
  obtain ⟨b,c,h1,h2,h3,h4,h5,h6⟩:=h
  exact ⟨b,c,by rw[hv];exact h1,h2,h3,h4,by rw[hl];exact h5,ho _ h6⟩
theorem a9v {n:B2} {r:List B2} (h:U4 (n::r)=true):n ∉ r∧U4 r=true:=by
 simp only[U4,Bool.and_eq_true,Bool.not_eq_true'] at h
 refine ⟨fun hn=>?_,h.2⟩
 have:r.contains n=true:=by simpa using hn
 rw[this] at h;cases h.1
theorem a2m:∀{ns:List (B2×B2)} {n m:B2},Z3 ns n=some m→(n,m)∈ns
 | [],_,_,h=>by simp[Z3] at h
 | (a,b)::r,n,m,h=>by
  unfold Z3 at h
  by_cases e:n=a
  ·subst e;simp at h;subst h;simp
  ·have:(n==a)=false:=by simpa using e
   rw[this] at h;simp at h
   exact List.mem_cons_of_mem _ (a2m h)
theorem m8:∀{ns:List (B2×B2)} {a b:B2},U4 (ns.map (·.2))=true→(a,b)∈ns→L9 ns b=a
 | [],_,_,_,h=>by simp at h
 | (c,d)::r,a,b,hd,h=>by
  obtain ⟨h1,h2⟩:=a9v hd
  unfold L9
  rcases List.mem_cons.1 h with e|e
  ·cases e;simp
  ·have:b≠d:=fun e2=>h1 (by subst e2;exact List.mem_map.2 ⟨(a,b),e,rfl⟩)
   have:(b==d)=false:=by simpa using this
   rw[this];exact m8 h2 e
theorem b2v:∀{ns:List (B2×B2)} {a b:B2},U4 (ns.map (·.1))=true→(a,b)∈ns→Z3 ns a=some b
 | [],_,_,_,h=>by simp at h
 | (c,d)::r,a,b,hd,h=>by
  obtain ⟨h1,h2⟩:=a9v hd
  unfold Z3
  rcases List.mem_cons.1 h with e|e
  ·cases e;simp
  ·have:a≠c:=fun e2=>h1 (by subst e2;exact List.mem_map.2 ⟨(a,b),e,rfl⟩)
   have:(a==c)=false:=by simpa using this
   rw[this];exact b2v h2 e
theorem a3k:∀{ns:List (B2×B2)} {bs:List Box},t8 H ns=some bs→bs.length=ns.length∧∀(i:Nat) (p:B2×B2) (b:Box),ns[i]?=some p→bs[i]?=some b→H p.2=some b
 | [],bs,h=>by simp[t8] at h;subst h;exact ⟨rfl,fun i p b hp=>by simp at hp⟩
 | p::r,bs,h=>by
  unfold t8 at h
  split at h
  ·rename_i b l hb hl
   simp at h;subst h
   obtain ⟨h1,h2⟩:=a3k hl
   refine ⟨by simp[h1],fun i q c hq hc=>?_⟩
   cases i with
   | zero=>simp at hq hc;subst hq hc;exact hb
   | succ i=>exact h2 i q c (by simpa using hq) (by simpa using hc)
  ·cases h
theorem s8 (l m:List (B2×Box)) (n:B2):ofL (l++m) n=match ofL l n with|some b=>some b|none=>ofL m n:=by
 induction l with
 | nil=>rfl
 | cons p r ih =>
  obtain ⟨a,b⟩:=p
  simp only[List.cons_append,ofL]
  cases (n==a) with
  | true=>rfl
  | false=>exact ih
theorem b9k:∀{ns:List (B2×B2)} {bs:List Box} {f:Box→Box},t8 H ns=some bs→∀n,ofL (a9a ns (bs.map f)) n=match Z3 ns n with|some m=>(H m).map f|none=>none
 | [],bs,f,h,n=>by simp[t8] at h;subst h;rfl
 | (a,b)::r,bs,f,h,n=>by
  unfold t8 at h
  split at h
  ·rename_i c l hb hl
   simp at h;subst h
   simp only[List.map_cons,a9a,ofL,Z3]
   cases hn:(n==a) with
   | true=>simp[hb]
   | false=>simp only[cond_false];exact b9k hl n
  ·cases h
theorem c3g {ns:List (B2×B2)} {n:B2} {b:Box}:ofL (a3g ns) n=some b→b= .junk∧∃a,(a,n)∈ns∧a≠n∧f8 n=true:=by
 induction ns with
 | nil=>intro h;simp[a3g,ofL] at h
 | cons p r ih =>
  obtain ⟨c,d⟩:=p
  intro h
  unfold a3g at h
  cases hc:(f8 d&& !(c==d)) with
  | false =>
   simp only[hc,cond_false] at h
   obtain ⟨h1,a,h2,h3⟩:=ih h
   exact ⟨h1,a,List.mem_cons_of_mem _ h2,h3⟩
  | true =>
   simp only[hc,cond_true,ofL] at h
   simp only[Bool.and_eq_true,Bool.not_eq_true'] at hc
   by_cases e:n=d
   ·subst e
    simp at h
    exact ⟨h.symm,c,by simp,by simpa using hc.2,hc.1⟩
   ·have:(n==d)=false:=by simpa using e
    rw[this] at h
    obtain ⟨h1,a,h2,h3⟩:=ih h
    exact ⟨h1,a,List.mem_cons_of_mem _ h2,h3⟩
theorem b4h:∀{ns:List (B2×B2)} {a n:B2},(a,n)∈ns→a≠n→f8 n=true→ofL (a3g ns) n=some .junk
 | [],_,_,h,_,_=>by simp at h
 | (c,d)::r,a,n,h,h1,h2=>by
  unfold a3g
  rcases List.mem_cons.1 h with e|e
  ·obtain ⟨rfl,rfl⟩:=Prod.mk.inj e
   have:(f8 n&& !(a==n))=true:=by simp[h2,h1]
   rw[this];simp[ofL]
  ·cases hc:(f8 d&& !(c==d)) with
   | false=>simp only[cond_false];exact b4h e h1 h2
   | true =>
    simp only[cond_true,ofL]
    cases (n==d) with
    | true=>rfl
    | false=>exact b4h e h1 h2
theorem c7d:∀{ns:List (B2×B2)} {bs:List Box},c9m ns bs=true→∀(i:Nat) (p:B2×B2) (b:Box),ns[i]?=some p→bs[i]?=some b→f8 p.2=true→p.1≠p.2→g9q b=true
 | [],_,_,i,p,b,hp,_,_,_=>by simp at hp
 | q::r, [],_,i,p,b,_,hb,_,_=>by simp at hb
 | q::r,c::l,h,i,p,b,hp,hb,hz,hne=>by
  simp only[c9m,Bool.and_eq_true] at h
  cases i with
  | zero =>
   simp at hp hb;subst hp hb
   have:(f8 q.2&& !(q.1==q.2))=true:=by simp[hz,hne]
   rw[this] at h;exact h.1
  | succ i=>exact c7d h.2 i p b (by simpa using hp) (by simpa using hb) hz hne
theorem d4g:∀(L:List Nat) (vals:List V) (t:Nat),mk P8 L vals t= .any∨∃i:Nat,L[i]?=some t∧vals[i]?=some (mk P8 L vals t)
 | [],_,t=>.inl (by simp[mk,P8])
 | d::l, [],t=>.inl (by simp[mk,P8])
 | d::l,v::vs,t=>by
  simp only[mk,upd]
  by_cases e:t=d
  ·subst e;right;exact ⟨0,by simp,by simp⟩
  ·have:(t==d)=false:=by simpa using e
   rw[this]
   rcases d4g l vs t with h|⟨i,h1,h2⟩
   ·exact .inl h
   ·exact .inr ⟨i+1,by simpa using h1,by simpa using h2⟩
theorem c2z (f:B2→B2):∀l:List V,a2z f l=l.map (·.ren f)
 | []=>rfl
 | v::l=>by simp[a2z,c2z f l]
theorem k8 {k:Nat} {L:List Nat} {ns:List (B2×B2)} {s:St} {vals:List V} {bs:List Box} (h:a2t k L ns s=some (vals,bs)):a5a C k s (stN s.N L (S9 ns) vals bs):=by
 unfold a2t at h
 split at h
 case h_2=>cases h
 rename_i b0 hb0
 cases hchk:c4z k ns (L.map s.F) b0 with
 | false=>rw[hchk] at h;cases h
 | true =>
  rw[hchk] at h
  simp only[cond_true,Option.some.injEq,Prod.mk.injEq] at h
  obtain ⟨rfl,rfl⟩:=h
  unfold c4z at hchk
  simp only[Bool.and_eq_true] at hchk
  obtain ⟨c1,c2,c3,c4,c5,c6,c7⟩:=hchk
  obtain ⟨hlen,hat⟩:=a3k hb0
  have hst:stN s.N L (S9 ns) (a2z (L9 ns) (L.map s.F)) (b0.map (·.ren (L9 ns))++(a3g ns).map (·.2))=⟨s.N,mk P8 L (a2z (L9 ns) (L.map s.F)),ofL (a9a ns (b0.map (·.ren (L9 ns)))++a3g ns)⟩:=by
   unfold stN S9
   rw[c5u (by simp[hlen])]
  rw[hst]
  intro g a w R z
  
  let olds:=ns.map (·.2)
  let H1:B3:=fun n=>bif olds.contains n then s.H n else none
  let g1:G:=⟨g.val,g.lim,fun b=>match g.owner b with|some n=>(bif olds.contains n then some n else none)|none=>none⟩
  have hin:∀n,n∈olds→olds.contains n=true:=fun n hn=>by simpa using hn
  have hkd:∀n,n∈olds→kd H1 n=kd s.H n:=fun n hn=>by simp only[kd,H1,hin n hn,cond_true]
  have hold:∀n,n∈olds→∃(i:Nat) (p:B2×B2) (b:Box),ns[i]?=some p∧b0[i]?=some b∧p.2=n∧s.H n=some b:=fun n hn=>by
   obtain ⟨p,hp,rfl⟩:=List.mem_map.1 hn
   obtain ⟨i,hi⟩:=List.getElem?_of_mem hp
   have hlt:i<b0.length:=by rw[hlen];exact (List.getElem?_eq_some_iff.1 hi).1
   exact ⟨i,p,b0[i],hi,by simp[hlt],rfl,hat i p _ hi (by simp[hlt])⟩
  have hbn:∀n b,n∈olds→s.H n=some b→∀m∈r9 b,m∈olds:=fun n b hn hb m hm=>by
   obtain ⟨i,p,b',h1,h2,h3,h4⟩:=hold n hn
   rw[hb] at h4;cases h4
   have:=List.all_eq_true.1 c5 b (List.mem_of_getElem? h2)
   have:=List.all_eq_true.1 this m hm
   exact List.elem_iff.1 this
  have hH1:M3 w g1 H1:=by
   refine ⟨fun n b hb=>?_,fun b hb=>?_⟩
   ·simp only[H1] at hb
    cases hc:olds.contains n with
    | false=>rw[hc] at hb;cases hb
    | true =>
     rw[hc] at hb
     simp only[cond_true] at hb
     have hn:n∈olds:=by simpa using hc
     exact (R.heap.box n b hb).loc (g:=g) (g1:=g1) (H1:=H1) rfl rfl (fun b' hb'=>by simp only[g1,hb',hc,cond_true]) fun m hm=>hkd m (hbn n b hn hb m hm)
   ·have:=R.heap.fresh b hb
    exact ⟨this.1,by simp only[g1,this.2]⟩
  have hinv1:∀n m,Z3 ns n=some m→L9 ns m=n:=fun n m h=>m8 c2 (a2m h)
  have hinv2:∀n,(H1 n).isSome→Z3 ns (L9 ns n)=some n:=fun n hn=>by
   simp only[H1] at hn
   cases hc:olds.contains n with
   | false=>rw[hc] at hn;cases hn
   | true =>
    have hm:n∈olds:=by simpa using hc
    obtain ⟨p,hp,rfl⟩:=List.mem_map.1 hm
    rw[m8 (a:=p.1) c2 hp]
    exact b2v c1 hp
  obtain ⟨r1,r2⟩:=b7a (f:=L9 ns) (inv:=Z3 ns) hinv1 hinv2 hH1
  
  let H3:=ofL (a9a ns (b0.map (·.ren (L9 ns)))++a3g ns)
  let g2:=g1.ren (L9 ns) (Z3 ns)
  let g3:G:=⟨fun n=>match Z3 ns n with|some m=>g.val m|none=>g.val n,g2.lim,g2.owner⟩
  have hz3:∀n,ofL (a9a ns (b0.map (·.ren (L9 ns)))) n=(H1.ren (L9 ns) (Z3 ns)) n:=fun n=>by
   rw[b9k hb0]
   unfold B3.ren
   cases hi:Z3 ns n with
   | none=>rfl
   | some m =>
    have hm:m∈olds:=List.mem_map.2 ⟨(n,m),a2m hi,rfl⟩
    simp only[H1,hin m hm,cond_true]
    cases s.H m<;>rfl
  have hnm:L6 (H1.ren (L9 ns) (Z3 ns)) g2 H3 g3:=fun n q hq=>by
   have hsome:(H1.ren (L9 ns) (Z3 ns) n).isSome:=by
    unfold kd at hq
    cases hx:(H1.ren (L9 ns) (Z3 ns)) n with
    | none=>rw[hx] at hq;cases hq
    | some b=>rfl
   refine ⟨?_, ?_⟩
   ·unfold kd at hq ⊢
    simp only[H3,s8,hz3]
    cases hx:(H1.ren (L9 ns) (Z3 ns)) n with
    | none=>rw[hx] at hsome;cases hsome
    | some b=>rw[hx] at hq;exact hq
   ·unfold B3.ren at hsome
    cases hi:Z3 ns n with
    | none=>rw[hi] at hsome;cases hsome
    | some m=>simp only[g3,g2,G.ren,hi,g1]
  have hgr:V1 w g2.lim w g3.lim:=.refl _ _
  have hH3:M3 w g3 H3:=by
   refine ⟨fun n b hb=>?_,fun b hb=>r2.fresh b hb⟩
   simp only[H3,s8,hz3] at hb
   cases hx:(H1.ren (L9 ns) (Z3 ns)) n with
   | some b' =>
    rw[hx] at hb;simp at hb;subst hb
    exact (r2.box n b' hx).mono hx hgr hnm fun _ k hk=>⟨rfl,hk,rfl⟩
   | none =>
    rw[hx] at hb
    obtain ⟨rfl,a',h1,h2,h3⟩:=c3g hb
    show M2 (g3.val n)
    have hn:n∈olds:=List.mem_map.2 ⟨(a',n),h1,rfl⟩
    obtain ⟨i,p,b',h4,h5,h6,h7⟩:=hold n hn
    have hni:Z3 ns n=none:=by
     cases hi:Z3 ns n with
     | none=>rfl
     | some m =>
      exfalso
      have hm:=a2m hi
      have:=List.all_eq_true.1 c3 (n,m) hm
      simp only[h3,cond_true] at this
      have:n=m:=by simpa using this
      subst this
      have e1:=m8 c2 hm
      have e2:=m8 c2 h1
      exact h2 (e2.symm.trans e1)
    simp only[g3,hni]
    exact (R.heap.box n b' h7).flat
  have hval:∀v u,(∀n∈v.names,n∈olds)→E2 w g s.H v u→E2 w g3 H3 (v.ren (L9 ns)) u:=fun v u hn hr=>by
   have h1:E2 w g1 H1 v u:=hr.loc (g:=g) (g1:=g1) rfl rfl fun n hm=>hkd n (hn n hm)
   have h2:=h1.ren (g:=g1) (g':=g2) (H':=H1.ren (L9 ns) (Z3 ns)) (f:=L9 ns) (.refl _ _) r1
   exact h2.mono hgr hnm
  refine ⟨fun m hm=>?_,g3,⟨R.size,fun t=>?_,hH3,R.globs,R.defers⟩,⟨rfl,rfl,rfl,Nat.le_refl _,fun b _ ho=>⟨rfl,rfl, ?_⟩, .refl _ _⟩,fun m q hq=>?_⟩
  ·simp only[s8] at hm
   cases hx:ofL (a9a ns (b0.map (·.ren (L9 ns)))) (0::m) with
   | some b' =>
    rw[b9k hb0] at hx
    cases hi:Z3 ns (0::m) with
    | none=>rw[hi] at hx;cases hx
    | some o =>
     have hmem:=a2m hi
     have:=List.all_eq_true.1 c3 _ hmem
     simp only[f8,cond_true] at this
     have:0::m=o:=by simpa using this
     subst this
     obtain ⟨_,_,_,_,_,_,h7⟩:=hold (0::m) (List.mem_map.2 ⟨(0::m,0::m),hmem,rfl⟩)
     exact z m (by rw[h7];rfl)
   | none =>
    rw[hx] at hm
    cases hy:ofL (a3g ns) (0::m) with
    | none=>rw[hy] at hm;cases hm
    | some b' =>
     obtain ⟨_,a',h1,_⟩:=c3g hy
     obtain ⟨_,_,_,_,_,_,h7⟩:=hold (0::m) (List.mem_map.2 ⟨(a',0::m),h1,rfl⟩)
     exact z m (by rw[h7];rfl)
  ·show E2 w g3 H3 (mk P8 L (a2z (L9 ns) (L.map s.F)) t) _
   rcases d4g L (a2z (L9 ns) (L.map s.F)) t with h|⟨i,h1,h2⟩
   ·rw[h];exact .any
   ·generalize hx:mk P8 L (a2z (L9 ns) (L.map s.F)) t=x at h2 ⊢
    rw[c2z,List.map_map,List.getElem?_map,h1] at h2
    simp only[Option.map_some,Option.some.injEq,Function.comp_apply] at h2
    rw[←h2]
    refine hval _ _ (fun n hn=>?_) (R.slots t)
    have:=List.all_eq_true.1 c4 (s.F t) (List.mem_map.2 ⟨t,List.mem_of_getElem? h1,rfl⟩)
    have:=List.all_eq_true.1 this n hn
    exact List.elem_iff.1 this
  ·simp only[g3,g2,G.ren,g1,ho,Option.map_none]
  ·have hs:(s.H (0::m)).isSome:=by
    unfold kd at hq
    cases hx:s.H (0::m) with
    | none=>rw[hx] at hq;cases hq
    | some b=>rfl
   obtain ⟨i,hi,rfl⟩:=z m hs
   have hmem: [0,i]∈olds:=by
    have:=List.all_eq_true.1 c6 i (by simpa using hi)
    exact List.elem_iff.1 this
   obtain ⟨p,hp,hp2⟩:=List.mem_map.1 hmem
   obtain ⟨p1,p2⟩:=p
   simp only at hp2
   subst hp2
   by_cases e:p1= [0,i]
   ·subst e
    have hiv:=b2v c1 hp
    refine ⟨?_,by simp only[g3,hiv]⟩
    have:=r1 [0,i] q (by rw[hkd _ hmem];exact hq)
    rw[m8 c2 hp] at this
    exact (hnm _ _ this.1).1
   ·have hni:Z3 ns [0,i]=none:=by
     cases hi:Z3 ns [0,i] with
     | none=>rfl
     | some o =>
      exfalso
      have hm:=a2m hi
      have:=List.all_eq_true.1 c3 _ hm
      simp only[f8,cond_true] at this
      have: [0,i]=o:=by simpa using this
      subst this
      exact e ((m8 c2 hp).symm.trans (m8 c2 hm))
    refine ⟨?_,by simp only[g3,hni]⟩
    obtain ⟨j,p,b',h4,h5,h6,h7⟩:=hold [0,i] hmem
    have hpe:p=(p1, [0,i]):=by
     have e1:=m8 (a:=p.1) (b:=p.2) c2 (List.mem_of_getElem? h4)
     have e2:=m8 c2 hp
     rw[h6] at e1
     cases p;simp only at h6 e1;subst h6;rw[←e1,e2]
    subst hpe
    have ha:=c7d c7 j _ b' h4 h5 rfl e
    show kd H3 [0,i]=some q
    unfold kd
    simp only[H3,s8,hz3]
    have:(H1.ren (L9 ns) (Z3 ns)) [0,i]=none:=by unfold B3.ren;rw[hni]
    rw[this]
    simp only[]
    rw[b4h hp e rfl]
    unfold kd at hq
    rw[h7] at hq
    cases b'<;>simp[g9q] at ha<;>simpa [Box.kind] using hq
end
end Go.Ev
end
section
namespace Go.Ev
inductive Ad where
 | cell (n:B2) (i:Nat) (t sz:Nat) (new:B2)
 | slot (d:Nat) (t sz:Nat) (new:B2)
 | opt (n:B2) (i:Nat) (m:B2) (off:Nat)
 | flat (d:Nat)
 | flatC (n:B2) (i:Nat)
 | bools (n:B2)
 | flatA (d:Nat)
 | blob (n:B2) (lo hi:Nat)
structure Spec where
 L:List Nat
 ns:List (B2×B2)
 L':List Nat
 nm':List B2:=[]
 ads:List Ad:=[]
 G:Nat→List V→List Box→(X→List V→List Box→Prop)→Prop
def stO (N:Nat) (S:Spec) (vs:List V) (bs:List Box):St:=stN N S.L' S.nm' vs bs
structure j5 where
 split:List (B2×Nat):=[]
 ads:List Ad:=[]
 cut:List (List Nat×List (B2×B2)):=[]
def b5w:V→Bool
 | .d (.slice true _ [])=>true
 | _=>false
def e3f:V→Bool
 | .d (.lit (.pointer none))=>true
 | _=>false
def f8f (m:B2) (off:Nat):V→Bool
 | .ptr n o=>n==m&&o==off
 | .opt n o=>n==m&&o==off
 | _=>false
def a8e:V→Bool
 | .ptr _ _=>true
 | .ref _=>true
 | .hp _ _ _=>true
 | .opt _ _=>true
 | .fn _ _ _=>true
 | .d x=>b6d x
 | _=>false
def b8g {α:Type}:Option α→Bool
 | none=>true
 | some _=>false
def d2k:Option Box→Bool
 | some (.cells _ _)=>true
 | _=>false
def a2w (s:St):Ad→Option St
 | .cell n i t sz new=>match s.H n with
  | some (.cells u cs)=>bif b5w (cs.getD i .any)&&(b8g (s.H new)&& !f8 new) then some ⟨s.N,s.F,(s.H.set n (.cells u (cs.set i (.ref new)))).set new (.arr true true t sz [] [])⟩ else none
  | _=>none
 | .slot d t sz new=>bif b5w (s.F d)&&(b8g (s.H new)&& !f8 new) then some ⟨s.N,upd s.F d (.ref new),s.H.set new (.arr true true t sz [] [])⟩ else none
 | .opt n i m off=>match s.H n with
  | some (.cells u cs)=>bif (e3f (cs.getD i .any)||f8f m off (cs.getD i .any))&&d2k (s.H m) then some ⟨s.N,s.F,s.H.set n (.cells u (cs.set i (.opt m off)))⟩ else none
  | _=>none
 | .flat d=>bif a8e (s.F d) then some ⟨s.N,upd s.F d (.d .any),s.H⟩ else none
 | .flatC n i=>match s.H n with
  | some (.cells u cs)=>bif a8e (cs.getD i .any) then some ⟨s.N,s.F,s.H.set n (.cells u (cs.set i (.d .any)))⟩ else none
  | _=>none
 | .bools n=>match s.H n with
  | some (.cells u cs)=>bif cs.all s5 then some ⟨s.N,s.F,s.H.set n (.bools u cs.length)⟩ else none
  | _=>none
 | .flatA d=>match s.F d with
  | .agg cs=>some ⟨s.N,upd s.F d (.d (.agg (List.replicate cs.length .any))),s.H⟩
  | .d (.agg cs)=>some ⟨s.N,upd s.F d (.d (.agg (List.replicate cs.length .any))),s.H⟩
  | _=>none
 | .blob n lo hi=>match s.H n with
  | some (.cells u cs)=>bif a8y lo hi 0 cs&&Nat.ble hi cs.length then some ⟨s.N,s.F,s.H.set n (.blob u cs.length lo hi)⟩ else none
  | _=>none
def v8:List Ad→St→Option St
 | [],s=>some s
 | a::r,s=>match a2w s a with|some s=>v8 r s|none=>none
section
variable {C : Cx} {k : Nat} {s s' : St} {w : World} {g : G}
theorem c9o {cs:List V} {i:Nat} {v:V} (h:cs.getD i .any=v) (hne:v≠ .any):cs[i]?=some v:=by
 rw[List.getD_eq_getElem?_getD] at h
 cases hx:cs[i]? with
 | none=>rw[hx] at h;exact absurd h.symm hne
 | some x=>rw[hx] at h;simp at h;rw[h]
theorem E3.set {H:B3} {x:V}:∀{cs:List V} {vs:List Value} {i:Nat},E3 w g H cs vs→(∀u,vs[i]?=some u→E2 w g H x u)→E3 w g H (cs.set i x) vs
 | [],_,i, .nil,_=>by simpa using .nil
 | c::cs,_,0, .cons h t,k=>.cons (k _ (by simp)) t
 | c::cs,_,i+1, .cons h t,k=>.cons h (E3.set t fun u hu=>k u (by simpa using hu))
theorem d8b {n:B2} {u:TypeId} {cs:List V} {i:Nat} {x:V} {a:Act} (R:Rel C g s a w) (hb:s.H n=some (.cells u cs)) (hx:∀v,(∀y,cs[i]?=some y→E2 w g s.H y v)→(cs[i]?).isSome→E2 w g s.H x v) :
  Rel C g (s.with (s.H.set n (.cells u (cs.set i x)))) a w∧L6 s.H g (s.H.set n (.cells u (cs.set i x))) g:=by
 have hn:L6 s.H g (s.H.set n (.cells u (cs.set i x))) g:=fun m q hq=>by
  refine ⟨?_,rfl⟩
  by_cases e:m=n
  ·subst e;simp[kd,hb,Box.kind] at hq;subst hq;simp[kd,F7,Box.kind]
  ·simpa [kd,D4 _ _ e] using hq
 refine ⟨R.later (.refl _ _) hn ?_,hn⟩
 refine M3.upd (n0:=n) R.heap (.refl _ _) hn (fun _ _ _ _ ho=>⟨rfl,ho,rfl⟩) (fun m hm=>D4 _ _ hm) (fun b hb'=>?_) (fun b hb=>R.heap.fresh b hb)
 rw[F7] at hb'
 cases hb'
 obtain ⟨b,c,h1,h2,h3,h4,h5,h6⟩:=R.heap.box n _ hb
 refine ⟨b,c,h1,h2, ?_,h4,h5,h6⟩
 refine E3.mono (.refl _ _) hn (h3.set fun v hv=>hx v (fun y hy=>?_) ?_)
 ·obtain ⟨z,hz,hr⟩:=h3.get hy
  rw[hv] at hz;cases hz;exact hr
 ·have:=h3.length
  have hlt:=(List.getElem?_eq_some_iff.1 hv).1
  have:i<cs.length:=by omega
  simp[this]
theorem e3g {new:B2} {t sz:Nat} {a:Act} (R:Rel C g s a w) (hn:s.H new=none) :
  ∃g',Rel C g' (s.with (s.H.set new (.arr true true t sz [] []))) a w∧n8 w g w g'∧L6 s.H g (s.H.set new (.arr true true t sz [] [])) g'∧E2 w g' (s.H.set new (.arr true true t sz [] [])) (.ref new) (.slice none 0 0):=by
 let g':G:=⟨fun m=>if m=new then .slice none 0 0 else g.val m,g.lim,g.owner⟩
 have hnm:L6 s.H g (s.H.set new (.arr true true t sz [] [])) g':=fun m q hq=>by
  have e:m≠new:=fun e=>by subst e;simp[kd,hn] at hq
  exact ⟨by simpa [kd,D4 _ _ e] using hq,by simp[g',e]⟩
 have hgr:V1 w g.lim w g'.lim:=.refl _ _
 refine ⟨g',R.later hgr hnm ?_,⟨rfl,rfl,rfl,Nat.le_refl _,fun b _ ho=>⟨rfl,rfl,ho⟩, .refl _ _⟩,hnm, ?_⟩
 ·refine M3.upd (n0:=new) R.heap hgr hnm (fun _ _ _ _ ho=>⟨rfl,ho,rfl⟩) (fun m hm=>D4 _ _ hm) (fun b hb'=>?_) (fun b hb=>R.heap.fresh b hb)
  rw[F7] at hb'
  cases hb'
  refine ⟨[], [],by simpa [F1] using E8.nil,by simpa [F1] using E8.nil,by simp,by simp,by simp[g'],fun _=>⟨rfl,rfl⟩,fun _=>⟨?_,fun b hb=>?_⟩,fun h=>by cases h⟩
  ·simp only[g',if_true]
   exact ⟨by simp, .inl ⟨rfl,by simp⟩⟩
  ·simp[g',Value.ownBlock] at hb
 ·have:=E2.ref (w:=w) (g:=g') (H:=s.H.set new (.arr true true t sz [] [])) (n:=new) (k:=0) (by simp[kd,F7,Box.kind])
  simpa [g'] using this
theorem e3e {v:V} {u:Value} {H:B3} (h:b5w v=true) (r:E2 w g H v u):u= .slice none 0 0:=by
 unfold b5w at h
 split at h
 ·cases r with|d r=>cases r;rfl
 ·cases h
theorem e6e {v:V} (h:b5w v=true):v≠ .any:=fun e=>by subst e;cases h
theorem e2h {new:B2} {m:B2} (h:f8 new=false):(0::m)≠new:=fun e=>by subst e;cases h
theorem e6y {lim:Nat→Nat} {x:D} {u:Value} (h:b6d x=true) (r:S1 w lim x u):M2 u:=by
 cases r with
 | lit ha =>
  cases u with
  | agg a=>exact absurd rfl (ha a)
  | tuple a=>simp[b6d] at h
  | _=>exact ⟨by simp,by simp⟩
 | agg _ _=>simp[b6d] at h
 | tup _=>simp[b6d] at h
 | any h=>exact h
 | _=>exact ⟨by simp,by simp⟩
theorem c7g {H:B3} (hH:M3 w g H) {v:V} {u:Value} (h:a8e v=true) (r:E2 w g H v u):M2 u:=by
 have nf:∀n k,kd H n=some k→M2 (g.val n):=fun n k hn=>by
  obtain ⟨b,hb,_⟩:=b2s hn;exact (hH.box n b hb).flat
 cases r with
 | d r=>exact e6y h r
 | ref hk=>exact nf _ _ hk
 | ptr hk=>exact a7z (nf _ _ hk)
 | hp hk=>exact b8u (nf _ _ hk)
 | fn _ _=>exact ⟨by simp,by simp⟩
 | opt hk ho =>
  rcases ho with rfl|rfl
  ·exact ⟨by simp,by simp⟩
  ·exact a7z (nf _ _ hk)
 | agg _ _=>cases h
 | tup _=>cases h
 | zs _=>cases h
 | any=>cases h
theorem d9w {a:Ad} (h:a2w s a=some s'):a5a C k s s':=by
 intro g ac w R z
 cases a with
 | cell n i t sz new =>
  simp only[a2w] at h
  split at h
  ·rename_i u cs hb
   cases hc:(b5w (cs.getD i .any)&&(b8g (s.H new)&& !f8 new)) with
   | false=>rw[hc] at h;cases h
   | true =>
    rw[hc] at h
    simp only[cond_true,Option.some.injEq] at h
    subst h
    simp only[Bool.and_eq_true,Bool.not_eq_true'] at hc
    obtain ⟨h1,h2,h3⟩:=hc
    have hnone:s.H new=none:=by
     cases hx:s.H new with
     | none=>rfl
     | some b=>rw[hx] at h2;cases h2
    have hne:new≠n:=fun e=>by subst e;rw[hb] at hnone;cases hnone
    obtain ⟨g',r1,st,nm,rv⟩:=e3g (t:=t) (sz:=sz) R hnone
    have hb1:(s.with (s.H.set new (.arr true true t sz [] []))).H n=some (.cells u cs):=by
     show s.H.set new _ n=_
     rw[D4 _ _ (Ne.symm hne)];exact hb
    have hat:=c9o (i:=i) rfl (e6e h1)
    obtain ⟨r2,nm2⟩:=d8b (i:=i) (x:=.ref new) r1 hb1 fun v hv _=>by
     have:=hv _ hat
     rw[e3e h1 this];exact rv
    have he:((s.H.set new (.arr true true t sz [] [])).set n (.cells u (cs.set i (.ref new))))=(s.H.set n (.cells u (cs.set i (.ref new)))).set new (.arr true true t sz [] []):=by
     funext m
     by_cases e1:m=n
     ·subst e1;rw[F7,D4 _ _ (Ne.symm hne),F7]
     ·by_cases e2:m=new
      ·subst e2;rw[D4 _ _ e1,F7,F7]
      ·rw[D4 _ _ e1,D4 _ _ e2,D4 _ _ e2,D4 _ _ e1]
    refine ⟨fun m hm=>z m ?_,g', ?_,st, ?_⟩
    ·simp only[] at hm
     rw[D4 _ _ (e2h h3)] at hm
     by_cases e1:(0::m)=n
     ·rw[e1,hb];rfl
     ·rw[D4 _ _ e1] at hm;exact hm
    ·rw[←he];exact r2
    ·show a2x s.H g ((s.H.set n (.cells u (cs.set i (.ref new)))).set new (.arr true true t sz [] [])) g'
     rw[←he];exact .of_names (nm.trans nm2)
  ·cases h
 | slot d t sz new =>
  simp only[a2w] at h
  cases hc:(b5w (s.F d)&&(b8g (s.H new)&& !f8 new)) with
  | false=>rw[hc] at h;cases h
  | true =>
   rw[hc] at h
   simp only[cond_true,Option.some.injEq] at h
   subst h
   simp only[Bool.and_eq_true,Bool.not_eq_true'] at hc
   obtain ⟨h1,h2,h3⟩:=hc
   have hnone:s.H new=none:=by
    cases hx:s.H new with
    | none=>rfl
    | some b=>rw[hx] at h2;cases h2
   obtain ⟨g',r1,st,nm,rv⟩:=e3g (t:=t) (sz:=sz) R hnone
   refine ⟨fun m hm=>z m ?_,g',⟨r1.size,fun q=>?_,r1.heap,r1.globs,r1.defers⟩,st, .of_names nm⟩
   ·simp only[] at hm
    rw[D4 _ _ (e2h h3)] at hm;exact hm
   ·show E2 w g' (s.H.set new (.arr true true t sz [] [])) (upd s.F d (.ref new) q) _
    unfold upd
    by_cases e:q=d
    ·subst e
     simp only[beq_self_eq_true,cond_true]
     rw[e3e h1 (R.slots q)];exact rv
    ·have:(q==d)=false:=by simpa using e
     rw[this];exact r1.slots q
 | opt n i m off =>
  simp only[a2w] at h
  split at h
  ·rename_i u cs hb
   cases hc:((e3f (cs.getD i .any)||f8f m off (cs.getD i .any))&&d2k (s.H m)) with
   | false=>rw[hc] at h;cases h
   | true =>
    rw[hc] at h
    simp only[cond_true,Option.some.injEq] at h
    subst h
    simp only[Bool.and_eq_true,Bool.or_eq_true] at hc
    obtain ⟨h1,h2⟩:=hc
    have hk:kd s.H m=some 0:=by
     unfold d2k at h2
     split at h2
     ·rename_i hx;simp[kd,hx,Box.kind]
     ·cases h2
    have hne:cs.getD i .any≠ .any:=fun e=>by rw[e] at h1;rcases h1 with h1|h1<;>cases h1
    have hat:=c9o (i:=i) rfl hne
    obtain ⟨r2,nm2⟩:=d8b (i:=i) (x:=.opt m off) R hb fun v hv _=>by
     have hr:=hv _ hat
     refine .opt hk ?_
     generalize cs.getD i V.any=y at h1 hr
     rcases h1 with h1|h1
     ·unfold e3f at h1
      split at h1
      ·exact .inl hr.lit_inv
      ·cases h1
     ·unfold f8f at h1
      split at h1
      ·simp only[Bool.and_eq_true,beq_iff_eq] at h1
       obtain ⟨rfl,rfl⟩:=h1
       cases hr;exact .inr rfl
      ·simp only[Bool.and_eq_true,beq_iff_eq] at h1
       obtain ⟨rfl,rfl⟩:=h1
       cases hr;assumption
      ·cases h1
    refine ⟨fun q hq=>z q ?_,g,r2, .refl _ _, .of_names nm2⟩
    simp only[] at hq
    by_cases e1:(0::q)=n
    ·rw[e1,hb];rfl
    ·rw[D4 _ _ e1] at hq;exact hq
  ·cases h
 | flat d =>
  simp only[a2w] at h
  cases hc:a8e (s.F d) with
  | false=>rw[hc] at h;cases h
  | true =>
   rw[hc] at h
   simp only[cond_true,Option.some.injEq] at h
   subst h
   refine ⟨z,g,⟨R.size,fun q=>?_,R.heap,R.globs,R.defers⟩, .refl _ _, .refl _ _⟩
   show E2 w g s.H (upd s.F d (.d .any) q) _
   unfold upd
   by_cases e:q=d
   ·subst e
    simp only[beq_self_eq_true,cond_true]
    exact .d (.any (c7g R.heap hc (R.slots q)))
   ·have:(q==d)=false:=by simpa using e
    rw[this];exact R.slots q
 | flatC n i =>
  simp only[a2w] at h
  split at h
  ·rename_i u cs hb
   cases hc:a8e (cs.getD i .any) with
   | false=>rw[hc] at h;cases h
   | true =>
    rw[hc] at h
    simp only[cond_true,Option.some.injEq] at h
    subst h
    have hat:=c9o (i:=i) rfl (fun e=>by rw[e] at hc;cases hc)
    obtain ⟨r2,nm2⟩:=d8b (i:=i) (x:=.d .any) R hb fun v hv _=>.d (.any (c7g R.heap hc (hv _ hat)))
    refine ⟨fun q hq=>z q ?_,g,r2, .refl _ _, .of_names nm2⟩
    simp only[] at hq
    by_cases e1:(0::q)=n
    ·rw[e1,hb];rfl
    ·rw[D4 _ _ e1] at hq;exact hq
  ·cases h
 | bools n =>
  simp only[a2w] at h
  split at h
  ·rename_i u cs hb
   cases hc:cs.all s5 with
   | false=>rw[hc] at h;cases h
   | true =>
    rw[hc] at h
    simp only[cond_true,Option.some.injEq] at h
    subst h
    have hn:L6 s.H g (s.H.set n (.bools u cs.length)) g:=fun m q hq=>by
     refine ⟨?_,rfl⟩
     by_cases e:m=n
     ·subst e;simp[kd,hb,Box.kind] at hq;subst hq;simp[kd,F7,Box.kind]
     ·simpa [kd,D4 _ _ e] using hq
    refine ⟨fun q hq=>z q ?_,g,R.later (.refl _ _) hn ?_, .refl _ _, .of_names hn⟩
    ·simp only[] at hq
     by_cases e1:(0::q)=n
     ·rw[e1,hb];rfl
     ·rw[D4 _ _ e1] at hq;exact hq
    ·refine M3.upd (n0:=n) R.heap (.refl _ _) hn (fun _ _ _ _ ho=>⟨rfl,ho,rfl⟩) (fun m hm=>D4 _ _ hm) (fun b hb'=>?_) (fun b hb=>R.heap.fresh b hb)
     rw[F7] at hb'
     cases hb'
     obtain ⟨b,c,h1,h2,h3,h4,h5,h6⟩:=R.heap.box n _ hb
     refine ⟨b,c,h1,h2,by have:=h3.length;simp at this;omega, ?_,h5,h6⟩
     have key:∀(l:List V) (m:List Value),l.all s5=true→E3 w g s.H l m→∀v∈m,∃x,v= .bool x:=by
      intro l
      induction l with
      | nil=>intro m _ h v hv;cases h;cases hv
      | cons x l ih =>
       intro m ha h v hv
       cases h with
       | cons hx ht =>
        simp only[List.all_cons,Bool.and_eq_true] at ha
        rcases List.mem_cons.1 hv with rfl|hv
        ·have hb:=ha.1
         unfold s5 at hb
         split at hb
         ·exact ⟨_,hx.lit_inv'⟩
         ·cases hx with|d hx=>cases hx;exact ⟨_,rfl⟩
         ·cases hb
        ·exact ih _ ha.2 ht v hv
     exact key cs c.toList hc h3
  ·cases h
 | flatA d =>
  have hR:=R.slots d
  have key:∀(k:Nat) (a0:Array Value),(∀v∈a0.toList,M2 v)→a0.size=k→E2 w g s.H (.d (.agg (List.replicate k .any))) (.agg a0):=fun k a0 hf hk=>by
   refine .d (.agg ?_ hf)
   rw[←hk, ←Array.length_toList]
   exact d7b hf
  suffices hh:∃k:Nat,E2 w g s.H (.d (.agg (List.replicate k .any))) (ac.tmps.getD d undef)∧s'=⟨s.N,upd s.F d (.d (.agg (List.replicate k .any))),s.H⟩ by
   obtain ⟨k,hk,rfl⟩:=hh
   refine ⟨z,g,⟨R.size,fun q=>?_,R.heap,R.globs,R.defers⟩, .refl _ _, .refl _ _⟩
   show E2 w g s.H (upd s.F d _ q) _
   unfold upd
   by_cases e:q=d
   ·subst e
    simp only[beq_self_eq_true,cond_true]
    exact hk
   ·have:(q==d)=false:=by simpa using e
    rw[this];exact R.slots q
  simp only[a2w] at h
  split at h
  ·rename_i cs hs
   simp only[Option.some.injEq] at h
   rw[hs] at hR
   refine ⟨cs.length, ?_,h.symm⟩
   generalize ac.tmps.getD d undef=u at hR ⊢
   cases hR with
   | agg hr hf=>exact key _ _ hf (by have:=hr.length;simp at this;omega)
  ·rename_i cs hs
   simp only[Option.some.injEq] at h
   rw[hs] at hR
   refine ⟨cs.length, ?_,h.symm⟩
   generalize ac.tmps.getD d undef=u at hR ⊢
   cases hR with
   | d hr =>
    cases hr with
    | agg hr hf=>exact key _ _ hf (by have:=hr.length;simp at this;omega)
  ·cases h
 | blob n lo hi =>
  simp only[a2w] at h
  split at h
  ·rename_i u cs hb
   cases hc:(a8y lo hi 0 cs&&Nat.ble hi cs.length) with
   | false=>rw[hc] at h;cases h
   | true =>
    rw[hc] at h
    simp only[cond_true,Option.some.injEq] at h
    subst h
    simp only[Bool.and_eq_true] at hc
    have hn:L6 s.H g (s.H.set n (.blob u cs.length lo hi)) g:=fun m q hq=>by
     refine ⟨?_,rfl⟩
     by_cases e:m=n
     ·subst e;simp[kd,hb,Box.kind] at hq;subst hq;simp[kd,F7,Box.kind]
     ·simpa [kd,D4 _ _ e] using hq
    refine ⟨fun q hq=>z q ?_,g,R.later (.refl _ _) hn ?_, .refl _ _, .of_names hn⟩
    ·simp only[] at hq
     by_cases e1:(0::q)=n
     ·rw[e1,hb];rfl
     ·rw[D4 _ _ e1] at hq;exact hq
    ·refine M3.upd (n0:=n) R.heap (.refl _ _) hn (fun _ _ _ _ ho=>⟨rfl,ho,rfl⟩) (fun m hm=>D4 _ _ hm) (fun b hb'=>?_) (fun b hb=>R.heap.fresh b hb)
     rw[F7] at hb'
     cases hb'
     obtain ⟨b,c,h1,h2,h3,h4,h5,h6⟩:=R.heap.box n _ hb
     have hl:=h3.length
     simp at hl
     refine ⟨b,c,h1,h2,by omega,⟨h4,fun i i1 i2=>?_⟩,h5,h6⟩
     have hle:=Nat.le_of_ble_eq_true hc.2
     have hlt:i<c.toList.length:=by simp;omega
     obtain ⟨x,hx,hr⟩:=E3.at h3 (List.getElem?_eq_getElem hlt)
     obtain ⟨y,hy⟩:=b7t (b9j hc.1 hx (by omega) (by omega)) hr
     exact ⟨y,by rw[List.getElem?_eq_getElem hlt,hy]⟩
  ·cases h
theorem V9:∀{l:List Ad} {s s':St},v8 l s=some s'→a5a C k s s'
 | [],s,s',h=>by simp[v8] at h;subst h;exact .refl
 | a::r,s,s',h=>by
  unfold v8 at h
  split at h
  ·rename_i s1 h1
   exact (d9w h1).trans (V9 h)
  ·cases h
theorem f9n {a:Ad} (h:a2w s a=some s'):s'.N=s.N:=by
 cases a with
 | cell n i t sz new =>
  simp only[a2w] at h
  split at h
  ·rename_i u cs _
   cases hc:(b5w (cs.getD i .any)&&(b8g (s.H new)&& !f8 new)) with
   | false=>rw[hc] at h;cases h
   | true=>rw[hc] at h;simp at h;subst h;rfl
  ·cases h
 | slot d t sz new =>
  simp only[a2w] at h
  cases hc:(b5w (s.F d)&&(b8g (s.H new)&& !f8 new)) with
  | false=>rw[hc] at h;cases h
  | true=>rw[hc] at h;simp at h;subst h;rfl
 | opt n i m off =>
  simp only[a2w] at h
  split at h
  ·rename_i u cs _
   cases hc:((e3f (cs.getD i .any)||f8f m off (cs.getD i .any))&&d2k (s.H m)) with
   | false=>rw[hc] at h;cases h
   | true=>rw[hc] at h;simp at h;subst h;rfl
  ·cases h
 | flat d =>
  simp only[a2w] at h
  cases hc:a8e (s.F d) with
  | false=>rw[hc] at h;cases h
  | true=>rw[hc] at h;simp at h;subst h;rfl
 | flatC n i =>
  simp only[a2w] at h
  split at h
  ·rename_i u cs _
   cases hc:a8e (cs.getD i .any) with
   | false=>rw[hc] at h;cases h
   | true=>rw[hc] at h;simp at h;subst h;rfl
  ·cases h
 | bools n =>
  simp only[a2w] at h
  split at h
  ·rename_i u cs _
   cases hc:cs.all s5 with
   | false=>rw[hc] at h;cases h
   | true=>rw[hc] at h;simp at h;subst h;rfl
  ·cases h
 | flatA d =>
  simp only[a2w] at h
  split at h
  ·simp at h;subst h;rfl
  ·simp at h;subst h;rfl
  ·cases h
 | blob n lo hi =>
  simp only[a2w] at h
  split at h
  ·rename_i u cs _
   cases hc:(a8y lo hi 0 cs&&Nat.ble hi cs.length) with
   | false=>rw[hc] at h;cases h
   | true=>rw[hc] at h;simp only[cond_true,Option.some.injEq] at h;subst h;rfl
  ·cases h
theorem c5j:∀{l:List Ad} {s s':St},v8 l s=some s'→s'.N=s.N
 | [],s,s',h=>by simp[v8] at h;subst h;rfl
 | a::r,s,s',h=>by
  unfold v8 at h
  split at h
  ·rename_i s1 h1
   exact (c5j h).trans (f9n h1)
  ·cases h
theorem f9s {n:B2} {i:Nat} {u:TypeId} {cs:List V} {m:B2} {off:Nat} {c:Code} {K:X→St→Prop} (hb:s.H n=some (.cells u cs)) (hi:cs[i]?=some (.opt m off))
  (h1:T C k c ⟨s.N,s.F,s.H.set n (.cells u (cs.set i (.d (.lit (.pointer none)))))⟩ K) (h2:T C k c ⟨s.N,s.F,s.H.set n (.cells u (cs.set i (.ptr m off)))⟩ K):T C k c s K:=fun g a w Q R z hq=>by
 have hz:∀b,Z0 k (s.H.set n b):=fun b q hq=>z q (by
  by_cases e1:(0::q)=n
  ·rw[e1,hb];rfl
  ·rw[D4 _ _ e1] at hq;exact hq)
 obtain ⟨b,c0,e1,e2,e3,e4,e5,e6⟩:=R.heap.box n _ hb
 obtain ⟨v0,hv0,hr0⟩:=e3.get hi
 have hkm:kd s.H m=some 0:=by cases hr0;assumption
 have key:∀x,E2 w g s.H x v0→T C k c ⟨s.N,s.F,s.H.set n (.cells u (cs.set i x))⟩ K→c.wp C.P Q a w:=fun x hx ht=>by
  have hn:L6 s.H g (s.H.set n (.cells u (cs.set i x))) g:=fun m q hq=>by
   refine ⟨?_,rfl⟩
   by_cases e:m=n
   ·subst e;simp[kd,hb,Box.kind] at hq;subst hq;simp[kd,F7,Box.kind]
   ·simpa [kd,D4 _ _ e] using hq
  have hR:Rel C g (s.with (s.H.set n (.cells u (cs.set i x)))) a w:=by
   refine R.later (.refl _ _) hn (M3.upd (n0:=n) R.heap (.refl _ _) hn (fun _ _ _ _ ho=>⟨rfl,ho,rfl⟩) (fun m hm=>D4 _ _ hm) (fun b' hb'=>?_) (fun b hb=>R.heap.fresh b hb))
   rw[F7] at hb'
   cases hb'
   refine ⟨b,c0,e1,e2,E3.mono (.refl _ _) hn (e3.set fun v hv=>?_),e4,e5,e6⟩
   rw[hv0] at hv;cases hv;exact hx
  exact ht g a w Q hR (hz _) fun x s' a' w' hk z' hp=>hq x s' a' w' hk z' (hp.after (.refl _ _) (.of_names hn))
 cases hr0 with
 | opt hk ho =>
  rcases ho with rfl|rfl
  ·exact key _ (.d (.lit (by simp))) h1
  ·exact key _ (.ptr hk) h2
end
end Go.Ev
end
section
namespace Go.Ev
def b7r (C:Cx):Nat→TypeId→Option (List TypeId)
 | 0,_=>none
 | n+1,t=>match F5 C t with
  | some (.struct fs)=>fs.toList.foldr (fun f r=>match b7r C n f.type,r with|some a,some l=>some (a++l)|_,_=>none) (some [])
  | some (.array k e)=>match b7r C n e with|some l=>some (List.replicate k l).flatten|none=>none
  | some _=>some [t]
  | none=>none
def j2d (C:Cx) (t:TypeId):Bool:=match F5 C t with|some u=>j9 u|none=>false
def g9b (C:Cx) (t:TypeId) (y:D):D:=bif j2d C t then (match b7r C 8 t with|some ts=>.agg (c7n C ts 0 y)|none=>y) else f3m C t y
structure Ct where
 pre:List D→Prop
 f:List D→Option D
noncomputable def Ct.gate (c:Ct) (ds:List D):Option D:=open Classical in if c.pre ds then c.f ds else none
abbrev Tab:=FuncId→Option Ct
noncomputable def Cx.tab (C:Cx) (tb:Tab):Cx:={C with ext:=fun K=>match tb K with|some c=>some c.gate|none=>none }
section
variable (C : Cx) (tb : Tab)
abbrev Ann:=Nat→List (Nat×Bool)
def sub (a b:List (Nat×Bool)):Bool:=a.all fun p=>b.contains p
def ovA (s:St) (A:Ann) (ch:List (Nat×Bool)):Operand→Option V
 | .tmp t=>bif sub (A t) ch then some (s.F t) else none
 | x=>F8 C s.F x
def ovs (ov:Operand→Option V):List Operand→Option (List V)
 | []=>some []
 | x::r=>match ov x,ovs ov r with|some v,some l=>some (v::l)|_,_=>none
def d9s (C:Cx) (H:B3) (t:TypeId) (a:V):Option Prop:=match a with
 | .ptr n off=>match H n with
  | some (.bools _ k)=>(match F5 C t,M4 C t with
   | some u,some _=>bif j9 u then none else some (off<k)
   | _,_=>none)
  | some (.blob _ _ lo hi)=>(match F5 C t,M4 C t with
   | some u,some _=>bif j9 u then none else some (lo≤off∧off<hi)
   | _,_=>none)
  | _=>none
 | _=>none
def b4c (ov:Operand→Option V):List (Nat×Operand)→Option (List (Nat×V))
 | []=>some []
 | (i,x)::r=>match ov x,b4c ov r with|some v,some l=>some ((i,v)::l)|_,_=>none
theorem c6o {ov:Operand→Option V} {F:Nat→V} (hov:∀x v,ov x=some v→F8 C F x=some v):∀{l:List (Nat×Operand)} {r:List (Nat×V)},b4c ov l=some r→P7 C F l=some r
 | [],r,h=>by simpa [b4c,P7] using h
 | (i,x)::l,r,h=>by
  unfold b4c at h
  cases hx:ov x with
  | none=>simp[hx] at h
  | some v =>
   cases hl:b4c ov l with
   | none=>simp[hx,hl] at h
   | some m=>simp[hx,hl] at h;subst h;simp only[P7,hov x v hx,c6o hov hl]
def a7q:D→Bool
 | .lit (.int .u8 n)=>decide (0≤n)&&decide (n<256)
 | _=>false
def b3h (xs:List D):ByteArray:=⟨(xs.map fun d=>UInt8.ofNat (A1 d).toNat).toArray⟩
def c5t (xs:List D):Prop:=∀d∈xs,a7q d=true
theorem b9g:∀{xs:List D},c5t xs→W5 xs=some (xs.map fun d=>UInt8.ofNat (A1 d).toNat)
 | [],_=>rfl
 | d::r,h=>by
  have hd:a7q d=true:=h d (by simp)
  have ih:=b9g (xs:=r) fun x hx=>h x (by simp[hx])
  unfold a7q at hd
  split at hd
  ·simp[W5,ih,A1]
  ·cases hd
def bytesOf (H:B3) (src dst:TypeId) (x:V):Option (List D):=match F5 C src,F5 C dst with
 | some (.slice e),some .string=>(match F5 C e,a4n H x with
  | some (.int .u8),some (_,sz,xs)=>bif sz==1 then some xs else none
  | _,_=>none)
 | _,_=>none
def f5h (ov:Operand→Option V) (H:B3) (o:Oper):Option (V×Option Prop):=match o.op with
 | .move x | .assign x=>match ov x with|some v=>some (v,none)|none=>none
 | .load t a=>match ov a with
  | some a=>(match d9s C H t a with
   | some p=>some (.d .anyB,some p)
   | none=>(match a3c C H t a with|some v=>some (v,none)|none=>none))
  | none=>none
 | .nilCheck x=>match ov x with
  | some (.ptr n off)=>some (.ptr n off,none)
  | some (.d (.elem cs))=>some (.d (.elem cs),none)
  | _=>none
 | .unOp op _ x=>match ov x with|some x=>(match e7a op x with|some v=>some (v,none)|none=>none)|none=>none
 | .build t parts=>match b4c ov parts.toList with|some l=>(match b3c C t l with|some v=>some (v,none)|none=>none)|none=>none
 | .convert src dst x=>match ov x with
  | some x=>(match bytesOf C H src dst x with
   | some xs=>some (.d (.lit (.string (b3h xs))),some (c5t xs))
   | none=>(match X5 C H src dst x with|some v=>some (v,none)|none=>none))
  | none=>none
 | .fieldAddr st x f=>match ov x,b3a C st f with
  | some x,some fd=>match M4 C fd.type with
   | some k=>bif k==0 then none else (match x with
    | .ptr n off=>some (.ptr n (off+fd.offset),none)
    | .d (.elem cs)=>some (.d (.elem (cs.drop fd.offset)),none)
    | _=>none)
   | none=>none
  | _,_=>none
 | .field st x f=>match ov x,b3a C st f with
  | some x,some fd=>(match b3p C fd.type fd.offset x with|some v=>some (v,none)|none=>none)
  | _,_=>none
 | .extract t i=>match ov t with
  | some (.d (.tup ds))=>match ds[i]? with|some x=>some (.d x,none)|none=>none
  | some (.tup vs)=>match vs[i]? with|some x=>some (x,none)|none=>none
  | _=>none
 | .index t x i=>match F5 C t,ov x,ov i with
  | some .string,some (.d (.lit (.string s))),some (.d (.lit (.int k i)))=>some (.d (.lit (.int .u8 (A9 s i.toNat))),some (0≤i∧i.toNat<s.size))
  | _,some x,some i=>(match a2s C t x i with|some v=>some (v,none)|none=>none)
  | _,_,_=>none
 | .indexAddr t x i=>match F5 C t,ov x,ov i with
  | some (.slice e),some x,some (.d (.lit (.int k i)))=>match a4n H x,M4 C e with
   | some (_,sz,xs),some z=>bif sz==z then some (.d (.elem (g9b C e (xs.getD i.toNat .any)).cells),some (0≤i∧i.toNat<xs.length∧g9b C e (xs.getD i.toNat .any)=xs.getD i.toNat .any)) else none
   | _,_=>none
  | some (.array n e),some (.ptr m off),some (.d (.lit (.int k i)))=>(match M4 C e with
   | some z=>some (.ptr m (off+i.toNat*z),some (0≤i∧i.toNat<n))
   | none=>none)
  | _,some x,some i=>(match K9 C H t x i with|some v=>some (v,none)|none=>none)
  | _,_,_=>none
 | .slice t x lo hi none=>match F5 C t,ov x,(match lo with|none=>some none|some x=>match ov x with|some v=>some (some v)|none=>none),(match hi with|none=>some none|some x=>match ov x with|some v=>some (some v)|none=>none) with
  | some .string,some (.d (.lit (.string s))),some lo,some hi=>(match lo,hi with
   | none,none=>some (C6 (s.extract 0 s.size),none)
   | some (.d (.lit (.int _ l))),none=>some (C6 (s.extract l.toNat s.size),some (0≤l∧l.toNat≤s.size))
   | none,some (.d (.lit (.int _ h)))=>some (C6 (s.extract 0 h.toNat),some (0≤h∧h.toNat≤s.size))
   | some (.d (.lit (.int _ l))),some (.d (.lit (.int _ h)))=>some (C6 (s.extract l.toNat h.toNat),some (0≤l∧0≤h∧l.toNat≤h.toNat∧h.toNat≤s.size))
   | _,_=>none)
  | _,_,_,_=>none
 | .binOp op t x y _=>match ov x,ov y with
  | some (.d (.lit (.int k a))),some (.d (.lit (.int k' b)))=>(match op with
   | .quo=>some (.d (.lit (.int k (k.wrap (a.tdiv b)))),some (k=k'∧b≠0))
   | .rem=>some (.d (.lit (.int k (a.tmod b))),some (k=k'∧b≠0))
   | _=>(match q9 C H op t (.d (.lit (.int k a))) (.d (.lit (.int k' b))) with|some v=>some (v,none)|none=>none))
  | some (.d (.lit (.string a))),some (.d (.lit (.string b)))=>(match op with
   | .add=>some (C6 (a++b),some (a.size+b.size≤9223372036854775807))
   | _=>(match q9 C H op t (C6 a) (C6 b) with|some v=>some (v,none)|none=>none))
  | some vx,some vy=>bif a3d vx&&a3d vy&& !(Region.isConst x||Region.isConst y) then none else (match q9 C H op t vx vy with|some v=>some (v,none)|none=>none)
  | _,_=>none
 | .call c=>match ovs ov c.args.toList with
  | none=>none
  | some args=>match c.callee with
   | .builtin .len=>match c.argTypes[0]?,args with
    | some t, [x]=>(match b8r C H t x with|some v=>some (v,none)|none=>none)
    | _,_=>none
   | .builtin .min=>(match a9x false args with|some v=>some (v,none)|none=>none)
   | .builtin .max=>(match a9x true args with|some v=>some (v,none)|none=>none)
   | .value f=>match ov f with
    | some (.fn (.func K) first cap)=>(match tb K,a3s H (first++args++cap) with
     | some ct,some ds=>(match ct.f ds with|some r=>some (.d r,some (ct.pre ds))|none=>none)
     | _,_=>none)
    | _=>none
   | _=>none
 | _=>none
def e9p (c a b:V):Option (V×Option Prop):=match c with
 | .d (.lit (.bool t))=>match a,b with
  | .d (.lit (.bool x)), .d (.lit (.bool y))=>some (A6 (bif t then x else y),none)
  | .d (.lit (.int k x)), .d (.lit (.int k' y))=>bif decide (k=k') then some (.d (.lit (.int k (bif t then x else y))),none) else none
  | a, .any=>some (a,some (t=true))
  | .any,b=>some (b,some (t=false))
  | a,b=>bif t then some (a,none) else some (b,none)
 | _=>none
def e9u (s:St) (ch:List (Nat×Bool)) (v:List (Nat×Bool)→Bool) (p:Option Prop) (k:Prop):Prop:=match p with
 | none=>k
 | some p=>match ch with
  | []=>p∧k
  | _::_=>(v ch=true→p)∧k
def isB (v:V) (w:Bool):Bool:=match v with | .d (.lit (.bool b))=>(bif w then b else !b)|_=>false
def M8 (s:St) (ch:List (Nat×Bool)):Bool:=ch.all fun p=>isB (s.F p.1) p.2
def d2j (ops:Array Oper) (A:Ann) (o:Oper):Option (List (Nat×Bool)):=match o.guard with
 | none=>some []
 | some (j,want)=>match (ops[j]?).bind (·.dst) with
  | none=>none
  | some d=>some ((d,want)::A d)
def c2n (v:V):Bool:=match v with | .d (.lit (.bool _))=>true|_=>false
def a6b (A:Ann) (d:Nat) (ch:List (Nat×Bool)):Ann:=fun t=>bif t==d then ch else A t
def a3h (s:St) (A:Ann):St:=⟨s.N,fun t=>match A t with | []=>s.F t|_::_=>.any,s.H⟩
def b3o (ops:Array Oper):List Oper→St→Ann→List Nat→(St→Prop)→Prop
 | [],s,A,_,K=>K (a3h s A)
 | o::rest,s,A,gs,K=>match d2j ops A o,o.dst with
  | some ch,some d=>bif ch.all (fun p=>c2n (s.F p.1))&&Nat.blt d s.N&& !(gs.contains d)&& !(ch.any fun p=>p.1==d) then
    (match o.op with
    | .pick (.tmp c) a b=>match ovA C s A ch (.tmp c),ovA C s A ((c,true)::(A c++ch)) a,ovA C s A ((c,false)::(A c++ch)) b with
     | some vc,some va,some vb=>(match e9p vc va vb with
      | some (v,p)=>bif c==d then False else e9u s ch (M8 s) p (b3o ops rest ⟨s.N,upd s.F d v,s.H⟩ (a6b A d ch) (c::(ch.map (·.1)++gs)) K)
      | none=>False)
     | _,_,_=>False
    | _=>match f5h C tb (ovA C s A ch) s.H o with
     | some (v,p)=>e9u s ch (M8 s) p (b3o ops rest ⟨s.N,upd s.F d v,s.H⟩ (a6b A d ch) (ch.map (·.1)++gs) K)
     | none=>(match ch with
      | []=>False
      | _::_=>e9u s ch (M8 s) (some False) (b3o ops rest ⟨s.N,upd s.F d .any,s.H⟩ (a6b A d ch) (ch.map (·.1)++gs) K)))
   else False
  | _,_=>False
end
structure a8u (q s:St) (A:Ann) (gs:List Nat):Prop where
 N:q.N=s.N
 H:q.H=s.H
 yes:∀t,M8 s (A t)=true→q.F t=s.F t
 no:∀t,M8 s (A t)=false→q.F t=N5
 has:∀t p,p∈A t→p.1∈gs
section
variable {C : Cx} {tb : Tab} {q s : St} {A : Ann} {gs : List Nat}
theorem c5w {a b:List (Nat×Bool)} (h:sub a b=true) (hb:M8 s b=true):M8 s a=true:=by
 refine List.all_eq_true.2 fun p hp=>List.all_eq_true.1 hb p ?_
 have:=List.all_eq_true.1 h p hp
 exact List.elem_iff.1 this
theorem b5s (U:a8u q s A gs) {ch:List (Nat×Bool)} (hv:M8 s ch=true) {x:Operand} {v:V} (h:ovA C s A ch x=some v):F8 C q.F x=some v:=by
 cases x with
 | tmp t =>
  simp only[ovA] at h
  cases hs:sub (A t) ch with
  | false=>rw[hs] at h;cases h
  | true =>
   rw[hs] at h
   simp only[cond_true,Option.some.injEq] at h
   simp only[F8,U.yes t (c5w hs hv),h]
 | const u=>exact h
 | global g=>exact h
 | func f=>simpa [F8,ovA] using h
theorem c6p {ov:Operand→Option V} (hov:∀x v,ov x=some v→F8 C q.F x=some v):∀{l:List Operand} {vs:List V},ovs ov l=some vs→Q0 C q.F l=some vs
 | [],vs,h=>by simpa [ovs,Q0] using h
 | x::r,vs,h=>by
  unfold ovs at h
  split at h
  ·rename_i v l hv hl
   simp at h;subst h
   unfold Q0
   rw[hov x v hv,c6p hov hl]
  ·cases h
end
end Go.Ev
end
section
namespace Go.Ev
section
variable {C : Cx} {tb : Tab} {q s : St} {A : Ann} {gs : List Nat}
def Has (C:Cx) (tb:Tab):Prop:=∀K,C.ext K=match tb K with|some c=>some c.gate|none=>none
theorem e6v {c:Ct} {ds:List D} (h:c.pre ds):c.gate ds=c.f ds:=by unfold Ct.gate;rw[if_pos h]
theorem c8c (hE:Has C tb) {ov:Operand→Option V} (hov:∀x v,ov x=some v→F8 C q.F x=some v) {o:Oper} {v:V} {p:Option Prop} (h:f5h C tb ov q.H o=some (v,p)) (hp:∀P,p=some P→P)
  {y:Bool} {call:E9}:D6 C y call o q=q.put o.dst v:=by
 obtain ⟨dst,op,type,pos,after,guard⟩:=o
 unfold f5h at h
 cases op with
 | move x =>
  simp only[] at h
  cases hx:ov x with
  | none=>simp[hx] at h
  | some u=>simp[hx] at h;obtain ⟨rfl,rfl⟩:=h;simp only[D6,hov x u hx];rfl
 | assign x =>
  simp only[] at h
  cases hx:ov x with
  | none=>simp[hx] at h
  | some u=>simp[hx] at h;obtain ⟨rfl,rfl⟩:=h;simp only[D6,hov x u hx];rfl
 | load t a =>
  simp only[] at h
  cases hx:ov a with
  | none=>simp[hx] at h
  | some u =>
   simp only[hx] at h
   cases hbA:d9s C q.H t u with
   | some P =>
    simp only[hbA,Option.some.injEq,Prod.mk.injEq] at h
    obtain ⟨rfl,rfl⟩:=h
    have hP:=hp P rfl
    unfold d9s at hbA
    split at hbA
    ·rename_i n off
     split at hbA
     ·rename_i bt k hb
      split at hbA
      ·rename_i du sz hu hs
       cases ha:j9 du with
       | true=>rw[ha] at hbA;cases hbA
       | false =>
        rw[ha] at hbA
        simp only[cond_false,Option.some.injEq] at hbA
        subst hbA
        have hlt:Nat.blt off k=true:=by simpa [Nat.blt_eq] using hP
        simp only[D6,hov a _ hx,a3c,hb,hu,hs,ha,cond_false,hlt,cond_true]
        rfl
      ·cases hbA
     ·rename_i bt bk lo hi hb
      split at hbA
      ·rename_i du sz hu hs
       cases ha:j9 du with
       | true=>rw[ha] at hbA;cases hbA
       | false =>
        rw[ha] at hbA
        simp only[cond_false,Option.some.injEq] at hbA
        subst hbA
        have hlt:(Nat.ble lo off&&Nat.blt off hi)=true:=by simpa [Nat.blt_eq,Nat.ble_eq] using hP
        simp only[D6,hov a _ hx,a3c,hb,hu,hs,ha,cond_false,hlt,cond_true]
        rfl
      ·cases hbA
     ·cases hbA
    ·cases hbA
   | none =>
    simp only[hbA] at h
    cases hl:a3c C q.H t u with
    | none=>simp[hl] at h
    | some z=>simp[hl] at h;obtain ⟨rfl,rfl⟩:=h;simp only[D6,hov a u hx,hl];rfl
 | nilCheck x =>
  simp only[] at h
  split at h
  ·rename_i n off hx;simp at h;obtain ⟨rfl,rfl⟩:=h;simp only[D6,hov x _ hx]
  ·rename_i cs hx;simp at h;obtain ⟨rfl,rfl⟩:=h;simp only[D6,hov x _ hx]
  ·cases h
 | unOp op t x =>
  simp only[] at h
  cases hx:ov x with
  | none=>simp[hx] at h
  | some u =>
   simp only[hx] at h
   cases hl:e7a op u with
   | none=>simp[hl] at h
   | some z=>simp[hl] at h;obtain ⟨rfl,rfl⟩:=h;simp only[D6,hov x u hx,hl];rfl
 | build t parts =>
  simp only[] at h
  cases hx:b4c ov parts.toList with
  | none=>simp[hx] at h
  | some l =>
   simp only[hx] at h
   cases hl:b3c C t l with
   | none=>simp[hl] at h
   | some z=>simp[hl] at h;obtain ⟨rfl,rfl⟩:=h;simp only[D6,c6o C hov hx,hl];rfl
 | convert src d x =>
  simp only[] at h
  cases hx:ov x with
  | none=>simp[hx] at h
  | some u =>
   simp only[hx] at h
   cases hb:bytesOf C q.H src d u with
   | some xs =>
    simp only[hb,Option.some.injEq,Prod.mk.injEq] at h
    obtain ⟨rfl,rfl⟩:=h
    have hl:X5 C q.H src d u=some (.d (.lit (.string (b3h xs)))):=by
     unfold bytesOf at hb
     split at hb
     ·rename_i e h1 h2
      split at hb
      ·rename_i nl sz ys h3 h4
       cases hz:sz==1 with
       | false=>rw[hz] at hb;cases hb
       | true =>
        rw[hz] at hb
        cases hb
        unfold X5
        simp only[h1,h2,h3,h4,hz,Bool.true_or,cond_true,b9g (hp _ rfl)]
        rfl
      ·cases hb
     ·cases hb
    simp only[D6,hov x u hx,hl];rfl
   | none =>
   simp only[hb] at h
   cases hl:X5 C q.H src d u with
   | none=>simp[hl] at h
   | some z=>simp[hl] at h;obtain ⟨rfl,rfl⟩:=h;simp only[D6,hov x u hx,hl];rfl
 | fieldAddr st x f =>
  simp only[] at h
  split at h
  ·rename_i u fd hx hf
   split at h
   ·rename_i k hk
    cases hk0:(k==0) with
    | true=>simp[hk0] at h
    | false =>
     simp only[hk0,cond_false] at h
     simp only[D6,hov x u hx,hf,hk,hk0,cond_false]
     split at h
     ·simp at h;obtain ⟨rfl,rfl⟩:=h;rfl
     ·simp at h;obtain ⟨rfl,rfl⟩:=h;rfl
     ·cases h
   ·cases h
  ·cases h
 | field st x f =>
  simp only[] at h
  split at h
  ·rename_i u fd hx hf
   cases hl:b3p C fd.type fd.offset u with
   | none=>simp[hl] at h
   | some z=>simp[hl] at h;obtain ⟨rfl,rfl⟩:=h;simp only[D6,hov x u hx,hf,hl];rfl
  ·cases h
 | extract t i =>
  simp only[] at h
  split at h
  ·rename_i ds hx
   cases hi:ds[i]? with
   | none=>simp[hi] at h
   | some z=>simp[hi] at h;obtain ⟨rfl,rfl⟩:=h;simp only[D6,hov t _ hx,hi]
  ·rename_i vs hx
   cases hi:vs[i]? with
   | none=>simp[hi] at h
   | some z=>simp[hi] at h;obtain ⟨rfl,rfl⟩:=h;simp only[D6,hov t _ hx,hi]
  ·cases h
 | index t x i =>
  simp only[] at h
  split at h
  ·rename_i b k z hu hx hi
   simp at h;obtain ⟨rfl,rfl⟩:=h
   obtain ⟨h1,h2⟩:=hp _ rfl
   have hix:idx (.d (.lit (.int k z)))=some z.toNat:=by simp[idx,h1]
   simp only[D6,hov x _ hx,hov i _ hi,a2s,hu,hix,c7t h2]
   rfl
  ·rename_i vx vi hx hi _
   cases hl:a2s C t vx vi with
   | none=>simp[hl] at h
   | some z=>simp[hl] at h;obtain ⟨rfl,rfl⟩:=h;simp only[D6,hov x _ hx,hov i _ hi,hl];rfl
  ·cases h
 | indexAddr t x i =>
  simp only[] at h
  split at h
  ·rename_i e vx k z hu hx hi
   split at h
   ·rename_i nl sz xs zz hs hz
    cases hzz:(sz==zz) with
    | false=>simp[hzz] at h
    | true =>
     simp only[hzz,cond_true,Option.some.injEq,Prod.mk.injEq] at h
     obtain ⟨rfl,rfl⟩:=h
     obtain ⟨h1,h2,h3⟩:=hp _ rfl
     have hix:idx (.d (.lit (.int k z)))=some z.toNat:=by simp[idx,h1]
     have hg:xs[z.toNat]?=some (xs.getD z.toNat .any):=by rw[List.getElem?_eq_getElem h2,List.getD_eq_getElem?_getD,List.getElem?_eq_getElem h2];rfl
     simp only[D6,hov x _ hx,hov i _ hi,K9,hu,hix,hs,hz,hg,hzz,cond_true]
     rw[h3]
     rfl
   ·cases h
  ·rename_i n e m off k z hu hx hi
   split at h
   ·rename_i sz hsz
    simp only[Option.some.injEq,Prod.mk.injEq] at h
    obtain ⟨rfl,rfl⟩:=h
    obtain ⟨h1,h2⟩:=hp _ rfl
    have hix:idx (.d (.lit (.int k z)))=some z.toNat:=by simp[idx,h1]
    simp only[D6,hov x _ hx,hov i _ hi,K9,hu,hix,hsz,h2,if_true]
    rfl
   ·cases h
  ·rename_i vx vi hx hi _ _
   cases hl:K9 C q.H t vx vi with
   | none=>simp[hl] at h
   | some z=>simp[hl] at h;obtain ⟨rfl,rfl⟩:=h;simp only[D6,hov x _ hx,hov i _ hi,hl];rfl
  ·cases h
 | slice t x lo hi mx =>
  cases mx with
  | some m=>simp only[] at h;cases h
  | none =>
   simp only[] at h
   split at h
   ·rename_i b lo' hi' hu hx hlo hhi
    have e1:a4w C q.F lo=some lo':=by
     cases lo with
     | none=>simpa [a4w] using hlo
     | some l =>
      simp only[] at hlo
      cases hl:ov l with
      | none=>simp[hl] at hlo
      | some vl=>simp[hl] at hlo;subst hlo;simp[a4w,hov l vl hl]
    have e2:a4w C q.F hi=some hi':=by
     cases hi with
     | none=>simpa [a4w] using hhi
     | some l =>
      simp only[] at hhi
      cases hl:ov l with
      | none=>simp[hl] at hhi
      | some vl=>simp[hl] at hhi;subst hhi;simp[a4w,hov l vl hl]
    simp only[D6,hov x _ hx,e1,e2,Y5,hu]
    split at h
    ·simp at h;obtain ⟨rfl,rfl⟩:=h
     simp[a4q,asV]
    ·rename_i k l
     simp only[Option.some.injEq,Prod.mk.injEq] at h;obtain ⟨rfl,rfl⟩:=h
     obtain ⟨h1,h2⟩:=hp _ rfl
     simp[a4q,idx,h1,h2,asV]
    ·rename_i k l
     simp only[Option.some.injEq,Prod.mk.injEq] at h;obtain ⟨rfl,rfl⟩:=h
     obtain ⟨h1,h2⟩:=hp _ rfl
     simp[a4q,idx,h1,h2,asV]
    ·rename_i k l k' l'
     simp only[Option.some.injEq,Prod.mk.injEq] at h;obtain ⟨rfl,rfl⟩:=h
     obtain ⟨h1,h2,h3,h4⟩:=hp _ rfl
     simp only[a4q,idx,h1,h2,h3,h4,asV,if_true]
    ·cases h
   ·cases h
 | binOp op t x z zt =>
  simp only[] at h
  split at h
  ·rename_i k a k' b hx hz
   have hnn:(a3d (.d (.lit (.int k a)))&&a3d (.d (.lit (.int k' b)))&& !(Region.isConst x||Region.isConst z))=false:=rfl
   simp only[D6,hov x _ hx,hov z _ hz,hnn,cond_false]
   split at h
   ·simp only[Option.some.injEq,Prod.mk.injEq] at h;obtain ⟨rfl,rfl⟩:=h
    obtain ⟨h1,h2⟩:=hp _ rfl
    simp[q9,b7j,h1,h2,asV]
   ·simp only[Option.some.injEq,Prod.mk.injEq] at h;obtain ⟨rfl,rfl⟩:=h
    obtain ⟨h1,h2⟩:=hp _ rfl
    simp[q9,b7j,h1,h2,asV]
   ·split at h
    ·rename_i u hu;simp at h;obtain ⟨rfl,rfl⟩:=h;rw[hu];rfl
    ·cases h
  ·rename_i a b hx hz
   have hnn:(a3d (C6 a)&&a3d (C6 b)&& !(Region.isConst x||Region.isConst z))=false:=rfl
   simp only[D6,hov x _ hx,hov z _ hz,hnn,cond_false]
   split at h
   ·simp only[Option.some.injEq,Prod.mk.injEq] at h;obtain ⟨rfl,rfl⟩:=h
    have h1:=hp _ rfl
    have hm:IntKind.i64.max=9223372036854775807:=by rfl
    have:¬(((a.size+b.size:Nat):Int)>IntKind.i64.max):=by rw[hm];omega
    simp only[q9,c8e,if_neg this,asV]
   ·split at h
    ·rename_i u hu;simp at h;obtain ⟨rfl,rfl⟩:=h;rw[hu];rfl
    ·cases h
  ·rename_i vx vz _ _ hx hz
   cases hn:(a3d vx&&a3d vz&& !(Region.isConst x||Region.isConst z)) with
   | true=>rw[hn] at h;cases h
   | false =>
    simp only[hn,cond_false] at h
    split at h
    ·rename_i u hu;simp at h;obtain ⟨rfl,rfl⟩:=h;simp only[D6,hov x _ hx,hov z _ hz,hn,cond_false,hu];rfl
    ·cases h
  ·cases h
 | call cl =>
  obtain ⟨callee,cargs,tys⟩:=cl
  simp only[] at h
  split at h
  ·cases h
  ·rename_i args ha
   have ha':=c6p hov ha
   split at h
   ·split at h
    ·rename_i t x ht
     split at h
     ·rename_i u hu;simp at h;obtain ⟨rfl,rfl⟩:=h
      simp only[D6,ha',ht,hu];rfl
     ·cases h
    ·cases h
   ·split at h
    ·rename_i u hu;simp at h;obtain ⟨rfl,rfl⟩:=h;simp only[D6,ha',hu];rfl
    ·cases h
   ·split at h
    ·rename_i u hu;simp at h;obtain ⟨rfl,rfl⟩:=h;simp only[D6,ha',hu];rfl
    ·cases h
   ·rename_i f
    split at h
    ·rename_i K first cap hf
     split at h
     ·rename_i ct ds hct hds
      split at h
      ·rename_i r hr
       simp only[Option.some.injEq,Prod.mk.injEq] at h;obtain ⟨rfl,rfl⟩:=h
       have hpre:=hp _ rfl
       have hext:C.ext K=some ct.gate:=by rw[hE K,hct]
       simp only[D6,ha',hov f _ hf,M9,hext,hds,e6v hpre,hr]
      ·cases h
     ·cases h
    ·cases h
   ·cases h
 | _=>simp only[] at h;cases h
theorem e9o {c a b v:V} {p:Option Prop} (h:e9p c a b=some (v,p)):∃t,c=A6 t∧((∀P,p=some P→P)→v=(bif t then a else b)):=by
 unfold e9p at h
 split at h
 ·rename_i t
  refine ⟨t,rfl,fun hp=>?_⟩
  split at h
  ·cases h;cases t<;>rfl
  ·rename_i k x k' y
   by_cases e:k=k'
   ·subst e;simp at h;obtain ⟨rfl,rfl⟩:=h;cases t<;>rfl
   ·simp[e] at h
  ·simp only[Option.some.injEq,Prod.mk.injEq] at h
   obtain ⟨rfl,rfl⟩:=h
   have:=hp _ rfl
   subst this;rfl
  ·simp only[Option.some.injEq,Prod.mk.injEq] at h
   obtain ⟨rfl,rfl⟩:=h
   have:=hp _ rfl
   subst this;rfl
  ·cases t with
   | true=>simp at h;exact h.1.symm
   | false=>simp at h;exact h.1.symm
 ·cases h
theorem c8v {s:St} {ch:List (Nat×Bool)} {p:Option Prop} {k:Prop} (h:e9u s ch (M8 s) p k):k∧(M8 s ch=true→∀P,p=some P→P):=by
 unfold e9u at h
 split at h
 ·exact ⟨h,fun _ P hP=>by cases hP⟩
 ·split at h
  ·exact ⟨h.2,fun _ P hP=>by cases hP;exact h.1⟩
  ·exact ⟨h.2,fun hv P hP=>by cases hP;exact h.1 hv⟩
theorem b2o {d:Nat} {v:V} {ch:List (Nat×Bool)} (h:∀p∈ch,p.1≠d):M8 ⟨s.N,upd s.F d v,s.H⟩ ch=M8 s ch:=by
 unfold M8
 induction ch with
 | nil=>rfl
 | cons p r ih =>
  have hp:(p.1==d)=false:=by simpa using h p (by simp)
  simp only[List.all_cons,upd,hp,cond_false]
  congr 1
  exact ih fun x hx=>h x (by simp[hx])
theorem c8b (U:a8u q s A gs) {ops:Array Oper} {o:Oper} {ch:List (Nat×Bool)} (hc:d2j ops A o=some ch) (hs:ch.all (fun p=>c2n (s.F p.1))=true):L2 ops o q.F=some (M8 s ch):=by
 unfold d2j at hc
 unfold L2
 cases hg:o.guard with
 | none=>simp only[hg] at hc;cases hc;rfl
 | some p =>
  obtain ⟨j,want⟩:=p
  simp only[hg] at hc ⊢
  cases hd:(ops[j]?).bind (·.dst) with
  | none=>simp only[hd] at hc;cases hc
  | some d =>
   simp only[hd,Option.some.injEq] at hc ⊢
   subst hc
   have h1:c2n (s.F d)=true:=List.all_eq_true.1 hs (d,want) (by simp)
   unfold c2n at h1
   split at h1
   ·rename_i b hb
    cases hv:M8 s (A d) with
    | true =>
     rw[U.yes d hv,hb]
     have:M8 s ((d,want)::A d)=(b==want):=by
      unfold M8 at hv ⊢
      rw[List.all_cons,hv,Bool.and_true]
      simp only[hb,isB]
      cases want<;>cases b<;>rfl
     rw[this]
    | false =>
     rw[U.no d hv]
     have:M8 s ((d,want)::A d)=false:=by
      unfold M8 at hv ⊢
      rw[List.all_cons,hv,Bool.and_false]
     rw[this]
   ·cases h1
theorem c5x (U:a8u q s A gs) {d:Nat} {v u:V} {ch:List (Nat×Bool)} {gs':List Nat} (hgs:∀x,x∈gs→x∈gs') (hch:∀p∈ch,p.1∈gs') (hd:d ∉ gs) (hdc:∀p∈ch,p.1≠d)
  (h1:M8 s ch=true→u=v) (h2:M8 s ch=false→u=N5):a8u ⟨q.N,upd q.F d u,q.H⟩ ⟨s.N,upd s.F d v,s.H⟩ (a6b A d ch) gs':=by
 have hA:∀t,t≠d→∀p∈A t,p.1≠d:=fun t _ p hp e=>hd (by rw[←e];exact U.has t p hp)
 refine ⟨U.N,U.H,fun t ht=>?_,fun t ht=>?_,fun t p hp=>?_⟩
 ·by_cases e:t=d
  ·subst e
   simp only[a6b,beq_self_eq_true,cond_true] at ht
   rw[b2o hdc] at ht
   simp[upd,h1 ht]
  ·have:(t==d)=false:=by simpa using e
   simp only[a6b,this,cond_false] at ht
   rw[b2o (hA t e)] at ht
   simp only[upd,this,cond_false]
   exact U.yes t ht
 ·by_cases e:t=d
  ·subst e
   simp only[a6b,beq_self_eq_true,cond_true] at ht
   rw[b2o hdc] at ht
   simp[upd,h2 ht]
  ·have:(t==d)=false:=by simpa using e
   simp only[a6b,this,cond_false] at ht
   rw[b2o (hA t e)] at ht
   simp only[upd,this,cond_false]
   exact U.no t ht
 ·by_cases e:t=d
  ·subst e
   simp only[a6b,beq_self_eq_true,cond_true] at hp
   exact hch p hp
  ·have:(t==d)=false:=by simpa using e
   simp only[a6b,this,cond_false] at hp
   exact hgs _ (U.has t p hp)
theorem d3t {d:Nat} {v:V} (h:Nat.blt d q.N=true):q.put (some d) v=some ⟨q.N,upd q.F d v,q.H⟩:=by simp[St.put,h]
theorem a7g (hE:Has C tb) {y:Bool} {call:E9} {ops:Array Oper} {K:St→Prop}:∀{l:List Oper} {q s:St} {A:Ann} {gs:List Nat},a8u q s A gs→b3o C tb ops l s A gs K→
  ∃q' s' A' gs',Q7 C y call ops l q=some q'∧a8u q' s' A' gs'∧K (a3h s' A')
 | [],q,s,A,gs,U,h=>⟨q,s,A,gs,rfl,U,h⟩
 | o::rest,q,s,A,gs,U,h=>by
  unfold b3o at h
  split at h
  case h_2=>exact h.elim
  rename_i ch d hch hd
  cases hc:(ch.all (fun p=>c2n (s.F p.1))&&Nat.blt d s.N&& !(gs.contains d)&& !(ch.any fun p=>p.1==d)) with
  | false=>rw[hc] at h;exact h.elim
  | true =>
   rw[hc] at h
   simp only[cond_true] at h
   simp only[Bool.and_eq_true,Bool.not_eq_true'] at hc
   obtain ⟨⟨⟨c1,c2⟩,c3⟩,c4⟩:=hc
   have hdg:d ∉ gs:=fun hm=>by
    have:gs.contains d=true:=by simpa using hm
    rw[this] at c3;cases c3
   have hdc:∀p∈ch,p.1≠d:=fun p hp e=>by
    have:(ch.any fun p=>p.1==d)=true:=List.any_eq_true.2 ⟨p,hp,by simpa using e⟩
    rw[this] at c4;cases c4
   have hw:=c8b U hch c1
   have hqN:Nat.blt d q.N=true:=by rw[U.N];exact c2
   
   have step:∀(v:V) (gs':List Nat),(∀x,x∈gs→x∈gs')→(∀p∈ch,p.1∈gs')→(M8 s ch=true→D6 C y call o q=q.put o.dst v)→
     b3o C tb ops rest ⟨s.N,upd s.F d v,s.H⟩ (a6b A d ch) gs' K→
     ∃q' s' A' gs',Q7 C y call ops (o::rest) q=some q'∧a8u q' s' A' gs'∧K (a3h s' A'):=by
    intro v gs' hg1 hg2 hev hr
    cases hv:M8 s ch with
    | true =>
     have hev:=hev hv
     rw[hd,d3t hqN] at hev
     obtain ⟨q',s',A',gs2,e1,e2,e3⟩:=a7g hE (c5x U (v:=v) (u:=v) (ch:=ch) (gs':=gs') hg1 hg2 hdg hdc (fun _=>rfl) (fun h=>by rw[hv] at h;cases h)) hr
     refine ⟨q',s',A',gs2, ?_,e2,e3⟩
     unfold Q7
     rw[hw,hv]
     simp only[hev]
     exact e1
    | false =>
     obtain ⟨q',s',A',gs2,e1,e2,e3⟩:=a7g hE (c5x U (v:=v) (u:=N5) (ch:=ch) (gs':=gs') hg1 hg2 hdg hdc (fun h=>by rw[hv] at h;cases h) (fun _=>rfl)) hr
     refine ⟨q',s',A',gs2, ?_,e2,e3⟩
     unfold Q7
     rw[hw,hv]
     simp only[hd,d3t hqN]
     exact e1
   have sub1:∀x,x∈gs→x∈ch.map (·.1)++gs:=fun x hx=>by simp[hx]
   have sub2:∀p∈ch,p.1∈ch.map (·.1)++gs:=fun p hp=>List.mem_append_left _ (List.mem_map.2 ⟨p,hp,rfl⟩)
   split at h
   ·rename_i cs a b hop
    split at h
    case h_2=>exact h.elim
    rename_i vc va vb hvc hva hvb
    split at h
    case h_2=>exact h.elim
    rename_i v pp hpv
    cases hcd:(cs==d) with
    | true=>rw[hcd] at h;exact h.elim
    | false =>
     rw[hcd] at h
     simp only[cond_false] at h
     obtain ⟨h,hpp⟩:=c8v h
     obtain ⟨t,rfl,hvt⟩:=e9o hpv
     refine step _ _ (fun x hx=>by simp[hx]) (fun p hp=>List.mem_cons_of_mem _ (List.mem_append_left _ (List.mem_map.2 ⟨p,hp,rfl⟩))) (fun hv=>?_) h
     have hcv:=b5s U hv hvc
     
     have hsc:s.F cs=A6 t∧M8 s (A cs)=true:=by
      simp only[ovA] at hvc
      cases hs:sub (A cs) ch with
      | false=>rw[hs] at hvc;cases hvc
      | true=>rw[hs] at hvc;simp only[cond_true,Option.some.injEq] at hvc;exact ⟨hvc,c5w hs hv⟩
     have hx:∀w:Bool,t=w→M8 s ((cs,w)::(A cs++ch))=true:=fun w hw=>by
      unfold M8 at hv hsc ⊢
      rw[List.all_cons,List.all_append,hv,hsc.2,Bool.and_true,Bool.and_true]
      simp only[hsc.1,isB,hw]
      cases w<;>rfl
     obtain ⟨dst,op,type,pos,after,guard⟩:=o
     simp only at hop
     subst hop
     have hvt:=hvt (hpp hv)
     subst hvt
     simp only[D6,hcv]
     cases t with
     | true=>simp only[cond_true];rw[b5s U (hx true rfl) hva];rfl
     | false=>simp only[cond_false];rw[b5s U (hx false rfl) hvb];rfl
   ·split at h
    ·rename_i v p hval
     obtain ⟨h,hpp⟩:=c8v h
     refine step v _ sub1 sub2 (fun hv=>?_) h
     refine c8c hE (ov:=ovA C s A ch) (fun x u hx=>b5s U hv hx) (p:=p) ?_ (hpp hv)
     rw[U.H];exact hval
    ·split at h
     ·exact h.elim
     ·obtain ⟨h,hpp⟩:=c8v h
      exact step .any _ sub1 sub2 (fun hv=>(hpp hv _ rfl).elim) h
end
end Go.Ev
end
section
namespace Go.Ev
structure Sm where
 pre:List V→List Box→Prop
 f:List V→List Box→Option (Bool×(V×List Box×List Box)×(V×List Box×List Box))
def one (r:V) (bs news:List Box):Option (Bool×(V×List Box×List Box)×(V×List Box×List Box)):=some (true,(r,bs,news),(r,bs,news))
abbrev L4:=FuncId→Option Sm
def d3s (H:B3):Nat→List B2→List B2→Option (List B2)
 | 0,_,_=>none
 | _+1,acc, []=>some acc
 | n+1,acc,x::todo=>bif acc.contains x then d3s H n acc todo else match H x with
  | some b=>d3s H n (acc++ [x]) (todo++r9 b)
  | none=>none
def X7:Nat→List B2→List (B2×B2)
 | _, []=>[]
 | i,n::r=>([0,i],n)::X7 (i+1) r
def G8 (k:Nat):List B2:=(List.range k).map fun i=>[0,i]
def L7 (k:Nat):List B2:=(List.range k).map fun i=>[i+2]
def a7d (l:List (B2×B2)):List (B2×B2):=l.map fun p=>(p.2,p.1)
def H6 (bs:List Box):B3:=ofL (Q4 (G8 bs.length) bs)
def Y1 (bs news:List Box):B3:=ofL (Q4 (G8 bs.length) bs++Q4 (L7 news.length) news)
def a6i (H:B3) (l:List (B2×Box)):B3:=fun n=>match ofL l n with|some b=>some b|none=>H n
def d3f (H:B3) (l:List B2) (r:V×List Box×List Box):V×B3 :=
 (r.1.ren (L9 (a7d (X7 0 l))),a6i H (Q4 l (r.2.1.map (·.ren (L9 (a7d (X7 0 l)))))++Q4 (L7 r.2.2.length) (r.2.2.map (·.ren (L9 (a7d (X7 0 l)))))))
def e2w (tb:L4) (K:FuncId) (args:List V) (H:B3):Option (Prop×Bool×(V×B3)×(V×B3)):=match tb K with
 | none=>none
 | some S=>match d3s H 200 [] (K7 args) with
  | none=>none
  | some l=>match t8 H (X7 0 l) with
   | none=>none
   | some bs=>bif U4 l&&(l.all f8&&(b2a l (K7 args)&&bs.all (fun b=>b2a l (r9 b)))) then
     (match S.f (a2z (L9 (X7 0 l)) args) (bs.map (·.ren (L9 (X7 0 l)))) with
     | some (c,x,y)=>bif x.2.1.length==bs.length&&y.2.1.length==bs.length then
       some (S.pre (a2z (L9 (X7 0 l)) args) (bs.map (·.ren (L9 (X7 0 l)))),c,d3f H l x,d3f H l y)
      else none
     | none=>none)
    else none
noncomputable def b6w (tb:L4):E9:=fun K args H=>open Classical in match e2w tb K args H with
 | some (p,c,x,y)=>if p then some (bif c then x else y) else none
 | none=>none
def H9 (C:Cx) (tb:L4):Prop:=∀K f vals bs c x y,tb K=some f→f.pre vals bs→f.f vals bs=some (c,x,y)→
 N8 C.P K∧R8 C K vals (H6 bs) fun r' H'=>r'=(bif c then x else y).1∧H'=Y1 (bif c then x else y).2.1 (bif c then x else y).2.2
section
variable {C : Cx} {w w' : World} {g g1 : G} {H H1 : B3}
theorem c5a:∀(i:Nat) (l:List B2),(X7 i l).map (·.2)=l
 | _, []=>rfl
 | i,n::r=>by simp[X7,c5a (i+1) r]
theorem c5b:∀(i:Nat) (l:List B2),(X7 i l).map (·.1)=(List.range l.length).map fun j=>[0,i+j]
 | _, []=>rfl
 | i,n::r=>by
  simp only[X7,List.map_cons,c5b (i+1) r,List.length_cons,List.range_succ_eq_map,List.map_map]
  congr 1
  apply List.map_congr_left
  intro j _
  simp only[Function.comp_apply]
  congr 2
  omega
theorem nodup_range (i:Nat):∀(k:Nat),U4 ((List.range k).map fun j=>[0,i+j])=true:=by
 intro k
 have key:∀(l:List Nat),l.Nodup→U4 (l.map fun j=>[0,i+j])=true:=by
  intro l
  induction l with
  | nil=>intro _;rfl
  | cons a r ih =>
   intro h
   have h1:=List.nodup_cons.1 h
   simp only[List.map_cons,U4,Bool.and_eq_true,Bool.not_eq_true']
   refine ⟨?_,ih h1.2⟩
   cases hc:(r.map fun j=>[0,i+j]).contains [0,i+a] with
   | false=>rfl
   | true =>
    exfalso
    have: [0,i+a]∈r.map fun j=>[0,i+j]:=List.elem_iff.1 hc
    obtain ⟨b,hb,he⟩:=List.mem_map.1 this
    simp at he
    exact h1.1 (he▸hb)
 exact key _ List.nodup_range
theorem f3s {ns:List (B2×B2)} {b0:List Box} (hH:M3 w g H) (hb0:t8 H ns=some b0) (c1:U4 (ns.map (·.1))=true) (c2:U4 (ns.map (·.2))=true) (c5:b0.all (fun b=>b2a (ns.map (·.2)) (r9 b))=true) :
  ∃g2:G,M3 w g2 (ofL (a9a ns (b0.map (·.ren (L9 ns)))))∧(∀v u,(∀n∈v.names,n∈ns.map (·.2))→E2 w g H v u→E2 w g2 (ofL (a9a ns (b0.map (·.ren (L9 ns))))) (v.ren (L9 ns)) u)∧g2.lim=g.lim∧
   (∀b,g.owner b=none→g2.owner b=none)∧(∀b n,g.owner b=some n→n ∉ ns.map (·.2)→g2.owner b=none)∧(∀p∈ns,g2.val p.1=g.val p.2∧kd (ofL (a9a ns (b0.map (·.ren (L9 ns))))) p.1=kd H p.2):=by
 obtain ⟨hlen,hat⟩:=a3k hb0
 let olds:=ns.map (·.2)
 let H1:B3:=fun n=>bif olds.contains n then H n else none
 let g1:G:=⟨g.val,g.lim,fun b=>match g.owner b with|some n=>(bif olds.contains n then some n else none)|none=>none⟩
 have hin:∀n,n∈olds→olds.contains n=true:=fun n hn=>by simpa using hn
 have hkd:∀n,n∈olds→kd H1 n=kd H n:=fun n hn=>by simp only[kd,H1,hin n hn,cond_true]
 have hold:∀n,n∈olds→∃(i:Nat) (p:B2×B2) (b:Box),ns[i]?=some p∧b0[i]?=some b∧p.2=n∧H n=some b:=fun n hn=>by
  obtain ⟨p,hp,rfl⟩:=List.mem_map.1 hn
  obtain ⟨i,hi⟩:=List.getElem?_of_mem hp
  have hlt:i<b0.length:=by rw[hlen];exact (List.getElem?_eq_some_iff.1 hi).1
  exact ⟨i,p,b0[i],hi,by simp[hlt],rfl,hat i p _ hi (by simp[hlt])⟩
 have hbn:∀n b,n∈olds→H n=some b→∀m∈r9 b,m∈olds:=fun n b hn hb m hm=>by
  obtain ⟨i,p,b',h1,h2,h3,h4⟩:=hold n hn
  rw[hb] at h4;cases h4
  have:=List.all_eq_true.1 c5 b (List.mem_of_getElem? h2)
  have:=List.all_eq_true.1 this m hm
  exact List.elem_iff.1 this
 have hH1:M3 w g1 H1:=by
  refine ⟨fun n b hb=>?_,fun b hb=>?_⟩
  ·simp only[H1] at hb
   cases hc:olds.contains n with
   | false=>rw[hc] at hb;cases hb
   | true =>
    rw[hc] at hb
    simp only[cond_true] at hb
    have hn:n∈olds:=by simpa using hc
    exact (hH.box n b hb).loc (g:=g) (g1:=g1) (H1:=H1) rfl rfl (fun b' hb'=>by simp only[g1,hb',hc,cond_true]) fun m hm=>hkd m (hbn n b hn hb m hm)
  ·have:=hH.fresh b hb
   exact ⟨this.1,by simp only[g1,this.2]⟩
 have hinv1:∀n m,Z3 ns n=some m→L9 ns m=n:=fun n m h=>m8 c2 (a2m h)
 have hinv2:∀n,(H1 n).isSome→Z3 ns (L9 ns n)=some n:=fun n hn=>by
  simp only[H1] at hn
  cases hc:olds.contains n with
  | false=>rw[hc] at hn;cases hn
  | true =>
   have hm:n∈olds:=by simpa using hc
   obtain ⟨p,hp,rfl⟩:=List.mem_map.1 hm
   rw[m8 (a:=p.1) c2 hp]
   exact b2v c1 hp
 obtain ⟨r1,r2⟩:=b7a (f:=L9 ns) (inv:=Z3 ns) hinv1 hinv2 hH1
 have hz3:ofL (a9a ns (b0.map (·.ren (L9 ns))))=(H1.ren (L9 ns) (Z3 ns)):=by
  funext n
  rw[b9k hb0]
  unfold B3.ren
  cases hi:Z3 ns n with
  | none=>rfl
  | some m =>
   have hm:m∈olds:=List.mem_map.2 ⟨(n,m),a2m hi,rfl⟩
   simp only[H1,hin m hm,cond_true]
   cases H m<;>rfl
 rw[hz3]
 refine ⟨_,r2,fun v u hn hr=>?_,rfl,fun b hb=>?_,fun b n hb hn=>?_,fun p hp=>?_⟩
 ·have h1:E2 w g1 H1 v u:=hr.loc (g:=g) (g1:=g1) rfl rfl fun n hm=>hkd n (hn n hm)
  exact h1.ren (g:=g1) (g':=g1.ren (L9 ns) (Z3 ns)) (.refl _ _) r1
 ·simp only[G.ren,g1,hb,Option.map_none]
 ·have:olds.contains n=false:=by
   cases hc:olds.contains n with
   | false=>rfl
   | true=>exact absurd (List.elem_iff.1 hc) hn
  simp only[G.ren,g1,hb,this,cond_false,Option.map_none]
 ·have hi:=b2v (a:=p.1) (b:=p.2) c1 hp
  refine ⟨by simp only[G.ren,hi];rfl, ?_⟩
  rw[f2k hi]
  exact hkd p.2 (List.mem_map.2 ⟨p,hp,rfl⟩)
theorem b9z:∀(ns:List (B2×B2)) (bs:List Box),a9a ns bs=Q4 (ns.map (·.1)) bs
 | [],_=>rfl
 | p::r, []=>rfl
 | p::r,b::l=>by simp only[a9a,List.map_cons,Q4,b9z r l]
theorem n3:∀{nm:List B2} {bs:List Box} {n:B2} {b:Box},ofL (Q4 nm bs) n=some b→∃i:Nat,nm[i]?=some n∧bs[i]?=some b
 | [],bs,n,b,h=>by simp[Q4,ofL] at h
 | m::r, [],n,b,h=>by simp[Q4,ofL] at h
 | m::r,c::l,n,b,h=>by
  simp only[Q4,ofL] at h
  by_cases e:n=m
  ·subst e;simp at h;subst h;exact ⟨0,by simp,by simp⟩
  ·have:(n==m)=false:=by simpa using e
   rw[this] at h
   obtain ⟨i,h1,h2⟩:=n3 h
   exact ⟨i+1,by simpa using h1,by simpa using h2⟩
theorem m9:∀{nm:List B2} {bs:List Box} {n:B2} {b:Box} {i:Nat},U4 nm=true→nm[i]?=some n→bs[i]?=some b→ofL (Q4 nm bs) n=some b
 | [],bs,n,b,i,_,h,_=>by simp at h
 | m::r, [],n,b,i,_,_,h=>by simp at h
 | m::r,c::l,n,b,i,hd,h1,h2=>by
  obtain ⟨k1,k2⟩:=a9v hd
  simp only[Q4,ofL]
  cases i with
  | zero=>simp at h1 h2;subst h1 h2;simp
  | succ i =>
   have h1':r[i]?=some n:=by simpa using h1
   have:n≠m:=fun e=>k1 (by subst e;exact List.mem_of_getElem? h1')
   have:(n==m)=false:=by simpa using this
   rw[this]
   exact m9 k2 h1' (by simpa using h2)
theorem Z9 {nm:List B2} {bs:List Box} {n:B2} (h:n ∉ nm):ofL (Q4 nm bs) n=none:=by
 cases hx:ofL (Q4 nm bs) n with
 | none=>rfl
 | some b =>
  obtain ⟨i,h1,_⟩:=n3 hx
  exact absurd (List.mem_of_getElem? h1) h
theorem c6b (l:List (B2×B2)):(a7d l).map (·.1)=l.map (·.2):=by simp[a7d]
theorem c6a (l:List (B2×B2)):(a7d l).map (·.2)=l.map (·.1):=by simp[a7d]
theorem d3p:∀{ns:List (B2×B2)} {n:B2},n ∉ ns.map (·.2)→L9 ns n=n
 | [],n,_=>rfl
 | (a,b)::r,n,h=>by
  simp only[List.map_cons,List.mem_cons,not_or] at h
  have:(n==b)=false:=by simpa using h.1
  unfold L9
  rw[this]
  exact d3p h.2
theorem d8r (l:List B2):(X7 0 l).map (·.1)=G8 l.length:=by
 rw[c5b];unfold G8
 apply List.map_congr_left
 intro j _
 simp
structure CS where
 call:E9
 cq:FuncId→List V→B3→Option (Prop×Bool×(V×B3)×(V×B3))
 ok:∀K args H p c x y,cq K args H=some (p,c,x,y)→p→call K args H=some (bif c then x else y)
noncomputable def H7 (tb:L4):CS:=⟨b6w tb,e2w tb,fun K args H p c x y h hp=>by unfold b6w;rw[h];simp[hp]⟩
def D5:CS:=⟨fun _ _ _=>none,fun _ _ _=>none,fun K args H p c x y h=>by cases h⟩
theorem b5e {tb:L4} (hs:H9 C tb):Z4 C (b6w tb):=by
 intro K args H r H' h
 unfold b6w at h
 split at h
 case h_2=>cases h
 rename_i P sel x y hrun
 split at h
 case isFalse=>cases h
 rename_i hP
 simp only[Option.some.injEq] at h
 have hres:=h
 have h:=hrun
 unfold e2w at h
 split at h
 case h_1=>cases h
 rename_i f hf
 split at h
 case h_1=>cases h
 rename_i l hl
 split at h
 case h_1=>cases h
 rename_i b0 hb0
 cases hc:(U4 l&&(l.all f8&&(b2a l (K7 args)&&b0.all (fun b=>b2a l (r9 b))))) with
 | false=>rw[hc] at h;cases h
 | true =>
  rw[hc] at h
  simp only[cond_true] at h
  simp only[Bool.and_eq_true] at hc
  obtain ⟨d1,d2,d3,d4⟩:=hc
  split at h
  case h_2=>cases h
  rename_i c0 x0 y0 hfr
  cases hle:(x0.2.1.length==b0.length&&y0.2.1.length==b0.length) with
  | false=>rw[hle] at h;cases h
  | true =>
   rw[hle] at h
   simp only[cond_true,Option.some.injEq,Prod.mk.injEq] at h
   obtain ⟨rfl,rfl,rfl,rfl⟩:=h
   obtain ⟨hen,hsq⟩:=hs K f _ _ c0 x0 y0 hf hP hfr
   simp only[Bool.and_eq_true,beq_iff_eq] at hle
   have hres:d3f H l (bif c0 then x0 else y0)=(r,H'):=by rw[←hres];cases c0<;>rfl
   have hle:(bif c0 then x0 else y0).2.1.length=b0.length:=by cases c0 with|true=>exact hle.1|false=>exact hle.2
   generalize (bif c0 then x0 else y0)=res at hres hle hsq
   obtain ⟨r0,bs',news⟩:=res
   have hle:bs'.length=b0.length:=hle
   have hsq:R8 C K (a2z (L9 (X7 0 l)) args) (H6 (b0.map (·.ren (L9 (X7 0 l))))) fun r' H'=>r'=r0∧H'=Y1 bs' news:=hsq
   unfold d3f at hres
   simp only[Prod.mk.injEq] at hres
   obtain ⟨rfl,rfl⟩:=hres
   let ns:=X7 0 l
   have m1:ns.map (·.1)=G8 l.length:=d8r l
   have m2:ns.map (·.2)=l:=c5a 0 l
   have c1:U4 (ns.map (·.1))=true:=by rw[m1];have:=nodup_range 0 l.length;simpa [G8] using this
   have c2:U4 (ns.map (·.2))=true:=by rw[m2];exact d1
   have hbl:b0.length=l.length:=by
    have:=(a3k hb0).1
    rw[this]
    have:=congrArg List.length m2
    simpa using this
   have hlz:∀n∈l,∃m,n=0::m:=fun n hn=>by
    have:=List.all_eq_true.1 d2 n hn
    unfold f8 at this
    split at this
    ·exact ⟨_,rfl⟩
    ·cases this
   have hnn:∀n∈L7 news.length,∃i:Nat,i<news.length∧n= [i+2]:=fun n hn=>by
    obtain ⟨i,hi,rfl⟩:=List.mem_map.1 hn
    exact ⟨i,List.mem_range.1 hi,rfl⟩
   have hnew_l:∀n∈L7 news.length,n ∉ l:=fun n hn hm=>by
    obtain ⟨i,_,rfl⟩:=hnn n hn
    obtain ⟨m,hm⟩:=hlz _ hm
    simp at hm
   have hnew_in:∀n∈L7 news.length,n ∉ G8 l.length:=fun n hn hm=>by
    obtain ⟨i,_,rfl⟩:=hnn n hn
    obtain ⟨j,_,hj⟩:=List.mem_map.1 hm
    simp at hj
   have hnewD:U4 (L7 news.length)=true:=by
    have key:∀(q:List Nat),q.Nodup→U4 (q.map fun j=>[j+2])=true:=by
     intro q
     induction q with
     | nil=>intro _;rfl
     | cons a r ih =>
      intro h
      have h1:=List.nodup_cons.1 h
      simp only[List.map_cons,U4,Bool.and_eq_true,Bool.not_eq_true']
      refine ⟨?_,ih h1.2⟩
      cases hc:(r.map fun j=>[j+2]).contains [a+2] with
      | false=>rfl
      | true =>
       exfalso
       have: [a+2]∈r.map fun j=>[j+2]:=List.elem_iff.1 hc
       obtain ⟨b,hb,he⟩:=List.mem_map.1 this
       simp at he
       exact h1.1 (he▸hb)
    exact key _ List.nodup_range
   refine ⟨hen, ?_, ?_⟩
   ·intro w g vs hH hG hr hz
    obtain ⟨g2,e1,e2,e3,e4,e5,e6⟩:=f3s hH hb0 c1 c2 (by rw[m2];exact d4)
    have hH0:ofL (a9a ns (b0.map (·.ren (L9 ns))))=H6 (b0.map (·.ren (L9 ns))):=by
     unfold H6
     rw[b9z,m1]
     simp[hbl]
    rw[hH0] at e1 e2 e6
    have hargs:E3 w g2 (H6 (b0.map (·.ren (L9 ns)))) (a2z (L9 ns) args) vs.toList:=by
     have key:∀(a:List V) (u:List Value),(∀n∈K7 a,n∈l)→E3 w g H a u→E3 w g2 (H6 (b0.map (·.ren (L9 ns)))) (a2z (L9 ns) a) u:=by
      intro a
      induction a with
      | nil=>intro u _ h;cases h;exact .nil
      | cons v a ih =>
       intro u hn h
       cases h with
       | cons h t=>exact .cons (e2 v _ (fun n hm=>by rw[m2];exact hn n (by simp[K7,hm])) h) (ih _ (fun n hm=>hn n (by simp[K7,hm])) t)
     exact key args _ (fun n hn=>List.elem_iff.1 (List.all_eq_true.1 d3 n hn)) hr
    refine (hsq w g2 vs e1 (by rw[e3];exact hG) hargs (fun n hn=>?_)).mono ?_
    ·unfold H6 at hn
     cases hx:ofL (Q4 (G8 (b0.map (·.ren (L9 ns))).length) (b0.map (·.ren (L9 ns)))) n with
     | none=>rw[hx] at hn;cases hn
     | some b =>
      obtain ⟨i,h1,_⟩:=n3 hx
      obtain ⟨j,_,hj⟩:=List.mem_map.1 (List.mem_of_getElem? h1)
      exact ⟨[j],hj.symm⟩
    ·rintro e w' ⟨u,r',Hx,g3,⟨rfl,rfl⟩,rfl,k1,k2,k3,k4⟩
     let back:=L9 (a7d ns)
     let L:=Q4 l (bs'.map (·.ren back))++Q4 (L7 news.length) (news.map (·.ren back))
     let H2:=a6i H L
     
     have hb1:∀p∈ns,back p.1=p.2:=fun p hp=>m8 (a:=p.2) (b:=p.1) (by rw[c6a];exact c1) (List.mem_map.2 ⟨p,hp,rfl⟩)
     have hb2:∀n∈L7 news.length,back n=n:=fun n hn=>d3p (by rw[c6a,m1];exact hnew_in n hn)
     have hpair:∀i,i<l.length→∃n,l[i]?=some n∧([0,i],n)∈ns:=fun i hi=>by
      refine ⟨l[i],by simp[hi], ?_⟩
      have h1:(ns.map (·.1))[i]?=some [0,i]:=by rw[m1];simp[G8,hi]
      have h2:(ns.map (·.2))[i]?=some l[i]:=by rw[m2];simp[hi]
      rw[List.getElem?_map] at h1 h2
      cases hp:ns[i]? with
      | none=>rw[hp] at h1;cases h1
      | some p =>
       rw[hp] at h1 h2
       simp at h1 h2
       have:=List.mem_of_getElem? hp
       cases p;simp at h1 h2;subst h1 h2;exact this
     let g':G:=⟨fun n=>match Z3 (a7d ns) n with|some m=>g3.val m|none=>(bif (L7 news.length).contains n then g3.val n else g.val n),g3.lim,
      fun b=>match g3.owner b with|some m=>some (back m)|none=>(match g.owner b with|some n=>(bif l.contains n then none else some n)|none=>none)⟩
     have hiv:∀p∈ns,Z3 (a7d ns) p.2=some p.1:=fun p hp=>b2v (a:=p.2) (b:=p.1) (by rw[c6b];exact c2) (List.mem_map.2 ⟨p,hp,rfl⟩)
     have hivn:∀n,n ∉ l→Z3 (a7d ns) n=none:=fun n hn=>by
      cases hi:Z3 (a7d ns) n with
      | none=>rfl
      | some m =>
       have:=a2m hi
       exact absurd (show n∈l by
        have h2:n∈(a7d ns).map (·.1):=List.mem_map.2 ⟨(n,m),this,rfl⟩
        rw[c6b,m2] at h2;exact h2) hn
     
     have hLin:∀(i:Nat) (n:B2) (b:Box),l[i]?=some n→bs'[i]?=some b→ofL L n=some (b.ren back):=fun i n b h1 h2=>by
      simp only[L,s8]
      rw[m9 d1 h1 (b:=b.ren back) (by simp[h2])]
     have hLnew:∀(i:Nat) (n:B2) (b:Box),(L7 news.length)[i]?=some n→news[i]?=some b→ofL L n=some (b.ren back):=fun i n b h1 h2=>by
      simp only[L,s8]
      rw[Z9 (hnew_l n (List.mem_of_getElem? h1)),m9 hnewD h1 (b:=b.ren back) (by simp[h2])]
     have hLnot:∀n,n ∉ l→n ∉ L7 news.length→ofL L n=none:=fun n h1 h2=>by
      simp only[L,s8]
      rw[Z9 h1,Z9 h2]
     have hOut:∀(n:B2) (b:Box),Y1 bs' news n=some b→(∃i:Nat,i<l.length∧n= [0,i]∧bs'[i]?=some b)∨(∃i:Nat,(L7 news.length)[i]?=some n∧news[i]?=some b):=fun n b h=>by
      unfold Y1 at h
      rw[s8] at h
      cases hx:ofL (Q4 (G8 bs'.length) bs') n with
      | some c =>
       rw[hx] at h;cases h
       obtain ⟨i,h1,h2⟩:=n3 hx
       have hlt:i<bs'.length:=(List.getElem?_eq_some_iff.1 h2).1
       refine .inl ⟨i,by omega, ?_,h2⟩
       simp[G8,hlt] at h1
       exact h1.symm
      | none =>
       rw[hx] at h
       obtain ⟨i,h1,h2⟩:=n3 h
       exact .inr ⟨i,h1,h2⟩
     have hOutIn:∀(i:Nat) (b:Box),bs'[i]?=some b→Y1 bs' news [0,i]=some b:=fun i b h=>by
      unfold Y1
      rw[s8]
      have hlt:i<bs'.length:=(List.getElem?_eq_some_iff.1 h).1
      rw[m9 (nm:=G8 bs'.length) (i:=i) (b:=b) (by have:=nodup_range 0 bs'.length;simpa [G8] using this) (by simp[G8,hlt]) h]
     have hren:Ren back (Y1 bs' news) g3 H2 g':=fun n q hq=>by
      obtain ⟨b,hb,hkb⟩:=b2s hq
      rcases hOut n b hb with ⟨i,hi,rfl,hbi⟩|⟨i,hi,hbi⟩
      ·obtain ⟨m,hm,hp⟩:=hpair i hi
       rw[hb1 _ hp]
       refine ⟨?_,by simp only[g',hiv _ hp]⟩
       simp only[kd,H2,a6i,hLin i m b hm hbi,Option.map_some,b6a,hkb]
      ·have hmem:=List.mem_of_getElem? hi
       rw[hb2 n hmem]
       refine ⟨?_, ?_⟩
       ·simp only[kd,H2,a6i,hLnew i n b hi hbi,Option.map_some,b6a,hkb]
       ·have:(L7 news.length).contains n=true:=by simpa using hmem
        simp only[g',hivn n (hnew_l n hmem),this,cond_true]
     have hkeep:L6 H g H2 g':=fun n q hq=>by
      by_cases hn:n∈l
      ·obtain ⟨i,hi⟩:=List.getElem?_of_mem hn
       have hlt:=(List.getElem?_eq_some_iff.1 hi).1
       obtain ⟨m,hm,hp⟩:=hpair i hlt
       rw[hi] at hm;cases hm
       obtain ⟨v1,v2⟩:=e6 _ hp
       obtain ⟨j1,j2⟩:=k4 [i] q (by rw[v2];exact hq)
       obtain ⟨b,hb,hkb⟩:=b2s j1
       rcases hOut [0,i] b hb with ⟨i',hi',he,hbi⟩|⟨i',hi',hbi⟩
       ·simp at he;subst he
        refine ⟨?_, ?_⟩
        ·simp only[kd,H2,a6i,hLin i n b hi hbi,Option.map_some,b6a,hkb]
        ·simp only[g',hiv _ hp]
         rw[j2];exact v1
       ·obtain ⟨j,_,hj⟩:=hnn _ (List.mem_of_getElem? hi')
        simp at hj
      ·have hnz:n ∉ L7 news.length:=fun hm=>by
        obtain ⟨j,_,rfl⟩:=hnn n hm
        obtain ⟨b,hb,_⟩:=b2s hq
        obtain ⟨m,hm⟩:=hz [j+2] (by rw[hb];rfl)
        simp at hm
       have hcn:(L7 news.length).contains n=false:=by
        cases hcc:(L7 news.length).contains n with
        | false=>rfl
        | true=>exact absurd (List.elem_iff.1 hcc) hnz
       refine ⟨by simpa only[kd,H2,a6i,hLnot n hn hnz] using hq,by simp only[g',hivn n hn,hcn,cond_false]⟩
     have hgr:V1 w g.lim w' g'.lim:=by
      have:=k3.grow
      rw[e3] at this
      exact this
     have hown:∀b n,g.owner b=some n→n ∉ l→w'.heap[b]?=w.heap[b]?∧g'.owner b=some n∧g'.lim b=g.lim b:=fun b n hb hn=>by
      have h2:g2.owner b=none:=e5 b n hb (by rw[m2];exact hn)
      have hlt:b<w.heap.size:=by
       rcases Nat.lt_or_ge b w.heap.size with h1|h1
       ·exact h1
       ·rw[(hH.fresh b h1).2] at hb;cases hb
      obtain ⟨f1,f2,f3⟩:=k3.free b hlt h2
      have hcn:l.contains n=false:=by
       cases hcc:l.contains n with
       | false=>rfl
       | true=>exact absurd (List.elem_iff.1 hcc) hn
      exact ⟨f1,by simp only[g',f3,hb,hcn,cond_false],by rw[e3] at f2;exact f2⟩
     have hH2:M3 w' g' H2:=by
      refine ⟨fun n b hb=>?_,fun b hb=>?_⟩
      ·simp only[H2,a6i] at hb
       cases hx:ofL L n with
       | some c =>
        rw[hx] at hb;simp at hb;subst hb
        have hx':=hx
        simp only[L,s8] at hx'
        cases hy:ofL (Q4 l (bs'.map (·.ren back))) n with
        | some c' =>
         rw[hy] at hx';simp at hx';subst hx'
         obtain ⟨i,h1,h2⟩:=n3 hy
         rw[List.getElem?_map] at h2
         cases hbi:bs'[i]? with
         | none=>rw[hbi] at h2;cases h2
         | some b1 =>
          rw[hbi] at h2;simp at h2;subst h2
          have hlt:=(List.getElem?_eq_some_iff.1 h1).1
          obtain ⟨m,hm,hp⟩:=hpair i hlt
          rw[h1] at hm;cases hm
          have hbox:=(k2.box [0,i] b1 (hOutIn i b1 hbi)).ren (g':=g') (H':=H2) (f:=back) (hOutIn i b1 hbi) (.refl _ _) hren (fun k hk=>⟨by simp only[g',hk],rfl⟩)
          rw[hb1 _ hp] at hbox
          exact hbox
        | none =>
         rw[hy] at hx'
         obtain ⟨i,h1,h2⟩:=n3 hx'
         rw[List.getElem?_map] at h2
         cases hbi:news[i]? with
         | none=>rw[hbi] at h2;cases h2
         | some b1 =>
          rw[hbi] at h2;simp at h2;subst h2
          have hmem:=List.mem_of_getElem? h1
          have hsm:Y1 bs' news n=some b1:=by
           unfold Y1
           rw[s8,Z9 (fun hm=>by
            obtain ⟨j,_,rfl⟩:=hnn n hmem
            obtain ⟨j',_,hj'⟩:=List.mem_map.1 hm
            simp at hj')]
           exact m9 hnewD h1 hbi
          have hbox:=(k2.box n b1 hsm).ren (g':=g') (H':=H2) (f:=back) hsm (.refl _ _) hren (fun k hk=>⟨by simp only[g',hk],rfl⟩)
          rw[hb2 n hmem] at hbox
          exact hbox
       | none =>
        rw[hx] at hb
        have hn:n ∉ l:=fun hm=>by
         obtain ⟨i,hi⟩:=List.getElem?_of_mem hm
         have hlt:=(List.getElem?_eq_some_iff.1 hi).1
         have:i<bs'.length:=by omega
         rw[hLin i n bs'[i] hi (by simp[this])] at hx
         cases hx
        exact (hH.box n b hb).mono hb hgr hkeep fun _ k hk=>hown k n hk hn
      ·have hge:w.heap.size≤b:=Nat.le_trans k3.size hb
       obtain ⟨f1,f2⟩:=k2.fresh b hb
       exact ⟨f1,by simp only[g',f2,(hH.fresh b hge).2]⟩
     refine ⟨u,g',rfl, ?_,hH2,⟨k3.os,k3.tape,k3.output,k3.size,fun b hb ho=>?_,hgr⟩, .of_names hkeep⟩
     ·exact k1.ren (g:=g3) (g':=g') (H':=H2) (f:=back) (.refl _ _) hren
     ·obtain ⟨f1,f2,f3⟩:=k3.free b hb (e4 b ho)
      exact ⟨f1,by rw[e3] at f2;exact f2,by simp only[g',f3,ho]⟩
   ·intro m hm
    simp only[a6i,s8] at hm
    by_cases hn:(0::m)∈l
    ·obtain ⟨i,hi⟩:=List.getElem?_of_mem hn
     have hlt:=(List.getElem?_eq_some_iff.1 hi).1
     have:(ns.map (·.2))[i]?=some (0::m):=by rw[m2];exact hi
     rw[List.getElem?_map] at this
     cases hp:ns[i]? with
     | none=>rw[hp] at this;cases this
     | some p =>
      rw[hp] at this;simp at this
      have hlt2:i<b0.length:=by omega
      have:=(a3k hb0).2 i p b0[i] hp (by simp[hlt2])
      simp_all
    ·rw[Z9 hn,Z9 (fun hm=>by
      obtain ⟨j,_,hj⟩:=hnn _ hm
      simp at hj)] at hm
     exact hm
end
end Go.Ev
end
