/- What the proofs of the lexer's laws share, part 3 of 13. -/
import Derived.Test.YtnnhlphbfpnaaaaGreatDoorC2
import Derived.LoopN
set_option linter.unusedVariables false
set_option linter.unusedSimpArgs false
section
namespace Go.Ev
section
variable {C : Cx} {s s' q : St} {g : G} {a : Act} {w : World}
variable {call : D4} {ops : Array Oper} {ss : Nat → St} {f : Nat → FP}
def G8 (listed:Array Bool) (k:Nat):Prop:=listed.getD k false=true
theorem b2t {listed:Array Bool} {i k:Nat} (hi:i<listed.size):G8 (listed.setIfInBounds i true) k↔G8 listed k∨k=i:=by
 unfold G8
 by_cases h:i=k
 ·
  subst h;simp[hi]
 ·
  rw[getD_set_ne false h]
  constructor
  ·
   exact .inl
  ·
   rintro (h'|h')
   ·
    exact h'
   ·
    exact absurd h'.symm h
def left (n:Nat) (listed:Array Bool):Nat:=(List.range n).countP fun k=> !listed.getD k false
theorem c6i {α:Type} {p q:α→Bool}:∀{l:List α} {x:α},(∀y∈l,p y=true→q y=true)→x∈l→q x=true→p x=false→l.countP p<l.countP q
 | [],_,_,h,_,_=>by simp at h
 | y::l,x,hpq,hx,hq,hp=>by
  simp only[List.countP_cons]
  have hle:l.countP p≤l.countP q:=List.countP_mono_left fun z hz=>hpq z (by simp[hz])
  rcases List.mem_cons.1 hx with rfl|hx
  ·
   simp only[hq,hp,if_true]
   simp
   omega
  ·
   have:=c6i (fun z hz=>hpq z (by simp[hz])) hx hq hp
   have h1:=hpq y (by simp)
   cases hpy:p y<;>cases hqy:q y<;>simp_all<;>omega
theorem d2t {n:Nat} {listed:Array Bool} {i:Nat} (hs:listed.size=n) (hi:i<n) (hn:¬G8 listed i):left n (listed.setIfInBounds i true)<left n listed:=by
 refine c6i (x:=i) (fun k _ h=>?_) (by simpa using hi) (by unfold G8 at hn;simpa using hn) ?_
 ·
  have:¬G8 (listed.setIfInBounds i true) k:=by unfold G8;simpa using h
  rw[b2t (by omega)] at this
  have h2:¬G8 listed k:=fun e=>this (.inl e)
  unfold G8 at h2;simpa using h2
 ·
  have:G8 (listed.setIfInBounds i true) i:=(b2t (by omega)).2 (.inr rfl)
  unfold G8 at this;simp[this]
theorem d6d {listed:Array Bool} (r:Run C call ops ss f) (hs:listed.size=ops.size) (h:Region.ready .any ops listed= []):∀k,k<ops.size→G8 listed k:=by
 intro k
 induction k using Nat.strongRecOn with
 | ind k ih =>
  intro hk
  cases hl:listed.getD k false with
  | true=>exact hl
  | false =>
   exfalso
   have:k∈Region.ready .any ops listed:=by
    rw[mem_ready]
    refine ⟨?_,ops[k],by simp[hk],fun e he hb=>ih e.on (r.edges k _ e (by simp[hk]) he hb) (Nat.lt_trans (r.edges k _ e (by simp[hk]) he hb) hk)⟩
    rw[Array.getD_eq_getD_getElem?] at hl ⊢
    have hk':k<listed.size:=by omega
    simp only[Array.getElem?_eq_getElem hk',Option.getD_some] at hl ⊢
    exact hl
   rw[h] at this;simp at this
theorem sim (ok:a6x C) (okc:S8 C) (hv:W3 C call) (r:Run C call ops ss f) {g0:G} {w0:World} {Q:Exit→Act→World→Prop} (hq:∀a' w',X4 C g0 (ss 0).H w0 (ss ops.size) a' w'→Q .normal a' w') :
  ∀(fuel:Nat) (listed:Array Bool) (g:G) (a:Act) (w:World),listed.size=ops.size→d7x ops (G8 listed)→left ops.size listed≤fuel→
   Rel C g (mix ops ss f (G8 listed)) a w→Z5 w0 g0 w g→t8 (ss 0).H g0 (mix ops ss f (G8 listed)).H g→wpAny C.P .any ops Q fuel listed a w:=by
 have fin:∀(listed:Array Bool) (g:G) (a:Act) (w:World),(∀k,k<ops.size→G8 listed k)→Rel C g (mix ops ss f (G8 listed)) a w→Z5 w0 g0 w g→t8 (ss 0).H g0 (mix ops ss f (G8 listed)).H g→Q .normal a w:=by
  intro listed g a w hall R st k
  have e:mix ops ss f (G8 listed)=ss ops.size:=by
   have h1:(mix ops ss f (G8 listed)).F=(ss ops.size).F:=by
    funext t
    exact d9a r (Nat.le_refl _) fun l hl _=>⟨fun _=>hl,fun _=>hall l hl⟩
   have h2:(mix ops ss f (G8 listed)).H=(ss ops.size).H:=by
    funext n
    exact d8z r (Nat.le_refl _) fun l hl _=>⟨fun _=>hl,fun _=>hall l hl⟩
   have h3:(mix ops ss f (G8 listed)).N=(ss ops.size).N:=(r.frameN ops.size (Nat.le_refl _)).symm
   cases hm:mix ops ss f (G8 listed) with
   | mk N F H =>
    rw[hm] at h1 h2 h3
    cases hss:ss ops.size with
    | mk N' F' H' =>
     rw[hss] at h1 h2 h3
     simp only at h1 h2 h3
     rw[h1,h2,h3]
  rw[e] at R k
  exact hq a w ⟨g,R,st,k⟩
 intro fuel
 induction fuel with
 | zero =>
  intro listed g a w hs hd hf R st k
  have hall:∀k,k<ops.size→G8 listed k:=by
   intro k hk
   cases hl:listed.getD k false with
   | true=>exact hl
   | false =>
    have:=d2t hs hk (by unfold G8;simp[hl])
    omega
  refine ⟨?_,fin listed g a w hall R st k⟩
  rw[List.eq_nil_iff_forall_not_mem]
  intro j hj
  rw[mem_ready] at hj
  obtain ⟨h1,o,ho,_⟩:=hj
  have hjs:j<ops.size:=(Array.getElem?_eq_some_iff.1 ho).1
  have:=hall j hjs
  unfold G8 at this
  rw[Array.getD_eq_getD_getElem?] at h1 this
  have hj':j<listed.size:=by omega
  simp only[Array.getElem?_eq_getElem hj',Option.getD_some] at h1 this
  rw[this] at h1;cases h1
 | succ fuel ih =>
  intro listed g a w hs hd hf R st k
  refine ⟨fun h=>fin listed g a w (d6d r hs h) R st k,fun i hi=>?_⟩
  rw[mem_ready] at hi
  obtain ⟨h1,o,ho,he⟩:=hi
  have his:i<ops.size:=(Array.getElem?_eq_some_iff.1 ho).1
  have hn:¬G8 listed i:=by
   unfold G8
   rw[Array.getD_eq_getD_getElem?] at h1 ⊢
   have hi':i<listed.size:=by omega
   simp only[Array.getElem?_eq_getElem hi',Option.getD_some] at h1 ⊢
   rw[h1];simp
  have hnext:∀k,G8 (listed.setIfInBounds i true) k↔G8 listed k∨k=i:=fun k=>b2t (by omega)
  have hd':d7x ops (G8 (listed.setIfInBounds i true)):=by
   intro j o' e hj ho' he' hb
   rw[hnext] at hj ⊢
   rcases hj with hj|hj
   ·
    exact .inl (hd j o' e hj ho' he' hb)
   ·
    subst hj;rw[ho] at ho';cases ho';exact .inl (he e he' hb)
  have hmix:mix ops ss f (G8 (listed.setIfInBounds i true))=mix ops ss f fun k=>G8 listed k∨k=i:=e3o fun k _=>hnext k
  have hstep:=e7k r hd ho hn (fun e he' hb=>he e he' hb)
  have hlt:left ops.size (listed.setIfInBounds i true)≤fuel:=by
   have:=d2t hs his hn;omega
  unfold wpOp
  simp only[ho]
  unfold Z8 at hstep
  split at hstep
  ·
   rename_i hw
   rw[if_pos (W5 R hw)]
   refine .inl (c7z ok okc hv R (fun _ ha=>e3n (fun K f args H r H' h1 h2=>(okc.prim K f args H r H' h1 h2).2) (fun K args H r H' h=>(hv K args H r H' h).2.2) r hd ho hn (fun e he' hb=>he e he' hb) hw ha) hstep fun a' w' hp=>?_)
   obtain ⟨g1,r1,st1,k1⟩:=hp
   exact ih _ g1 a' w' (by simpa using hs) hd' hlt (by rw[hmix];exact r1) (st.trans st1) (by rw[hmix];exact k.trans k1)
  ·
   rename_i hw
   rw[if_neg (by rw[W5 R hw];simp)]
   obtain ⟨r1,e1⟩:=W9 R hstep a3q
   exact ih _ g _ w (by simpa using hs) hd' hlt (by rw[hmix];exact r1) st (by rw[hmix,e1];exact k)
  ·
   cases hstep
theorem e4n (ok:a6x C) (okc:S8 C) (hv:W3 C call) {il:Bool} {id:Nat} {Q:Exit→Act→World→Prop} (R:Rel C g s a w)
  (h:Y0 C call il ops s=some s') (hq:∀a' w',X4 C g s.H w s' a' w'→Q .normal a' w'):(Code.region id ops true).wp C.P Q a w:=by
 obtain ⟨ss,f,r,e0,e1⟩:=c3n h
 obtain ⟨g0,R0,st0,k0⟩:=a8s (g:=g) (a:=a) (w:=w) ops.toList R
 obtain ⟨R1,st1,n1⟩:=a9k (w':={w with drawn:=w.drawn+1 }) (lim':=g0.lim) R0 ⟨rfl,rfl,rfl,Nat.le_refl _,fun _ _=>rfl⟩ (fun _ _=>rfl) (fun b hb=>(R0.heap.fresh b hb).1)
 refine wp_region_any ok.mixed ?_
 have hempty:∀k,¬G8 (Array.replicate ops.size false) k:=by
  intro k h
  unfold G8 at h
  rw[Array.getD_eq_getD_getElem?] at h
  by_cases hk:k<ops.size
  ·
   simp[hk] at h
  ·
   simp[hk] at h
 have hmix:mix ops ss f (G8 (Array.replicate ops.size false))=N8 s ops.toList:=by
  have h1:(mix ops ss f (G8 (Array.replicate ops.size false))).F=(ss 0).F:=by
   funext t
   exact d9a r (Nat.zero_le _) fun l hl _=>⟨fun h=>absurd h (hempty l),fun h=>by omega⟩
  have h2:(mix ops ss f (G8 (Array.replicate ops.size false))).H=(ss 0).H:=by
   funext n
   exact d8z r (Nat.zero_le _) fun l hl _=>⟨fun h=>absurd h (hempty l),fun h=>by omega⟩
  rw[←e0]
  cases hm:mix ops ss f (G8 (Array.replicate ops.size false)) with
  | mk N F H =>
   have h3:(mix ops ss f (G8 (Array.replicate ops.size false))).N=(ss 0).N:=rfl
   rw[hm] at h1 h2 h3
   cases hss:ss 0 with
   | mk N' F' H' =>
    rw[hss] at h1 h2 h3
    simp only at h1 h2 h3
    rw[h1,h2,h3]
 refine sim ok okc hv r (g0:=⟨g0.val,g0.lim,g0.owner⟩) (w0:={w with drawn:=w.drawn+1 }) (fun a' w' hp=>hq a' w' ?_) ops.size _ ⟨g0.val,g0.lim,g0.owner⟩ a _ (by simp) (fun j o e hj=>absurd hj (hempty j)) ?_ ?_ (.refl _ _) ?_
 ·
  obtain ⟨g1,r1,st2,k2⟩:=hp
  rw[e0] at k2
  have st:Z5 w g w' g1:=(st0.trans st1).trans st2
  have k:t8 s.H g (ss ops.size).H g1:=(k0.trans (.of_names n1)).trans k2
  cases hs:M0 ops.toList with
  | false=>rw[hs] at e1;simp at e1;subst e1;exact ⟨g1,r1,st,k⟩
  | true =>
   rw[hs] at e1;simp at e1;subst e1
   obtain ⟨g2,r2,st3,k3⟩:=b9q r1
   exact ⟨g2,r2,st.trans st3,k.trans k3⟩
 ·
  unfold left
  exact Nat.le_trans List.countP_le_length (by simp)
 ·
  rw[hmix];exact R1
 ·
  rw[hmix,e0];exact .refl _ _
theorem c5e (ok:a6x C) (okc:S8 C) (hv:W3 C call):c4e C call:=by
 intro il id ops draw s s' g a w Q R h hq
 cases draw with
 | true=>simp only[if_true] at h;exact e4n ok okc hv R h hq
 | false=>simp only[if_false,Bool.false_eq_true] at h;exact d3p ok okc hv R h hq
end
end Go.Ev
end
section
namespace Go.Ev
section
variable {C : Cx} {s s' q : St}
def b8r (C:Cx):Prop:=∀K f args H r H',C.prim K=some f→f args H=some (r,H')→e5k H H'
def c8x (call:D4):Prop:=∀K args H r H',call K args H=some (r,H')→Z7 H H'
theorem a4u:∀(l:List Oper) {s:St},Z7 s.H (Y1 s l).H
 | [],_=>.rfl'
 | o::l,s=>by
  unfold Y1
  split
  ·
   rename_i d _ _
   exact (b5h d).trans (a4u l)
  ·
   exact a4u l
theorem a6u:∀(l:List Oper) {s:St},Z7 s.H (N8 s l).H
 | [],_=>.rfl'
 | o::l,s=>by
  unfold N8
  split
  ·
   rename_i d _ _
   exact (b5h d).trans (a6u l)
  ·
   exact a6u l
theorem b6v {H:A9}:Z7 H (d6 H):=fun m h=>by
 unfold d6 at h
 split at h
 ·
  rename_i hb;rw[hb];rfl
 ·
  exact h
theorem c9w {v:V} {dst:Option Nat} (h:s.put dst v=some s'):Z7 s.H s'.H:=by rw[c2a h];exact .rfl'
theorem a2a {call:D4} (hp:b8r C) (hv:c8x call) {ops:Array Oper}:∀{l:List Oper} {s s':St},N6 C false call ops l s=some s'→Z7 s.H s'.H
 | [],s,s',h=>by simp[N6] at h;subst h;exact .rfl'
 | o::l,s,s',h=>by
  simp only[N6] at h
  split at h
  ·
   split at h
   ·
    rename_i s1 h1
    exact (c3h hp hv h1).2.trans (a2a hp hv h)
   ·
    cases h
  ·
   split at h
   ·
    rename_i s1 h1
    exact (c9w h1).trans (a2a hp hv h)
   ·
    cases h
  ·
   cases h
theorem c9m {call:D4} {ops:Array Oper} {ss:Nat→St} {f:Nat→FP} (hp:b8r C) (hv:c8x call) (r:Run C call ops ss f):∀k,k≤ops.size→Z7 (ss 0).H (ss k).H
 | 0,_=>.rfl'
 | k+1,h=>by
  have ho:ops[k]?=some ops[k]:=by simp
  refine (c9m hp hv r k (by omega)).trans ?_
  have:=(r.step k _ ho).1
  unfold Z8 at this
  split at this
  ·
   exact (c3h hp hv this).2
  ·
   exact c9w this
  ·
   cases this
theorem b7o {lp:a7b} {call:D4} (hl:b6p lp) (hp:b8r C) (hv:c8x call):∀(c:Code) (il:Bool) {x:X} {s s':St},F7 C lp call il c s=some (x,s')→Z7 s.H s'.H:=by
 intro c
 induction c with
 | skip=>intro il x s s' h;simp[F7] at h;obtain ⟨_,rfl⟩:=h;exact .rfl'
 | region id ops draw =>
  intro il x s s' h
  simp only[F7] at h
  cases hd:(if draw=true then Y0 C call il ops s else U4 C call il ops s) with
  | none=>simp[hd] at h
  | some s1 =>
   simp[hd] at h;obtain ⟨_,rfl⟩:=h
   cases draw with
   | true =>
    simp only[if_true] at hd
    obtain ⟨ss,f,r,e0,e1⟩:=c3n hd
    have hb:Z7 s.H (ss ops.size).H:=by
     refine (a6u ops.toList).trans ?_
     rw[←e0];exact c9m hp hv r _ (Nat.le_refl _)
    rw[e1]
    cases M0 ops.toList with
    | true=>exact hb.trans b6v
    | false=>exact hb
   | false =>
    simp only[if_false,Bool.false_eq_true] at hd
    unfold U4 at hd
    split at hd
    ·
     rename_i s2 he
     simp at hd;subst hd
     have hb:Z7 s.H s2.H:=by
      cases il with
      | true=>exact (a4u ops.toList).trans (a2a hp hv he)
      | false=>exact a2a hp hv he
     cases M0 ops.toList with
     | true=>exact hb.trans b6v
     | false=>exact hb
    ·
     cases hd
 | seq c1 c2 ih1 ih2 =>
  intro il x s s' h
  simp only[F7] at h
  cases h1:F7 C lp call il c1 s with
  | none=>simp[h1] at h
  | some p =>
   obtain ⟨x1,s1⟩:=p
   cases x1 with
   | normal=>simp only[h1] at h;exact (ih1 il h1).trans (ih2 il h)
   | exit i=>simp[h1] at h;obtain ⟨_,rfl⟩:=h;exact ih1 il h1
   | ret=>simp[h1] at h;obtain ⟨_,rfl⟩:=h;exact ih1 il h1
 | cond c x1 x2 ih1 ih2 =>
  intro il x s s' h
  simp only[F7] at h
  split at h
  ·
   rename_i t hc
   cases t with
   | true=>exact ih1 il h
   | false=>exact ih2 il h
  ·
   cases h
 | block id c ih =>
  intro il x s s' h
  simp only[F7] at h
  cases h1:F7 C lp call il c s with
  | none=>simp[h1] at h
  | some p =>
   obtain ⟨x1,s1⟩:=p
   cases x1 with
   | normal=>simp[h1] at h;obtain ⟨_,rfl⟩:=h;exact ih il h1
   | ret=>simp[h1] at h;obtain ⟨_,rfl⟩:=h;exact ih il h1
   | exit i=>simp[h1] at h;obtain ⟨_,rfl⟩:=h;exact ih il h1
 | loop c ih =>
  intro il x s s' h
  simp only[F7] at h
  have hro:=hl _ _ _ _ h
  clear h
  induction hro with
  | last h hx=>exact ih true h
  | more h t ih2=>exact (ih true h).trans ih2
 | exit id=>intro il x s s' h;simp[F7] at h;obtain ⟨_,rfl⟩:=h;exact .rfl'
 | ret=>intro il x s s' h;simp[F7] at h;obtain ⟨_,rfl⟩:=h;exact .rfl'
 | _=>intro il x s s' h;simp[F7] at h
theorem d3z {lp:a7b} {call:D4} (hl:b6p lp) (hp:b8r C) (hv:c8x call) {K:FuncId} {args:List V} {H H':A9} {r:V} (h:a5d C lp call K args H=some (r,H')):Z7 H H':=by
 unfold a5d at h
 cases hf:C.P.funcs[K]? with
 | none=>simp[hf] at h
 | some fn =>
  simp only[hf] at h
  cases hb:fn.body with
  | none=>simp[hb] at h
  | some c =>
   simp only[hb] at h
   have fin:∀(x:X) (s':St),F7 C lp call false c ⟨max fn.ntmps args.length,fun t=>(args[t]?).getD L8,H⟩=some (x,s')→
     (match r8 C s' fn.results.toList with|some vs=>some (X5 vs,s'.H)|none=>none)=some (r,H')→Z7 H H':=by
    intro x s' hc hres
    have:=b7o hl hp hv c false hc
    cases he:r8 C s' fn.results.toList with
    | none=>simp[he] at hres
    | some l=>simp[he] at hres;rw[←hres.2];exact this
   cases hc:F7 C lp call false c ⟨max fn.ntmps args.length,fun t=>(args[t]?).getD L8,H⟩ with
   | none=>simp[hc] at h
   | some p =>
    obtain ⟨x,s'⟩:=p
    simp only[hc] at h
    cases x with
    | normal=>exact fin .normal s' hc h
    | ret=>exact fin .ret s' hc h
    | exit i=>simp at h
def a9s (C:Cx):Prop:=∀(K:FuncId) (fn:Func),C.P.funcs[K]?=some fn→fn.body.isSome=true→fn.name≠ "runtime.NumGoroutine"
theorem c3w (ok:a6x C) (okc:S8 C) (hn:a9s C) {lp:a7b} {call:D4} (hl:b6p lp) (hv:W3 C call):W3 C (a5d C lp call):=by
 intro K args H r H' h
 obtain ⟨⟨fn,h1,h2⟩,h3⟩:=e4r okc hl (c5e ok okc hv) h
 exact ⟨⟨fn,h1,hn K fn h1 h2,h2⟩,h3,d3z hl (fun K f args H r H' h1 h2=>(okc.prim K f args H r H' h1 h2).2) (fun K args H r H' h=>(hv K args H r H' h).2.2) h⟩
theorem b4n:∀n,b6p (Z4 n)
 | 0=>fun f s x s' h=>by simp[Z4] at h
 | n+1=>fun f s x s' h=>by
  simp only[Z4] at h
  split at h
  ·
   rename_i s1 h1
   exact .more h1 (b4n n f s1 x s' h)
  ·
   rename_i hne
   refine .last h fun e=>?_
   subst e
   exact hne s' h
end
end Go.Ev
end
section
namespace Go.Ev
section
variable {C : Cx} {s s' q : St}
def Q7 (c c':D4):Prop:=∀K args H r,c K args H=some r→c' K args H=some r
theorem Q7.rfl' {c:D4}:Q7 c c:=fun _ _ _ _ h=>h
theorem Q7.trans {c c' c'':D4} (h:Q7 c c') (k:Q7 c' c''):Q7 c c'':=fun K args H r hr=>k K args H r (h K args H r hr)
theorem d3y {y:Bool} {c:D4} {dst:Option Nat} {K:FuncId} {args:List V} (h:L4 C y c s dst K args=some s') :
  (∀c':D4,L4 C y c' s dst K args=some s'∧∀H2:A9,Z9 C c' H2 K args=Z9 C c H2 K args)∨
  ∃a H r,c K a H=some r∧∀c':D4,c' K a H=some r→L4 C y c' s dst K args=some s'∧Z9 C c' s.H K args=Z9 C c s.H K args:=by
 unfold L4 at h
 split at h
 ·
  rename_i f he
  left
  intro c'
  refine ⟨?_,fun H2=>by unfold Z9;simp only[he]⟩
  unfold L4;simp only[he];exact h
 ·
  rename_i he
  split at h
  ·
   rename_i f hp
   left
   intro c'
   refine ⟨?_,fun H2=>by unfold Z9;simp only[he,hp]⟩
   unfold L4;simp only[he,hp];exact h
  ·
   rename_i hp
   right
   split at h
   ·
    rename_i ds hds
    split at h
    ·
     rename_i r Hc hc
     refine ⟨_,_,_,hc,fun c' hc'=>⟨?_, ?_⟩⟩
     ·
      unfold L4;simp only[he,hp,hds,hc'];exact h
     ·
      unfold Z9;simp only[he,hp,hds,hc',hc]
    ·
     cases h
   ·
    rename_i hds
    cases dst with
    | none=>cases h
    | some d =>
     have key:∀(s0:St) (a0:List V),X3 c s0 d K a0=some s'→∃a H r,c K a H=some r∧∀c':D4,c' K a H=some r→X3 c' s0 d K a0=some s':=by
      intro s0 a0 h
      unfold X3 at h
      split at h
      ·
       rename_i r Hc hc
       exact ⟨_,_,_,hc,fun c' hc'=>by unfold X3;simp only[hc'];exact h⟩
      ·
       cases h
     cases y with
     | true =>
      obtain ⟨a,H,r,h1,h2⟩:=key _ _ h
      refine ⟨a,H,r,h1,fun c' hc'=>⟨?_,by unfold Z9;simp only[he,hp,hds]⟩⟩
      unfold L4;simp only[he,hp,hds];exact h2 c' hc'
     | false =>
      obtain ⟨a,H,r,h1,h2⟩:=key _ _ h
      refine ⟨a,H,r,h1,fun c' hc'=>⟨?_,by unfold Z9;simp only[he,hp,hds]⟩⟩
      unfold L4;simp only[he,hp,hds];exact h2 c' hc'
theorem e4i {y:Bool} {c:D4} {o:Oper} (h:C3 C y c o s=some s') :
  ∃ask:D4→Prop,ask c∧(∀c1 c2,Q7 c1 c2→ask c1→ask c2)∧(∀cs:Nat→D4,(∀K a H r,c K a H=some r→∃n,cs n K a H=some r)→∃n,ask (cs n))∧
   ∀c',ask c'→C3 C y c' o s=some s'∧∀l s2,J1 C c' l o s s2=J1 C c l o s s2:=by
 have easy:(∀c':D4,C3 C y c' o s=some s'∧∀l s2,J1 C c' l o s s2=J1 C c l o s s2)→∃ask:D4→Prop,ask c∧(∀c1 c2,Q7 c1 c2→ask c1→ask c2)∧(∀cs:Nat→D4,(∀K a H r,c K a H=some r→∃n,cs n K a H=some r)→∃n,ask (cs n))∧
   ∀c',ask c'→C3 C y c' o s=some s'∧∀l s2,J1 C c' l o s s2=J1 C c l o s s2:=fun h=>⟨fun _=>True,trivial,fun _ _ _ _=>trivial,fun _ _=>⟨0,trivial⟩,fun c' _=>h c'⟩
 obtain ⟨dst,op,type,pos,after,guard⟩:=o
 cases op with
 | call cl =>
  obtain ⟨callee,cargs,at_⟩:=cl
  cases callee with
  | builtin b=>exact easy fun c'=>⟨by cases b<;>exact h,fun l s2=>by cases b<;>rfl⟩
  | invoke x z=>exact easy fun c'=>⟨h,fun l s2=>rfl⟩
  | value fo =>
   simp only[C3] at h
   split at h
   ·
    cases h
   ·
    rename_i args ha
    split at h
    ·
     rename_i K first cap hf
     rcases d3y h with h1|⟨a,H,r,h1,h2⟩
     ·
      refine easy fun c'=>⟨?_,fun l s2=>?_⟩
      ·
       simp only[C3,ha,hf];exact (h1 c').1
      ·
       simp only[J1,ha,hf];rw[(h1 c').2]
     ·
      refine ⟨fun c'=>c' K a H=some r,h1,fun c1 c2 hle h=>hle _ _ _ _ h,fun cs hcs=>hcs K a H r h1,fun c' hc'=>⟨?_,fun l s2=>?_⟩⟩
      ·
       simp only[C3,ha,hf];exact (h2 c' hc').1
      ·
       simp only[J1,ha,hf];rw[(h2 c' hc').2]
    ·
     cases h
 | slice t x lo hi mx=>cases mx<;>exact easy fun c'=>⟨h,fun l s2=>rfl⟩
 | _=>exact easy fun c'=>⟨h,fun l s2=>rfl⟩
structure h6b (cs:Nat→D4) (c:D4):Prop where
 up:∀n m,n≤m→Q7 (cs n) (cs m)
 le:∀n,Q7 (cs n) c
 sup:∀K a H r,c K a H=some r→∃n,cs n K a H=some r
theorem d9p {y:Bool} {c c':D4} (hle:Q7 c c') {o:Oper} (h:C3 C y c o s=some s'):C3 C y c' o s=some s'∧∀l s2,J1 C c' l o s s2=J1 C c l o s s2:=by
 obtain ⟨ask,h1,h2,_,h4⟩:=e4i h
 exact h4 c' (h2 c c' hle h1)
theorem c3g {y:Bool} {c c':D4} (hle:Q7 c c') {ops:Array Oper}:∀{l:List Oper} {s s':St},N6 C y c ops l s=some s'→N6 C y c' ops l s=some s'
 | [],s,s',h=>h
 | o::l,s,s',h=>by
  simp only[N6] at h ⊢
  split at h
  ·
   split at h
   ·
    rename_i s1 h1
    rw[(d9p hle h1).1];exact c3g hle h
   ·
    cases h
  ·
   split at h
   ·
    rename_i s1 h1
    exact c3g hle h
   ·
    cases h
  ·
   cases h
theorem e5y {c c':D4} (hle:Q7 c c') {ops:Array Oper} {o:Oper} (h:Z8 C c ops o s=some s'):Z8 C c' ops o s=some s'∧∀s2,fpY C c' ops o s s2=fpY C c ops o s s2:=by
 unfold Z8 at h ⊢
 unfold fpY
 split at h
 ·
  rename_i hw
  obtain ⟨h1,h2⟩:=d9p hle h
  simp only[hw]
  exact ⟨h1,fun s2=>h2 _ _⟩
 ·
  rename_i hw
  simp only[hw]
  exact ⟨h,fun s2=>trivial⟩
 ·
  cases h
theorem d8s {c c':D4} (hle:Q7 c c') {ops:Array Oper}:∀{l:List Oper} {s:St} {r:St×List FP},a3p C c ops l s=some r→a3p C c' ops l s=some r
 | [],s,r,h=>h
 | o::l,s,r,h=>by
  simp only[a3p] at h ⊢
  split at h
  ·
   rename_i s1 h1
   split at h
   ·
    rename_i r2 fs h2
    obtain ⟨u1,u2⟩:=e5y hle h1
    simp only[u1,d8s hle h2,u2]
    exact h
   ·
    cases h
  ·
   cases h
theorem e4m {c c':D4} (hle:Q7 c c') {il:Bool} {ops:Array Oper} (h:Y0 C c il ops s=some s'):Y0 C c' il ops s=some s':=by
 unfold Y0 at h ⊢
 cases hc:(V9 ops&&(j7 ops&&a4i ops.toList)) with
 | false=>simp only[hc,cond_false] at h;cases h
 | true =>
  simp only[hc,cond_true] at h ⊢
  split at h
  ·
   rename_i s1 fs h1
   simp only[d8s hle h1];exact h
  ·
   cases h
theorem d3o {c c':D4} (hle:Q7 c c') {il:Bool} {ops:Array Oper} (h:U4 C c il ops s=some s'):U4 C c' il ops s=some s':=by
 unfold U4 at h ⊢
 split at h
 ·
  rename_i s1 h1
  simp only[c3g hle h1];exact h
 ·
  cases h
theorem d2m {f f':St→Option (X×St)} (hf:∀s r,f s=some r→f' s=some r):∀{n m:Nat} {s:St} {r:X×St},n≤m→Z4 n f s=some r→Z4 m f' s=some r
 | 0,_,_,_,_,h=>by simp[Z4] at h
 | n+1,0,_,_,hnm,_=>by omega
 | n+1,m+1,s,r,hnm,h=>by
  simp only[Z4] at h ⊢
  cases hfs:f s with
  | none=>simp[hfs] at h
  | some p =>
   rw[hf s p hfs]
   obtain ⟨x,s1⟩:=p
   cases x with
   | normal=>simp only[hfs] at h ⊢;exact d2m hf (by omega) h
   | exit i=>simp only[hfs] at h ⊢;exact h
   | ret=>simp only[hfs] at h ⊢;exact h
end
section code
variable {C : Cx}
def d7w (lp lp':a7b):Prop:=∀(f f':St→Option (X×St)),(∀s r,f s=some r→f' s=some r)→∀s r,lp f s=some r→lp' f' s=some r
theorem e4o {lp lp':a7b} {c c':D4} (hl:d7w lp lp') (hle:Q7 c c'):∀(k:Code) (il:Bool) (s:St) (r:X×St),F7 C lp c il k s=some r→F7 C lp' c' il k s=some r:=by
 intro k
 induction k with
 | region id ops draw =>
  intro il s r h
  simp only[F7] at h ⊢
  cases draw with
  | true =>
   simp only[if_true] at h ⊢
   split at h
   ·
    rename_i s1 h1;simp only[e4m hle h1];exact h
   ·
    cases h
  | false =>
   simp only[if_false,Bool.false_eq_true] at h ⊢
   split at h
   ·
    rename_i s1 h1;simp only[d3o hle h1];exact h
   ·
    cases h
 | seq a b ih1 ih2 =>
  intro il s r h
  simp only[F7] at h ⊢
  cases h1:F7 C lp c il a s with
  | none=>simp[h1] at h
  | some p =>
   obtain ⟨x1,s1⟩:=p
   rw[ih1 il s _ h1]
   simp only[h1] at h
   cases x1 with
   | normal=>exact ih2 il s1 r h
   | exit i=>exact h
   | ret=>exact h
 | cond x a b ih1 ih2 =>
  intro il s r h
  simp only[F7] at h ⊢
  split at h
  ·
   rename_i t hc
   cases t with
   | true=>exact ih1 il s r h
   | false=>exact ih2 il s r h
  ·
   cases h
 | block id a ih =>
  intro il s r h
  simp only[F7] at h ⊢
  cases h1:F7 C lp c il a s with
  | none=>simp[h1] at h
  | some p=>rw[ih il s _ h1];rw[h1] at h;exact h
 | loop a ih =>
  intro il s r h
  simp only[F7] at h ⊢
  exact hl _ _ (ih true) s r h
 | skip=>intro il s r h;exact h
 | exit id=>intro il s r h;exact h
 | ret=>intro il s r h;exact h
 | _=>intro il s r h;simp[F7] at h
theorem e4q {lp lp':a7b} {c c':D4} (hl:d7w lp lp') (hle:Q7 c c'):Q7 (a5d C lp c) (a5d C lp' c'):=by
 intro K args H r h
 unfold a5d at h ⊢
 cases hf:C.P.funcs[K]? with
 | none=>simp[hf] at h
 | some fn =>
  simp only[hf] at h ⊢
  cases hb:fn.body with
  | none=>simp[hb] at h
  | some k =>
   simp only[hb] at h ⊢
   cases hc:F7 C lp c false k ⟨max fn.ntmps args.length,fun t=>(args[t]?).getD L8,H⟩ with
   | none=>simp[hc] at h
   | some p=>rw[e4o hl hle k false _ _ hc];rw[hc] at h;exact h
theorem e7q {n m:Nat} (h:n≤m):d7w (Z4 n) (Z4 m):=fun f f' hf s r hr=>d2m hf h hr
def evM (C:Cx):Nat→D4
 | 0,_,_,_=>none
 | n+1,K,args,H=>a5d C (Z4 n) (evM C n) K args H
theorem d6v:∀{n m:Nat},n≤m→Q7 (evM C n) (evM C m)
 | 0,_,_=>fun K args H r h=>by simp[evM] at h
 | n+1,0,h=>by omega
 | n+1,m+1,h=>e4q (e7q (by omega)) (d6v (by omega))
noncomputable def f4n (C:Cx):D4:=fun K args H=>open Classical in if h:∃r,∃n,evM C n K args H=some r then some h.choose else none
theorem e4k {K:FuncId} {args:List V} {H:A9} {r:V×A9}:f4n C K args H=some r↔∃n,evM C n K args H=some r:=by
 unfold f4n
 constructor
 ·
  intro h
  split at h
  ·
   rename_i he;cases h;exact he.choose_spec
  ·
   cases h
 ·
  rintro ⟨n,hn⟩
  have he:∃r,∃n,evM C n K args H=some r:=⟨r,n,hn⟩
  rw[dif_pos he]
  obtain ⟨m,hm⟩:=he.choose_spec
  have h1:=d6v (Nat.le_max_left n m) K args H _ hn
  have h2:=d6v (Nat.le_max_right n m) K args H _ hm
  rw[h1] at h2
  exact h2.symm
theorem c6c (ok:a6x C) (okc:S8 C) (hn:a9s C):∀n,W3 C (evM C n)
 | 0=>fun K args H r H' h=>by simp[evM] at h
 | n+1=>c3w ok okc hn (b4n _) (c6c ok okc hn n)
theorem d6x (ok:a6x C) (okc:S8 C) (hn:a9s C):W3 C (f4n C):=fun K args H r H' h=>by
 obtain ⟨n,h⟩:=e4k.1 h
 exact c6c ok okc hn n K args H r H' h
end code
end Go.Ev
end
section
namespace Go.Ev
def A1:D→Int | .lit (.int _ n)=>n|_=>0
def L5:D→Bool | .lit (.bool b)=>b|_=>false
def A2:D→ByteArray | .lit (.string s)=>s|_=>.empty
def F1:D→Bool | .slice b _ _=>b|_=>false
def A3:D→List D | .slice _ _ xs=>xs|_=>[]
def A0 (y:D) (i:Nat):D:=y.cells.getD i (.lit .nilFunc)
def e8f (k:IntKind):D→Bool | .lit (.int k' _)=>decide (k'=k)|_=>false
def d9i:D→Bool | .lit (.bool _)=>true|_=>false
def e8d:D→Bool | .lit (.string _)=>true|_=>false
def e8e (sz:Nat):D→Bool | .slice _ z _=>z==sz|_=>false
def d6m (n:Nat):D→Bool | .agg cs=>cs.length==n|_=>false
def e8s (C:Cx) (t:TypeId) (y:D):D:=match E3 C t with
 | some (.int k)=>.lit (.int k (A1 y))
 | some .bool=>.lit (.bool (L5 y))
 | some .string=>.lit (.string (A2 y))
 | some (.slice e)=>match L1 C e with|some k=>.slice (F1 y) k (A3 y)|none=>y
 | _=>y
def d3i (C:Cx) (t:TypeId) (y:D):Bool:=match E3 C t with
 | some (.int k)=>e8f k y
 | some .bool=>d9i y
 | some .string=>e8d y
 | some (.slice e)=>match L1 C e with|some k=>e8e k y|none=>true
 | _=>true
def e2c (C:Cx):List Field→Option (List TypeId)
 | []=>some []
 | f::r=>match E3 C f.type,L1 C f.type,e2c C r with
  | some (.struct fs),some _,_=>none
  | some _,some 1,some l=>some (f.type::l)
  | _,_,_=>none
def c6f (C:Cx):List TypeId→Nat→D→List D
 | [],_,_=>[]
 | t::r,i,y=>e8s C t (A0 y i)::c6f C r (i+1) y
def c3b (C:Cx):List TypeId→Nat→D→Bool
 | [],_,_=>true
 | t::r,i,y=>d3i C t (A0 y i)&&c3b C r (i+1) y
def d8h (C:Cx) (e:TypeId) (y:D) (K:D→Prop):Prop:=match E3 C e with
 | some (.struct fs)=>match e2c C fs.toList with
  | some ts=>bif d6m ts.length y&&c3b C ts 0 y then K (.agg (c6f C ts 0 y)) else False
  | none=>K y
 | _=>bif d3i C e y then K (e8s C e y) else False
theorem d9q {C:Cx} {t:TypeId} {y:D} (h:d3i C t y=true):e8s C t y=y:=by
 unfold d3i at h
 unfold e8s
 cases hu:E3 C t with
 | none=>rfl
 | some u =>
  rw[hu] at h
  cases u with
  | int k =>
   simp only[] at h ⊢
   unfold e8f at h
   split at h
   ·
    simp at h;subst h;rfl
   ·
    cases h
  | bool =>
   simp only[] at h ⊢
   unfold d9i at h
   split at h
   ·
    rfl
   ·
    cases h
  | string =>
   simp only[] at h ⊢
   unfold e8d at h
   split at h
   ·
    rfl
   ·
    cases h
  | slice e =>
   simp only[] at h ⊢
   cases hk:L1 C e with
   | none=>rfl
   | some k =>
    rw[hk] at h
    simp only[] at h ⊢
    unfold e8e at h
    split at h
    ·
     simp at h;subst h;rfl
    ·
     cases h
  | _=>rfl
theorem d4d {C:Cx} {cs:List D}:∀{ts:List TypeId} {i:Nat},c3b C ts i (.agg cs)=true→i+ts.length=cs.length→c6f C ts i (.agg cs)=cs.drop i
 | [],i,_,h=>by simp only[c6f];rw[List.drop_of_length_le];simp at h;omega
 | t::r,i,hf,h=>by
  simp only[c3b,Bool.and_eq_true] at hf
  simp only[c6f]
  have hlt:i<cs.length:=by simp at h;omega
  rw[d9q hf.1,d4d hf.2 (by simp at h;omega)]
  have:A0 (.agg cs) i=cs[i]:=by simp[A0,D.cells,hlt]
  rw[this,List.drop_eq_getElem_cons hlt]
theorem e2m {C:Cx} {e:TypeId} {y:D} {K:D→Prop} (h:d8h C e y K):K y:=by
 unfold d8h at h
 split at h
 ·
  split at h
  ·
   rename_i ts hts
   cases hc:(d6m ts.length y&&c3b C ts 0 y) with
   | false=>rw[hc] at h;exact h.elim
   | true =>
    rw[hc] at h
    simp only[Bool.and_eq_true] at hc
    unfold d6m at hc
    split at hc
    ·
     rename_i cs
     have:=d4d hc.2 (by have:=hc.1;simp at this;omega)
     simp only[cond_true] at h
     rw[this] at h
     simpa using h
    ·
     cases hc.1
  ·
   exact h
 ·
  cases hc:d3i C e y with
  | false=>rw[hc] at h;exact h.elim
  | true=>rw[hc] at h;simp only[cond_true] at h;rw[d9q hc] at h;exact h
class Bad (Z:Type) where
 bad:Z
 vw:Cx→TypeId→D→(D→Z)→Z
instance {R:Type}:Bad (Option R):=⟨none,fun _ _ y K=>K y⟩
instance:Bad Prop:=⟨False,d8h⟩
class Plain (Z:Type) [Bad Z]:Prop where
 vw_eq:∀(C:Cx) (e:TypeId) (y:D) (K:D→Z),Bad.vw C e y K=K y
instance {R:Type}:Plain (Option R):=⟨fun _ _ _ _=>rfl⟩
def go {Z:Type} [Bad Z] {α:Type} (o:Option α) (K:α→Z):Z:=match o with|some a=>K a|none=>Bad.bad
def e7w (s:St) (d:Nat) (b:Bool):St:=⟨s.N,upd s.F d (A7 b),s.H⟩
def e7v (s:St) (x:Operand) (b:Bool):St:=match x with | .tmp t=>e7w s t b|_=>s
section
variable (C : Cx) {R : Type} {Z : Type} [Bad Z]
def d8f (ops:Array Oper) (o:Oper) (s:St) (K:Bool→St→Z):Z:=match o.guard with
 | none=>K true s
 | some (j,want)=>match (ops[j]?).bind (·.dst) with
  | none=>Bad.bad
  | some d=>match s.F d with
   | .d (.lit (.bool b))=>bif b then K want (e7w s d true) else K (!want) (e7w s d false)
   | .d (.lit (.tuple _))=>K false s
   | _=>Bad.bad
def a4v (s:St) (dst:Option Nat) (v:V) (K:St→Z):Z:=match dst with
 | none=>K s
 | some d=>bif Nat.blt d s.N then K ⟨s.N,upd s.F d v,s.H⟩ else Bad.bad
def e8g (x:V) (K:Nat→Z):Z:=match x with
 | .d (.lit (.int _ i))=>bif decide (0≤i) then K i.toNat else Bad.bad
 | _=>Bad.bad
def B3 (s:ByteArray) (k:Nat):Int:=(s.data.toList.getD k 0).toNat
def c3k (t:TypeId) (x i:V) (K:V→Z):Z:=match E3 C t,x with
 | some .string, .d (.lit (.string s))=>e8g i fun k=>bif Nat.blt k s.size then K (.d (.lit (.int .u8 (B3 s k)))) else Bad.bad
 | _,_=>go (s6 C t x i) K
def a6n (H:A9) (t:TypeId) (x i:V) (K:V→Z):Z:=match E3 C t with
 | some (.slice e)=>match a2w H x,L1 C e with
  | some (_,sz,xs),some z=>e8g i fun k=>go xs[k]? fun y=>bif sz==z then Bad.vw C e y fun y=>K (.d (.elem y.cells)) else Bad.bad
  | _,_=>go (H7 C H t x i) K
 | _=>go (H7 C H t x i) K
def c2v (d:Nat) (x:Option V) (K:Nat→Z):Z:=match x with
 | none=>K d
 | some v=>e8g v K
def c3e (H:A9) (t:TypeId) (x:V) (lo hi:Option V) (K:V→Z):Z:=match E3 C t with
 | some .string=>match x with
  | .d (.lit (.string s))=>c2v 0 lo fun l=>c2v s.size hi fun h=>bif Nat.ble l h&&Nat.ble h s.size then K (C0 (s.extract l h)) else Bad.bad
  | _=>Bad.bad
 | some (.slice e)=>match a2w H x,L1 C e with
  | some (nil,sz,xs),some k=>c2v 0 lo fun l=>c2v xs.length hi fun h=>bif Nat.ble l h&&Nat.ble h xs.length&&(sz==k||nil) then K (.d (.slice nil k ((xs.take h).drop l))) else Bad.bad
  | _,_=>Bad.bad
 | _=>Bad.bad
def d7c (H:A9) (op:BinOp) (t:TypeId) (x y:V) (K:V→Z):Z:=match x,y with
 | .d (.lit (.int k a)), .d (.lit (.int k' b))=>match op with
  | .quo=>bif decide (k=k')&& !decide (b=0) then K (.d (.lit (.int k (k.wrap (a.tdiv b))))) else Bad.bad
  | .rem=>bif decide (k=k')&& !decide (b=0) then K (.d (.lit (.int k (a.tmod b)))) else Bad.bad
  | _=>go (f8 C H op t x y) K
 | .d (.lit (.string a)), .d (.lit (.string b))=>match op with
  | .add=>bif Nat.ble (a.size+b.size) 9223372036854775807 then K (C0 (a++b)) else Bad.bad
  | _=>go (f8 C H op t x y) K
 | x,y=>go (f8 C H op t x y) K
def d9n (k:Value) (es:List (D×D)) (K:Option D→Z):Z:=match es with
 | []=>K none
 | (x,v)::r=>match b3u k x with
  | some b=>bif b then K (some v) else d9n k r K
  | none=>Bad.bad
def b6e (H:A9) (t:TypeId) (m k:V) (ok:Bool) (K:V→Z):Z:=match E3 C t,k,a2b H m with
 | some (.map kt et), .d (.lit kv),some es=>match E3 C kt,a5g C et with
  | some u,some z=>bif S7 u kv then d9n kv es fun r=>match r with
    | some v=>K (bif ok then .d (.tup [v, .lit (.bool true)]) else .d v)
    | none=>K (bif ok then .d (.tup [z, .lit (.bool false)]) else .d z)
   else Bad.bad
  | _,_=>Bad.bad
 | _,_,_=>Bad.bad
def c8d (y:Bool) (call:D4) (s:St) (dst:Option Nat) (K:FuncId) (args:List V) (k:St→Z):Z:=match C.ext K with
 | some f=>go (a2k s.H args) fun ds=>go (f ds) fun r=>a4v s dst (.d r) k
 | none=>match C.prim K with
  | some f=>go (f args s.H) fun r=>a4v ⟨s.N,s.F,r.2⟩ dst r.1 k
  | none=>go (L4 C y call s dst K args) k
def a9n (s:St) (dst:Option Nat) (t:TypeId) (x y:V) (k:St→Z):Z:=match E3 C t with
 | some (.slice e)=>match L1 C e,b6k C e,a5g C e with
  | some sz,some by_,some z=>match a6y s.H e sz x,b5i s.H sz y with
   | some (n,nil,xs),some (ys,zs) =>
    bif sz==0||by_==0|| !(H4 z&&z.cells.length==sz) then Bad.bad else
    bif Nat.ble ((xs.length+(ys.length+zs.length))*by_) b9w then
     go (St.make (s.with (match n with|some n=>s.H.set n (.arr false nil e sz xs [])|none=>s.H)) dst (.arr true (nil&&(ys.isEmpty&&zs.isEmpty)) e sz (xs++ys) zs) .ref) k
    else Bad.bad
   | _,_=>Bad.bad
  | _,_,_=>Bad.bad
 | _=>Bad.bad
def c6b (y:Bool) (call:D4) (o:Oper) (s:St) (K:St→Z):Z:=match o.op with
 | .pick c a b=>match E8 C s.F c with
  | some (.d (.lit (.bool t)))=>bif t then go (E8 C s.F a) (fun v=>a4v s o.dst v K) else go (E8 C s.F b) (fun v=>a4v s o.dst v K)
  | _=>Bad.bad
 | .index t x i=>go (E8 C s.F x) fun x=>go (E8 C s.F i) fun i=>c3k C t x i fun v=>a4v s o.dst v K
 | .indexAddr t x i=>go (E8 C s.F x) fun x=>go (E8 C s.F i) fun i=>a6n C s.H t x i fun v=>a4v s o.dst v K
 | .slice t x lo hi none=>go (E8 C s.F x) fun x=>go (a3e C s.F lo) fun lo=>go (a3e C s.F hi) fun hi=>c3e C s.H t x lo hi fun v=>a4v s o.dst v K
 | .binOp op t x y _=>go (E8 C s.F x) fun vx=>go (E8 C s.F y) fun vy=>bif w4 vx&&w4 vy&& !(Region.isConst x||Region.isConst y) then Bad.bad else d7c C s.H op t vx vy fun v=>a4v s o.dst v K
 | .lookup t m k ok=>go (E8 C s.F m) fun m=>go (E8 C s.F k) fun k=>b6e C s.H t m k ok fun v=>a4v s o.dst v K
 | .call c=>match c.callee with
  | .value f=>go (M9 C s.F c.args.toList) fun args=>match E8 C s.F f with
   | some (.fn (.func F) first cap)=>c8d C y call s o.dst F (first++args++cap) K
   | _=>Bad.bad
  | .builtin .append=>match M9 C s.F c.args.toList with
   | some [x,z]=>match c.argTypes[0]?,c.argTypes[1]? with
    | some t,some u=>(match E3 C u with
     | some (.slice _)=>a9n C s o.dst t x z K
     | some .string=>a9n C s o.dst t x z K
     | _=>Bad.bad)
    | _,_=>Bad.bad
   | _=>Bad.bad
  | _=>go (C3 C y call o s) K
 | _=>go (C3 C y call o s) K
theorem c7n {s:St} {d:Nat} {b:Bool} (h:s.F d=A7 b):e7w s d b=s:=by
 unfold e7w
 have:upd s.F d (A7 b)=s.F:=by
  funext t
  unfold upd
  by_cases ht:t=d
  ·
   subst ht;simp[h]
  ·
   have:(t==d)=false:=by simpa using ht
   simp[this]
 rw[this]
theorem a2g {s:St} {dst:Option Nat} {v:V} {K:St→Z}:a4v s dst v K=go (s.put dst v) K:=by
 unfold a4v St.put
 cases dst with
 | none=>rfl
 | some d=>simp only[];cases Nat.blt d s.N<;>rfl
theorem c9a {ops:Array Oper} {o:Oper} {s:St} {K:Bool→St→Z}:d8f ops o s K=go (H9 ops o s.F) fun b=>K b s:=by
 unfold d8f H9
 cases o.guard with
 | none=>rfl
 | some p =>
  obtain ⟨j,want⟩:=p
  simp only[]
  cases (ops[j]?).bind (·.dst) with
  | none=>rfl
  | some d =>
   simp only[]
   generalize hv:s.F d=v
   split
   ·
    rename_i b
    cases b with
    | true=>simp only[cond_true];rw[c7n hv];cases want<;>rfl
    | false=>simp only[cond_false];rw[c7n hv];cases want<;>rfl
   ·
    rfl
   ·
    rename_i h1 h2
    split
    ·
     rename_i b;exact absurd rfl (h1 _)
    ·
     rename_i b;exact absurd rfl (h2 _)
    ·
     rfl
theorem c7r {x:V} {K:Nat→Z}:e8g x K=go (idx x) K:=by
 unfold e8g idx
 split
 ·
  rename_i i
  by_cases h:0≤i
  ·
   simp[h,go]
  ·
   simp[h,go]
 ·
  rename_i h
  split
  ·
   exact absurd rfl (h _ _)
  ·
   rfl
theorem a9h {d:Nat} {x:Option V} {K:Nat→Z}:c2v d x K=go (a2y d x) K:=by
 cases x with
 | none=>rfl
 | some v=>exact c7r
theorem c6k {s:ByteArray} {k:Nat} (h:k<s.size):s[k]?=some (s.data.toList.getD k 0):=by
 have h':k<s.data.size:=h
 have e:s[k]?=some s[k]:=by
  rw[getElem?_pos]
 rw[e]
 congr 1
 rw[List.getD_eq_getElem?_getD,Array.getElem?_toList,Array.getElem?_eq_getElem h']
 rfl
theorem d3t {t:TypeId} {x i:V} {K:V→Z}:c3k C t x i K=go (s6 C t x i) K:=by
 unfold c3k
 split
 ·
  rename_i st hu
  rw[c7r]
  unfold s6
  rw[hu]
  cases idx i with
  | none=>rfl
  | some k =>
   simp only[go]
   by_cases h:k<st.size
   ·
    have hb:Nat.blt k st.size=true:=by simpa [Nat.blt_eq] using h
    rw[hb,c6k h];rfl
   ·
    have hb:Nat.blt k st.size=false:=by
     cases hx:Nat.blt k st.size with
     | true=>exact absurd (by simpa [Nat.blt_eq] using hx) h
     | false=>rfl
    have hn:st[k]?=none:=by rw[getElem?_neg];exact h
    rw[hb,hn];rfl
 ·
  rfl
theorem ble_eq {a b:Nat}:Nat.ble a b=decide (a≤b):=by
 by_cases h:a≤b
 ·
  simp[h,Nat.ble_eq]
 ·
  rw[decide_eq_false h]
  cases hx:Nat.ble a b with
  | true=>exact absurd (by simpa [Nat.ble_eq] using hx) h
  | false=>rfl
theorem d3n {H:A9} {t:TypeId} {x:V} {lo hi:Option V} {K:V→Z}:c3e C H t x lo hi K=go (V6 C H t x lo hi) K:=by
 unfold c3e
 split
 ·
  rename_i hu
  split
  ·
   rename_i st
   rw[a9h]
   unfold V6
   rw[hu]
   simp only[]
   cases a2y 0 lo with
   | none=>rfl
   | some l =>
    simp only[go]
    rw[a9h]
    cases a2y st.size hi with
    | none=>rfl
    | some h =>
     simp only[go,ble_eq]
     by_cases h1:l≤h
     ·
      by_cases h2:h≤st.size
      ·
       simp[h1,h2]
      ·
       simp[h1,h2]
     ·
      simp[h1]
  ·
   rename_i hne
   unfold V6
   rw[hu]
   split
   ·
    rename_i h1 _;exact absurd rfl (hne _)
   ·
    rename_i h1;cases h1
   ·
    rfl
 ·
  rename_i e hu
  split
  ·
   rename_i nl sz xs k hs hk
   rw[a9h]
   unfold V6
   rw[hu]
   simp only[hs,hk]
   cases a2y 0 lo with
   | none=>rfl
   | some l =>
    simp only[go]
    rw[a9h]
    cases a2y xs.length hi with
    | none=>rfl
    | some h =>
     simp only[go,ble_eq]
     by_cases h1:l≤h
     ·
      by_cases h2:h≤xs.length
      ·
       simp only[h1,h2,decide_true,Bool.true_and,if_true]
       cases (sz==k||nl)<;>rfl
      ·
       simp[h1,h2]
     ·
      simp[h1]
  ·
   rename_i hne
   unfold V6
   rw[hu]
   simp only[]
   rfl
 ·
  rename_i h1 h2
  unfold V6
  split
  ·
   rename_i h3;exact absurd h3 h1
  ·
   rename_i h3;exact absurd h3 (h2 _)
  ·
   rfl
theorem e4s {H:A9} {op:BinOp} {t:TypeId} {x y:V} {K:V→Z}:d7c C H op t x y K=go (f8 C H op t x y) K:=by
 unfold d7c
 split
 ·
  rename_i k a k' b
  split
  ·
   unfold f8 b6c
   by_cases h1:k=k'
   ·
    by_cases h2:b=0
    ·
     simp[h1,h2,go]
    ·
     simp[h1,h2,go]
   ·
    simp[h1,go]
  ·
   unfold f8 b6c
   by_cases h1:k=k'
   ·
    by_cases h2:b=0
    ·
     simp[h1,h2,go]
    ·
     simp[h1,h2,go]
   ·
    simp[h1,go]
  ·
   rfl
 ·
  rename_i a b
  split
  ·
   unfold f8 c6t
   simp only[ble_eq]
   have hm:IntKind.i64.max=9223372036854775807:=by rfl
   by_cases h1:a.size+b.size≤9223372036854775807
   ·
    have:¬(((a.size+b.size:Nat):Int)>IntKind.i64.max):=by rw[hm];omega
    simp only[h1,decide_true,cond_true,if_neg this,go]
   ·
    have:(((a.size+b.size:Nat):Int)>IntKind.i64.max):=by rw[hm];omega
    simp only[h1,decide_false,cond_false,if_pos this,go]
  ·
   rfl
 ·
  rfl
theorem d3j {k:Value}:∀{es:List (D×D)} {K:Option D→Z},d9n k es K=go (b4w k es) K
 | [],K=>rfl
 | (x,v)::r,K=>by
  unfold d9n b4w
  cases b3u k x with
  | none=>rfl
  | some b =>
   cases b with
   | true=>rfl
   | false=>exact d3j
theorem c8a {H:A9} {t:TypeId} {m k:V} {ok:Bool} {K:V→Z}:b6e C H t m k ok K=go (f7 C H t m k ok) K:=by
 unfold b6e f7
 split
 ·
  rename_i kt et kv es hu he
  simp only[hu,he]
  split
  ·
   rename_i u z h1 h2
   simp only[h1,h2]
   rw[d3j]
   cases b4w kv es with
   | none=>cases S7 u kv<;>rfl
   | some r =>
    simp only[]
    cases S7 u kv with
    | false=>rfl
    | true=>cases r<;>rfl
  ·
   rename_i hne
   split
   ·
    rename_i h1 _ h2;exact absurd h2 (by intro h3;exact hne _ _ h1 h3)
   ·
    rfl
 ·
  rename_i hne
  split
  ·
   rename_i h1 h2;exact absurd h2 (by intro h3;exact hne _ _ _ _ h1 rfl h3)
  ·
   rfl
theorem b2y {r:Option V} {s:St} {dst:Option Nat} {K:St→Z}:(go r fun v=>a4v s dst v K)=go (asV r s dst) K:=by
 unfold asV
 cases r with
 | none=>rfl
 | some v=>exact a2g
theorem d7a {y:Bool} {call:D4} {s:St} {dst:Option Nat} {K:FuncId} {args:List V} {k:St→Z}:c8d C y call s dst K args k=go (L4 C y call s dst K args) k:=by
 unfold c8d
 split
 ·
  rename_i f hf
  unfold L4
  rw[hf]
  simp only[]
  cases a2k s.H args with
  | none=>rfl
  | some ds =>
   simp only[go]
   cases f ds with
   | none=>rfl
   | some r=>exact a2g
 ·
  rename_i he
  split
  ·
   rename_i f hf
   unfold L4
   rw[he,hf]
   simp only[]
   cases f args s.H with
   | none=>rfl
   | some r=>exact a2g
  ·
   rfl
theorem b5a {s:St} {dst:Option Nat} {t:TypeId} {x y:V} {k:St→Z}:a9n C s dst t x y k=go (U6 C s dst t x y) k:=by
 unfold a9n U6
 cases E3 C t with
 | none=>rfl
 | some u =>
  cases u with
  | slice e =>
   simp only[]
   cases L1 C e with
   | none=>rfl
   | some sz=>cases b6k C e with
    | none=>rfl
    | some by_ =>
     cases hz:a5g C e with
     | none =>
      simp only[]
      cases a6y s.H e sz x with
      | none=>rfl
      | some p=>cases b5i s.H sz y with
       | none=>rfl
       | some q =>
        simp only[]
        cases (sz==0||by_==0) with
        | true=>rfl
        | false=>simp only[cond_false];split<;>rfl
     | some z =>
      simp only[]
      cases a6y s.H e sz x with
      | none=>rfl
      | some p=>cases b5i s.H sz y with
       | none=>rfl
       | some q =>
        obtain ⟨n,nil,xs⟩:=p
        obtain ⟨ys,zs⟩:=q
        simp only[ble_eq]
        cases (sz==0||by_==0) with
        | true=>rfl
        | false =>
         simp only[cond_false,Bool.false_or]
         by_cases hr:(xs.length+(ys.length+zs.length))*by_≤b9w
         ·
          simp only[hr,decide_true,cond_true,if_true]
          cases (H4 z&&z.cells.length==sz)<;>rfl
         ·
          simp only[hr,decide_false,cond_false,if_false]
          cases (H4 z&&z.cells.length==sz)<;>rfl
  | _=>rfl
theorem d3q {y:Bool} {call:D4} {o:Oper} {s:St} {K:St→Z} (hi:∀t x i,o.op≠ .indexAddr t x i):c6b C y call o s K=go (C3 C y call o s) K:=by
 unfold c6b
 split
 ·
  rename_i c a b ho
  have e:C3 C y call o s=match E8 C s.F c with|some (.d (.lit (.bool t)))=>bif t then asV (E8 C s.F a) s o.dst else asV (E8 C s.F b) s o.dst|_=>none:=by
   unfold C3;rw[ho];rfl
  rw[e]
  split
  ·
   rename_i t ht
   cases t with
   | true=>simp only[cond_true];exact b2y
   | false=>simp only[cond_false];exact b2y
  ·
   rfl
 ·
  rename_i t x i ho
  have e:C3 C y call o s=match E8 C s.F x,E8 C s.F i with|some x,some i=>asV (s6 C t x i) s o.dst|_,_=>none:=by
   unfold C3;rw[ho];rfl
  rw[e]
  cases E8 C s.F x with
  | none=>rfl
  | some vx=>cases E8 C s.F i with
   | none=>rfl
   | some vi=>simp only[go];rw[d3t];exact b2y
 ·
  rename_i t x i ho;exact absurd ho (hi t x i)
 ·
  rename_i t x lo hi ho
  have e:C3 C y call o s=match E8 C s.F x,a3e C s.F lo,a3e C s.F hi with|some x,some lo,some hi=>asV (V6 C s.H t x lo hi) s o.dst|_,_,_=>none:=by
   unfold C3;rw[ho];rfl
  rw[e]
  cases E8 C s.F x with
  | none=>rfl
  | some vx=>cases a3e C s.F lo with
   | none=>rfl
   | some vl=>cases a3e C s.F hi with
    | none=>rfl
    | some vh=>simp only[go];rw[d3n];exact b2y
 ·
  rename_i op t x y' yt ho
  have e:C3 C y call o s=match E8 C s.F x,E8 C s.F y' with|some vx,some vy=>bif w4 vx&&w4 vy&& !(Region.isConst x||Region.isConst y') then none else asV (f8 C s.H op t vx vy) s o.dst|_,_=>none:=by
   unfold C3;rw[ho];rfl
  rw[e]
  cases E8 C s.F x with
  | none=>rfl
  | some vx=>cases E8 C s.F y' with
   | none=>rfl
   | some vy =>
    simp only[go]
    cases (w4 vx&&w4 vy&& !(Region.isConst x||Region.isConst y')) with
    | true=>rfl
    | false=>simp only[cond_false];rw[e4s];exact b2y
 ·
  rename_i t m k ok ho
  have e:C3 C y call o s=match E8 C s.F m,E8 C s.F k with|some m,some k=>asV (f7 C s.H t m k ok) s o.dst|_,_=>none:=by
   unfold C3;rw[ho];rfl
  rw[e]
  cases E8 C s.F m with
  | none=>rfl
  | some vm=>cases E8 C s.F k with
   | none=>rfl
   | some vk=>simp only[go];rw[c8a];exact b2y
 ·
  rename_i c ho
  split
  ·
   rename_i f hc
   have e:C3 C y call o s=match M9 C s.F c.args.toList with
     | none=>none
     | some args=>match E8 C s.F f with
      | some (.fn (.func F) first cap)=>L4 C y call s o.dst F (first++args++cap)
      | _=>none:=by
    unfold C3;rw[ho];simp only[hc];rfl
   rw[e]
   cases M9 C s.F c.args.toList with
   | none=>rfl
   | some args =>
    simp only[go]
    split
    ·
     exact d7a C
    ·
     rfl
  ·
   rename_i hc
   have e:C3 C y call o s=match M9 C s.F c.args.toList with
     | none=>none
     | some args=>match c.argTypes[0]?,c.argTypes[1]?,args with
      | some t,some u, [x,y]=>(match E3 C u with
       | some (.slice _)=>U6 C s o.dst t x y
       | some .string=>U6 C s o.dst t x y
       | _=>none)
      | _,_,_=>none:=by
    unfold C3;rw[ho];simp only[hc];rfl
   rw[e]
   split
   ·
    rename_i x z hargs
    simp only[hargs]
    cases c.argTypes[0]? with
    | none=>rfl
    | some t=>cases c.argTypes[1]? with
     | none=>rfl
     | some u =>
      simp only[]
      split
      ·
       exact b5a C
      ·
       exact b5a C
      ·
       rfl
   ·
    rename_i hne
    cases hargs:M9 C s.F c.args.toList with
    | none=>rfl
    | some args =>
     simp only[]
     split
     ·
      rename_i x z;exact absurd hargs (hne _ _)
     ·
      rfl
  ·
   rfl
 ·
  rfl
def d4n (ops:Array Oper) (fs:List FP):Bool:=(a2s ops).all fun p=>match fs[p.1]?,fs[p.2]? with|some x,some y=>a6f x y|_,_=>false
theorem d2u {s:St} {x:Operand} {b:Bool} (h:E8 C s.F x=some (A7 b)):e7v s x b=s:=by
 cases x with
 | tmp t=>simp only[E8,Option.some.injEq] at h;exact c7n h
 | _=>rfl
def mk (J:Nat→V):List Nat→List V→Nat→V
 | d::l,v::vs=>upd (mk J l vs) d v
 | _,_=>J
def a5a:Code→Nat
 | .region id _ _=>id
 | .seq a _=>a5a a
 | .block _ c=>a5a c
 | .loop c=>a5a c
 | .cond _ a _=>a5a a
 | _=>0
structure h6a where
 L:List Nat
 G:Nat→List V→A9→(X→List V→A9→Prop)→Prop
theorem F2 {α:Type} {o:Option α} {K:α→Prop} (h:go o K):∃a,o=some a∧K a:=by
 cases o with
 | none=>exact h.elim
 | some a=>exact ⟨a,rfl,h⟩
theorem b6f {H:A9} {t:TypeId} {x i:V} {K:V→Prop} (h:a6n C H t x i K):go (H7 C H t x i) K:=by
 unfold a6n at h
 split at h
 ·
  rename_i e hu
  split at h
  ·
   rename_i nl sz xs z hs hz
   rw[c7r] at h
   obtain ⟨k,hk,h⟩:=F2 h
   obtain ⟨y,hy,h⟩:=F2 h
   unfold H7
   rw[hu]
   simp only[hk,hs,hz,hy]
   cases hsz:(sz==z) with
   | false=>rw[hsz] at h;exact h.elim
   | true =>
    rw[hsz] at h
    have h':d8h C e y fun y=>K (V.d (D.elem y.cells)):=h
    exact e2m h'
  ·
   exact h
 ·
  exact h
theorem e4j {y:Bool} {call:D4} {o:Oper} {s:St} {K:St→Prop} (h:c6b C y call o s K):∃s',C3 C y call o s=some s'∧K s':=by
 by_cases hi:∃t x i,o.op= .indexAddr t x i
 ·
  obtain ⟨t,x,i,ho⟩:=hi
  have e:C3 C y call o s=match E8 C s.F x,E8 C s.F i with|some x,some i=>asV (H7 C s.H t x i) s o.dst|_,_=>none:=by
   unfold C3;rw[ho];rfl
  unfold c6b at h
  rw[ho] at h
  simp only[] at h
  obtain ⟨vx,h1,h⟩:=F2 h
  obtain ⟨vi,h2,h⟩:=F2 h
  rw[e,h1,h2]
  simp only[]
  have:=b6f C h
  rw[b2y] at this
  exact F2 this
 ·
  
  have e:c6b C y call o s K=go (C3 C y call o s) K:=d3q C (fun t x i ho=>hi ⟨t,x,i,ho⟩)
  rw[e] at h
  exact F2 h
end
end Go.Ev
end
section
namespace Go.Ev
section
variable {C : Cx}
structure g9h (C:Cx):Prop where
 ok:a6x C
 calls:S8 C
 names:a9s C
theorem g9h.valid (h:g9h C):W3 C (f4n C):=d6x h.ok h.calls h.names
end
end Go.Ev
end
section
namespace Go.Ev
structure a7i (p:Prop):Prop where
 h:p
theorem keep {a b:Prop} (h:a=b) (k:b):a7i a:=⟨h.mpr k⟩
def Z0 (k:Nat) (H:A9):Prop:=∀m,(H (0::m)).isSome→∃i,i<k∧m= [i]
theorem Z0.back {k:Nat} {H H':A9} (h:Z0 k H) (b:Z7 H H'):Z0 k H':=fun m hm=>h m (b m hm)
def T (C:Cx) (k:Nat) (c:Code) (s:St) (K:X→St→Prop):Prop :=
 ∀(g:G) (a:Act) (w:World) (Q:Exit→Act→World→Prop),Rel C g s a w→Z0 k s.H→
  (∀x s' a' w',K x s'→Z0 k s'.H→X4 C g s.H w s' a' w'→Q (a3n x) a' w')→c.wp C.P Q a w
def a4f (C:Cx) (k:Nat) (s s':St):Prop:=∀(g:G) (a:Act) (w:World),Rel C g s a w→Z0 k s.H→Z0 k s'.H∧X4 C g s.H w s' a w
section
variable {C : Cx} {k : Nat} {s s' : St} {c : Code} {K K' : X → St → Prop}
theorem a4f.refl:a4f C k s s:=fun g a w R z=>⟨z,g,R, .refl _ _, .refl _ _⟩
theorem a4f.trans {s1 s2 s3:St} (h:a4f C k s1 s2) (h':a4f C k s2 s3):a4f C k s1 s3:=fun g a w R z=>by
 obtain ⟨z1,g1,r1,st1,k1⟩:=h g a w R z
 obtain ⟨z2,p⟩:=h' g1 a w r1 z1
 exact ⟨z2,p.after st1 k1⟩
theorem g3y (hw:a4f C k s s') (h:T C k c s' K):T C k c s K:=fun g a w Q R z hq=>by
 obtain ⟨z1,g1,r1,st1,k1⟩:=hw g a w R z
 exact h g1 a w Q r1 z1 fun x s' a' w' hk z' hp=>hq x s' a' w' hk z' (hp.after st1 k1)
theorem d7t (h:T C k c s K) (hk:∀x s',K x s'→K' x s'):T C k c s K':=fun g a w Q R z hq=>h g a w Q R z fun x s' a' w' h1=>hq x s' a' w' (hk x s' h1)
theorem b6o (h:T C k c s K) (hk:∀x s',K x s'→∃s2,a4f C k s' s2∧K' x s2):T C k c s K':=fun g a w Q R z hq=>h g a w Q R z fun x s' a' w' h1 z1 hp=>by
 obtain ⟨s2,hw,h2⟩:=hk x s' h1
 obtain ⟨g1,r1,st1,k1⟩:=hp
 obtain ⟨z2,p⟩:=hw g1 a' w' r1 z1
 exact hq x s2 a' w' h2 z2 (p.after st1 k1)
theorem g3z (h:K .normal s):T C k .skip s K:=fun g a w Q R z hq=>wp_skip (hq .normal s a w h z ⟨g,R, .refl _ _, .refl _ _⟩)
theorem g4b {id:Nat} (h:K (.exit id) s):T C k (.exit id) s K:=fun g a w Q R z hq=>wp_exit (hq (.exit id) s a w h z ⟨g,R, .refl _ _, .refl _ _⟩)
theorem g9g (h:K .ret s):T C k .ret s K:=fun g a w Q R z hq=>wp_ret (hq .ret s a w h z ⟨g,R, .refl _ _, .refl _ _⟩)
structure b6q (C:Cx) (call:D4):Prop where
 ok:a6x C
 calls:S8 C
 valid:W3 C call
theorem d5d {call:D4} (F:b6q C call) {il draw:Bool} {id:Nat} {ops:Array Oper} {s1:St} (h:(if draw then Y0 C call il ops s else U4 C call il ops s)=some s1) (hk:K .normal s1) :
  T C k (.region id ops draw) s K:=fun g a w Q R z hq=>by
 refine c5e F.ok F.calls F.valid il id ops draw s s1 g a w Q R h fun a' w' hp=>hq .normal s1 a' w' hk (z.back ?_) hp
 exact b7o (C:=C) (lp:=Z4 0) (call:=call) (b4n 0) (fun K f args H r H' h1 h2=>(F.calls.prim K f args H r H' h1 h2).2) (fun K args H r H' h=>(F.valid K args H r H' h).2.2)
  (.region id ops draw) il (x:=.normal) (by unfold F7;rw[h])
theorem e9x {a b:Code} (h:T C k a s fun x s1=>match x with | .normal=>T C k b s1 K|x=>K x s1):T C k (.seq a b) s K:=fun g ac w Q R z hq=>by
 refine wp_seq (h g ac w _ R z fun x s1 a1 w1 hk z1 hp=>?_)
 cases x with
 | normal =>
  obtain ⟨g1,r1,st1,k1⟩:=hp
  exact hk g1 a1 w1 Q r1 z1 fun x s2 a2 w2 h2 z2 hp2=>hq x s2 a2 w2 h2 z2 (hp2.after st1 k1)
 | exit i=>exact hq _ _ _ _ hk z1 hp
 | ret=>exact hq _ _ _ _ hk z1 hp
theorem g4c {x:Operand} {a b:Code} {t:Bool} (hc:E8 C s.F x=some (A7 t)) (h:T C k (bif t then a else b) s K):T C k (.cond x a b) s K:=fun g ac w Q R z hq=>by
 refine wp_cond (F6 R hc).lit_inv ?_
 cases t with
 | true=>exact h g ac w Q R z hq
 | false=>exact h g ac w Q R z hq
theorem f5n {id:Nat} {a:Code} (h:T C k a s fun x s1=>match x with | .exit i=>(bif i==id then K .normal s1 else K (.exit i) s1)|x=>K x s1):T C k (.block id a) s K:=fun g ac w Q R z hq=>by
 refine wp_block (h g ac w _ R z fun x s1 a1 w1 hk z1 hp=>?_)
 cases x with
 | normal=>exact hq _ _ _ _ hk z1 hp
 | ret=>exact hq _ _ _ _ hk z1 hp
 | exit i =>
  simp only[] at hk
  by_cases hi:i=id
  ·
   have:(i==id)=true:=by simpa using hi
   rw[this] at hk
   have:=hq _ _ _ _ hk z1 hp
   simpa [a3n,Exit.inBlock,hi] using this
  ·
   have:(i==id)=false:=by simpa using hi
   rw[this] at hk
   have:=hq _ _ _ _ hk z1 hp
   simpa [a3n,Exit.inBlock,hi] using this
def wpL (P:Program) (c:Code) (Q:Exit→Act→World→Prop) (a:Act) (w:World):Prop :=
 ∀(b:Frame) (k:List Item) (cs:List Frame),∃e a' w',Q e a' w'∧Arrives P (lone (b.at a (.code c:: .inLoop c::k)) cs w) b k cs e a' w'
theorem e5o {P:Program} {Q:Exit→Act→World→Prop} {a:Act} {w:World} {c:Code} (h:wpL P c Q a w):(Code.loop c).wp P Q a w:=fun b k cs =>
 let ⟨e,a',w',hq,harr⟩:=h b k cs
 ⟨e,a',w',hq, .of_steps (.one step_loop) harr⟩
theorem d8b {P:Program} {Q:Exit→Act→World→Prop} {a:Act} {w:World} {c:Code} (h:c.wp P (Exit.then (wpL P c Q) Q) a w):wpL P c Q a w:=fun b k cs=>by
 obtain ⟨e,a1,w1,hq,harr⟩:=h b (.inLoop c::k) cs
 cases e with
 | normal =>
  obtain ⟨e2,a2,w2,hq2,harr2⟩:=hq b k cs
  exact ⟨e2,a2,w2,hq2, .of_steps (Steps.trans harr (.one step_inLoop)) harr2⟩
 | exit id=>exact ⟨_,a1,w1,hq, .pass (x:=.inLoop c) rfl (fun _ _=>.inl (by simp)) harr⟩
 | goto l=>exact ⟨_,a1,w1,hq, .pass (x:=.inLoop c) rfl (fun _ _=>.inl (by simp)) harr⟩
 | ret=>exact ⟨_,a1,w1,hq, .pass (x:=.inLoop c) rfl (fun _ _=>.inl (by simp)) harr⟩
 | panic ch=>exact ⟨_,a1,w1,hq, .pass (x:=.inLoop c) rfl (fun _ _=>.inl (by simp)) harr⟩
 | outgrown=>exact ⟨_,a1,w1,hq, .pass (x:=.inLoop c) rfl (fun _ _=>.inl (by simp)) harr⟩
def TL (C:Cx) (k:Nat) (c:Code) (s:St) (K:X→St→Prop):Prop :=
 ∀(g:G) (a:Act) (w:World) (Q:Exit→Act→World→Prop),Rel C g s a w→Z0 k s.H→
  (∀x s' a' w',K x s'→Z0 k s'.H→X4 C g s.H w s' a' w'→Q (a3n x) a' w')→wpL C.P c Q a w
theorem g4a (h:TL C k c s K):T C k (.loop c) s K:=fun g a w Q R z hq=>e5o (h g a w Q R z hq)
theorem f5o (h:T C k c s fun x s1=>match x with | .normal=>TL C k c s1 K|x=>K x s1):TL C k c s K:=fun g a w Q R z hq=>by
 refine d8b (h g a w _ R z fun x s1 a1 w1 hk z1 hp=>?_)
 cases x with
 | normal =>
  obtain ⟨g1,r1,st1,k1⟩:=hp
  exact hk g1 a1 w1 Q r1 z1 fun x s2 a2 w2 h2 z2 hp2=>hq x s2 a2 w2 h2 z2 (hp2.after st1 k1)
 | exit i=>exact hq _ _ _ _ hk z1 hp
 | ret=>exact hq _ _ _ _ hk z1 hp
def N9 (C:Cx) (K:FuncId) (args:List V) (H:A9) (Q:V→A9→Prop):Prop :=
 ∀(w:World) (g:G) (vs:Array Value),L0 w g H→a7c C w g.lim→C6 w g H args vs.toList→(∀n,(H n).isSome→∃m,n=0::m)→
  Calls C.P K vs w (fun e w'=>∃v r H' g',Q r H'∧e= .returned v∧C5 w' g' H' r v∧L0 w' g' H'∧Z5 w g w' g'∧t8 H g H' g')
theorem N9.one {K:FuncId} {args:List V} {H H':A9} {r:V} (h:N9 C K args H fun r' Hx=>r'=r∧Hx=H'):e2h C K args H r H':=fun w g vs hH hG hr hz =>
 (h w g vs hH hG hr hz).mono fun e w' ⟨v,r',Hx,g',⟨h1,h2⟩,he,h3,h4,h5,h6⟩=>by subst h1 h2;exact ⟨v,g',he,h3,h4,h5,h6⟩
theorem a7p {K : FuncId} {args : List V} {H : A9} {Q : V → A9 → Prop} {fn : Func} {c : Code} (hf : C.P.funcs[K]? = some fn) (hb : fn.body = some c) (hz : Z0 k H)
  (h : T C k c ⟨max fn.ntmps args.length, fun t => (args[t]?).getD L8, H⟩ fun x s' => match x with
   | .exit _ => False
   | _ => ∃ vs, r8 C s' fn.results.toList = some vs ∧ Q (X5 vs) s'.H) : N9 C K args H Q := fun w g vs hH hG hargs hdom => by
 refine calls_of_wp hf hb ?_
 have hlen : args.length = vs.size := by rw [hargs.length]; simp
 have R : Rel C g ⟨max fn.ntmps args.length, fun t => (args[t]?).getD L8, H⟩ { tmps := vs ++ Array.replicate (fn.ntmps - vs.size) undef, defers := [] } w := by
  refine ⟨by simp; omega, fun t => ?_, hH, hG, rfl⟩
  cases ht : args[t]? with
  | some x =>
   obtain ⟨v, hv, hx⟩ := hargs.get ht
   have hlt : t < vs.size := by
    have := (List.getElem?_eq_some_iff.1 ht).1; omega
   have : (vs ++ Array.replicate (fn.ntmps - vs.size) undef).getD t undef = v := by
    rw [Array.getD_eq_getD_getElem?, Array.getElem?_append_left hlt]
    simp at hv; simp [hv]
   rw [this]; simpa [ht] using hx
  | none =>
   have hge : vs.size ≤ t := by
    have := List.getElem?_eq_none_iff.1 ht; omega
   have : (vs ++ Array.replicate (fn.ntmps - vs.size) undef).getD t undef = undef := by
    rw [Array.getD_eq_getD_getElem?, Array.getElem?_append_right hge]
    by_cases h1 : t - vs.size < fn.ntmps - vs.size
    ·
     simp [h1]
    ·
     simp [h1]
   rw [this]; simpa [ht] using a3q
 refine h g _ w _ R hz fun x s' a' w' hk z1 hp => ?_
 obtain ⟨g1, r1, st, kp⟩ := hp
 cases x with
 | exit i => exact hk.elim
 | normal =>
  obtain ⟨l, he, hq⟩ := hk
  obtain ⟨v, hv, hrv⟩ := b2m r1 he
  exact ⟨r1.defers, v, hv, v, _, _, g1, hq, rfl, hrv, r1.heap, st, kp⟩
 | ret =>
  obtain ⟨l, he, hq⟩ := hk
  obtain ⟨v, hv, hrv⟩ := b2m r1 he
  exact ⟨r1.defers, v, hv, v, _, _, g1, hq, rfl, hrv, r1.heap, st, kp⟩
end
end Go.Ev
end
section
namespace Go.Ev
def ofL:List (A6×Box)→A9
 | [],_=>none
 | (n,b)::r,m=>bif m==n then some b else ofL r m
def M6:Nat→V:=fun _=>.any
def J8:List (A6×A6)→A6→A6
 | [],n=>n
 | (a,b)::r,n=>bif n==b then a else J8 r n
def W1:List (A6×A6)→A6→Option A6
 | [],_=>none
 | (a,b)::r,n=>bif n==a then some b else W1 r n
def i7:Box→List A6
 | .cells _ cs=>H6 cs
 | _=>[]
def j8 (H:A9):List (A6×A6)→Option (List Box)
 | []=>some []
 | p::r=>match H p.2,j8 H r with|some b,some l=>some (b::l)|_,_=>none
def X1:A6→Bool
 | 0::_=>true
 | _=>false
def g3f:Box→Bool
 | .arr .. =>true
 | .junk=>true
 | _=>false
def Q2:List A6→Bool
 | []=>true
 | n::r=> !r.contains n&&Q2 r
def w8:List (A6×A6)→List (A6×Box)
 | []=>[]
 | p::r=>bif X1 p.2&& !(p.1==p.2) then (p.2, .junk)::w8 r else w8 r
def a7k:List (A6×A6)→List Box→List (A6×Box)
 | p::r,b::l=>(p.1,b)::a7k r l
 | _,_=>[]
def c7s:List (A6×A6)→List Box→Bool
 | p::r,b::l=>(bif X1 p.2&& !(p.1==p.2) then g3f b else true)&&c7s r l
 | _,_=>true
def a8i (olds l:List A6):Bool:=l.all fun n=>olds.contains n
def c3t (k:Nat) (ns:List (A6×A6)) (vals:List V) (bs:List Box):Bool :=
 Q2 (ns.map (·.1))&&(Q2 (ns.map (·.2))&&(ns.all (fun p=>bif X1 p.1 then p.1==p.2 else true)&&(vals.all (fun v=>a8i (ns.map (·.2)) v.names) &&
  (bs.all (fun b=>a8i (ns.map (·.2)) (i7 b))&&((List.range k).all (fun i=>(ns.map (·.2)).contains [0,i])&&c7s ns bs)))))
def N3:List A6→List Box→List (A6×Box)
 | n::r,b::l=>(n,b)::N3 r l
 | _,_=>[]
def stN (N:Nat) (L:List Nat) (nm:List A6) (vals:List V) (bs:List Box):St:=⟨N,mk M6 L vals,ofL (N3 nm bs)⟩
def U0 (ns:List (A6×A6)):List A6:=ns.map (·.1)++(w8 ns).map (·.1)
def u9 (k:Nat) (L:List Nat) (ns:List (A6×A6)) (s:St):Option (List V×List Box):=match j8 s.H ns with
 | some bs=>bif c3t k ns (L.map s.F) bs then some (u3 (J8 ns) (L.map s.F),bs.map (·.ren (J8 ns))++(w8 ns).map (·.2)) else none
 | none=>none
theorem b8u:∀l:List (A6×Box),N3 (l.map (·.1)) (l.map (·.2))=l
 | []=>rfl
 | (n,b)::r=>by simp only[List.map_cons,N3,b8u r]
theorem c4p:∀{ns:List (A6×A6)} {bs:List Box} {l:List (A6×Box)},bs.length=ns.length→N3 (ns.map (·.1)++l.map (·.1)) (bs++l.map (·.2))=a7k ns bs++l
 | [], [],l,_=>by simpa [a7k] using b8u l
 | [],b::r,l,h=>by simp at h
 | p::r, [],l,h=>by simp at h
 | p::r,b::m,l,h=>by
  simp only[List.map_cons,List.cons_append,N3,a7k]
  rw[c4p (by simpa using h)]
section
variable {C : Cx} {w : World} {g g1 : G} {H H1 : A9}
mutual
theorem C5.loc (hv:g1.val=g.val) (hl:g1.lim=g.lim):∀{x:V} {v:Value},(∀n∈x.names,kd H1 n=kd H n)→C5 w g H x v→C5 w g1 H1 x v
 | _,_,_, .d h=>.d (by rw[hl];exact h)
 | _,_,k, .agg h hf=>.agg (C6.loc hv hl (by simpa [V.names] using k) h) hf
 | _,_,k, .ref h=>by rw[←hv];exact .ref (by rw[k _ (by simp[V.names])];exact h)
 | _,_,k, .ptr h=>by rw[←hv];exact .ptr (by rw[k _ (by simp[V.names])];exact h)
 | _,_,k, .hp h=>by rw[←hv];exact .hp (by rw[k _ (by simp[V.names])];exact h)
 | _,_,k, .fn ha hb=>.fn (C6.loc hv hl (fun n hn=>k n (by simp[V.names,hn])) ha) (C6.loc hv hl (fun n hn=>k n (by simp[V.names,hn])) hb)
 | _,_,k, .tup h=>.tup (C6.loc hv hl (by simpa [V.names] using k) h)
 | _,_,_, .zs h=>.zs (by rw[hl];exact h)
 | _,_,_, .any=>.any
 | _,_,k, .opt h ho=>.opt (by rw[k _ (by simp[V.names])];exact h) (by rw[hv];exact ho)
theorem C6.loc (hv:g1.val=g.val) (hl:g1.lim=g.lim):∀{xs:List V} {vs:List Value},(∀n∈H6 xs,kd H1 n=kd H n)→C6 w g H xs vs→C6 w g1 H1 xs vs
 | _,_,_, .nil=>.nil
 | _,_,k, .cons h t=>.cons (C5.loc hv hl (fun n hn=>k n (by simp[H6,hn])) h) (C6.loc hv hl (fun n hn=>k n (by simp[H6,hn])) t)
end
theorem Y2.loc {n:A6} {b:Box} (hv:g1.val=g.val) (hl:g1.lim=g.lim) (ho:∀b,g.owner b=some n→g1.owner b=some n) (k:∀n∈i7 b,kd H1 n=kd H n) (h:Y2 w g H n b):Y2 w g1 H1 n b:=by
 cases b with
 | cells t cs =>
  obtain ⟨b,c,h1,h2,h3,h4,h5,h6⟩:=h
  exact ⟨b,c,by rw[hv];exact h1,h2,h3.loc hv hl k,h4,by rw[hl];exact h5,ho _ h6⟩
 | arr live nil t sz xs ys =>
  obtain ⟨vs,us,h1,h2,h3,h4,h5,h6,h7,h8⟩:=h
  refine ⟨vs,us,by rw[hl];exact h1,by rw[hl];exact h2,h3,h4,by rw[hv];exact h5,h6,fun hlv=>?_,fun hlv=>?_⟩
  ·
   obtain ⟨k1,k2⟩:=h7 hlv
   rw[hv]
   exact ⟨k1,fun b hb=>by obtain ⟨j1,j2⟩:=k2 b hb;exact ⟨ho b j1,by rw[hl];exact j2⟩⟩
  ·
   obtain ⟨k1,k2⟩:=h8 hlv
   refine ⟨k1, ?_⟩
   rcases k2 with k2|⟨q,cap,hq,hc,hh⟩
   ·
    exact .inl k2
   ·
    exact .inr ⟨q,cap,by rw[hv];exact hq,hc,by rw[hl];exact hh⟩
 | map es =>
  obtain ⟨r,ms,c,h1,h2,h3,h4,h5,h6,h7⟩:=h
  exact ⟨r,ms,c,by rw[hv];exact h1,h2,by rw[hl];exact h3,by rw[hl];exact h4,by rw[hl];exact h5,ho _ h6,h7⟩
 | junk =>
  show K5 (g1.val n)
  rw[hv];exact h
 | bools t k =>
  obtain ⟨b,c,h1,h2,h3,h4,h5,h6⟩:=h
  exact ⟨b,c,by rw[hv];exact h1,h2,h3,h4,by rw[hl];exact h5,ho _ h6⟩
 | blob t k lo hi =>
  obtain ⟨b,c,h1,h2,h3,h4,h5,h6⟩:=h
  exact ⟨b,c,by rw[hv];exact h1,h2,h3,h4,by rw[hl];exact h5,ho _ h6⟩
theorem a8a {n:A6} {r:List A6} (h:Q2 (n::r)=true):n ∉ r∧Q2 r=true:=by
 simp only[Q2,Bool.and_eq_true,Bool.not_eq_true'] at h
 refine ⟨fun hn=>?_,h.2⟩
 have:r.contains n=true:=by simpa using hn
 rw[this] at h;cases h.1
theorem r7:∀{ns:List (A6×A6)} {n m:A6},W1 ns n=some m→(n,m)∈ns
 | [],_,_,h=>by simp[W1] at h
 | (a,b)::r,n,m,h=>by
  unfold W1 at h
  by_cases e:n=a
  ·
   subst e;simp at h;subst h;simp
  ·
   have:(n==a)=false:=by simpa using e
   rw[this] at h;simp at h
   exact List.mem_cons_of_mem _ (r7 h)
theorem Y5:∀{ns:List (A6×A6)} {a b:A6},Q2 (ns.map (·.2))=true→(a,b)∈ns→J8 ns b=a
 | [],_,_,_,h=>by simp at h
 | (c,d)::r,a,b,hd,h=>by
  obtain ⟨h1,h2⟩:=a8a hd
  unfold J8
  rcases List.mem_cons.1 h with e|e
  ·
   cases e;simp
  ·
   have:b≠d:=fun e2=>h1 (by subst e2;exact List.mem_map.2 ⟨(a,b),e,rfl⟩)
   have:(b==d)=false:=by simpa using this
   rw[this];exact Y5 h2 e
theorem a9g:∀{ns:List (A6×A6)} {a b:A6},Q2 (ns.map (·.1))=true→(a,b)∈ns→W1 ns a=some b
 | [],_,_,_,h=>by simp at h
 | (c,d)::r,a,b,hd,h=>by
  obtain ⟨h1,h2⟩:=a8a hd
  unfold W1
  rcases List.mem_cons.1 h with e|e
  ·
   cases e;simp
  ·
   have:a≠c:=fun e2=>h1 (by subst e2;exact List.mem_map.2 ⟨(a,b),e,rfl⟩)
   have:(a==c)=false:=by simpa using this
   rw[this];exact a9g h2 e
theorem a2d:∀{ns:List (A6×A6)} {bs:List Box},j8 H ns=some bs→bs.length=ns.length∧∀(i:Nat) (p:A6×A6) (b:Box),ns[i]?=some p→bs[i]?=some b→H p.2=some b
 | [],bs,h=>by simp[j8] at h;subst h;exact ⟨rfl,fun i p b hp=>by simp at hp⟩
 | p::r,bs,h=>by
  unfold j8 at h
  split at h
  ·
   rename_i b l hb hl
   simp at h;subst h
   obtain ⟨h1,h2⟩:=a2d hl
   refine ⟨by simp[h1],fun i q c hq hc=>?_⟩
   cases i with
   | zero=>simp at hq hc;subst hq hc;exact hb
   | succ i=>exact h2 i q c (by simpa using hq) (by simpa using hc)
  ·
   cases h
theorem j5 (l m:List (A6×Box)) (n:A6):ofL (l++m) n=match ofL l n with|some b=>some b|none=>ofL m n:=by
 induction l with
 | nil=>rfl
 | cons p r ih =>
  obtain ⟨a,b⟩:=p
  simp only[List.cons_append,ofL]
  cases (n==a) with
  | true=>rfl
  | false=>exact ih
theorem b8i:∀{ns:List (A6×A6)} {bs:List Box} {f:Box→Box},j8 H ns=some bs→∀n,ofL (a7k ns (bs.map f)) n=match W1 ns n with|some m=>(H m).map f|none=>none
 | [],bs,f,h,n=>by simp[j8] at h;subst h;rfl
 | (a,b)::r,bs,f,h,n=>by
  unfold j8 at h
  split at h
  ·
   rename_i c l hb hl
   simp at h;subst h
   simp only[List.map_cons,a7k,ofL,W1]
   cases hn:(n==a) with
   | true=>simp[hb]
   | false=>simp only[cond_false];exact b8i hl n
  ·
   cases h
theorem c2e {ns:List (A6×A6)} {n:A6} {b:Box}:ofL (w8 ns) n=some b→b= .junk∧∃a,(a,n)∈ns∧a≠n∧X1 n=true:=by
 induction ns with
 | nil=>intro h;simp[w8,ofL] at h
 | cons p r ih =>
  obtain ⟨c,d⟩:=p
  intro h
  unfold w8 at h
  cases hc:(X1 d&& !(c==d)) with
  | false =>
   simp only[hc,cond_false] at h
   obtain ⟨h1,a,h2,h3⟩:=ih h
   exact ⟨h1,a,List.mem_cons_of_mem _ h2,h3⟩
  | true =>
   simp only[hc,cond_true,ofL] at h
   simp only[Bool.and_eq_true,Bool.not_eq_true'] at hc
   by_cases e:n=d
   ·
    subst e
    simp at h
    exact ⟨h.symm,c,by simp,by simpa using hc.2,hc.1⟩
   ·
    have:(n==d)=false:=by simpa using e
    rw[this] at h
    obtain ⟨h1,a,h2,h3⟩:=ih h
    exact ⟨h1,a,List.mem_cons_of_mem _ h2,h3⟩
theorem b2v:∀{ns:List (A6×A6)} {a n:A6},(a,n)∈ns→a≠n→X1 n=true→ofL (w8 ns) n=some .junk
 | [],_,_,h,_,_=>by simp at h
 | (c,d)::r,a,n,h,h1,h2=>by
  unfold w8
  rcases List.mem_cons.1 h with e|e
  ·
   obtain ⟨rfl,rfl⟩:=Prod.mk.inj e
   have:(X1 n&& !(a==n))=true:=by simp[h2,h1]
   rw[this];simp[ofL]
  ·
   cases hc:(X1 d&& !(c==d)) with
   | false=>simp only[cond_false];exact b2v e h1 h2
   | true =>
    simp only[cond_true,ofL]
    cases (n==d) with
    | true=>rfl
    | false=>exact b2v e h1 h2
theorem c5w:∀{ns:List (A6×A6)} {bs:List Box},c7s ns bs=true→∀(i:Nat) (p:A6×A6) (b:Box),ns[i]?=some p→bs[i]?=some b→X1 p.2=true→p.1≠p.2→g3f b=true
 | [],_,_,i,p,b,hp,_,_,_=>by simp at hp
 | q::r, [],_,i,p,b,_,hb,_,_=>by simp at hb
 | q::r,c::l,h,i,p,b,hp,hb,hz,hne=>by
  simp only[c7s,Bool.and_eq_true] at h
  cases i with
  | zero =>
   simp at hp hb;subst hp hb
   have:(X1 q.2&& !(q.1==q.2))=true:=by simp[hz,hne]
   rw[this] at h;exact h.1
  | succ i=>exact c5w h.2 i p b (by simpa using hp) (by simpa using hb) hz hne
theorem d2h:∀(L:List Nat) (vals:List V) (t:Nat),mk M6 L vals t= .any∨∃i:Nat,L[i]?=some t∧vals[i]?=some (mk M6 L vals t)
 | [],_,t=>.inl (by simp[mk,M6])
 | d::l, [],t=>.inl (by simp[mk,M6])
 | d::l,v::vs,t=>by
  simp only[mk,upd]
  by_cases e:t=d
  ·
   subst e;right;exact ⟨0,by simp,by simp⟩
  ·
   have:(t==d)=false:=by simpa using e
   rw[this]
   rcases d2h l vs t with h|⟨i,h1,h2⟩
   ·
    exact .inl h
   ·
    exact .inr ⟨i+1,by simpa using h1,by simpa using h2⟩
theorem b9z (f:A6→A6):∀l:List V,u3 f l=l.map (·.ren f)
 | []=>rfl
 | v::l=>by simp[u3,b9z f l]
theorem g9 {k:Nat} {L:List Nat} {ns:List (A6×A6)} {s:St} {vals:List V} {bs:List Box} (h:u9 k L ns s=some (vals,bs)):a4f C k s (stN s.N L (U0 ns) vals bs):=by
 unfold u9 at h
 split at h
 case h_2=>cases h
 rename_i b0 hb0
 cases hchk:c3t k ns (L.map s.F) b0 with
 | false=>rw[hchk] at h;cases h
 | true =>
  rw[hchk] at h
  simp only[cond_true,Option.some.injEq,Prod.mk.injEq] at h
  obtain ⟨rfl,rfl⟩:=h
  unfold c3t at hchk
  simp only[Bool.and_eq_true] at hchk
  obtain ⟨c1,c2,c3,c4,c5,c6,c7⟩:=hchk
  obtain ⟨hlen,hat⟩:=a2d hb0
  have hst:stN s.N L (U0 ns) (u3 (J8 ns) (L.map s.F)) (b0.map (·.ren (J8 ns))++(w8 ns).map (·.2))=⟨s.N,mk M6 L (u3 (J8 ns) (L.map s.F)),ofL (a7k ns (b0.map (·.ren (J8 ns)))++w8 ns)⟩:=by
   unfold stN U0
   rw[c4p (by simp[hlen])]
  rw[hst]
  intro g a w R z
  
  let olds:=ns.map (·.2)
  let H1:A9:=fun n=>bif olds.contains n then s.H n else none
  let g1:G:=⟨g.val,g.lim,fun b=>match g.owner b with|some n=>(bif olds.contains n then some n else none)|none=>none⟩
  have hin:∀n,n∈olds→olds.contains n=true:=fun n hn=>by simpa using hn
  have hkd:∀n,n∈olds→kd H1 n=kd s.H n:=fun n hn=>by simp only[kd,H1,hin n hn,cond_true]
  have hold:∀n,n∈olds→∃(i:Nat) (p:A6×A6) (b:Box),ns[i]?=some p∧b0[i]?=some b∧p.2=n∧s.H n=some b:=fun n hn=>by
   obtain ⟨p,hp,rfl⟩:=List.mem_map.1 hn
   obtain ⟨i,hi⟩:=List.getElem?_of_mem hp
   have hlt:i<b0.length:=by rw[hlen];exact (List.getElem?_eq_some_iff.1 hi).1
   exact ⟨i,p,b0[i],hi,by simp[hlt],rfl,hat i p _ hi (by simp[hlt])⟩
  have hbn:∀n b,n∈olds→s.H n=some b→∀m∈i7 b,m∈olds:=fun n b hn hb m hm=>by
   obtain ⟨i,p,b',h1,h2,h3,h4⟩:=hold n hn
   rw[hb] at h4;cases h4
   have:=List.all_eq_true.1 c5 b (List.mem_of_getElem? h2)
   have:=List.all_eq_true.1 this m hm
   exact List.elem_iff.1 this
  have hH1:L0 w g1 H1:=by
   refine ⟨fun n b hb=>?_,fun b hb=>?_⟩
   ·
    simp only[H1] at hb
    cases hc:olds.contains n with
    | false=>rw[hc] at hb;cases hb
    | true =>
     rw[hc] at hb
     simp only[cond_true] at hb
     have hn:n∈olds:=by simpa using hc
     exact (R.heap.box n b hb).loc (g:=g) (g1:=g1) (H1:=H1) rfl rfl (fun b' hb'=>by simp only[g1,hb',hc,cond_true]) fun m hm=>hkd m (hbn n b hn hb m hm)
   ·
    have:=R.heap.fresh b hb
    exact ⟨this.1,by simp only[g1,this.2]⟩
  have hinv1:∀n m,W1 ns n=some m→J8 ns m=n:=fun n m h=>Y5 c2 (r7 h)
  have hinv2:∀n,(H1 n).isSome→W1 ns (J8 ns n)=some n:=fun n hn=>by
   simp only[H1] at hn
   cases hc:olds.contains n with
   | false=>rw[hc] at hn;cases hn
   | true =>
    have hm:n∈olds:=by simpa using hc
    obtain ⟨p,hp,rfl⟩:=List.mem_map.1 hm
    rw[Y5 (a:=p.1) c2 hp]
    exact a9g c1 hp
  obtain ⟨r1,r2⟩:=b5u (f:=J8 ns) (inv:=W1 ns) hinv1 hinv2 hH1
  
  let H3:=ofL (a7k ns (b0.map (·.ren (J8 ns)))++w8 ns)
  let g2:=g1.ren (J8 ns) (W1 ns)
  let g3:G:=⟨fun n=>match W1 ns n with|some m=>g.val m|none=>g.val n,g2.lim,g2.owner⟩
  have hz3:∀n,ofL (a7k ns (b0.map (·.ren (J8 ns)))) n=(H1.ren (J8 ns) (W1 ns)) n:=fun n=>by
   rw[b8i hb0]
   unfold A9.ren
   cases hi:W1 ns n with
   | none=>rfl
   | some m =>
    have hm:m∈olds:=List.mem_map.2 ⟨(n,m),r7 hi,rfl⟩
    simp only[H1,hin m hm,cond_true]
    cases s.H m<;>rfl
  have hnm:J4 (H1.ren (J8 ns) (W1 ns)) g2 H3 g3:=fun n q hq=>by
   have hsome:(H1.ren (J8 ns) (W1 ns) n).isSome:=by
    unfold kd at hq
    cases hx:(H1.ren (J8 ns) (W1 ns)) n with
    | none=>rw[hx] at hq;cases hq
    | some b=>rfl
   refine ⟨?_, ?_⟩
   ·
    unfold kd at hq ⊢
    simp only[H3,j5,hz3]
    cases hx:(H1.ren (J8 ns) (W1 ns)) n with
    | none=>rw[hx] at hsome;cases hsome
    | some b=>rw[hx] at hq;exact hq
   ·
    unfold A9.ren at hsome
    cases hi:W1 ns n with
    | none=>rw[hi] at hsome;cases hsome
    | some m=>simp only[g3,g2,G.ren,hi,g1]
  have hgr:Q6 w g2.lim w g3.lim:=.refl _ _
  have hH3:L0 w g3 H3:=by
   refine ⟨fun n b hb=>?_,fun b hb=>r2.fresh b hb⟩
   simp only[H3,j5,hz3] at hb
   cases hx:(H1.ren (J8 ns) (W1 ns)) n with
   | some b' =>
    rw[hx] at hb;simp at hb;subst hb
    exact (r2.box n b' hx).mono hx hgr hnm fun _ k hk=>⟨rfl,hk,rfl⟩
   | none =>
    rw[hx] at hb
    obtain ⟨rfl,a',h1,h2,h3⟩:=c2e hb
    show K5 (g3.val n)
    have hn:n∈olds:=List.mem_map.2 ⟨(a',n),h1,rfl⟩
    obtain ⟨i,p,b',h4,h5,h6,h7⟩:=hold n hn
    have hni:W1 ns n=none:=by
     cases hi:W1 ns n with
     | none=>rfl
     | some m =>
      exfalso
      have hm:=r7 hi
      have:=List.all_eq_true.1 c3 (n,m) hm
      simp only[h3,cond_true] at this
      have:n=m:=by simpa using this
      subst this
      have e1:=Y5 c2 hm
      have e2:=Y5 c2 h1
      exact h2 (e2.symm.trans e1)
    simp only[g3,hni]
    exact (R.heap.box n b' h7).flat
  have hval:∀v u,(∀n∈v.names,n∈olds)→C5 w g s.H v u→C5 w g3 H3 (v.ren (J8 ns)) u:=fun v u hn hr=>by
   have h1:C5 w g1 H1 v u:=hr.loc (g:=g) (g1:=g1) rfl rfl fun n hm=>hkd n (hn n hm)
   have h2:=h1.ren (g:=g1) (g':=g2) (H':=H1.ren (J8 ns) (W1 ns)) (f:=J8 ns) (.refl _ _) r1
   exact h2.mono hgr hnm
  refine ⟨fun m hm=>?_,g3,⟨R.size,fun t=>?_,hH3,R.globs,R.defers⟩,⟨rfl,rfl,rfl,Nat.le_refl _,fun b _ ho=>⟨rfl,rfl, ?_⟩, .refl _ _⟩,fun m q hq=>?_⟩
  ·
   
   simp only[j5] at hm
   cases hx:ofL (a7k ns (b0.map (·.ren (J8 ns)))) (0::m) with
   | some b' =>
    rw[b8i hb0] at hx
    cases hi:W1 ns (0::m) with
    | none=>rw[hi] at hx;cases hx
    | some o =>
     have hmem:=r7 hi
     have:=List.all_eq_true.1 c3 _ hmem
     simp only[X1,cond_true] at this
     have:0::m=o:=by simpa using this
     subst this
     obtain ⟨_,_,_,_,_,_,h7⟩:=hold (0::m) (List.mem_map.2 ⟨(0::m,0::m),hmem,rfl⟩)
     exact z m (by rw[h7];rfl)
   | none =>
    rw[hx] at hm
    cases hy:ofL (w8 ns) (0::m) with
    | none=>rw[hy] at hm;cases hm
    | some b' =>
     obtain ⟨_,a',h1,_⟩:=c2e hy
     obtain ⟨_,_,_,_,_,_,h7⟩:=hold (0::m) (List.mem_map.2 ⟨(a',0::m),h1,rfl⟩)
     exact z m (by rw[h7];rfl)
  ·
   
   show C5 w g3 H3 (mk M6 L (u3 (J8 ns) (L.map s.F)) t) _
   rcases d2h L (u3 (J8 ns) (L.map s.F)) t with h|⟨i,h1,h2⟩
   ·
    rw[h];exact .any
   ·
    generalize hx:mk M6 L (u3 (J8 ns) (L.map s.F)) t=x at h2 ⊢
    rw[b9z,List.map_map,List.getElem?_map,h1] at h2
    simp only[Option.map_some,Option.some.injEq,Function.comp_apply] at h2
    rw[←h2]
    refine hval _ _ (fun n hn=>?_) (R.slots t)
    have:=List.all_eq_true.1 c4 (s.F t) (List.mem_map.2 ⟨t,List.mem_of_getElem? h1,rfl⟩)
    have:=List.all_eq_true.1 this n hn
    exact List.elem_iff.1 this
  ·
   simp only[g3,g2,G.ren,g1,ho,Option.map_none]
  ·
   
   have hs:(s.H (0::m)).isSome:=by
    unfold kd at hq
    cases hx:s.H (0::m) with
    | none=>rw[hx] at hq;cases hq
    | some b=>rfl
   obtain ⟨i,hi,rfl⟩:=z m hs
   have hmem: [0,i]∈olds:=by
    have:=List.all_eq_true.1 c6 i (by simpa using hi)
    exact List.elem_iff.1 this
   obtain ⟨p,hp,hp2⟩:=List.mem_map.1 hmem
   obtain ⟨p1,p2⟩:=p
   simp only at hp2
   subst hp2
   by_cases e:p1= [0,i]
   ·
    subst e
    have hiv:=a9g c1 hp
    refine ⟨?_,by simp only[g3,hiv]⟩
    have:=r1 [0,i] q (by rw[hkd _ hmem];exact hq)
    rw[Y5 c2 hp] at this
    exact (hnm _ _ this.1).1
   ·
    have hni:W1 ns [0,i]=none:=by
     cases hi:W1 ns [0,i] with
     | none=>rfl
     | some o =>
      exfalso
      have hm:=r7 hi
      have:=List.all_eq_true.1 c3 _ hm
      simp only[X1,cond_true] at this
      have: [0,i]=o:=by simpa using this
      subst this
      exact e ((Y5 c2 hp).symm.trans (Y5 c2 hm))
    refine ⟨?_,by simp only[g3,hni]⟩
    obtain ⟨j,p,b',h4,h5,h6,h7⟩:=hold [0,i] hmem
    have hpe:p=(p1, [0,i]):=by
     have e1:=Y5 (a:=p.1) (b:=p.2) c2 (List.mem_of_getElem? h4)
     have e2:=Y5 c2 hp
     rw[h6] at e1
     cases p;simp only at h6 e1;subst h6;rw[←e1,e2]
    subst hpe
    have ha:=c5w c7 j _ b' h4 h5 rfl e
    show kd H3 [0,i]=some q
    unfold kd
    simp only[H3,j5,hz3]
    have:(H1.ren (J8 ns) (W1 ns)) [0,i]=none:=by unfold A9.ren;rw[hni]
    rw[this]
    simp only[]
    rw[b2v hp e rfl]
    unfold kd at hq
    rw[h7] at hq
    cases b'<;>simp[g3f] at ha<;>simpa [Box.kind] using hq
end
end Go.Ev
end
section
namespace Go.Ev
inductive Ad where
 | cell (n:A6) (i:Nat) (t sz:Nat) (new:A6)
 | slot (d:Nat) (t sz:Nat) (new:A6)
 | opt (n:A6) (i:Nat) (m:A6) (off:Nat)
 | flat (d:Nat)
 | flatC (n:A6) (i:Nat)
 | bools (n:A6)
 | flatA (d:Nat)
 | blob (n:A6) (lo hi:Nat)
structure Spec where
 L:List Nat
 ns:List (A6×A6)
 L':List Nat
 nm':List A6:=[]
 ads:List Ad:=[]
 G:Nat→List V→List Box→(X→List V→List Box→Prop)→Prop
def stO (N:Nat) (S:Spec) (vs:List V) (bs:List Box):St:=stN N S.L' S.nm' vs bs
structure a2e where
 split:List (A6×Nat):=[]
 ads:List Ad:=[]
 cut:List (List Nat×List (A6×A6)):=[]
def b4j:V→Bool
 | .d (.slice true _ [])=>true
 | _=>false
def d8x:V→Bool
 | .d (.lit (.pointer none))=>true
 | _=>false
def f4g (m:A6) (off:Nat):V→Bool
 | .ptr n o=>n==m&&o==off
 | .opt n o=>n==m&&o==off
 | _=>false
def a6h:V→Bool
 | .ptr _ _=>true
 | .ref _=>true
 | .hp _ _ _=>true
 | .opt _ _=>true
 | .fn _ _ _=>true
 | .d x=>b4t x
 | _=>false
def b7a {α:Type}:Option α→Bool
 | none=>true
 | some _=>false
def c8p:Option Box→Bool
 | some (.cells _ _)=>true
 | _=>false
def t6 (s:St):Ad→Option St
 | .cell n i t sz new=>match s.H n with
  | some (.cells u cs)=>bif b4j (cs.getD i .any)&&(b7a (s.H new)&& !X1 new) then some ⟨s.N,s.F,(s.H.set n (.cells u (cs.set i (.ref new)))).set new (.arr true true t sz [] [])⟩ else none
  | _=>none
 | .slot d t sz new=>bif b4j (s.F d)&&(b7a (s.H new)&& !X1 new) then some ⟨s.N,upd s.F d (.ref new),s.H.set new (.arr true true t sz [] [])⟩ else none
 | .opt n i m off=>match s.H n with
  | some (.cells u cs)=>bif (d8x (cs.getD i .any)||f4g m off (cs.getD i .any))&&c8p (s.H m) then some ⟨s.N,s.F,s.H.set n (.cells u (cs.set i (.opt m off)))⟩ else none
  | _=>none
 | .flat d=>bif a6h (s.F d) then some ⟨s.N,upd s.F d (.d .any),s.H⟩ else none
 | .flatC n i=>match s.H n with
  | some (.cells u cs)=>bif a6h (cs.getD i .any) then some ⟨s.N,s.F,s.H.set n (.cells u (cs.set i (.d .any)))⟩ else none
  | _=>none
 | .bools n=>match s.H n with
  | some (.cells u cs)=>bif cs.all j0 then some ⟨s.N,s.F,s.H.set n (.bools u cs.length)⟩ else none
  | _=>none
 | .flatA d=>match s.F d with
  | .agg cs=>some ⟨s.N,upd s.F d (.d (.agg (List.replicate cs.length .any))),s.H⟩
  | .d (.agg cs)=>some ⟨s.N,upd s.F d (.d (.agg (List.replicate cs.length .any))),s.H⟩
  | _=>none
 | .blob n lo hi=>match s.H n with
  | some (.cells u cs)=>bif a7f lo hi 0 cs&&Nat.ble hi cs.length then some ⟨s.N,s.F,s.H.set n (.blob u cs.length lo hi)⟩ else none
  | _=>none
def s9:List Ad→St→Option St
 | [],s=>some s
 | a::r,s=>match t6 s a with|some s=>s9 r s|none=>none
section
variable {C : Cx} {k : Nat} {s s' : St} {w : World} {g : G}
theorem c7t {cs:List V} {i:Nat} {v:V} (h:cs.getD i .any=v) (hne:v≠ .any):cs[i]?=some v:=by
 rw[List.getD_eq_getElem?_getD] at h
 cases hx:cs[i]? with
 | none=>rw[hx] at h;exact absurd h.symm hne
 | some x=>rw[hx] at h;simp at h;rw[h]
theorem C6.set {H:A9} {x:V}:∀{cs:List V} {vs:List Value} {i:Nat},C6 w g H cs vs→(∀u,vs[i]?=some u→C5 w g H x u)→C6 w g H (cs.set i x) vs
 | [],_,i, .nil,_=>by simpa using .nil
 | c::cs,_,0, .cons h t,k=>.cons (k _ (by simp)) t
 | c::cs,_,i+1, .cons h t,k=>.cons h (C6.set t fun u hu=>k u (by simpa using hu))
theorem d5u {n:A6} {u:TypeId} {cs:List V} {i:Nat} {x:V} {a:Act} (R:Rel C g s a w) (hb:s.H n=some (.cells u cs)) (hx:∀v,(∀y,cs[i]?=some y→C5 w g s.H y v)→(cs[i]?).isSome→C5 w g s.H x v) :
  Rel C g (s.with (s.H.set n (.cells u (cs.set i x)))) a w∧J4 s.H g (s.H.set n (.cells u (cs.set i x))) g:=by
 have hn:J4 s.H g (s.H.set n (.cells u (cs.set i x))) g:=fun m q hq=>by
  refine ⟨?_,rfl⟩
  by_cases e:m=n
  ·
   subst e;simp[kd,hb,Box.kind] at hq;subst hq;simp[kd,E6,Box.kind]
  ·
   simpa [kd,B8 _ _ e] using hq
 refine ⟨R.later (.refl _ _) hn ?_,hn⟩
 refine L0.upd (n0:=n) R.heap (.refl _ _) hn (fun _ _ _ _ ho=>⟨rfl,ho,rfl⟩) (fun m hm=>B8 _ _ hm) (fun b hb'=>?_) (fun b hb=>R.heap.fresh b hb)
 rw[E6] at hb'
 cases hb'
 obtain ⟨b,c,h1,h2,h3,h4,h5,h6⟩:=R.heap.box n _ hb
 refine ⟨b,c,h1,h2, ?_,h4,h5,h6⟩
 refine C6.mono (.refl _ _) hn (h3.set fun v hv=>hx v (fun y hy=>?_) ?_)
 ·
  obtain ⟨z,hz,hr⟩:=h3.get hy
  rw[hv] at hz;cases hz;exact hr
 ·
  have:=h3.length
  have hlt:=(List.getElem?_eq_some_iff.1 hv).1
  have:i<cs.length:=by omega
  simp[this]
theorem d8y {new:A6} {t sz:Nat} {a:Act} (R:Rel C g s a w) (hn:s.H new=none) :
  ∃g',Rel C g' (s.with (s.H.set new (.arr true true t sz [] []))) a w∧Z5 w g w g'∧J4 s.H g (s.H.set new (.arr true true t sz [] [])) g'∧C5 w g' (s.H.set new (.arr true true t sz [] [])) (.ref new) (.slice none 0 0):=by
 let g':G:=⟨fun m=>if m=new then .slice none 0 0 else g.val m,g.lim,g.owner⟩
 have hnm:J4 s.H g (s.H.set new (.arr true true t sz [] [])) g':=fun m q hq=>by
  have e:m≠new:=fun e=>by subst e;simp[kd,hn] at hq
  exact ⟨by simpa [kd,B8 _ _ e] using hq,by simp[g',e]⟩
 have hgr:Q6 w g.lim w g'.lim:=.refl _ _
 refine ⟨g',R.later hgr hnm ?_,⟨rfl,rfl,rfl,Nat.le_refl _,fun b _ ho=>⟨rfl,rfl,ho⟩, .refl _ _⟩,hnm, ?_⟩
 ·
  refine L0.upd (n0:=new) R.heap hgr hnm (fun _ _ _ _ ho=>⟨rfl,ho,rfl⟩) (fun m hm=>B8 _ _ hm) (fun b hb'=>?_) (fun b hb=>R.heap.fresh b hb)
  rw[E6] at hb'
  cases hb'
  refine ⟨[], [],by simpa [D7] using D3.nil,by simpa [D7] using D3.nil,by simp,by simp,by simp[g'],fun _=>⟨rfl,rfl⟩,fun _=>⟨?_,fun b hb=>?_⟩,fun h=>by cases h⟩
  ·
   simp only[g',if_true]
   exact ⟨by simp, .inl ⟨rfl,by simp⟩⟩
  ·
   simp[g',Value.ownBlock] at hb
 ·
  have:=C5.ref (w:=w) (g:=g') (H:=s.H.set new (.arr true true t sz [] [])) (n:=new) (k:=0) (by simp[kd,E6,Box.kind])
  simpa [g'] using this
theorem d8w {v:V} {u:Value} {H:A9} (h:b4j v=true) (r:C5 w g H v u):u= .slice none 0 0:=by
 unfold b4j at h
 split at h
 ·
  cases r with|d r=>cases r;rfl
 ·
  cases h
theorem e3k {v:V} (h:b4j v=true):v≠ .any:=fun e=>by subst e;cases h
theorem d7y {new:A6} {m:A6} (h:X1 new=false):(0::m)≠new:=fun e=>by subst e;cases h
theorem e4c {lim:Nat→Nat} {x:D} {u:Value} (h:b4t x=true) (r:P2 w lim x u):K5 u:=by
 cases r with
 | lit ha =>
  cases u with
  | agg a=>exact absurd rfl (ha a)
  | tuple a=>simp[b4t] at h
  | _=>exact ⟨by simp,by simp⟩
 | agg _ _=>simp[b4t] at h
 | tup _=>simp[b4t] at h
 | any h=>exact h
 | _=>exact ⟨by simp,by simp⟩
theorem c5z {H:A9} (hH:L0 w g H) {v:V} {u:Value} (h:a6h v=true) (r:C5 w g H v u):K5 u:=by
 have nf:∀n k,kd H n=some k→K5 (g.val n):=fun n k hn=>by
  obtain ⟨b,hb,_⟩:=a9d hn;exact (hH.box n b hb).flat
 cases r with
 | d r=>exact e4c h r
 | ref hk=>exact nf _ _ hk
 | ptr hk=>exact a6c (nf _ _ hk)
 | hp hk=>exact b7q (nf _ _ hk)
 | fn _ _=>exact ⟨by simp,by simp⟩
 | opt hk ho =>
  rcases ho with rfl|rfl
  ·
   exact ⟨by simp,by simp⟩
  ·
   exact a6c (nf _ _ hk)
 | agg _ _=>cases h
 | tup _=>cases h
 | zs _=>cases h
 | any=>cases h
theorem d7s {a:Ad} (h:t6 s a=some s'):a4f C k s s':=by
 intro g ac w R z
 cases a with
 | cell n i t sz new =>
  simp only[t6] at h
  split at h
  ·
   rename_i u cs hb
   cases hc:(b4j (cs.getD i .any)&&(b7a (s.H new)&& !X1 new)) with
   | false=>rw[hc] at h;cases h
   | true =>
    rw[hc] at h
    simp only[cond_true,Option.some.injEq] at h
    subst h
    simp only[Bool.and_eq_true,Bool.not_eq_true'] at hc
    obtain ⟨h1,h2,h3⟩:=hc
    have hnone:s.H new=none:=by
     cases hx:s.H new with
     | none=>rfl
     | some b=>rw[hx] at h2;cases h2
    have hne:new≠n:=fun e=>by subst e;rw[hb] at hnone;cases hnone
    obtain ⟨g',r1,st,nm,rv⟩:=d8y (t:=t) (sz:=sz) R hnone
    have hb1:(s.with (s.H.set new (.arr true true t sz [] []))).H n=some (.cells u cs):=by
     show s.H.set new _ n=_
     rw[B8 _ _ (Ne.symm hne)];exact hb
    have hat:=c7t (i:=i) rfl (e3k h1)
    obtain ⟨r2,nm2⟩:=d5u (i:=i) (x:=.ref new) r1 hb1 fun v hv _=>by
     have:=hv _ hat
     rw[d8w h1 this];exact rv
    have he:((s.H.set new (.arr true true t sz [] [])).set n (.cells u (cs.set i (.ref new))))=(s.H.set n (.cells u (cs.set i (.ref new)))).set new (.arr true true t sz [] []):=by
     funext m
     by_cases e1:m=n
     ·
      subst e1;rw[E6,B8 _ _ (Ne.symm hne),E6]
     ·
      by_cases e2:m=new
      ·
       subst e2;rw[B8 _ _ e1,E6,E6]
      ·
       rw[B8 _ _ e1,B8 _ _ e2,B8 _ _ e2,B8 _ _ e1]
    refine ⟨fun m hm=>z m ?_,g', ?_,st, ?_⟩
    ·
     simp only[] at hm
     rw[B8 _ _ (d7y h3)] at hm
     by_cases e1:(0::m)=n
     ·
      rw[e1,hb];rfl
     ·
      rw[B8 _ _ e1] at hm;exact hm
    ·
     rw[←he];exact r2
    ·
     show t8 s.H g ((s.H.set n (.cells u (cs.set i (.ref new)))).set new (.arr true true t sz [] [])) g'
     rw[←he];exact .of_names (nm.trans nm2)
  ·
   cases h
 | slot d t sz new =>
  simp only[t6] at h
  cases hc:(b4j (s.F d)&&(b7a (s.H new)&& !X1 new)) with
  | false=>rw[hc] at h;cases h
  | true =>
   rw[hc] at h
   simp only[cond_true,Option.some.injEq] at h
   subst h
   simp only[Bool.and_eq_true,Bool.not_eq_true'] at hc
   obtain ⟨h1,h2,h3⟩:=hc
   have hnone:s.H new=none:=by
    cases hx:s.H new with
    | none=>rfl
    | some b=>rw[hx] at h2;cases h2
   obtain ⟨g',r1,st,nm,rv⟩:=d8y (t:=t) (sz:=sz) R hnone
   refine ⟨fun m hm=>z m ?_,g',⟨r1.size,fun q=>?_,r1.heap,r1.globs,r1.defers⟩,st, .of_names nm⟩
   ·
    simp only[] at hm
    rw[B8 _ _ (d7y h3)] at hm;exact hm
   ·
    show C5 w g' (s.H.set new (.arr true true t sz [] [])) (upd s.F d (.ref new) q) _
    unfold upd
    by_cases e:q=d
    ·
     subst e
     simp only[beq_self_eq_true,cond_true]
     rw[d8w h1 (R.slots q)];exact rv
    ·
     have:(q==d)=false:=by simpa using e
     rw[this];exact r1.slots q
 | opt n i m off =>
  simp only[t6] at h
  split at h
  ·
   rename_i u cs hb
   cases hc:((d8x (cs.getD i .any)||f4g m off (cs.getD i .any))&&c8p (s.H m)) with
   | false=>rw[hc] at h;cases h
   | true =>
    rw[hc] at h
    simp only[cond_true,Option.some.injEq] at h
    subst h
    simp only[Bool.and_eq_true,Bool.or_eq_true] at hc
    obtain ⟨h1,h2⟩:=hc
    have hk:kd s.H m=some 0:=by
     unfold c8p at h2
     split at h2
     ·
      rename_i hx;simp[kd,hx,Box.kind]
     ·
      cases h2
    have hne:cs.getD i .any≠ .any:=fun e=>by rw[e] at h1;rcases h1 with h1|h1<;>cases h1
    have hat:=c7t (i:=i) rfl hne
    obtain ⟨r2,nm2⟩:=d5u (i:=i) (x:=.opt m off) R hb fun v hv _=>by
     have hr:=hv _ hat
     refine .opt hk ?_
     generalize cs.getD i V.any=y at h1 hr
     rcases h1 with h1|h1
     ·
      unfold d8x at h1
      split at h1
      ·
       exact .inl hr.lit_inv
      ·
       cases h1
     ·
      unfold f4g at h1
      split at h1
      ·
       simp only[Bool.and_eq_true,beq_iff_eq] at h1
       obtain ⟨rfl,rfl⟩:=h1
       cases hr;exact .inr rfl
      ·
       simp only[Bool.and_eq_true,beq_iff_eq] at h1
       obtain ⟨rfl,rfl⟩:=h1
       cases hr;assumption
      ·
       cases h1
    refine ⟨fun q hq=>z q ?_,g,r2, .refl _ _, .of_names nm2⟩
    simp only[] at hq
    by_cases e1:(0::q)=n
    ·
     rw[e1,hb];rfl
    ·
     rw[B8 _ _ e1] at hq;exact hq
  ·
   cases h
 | flat d =>
  simp only[t6] at h
  cases hc:a6h (s.F d) with
  | false=>rw[hc] at h;cases h
  | true =>
   rw[hc] at h
   simp only[cond_true,Option.some.injEq] at h
   subst h
   refine ⟨z,g,⟨R.size,fun q=>?_,R.heap,R.globs,R.defers⟩, .refl _ _, .refl _ _⟩
   show C5 w g s.H (upd s.F d (.d .any) q) _
   unfold upd
   by_cases e:q=d
   ·
    subst e
    simp only[beq_self_eq_true,cond_true]
    exact .d (.any (c5z R.heap hc (R.slots q)))
   ·
    have:(q==d)=false:=by simpa using e
    rw[this];exact R.slots q
 | flatC n i =>
  simp only[t6] at h
  split at h
  ·
   rename_i u cs hb
   cases hc:a6h (cs.getD i .any) with
   | false=>rw[hc] at h;cases h
   | true =>
    rw[hc] at h
    simp only[cond_true,Option.some.injEq] at h
    subst h
    have hat:=c7t (i:=i) rfl (fun e=>by rw[e] at hc;cases hc)
    obtain ⟨r2,nm2⟩:=d5u (i:=i) (x:=.d .any) R hb fun v hv _=>.d (.any (c5z R.heap hc (hv _ hat)))
    refine ⟨fun q hq=>z q ?_,g,r2, .refl _ _, .of_names nm2⟩
    simp only[] at hq
    by_cases e1:(0::q)=n
    ·
     rw[e1,hb];rfl
    ·
     rw[B8 _ _ e1] at hq;exact hq
  ·
   cases h
 | bools n =>
  simp only[t6] at h
  split at h
  ·
   rename_i u cs hb
   cases hc:cs.all j0 with
   | false=>rw[hc] at h;cases h
   | true =>
    rw[hc] at h
    simp only[cond_true,Option.some.injEq] at h
    subst h
    have hn:J4 s.H g (s.H.set n (.bools u cs.length)) g:=fun m q hq=>by
     refine ⟨?_,rfl⟩
     by_cases e:m=n
     ·
      subst e;simp[kd,hb,Box.kind] at hq;subst hq;simp[kd,E6,Box.kind]
     ·
      simpa [kd,B8 _ _ e] using hq
    refine ⟨fun q hq=>z q ?_,g,R.later (.refl _ _) hn ?_, .refl _ _, .of_names hn⟩
    ·
     simp only[] at hq
     by_cases e1:(0::q)=n
     ·
      rw[e1,hb];rfl
     ·
      rw[B8 _ _ e1] at hq;exact hq
    ·
     refine L0.upd (n0:=n) R.heap (.refl _ _) hn (fun _ _ _ _ ho=>⟨rfl,ho,rfl⟩) (fun m hm=>B8 _ _ hm) (fun b hb'=>?_) (fun b hb=>R.heap.fresh b hb)
     rw[E6] at hb'
     cases hb'
     obtain ⟨b,c,h1,h2,h3,h4,h5,h6⟩:=R.heap.box n _ hb
     refine ⟨b,c,h1,h2,by have:=h3.length;simp at this;omega, ?_,h5,h6⟩
     have key:∀(l:List V) (m:List Value),l.all j0=true→C6 w g s.H l m→∀v∈m,∃x,v= .bool x:=by
      intro l
      induction l with
      | nil=>intro m _ h v hv;cases h;cases hv
      | cons x l ih =>
       intro m ha h v hv
       cases h with
       | cons hx ht =>
        simp only[List.all_cons,Bool.and_eq_true] at ha
        rcases List.mem_cons.1 hv with rfl|hv
        ·
         have hb:=ha.1
         unfold j0 at hb
         split at hb
         ·
          exact ⟨_,hx.lit_inv'⟩
         ·
          cases hx with|d hx=>cases hx;exact ⟨_,rfl⟩
         ·
          cases hb
        ·
         exact ih _ ha.2 ht v hv
     exact key cs c.toList hc h3
  ·
   cases h
 | flatA d =>
  have hR:=R.slots d
  have key:∀(k:Nat) (a0:Array Value),(∀v∈a0.toList,K5 v)→a0.size=k→C5 w g s.H (.d (.agg (List.replicate k .any))) (.agg a0):=fun k a0 hf hk=>by
   refine .d (.agg ?_ hf)
   rw[←hk, ←Array.length_toList]
   exact d5a hf
  suffices hh:∃k:Nat,C5 w g s.H (.d (.agg (List.replicate k .any))) (ac.tmps.getD d undef)∧s'=⟨s.N,upd s.F d (.d (.agg (List.replicate k .any))),s.H⟩ by
   obtain ⟨k,hk,rfl⟩:=hh
   refine ⟨z,g,⟨R.size,fun q=>?_,R.heap,R.globs,R.defers⟩, .refl _ _, .refl _ _⟩
   show C5 w g s.H (upd s.F d _ q) _
   unfold upd
   by_cases e:q=d
   ·
    subst e
    simp only[beq_self_eq_true,cond_true]
    exact hk
   ·
    have:(q==d)=false:=by simpa using e
    rw[this];exact R.slots q
  simp only[t6] at h
  split at h
  ·
   rename_i cs hs
   simp only[Option.some.injEq] at h
   rw[hs] at hR
   refine ⟨cs.length, ?_,h.symm⟩
   generalize ac.tmps.getD d undef=u at hR ⊢
   cases hR with
   | agg hr hf=>exact key _ _ hf (by have:=hr.length;simp at this;omega)
  ·
   rename_i cs hs
   simp only[Option.some.injEq] at h
   rw[hs] at hR
   refine ⟨cs.length, ?_,h.symm⟩
   generalize ac.tmps.getD d undef=u at hR ⊢
   cases hR with
   | d hr =>
    cases hr with
    | agg hr hf=>exact key _ _ hf (by have:=hr.length;simp at this;omega)
  ·
   cases h
 | blob n lo hi =>
  simp only[t6] at h
  split at h
  ·
   rename_i u cs hb
   cases hc:(a7f lo hi 0 cs&&Nat.ble hi cs.length) with
   | false=>rw[hc] at h;cases h
   | true =>
    rw[hc] at h
    simp only[cond_true,Option.some.injEq] at h
    subst h
    simp only[Bool.and_eq_true] at hc
    have hn:J4 s.H g (s.H.set n (.blob u cs.length lo hi)) g:=fun m q hq=>by
     refine ⟨?_,rfl⟩
     by_cases e:m=n
     ·
      subst e;simp[kd,hb,Box.kind] at hq;subst hq;simp[kd,E6,Box.kind]
     ·
      simpa [kd,B8 _ _ e] using hq
    refine ⟨fun q hq=>z q ?_,g,R.later (.refl _ _) hn ?_, .refl _ _, .of_names hn⟩
    ·
     simp only[] at hq
     by_cases e1:(0::q)=n
     ·
      rw[e1,hb];rfl
     ·
      rw[B8 _ _ e1] at hq;exact hq
    ·
     refine L0.upd (n0:=n) R.heap (.refl _ _) hn (fun _ _ _ _ ho=>⟨rfl,ho,rfl⟩) (fun m hm=>B8 _ _ hm) (fun b hb'=>?_) (fun b hb=>R.heap.fresh b hb)
     rw[E6] at hb'
     cases hb'
     obtain ⟨b,c,h1,h2,h3,h4,h5,h6⟩:=R.heap.box n _ hb
     have hl:=h3.length
     simp at hl
     refine ⟨b,c,h1,h2,by omega,⟨h4,fun i i1 i2=>?_⟩,h5,h6⟩
     have hle:=Nat.le_of_ble_eq_true hc.2
     have hlt:i<c.toList.length:=by simp;omega
     obtain ⟨x,hx,hr⟩:=C6.at h3 (List.getElem?_eq_getElem hlt)
     obtain ⟨y,hy⟩:=b6m (b8h hc.1 hx (by omega) (by omega)) hr
     exact ⟨y,by rw[List.getElem?_eq_getElem hlt,hy]⟩
  ·
   cases h
theorem V4:∀{l:List Ad} {s s':St},s9 l s=some s'→a4f C k s s'
 | [],s,s',h=>by simp[s9] at h;subst h;exact .refl
 | a::r,s,s',h=>by
  unfold s9 at h
  split at h
  ·
   rename_i s1 h1
   exact (d7s h1).trans (V4 h)
  ·
   cases h
theorem f5g {a:Ad} (h:t6 s a=some s'):s'.N=s.N:=by
 cases a with
 | cell n i t sz new =>
  simp only[t6] at h
  split at h
  ·
   rename_i u cs _
   cases hc:(b4j (cs.getD i .any)&&(b7a (s.H new)&& !X1 new)) with
   | false=>rw[hc] at h;cases h
   | true=>rw[hc] at h;simp at h;subst h;rfl
  ·
   cases h
 | slot d t sz new =>
  simp only[t6] at h
  cases hc:(b4j (s.F d)&&(b7a (s.H new)&& !X1 new)) with
  | false=>rw[hc] at h;cases h
  | true=>rw[hc] at h;simp at h;subst h;rfl
 | opt n i m off =>
  simp only[t6] at h
  split at h
  ·
   rename_i u cs _
   cases hc:((d8x (cs.getD i .any)||f4g m off (cs.getD i .any))&&c8p (s.H m)) with
   | false=>rw[hc] at h;cases h
   | true=>rw[hc] at h;simp at h;subst h;rfl
  ·
   cases h
 | flat d =>
  simp only[t6] at h
  cases hc:a6h (s.F d) with
  | false=>rw[hc] at h;cases h
  | true=>rw[hc] at h;simp at h;subst h;rfl
 | flatC n i =>
  simp only[t6] at h
  split at h
  ·
   rename_i u cs _
   cases hc:a6h (cs.getD i .any) with
   | false=>rw[hc] at h;cases h
   | true=>rw[hc] at h;simp at h;subst h;rfl
  ·
   cases h
 | bools n =>
  simp only[t6] at h
  split at h
  ·
   rename_i u cs _
   cases hc:cs.all j0 with
   | false=>rw[hc] at h;cases h
   | true=>rw[hc] at h;simp at h;subst h;rfl
  ·
   cases h
 | flatA d =>
  simp only[t6] at h
  split at h
  ·
   simp at h;subst h;rfl
  ·
   simp at h;subst h;rfl
  ·
   cases h
 | blob n lo hi =>
  simp only[t6] at h
  split at h
  ·
   rename_i u cs _
   cases hc:(a7f lo hi 0 cs&&Nat.ble hi cs.length) with
   | false=>rw[hc] at h;cases h
   | true=>rw[hc] at h;simp only[cond_true,Option.some.injEq] at h;subst h;rfl
  ·
   cases h
theorem d5b:∀{l:List Ad} {s s':St},s9 l s=some s'→s'.N=s.N
 | [],s,s',h=>by simp[s9] at h;subst h;rfl
 | a::r,s,s',h=>by
  unfold s9 at h
  split at h
  ·
   rename_i s1 h1
   exact (d5b h).trans (f5g h1)
  ·
   cases h
theorem f5m {n:A6} {i:Nat} {u:TypeId} {cs:List V} {m:A6} {off:Nat} {c:Code} {K:X→St→Prop} (hb:s.H n=some (.cells u cs)) (hi:cs[i]?=some (.opt m off))
  (h1:T C k c ⟨s.N,s.F,s.H.set n (.cells u (cs.set i (.d (.lit (.pointer none)))))⟩ K) (h2:T C k c ⟨s.N,s.F,s.H.set n (.cells u (cs.set i (.ptr m off)))⟩ K):T C k c s K:=fun g a w Q R z hq=>by
 have hz:∀b,Z0 k (s.H.set n b):=fun b q hq=>z q (by
  by_cases e1:(0::q)=n
  ·
   rw[e1,hb];rfl
  ·
   rw[B8 _ _ e1] at hq;exact hq)
 obtain ⟨b,c0,e1,e2,e3,e4,e5,e6⟩:=R.heap.box n _ hb
 obtain ⟨v0,hv0,hr0⟩:=e3.get hi
 have hkm:kd s.H m=some 0:=by cases hr0;assumption
 have key:∀x,C5 w g s.H x v0→T C k c ⟨s.N,s.F,s.H.set n (.cells u (cs.set i x))⟩ K→c.wp C.P Q a w:=fun x hx ht=>by
  have hn:J4 s.H g (s.H.set n (.cells u (cs.set i x))) g:=fun m q hq=>by
   refine ⟨?_,rfl⟩
   by_cases e:m=n
   ·
    subst e;simp[kd,hb,Box.kind] at hq;subst hq;simp[kd,E6,Box.kind]
   ·
    simpa [kd,B8 _ _ e] using hq
  have hR:Rel C g (s.with (s.H.set n (.cells u (cs.set i x)))) a w:=by
   refine R.later (.refl _ _) hn (L0.upd (n0:=n) R.heap (.refl _ _) hn (fun _ _ _ _ ho=>⟨rfl,ho,rfl⟩) (fun m hm=>B8 _ _ hm) (fun b' hb'=>?_) (fun b hb=>R.heap.fresh b hb))
   rw[E6] at hb'
   cases hb'
   refine ⟨b,c0,e1,e2,C6.mono (.refl _ _) hn (e3.set fun v hv=>?_),e4,e5,e6⟩
   rw[hv0] at hv;cases hv;exact hx
  exact ht g a w Q hR (hz _) fun x s' a' w' hk z' hp=>hq x s' a' w' hk z' (hp.after (.refl _ _) (.of_names hn))
 cases hr0 with
 | opt hk ho =>
  rcases ho with rfl|rfl
  ·
   exact key _ (.d (.lit (by simp))) h1
  ·
   exact key _ (.ptr hk) h2
end
end Go.Ev
end
section
namespace Go.Ev
def b6j (C:Cx):Nat→TypeId→Option (List TypeId)
 | 0,_=>none
 | n+1,t=>match E3 C t with
  | some (.struct fs)=>fs.toList.foldr (fun f r=>match b6j C n f.type,r with|some a,some l=>some (a++l)|_,_=>none) (some [])
  | some (.array k e)=>match b6j C n e with|some l=>some (List.replicate k l).flatten|none=>none
  | some _=>some [t]
  | none=>none
def h5y (C:Cx) (t:TypeId):Bool:=match E3 C t with|some u=>X8 u|none=>false
def g2s (C:Cx) (t:TypeId) (y:D):D:=bif h5y C t then (match b6j C 8 t with|some ts=>.agg (c6f C ts 0 y)|none=>y) else e8s C t y
structure Ct where
 pre:List D→Prop
 f:List D→Option D
noncomputable def Ct.gate (c:Ct) (ds:List D):Option D:=open Classical in if c.pre ds then c.f ds else none
abbrev Tab:=FuncId→Option Ct
noncomputable def Cx.tab (C:Cx) (tb:Tab):Cx:={C with ext:=fun K=>match tb K with|some c=>some c.gate|none=>none }
section
variable (C : Cx) (tb : Tab)
abbrev Ann:=Nat→List (Nat×Bool)
def sub (a b:List (Nat×Bool)):Bool:=a.all fun p=>b.contains p
def ovA (s:St) (A:Ann) (ch:List (Nat×Bool)):Operand→Option V
 | .tmp t=>bif sub (A t) ch then some (s.F t) else none
 | x=>E8 C s.F x
def ovs (ov:Operand→Option V):List Operand→Option (List V)
 | []=>some []
 | x::r=>match ov x,ovs ov r with|some v,some l=>some (v::l)|_,_=>none
def d7o (C:Cx) (H:A9) (t:TypeId) (a:V):Option Prop:=match a with
 | .ptr n off=>match H n with
  | some (.bools _ k)=>(match E3 C t,L1 C t with
   | some u,some _=>bif X8 u then none else some (off<k)
   | _,_=>none)
  | some (.blob _ _ lo hi)=>(match E3 C t,L1 C t with
   | some u,some _=>bif X8 u then none else some (lo≤off∧off<hi)
   | _,_=>none)
  | _=>none
 | _=>none
def b2r (ov:Operand→Option V):List (Nat×Operand)→Option (List (Nat×V))
 | []=>some []
 | (i,x)::r=>match ov x,b2r ov r with|some v,some l=>some ((i,v)::l)|_,_=>none
theorem c5j {ov:Operand→Option V} {F:Nat→V} (hov:∀x v,ov x=some v→E8 C F x=some v):∀{l:List (Nat×Operand)} {r:List (Nat×V)},b2r ov l=some r→M5 C F l=some r
 | [],r,h=>by simpa [b2r,M5] using h
 | (i,x)::l,r,h=>by
  unfold b2r at h
  cases hx:ov x with
  | none=>simp[hx] at h
  | some v =>
   cases hl:b2r ov l with
   | none=>simp[hx,hl] at h
   | some m=>simp[hx,hl] at h;subst h;simp only[M5,hov x v hx,c5j hov hl]
def a6z:D→Bool
 | .lit (.int .u8 n)=>decide (0≤n)&&decide (n<256)
 | _=>false
def c4f (xs:List D):ByteArray:=⟨(xs.map fun d=>UInt8.ofNat (A1 d).toNat).toArray⟩
def e5n (xs:List D):Prop:=∀d∈xs,a6z d=true
theorem b8c:∀{xs:List D},e5n xs→S6 xs=some (xs.map fun d=>UInt8.ofNat (A1 d).toNat)
 | [],_=>rfl
 | d::r,h=>by
  have hd:a6z d=true:=h d (by simp)
  have ih:=b8c (xs:=r) fun x hx=>h x (by simp[hx])
  unfold a6z at hd
  split at hd
  ·
   simp[S6,ih,A1]
  ·
   cases hd
def bytesOf (H:A9) (src dst:TypeId) (x:V):Option (List D):=match E3 C src,E3 C dst with
 | some (.slice e),some .string=>(match E3 C e,a2w H x with
  | some (.int .u8),some (_,sz,xs)=>bif sz==1 then some xs else none
  | _,_=>none)
 | _,_=>none
def f2i (ov:Operand→Option V) (H:A9) (o:Oper):Option (V×Option Prop):=match o.op with
 | .move x | .assign x=>match ov x with|some v=>some (v,none)|none=>none
 | .load t a=>match ov a with
  | some a=>(match d7o C H t a with
   | some p=>some (.d .anyB,some p)
   | none=>(match u4 C H t a with|some v=>some (v,none)|none=>none))
  | none=>none
 | .nilCheck x=>match ov x with
  | some (.ptr n off)=>some (.ptr n off,none)
  | some (.d (.elem cs))=>some (.d (.elem cs),none)
  | _=>none
 | .unOp op _ x=>match ov x with|some x=>(match e4f op x with|some v=>some (v,none)|none=>none)|none=>none
 | .build t parts=>match b2r ov parts.toList with|some l=>(match a9m C t l with|some v=>some (v,none)|none=>none)|none=>none
 | .convert src dst x=>match ov x with
  | some x=>(match bytesOf C H src dst x with
   | some xs=>some (.d (.lit (.string (c4f xs))),some (e5n xs))
   | none=>(match U5 C H src dst x with|some v=>some (v,none)|none=>none))
  | none=>none
 | .fieldAddr st x f=>match ov x,a9j C st f with
  | some x,some fd=>match L1 C fd.type with
   | some k=>bif k==0 then none else (match x with
    | .ptr n off=>some (.ptr n (off+fd.offset),none)
    | .d (.elem cs)=>some (.d (.elem (cs.drop fd.offset)),none)
    | _=>none)
   | none=>none
  | _,_=>none
 | .field st x f=>match ov x,a9j C st f with
  | some x,some fd=>(match b2b C fd.type fd.offset x with|some v=>some (v,none)|none=>none)
  | _,_=>none
 | .extract t i=>match ov t with
  | some (.d (.tup ds))=>match ds[i]? with|some x=>some (.d x,none)|none=>none
  | some (.tup vs)=>match vs[i]? with|some x=>some (x,none)|none=>none
  | _=>none
 | .index t x i=>match E3 C t,ov x,ov i with
  | some .string,some (.d (.lit (.string s))),some (.d (.lit (.int k i)))=>some (.d (.lit (.int .u8 (B3 s i.toNat))),some (0≤i∧i.toNat<s.size))
  | _,some x,some i=>(match s6 C t x i with|some v=>some (v,none)|none=>none)
  | _,_,_=>none
 | .indexAddr t x i=>match E3 C t,ov x,ov i with
  | some (.slice e),some x,some (.d (.lit (.int k i)))=>match a2w H x,L1 C e with
   | some (_,sz,xs),some z=>bif sz==z then some (.d (.elem (g2s C e (xs.getD i.toNat .any)).cells),some (0≤i∧i.toNat<xs.length∧g2s C e (xs.getD i.toNat .any)=xs.getD i.toNat .any)) else none
   | _,_=>none
  | some (.array n e),some (.ptr m off),some (.d (.lit (.int k i)))=>(match L1 C e with
   | some z=>some (.ptr m (off+i.toNat*z),some (0≤i∧i.toNat<n))
   | none=>none)
  | _,some x,some i=>(match H7 C H t x i with|some v=>some (v,none)|none=>none)
  | _,_,_=>none
 | .slice t x lo hi none=>match E3 C t,ov x,(match lo with|none=>some none|some x=>match ov x with|some v=>some (some v)|none=>none),(match hi with|none=>some none|some x=>match ov x with|some v=>some (some v)|none=>none) with
  | some .string,some (.d (.lit (.string s))),some lo,some hi=>(match lo,hi with
   | none,none=>some (C0 (s.extract 0 s.size),none)
   | some (.d (.lit (.int _ l))),none=>some (C0 (s.extract l.toNat s.size),some (0≤l∧l.toNat≤s.size))
   | none,some (.d (.lit (.int _ h)))=>some (C0 (s.extract 0 h.toNat),some (0≤h∧h.toNat≤s.size))
   | some (.d (.lit (.int _ l))),some (.d (.lit (.int _ h)))=>some (C0 (s.extract l.toNat h.toNat),some (0≤l∧0≤h∧l.toNat≤h.toNat∧h.toNat≤s.size))
   | _,_=>none)
  | _,_,_,_=>none
 | .binOp op t x y _=>match ov x,ov y with
  | some (.d (.lit (.int k a))),some (.d (.lit (.int k' b)))=>(match op with
   | .quo=>some (.d (.lit (.int k (k.wrap (a.tdiv b)))),some (k=k'∧b≠0))
   | .rem=>some (.d (.lit (.int k (a.tmod b))),some (k=k'∧b≠0))
   | _=>(match f8 C H op t (.d (.lit (.int k a))) (.d (.lit (.int k' b))) with|some v=>some (v,none)|none=>none))
  | some (.d (.lit (.string a))),some (.d (.lit (.string b)))=>(match op with
   | .add=>some (C0 (a++b),some (a.size+b.size≤9223372036854775807))
   | _=>(match f8 C H op t (C0 a) (C0 b) with|some v=>some (v,none)|none=>none))
  | some vx,some vy=>bif w4 vx&&w4 vy&& !(Region.isConst x||Region.isConst y) then none else (match f8 C H op t vx vy with|some v=>some (v,none)|none=>none)
  | _,_=>none
 | .call c=>match ovs ov c.args.toList with
  | none=>none
  | some args=>match c.callee with
   | .builtin .len=>match c.argTypes[0]?,args with
    | some t, [x]=>(match b7n C H t x with|some v=>some (v,none)|none=>none)
    | _,_=>none
   | .builtin .min=>(match a8d false args with|some v=>some (v,none)|none=>none)
   | .builtin .max=>(match a8d true args with|some v=>some (v,none)|none=>none)
   | .value f=>match ov f with
    | some (.fn (.func K) first cap)=>(match tb K,a2k H (first++args++cap) with
     | some ct,some ds=>(match ct.f ds with|some r=>some (.d r,some (ct.pre ds))|none=>none)
     | _,_=>none)
    | _=>none
   | _=>none
 | _=>none
def e6z (c a b:V):Option (V×Option Prop):=match c with
 | .d (.lit (.bool t))=>match a,b with
  | .d (.lit (.bool x)), .d (.lit (.bool y))=>some (A7 (bif t then x else y),none)
  | .d (.lit (.int k x)), .d (.lit (.int k' y))=>bif decide (k=k') then some (.d (.lit (.int k (bif t then x else y))),none) else none
  | a, .any=>some (a,some (t=true))
  | .any,b=>some (b,some (t=false))
  | a,b=>bif t then some (a,none) else some (b,none)
 | _=>none
def e7c (s:St) (ch:List (Nat×Bool)) (v:List (Nat×Bool)→Bool) (p:Option Prop) (k:Prop):Prop:=match p with
 | none=>k
 | some p=>match ch with
  | []=>p∧k
  | _::_=>(v ch=true→p)∧k
def isB (v:V) (w:Bool):Bool:=match v with | .d (.lit (.bool b))=>(bif w then b else !b)|_=>false
def L3 (s:St) (ch:List (Nat×Bool)):Bool:=ch.all fun p=>isB (s.F p.1) p.2
def c8o (ops:Array Oper) (A:Ann) (o:Oper):Option (List (Nat×Bool)):=match o.guard with
 | none=>some []
 | some (j,want)=>match (ops[j]?).bind (·.dst) with
  | none=>none
  | some d=>some ((d,want)::A d)
def b9p (v:V):Bool:=match v with | .d (.lit (.bool _))=>true|_=>false
def a4e (A:Ann) (d:Nat) (ch:List (Nat×Bool)):Ann:=fun t=>bif t==d then ch else A t
def w9 (s:St) (A:Ann):St:=⟨s.N,fun t=>match A t with | []=>s.F t|_::_=>.any,s.H⟩
def b2a (ops:Array Oper):List Oper→St→Ann→List Nat→(St→Prop)→Prop
 | [],s,A,_,K=>K (w9 s A)
 | o::rest,s,A,gs,K=>match c8o ops A o,o.dst with
  | some ch,some d=>bif ch.all (fun p=>b9p (s.F p.1))&&Nat.blt d s.N&& !(gs.contains d)&& !(ch.any fun p=>p.1==d) then
    (match o.op with
    | .pick (.tmp c) a b=>match ovA C s A ch (.tmp c),ovA C s A ((c,true)::(A c++ch)) a,ovA C s A ((c,false)::(A c++ch)) b with
     | some vc,some va,some vb=>(match e6z vc va vb with
      | some (v,p)=>bif c==d then False else e7c s ch (L3 s) p (b2a ops rest ⟨s.N,upd s.F d v,s.H⟩ (a4e A d ch) (c::(ch.map (·.1)++gs)) K)
      | none=>False)
     | _,_,_=>False
    | _=>match f2i C tb (ovA C s A ch) s.H o with
     | some (v,p)=>e7c s ch (L3 s) p (b2a ops rest ⟨s.N,upd s.F d v,s.H⟩ (a4e A d ch) (ch.map (·.1)++gs) K)
     | none=>(match ch with
      | []=>False
      | _::_=>e7c s ch (L3 s) (some False) (b2a ops rest ⟨s.N,upd s.F d .any,s.H⟩ (a4e A d ch) (ch.map (·.1)++gs) K)))
   else False
  | _,_=>False
end
structure a7a (q s:St) (A:Ann) (gs:List Nat):Prop where
 N:q.N=s.N
 H:q.H=s.H
 yes:∀t,L3 s (A t)=true→q.F t=s.F t
 no:∀t,L3 s (A t)=false→q.F t=L8
 has:∀t p,p∈A t→p.1∈gs
section
variable {C : Cx} {tb : Tab} {q s : St} {A : Ann} {gs : List Nat}
theorem c4s {a b:List (Nat×Bool)} (h:sub a b=true) (hb:L3 s b=true):L3 s a=true:=by
 refine List.all_eq_true.2 fun p hp=>List.all_eq_true.1 hb p ?_
 have:=List.all_eq_true.1 h p hp
 exact List.elem_iff.1 this
theorem b4f (U:a7a q s A gs) {ch:List (Nat×Bool)} (hv:L3 s ch=true) {x:Operand} {v:V} (h:ovA C s A ch x=some v):E8 C q.F x=some v:=by
 cases x with
 | tmp t =>
  simp only[ovA] at h
  cases hs:sub (A t) ch with
  | false=>rw[hs] at h;cases h
  | true =>
   rw[hs] at h
   simp only[cond_true,Option.some.injEq] at h
   simp only[E8,U.yes t (c4s hs hv),h]
 | const u=>exact h
 | global g=>exact h
 | func f=>simpa [E8,ovA] using h
theorem c5k {ov:Operand→Option V} (hov:∀x v,ov x=some v→E8 C q.F x=some v):∀{l:List Operand} {vs:List V},ovs ov l=some vs→M9 C q.F l=some vs
 | [],vs,h=>by simpa [ovs,M9] using h
 | x::r,vs,h=>by
  unfold ovs at h
  split at h
  ·
   rename_i v l hv hl
   simp at h;subst h
   unfold M9
   rw[hov x v hv,c5k hov hl]
  ·
   cases h
end
end Go.Ev
end
section
namespace Go.Ev
section
variable {C : Cx} {tb : Tab} {q s : St} {A : Ann} {gs : List Nat}
def Has (C:Cx) (tb:Tab):Prop:=∀K,C.ext K=match tb K with|some c=>some c.gate|none=>none
theorem e3z {c:Ct} {ds:List D} (h:c.pre ds):c.gate ds=c.f ds:=by unfold Ct.gate;rw[if_pos h]
theorem c6r (hE:Has C tb) {ov:Operand→Option V} (hov:∀x v,ov x=some v→E8 C q.F x=some v) {o:Oper} {v:V} {p:Option Prop} (h:f2i C tb ov q.H o=some (v,p)) (hp:∀P,p=some P→P)
  {y:Bool} {call:D4}:C3 C y call o q=q.put o.dst v:=by
 obtain ⟨dst,op,type,pos,after,guard⟩:=o
 unfold f2i at h
 cases op with
 | move x =>
  simp only[] at h
  cases hx:ov x with
  | none=>simp[hx] at h
  | some u=>simp[hx] at h;obtain ⟨rfl,rfl⟩:=h;simp only[C3,hov x u hx];rfl
 | assign x =>
  simp only[] at h
  cases hx:ov x with
  | none=>simp[hx] at h
  | some u=>simp[hx] at h;obtain ⟨rfl,rfl⟩:=h;simp only[C3,hov x u hx];rfl
 | load t a =>
  simp only[] at h
  cases hx:ov a with
  | none=>simp[hx] at h
  | some u =>
   simp only[hx] at h
   cases hbA:d7o C q.H t u with
   | some P =>
    simp only[hbA,Option.some.injEq,Prod.mk.injEq] at h
    obtain ⟨rfl,rfl⟩:=h
    have hP:=hp P rfl
    unfold d7o at hbA
    split at hbA
    ·
     rename_i n off
     split at hbA
     ·
      rename_i bt k hb
      split at hbA
      ·
       rename_i du sz hu hs
       cases ha:X8 du with
       | true=>rw[ha] at hbA;cases hbA
       | false =>
        rw[ha] at hbA
        simp only[cond_false,Option.some.injEq] at hbA
        subst hbA
        have hlt:Nat.blt off k=true:=by simpa [Nat.blt_eq] using hP
        simp only[C3,hov a _ hx,u4,hb,hu,hs,ha,cond_false,hlt,cond_true]
        rfl
      ·
       cases hbA
     ·
      rename_i bt bk lo hi hb
      split at hbA
      ·
       rename_i du sz hu hs
       cases ha:X8 du with
       | true=>rw[ha] at hbA;cases hbA
       | false =>
        rw[ha] at hbA
        simp only[cond_false,Option.some.injEq] at hbA
        subst hbA
        have hlt:(Nat.ble lo off&&Nat.blt off hi)=true:=by simpa [Nat.blt_eq,Nat.ble_eq] using hP
        simp only[C3,hov a _ hx,u4,hb,hu,hs,ha,cond_false,hlt,cond_true]
        rfl
      ·
       cases hbA
     ·
      cases hbA
    ·
     cases hbA
   | none =>
    simp only[hbA] at h
    cases hl:u4 C q.H t u with
    | none=>simp[hl] at h
    | some z=>simp[hl] at h;obtain ⟨rfl,rfl⟩:=h;simp only[C3,hov a u hx,hl];rfl
 | nilCheck x =>
  simp only[] at h
  split at h
  ·
   rename_i n off hx;simp at h;obtain ⟨rfl,rfl⟩:=h;simp only[C3,hov x _ hx]
  ·
   rename_i cs hx;simp at h;obtain ⟨rfl,rfl⟩:=h;simp only[C3,hov x _ hx]
  ·
   cases h
 | unOp op t x =>
  simp only[] at h
  cases hx:ov x with
  | none=>simp[hx] at h
  | some u =>
   simp only[hx] at h
   cases hl:e4f op u with
   | none=>simp[hl] at h
   | some z=>simp[hl] at h;obtain ⟨rfl,rfl⟩:=h;simp only[C3,hov x u hx,hl];rfl
 | build t parts =>
  simp only[] at h
  cases hx:b2r ov parts.toList with
  | none=>simp[hx] at h
  | some l =>
   simp only[hx] at h
   cases hl:a9m C t l with
   | none=>simp[hl] at h
   | some z=>simp[hl] at h;obtain ⟨rfl,rfl⟩:=h;simp only[C3,c5j C hov hx,hl];rfl
 | convert src d x =>
  simp only[] at h
  cases hx:ov x with
  | none=>simp[hx] at h
  | some u =>
   simp only[hx] at h
   cases hb:bytesOf C q.H src d u with
   | some xs =>
    simp only[hb,Option.some.injEq,Prod.mk.injEq] at h
    obtain ⟨rfl,rfl⟩:=h
    have hl:U5 C q.H src d u=some (.d (.lit (.string (c4f xs)))):=by
     unfold bytesOf at hb
     split at hb
     ·
      rename_i e h1 h2
      split at hb
      ·
       rename_i nl sz ys h3 h4
       cases hz:sz==1 with
       | false=>rw[hz] at hb;cases hb
       | true =>
        rw[hz] at hb
        cases hb
        unfold U5
        simp only[h1,h2,h3,h4,hz,Bool.true_or,cond_true,b8c (hp _ rfl)]
        rfl
      ·
       cases hb
     ·
      cases hb
    simp only[C3,hov x u hx,hl];rfl
   | none =>
   simp only[hb] at h
   cases hl:U5 C q.H src d u with
   | none=>simp[hl] at h
   | some z=>simp[hl] at h;obtain ⟨rfl,rfl⟩:=h;simp only[C3,hov x u hx,hl];rfl
 | fieldAddr st x f =>
  simp only[] at h
  split at h
  ·
   rename_i u fd hx hf
   split at h
   ·
    rename_i k hk
    cases hk0:(k==0) with
    | true=>simp[hk0] at h
    | false =>
     simp only[hk0,cond_false] at h
     simp only[C3,hov x u hx,hf,hk,hk0,cond_false]
     split at h
     ·
      simp at h;obtain ⟨rfl,rfl⟩:=h;rfl
     ·
      simp at h;obtain ⟨rfl,rfl⟩:=h;rfl
     ·
      cases h
   ·
    cases h
  ·
   cases h
 | field st x f =>
  simp only[] at h
  split at h
  ·
   rename_i u fd hx hf
   cases hl:b2b C fd.type fd.offset u with
   | none=>simp[hl] at h
   | some z=>simp[hl] at h;obtain ⟨rfl,rfl⟩:=h;simp only[C3,hov x u hx,hf,hl];rfl
  ·
   cases h
 | extract t i =>
  simp only[] at h
  split at h
  ·
   rename_i ds hx
   cases hi:ds[i]? with
   | none=>simp[hi] at h
   | some z=>simp[hi] at h;obtain ⟨rfl,rfl⟩:=h;simp only[C3,hov t _ hx,hi]
  ·
   rename_i vs hx
   cases hi:vs[i]? with
   | none=>simp[hi] at h
   | some z=>simp[hi] at h;obtain ⟨rfl,rfl⟩:=h;simp only[C3,hov t _ hx,hi]
  ·
   cases h
 | index t x i =>
  simp only[] at h
  split at h
  ·
   rename_i b k z hu hx hi
   simp at h;obtain ⟨rfl,rfl⟩:=h
   obtain ⟨h1,h2⟩:=hp _ rfl
   have hix:idx (.d (.lit (.int k z)))=some z.toNat:=by simp[idx,h1]
   simp only[C3,hov x _ hx,hov i _ hi,s6,hu,hix,c6k h2]
   rfl
  ·
   rename_i vx vi hx hi _
   cases hl:s6 C t vx vi with
   | none=>simp[hl] at h
   | some z=>simp[hl] at h;obtain ⟨rfl,rfl⟩:=h;simp only[C3,hov x _ hx,hov i _ hi,hl];rfl
  ·
   cases h
 | indexAddr t x i =>
  simp only[] at h
  split at h
  ·
   rename_i e vx k z hu hx hi
   split at h
   ·
    rename_i nl sz xs zz hs hz
    cases hzz:(sz==zz) with
    | false=>simp[hzz] at h
    | true =>
     simp only[hzz,cond_true,Option.some.injEq,Prod.mk.injEq] at h
     obtain ⟨rfl,rfl⟩:=h
     obtain ⟨h1,h2,h3⟩:=hp _ rfl
     have hix:idx (.d (.lit (.int k z)))=some z.toNat:=by simp[idx,h1]
     have hg:xs[z.toNat]?=some (xs.getD z.toNat .any):=by rw[List.getElem?_eq_getElem h2,List.getD_eq_getElem?_getD,List.getElem?_eq_getElem h2];rfl
     simp only[C3,hov x _ hx,hov i _ hi,H7,hu,hix,hs,hz,hg,hzz,cond_true]
     rw[h3]
     rfl
   ·
    cases h
  ·
   rename_i n e m off k z hu hx hi
   split at h
   ·
    rename_i sz hsz
    simp only[Option.some.injEq,Prod.mk.injEq] at h
    obtain ⟨rfl,rfl⟩:=h
    obtain ⟨h1,h2⟩:=hp _ rfl
    have hix:idx (.d (.lit (.int k z)))=some z.toNat:=by simp[idx,h1]
    simp only[C3,hov x _ hx,hov i _ hi,H7,hu,hix,hsz,h2,if_true]
    rfl
   ·
    cases h
  ·
   rename_i vx vi hx hi _ _
   cases hl:H7 C q.H t vx vi with
   | none=>simp[hl] at h
   | some z=>simp[hl] at h;obtain ⟨rfl,rfl⟩:=h;simp only[C3,hov x _ hx,hov i _ hi,hl];rfl
  ·
   cases h
 | slice t x lo hi mx =>
  cases mx with
  | some m=>simp only[] at h;cases h
  | none =>
   simp only[] at h
   split at h
   ·
    rename_i b lo' hi' hu hx hlo hhi
    have e1:a3e C q.F lo=some lo':=by
     cases lo with
     | none=>simpa [a3e] using hlo
     | some l =>
      simp only[] at hlo
      cases hl:ov l with
      | none=>simp[hl] at hlo
      | some vl=>simp[hl] at hlo;subst hlo;simp[a3e,hov l vl hl]
    have e2:a3e C q.F hi=some hi':=by
     cases hi with
     | none=>simpa [a3e] using hhi
     | some l =>
      simp only[] at hhi
      cases hl:ov l with
      | none=>simp[hl] at hhi
      | some vl=>simp[hl] at hhi;subst hhi;simp[a3e,hov l vl hl]
    simp only[C3,hov x _ hx,e1,e2,V6,hu]
    split at h
    ·
     simp at h;obtain ⟨rfl,rfl⟩:=h
     simp[a2y,asV]
    ·
     rename_i k l
     simp only[Option.some.injEq,Prod.mk.injEq] at h;obtain ⟨rfl,rfl⟩:=h
     obtain ⟨h1,h2⟩:=hp _ rfl
     simp[a2y,idx,h1,h2,asV]
    ·
     rename_i k l
     simp only[Option.some.injEq,Prod.mk.injEq] at h;obtain ⟨rfl,rfl⟩:=h
     obtain ⟨h1,h2⟩:=hp _ rfl
     simp[a2y,idx,h1,h2,asV]
    ·
     rename_i k l k' l'
     simp only[Option.some.injEq,Prod.mk.injEq] at h;obtain ⟨rfl,rfl⟩:=h
     obtain ⟨h1,h2,h3,h4⟩:=hp _ rfl
     simp only[a2y,idx,h1,h2,h3,h4,asV,if_true]
    ·
     cases h
   ·
    cases h
 | binOp op t x z zt =>
  simp only[] at h
  split at h
  ·
   rename_i k a k' b hx hz
   have hnn:(w4 (.d (.lit (.int k a)))&&w4 (.d (.lit (.int k' b)))&& !(Region.isConst x||Region.isConst z))=false:=rfl
   simp only[C3,hov x _ hx,hov z _ hz,hnn,cond_false]
   split at h
   ·
    simp only[Option.some.injEq,Prod.mk.injEq] at h;obtain ⟨rfl,rfl⟩:=h
    obtain ⟨h1,h2⟩:=hp _ rfl
    simp[f8,b6c,h1,h2,asV]
   ·
    simp only[Option.some.injEq,Prod.mk.injEq] at h;obtain ⟨rfl,rfl⟩:=h
    obtain ⟨h1,h2⟩:=hp _ rfl
    simp[f8,b6c,h1,h2,asV]
   ·
    split at h
    ·
     rename_i u hu;simp at h;obtain ⟨rfl,rfl⟩:=h;rw[hu];rfl
    ·
     cases h
  ·
   rename_i a b hx hz
   have hnn:(w4 (C0 a)&&w4 (C0 b)&& !(Region.isConst x||Region.isConst z))=false:=rfl
   simp only[C3,hov x _ hx,hov z _ hz,hnn,cond_false]
   split at h
   ·
    simp only[Option.some.injEq,Prod.mk.injEq] at h;obtain ⟨rfl,rfl⟩:=h
    have h1:=hp _ rfl
    have hm:IntKind.i64.max=9223372036854775807:=by rfl
    have:¬(((a.size+b.size:Nat):Int)>IntKind.i64.max):=by rw[hm];omega
    simp only[f8,c6t,if_neg this,asV]
   ·
    split at h
    ·
     rename_i u hu;simp at h;obtain ⟨rfl,rfl⟩:=h;rw[hu];rfl
    ·
     cases h
  ·
   rename_i vx vz _ _ hx hz
   cases hn:(w4 vx&&w4 vz&& !(Region.isConst x||Region.isConst z)) with
   | true=>rw[hn] at h;cases h
   | false =>
    simp only[hn,cond_false] at h
    split at h
    ·
     rename_i u hu;simp at h;obtain ⟨rfl,rfl⟩:=h;simp only[C3,hov x _ hx,hov z _ hz,hn,cond_false,hu];rfl
    ·
     cases h
  ·
   cases h
 | call cl =>
  obtain ⟨callee,cargs,tys⟩:=cl
  simp only[] at h
  split at h
  ·
   cases h
  ·
   rename_i args ha
   have ha':=c5k hov ha
   split at h
   ·
    split at h
    ·
     rename_i t x ht
     split at h
     ·
      rename_i u hu;simp at h;obtain ⟨rfl,rfl⟩:=h
      simp only[C3,ha',ht,hu];rfl
     ·
      cases h
    ·
     cases h
   ·
    split at h
    ·
     rename_i u hu;simp at h;obtain ⟨rfl,rfl⟩:=h;simp only[C3,ha',hu];rfl
    ·
     cases h
   ·
    split at h
    ·
     rename_i u hu;simp at h;obtain ⟨rfl,rfl⟩:=h;simp only[C3,ha',hu];rfl
    ·
     cases h
   ·
    rename_i f
    split at h
    ·
     rename_i K first cap hf
     split at h
     ·
      rename_i ct ds hct hds
      split at h
      ·
       rename_i r hr
       simp only[Option.some.injEq,Prod.mk.injEq] at h;obtain ⟨rfl,rfl⟩:=h
       have hpre:=hp _ rfl
       have hext:C.ext K=some ct.gate:=by rw[hE K,hct]
       simp only[C3,ha',hov f _ hf,L4,hext,hds,e3z hpre,hr]
      ·
       cases h
     ·
      cases h
    ·
     cases h
   ·
    cases h
 | _=>simp only[] at h;cases h
theorem e6y {c a b v:V} {p:Option Prop} (h:e6z c a b=some (v,p)):∃t,c=A7 t∧((∀P,p=some P→P)→v=(bif t then a else b)):=by
 unfold e6z at h
 split at h
 ·
  rename_i t
  refine ⟨t,rfl,fun hp=>?_⟩
  split at h
  ·
   cases h;cases t<;>rfl
  ·
   rename_i k x k' y
   by_cases e:k=k'
   ·
    subst e;simp at h;obtain ⟨rfl,rfl⟩:=h;cases t<;>rfl
   ·
    simp[e] at h
  ·
   simp only[Option.some.injEq,Prod.mk.injEq] at h
   obtain ⟨rfl,rfl⟩:=h
   have:=hp _ rfl
   subst this;rfl
  ·
   simp only[Option.some.injEq,Prod.mk.injEq] at h
   obtain ⟨rfl,rfl⟩:=h
   have:=hp _ rfl
   subst this;rfl
  ·
   cases t with
   | true=>simp at h;exact h.1.symm
   | false=>simp at h;exact h.1.symm
 ·
  cases h
theorem c7e {s:St} {ch:List (Nat×Bool)} {p:Option Prop} {k:Prop} (h:e7c s ch (L3 s) p k):k∧(L3 s ch=true→∀P,p=some P→P):=by
 unfold e7c at h
 split at h
 ·
  exact ⟨h,fun _ P hP=>by cases hP⟩
 ·
  split at h
  ·
   exact ⟨h.2,fun _ P hP=>by cases hP;exact h.1⟩
  ·
   exact ⟨h.2,fun hv P hP=>by cases hP;exact h.1 hv⟩
theorem a8w {d:Nat} {v:V} {ch:List (Nat×Bool)} (h:∀p∈ch,p.1≠d):L3 ⟨s.N,upd s.F d v,s.H⟩ ch=L3 s ch:=by
 unfold L3
 induction ch with
 | nil=>rfl
 | cons p r ih =>
  have hp:(p.1==d)=false:=by simpa using h p (by simp)
  simp only[List.all_cons,upd,hp,cond_false]
  congr 1
  exact ih fun x hx=>h x (by simp[hx])
theorem c6q (U:a7a q s A gs) {ops:Array Oper} {o:Oper} {ch:List (Nat×Bool)} (hc:c8o ops A o=some ch) (hs:ch.all (fun p=>b9p (s.F p.1))=true):H9 ops o q.F=some (L3 s ch):=by
 unfold c8o at hc
 unfold H9
 cases hg:o.guard with
 | none=>simp only[hg] at hc;cases hc;rfl
 | some p =>
  obtain ⟨j,want⟩:=p
  simp only[hg] at hc ⊢
  cases hd:(ops[j]?).bind (·.dst) with
  | none=>simp only[hd] at hc;cases hc
  | some d =>
   simp only[hd,Option.some.injEq] at hc ⊢
   subst hc
   have h1:b9p (s.F d)=true:=List.all_eq_true.1 hs (d,want) (by simp)
   unfold b9p at h1
   split at h1
   ·
    rename_i b hb
    cases hv:L3 s (A d) with
    | true =>
     rw[U.yes d hv,hb]
     have:L3 s ((d,want)::A d)=(b==want):=by
      unfold L3 at hv ⊢
      rw[List.all_cons,hv,Bool.and_true]
      simp only[hb,isB]
      cases want<;>cases b<;>rfl
     rw[this]
    | false =>
     rw[U.no d hv]
     have:L3 s ((d,want)::A d)=false:=by
      unfold L3 at hv ⊢
      rw[List.all_cons,hv,Bool.and_false]
     rw[this]
   ·
    cases h1
theorem c4t (U:a7a q s A gs) {d:Nat} {v u:V} {ch:List (Nat×Bool)} {gs':List Nat} (hgs:∀x,x∈gs→x∈gs') (hch:∀p∈ch,p.1∈gs') (hd:d ∉ gs) (hdc:∀p∈ch,p.1≠d)
  (h1:L3 s ch=true→u=v) (h2:L3 s ch=false→u=L8):a7a ⟨q.N,upd q.F d u,q.H⟩ ⟨s.N,upd s.F d v,s.H⟩ (a4e A d ch) gs':=by
 have hA:∀t,t≠d→∀p∈A t,p.1≠d:=fun t _ p hp e=>hd (by rw[←e];exact U.has t p hp)
 refine ⟨U.N,U.H,fun t ht=>?_,fun t ht=>?_,fun t p hp=>?_⟩
 ·
  by_cases e:t=d
  ·
   subst e
   simp only[a4e,beq_self_eq_true,cond_true] at ht
   rw[a8w hdc] at ht
   simp[upd,h1 ht]
  ·
   have:(t==d)=false:=by simpa using e
   simp only[a4e,this,cond_false] at ht
   rw[a8w (hA t e)] at ht
   simp only[upd,this,cond_false]
   exact U.yes t ht
 ·
  by_cases e:t=d
  ·
   subst e
   simp only[a4e,beq_self_eq_true,cond_true] at ht
   rw[a8w hdc] at ht
   simp[upd,h2 ht]
  ·
   have:(t==d)=false:=by simpa using e
   simp only[a4e,this,cond_false] at ht
   rw[a8w (hA t e)] at ht
   simp only[upd,this,cond_false]
   exact U.no t ht
 ·
  by_cases e:t=d
  ·
   subst e
   simp only[a4e,beq_self_eq_true,cond_true] at hp
   exact hch p hp
  ·
   have:(t==d)=false:=by simpa using e
   simp only[a4e,this,cond_false] at hp
   exact hgs _ (U.has t p hp)
theorem c9t {d:Nat} {v:V} (h:Nat.blt d q.N=true):q.put (some d) v=some ⟨q.N,upd q.F d v,q.H⟩:=by simp[St.put,h]
theorem a5m (hE:Has C tb) {y:Bool} {call:D4} {ops:Array Oper} {K:St→Prop}:∀{l:List Oper} {q s:St} {A:Ann} {gs:List Nat},a7a q s A gs→b2a C tb ops l s A gs K→
  ∃q' s' A' gs',N6 C y call ops l q=some q'∧a7a q' s' A' gs'∧K (w9 s' A')
 | [],q,s,A,gs,U,h=>⟨q,s,A,gs,rfl,U,h⟩
 | o::rest,q,s,A,gs,U,h=>by
  unfold b2a at h
  split at h
  case h_2=>exact h.elim
  rename_i ch d hch hd
  cases hc:(ch.all (fun p=>b9p (s.F p.1))&&Nat.blt d s.N&& !(gs.contains d)&& !(ch.any fun p=>p.1==d)) with
  | false=>rw[hc] at h;exact h.elim
  | true =>
   rw[hc] at h
   simp only[cond_true] at h
   simp only[Bool.and_eq_true,Bool.not_eq_true'] at hc
   obtain ⟨⟨⟨c1,c2⟩,c3⟩,c4⟩:=hc
   have hdg:d ∉ gs:=fun hm=>by
    have:gs.contains d=true:=by simpa using hm
    rw[this] at c3;cases c3
   have hdc:∀p∈ch,p.1≠d:=fun p hp e=>by
    have:(ch.any fun p=>p.1==d)=true:=List.any_eq_true.2 ⟨p,hp,by simpa using e⟩
    rw[this] at c4;cases c4
   have hw:=c6q U hch c1
   have hqN:Nat.blt d q.N=true:=by rw[U.N];exact c2
   
   have step:∀(v:V) (gs':List Nat),(∀x,x∈gs→x∈gs')→(∀p∈ch,p.1∈gs')→(L3 s ch=true→C3 C y call o q=q.put o.dst v)→
     b2a C tb ops rest ⟨s.N,upd s.F d v,s.H⟩ (a4e A d ch) gs' K→
     ∃q' s' A' gs',N6 C y call ops (o::rest) q=some q'∧a7a q' s' A' gs'∧K (w9 s' A'):=by
    intro v gs' hg1 hg2 hev hr
    cases hv:L3 s ch with
    | true =>
     have hev:=hev hv
     rw[hd,c9t hqN] at hev
     obtain ⟨q',s',A',gs2,e1,e2,e3⟩:=a5m hE (c4t U (v:=v) (u:=v) (ch:=ch) (gs':=gs') hg1 hg2 hdg hdc (fun _=>rfl) (fun h=>by rw[hv] at h;cases h)) hr
     refine ⟨q',s',A',gs2, ?_,e2,e3⟩
     unfold N6
     rw[hw,hv]
     simp only[hev]
     exact e1
    | false =>
     obtain ⟨q',s',A',gs2,e1,e2,e3⟩:=a5m hE (c4t U (v:=v) (u:=L8) (ch:=ch) (gs':=gs') hg1 hg2 hdg hdc (fun h=>by rw[hv] at h;cases h) (fun _=>rfl)) hr
     refine ⟨q',s',A',gs2, ?_,e2,e3⟩
     unfold N6
     rw[hw,hv]
     simp only[hd,c9t hqN]
     exact e1
   have sub1:∀x,x∈gs→x∈ch.map (·.1)++gs:=fun x hx=>by simp[hx]
   have sub2:∀p∈ch,p.1∈ch.map (·.1)++gs:=fun p hp=>List.mem_append_left _ (List.mem_map.2 ⟨p,hp,rfl⟩)
   split at h
   ·
    rename_i cs a b hop
    split at h
    case h_2=>exact h.elim
    rename_i vc va vb hvc hva hvb
    split at h
    case h_2=>exact h.elim
    rename_i v pp hpv
    cases hcd:(cs==d) with
    | true=>rw[hcd] at h;exact h.elim
    | false =>
     rw[hcd] at h
     simp only[cond_false] at h
     obtain ⟨h,hpp⟩:=c7e h
     obtain ⟨t,rfl,hvt⟩:=e6y hpv
     refine step _ _ (fun x hx=>by simp[hx]) (fun p hp=>List.mem_cons_of_mem _ (List.mem_append_left _ (List.mem_map.2 ⟨p,hp,rfl⟩))) (fun hv=>?_) h
     have hcv:=b4f U hv hvc
     
     have hsc:s.F cs=A7 t∧L3 s (A cs)=true:=by
      simp only[ovA] at hvc
      cases hs:sub (A cs) ch with
      | false=>rw[hs] at hvc;cases hvc
      | true=>rw[hs] at hvc;simp only[cond_true,Option.some.injEq] at hvc;exact ⟨hvc,c4s hs hv⟩
     have hx:∀w:Bool,t=w→L3 s ((cs,w)::(A cs++ch))=true:=fun w hw=>by
      unfold L3 at hv hsc ⊢
      rw[List.all_cons,List.all_append,hv,hsc.2,Bool.and_true,Bool.and_true]
      simp only[hsc.1,isB,hw]
      cases w<;>rfl
     obtain ⟨dst,op,type,pos,after,guard⟩:=o
     simp only at hop
     subst hop
     have hvt:=hvt (hpp hv)
     subst hvt
     simp only[C3,hcv]
     cases t with
     | true=>simp only[cond_true];rw[b4f U (hx true rfl) hva];rfl
     | false=>simp only[cond_false];rw[b4f U (hx false rfl) hvb];rfl
   ·
    split at h
    ·
     rename_i v p hval
     obtain ⟨h,hpp⟩:=c7e h
     refine step v _ sub1 sub2 (fun hv=>?_) h
     refine c6r hE (ov:=ovA C s A ch) (fun x u hx=>b4f U hv hx) (p:=p) ?_ (hpp hv)
     rw[U.H];exact hval
    ·
     split at h
     ·
      exact h.elim
     ·
      obtain ⟨h,hpp⟩:=c7e h
      exact step .any _ sub1 sub2 (fun hv=>(hpp hv _ rfl).elim) h
end
end Go.Ev
end
section
namespace Go.Ev
structure Sm where
 pre:List V→List Box→Prop
 f:List V→List Box→Option (Bool×(V×List Box×List Box)×(V×List Box×List Box))
def one (r:V) (bs news:List Box):Option (Bool×(V×List Box×List Box)×(V×List Box×List Box)):=some (true,(r,bs,news),(r,bs,news))
abbrev J5:=FuncId→Option Sm
def c9s (H:A9):Nat→List A6→List A6→Option (List A6)
 | 0,_,_=>none
 | _+1,acc, []=>some acc
 | n+1,acc,x::todo=>bif acc.contains x then c9s H n acc todo else match H x with
  | some b=>c9s H n (acc++ [x]) (todo++i7 b)
  | none=>none
def U7:Nat→List A6→List (A6×A6)
 | _, []=>[]
 | i,n::r=>([0,i],n)::U7 (i+1) r
def K9 (k:Nat):List A6:=(List.range k).map fun i=>[0,i]
def J7 (k:Nat):List A6:=(List.range k).map fun i=>[i+2]
def a5j (l:List (A6×A6)):List (A6×A6):=l.map fun p=>(p.2,p.1)
def G3 (bs:List Box):A9:=ofL (N3 (K9 bs.length) bs)
def V2 (bs news:List Box):A9:=ofL (N3 (K9 bs.length) bs++N3 (J7 news.length) news)
def a4n (H:A9) (l:List (A6×Box)):A9:=fun n=>match ofL l n with|some b=>some b|none=>H n
def c9h (H:A9) (l:List A6) (r:V×List Box×List Box):V×A9 :=
 (r.1.ren (J8 (a5j (U7 0 l))),a4n H (N3 l (r.2.1.map (·.ren (J8 (a5j (U7 0 l)))))++N3 (J7 r.2.2.length) (r.2.2.map (·.ren (J8 (a5j (U7 0 l)))))))
def d8o (tb:J5) (K:FuncId) (args:List V) (H:A9):Option (Prop×Bool×(V×A9)×(V×A9)):=match tb K with
 | none=>none
 | some S=>match c9s H 200 [] (H6 args) with
  | none=>none
  | some l=>match j8 H (U7 0 l) with
   | none=>none
   | some bs=>bif Q2 l&&(l.all X1&&(a8i l (H6 args)&&bs.all (fun b=>a8i l (i7 b)))) then
     (match S.f (u3 (J8 (U7 0 l)) args) (bs.map (·.ren (J8 (U7 0 l)))) with
     | some (c,x,y)=>bif x.2.1.length==bs.length&&y.2.1.length==bs.length then
       some (S.pre (u3 (J8 (U7 0 l)) args) (bs.map (·.ren (J8 (U7 0 l)))),c,c9h H l x,c9h H l y)
      else none
     | none=>none)
    else none
noncomputable def b5q (tb:J5):D4:=fun K args H=>open Classical in match d8o tb K args H with
 | some (p,c,x,y)=>if p then some (bif c then x else y) else none
 | none=>none
def H5 (C:Cx) (tb:J5):Prop:=∀K f vals bs c x y,tb K=some f→f.pre vals bs→f.f vals bs=some (c,x,y)→
 M4 C.P K∧N9 C K vals (G3 bs) fun r' H'=>r'=(bif c then x else y).1∧H'=V2 (bif c then x else y).2.1 (bif c then x else y).2.2
section
variable {C : Cx} {w w' : World} {g g1 : G} {H H1 : A9}
theorem c3u:∀(i:Nat) (l:List A6),(U7 i l).map (·.2)=l
 | _, []=>rfl
 | i,n::r=>by simp[U7,c3u (i+1) r]
theorem c3v:∀(i:Nat) (l:List A6),(U7 i l).map (·.1)=(List.range l.length).map fun j=>[0,i+j]
 | _, []=>rfl
 | i,n::r=>by
  simp only[U7,List.map_cons,c3v (i+1) r,List.length_cons,List.range_succ_eq_map,List.map_map]
  congr 1
  apply List.map_congr_left
  intro j _
  simp only[Function.comp_apply]
  congr 2
  omega
theorem nodup_range (i:Nat):∀(k:Nat),Q2 ((List.range k).map fun j=>[0,i+j])=true:=by
 intro k
 have key:∀(l:List Nat),l.Nodup→Q2 (l.map fun j=>[0,i+j])=true:=by
  intro l
  induction l with
  | nil=>intro _;rfl
  | cons a r ih =>
   intro h
   have h1:=List.nodup_cons.1 h
   simp only[List.map_cons,Q2,Bool.and_eq_true,Bool.not_eq_true']
   refine ⟨?_,ih h1.2⟩
   cases hc:(r.map fun j=>[0,i+j]).contains [0,i+a] with
   | false=>rfl
   | true =>
    exfalso
    have: [0,i+a]∈r.map fun j=>[0,i+j]:=List.elem_iff.1 hc
    obtain ⟨b,hb,he⟩:=List.mem_map.1 this
    simp at he
    exact h1.1 (he▸hb)
 exact key _ List.nodup_range
theorem e9b {ns:List (A6×A6)} {b0:List Box} (hH:L0 w g H) (hb0:j8 H ns=some b0) (c1:Q2 (ns.map (·.1))=true) (c2:Q2 (ns.map (·.2))=true) (c5:b0.all (fun b=>a8i (ns.map (·.2)) (i7 b))=true) :
  ∃g2:G,L0 w g2 (ofL (a7k ns (b0.map (·.ren (J8 ns)))))∧(∀v u,(∀n∈v.names,n∈ns.map (·.2))→C5 w g H v u→C5 w g2 (ofL (a7k ns (b0.map (·.ren (J8 ns))))) (v.ren (J8 ns)) u)∧g2.lim=g.lim∧
   (∀b,g.owner b=none→g2.owner b=none)∧(∀b n,g.owner b=some n→n ∉ ns.map (·.2)→g2.owner b=none)∧(∀p∈ns,g2.val p.1=g.val p.2∧kd (ofL (a7k ns (b0.map (·.ren (J8 ns))))) p.1=kd H p.2):=by
 obtain ⟨hlen,hat⟩:=a2d hb0
 let olds:=ns.map (·.2)
 let H1:A9:=fun n=>bif olds.contains n then H n else none
 let g1:G:=⟨g.val,g.lim,fun b=>match g.owner b with|some n=>(bif olds.contains n then some n else none)|none=>none⟩
 have hin:∀n,n∈olds→olds.contains n=true:=fun n hn=>by simpa using hn
 have hkd:∀n,n∈olds→kd H1 n=kd H n:=fun n hn=>by simp only[kd,H1,hin n hn,cond_true]
 have hold:∀n,n∈olds→∃(i:Nat) (p:A6×A6) (b:Box),ns[i]?=some p∧b0[i]?=some b∧p.2=n∧H n=some b:=fun n hn=>by
  obtain ⟨p,hp,rfl⟩:=List.mem_map.1 hn
  obtain ⟨i,hi⟩:=List.getElem?_of_mem hp
  have hlt:i<b0.length:=by rw[hlen];exact (List.getElem?_eq_some_iff.1 hi).1
  exact ⟨i,p,b0[i],hi,by simp[hlt],rfl,hat i p _ hi (by simp[hlt])⟩
 have hbn:∀n b,n∈olds→H n=some b→∀m∈i7 b,m∈olds:=fun n b hn hb m hm=>by
  obtain ⟨i,p,b',h1,h2,h3,h4⟩:=hold n hn
  rw[hb] at h4;cases h4
  have:=List.all_eq_true.1 c5 b (List.mem_of_getElem? h2)
  have:=List.all_eq_true.1 this m hm
  exact List.elem_iff.1 this
 have hH1:L0 w g1 H1:=by
  refine ⟨fun n b hb=>?_,fun b hb=>?_⟩
  ·
   simp only[H1] at hb
   cases hc:olds.contains n with
   | false=>rw[hc] at hb;cases hb
   | true =>
    rw[hc] at hb
    simp only[cond_true] at hb
    have hn:n∈olds:=by simpa using hc
    exact (hH.box n b hb).loc (g:=g) (g1:=g1) (H1:=H1) rfl rfl (fun b' hb'=>by simp only[g1,hb',hc,cond_true]) fun m hm=>hkd m (hbn n b hn hb m hm)
  ·
   have:=hH.fresh b hb
   exact ⟨this.1,by simp only[g1,this.2]⟩
 have hinv1:∀n m,W1 ns n=some m→J8 ns m=n:=fun n m h=>Y5 c2 (r7 h)
 have hinv2:∀n,(H1 n).isSome→W1 ns (J8 ns n)=some n:=fun n hn=>by
  simp only[H1] at hn
  cases hc:olds.contains n with
  | false=>rw[hc] at hn;cases hn
  | true =>
   have hm:n∈olds:=by simpa using hc
   obtain ⟨p,hp,rfl⟩:=List.mem_map.1 hm
   rw[Y5 (a:=p.1) c2 hp]
   exact a9g c1 hp
 obtain ⟨r1,r2⟩:=b5u (f:=J8 ns) (inv:=W1 ns) hinv1 hinv2 hH1
 have hz3:ofL (a7k ns (b0.map (·.ren (J8 ns))))=(H1.ren (J8 ns) (W1 ns)):=by
  funext n
  rw[b8i hb0]
  unfold A9.ren
  cases hi:W1 ns n with
  | none=>rfl
  | some m =>
   have hm:m∈olds:=List.mem_map.2 ⟨(n,m),r7 hi,rfl⟩
   simp only[H1,hin m hm,cond_true]
   cases H m<;>rfl
 rw[hz3]
 refine ⟨_,r2,fun v u hn hr=>?_,rfl,fun b hb=>?_,fun b n hb hn=>?_,fun p hp=>?_⟩
 ·
  have h1:C5 w g1 H1 v u:=hr.loc (g:=g) (g1:=g1) rfl rfl fun n hm=>hkd n (hn n hm)
  exact h1.ren (g:=g1) (g':=g1.ren (J8 ns) (W1 ns)) (.refl _ _) r1
 ·
  simp only[G.ren,g1,hb,Option.map_none]
 ·
  have:olds.contains n=false:=by
   cases hc:olds.contains n with
   | false=>rfl
   | true=>exact absurd (List.elem_iff.1 hc) hn
  simp only[G.ren,g1,hb,this,cond_false,Option.map_none]
 ·
  have hi:=a9g (a:=p.1) (b:=p.2) c1 hp
  refine ⟨by simp only[G.ren,hi];rfl, ?_⟩
  rw[e7y hi]
  exact hkd p.2 (List.mem_map.2 ⟨p,hp,rfl⟩)
theorem b8v:∀(ns:List (A6×A6)) (bs:List Box),a7k ns bs=N3 (ns.map (·.1)) bs
 | [],_=>rfl
 | p::r, []=>rfl
 | p::r,b::l=>by simp only[a7k,List.map_cons,N3,b8v r l]
theorem Y8:∀{nm:List A6} {bs:List Box} {n:A6} {b:Box},ofL (N3 nm bs) n=some b→∃i:Nat,nm[i]?=some n∧bs[i]?=some b
 | [],bs,n,b,h=>by simp[N3,ofL] at h
 | m::r, [],n,b,h=>by simp[N3,ofL] at h
 | m::r,c::l,n,b,h=>by
  simp only[N3,ofL] at h
  by_cases e:n=m
  ·
   subst e;simp at h;subst h;exact ⟨0,by simp,by simp⟩
  ·
   have:(n==m)=false:=by simpa using e
   rw[this] at h
   obtain ⟨i,h1,h2⟩:=Y8 h
   exact ⟨i+1,by simpa using h1,by simpa using h2⟩
theorem Y7:∀{nm:List A6} {bs:List Box} {n:A6} {b:Box} {i:Nat},Q2 nm=true→nm[i]?=some n→bs[i]?=some b→ofL (N3 nm bs) n=some b
 | [],bs,n,b,i,_,h,_=>by simp at h
 | m::r, [],n,b,i,_,_,h=>by simp at h
 | m::r,c::l,n,b,i,hd,h1,h2=>by
  obtain ⟨k1,k2⟩:=a8a hd
  simp only[N3,ofL]
  cases i with
  | zero=>simp at h1 h2;subst h1 h2;simp
  | succ i =>
   have h1':r[i]?=some n:=by simpa using h1
   have:n≠m:=fun e=>k1 (by subst e;exact List.mem_of_getElem? h1')
   have:(n==m)=false:=by simpa using this
   rw[this]
   exact Y7 k2 h1' (by simpa using h2)
theorem W7 {nm:List A6} {bs:List Box} {n:A6} (h:n ∉ nm):ofL (N3 nm bs) n=none:=by
 cases hx:ofL (N3 nm bs) n with
 | none=>rfl
 | some b =>
  obtain ⟨i,h1,_⟩:=Y8 hx
  exact absurd (List.mem_of_getElem? h1) h
theorem c4w (l:List (A6×A6)):(a5j l).map (·.1)=l.map (·.2):=by simp[a5j]
theorem c4v (l:List (A6×A6)):(a5j l).map (·.2)=l.map (·.1):=by simp[a5j]
theorem c9p:∀{ns:List (A6×A6)} {n:A6},n ∉ ns.map (·.2)→J8 ns n=n
 | [],n,_=>rfl
 | (a,b)::r,n,h=>by
  simp only[List.map_cons,List.mem_cons,not_or] at h
  have:(n==b)=false:=by simpa using h.1
  unfold J8
  rw[this]
  exact c9p h.2
theorem d6o (l:List A6):(U7 0 l).map (·.1)=K9 l.length:=by
 rw[c3v];unfold K9
 apply List.map_congr_left
 intro j _
 simp
structure CS where
 call:D4
 cq:FuncId→List V→A9→Option (Prop×Bool×(V×A9)×(V×A9))
 ok:∀K args H p c x y,cq K args H=some (p,c,x,y)→p→call K args H=some (bif c then x else y)
noncomputable def K4 (tb:J5):CS:=⟨b5q tb,d8o tb,fun K args H p c x y h hp=>by unfold b5q;rw[h];simp[hp]⟩
def G1:CS:=⟨fun _ _ _=>none,fun _ _ _=>none,fun K args H p c x y h=>by cases h⟩
theorem b3r {tb:J5} (hs:H5 C tb):W3 C (b5q tb):=by
 intro K args H r H' h
 unfold b5q at h
 split at h
 case h_2=>cases h
 rename_i P sel x y hrun
 split at h
 case isFalse=>cases h
 rename_i hP
 simp only[Option.some.injEq] at h
 have hres:=h
 have h:=hrun
 unfold d8o at h
 split at h
 case h_1=>cases h
 rename_i f hf
 split at h
 case h_1=>cases h
 rename_i l hl
 split at h
 case h_1=>cases h
 rename_i b0 hb0
 cases hc:(Q2 l&&(l.all X1&&(a8i l (H6 args)&&b0.all (fun b=>a8i l (i7 b))))) with
 | false=>rw[hc] at h;cases h
 | true =>
  rw[hc] at h
  simp only[cond_true] at h
  simp only[Bool.and_eq_true] at hc
  obtain ⟨d1,d2,d3,d4⟩:=hc
  split at h
  case h_2=>cases h
  rename_i c0 x0 y0 hfr
  cases hle:(x0.2.1.length==b0.length&&y0.2.1.length==b0.length) with
  | false=>rw[hle] at h;cases h
  | true =>
   rw[hle] at h
   simp only[cond_true,Option.some.injEq,Prod.mk.injEq] at h
   obtain ⟨rfl,rfl,rfl,rfl⟩:=h
   obtain ⟨hen,hsq⟩:=hs K f _ _ c0 x0 y0 hf hP hfr
   simp only[Bool.and_eq_true,beq_iff_eq] at hle
   have hres:c9h H l (bif c0 then x0 else y0)=(r,H'):=by rw[←hres];cases c0<;>rfl
   have hle:(bif c0 then x0 else y0).2.1.length=b0.length:=by cases c0 with|true=>exact hle.1|false=>exact hle.2
   generalize (bif c0 then x0 else y0)=res at hres hle hsq
   obtain ⟨r0,bs',news⟩:=res
   have hle:bs'.length=b0.length:=hle
   have hsq:N9 C K (u3 (J8 (U7 0 l)) args) (G3 (b0.map (·.ren (J8 (U7 0 l))))) fun r' H'=>r'=r0∧H'=V2 bs' news:=hsq
   unfold c9h at hres
   simp only[Prod.mk.injEq] at hres
   obtain ⟨rfl,rfl⟩:=hres
   let ns:=U7 0 l
   have m1:ns.map (·.1)=K9 l.length:=d6o l
   have m2:ns.map (·.2)=l:=c3u 0 l
   have c1:Q2 (ns.map (·.1))=true:=by rw[m1];have:=nodup_range 0 l.length;simpa [K9] using this
   have c2:Q2 (ns.map (·.2))=true:=by rw[m2];exact d1
   have hbl:b0.length=l.length:=by
    have:=(a2d hb0).1
    rw[this]
    have:=congrArg List.length m2
    simpa using this
   have hlz:∀n∈l,∃m,n=0::m:=fun n hn=>by
    have:=List.all_eq_true.1 d2 n hn
    unfold X1 at this
    split at this
    ·
     exact ⟨_,rfl⟩
    ·
     cases this
   have hnn:∀n∈J7 news.length,∃i:Nat,i<news.length∧n= [i+2]:=fun n hn=>by
    obtain ⟨i,hi,rfl⟩:=List.mem_map.1 hn
    exact ⟨i,List.mem_range.1 hi,rfl⟩
   have hnew_l:∀n∈J7 news.length,n ∉ l:=fun n hn hm=>by
    obtain ⟨i,_,rfl⟩:=hnn n hn
    obtain ⟨m,hm⟩:=hlz _ hm
    simp at hm
   have hnew_in:∀n∈J7 news.length,n ∉ K9 l.length:=fun n hn hm=>by
    obtain ⟨i,_,rfl⟩:=hnn n hn
    obtain ⟨j,_,hj⟩:=List.mem_map.1 hm
    simp at hj
   have hnewD:Q2 (J7 news.length)=true:=by
    have key:∀(q:List Nat),q.Nodup→Q2 (q.map fun j=>[j+2])=true:=by
     intro q
     induction q with
     | nil=>intro _;rfl
     | cons a r ih =>
      intro h
      have h1:=List.nodup_cons.1 h
      simp only[List.map_cons,Q2,Bool.and_eq_true,Bool.not_eq_true']
      refine ⟨?_,ih h1.2⟩
      cases hc:(r.map fun j=>[j+2]).contains [a+2] with
      | false=>rfl
      | true =>
       exfalso
       have: [a+2]∈r.map fun j=>[j+2]:=List.elem_iff.1 hc
       obtain ⟨b,hb,he⟩:=List.mem_map.1 this
       simp at he
       exact h1.1 (he▸hb)
    exact key _ List.nodup_range
   refine ⟨hen, ?_, ?_⟩
   ·
    
    intro w g vs hH hG hr hz
    obtain ⟨g2,e1,e2,e3,e4,e5,e6⟩:=e9b hH hb0 c1 c2 (by rw[m2];exact d4)
    have hH0:ofL (a7k ns (b0.map (·.ren (J8 ns))))=G3 (b0.map (·.ren (J8 ns))):=by
     unfold G3
     rw[b8v,m1]
     simp[hbl]
    rw[hH0] at e1 e2 e6
    have hargs:C6 w g2 (G3 (b0.map (·.ren (J8 ns)))) (u3 (J8 ns) args) vs.toList:=by
     have key:∀(a:List V) (u:List Value),(∀n∈H6 a,n∈l)→C6 w g H a u→C6 w g2 (G3 (b0.map (·.ren (J8 ns)))) (u3 (J8 ns) a) u:=by
      intro a
      induction a with
      | nil=>intro u _ h;cases h;exact .nil
      | cons v a ih =>
       intro u hn h
       cases h with
       | cons h t=>exact .cons (e2 v _ (fun n hm=>by rw[m2];exact hn n (by simp[H6,hm])) h) (ih _ (fun n hm=>hn n (by simp[H6,hm])) t)
     exact key args _ (fun n hn=>List.elem_iff.1 (List.all_eq_true.1 d3 n hn)) hr
    refine (hsq w g2 vs e1 (by rw[e3];exact hG) hargs (fun n hn=>?_)).mono ?_
    ·
     unfold G3 at hn
     cases hx:ofL (N3 (K9 (b0.map (·.ren (J8 ns))).length) (b0.map (·.ren (J8 ns)))) n with
     | none=>rw[hx] at hn;cases hn
     | some b =>
      obtain ⟨i,h1,_⟩:=Y8 hx
      obtain ⟨j,_,hj⟩:=List.mem_map.1 (List.mem_of_getElem? h1)
      exact ⟨[j],hj.symm⟩
    ·
     rintro e w' ⟨u,r',Hx,g3,⟨rfl,rfl⟩,rfl,k1,k2,k3,k4⟩
     let back:=J8 (a5j ns)
     let L:=N3 l (bs'.map (·.ren back))++N3 (J7 news.length) (news.map (·.ren back))
     let H2:=a4n H L
     
     have hb1:∀p∈ns,back p.1=p.2:=fun p hp=>Y5 (a:=p.2) (b:=p.1) (by rw[c4v];exact c1) (List.mem_map.2 ⟨p,hp,rfl⟩)
     have hb2:∀n∈J7 news.length,back n=n:=fun n hn=>c9p (by rw[c4v,m1];exact hnew_in n hn)
     have hpair:∀i,i<l.length→∃n,l[i]?=some n∧([0,i],n)∈ns:=fun i hi=>by
      refine ⟨l[i],by simp[hi], ?_⟩
      have h1:(ns.map (·.1))[i]?=some [0,i]:=by rw[m1];simp[K9,hi]
      have h2:(ns.map (·.2))[i]?=some l[i]:=by rw[m2];simp[hi]
      rw[List.getElem?_map] at h1 h2
      cases hp:ns[i]? with
      | none=>rw[hp] at h1;cases h1
      | some p =>
       rw[hp] at h1 h2
       simp at h1 h2
       have:=List.mem_of_getElem? hp
       cases p;simp at h1 h2;subst h1 h2;exact this
     let g':G:=⟨fun n=>match W1 (a5j ns) n with|some m=>g3.val m|none=>(bif (J7 news.length).contains n then g3.val n else g.val n),g3.lim,
      fun b=>match g3.owner b with|some m=>some (back m)|none=>(match g.owner b with|some n=>(bif l.contains n then none else some n)|none=>none)⟩
     have hiv:∀p∈ns,W1 (a5j ns) p.2=some p.1:=fun p hp=>a9g (a:=p.2) (b:=p.1) (by rw[c4w];exact c2) (List.mem_map.2 ⟨p,hp,rfl⟩)
     have hivn:∀n,n ∉ l→W1 (a5j ns) n=none:=fun n hn=>by
      cases hi:W1 (a5j ns) n with
      | none=>rfl
      | some m =>
       have:=r7 hi
       exact absurd (show n∈l by
        have h2:n∈(a5j ns).map (·.1):=List.mem_map.2 ⟨(n,m),this,rfl⟩
        rw[c4w,m2] at h2;exact h2) hn
     
     have hLin:∀(i:Nat) (n:A6) (b:Box),l[i]?=some n→bs'[i]?=some b→ofL L n=some (b.ren back):=fun i n b h1 h2=>by
      simp only[L,j5]
      rw[Y7 d1 h1 (b:=b.ren back) (by simp[h2])]
     have hLnew:∀(i:Nat) (n:A6) (b:Box),(J7 news.length)[i]?=some n→news[i]?=some b→ofL L n=some (b.ren back):=fun i n b h1 h2=>by
      simp only[L,j5]
      rw[W7 (hnew_l n (List.mem_of_getElem? h1)),Y7 hnewD h1 (b:=b.ren back) (by simp[h2])]
     have hLnot:∀n,n ∉ l→n ∉ J7 news.length→ofL L n=none:=fun n h1 h2=>by
      simp only[L,j5]
      rw[W7 h1,W7 h2]
     have hOut:∀(n:A6) (b:Box),V2 bs' news n=some b→(∃i:Nat,i<l.length∧n= [0,i]∧bs'[i]?=some b)∨(∃i:Nat,(J7 news.length)[i]?=some n∧news[i]?=some b):=fun n b h=>by
      unfold V2 at h
      rw[j5] at h
      cases hx:ofL (N3 (K9 bs'.length) bs') n with
      | some c =>
       rw[hx] at h;cases h
       obtain ⟨i,h1,h2⟩:=Y8 hx
       have hlt:i<bs'.length:=(List.getElem?_eq_some_iff.1 h2).1
       refine .inl ⟨i,by omega, ?_,h2⟩
       simp[K9,hlt] at h1
       exact h1.symm
      | none =>
       rw[hx] at h
       obtain ⟨i,h1,h2⟩:=Y8 h
       exact .inr ⟨i,h1,h2⟩
     have hOutIn:∀(i:Nat) (b:Box),bs'[i]?=some b→V2 bs' news [0,i]=some b:=fun i b h=>by
      unfold V2
      rw[j5]
      have hlt:i<bs'.length:=(List.getElem?_eq_some_iff.1 h).1
      rw[Y7 (nm:=K9 bs'.length) (i:=i) (b:=b) (by have:=nodup_range 0 bs'.length;simpa [K9] using this) (by simp[K9,hlt]) h]
     have hren:Ren back (V2 bs' news) g3 H2 g':=fun n q hq=>by
      obtain ⟨b,hb,hkb⟩:=a9d hq
      rcases hOut n b hb with ⟨i,hi,rfl,hbi⟩|⟨i,hi,hbi⟩
      ·
       obtain ⟨m,hm,hp⟩:=hpair i hi
       rw[hb1 _ hp]
       refine ⟨?_,by simp only[g',hiv _ hp]⟩
       simp only[kd,H2,a4n,hLin i m b hm hbi,Option.map_some,b4p,hkb]
      ·
       have hmem:=List.mem_of_getElem? hi
       rw[hb2 n hmem]
       refine ⟨?_, ?_⟩
       ·
        simp only[kd,H2,a4n,hLnew i n b hi hbi,Option.map_some,b4p,hkb]
       ·
        have:(J7 news.length).contains n=true:=by simpa using hmem
        simp only[g',hivn n (hnew_l n hmem),this,cond_true]
     have hkeep:J4 H g H2 g':=fun n q hq=>by
      by_cases hn:n∈l
      ·
       obtain ⟨i,hi⟩:=List.getElem?_of_mem hn
       have hlt:=(List.getElem?_eq_some_iff.1 hi).1
       obtain ⟨m,hm,hp⟩:=hpair i hlt
       rw[hi] at hm;cases hm
       obtain ⟨v1,v2⟩:=e6 _ hp
       obtain ⟨j1,j2⟩:=k4 [i] q (by rw[v2];exact hq)
       obtain ⟨b,hb,hkb⟩:=a9d j1
       rcases hOut [0,i] b hb with ⟨i',hi',he,hbi⟩|⟨i',hi',hbi⟩
       ·
        simp at he;subst he
        refine ⟨?_, ?_⟩
        ·
         simp only[kd,H2,a4n,hLin i n b hi hbi,Option.map_some,b4p,hkb]
        ·
         simp only[g',hiv _ hp]
         rw[j2];exact v1
       ·
        obtain ⟨j,_,hj⟩:=hnn _ (List.mem_of_getElem? hi')
        simp at hj
      ·
       have hnz:n ∉ J7 news.length:=fun hm=>by
        obtain ⟨j,_,rfl⟩:=hnn n hm
        obtain ⟨b,hb,_⟩:=a9d hq
        obtain ⟨m,hm⟩:=hz [j+2] (by rw[hb];rfl)
        simp at hm
       have hcn:(J7 news.length).contains n=false:=by
        cases hcc:(J7 news.length).contains n with
        | false=>rfl
        | true=>exact absurd (List.elem_iff.1 hcc) hnz
       refine ⟨by simpa only[kd,H2,a4n,hLnot n hn hnz] using hq,by simp only[g',hivn n hn,hcn,cond_false]⟩
     have hgr:Q6 w g.lim w' g'.lim:=by
      have:=k3.grow
      rw[e3] at this
      exact this
     have hown:∀b n,g.owner b=some n→n ∉ l→w'.heap[b]?=w.heap[b]?∧g'.owner b=some n∧g'.lim b=g.lim b:=fun b n hb hn=>by
      have h2:g2.owner b=none:=e5 b n hb (by rw[m2];exact hn)
      have hlt:b<w.heap.size:=by
       rcases Nat.lt_or_ge b w.heap.size with h1|h1
       ·
        exact h1
       ·
        rw[(hH.fresh b h1).2] at hb;cases hb
      obtain ⟨f1,f2,f3⟩:=k3.free b hlt h2
      have hcn:l.contains n=false:=by
       cases hcc:l.contains n with
       | false=>rfl
       | true=>exact absurd (List.elem_iff.1 hcc) hn
      exact ⟨f1,by simp only[g',f3,hb,hcn,cond_false],by rw[e3] at f2;exact f2⟩
     have hH2:L0 w' g' H2:=by
      refine ⟨fun n b hb=>?_,fun b hb=>?_⟩
      ·
       simp only[H2,a4n] at hb
       cases hx:ofL L n with
       | some c =>
        rw[hx] at hb;simp at hb;subst hb
        have hx':=hx
        simp only[L,j5] at hx'
        cases hy:ofL (N3 l (bs'.map (·.ren back))) n with
        | some c' =>
         rw[hy] at hx';simp at hx';subst hx'
         obtain ⟨i,h1,h2⟩:=Y8 hy
         rw[List.getElem?_map] at h2
         cases hbi:bs'[i]? with
         | none=>rw[hbi] at h2;cases h2
         | some b1 =>
          rw[hbi] at h2;simp at h2;subst h2
          have hlt:=(List.getElem?_eq_some_iff.1 h1).1
          obtain ⟨m,hm,hp⟩:=hpair i hlt
          rw[h1] at hm;cases hm
          have hbox:=(k2.box [0,i] b1 (hOutIn i b1 hbi)).ren (g':=g') (H':=H2) (f:=back) (hOutIn i b1 hbi) (.refl _ _) hren (fun k hk=>⟨by simp only[g',hk],rfl⟩)
          rw[hb1 _ hp] at hbox
          exact hbox
        | none =>
         rw[hy] at hx'
         obtain ⟨i,h1,h2⟩:=Y8 hx'
         rw[List.getElem?_map] at h2
         cases hbi:news[i]? with
         | none=>rw[hbi] at h2;cases h2
         | some b1 =>
          rw[hbi] at h2;simp at h2;subst h2
          have hmem:=List.mem_of_getElem? h1
          have hsm:V2 bs' news n=some b1:=by
           unfold V2
           rw[j5,W7 (fun hm=>by
            obtain ⟨j,_,rfl⟩:=hnn n hmem
            obtain ⟨j',_,hj'⟩:=List.mem_map.1 hm
            simp at hj')]
           exact Y7 hnewD h1 hbi
          have hbox:=(k2.box n b1 hsm).ren (g':=g') (H':=H2) (f:=back) hsm (.refl _ _) hren (fun k hk=>⟨by simp only[g',hk],rfl⟩)
          rw[hb2 n hmem] at hbox
          exact hbox
       | none =>
        rw[hx] at hb
        have hn:n ∉ l:=fun hm=>by
         obtain ⟨i,hi⟩:=List.getElem?_of_mem hm
         have hlt:=(List.getElem?_eq_some_iff.1 hi).1
         have:i<bs'.length:=by omega
         rw[hLin i n bs'[i] hi (by simp[this])] at hx
         cases hx
        exact (hH.box n b hb).mono hb hgr hkeep fun _ k hk=>hown k n hk hn
      ·
       have hge:w.heap.size≤b:=Nat.le_trans k3.size hb
       obtain ⟨f1,f2⟩:=k2.fresh b hb
       exact ⟨f1,by simp only[g',f2,(hH.fresh b hge).2]⟩
     refine ⟨u,g',rfl, ?_,hH2,⟨k3.os,k3.tape,k3.output,k3.size,fun b hb ho=>?_,hgr⟩, .of_names hkeep⟩
     ·
      exact k1.ren (g:=g3) (g':=g') (H':=H2) (f:=back) (.refl _ _) hren
     ·
      obtain ⟨f1,f2,f3⟩:=k3.free b hb (e4 b ho)
      exact ⟨f1,by rw[e3] at f2;exact f2,by simp only[g',f3,ho]⟩
   ·
    
    intro m hm
    simp only[a4n,j5] at hm
    by_cases hn:(0::m)∈l
    ·
     obtain ⟨i,hi⟩:=List.getElem?_of_mem hn
     have hlt:=(List.getElem?_eq_some_iff.1 hi).1
     have:(ns.map (·.2))[i]?=some (0::m):=by rw[m2];exact hi
     rw[List.getElem?_map] at this
     cases hp:ns[i]? with
     | none=>rw[hp] at this;cases this
     | some p =>
      rw[hp] at this;simp at this
      have hlt2:i<b0.length:=by omega
      have:=(a2d hb0).2 i p b0[i] hp (by simp[hlt2])
      simp_all
    ·
     rw[W7 hn,W7 (fun hm=>by
      obtain ⟨j,_,hj⟩:=hnn _ hm
      simp at hj)] at hm
     exact hm
end
end Go.Ev
end
