/- What the proofs of the lexer's laws share, part 4 of 13. -/
import Derived.Test.YtnnhlphbfpnaaaaGreatDoorC3
import Derived.KernelRfl
import Derived.IntWalk
import Derived.Lib.Space
import Derived.Lib.ItoaNum
import Derived.Test.YtnnhlphbfpnaaaaGreatDoorProg
import Derived.Shelf.Strings.Builder1
import Derived.Shelf.Small.Strs
import Derived.Shelf.Strings.BuilderF
import Derived.Shelf.Strings.BuilderK
import Derived.Shelf.Strconv.Atoi
import Derived.Shelf.Strconv.Itoa0
import Derived.Shelf.Strconv.Itoa1
import Derived.Shelf.LaysM
import Derived.Shelf.Strconv.Itoa2
import Derived.Shelf.Strconv.Itoa3
import Derived.Shelf.Strconv.AtoiErrFast
import Derived.Shelf.Strconv.ParseIntEmpty
import Derived.Shelf.Strconv.AtoiFail
import Derived.Shelf.Strconv.Clone
import Derived.Shelf.Strconv.SyntaxError
import Derived.Shelf.LaysC
import Derived.Shelf.Strconv.ToError
import Derived.Shelf.Strconv.AtoiErr
import Derived.Shelf.Strconv.ErrVar
import Derived.Shelf.Strconv.Lower
import Derived.Shelf.Strconv.ParseUint10
import Derived.Shelf.Strconv.ParseUint10Empty
import Derived.Shelf.Strconv.ParseUint10Any
import Derived.Shelf.Strconv.ParseInt10
import Derived.Shelf.Strconv.AtoiLong
import Derived.Shelf.Strconv.AtoiInnerAll
import Derived.Shelf.Strconv.RangeError
import Derived.Shelf.Strconv.ToErrorRange
import Derived.Shelf.Strconv.AtoiAll
import Derived.Shelf.Strconv.ErrVarAll
import Derived.Shelf.Strings.Search1
import Derived.Shelf.Strings.Search2
import Derived.Shelf.Strings.Search3
import Derived.Shelf.Strings.Cut
import Derived.Shelf.Strings.Shaped
import Derived.Shelf.Strings.Fields
import Derived.Shelf.Strings.SplitShaped
import Derived.Shelf.Unicode.Latin
import Derived.Shelf.Unicode.Is16White
import Derived.Shelf.Unicode.IsSpaceAny
import Derived.Shelf.Unicode.Is16Any
import Derived.Shelf.Unicode.Is32Any
import Derived.Shelf.Unicode.ExclAny
import Derived.Shelf.Slices.Turned
set_option linter.unusedVariables false
set_option linter.unusedSimpArgs false
section
namespace Go.Ev
section
variable (C : Cx) (tb : Tab) (cs : CS)
def b3m (H:A9) (t:TypeId) (a v:V):Option (A6×Box×Prop):=match a with
 | .ptr n off=>match H n,L1 C t with
  | some (.bools u kk),some k=>bif j0 v&&k==1 then some (n, .bools u kk,off<kk) else none
  | some (.blob u kk lo hi),some k=>bif j0 v&&k==1 then some (n, .blob u kk lo hi,off<kk) else none
  | _,_=>none
 | _=>none
def d5m (s:St) (o:Oper):Option (A6×Box×Prop):=match o.op with
 | .store t a x=>match E8 C s.F a,E8 C s.F x with
  | some va,some v=>b3m C s.H t va v
  | _,_=>none
 | _=>none
def b4q (y:Bool) (s:St) (dst:Option Nat) (x:V×A9) (k:St→Prop):Prop:=match B5 x.2 x.1 with
 | .d u=>a4v s dst (.d u) k
 | v=>match dst with
  | none=>False
  | some d=>go (bif y then a5b s d v x.2 else a5b (s.age d) d v x.2) k
def e9h (y:Bool) (s:St) (o:Oper) (k:St→Prop):Option Prop:=match o.op with
 | .call c=>match c.callee with
  | .value f=>match E8 C s.F f,M9 C s.F c.args.toList with
   | some (.fn (.func K) first cap),some args=>match C.ext K,C.prim K with
    | none,none=>match (bif C.keep K then none else a2k s.H (first++args++cap)) with
     | some ds=>match cs.cq K (ds.map .d) A9.empty with
      | some (p,c,x,z)=>some (p∧(bif c then b4q y s o.dst x k else b4q y s o.dst z k))
      | none=>none
     | none=>match o.dst with
      | none=>none
      | some d=>match cs.cq K (u3 upN (bif y then first++args++cap else u3 (age d) (first++args++cap))) ((bif y then s else s.age d).H.ren upN b8z) with
       | some (p,c,x,z)=>some (p∧(bif c then a4v ((bif y then s else s.age d).with (x.2.ren (d5 d) (S9 d))) (some d) (x.1.ren (d5 d)) k else a4v ((bif y then s else s.age d).with (z.2.ren (d5 d) (S9 d))) (some d) (z.1.ren (d5 d)) k))
       | none=>none
    | _,_=>none
   | _,_=>none
  | _=>none
 | _=>none
def c4x (y:Bool) (o:Oper) (s:St) (K:St→Prop):Prop:=match d5m C s o with
 | some (n,b,p)=>p∧a4v ⟨s.N,s.F,s.H.set n b⟩ o.dst L8 K
 | none=>match f2i C tb (E8 C s.F) s.H o with
  | some (v,none)=>a4v s o.dst v K
  | some (v,some p)=>p∧a4v s o.dst v K
  | none=>match e9h C cs y s o K with
   | some p=>p
   | none=>c6b C y cs.call o s K
def a6m (ops:Array Oper):List Oper→St→(St→Prop)→Prop
 | [],s,K=>K s
 | o::rest,s,K=>match o.guard with
  | some _=>d8f ops o s fun b s=>match b with
   | true=>c4x C tb cs false o s fun s=>a6m ops rest s K
   | false=>a4v s o.dst L8 fun s=>a6m ops rest s K
  | none=>c4x C tb cs false o s fun s=>a6m ops rest s K
def s7 (o:Oper):Bool:=match o.op with
 | .move _ | .assign _ | .load .. | .nilCheck _ | .unOp .. | .build .. | .convert .. | .fieldAddr .. | .field .. | .extract .. | .index .. | .indexAddr .. | .slice .. | .binOp .. | .pick .. =>true
 | .call c=>match c.callee with
  | .builtin .len | .builtin .min | .builtin .max=>true
  | .value (.func K)=>match tb K with|some _=>true|none=>false
  | _=>false
 | _=>false
def f3b (l:List Oper):List Oper:=l.takeWhile fun o=>b7a o.guard
def a4m (l:List Oper):List Oper:=l.dropWhile fun o=>b7a o.guard
def a8g:V→Bool
 | .any=>false
 | _=>true
def d5n (H:A9) (t:TypeId) (a v:V) (K:A9→Prop):Prop:=match b3m C H t a v with
 | some (n,b,p)=>p∧K (H.set n b)
 | none=>go (Q0 C H t a v) K
def a5o (o:Oper) (s:St) (K:St→Prop):Prop:=match o.op,o.dst,o.guard with
 | .store t a x,none,none=>match E8 C s.F a,E8 C s.F x with
  | some va,some vx=>bif a8g va&&a8g vx then d5n C s.H t va vx (fun H=>K (s.with H)) else False
  | _,_=>False
 | _,_,_=>False
def a6d:Oper→Bool
 | {op:=.store ..,dst:=none,guard:=none, .. }=>true
 | _=>false
def a5r (inLoop:Bool) (ops:Array Oper) (s:St) (K:St→Prop):Prop :=
 bif (a4m ops.toList).all (s7 tb)&& !(M0 ops.toList) then
  a6m C tb cs ops (f3b ops.toList) (bif inLoop then Y1 s ops.toList else s) fun s1=>match a4m ops.toList with
   | []=>K s1
   | _::_=>b2a C tb ops (a4m ops.toList) s1 (fun _=>[]) [] K
 else bif (a4m ops.toList).dropLast.all (s7 tb)&&(!(M0 ops.toList)&&(match (a4m ops.toList).getLast? with|some o=>a6d o|none=>false)) then
  a6m C tb cs ops (f3b ops.toList) (bif inLoop then Y1 s ops.toList else s) fun s1=>match (a4m ops.toList).getLast? with
   | some o=>b2a C tb ops (a4m ops.toList).dropLast s1 (fun _=>[]) [] fun s2=>a5o C o s2 K
   | none=>False
 else a6m C tb cs ops ops.toList (bif inLoop then Y1 s ops.toList else s) fun s'=>K (bif M0 ops.toList then s'.with (d6 s'.H) else s')
def c5d (ops:Array Oper):List Oper→St→(St→List FP→Prop)→Prop
 | [],s,K=>K s []
 | o::l,s,K=>match o.guard with
  | some _=>d8f ops o s fun b s=>match b with
   | true=>c4x C tb cs true o s fun s'=>c5d ops l s' fun r fs=>K r (J1 C cs.call ops.toList o s s'::fs)
   | false=>a4v s o.dst L8 fun s'=>c5d ops l s' fun r fs=>K r (⟨[], [],false, []⟩::fs)
  | none=>c4x C tb cs true o s fun s'=>c5d ops l s' fun r fs=>K r (J1 C cs.call ops.toList o s s'::fs)
def c8b (ops:Array Oper) (s:St) (K:St→Prop):Prop :=
 bif V9 ops&&(j7 ops&&a4i ops.toList) then
  c5d C tb cs ops ops.toList (N8 s ops.toList) fun s' fs=>bif d4n ops fs then K (bif M0 ops.toList then s'.with (d6 s'.H) else s') else False
 else False
def c7m (ops:Array Oper):Bool:=ops.toList.dropLast.all (s7 tb)&&(!(M0 ops.toList)&&(a2s ops).all fun p=>Nat.blt p.1 (ops.size-1)&&Nat.blt p.2 (ops.size-1))
def c8c (ops:Array Oper) (s:St) (K:St→Prop):Prop:=match ops.toList.getLast? with
 | some o=>b2a C tb ops ops.toList.dropLast (N8 s ops.toList) (fun _=>[]) [] fun s1=>a5o C o s1 K
 | none=>False
def b4z (ops:Array Oper) (s:St) (K:St→Prop):Prop :=
 bif V9 ops&&(j7 ops&&a4i ops.toList)&&(c7m tb ops&&(match ops.toList.getLast? with|some o=>a6d o|none=>false)) then c8c C tb ops s K else
 bif V9 ops&&(j7 ops&&a4i ops.toList)&&(ops.toList.all (s7 tb)&& !(M0 ops.toList)) then b2a C tb ops ops.toList (N8 s ops.toList) (fun _=>[]) [] K
 else c8b C tb cs ops s K
def b5o (l:List (A6×Nat)) (s:St) (K:St→Prop):Prop:=match l with
 | []=>K s
 | (n,i)::r=>match s.H n with
  | some (.cells u cs)=>match cs[i]? with
   | some (.opt m off)=>b5o r ⟨s.N,s.F,s.H.set n (.cells u (cs.set i (.d (.lit (.pointer none)))))⟩ K∧b5o r ⟨s.N,s.F,s.H.set n (.cells u (cs.set i (.ptr m off)))⟩ K
   | _=>b5o r s K
  | _=>False
def d9z (k:Nat):List (List Nat×List (A6×A6))→St→(St→Prop)→Prop
 | [],s,K=>K s
 | c::r,s,K=>go (u9 k c.1 c.2 s) fun p=>d9z k r (stN s.N c.1 (U0 c.2) p.1 p.2) K
def f4w (k:Nat) (ads:List Ad) (c:List (List Nat×List (A6×A6))) (s:St) (K:St→Prop):Prop:=go (s9 ads s) fun s=>d9z k c s K
def d8n (k:Nat) (S:Spec) (s:St) (K:X→St→Prop):Prop :=
 go (s9 S.ads s) fun s=>go (u9 k S.L S.ns s) fun p=>S.G s.N p.1 p.2 fun x vs bs=>K x (stO s.N S vs bs)
def d7g (x y:Code):Nat:=bif a5a x==0 then 2*a5a y+1 else 2*a5a x+1
def P5 (k:Nat) (sp:Nat→Option Spec) (hn:Nat→Option a2e) (inLoop:Bool):Code→St→(X→St→Prop)→Prop
 | .skip,s,K=>K .normal s
 | .region id ops draw,s,K=>match hn id with
  | none=>bif draw then b4z C tb cs ops s (K .normal) else a5r C tb cs inLoop ops s (K .normal)
  | some h=>b5o h.split s fun s=>bif draw then b4z C tb cs ops s (fun s=>f4w k h.ads h.cut s (K .normal)) else a5r C tb cs inLoop ops s (fun s=>f4w k h.ads h.cut s (K .normal))
 | .seq a b,s,K=>P5 k sp hn inLoop a s fun x s'=>match x with
  | .normal=>P5 k sp hn inLoop b s' K
  | x=>K x s'
 | .cond c x y,s,K=>match sp (d7g x y) with
  | some S=>d8n k S s K
  | none=>match E8 C s.F c with
   | some (.d (.lit (.bool t)))=>bif t then P5 k sp hn inLoop x (e7v s c true) K else P5 k sp hn inLoop y (e7v s c false) K
   | _=>False
 | .block id c,s,K=>P5 k sp hn inLoop c s fun x s'=>match x with
  | .exit i=>bif i==id then K .normal s' else K (.exit i) s'
  | x=>K x s'
 | .loop c,s,K=>match sp (2*a5a c) with
  | some S=>d8n k S s K
  | none=>False
 | .exit id,s,K=>K (.exit id) s
 | .ret,s,K=>K .ret s
 | _,_,_=>False
def J3:Bool→Code→List (Nat×Bool×Code)
 | il, .seq a b=>J3 il a++J3 il b
 | il, .block _ c=>J3 il c
 | il, .loop c=>[(2*a5a c,il, .loop c)]
 | il, .cond c a b=>(d7g a b,il, .cond c a b)::(J3 il a++J3 il b)
 | _,_=>[]
end
def v7 (C:Cx) (k:Nat) (sp:Nat→Option Spec) (l:List (Nat×Bool×Code)):Prop :=
 ∀p∈l,∀S,sp p.1=some S→∀N vals bs K,S.G N vals bs K→T C k p.2.2 (stN N S.L (U0 S.ns) vals bs) fun x s'=>∃vs bs',s'=stO N S vs bs'∧K x vs bs'
section
variable {C : Cx} {tb : Tab} {cs : CS} {k : Nat} {s s' q : St}
theorem a5z {A:Ann} {gs:List Nat} (U:a7a q s A gs):a4f C k q (w9 s A):=fun g a w R z=>by
 have hH:(w9 s A).H=q.H:=U.H.symm
 refine ⟨by rw[hH];exact z,g,⟨by rw[R.size];exact U.N,fun t=>?_,by rw[hH];exact R.heap,R.globs,R.defers⟩, .refl _ _,by rw[hH];exact .refl _ _⟩
 rw[hH]
 unfold w9
 simp only[]
 cases hA:A t with
 | nil =>
  simp only[]
  have:=U.yes t (by rw[hA];rfl)
  rw[←this];exact R.slots t
 | cons p r=>exact .any
theorem r9 {y:Bool} {ops:Array Oper}:∀{l m:List Oper} {s s1 s2:St},N6 C y cs.call ops l s=some s1→N6 C y cs.call ops m s1=some s2→N6 C y cs.call ops (l++m) s=some s2
 | [],m,s,s1,s2,h1,h2=>by simp[N6] at h1;subst h1;exact h2
 | o::l,m,s,s1,s2,h1,h2=>by
  simp only[List.cons_append,N6] at h1 ⊢
  split at h1
  ·
   rename_i hw
   split at h1
   ·
    exact r9 h1 h2
   ·
    cases h1
  ·
   rename_i hw
   split at h1
   ·
    exact r9 h1 h2
   ·
    cases h1
  ·
   cases h1
theorem e9g {y:Bool} {o:Oper} {K:St→Prop} {p:Prop} (h:e9h C cs y s o K=some p) (hp:p):∃s',C3 C y cs.call o s=some s'∧K s':=by
 obtain ⟨dst,op,type,pos,after,guard⟩:=o
 unfold e9h at h
 cases op with
 | call c =>
  obtain ⟨callee,cargs,tys⟩:=c
  cases callee with
  | value f =>
   simp only[] at h
   split at h
   case h_2=>cases h
   rename_i F first cap args hf ha
   split at h
   case h_2=>cases h
   rename_i he hpr
   split at h
   ·
    rename_i ds hds
    split at h
    case h_2=>cases h
    rename_i p0 c0 x0 z0 hq
    simp only[Option.some.injEq] at h
    subst h
    obtain ⟨hp0,hp⟩:=hp
    have hcall:=cs.ok _ _ _ _ _ _ _ hq hp0
    have hp:b4q y s dst (bif c0 then x0 else z0) K:=by cases c0<;>exact hp
    generalize (bif c0 then x0 else z0)=res at hp hcall
    obtain ⟨r,Hc⟩:=res
    unfold b4q at hp
    simp only[C3,ha,hf,L4,he,hpr,hds,hcall]
    split at hp
    ·
     rename_i x hx
     rw[a2g] at hp
     obtain ⟨s1,h1,h2⟩:=F2 hp
     simp only[] at hx
     rw[hx]
     exact ⟨s1,h1,h2⟩
    ·
     rename_i v hne
     cases dst with
     | none=>exact hp.elim
     | some d =>
      simp only[] at hp
      obtain ⟨s1,h1,h2⟩:=F2 hp
      refine ⟨s1, ?_,h2⟩
      rw[←h1]
      split
      ·
       rename_i x hx;exact absurd hx (hne x)
      ·
       rfl
   ·
    rename_i hds
    cases dst with
    | none=>cases h
    | some d =>
     simp only[] at h
     split at h
     case h_2=>cases h
     rename_i p0 c0 x0 z0 hq
     simp only[Option.some.injEq] at h
     subst h
     obtain ⟨hp0,hp⟩:=hp
     have hcall:=cs.ok _ _ _ _ _ _ _ hq hp0
     have hp:a4v ((bif y then s else s.age d).with ((bif c0 then x0 else z0).2.ren (d5 d) (S9 d))) (some d) ((bif c0 then x0 else z0).1.ren (d5 d)) K:=by cases c0<;>exact hp
     generalize (bif c0 then x0 else z0)=res at hp hcall
     obtain ⟨r,Hc⟩:=res
     rw[a2g] at hp
     obtain ⟨s1,h1,h2⟩:=F2 hp
     refine ⟨s1, ?_,h2⟩
     simp only[C3,ha,hf,L4,he,hpr,hds]
     cases y with
     | true =>
      simp only[cond_true] at hcall h1 ⊢
      simp only[X3,hcall]
      exact h1
     | false =>
      simp only[cond_false] at hcall h1 ⊢
      simp only[X3,hcall]
      exact h1
  | _=>simp only[] at h;cases h
 | _=>simp only[] at h;cases h
theorem b6t {H:A9} {t:TypeId} {a v:V} {n:A6} {b:Box} {p:Prop} (h:b3m C H t a v=some (n,b,p)) (hp:p):Q0 C H t a v=some (H.set n b):=by
 unfold b3m at h
 split at h
 ·
  rename_i m off
  split at h
  ·
   rename_i u kk k hb hk
   cases hc:(j0 v&&k==1) with
   | false=>rw[hc] at h;cases h
   | true =>
    rw[hc] at h
    simp only[cond_true,Option.some.injEq,Prod.mk.injEq] at h
    obtain ⟨rfl,rfl,rfl⟩:=h
    have hlt:Nat.blt off kk=true:=by simpa [Nat.blt_eq] using hp
    simp only[Q0,hb,hk,hc,hlt,Bool.and_self,cond_true]
  ·
   rename_i u kk lo hi k hb hk
   cases hc:(j0 v&&k==1) with
   | false=>rw[hc] at h;cases h
   | true =>
    rw[hc] at h
    simp only[cond_true,Option.some.injEq,Prod.mk.injEq] at h
    obtain ⟨rfl,rfl,rfl⟩:=h
    simp only[Bool.and_eq_true,beq_iff_eq] at hc
    obtain ⟨hbv,rfl⟩:=hc
    have hlt:Nat.ble (off+1) kk=true:=by rw[Nat.ble_eq];exact hp
    have hcl:v.cells= [v]∧V7 v=true:=by
     unfold j0 at hbv
     split at hbv
     ·
      exact ⟨rfl,rfl⟩
     ·
      exact ⟨rfl,rfl⟩
     ·
      cases hbv
    have hok:a7f lo hi off [v]=true:=by
     simp only[a7f,Bool.and_true]
     cases (Nat.ble lo off&&Nat.blt off hi) with
     | true=>exact hbv
     | false=>rfl
    simp only[Q0,hb,hk,hcl.1,hcl.2,hok,hlt,List.length_singleton,beq_self_eq_true,Bool.and_self,cond_true]
  ·
   cases h
 ·
  cases h
theorem b6u {H:A9} {t:TypeId} {a v:V} {K:A9→Prop} (h:d5n C H t a v K):∃H2,Q0 C H t a v=some H2∧K H2:=by
 unfold d5n at h
 split at h
 ·
  rename_i n b p hs
  exact ⟨_,b6t hs h.1,h.2⟩
 ·
  exact F2 h
theorem e2r {o:Oper} {n:A6} {b:Box} {p:Prop} (h:d5m C s o=some (n,b,p)) (hp:p) {y:Bool}:C3 C y cs.call o s=St.put ⟨s.N,s.F,s.H.set n b⟩ o.dst L8:=by
 obtain ⟨dst,op,type,pos,after,guard⟩:=o
 unfold d5m at h
 cases op with
 | store t a x =>
  simp only[] at h
  split at h
  ·
   rename_i va v ha hx
   simp only[C3,ha,hx,b6t h hp]
   rfl
  ·
   cases h
 | _=>simp only[] at h;cases h
theorem a8x (hE:Has C tb) {y:Bool} {o:Oper} {s:St} {K:St→Prop} (h:c4x C tb cs y o s K):∃s',C3 C y cs.call o s=some s'∧K s':=by
 unfold c4x at h
 split at h
 ·
  rename_i n b p hsp
  obtain ⟨hp,h⟩:=h
  rw[a2g] at h
  obtain ⟨s1,h1,h⟩:=F2 h
  have:C3 C y cs.call o s=St.put ⟨s.N,s.F,s.H.set n b⟩ o.dst L8:=e2r hsp hp
  exact ⟨s1,this.trans h1,h⟩
 split at h
 ·
  rename_i v hv
  rw[a2g] at h
  obtain ⟨s1,h1,h⟩:=F2 h
  have:=c6r (y:=y) (call:=cs.call) hE (fun x v hx=>hx) hv (fun P hP=>by cases hP)
  exact ⟨s1,this.trans h1,h⟩
 ·
  rename_i v p hv
  obtain ⟨hp,h⟩:=h
  rw[a2g] at h
  obtain ⟨s1,h1,h⟩:=F2 h
  have:=c6r (y:=y) (call:=cs.call) hE (fun x v hx=>hx) hv (fun P hP=>by cases hP;exact hp)
  exact ⟨s1,this.trans h1,h⟩
 ·
  split at h
  ·
   rename_i p hq
   exact e9g hq h
  ·
   exact e4j C h
theorem m7 (hE:Has C tb) {ops:Array Oper}:∀{l:List Oper} {s:St} {K:St→Prop},a6m C tb cs ops l s K→∃s',N6 C false cs.call ops l s=some s'∧K s'
 | [],s,K,h=>⟨s,rfl,h⟩
 | o::l,s,K,h=>by
  unfold a6m at h
  unfold N6
  split at h
  ·
   rw[c9a] at h
   obtain ⟨b,hb,h⟩:=F2 h
   rw[hb]
   cases b with
   | true =>
    obtain ⟨s1,h1,h⟩:=a8x hE h
    simp only[h1]
    exact m7 hE h
   | false =>
    simp only[] at h ⊢
    rw[a2g] at h
    obtain ⟨s1,h1,h⟩:=F2 h
    simp only[h1]
    exact m7 hE h
  ·
   rename_i hg
   have hw:H9 ops o s.F=some true:=by unfold H9;rw[hg]
   rw[hw]
   obtain ⟨s1,h1,h⟩:=a8x hE h
   simp only[h1]
   exact m7 hE h
theorem c2b (l:List Oper):f3b l++a4m l=l:=List.takeWhile_append_dropWhile
theorem a4o {A:Ann} {gs:List Nat} {q s:St} (U:a7a q s A gs) {x:Operand} {v:V} (h:E8 C (w9 s A).F x=some v) (hk:a8g v=true):E8 C q.F x=some v:=by
 cases x with
 | tmp t =>
  simp only[E8,Option.some.injEq] at h ⊢
  subst h
  unfold w9 at hk ⊢
  simp only[] at hk ⊢
  cases hA:A t with
  | nil=>exact U.yes t (by rw[hA];rfl)
  | cons p r=>rw[hA] at hk;simp[a8g] at hk
 | const u=>exact h
 | global g=>exact h
 | func f=>exact h
theorem c7k {A:Ann} {gs:List Nat} {q s:St} (U:a7a q s A gs) {ops:Array Oper} {o:Oper} {K:St→Prop} (h:a5o C o (w9 s A) K) :
  ∃H2,(∀y,N6 C y cs.call ops [o] q=some (q.with H2))∧a7a (q.with H2) (s.with H2) A gs∧K ((w9 s A).with H2):=by
 unfold a5o at h
 split at h
 case h_2=>exact h.elim
 rename_i t a x hop hdst hg
 split at h
 case h_2=>exact h.elim
 rename_i va vx ha hx
 cases hk:(a8g va&&a8g vx) with
 | false=>rw[hk] at h;exact h.elim
 | true =>
  rw[hk] at h
  simp only[cond_true] at h
  simp only[Bool.and_eq_true] at hk
  obtain ⟨H2,e4,e5⟩:=b6u h
  have ha':=a4o U ha hk.1
  have hx':=a4o U hx hk.2
  have hH:(w9 s A).H=q.H:=U.H.symm
  rw[hH] at e4
  refine ⟨H2,fun y=>?_,⟨U.N,rfl,U.yes,U.no,U.has⟩,e5⟩
  unfold N6 H9
  rw[hg]
  obtain ⟨dst,op,type,pos,after,guard⟩:=o
  simp only at hop hdst hg
  subst hop hdst hg
  simp only[C3,ha',hx',e4]
  rfl
theorem c4m (hE:Has C tb) {il:Bool} {ops:Array Oper} {K:St→Prop} (h:a5r C tb cs il ops s K):∃s',U4 C cs.call il ops s=some s'∧∃s2,a4f C k s' s2∧K s2:=by
 unfold a5r at h
 unfold U4
 cases hc:((a4m ops.toList).all (s7 tb)&& !(M0 ops.toList)) with
 | true =>
  rw[hc] at h
  simp only[cond_true] at h
  simp only[Bool.and_eq_true,Bool.not_eq_true'] at hc
  obtain ⟨s1,h1,h2⟩:=m7 hE h
  cases hp:a4m ops.toList with
  | nil =>
   rw[hp] at h2
   have he:f3b ops.toList=ops.toList:=by have:=c2b ops.toList;rw[hp] at this;simpa using this
   rw[he] at h1
   rw[h1]
   exact ⟨_,rfl,s1,by rw[hc.2];exact .refl,h2⟩
  | cons o r =>
   rw[hp] at h2
   simp only[] at h2
   rw[←hp] at h2
   obtain ⟨q',s',A',gs',e1,e2,e3⟩:=a5m hE (y:=false) (call:=cs.call) (q:=s1) ⟨rfl,rfl,fun _ _=>rfl,fun t ht=>by simp[L3] at ht,fun t p hp=>by simp at hp⟩ h2
   have:=r9 h1 e1
   rw[c2b] at this
   rw[this]
   exact ⟨_,rfl,_,by rw[hc.2];exact a5z e2,e3⟩
 | false =>
  rw[hc] at h
  simp only[cond_false] at h
  cases hl:((a4m ops.toList).dropLast.all (s7 tb)&&(!(M0 ops.toList)&&(match (a4m ops.toList).getLast? with|some o=>a6d o|none=>false))) with
  | true =>
   rw[hl] at h
   simp only[cond_true] at h
   simp only[Bool.and_eq_true,Bool.not_eq_true'] at hl
   obtain ⟨s1,h1,h2⟩:=m7 hE h
   split at h2
   case h_2=>exact h2.elim
   rename_i o ho
   obtain ⟨q',s',A',gs',e1,e2,e3⟩:=a5m hE (y:=false) (call:=cs.call) (q:=s1) ⟨rfl,rfl,fun _ _=>rfl,fun t ht=>by simp[L3] at ht,fun t p hp=>by simp at hp⟩ h2
   obtain ⟨H2,e4,e5,e6⟩:=c7k (cs:=cs) (ops:=ops) e2 e3
   have hsp:(a4m ops.toList).dropLast++ [o]=a4m ops.toList:=by obtain ⟨ys,hy⟩:=List.getLast?_eq_some_iff.1 ho;rw[hy];simp
   have:=r9 h1 (r9 e1 (e4 false))
   rw[hsp,c2b] at this
   rw[this]
   exact ⟨_,rfl,_,by rw[hl.2.1];exact a5z e5,e6⟩
  | false =>
  rw[hl] at h
  simp only[cond_false] at h
  obtain ⟨s1,h1,h2⟩:=m7 hE h
  rw[h1]
  exact ⟨_,rfl,_, .refl,h2⟩
theorem a8y (hE:Has C tb) {ops:Array Oper}:∀{l:List Oper} {s:St} {K:St→List FP→Prop},c5d C tb cs ops l s K→∃r,a3p C cs.call ops l s=some r∧K r.1 r.2
 | [],s,K,h=>⟨(s, []),rfl,h⟩
 | o::l,s,K,h=>by
  unfold c5d at h
  unfold a3p Z8 fpY
  split at h
  ·
   rw[c9a] at h
   obtain ⟨b,hb,h⟩:=F2 h
   rw[hb]
   cases b with
   | true =>
    obtain ⟨s1,h1,h⟩:=a8x hE h
    obtain ⟨r,h2,h3⟩:=a8y hE h
    simp only[h1,h2]
    exact ⟨_,rfl,h3⟩
   | false =>
    simp only[] at h ⊢
    rw[a2g] at h
    obtain ⟨s1,h1,h⟩:=F2 h
    obtain ⟨r,h2,h3⟩:=a8y hE h
    simp only[h1,h2]
    exact ⟨_,rfl,h3⟩
  ·
   rename_i hg
   have hw:H9 ops o s.F=some true:=by unfold H9;rw[hg]
   rw[hw]
   obtain ⟨s1,h1,h⟩:=a8x hE h
   obtain ⟨r,h2,h3⟩:=a8y hE h
   simp only[h1,h2]
   exact ⟨_,rfl,h3⟩
theorem d3v (hE:Has C tb) {il:Bool} {ops:Array Oper} {K:St→Prop} (h:c8b C tb cs ops s K):∃s',Y0 C cs.call il ops s=some s'∧K s':=by
 unfold c8b at h
 unfold Y0
 cases hc:(V9 ops&&(j7 ops&&a4i ops.toList)) with
 | false=>rw[hc] at h;exact h.elim
 | true =>
  rw[hc] at h
  obtain ⟨⟨r,fs⟩,h1,h2⟩:=a8y hE h
  simp only[cond_true,h1] at h2 ⊢
  cases hd:d4n ops fs with
  | false=>rw[hd] at h2;exact h2.elim
  | true =>
   rw[hd] at h2
   have e:((a2s ops).all fun p=>match fs[p.1]?,fs[p.2]? with|some x,some y=>a6f x y|_,_=>false)=true:=hd
   refine ⟨_, ?_,h2⟩
   exact (congrArg (fun b=>bif b then some (bif M0 ops.toList then r.with (d6 r.H) else r) else none) e)
theorem f5a (hE:Has C tb) {l:List Oper} {o:Oper} {s s':St} (h:s7 tb o=true) (hv:C3 C true cs.call o s=some s'):(J1 C cs.call l o s s').d= []∧(J1 C cs.call l o s s').all=false:=by
 obtain ⟨dst,op,type,pos,after,guard⟩:=o
 cases op with
 | call c =>
  obtain ⟨callee,cargs,tys⟩:=c
  cases callee with
  | builtin b=>cases b<;>first|exact ⟨rfl,rfl⟩ | (simp[s7] at h)
  | value f =>
   cases f with
   | func K =>
    simp only[s7] at h
    split at h
    ·
     rename_i c hc
     unfold J1
     simp only[E8]
     cases ha:M9 C s.F cargs.toList with
     | none=>simp[C3,ha] at hv
     | some args =>
      have:Z9 C cs.call s.H K ([]++args++ [])=true:=by
       unfold Z9
       rw[hE K,hc]
      simp only[this,cond_true]
      exact ⟨trivial,trivial⟩
    ·
     cases h
   | _=>simp[s7] at h
  | invoke a b=>simp[s7] at h
 | slice t x lo hi mx=>exact ⟨rfl,rfl⟩
 | _=>first|exact ⟨rfl,rfl⟩ | (simp[s7] at h)
theorem a6j (hE:Has C tb) {ops:Array Oper}:∀{l:List Oper} {q q':St},l.all (s7 tb)=true→N6 C true cs.call ops l q=some q'→∃fs,a3p C cs.call ops l q=some (q',fs)∧∀x∈fs,x.d= []∧x.all=false
 | [],q,q',_,h=>by simp[N6] at h;subst h;exact ⟨[],rfl,fun x hx=>by cases hx⟩
 | o::l,q,q',hc,h=>by
  simp only[List.all_cons,Bool.and_eq_true] at hc
  unfold N6 at h
  unfold a3p Z8
  split at h
  ·
   rename_i hw
   split at h
   ·
    rename_i s1 h1
    obtain ⟨fs,h2,h3⟩:=a6j hE hc.2 h
    refine ⟨fpY C cs.call ops o q s1::fs,by simp only[h2],fun x hx=>?_⟩
    rcases List.mem_cons.1 hx with rfl|hx
    ·
     unfold fpY;rw[hw];exact f5a hE hc.1 h1
    ·
     exact h3 x hx
   ·
    cases h
  ·
   rename_i hw
   split at h
   ·
    rename_i s1 h1
    obtain ⟨fs,h2,h3⟩:=a6j hE hc.2 h
    refine ⟨fpY C cs.call ops o q s1::fs,by simp only[h2],fun x hx=>?_⟩
    rcases List.mem_cons.1 hx with rfl|hx
    ·
     unfold fpY;rw[hw];exact ⟨rfl,rfl⟩
    ·
     exact h3 x hx
   ·
    cases h
  ·
   cases h
theorem d7e {ops:Array Oper} {fs:List FP} (hl:fs.length=ops.size) (h:∀x∈fs,x.d= []∧x.all=false) (hp:∀p∈a2s ops,p.1<ops.size∧p.2<ops.size):d4n ops fs=true:=by
 unfold d4n
 refine List.all_eq_true.2 fun p hp'=>?_
 obtain ⟨h1,h2⟩:=hp p hp'
 rw[←hl] at h1 h2
 rw[List.getElem?_eq_getElem h1,List.getElem?_eq_getElem h2]
 simp only[]
 obtain ⟨d1,a1⟩:=h _ (List.getElem_mem h1)
 obtain ⟨d2,a2⟩:=h _ (List.getElem_mem h2)
 unfold a6f e4u e9a
 simp[d1,a1,d2,a2,clear]
theorem c7c {ops:Array Oper} {p:Nat×Nat} (h:p∈a3j ops):p.1<ops.size∧p.2<ops.size:=by
 unfold a3j at h
 obtain ⟨b,hb,hp⟩:=List.mem_flatMap.1 h
 obtain ⟨a,ha,hp⟩:=List.mem_filterMap.1 hp
 have hb':=List.mem_range.1 hb
 have ha':=List.mem_range.1 ha
 cases ht:((Region.before ops).getD b 0).testBit a with
 | true=>rw[ht] at hp;cases hp
 | false =>
  rw[ht] at hp
  simp only[cond_false,Option.some.injEq] at hp
  subst hp
  exact ⟨by simp only[];omega,hb'⟩
theorem b9u {ops:Array Oper}:∀{l:List Oper} {q r:St} {fs:List FP},a3p C cs.call ops l q=some (r,fs)→fs.length=l.length
 | [],q,r,fs,h=>by simp[a3p] at h;rw[h.2];rfl
 | o::l,q,r,fs,h=>by
  unfold a3p at h
  split at h
  ·
   split at h
   ·
    rename_i r' fs' h2
    simp only[Option.some.injEq,Prod.mk.injEq] at h
    rw[←h.2];simp[b9u h2]
   ·
    cases h
  ·
   cases h
theorem c5c {ops:Array Oper} {o:Oper} {q2 q3:St} (ho:Z8 C cs.call ops o q2=some q3):∀{l:List Oper} {q:St} {fs:List FP},a3p C cs.call ops l q=some (q2,fs)→a3p C cs.call ops (l++ [o]) q=some (q3,fs++ [fpY C cs.call ops o q2 q3])
 | [],q,fs,h=>by
  simp only[a3p,Option.some.injEq,Prod.mk.injEq] at h
  obtain ⟨rfl,rfl⟩:=h
  simp[a3p,ho]
 | p::l,q,fs,h=>by
  unfold a3p at h
  rw[List.cons_append]
  split at h
  ·
   rename_i s1 h1
   simp only[a3p,h1]
   split at h
   ·
    rename_i r fs' h2
    simp only[Option.some.injEq,Prod.mk.injEq] at h
    obtain ⟨rfl,rfl⟩:=h
    rw[c5c ho h2]
    rfl
   ·
    cases h
  ·
   cases h
theorem d3w (hE:Has C tb) {il:Bool} {ops:Array Oper} {K:St→Prop} (hc:(V9 ops&&(j7 ops&&a4i ops.toList))=true) (hl:c7m tb ops=true) (h:c8c C tb ops s K):∃s',Y0 C cs.call il ops s=some s'∧∃s2,a4f C k s' s2∧K s2:=by
 unfold c8c at h
 split at h
 case h_2=>exact h.elim
 rename_i o ho
 unfold c7m at hl
 simp only[Bool.and_eq_true,Bool.not_eq_true'] at hl
 obtain ⟨c4,c5,c6⟩:=hl
 have hsp:ops.toList.dropLast++ [o]=ops.toList:=by obtain ⟨ys,hy⟩:=List.getLast?_eq_some_iff.1 ho;rw[hy];simp
 obtain ⟨q',s',A',gs',e1,e2,e3⟩:=a5m hE (y:=true) (call:=cs.call) (q:=N8 s ops.toList) ⟨rfl,rfl,fun _ _=>rfl,fun t ht=>by simp[L3] at ht,fun t p hp=>by simp at hp⟩ h
 obtain ⟨fs,h1,h2⟩:=a6j hE c4 e1
 unfold a5o at e3
 split at e3
 case h_2=>exact e3.elim
 rename_i t a x hop hdst hg
 split at e3
 case h_2=>exact e3.elim
 rename_i va vx ha hx
 cases hk:(a8g va&&a8g vx) with
 | false=>rw[hk] at e3;exact e3.elim
 | true =>
  rw[hk] at e3
  simp only[cond_true] at e3
  simp only[Bool.and_eq_true] at hk
  obtain ⟨H2,e4,e5⟩:=b6u e3
  have ha':=a4o e2 ha hk.1
  have hx':=a4o e2 hx hk.2
  have hH:(w9 s' A').H=q'.H:=e2.H.symm
  rw[hH] at e4
  have hst:Z8 C cs.call ops o q'=some (q'.with H2):=by
   unfold Z8 H9
   rw[hg]
   obtain ⟨dst,op,type,pos,after,guard⟩:=o
   simp only at hop hdst hg
   subst hop hdst hg
   simp only[C3,ha',hx',e4]
   rfl
  have hr:=c5c hst h1
  rw[hsp] at hr
  have U2:a7a (q'.with H2) (s'.with H2) A' gs':=⟨e2.N,rfl,e2.yes,e2.no,e2.has⟩
  refine ⟨q'.with H2, ?_,(w9 s' A').with H2,a5z U2,e5⟩
  unfold Y0
  rw[hc]
  simp only[cond_true,hr]
  have hlen:fs.length=ops.size-1:=by rw[b9u h1];simp
  have e:((a2s ops).all fun p=>match (fs++ [fpY C cs.call ops o q' (q'.with H2)])[p.1]?,(fs++ [fpY C cs.call ops o q' (q'.with H2)])[p.2]? with|some x,some y=>a6f x y|_,_=>false)=true:=by
   refine List.all_eq_true.2 fun p hp=>?_
   have:=List.all_eq_true.1 c6 p hp
   simp only[Bool.and_eq_true,Nat.blt_eq] at this
   have g1:p.1<fs.length:=by omega
   have g2:p.2<fs.length:=by omega
   rw[List.getElem?_append_left g1,List.getElem?_append_left g2,List.getElem?_eq_getElem g1,List.getElem?_eq_getElem g2]
   simp only[]
   obtain ⟨d1,a1⟩:=h2 _ (List.getElem_mem g1)
   obtain ⟨d2,a2⟩:=h2 _ (List.getElem_mem g2)
   unfold a6f e4u e9a
   simp[d1,a1,d2,a2,clear]
  have:=congrArg (fun b=>bif b then some (bif M0 ops.toList then (q'.with H2).with (d6 (q'.with H2).H) else (q'.with H2)) else none) e
  rw[c5] at this ⊢
  exact this
theorem d3u (hE:Has C tb) {il:Bool} {ops:Array Oper} {K:St→Prop} (h:b4z C tb cs ops s K):∃s',Y0 C cs.call il ops s=some s'∧∃s2,a4f C k s' s2∧K s2:=by
 unfold b4z at h
 cases hl:(V9 ops&&(j7 ops&&a4i ops.toList)&&(c7m tb ops&&(match ops.toList.getLast? with|some o=>a6d o|none=>false))) with
 | true =>
  rw[hl] at h
  simp only[Bool.and_eq_true] at hl
  exact d3w hE (by simp only[Bool.and_eq_true];exact hl.1) hl.2.1 h
 | false =>
 rw[hl] at h
 simp only[cond_false] at h
 cases hc:(V9 ops&&(j7 ops&&a4i ops.toList)&&(ops.toList.all (s7 tb)&& !(M0 ops.toList))) with
 | false =>
  rw[hc] at h
  obtain ⟨s',h1,h2⟩:=d3v hE (il:=il) h
  exact ⟨s',h1,s', .refl,h2⟩
 | true =>
  rw[hc] at h
  simp only[cond_true] at h
  simp only[Bool.and_eq_true,Bool.not_eq_true'] at hc
  obtain ⟨⟨c1,c2,c3⟩,c4,c5⟩:=hc
  obtain ⟨q',s',A',gs',e1,e2,e3⟩:=a5m hE (y:=true) (call:=cs.call) (q:=N8 s ops.toList) ⟨rfl,rfl,fun _ _=>rfl,fun t ht=>by simp[L3] at ht,fun t p hp=>by simp at hp⟩ h
  obtain ⟨fs,h1,h2⟩:=a6j hE c4 e1
  refine ⟨q', ?_,_,a5z e2,e3⟩
  unfold Y0
  have hst:(V9 ops&&(j7 ops&&a4i ops.toList))=true:=by simp[c1,c2,c3]
  rw[hst]
  simp only[cond_true,h1]
  have hd:d4n ops fs=true:=d7e (by rw[b9u h1];simp) h2 fun p hp=>c7c (List.mem_filter.1 hp).1
  have e:((a2s ops).all fun p=>match fs[p.1]?,fs[p.2]? with|some x,some y=>a6f x y|_,_=>false)=true:=hd
  have:=congrArg (fun b=>bif b then some (bif M0 ops.toList then q'.with (d6 q'.H) else q') else none) e
  rw[c5] at this ⊢
  exact this
theorem b3p {c:Code} {K:St→Prop} {Q:X→St→Prop} (hK:∀s,K s→T C k c s Q):∀{l:List (A6×Nat)} {s:St},b5o l s K→T C k c s Q
 | [],s,h=>hK s h
 | (n,i)::r,s,h=>by
  unfold b5o at h
  split at h
  ·
   rename_i u cs hb
   split at h
   ·
    rename_i m off hi
    exact f5m hb hi (b3p hK h.1) (b3p hK h.2)
   ·
    exact b3p hK h
  ·
   exact h.elim
theorem c3s {K:St→Prop}:∀{c:List (List Nat×List (A6×A6))} {s:St},d9z k c s K→∃s2,a4f C k s s2∧K s2
 | [],s,h=>⟨s, .refl,h⟩
 | c::r,s,h=>by
  unfold d9z at h
  obtain ⟨⟨vs,bs⟩,h2,h3⟩:=F2 h
  obtain ⟨s2,hw,hk⟩:=c3s h3
  have h1:a4f C k s _:=g9 h2
  exact ⟨s2,h1.trans hw,hk⟩
theorem e4v {ads:List Ad} {c:List (List Nat×List (A6×A6))} {K:St→Prop} (h:f4w k ads c s K):∃s2,a4f C k s s2∧K s2:=by
 unfold f4w at h
 obtain ⟨s1,h1,h⟩:=F2 h
 obtain ⟨s2,hw,hk⟩:=c3s (C:=C) h
 exact ⟨s2,(V4 h1).trans hw,hk⟩
theorem d8m {c:Code} {S:Spec} {K:X→St→Prop} (hS:∀N vals bs K,S.G N vals bs K→T C k c (stN N S.L (U0 S.ns) vals bs) fun x s'=>∃vs bs',s'=stO N S vs bs'∧K x vs bs') (h:d8n k S s K):T C k c s K:=by
 unfold d8n at h
 obtain ⟨s1,h1,h⟩:=F2 h
 obtain ⟨⟨vs,bs⟩,h2,h3⟩:=F2 h
 refine g3y ((V4 h1).trans (g9 h2)) (d7t (hS _ _ _ _ h3) ?_)
 rintro x s' ⟨vs',bs',rfl,hk⟩
 exact hk
theorem a5s (F:b6q C cs.call) (hE:Has C tb) {sp:Nat→Option Spec} {hn:Nat→Option a2e}:∀(c:Code) (il:Bool) (s:St) (K:X→St→Prop),v7 C k sp (J3 il c)→P5 C tb cs k sp hn il c s K→T C k c s K:=by
 intro c
 induction c with
 | skip=>intro il s K _ h;exact g3z h
 | region id ops draw =>
  intro il s K _ h
  unfold P5 at h
  have one:∀(s:St) (K':St→Prop) (Q:X→St→Prop),(∀s1,K' s1→∃s2,a4f C k s1 s2∧Q .normal s2)→(bif draw then b4z C tb cs ops s K' else a5r C tb cs il ops s K')→T C k (.region id ops draw) s Q:=by
   intro s K' Q hQ h
   cases draw with
   | true =>
    simp only[cond_true] at h
    obtain ⟨s1,h1,s2,hw,h2⟩:=d3u hE (il:=il) (k:=k) h
    refine b6o (K:=fun x s'=>x= .normal∧s'=s1) (d5d F (il:=il) (draw:=true) (by simpa using h1) ⟨rfl,rfl⟩) ?_
    rintro x s' ⟨rfl,rfl⟩
    obtain ⟨s3,hw3,h3⟩:=hQ s2 h2
    exact ⟨s3,hw.trans hw3,h3⟩
   | false =>
    simp only[cond_false] at h
    obtain ⟨s1,h1,s2,hw,h2⟩:=c4m hE (k:=k) h
    refine b6o (K:=fun x s'=>x= .normal∧s'=s1) (d5d F (il:=il) (draw:=false) (by simpa using h1) ⟨rfl,rfl⟩) ?_
    rintro x s' ⟨rfl,rfl⟩
    obtain ⟨s3,hw3,h3⟩:=hQ s2 h2
    exact ⟨s3,hw.trans hw3,h3⟩
  split at h
  ·
   exact one s _ K (fun s1 h1=>⟨s1, .refl,h1⟩) h
  ·
   rename_i hh _
   exact b3p (fun s hs=>one s _ K (fun s1 h1=>e4v h1) hs) h
 | seq a b ih1 ih2 =>
  intro il s K ok h
  unfold P5 at h
  have h1:=ih1 il s _ (fun p hp=>ok p (by simp[J3,hp])) h
  refine e9x (d7t h1 ?_)
  intro x s1 hx
  cases x with
  | normal=>exact ih2 il s1 K (fun p hp=>ok p (by simp[J3,hp])) hx
  | exit i=>exact hx
  | ret=>exact hx
 | cond c a b ih1 ih2 =>
  intro il s K ok h
  unfold P5 at h
  split at h
  ·
   rename_i S hS
   exact d8m (ok (d7g a b,il, .cond c a b) (by simp[J3]) S hS) h
  ·
   generalize hc:E8 C s.F c=v at h
   split at h
   ·
    rename_i t
    refine g4c hc ?_
    cases t with
    | true=>simp only[cond_true] at h ⊢;rw[d2u C hc] at h;exact ih1 il s K (fun p hp=>ok p (by simp[J3,hp])) h
    | false=>simp only[cond_false] at h ⊢;rw[d2u C hc] at h;exact ih2 il s K (fun p hp=>ok p (by simp[J3,hp])) h
   ·
    exact h.elim
 | block id a ih =>
  intro il s K ok h
  unfold P5 at h
  exact f5n (ih il s _ ok h)
 | loop a ih =>
  intro il s K ok h
  unfold P5 at h
  split at h
  ·
   rename_i S hS
   exact d8m (ok (2*a5a a,il, .loop a) (by simp[J3]) S hS) h
  ·
   exact h.elim
 | exit id=>intro il s K _ h;exact g4b h
 | ret=>intro il s K _ h;exact g9g h
 | _=>intro il s K _ h;simp[P5] at h
def G0 (C:Cx) (tb:Tab) (cs:CS) (k:Nat) (sp:Nat→Option Spec) (hn:Nat→Option a2e) (c:Code) (N:Nat) (L:List Nat) (nm:List A6) (adsI:List Ad) (nsI:List (A6×A6)) (L':List Nat) (nsX:List (A6×A6)) (vals:List V) (bs:List Box) (R:X→List V→List Box→Prop):Prop :=
 P5 C tb cs k sp hn true c (stN N L nm vals bs) fun x s=>s.N=N∧match x with
  | .normal=>go (s9 adsI s) fun s=>go (u9 k L nsI s) fun p=>R .normal p.1 p.2
  | x=>go (u9 k L' nsX s) fun p=>R x p.1 p.2
def N2 (C:Cx) (k:Nat) (c:Code) (N:Nat) (L:List Nat) (nm:List A6) (L':List Nat) (nm':List A6) (vals:List V) (bs:List Box) (Q:X→List V→List Box→Prop):Prop :=
 TL C k c (stN N L nm vals bs) fun x s'=>∃vs bs',s'=stN N L' nm' vs bs'∧Q x vs bs'
theorem C1 (F:b6q C cs.call) (hE:Has C tb) {sp:Nat→Option Spec} {hn:Nat→Option a2e} {c:Code} {N:Nat} {L L':List Nat} {nm nm':List A6} {adsI:List Ad} {nsI nsX:List (A6×A6)} {vals:List V} {bs:List Box} {Q:X→List V→List Box→Prop}
  (ok:v7 C k sp (J3 true c)) (hI:U0 nsI=nm) (hX:U0 nsX=nm')
  (h:a7i (G0 C tb cs k sp hn c N L nm adsI nsI L' nsX vals bs fun x vs bs'=>match x with | .normal=>N2 C k c N L nm L' nm' vs bs' Q|x=>Q x vs bs')):N2 C k c N L nm L' nm' vals bs Q:=by
 refine f5o (b6o (a5s F hE c true _ _ ok h.h) ?_)
 intro x s' ⟨hN,hx⟩
 cases x with
 | normal =>
  simp only[] at hx
  obtain ⟨s1,h1,hx⟩:=F2 hx
  obtain ⟨⟨vs,bs'⟩,h2,h3⟩:=F2 hx
  have hw:a4f C k s' _:=(V4 (k:=k) h1).trans (g9 h2)
  have hN1:s1.N=N:=(d5b h1).trans hN
  rw[hN1,hI] at hw
  exact ⟨_,hw,h3⟩
 | exit i =>
  simp only[] at hx
  obtain ⟨⟨vs,bs'⟩,h2,h3⟩:=F2 hx
  have hw:a4f C k s' _:=g9 h2
  rw[hN,hX] at hw
  exact ⟨_,hw,vs,bs',rfl,h3⟩
 | ret =>
  simp only[] at hx
  obtain ⟨⟨vs,bs'⟩,h2,h3⟩:=F2 hx
  have hw:a4f C k s' _:=g9 h2
  rw[hN,hX] at hw
  exact ⟨_,hw,vs,bs',rfl,h3⟩
theorem f3r {c:Code} {N:Nat} {S:Spec} {nm:List A6} {vals:List V} {bs:List Box} {K:X→List V→List Box→Prop} (h:N2 C k c N S.L nm S.L' S.nm' vals bs K):T C k (.loop c) (stN N S.L nm vals bs) fun x s'=>∃vs bs',s'=stO N S vs bs'∧K x vs bs':=g4a h
def C2 (C:Cx) (tb:Tab) (cs:CS) (k:Nat) (sp:Nat→Option Spec) (hn:Nat→Option a2e) (K:FuncId) (args:List V) (H:A9) (Q:V→A9→Prop):Prop :=
 match C.P.funcs[K]? with
 | none=>False
 | some fn=>match fn.body with
  | none=>False
  | some c=>P5 C tb cs k sp hn false c ⟨max fn.ntmps args.length,fun t=>(args[t]?).getD L8,H⟩ fun x s=>match x with
   | .exit _=>False
   | _=>go (r8 C s fn.results.toList) fun vs=>Q (X5 vs) s.H
theorem a5c (F:b6q C cs.call) (hE:Has C tb) {sp:Nat→Option Spec} {hn:Nat→Option a2e} {K:FuncId} {args:List V} {H:A9} {Q:V→A9→Prop} {fn:Func} {c:Code} (hf:C.P.funcs[K]?=some fn) (hb:fn.body=some c) (hz:Z0 k H)
  (ok:v7 C k sp (J3 false c)) (h:C2 C tb cs k sp hn K args H Q):N9 C K args H Q:=by
 unfold C2 at h
 simp only[hf,hb] at h
 refine a7p hf hb hz (d7t (a5s F hE c false _ _ ok h) ?_)
 intro x s' hx
 cases x with
 | normal=>obtain ⟨vs,h1,h2⟩:=F2 hx;exact ⟨vs,h1,h2⟩
 | ret=>obtain ⟨vs,h1,h2⟩:=F2 hx;exact ⟨vs,h1,h2⟩
 | exit i=>exact hx.elim
end
end Go.Ev
end
section
namespace Go.Ev
def D0 (B:Cx) (tb:Tab):Prop:=∀K ct ds r,tb K=some ct→ct.pre ds→ct.f ds=some r→a7d B K ds r
def Tab.add (tb:Tab) (K:FuncId) (c:Ct):Tab:=fun n=>bif n==K then some c else tb n
def d2f:Tab:=fun _=>none
theorem e7f {B:Cx}:D0 B d2f:=fun K ct ds r h=>by cases h
structure d5e (B:Cx):Prop where
 ok:a6x B
 prim:∀K,B.prim K=none
section
variable {B : Cx} {tb : Tab}
theorem C4:Has (B.tab tb) tb:=fun K=>rfl
theorem a7d.of {C C':Cx} (hP:C'.P=C.P) (hg:C'.glob=C.glob) {K:FuncId} {ds:List D} {r:D} (h:a7d C K ds r):a7d C' K ds r:=by
 obtain ⟨h1,h2⟩:=h
 refine ⟨by rw[hP];exact h1,fun w lim vs a b c=>?_⟩
 rw[hP]
 exact h2 w lim vs a (fun k cs hk=>b k cs (by rw[hg];exact hk)) c
theorem F8 (hB:d5e B) (h:D0 B tb) {call:D4} (hv:W3 (B.tab tb) call):b6q (B.tab tb) call:=by
 refine ⟨⟨hB.ok.plain,hB.ok.mixed⟩,⟨fun K f ds r hf hr=>?_,fun K f args H r H' hf=>?_⟩,hv⟩
 ·
  have hf':(match tb K with|some c=>some c.gate|none=>none)=some f:=hf
  cases hc:tb K with
  | none=>rw[hc] at hf';cases hf'
  | some c =>
   rw[hc] at hf'
   simp only[Option.some.injEq] at hf'
   subst hf'
   unfold Ct.gate at hr
   by_cases hp:c.pre ds
   ·
    rw[if_pos hp] at hr
    exact (h K c ds r hc hp hr).of rfl rfl
   ·
    rw[if_neg hp] at hr;cases hr
 ·
  have:B.prim K=some f:=hf
  rw[hB.prim K] at this;cases this
theorem D1 {C:Cx}:W3 C G1.call:=fun K args H r H' h=>by cases h
theorem a3g {C:Cx} {K:FuncId} {ds:List D} {r:D} (he:M4 C.P K) (h:N9 C K (ds.map .d) A9.empty fun v H=>B5 H v= .d r):a7d C K ds r:=by
 refine ⟨he,fun w lim vs hl hg hr=>?_⟩
 refine (h w ⟨fun _=>.nilFunc,lim,fun _=>none⟩ vs (c6h (g:=⟨fun _=>.nilFunc,lim,fun _=>none⟩) hl) hg (.of_ds hr) (fun n hn=>by simp[A9.empty] at hn)).mono ?_
 rintro e w' ⟨u,r',H',gc,hf,rfl,k1,k2,k3,k4⟩
 have hE:Ext w w':=c7p (fun _=>rfl) k3
 have hlo:∀b,b<w.heap.size→gc.lim b=lim b∧gc.owner b=none:=fun b hb=>(k3.free b hb rfl).2
 obtain ⟨lim',j1,j2,j3⟩:=c2x k2 hf k1
 exact ⟨u,lim',rfl,hE,fun b hb=>by rw[j2 b (hlo b hb).2,(hlo b hb).1],fun b hb=>by rw[j2 b (k2.fresh b hb).2];exact (k2.fresh b hb).1,j3⟩
theorem a6w (h:D0 B tb) {K:FuncId} {c:Ct} (hc:∀ds r,c.pre ds→c.f ds=some r→a7d B K ds r):D0 B (tb.add K c):=fun n ct ds r hn hp hr=>by
 unfold Tab.add at hn
 by_cases e:n=K
 ·
  subst e
  simp at hn;subst hn
  exact hc ds r hp hr
 ·
  have:(n==K)=false:=by simpa using e
  rw[this] at hn
  exact h n ct ds r hn hp hr
theorem D2 (hB:d5e B) (h:D0 B tb) {K:FuncId} {c:Ct} {fn:Func} {cd:Code} {sp:Nat→Option Spec} {hn:Nat→Option a2e} (hf:B.P.funcs[K]?=some fn) (hb:fn.body=some cd) (hr:(fn.name == "runtime.NumGoroutine")=false)
  (ok:v7 (B.tab tb) 0 sp (J3 false cd))
  (hc:∀ds r,c.pre ds→c.f ds=some r→a7i (C2 (B.tab tb) tb G1 0 sp hn K (ds.map .d) A9.empty fun v H=>B5 H v= .d r)):D0 B (tb.add K c) :=
 a6w h fun ds r hp hr'=>by
  have he:M4 B.P K:=⟨fn,hf,by simpa using hr,by rw[hb];rfl⟩
  have:=a3g (C:=B.tab tb) he (a5c (F8 hB h D1) C4 (C:=B.tab tb) hf hb (fun m hm=>by cases hm) ok (hc ds r hp hr').h)
  exact this.of rfl rfl
def Ct.below (c:Ct) (μ:List D→Nat) (n:Nat):Ct:=⟨fun ds=>c.pre ds∧μ ds<n,c.f⟩
theorem t7 (hB:d5e B) (h:D0 B tb) {K:FuncId} {c:Ct} {fn:Func} {cd:Code} {sp:Nat→Nat→Option Spec} {hn:Nat→Option a2e} (μ:List D→Nat) (hf:B.P.funcs[K]?=some fn) (hb:fn.body=some cd) (hr:(fn.name == "runtime.NumGoroutine")=false)
  (ok:∀n,D0 B (tb.add K (c.below μ n))→v7 (B.tab (tb.add K (c.below μ n))) 0 (sp n) (J3 false cd))
  (hc:∀n ds r,c.pre ds→μ ds=n→c.f ds=some r→a7i (C2 (B.tab (tb.add K (c.below μ n))) (tb.add K (c.below μ n)) G1 0 (sp n) hn K (ds.map .d) A9.empty fun v H=>B5 H v= .d r)):D0 B (tb.add K c):=by
 have he:M4 B.P K:=⟨fn,hf,by simpa using hr,by rw[hb];rfl⟩
 have all:∀n,D0 B (tb.add K (c.below μ n)):=by
  intro n
  induction n with
  | zero=>exact a6w h fun ds r hp hr'=>absurd hp.2 (Nat.not_lt_zero _)
  | succ n ih =>
   refine a6w h fun ds r hp hr'=>?_
   by_cases hlt:μ ds<n
   ·
    refine ih K (c.below μ n) ds r ?_ ⟨hp.1,hlt⟩ hr'
    simp[Tab.add]
   ·
    have e:μ ds=n:=by have:=hp.2;omega
    exact (a3g (C:=B.tab (tb.add K (c.below μ n))) he (a5c (F8 hB ih D1) C4 (C:=B.tab (tb.add K (c.below μ n))) hf hb (fun m hm=>by cases hm) (ok n ih) (hc n ds r hp.1 e hr').h)).of rfl rfl
 exact a6w h fun ds r hp hr'=>all (μ ds+1) K (c.below μ (μ ds+1)) ds r (by simp[Tab.add]) ⟨hp,by omega⟩ hr'
def B6:Nat→Option Spec:=fun _=>none
def B1:Nat→Option a2e:=fun _=>none
theorem A8 {C:Cx} {k:Nat} {l:List (Nat×Bool×Code)}:v7 C k B6 l:=fun p _ S h=>by cases h
def OkS (C:Cx) (k:Nat) (c:Code) (S:Spec):Prop:=∀N vals bs K,S.G N vals bs K→T C k c (stN N S.L (U0 S.ns) vals bs) fun x s'=>∃vs bs',s'=stO N S vs bs'∧K x vs bs'
def spL:List (Nat×Spec)→Nat→Option Spec
 | [],_=>none
 | (a,S)::r,n=>bif n==a then some S else spL r n
theorem E5 {C:Cx} {k:Nat} {l:List (Nat×Bool×Code)}:v7 C k (spL []) l:=fun p _ S h=>by cases h
theorem C9 {C:Cx} {k:Nat} {l:List (Nat×Bool×Code)} {a:Nat} {S:Spec} {r:List (Nat×Spec)} {c:Code} (h:(l.filter fun p=>p.1==a).map (fun p=>p.2.2)= [c]) (hS:OkS C k c S) (hr:v7 C k (spL r) l):v7 C k (spL ((a,S)::r)) l:=fun p hp S' hs=>by
 by_cases e:p.1=a
 ·
  have hm:p.2.2∈(l.filter fun p=>p.1==a).map (fun p=>p.2.2):=List.mem_map.2 ⟨p,List.mem_filter.2 ⟨hp,by simpa using e⟩,rfl⟩
  rw[h] at hm
  simp only[List.mem_singleton] at hm
  rw[hm]
  have:(p.1==a)=true:=by simpa using e
  simp only[spL,this,cond_true,Option.some.injEq] at hs
  subst hs
  exact hS
 ·
  have:(p.1==a)=false:=by simpa using e
  simp only[spL,this,cond_false] at hs
  exact hr p hp S' hs
def F9 (c:Code) (a:Nat):Code:=match (J3 false c).find? (fun p=>p.1==a) with|some p=>p.2.2|none=>.skip
def F5:Code→Code
 | .loop c=>c
 | _=>.skip
theorem F3 {C:Cx} {k:Nat} {c:Code} {S:Spec} (h:∀N vals bs K,S.G N vals bs K→N2 C k c N S.L (U0 S.ns) S.L' S.nm' vals bs K):OkS C k (.loop c) S:=fun N vals bs K hg=>f3r (h N vals bs K hg)
end
end Go.Ev
end
section
namespace Go.Ev
def rounds {σ β:Type} (f:Nat→σ→σ ⊕ β):Nat→Nat→σ→σ ⊕ β
 | 0,_,a=>.inl a
 | n+1,i,a=>match f i a with
  | .inl a'=>rounds f n (i+1) a'
  | .inr b=>.inr b
def S5 {β:Type}:Option β→Unit ⊕ β
 | some b=>.inr b
 | none=>.inl ()
def B4 {β:Type} (f:Nat→Option β) (n:Nat):Option β:=match rounds (fun i _=>S5 (f i)) n 0 () with | .inr b=>some b | .inl _=>none
theorem A5 {c:Bool} {A B:Prop} (h1:c=true→A) (h2:c=false→B):bif c then A else B:=by
 cases c with
 | true=>exact h1 rfl
 | false=>exact h2 rfl
def Y6 {β:Type} (o:Option β) (z:Prop) (s:β→Prop):Prop:=match o with|some b=>s b|none=>z
section
variable {C : Cx} {tb : Tab} {cs : CS} {k : Nat}
theorem b3c (F:b6q C cs.call) (hE:Has C tb) {sp:Nat→Option Spec} {hn:Nat→Option a2e} {c:Code} {N:Nat} {L L':List Nat} {nm nm':List A6} {adsI:List Ad} {nsI nsX:List (A6×A6)} (ok:v7 C k sp (J3 true c)) (hI:U0 nsI=nm) (hX:U0 nsX=nm')
  {σ:Type} (len:Nat) (P:Nat→σ→Prop) (V0:Nat→σ→List V) (B0:Nat→σ→List Box) (f:Nat→σ→σ ⊕ (X×List V×List Box)) (xE:X) (vE:σ→List V) (bE:σ→List Box) (hxE:xE≠ .normal)
  (hb:∀i a R,i<len→P i a→(match f i a with | .inl a'=>P (i+1) a'→R .normal (V0 (i+1) a') (B0 (i+1) a') | .inr (x,vs,bs)=>x≠ .normal→R x vs bs)→a7i (G0 C tb cs k sp hn c N L nm adsI nsI L' nsX (V0 i a) (B0 i a) R))
  (he:∀a R,P len a→R xE (vE a) (bE a)→a7i (G0 C tb cs k sp hn c N L nm adsI nsI L' nsX (V0 len a) (B0 len a) R)) {Q:X→List V→List Box→Prop} :
  ∀n i a,i+n=len→P i a→(match rounds f n i a with | .inl a'=>Q xE (vE a') (bE a') | .inr (x,vs,bs)=>Q x vs bs)→N2 C k c N L nm L' nm' (V0 i a) (B0 i a) Q:=by
 intro n
 induction n with
 | zero =>
  intro i a hi hp h
  have:i=len:=by omega
  subst this
  refine C1 F hE ok (adsI:=adsI) hI hX (he a _ hp ?_)
  cases xE with
  | normal=>exact absurd rfl hxE
  | exit i=>exact h
  | ret=>exact h
 | succ n ih =>
  intro i a hi hp h
  unfold rounds at h
  refine C1 F hE ok (adsI:=adsI) hI hX (hb i a _ (by omega) hp ?_)
  cases hf:f i a with
  | inl a' =>
   simp only[hf] at h ⊢
   exact fun hp'=>ih (i+1) a' (by omega) hp' h
  | inr b =>
   obtain ⟨x,vs,bs⟩:=b
   simp only[hf] at h ⊢
   intro hne
   cases x with
   | normal=>exact absurd rfl hne
   | exit i=>exact h
   | ret=>exact h
def b5n {σ β γ:Type} (g:β→γ):σ ⊕ β→σ ⊕ γ
 | .inl a=>.inl a
 | .inr b=>.inr (g b)
theorem b9v {σ β γ:Type} {f:Nat→σ→σ ⊕ β} {g:β→γ}:∀{n i:Nat} {a:σ},rounds (fun i a=>b5n g (f i a)) n i a=b5n g (rounds f n i a)
 | 0,i,a=>rfl
 | n+1,i,a=>by
  unfold rounds
  cases hf:f i a with
  | inl a'=>simp only[b5n];exact b9v
  | inr b=>rfl
theorem K0 (F:b6q C cs.call) (hE:Has C tb) {sp:Nat→Option Spec} {hn:Nat→Option a2e} {c:Code} {N:Nat} {L L':List Nat} {nm nm':List A6} {adsI:List Ad} {nsI nsX:List (A6×A6)} (ok:v7 C k sp (J3 true c)) (hI:U0 nsI=nm) (hX:U0 nsX=nm')
  {β:Type} (len:Nat) (V0:Nat→List V) (B0:Nat→List Box) (f:Nat→Option β) (out:β→X×List V×List Box) (hout:∀b,(out b).1≠ .normal) (xE:X) (vE:List V) (bE:List Box) (hxE:xE≠ .normal)
  (hb:∀i R,i<len→Y6 (f i) (R .normal (V0 (i+1)) (B0 (i+1))) (fun b=>R (out b).1 (out b).2.1 (out b).2.2)→a7i (G0 C tb cs k sp hn c N L nm adsI nsI L' nsX (V0 i) (B0 i) R))
  (he:∀R,R xE vE bE→a7i (G0 C tb cs k sp hn c N L nm adsI nsI L' nsX (V0 len) (B0 len) R)) {Q:X→List V→List Box→Prop}
  (h:Y6 (B4 f len) (Q xE vE bE) (fun b=>Q (out b).1 (out b).2.1 (out b).2.2)):N2 C k c N L nm L' nm' (V0 0) (B0 0) Q:=by
 refine b3c F hE ok hI hX len (fun _ (_:Unit)=>True) (fun i _=>V0 i) (fun i _=>B0 i) (fun i _=>b5n out (S5 (f i))) xE (fun _=>vE) (fun _=>bE) hxE ?_ (fun a R _ hR=>he R hR) len 0 () (by omega) trivial ?_
 ·
  intro i a R hi _ hR
  refine hb i R hi ?_
  cases hf:f i with
  | none=>simp only[hf,S5,b5n] at hR ⊢;exact hR trivial
  | some b=>simp only[hf,S5,b5n] at hR ⊢;exact hR (hout b)
 ·
  rw[b9v (f:=fun i _=>S5 (f i)) (g:=out)]
  unfold B4 at h
  cases hr:rounds (fun i _=>S5 (f i)) len 0 () with
  | inl a=>rw[hr] at h;exact h
  | inr b=>rw[hr] at h;exact h
end
end Go.Ev
end
section
namespace Go.Ev
def e7g:J5:=fun _=>none
theorem c7f {C:Cx}:H5 C e7g:=fun K f vals bs c x y h=>by cases h
def J5.add (tb:J5) (K:FuncId) (S:Sm):J5:=fun n=>bif n==K then some S else tb n
def b2f:List (FuncId×Sm)→FuncId→Option Sm
 | [],_=>none
 | (a,S)::r,n=>bif n==a then some S else b2f r n
def J5.addG (tb:J5) (grp:List (FuncId×Sm)):J5:=fun n=>match b2f grp n with|some S=>some S|none=>tb n
def Sm.below (S:Sm) (m:List V→List Box→Nat) (n:Nat):Sm:=⟨fun vs bs=>S.pre vs bs∧m vs bs<n,S.f⟩
def c3y (grp:List (FuncId×Sm)) (μ:FuncId→List V→List Box→Nat) (n:Nat):List (FuncId×Sm):=grp.map fun p=>(p.1,p.2.below (μ p.1) n)
def b5y:List Nat→Bool
 | []=>true
 | d::l=> !l.contains d&&b5y l
def o7:List ResultVar→Option (List Nat)
 | []=>some []
 | .tmp t::r=>match o7 r with|some l=>some (t::l)|none=>none
 | _::_=>none
def d4h (k:Nat) (L:List Nat):List (List (A6×A6))→St→(List V→List Box→Prop)→Prop
 | [],_,_=>False
 | ns::r,s,R=>match u9 k L ns s with
  | some p=>R p.1 p.2
  | none=>d4h k L r s R
def E4 (C:Cx) (tb:Tab) (cs:CS) (k:Nat) (sp:Nat→Option Spec) (hn:Nat→Option a2e) (ads:List Ad) (ends:List (List (A6×A6))) (K:FuncId) (args:List V) (H:A9) (R:V→List Box→Prop):Prop :=
 match C.P.funcs[K]? with
 | none=>False
 | some fn=>match fn.body,o7 fn.results.toList with
  | some c,some L=>P5 C tb cs k sp hn false c ⟨max fn.ntmps args.length,fun t=>(args[t]?).getD L8,H⟩ fun x s=>match x with
   | .exit _=>False
   | _=>go (s9 ads s) fun s=>d4h k L ends s fun vs bs=>R (X5 vs) bs
  | _,_=>False
theorem a8o {C:Cx} {k:Nat} {L:List Nat} {R:List V→List Box→Prop}:∀{ends:List (List (A6×A6))} {s:St},d4h k L ends s R→∃ns∈ends,∃vs bs,a4f C k s (stN s.N L (U0 ns) vs bs)∧vs.length=L.length∧bs.length=(U0 ns).length∧R vs bs
 | [],s,h=>h.elim
 | ns::r,s,h=>by
  unfold d4h at h
  split at h
  ·
   rename_i p hp
   obtain ⟨vs,bs⟩:=p
   refine ⟨ns,by simp,vs,bs,g9 hp, ?_, ?_,h⟩
   ·
    unfold u9 at hp
    split at hp
    ·
     rename_i b0 hb0
     cases hc:c3t k ns (L.map s.F) b0 with
     | false=>rw[hc] at hp;cases hp
     | true =>
      rw[hc] at hp
      simp only[cond_true,Option.some.injEq,Prod.mk.injEq] at hp
      rw[←hp.1,b9z];simp
    ·
     cases hp
   ·
    unfold u9 at hp
    split at hp
    ·
     rename_i b0 hb0
     cases hc:c3t k ns (L.map s.F) b0 with
     | false=>rw[hc] at hp;cases hp
     | true =>
      rw[hc] at hp
      simp only[cond_true,Option.some.injEq,Prod.mk.injEq] at hp
      rw[←hp.2]
      unfold U0
      simp[(a2d hb0).1]
    ·
     cases hp
  ·
   obtain ⟨ns',h1,h2⟩:=a8o h
   exact ⟨ns',List.mem_cons_of_mem _ h1,h2⟩
theorem f0 {C:Cx}:∀{l:List ResultVar} {L:List Nat} {s:St},o7 l=some L→r8 C s l=some (L.map s.F)
 | [],L,s,h=>by simp[o7] at h;subst h;rfl
 | .tmp t::r,L,s,h=>by
  unfold o7 at h
  cases hr:o7 r with
  | none=>rw[hr] at h;cases h
  | some l =>
   rw[hr] at h;simp at h;subst h
   unfold r8
   rw[f0 hr]
   rfl
 | .cell a t::r,L,s,h=>by simp[o7] at h
theorem c2i:∀{L:List Nat} {vs:List V},b5y L=true→vs.length=L.length→L.map (mk M6 L vs)=vs
 | [], [],_,_=>rfl
 | [],v::vs,_,h=>by simp at h
 | d::l, [],_,h=>by simp at h
 | d::l,v::vs,hd,h=>by
  simp only[b5y,Bool.and_eq_true,Bool.not_eq_true'] at hd
  have hne:∀t∈l,(t==d)=false:=fun t ht=>by
   cases hx:t==d with
   | false=>rfl
   | true =>
    have:t=d:=by simpa using hx
    subst this
    have:l.contains t=true:=by simpa using ht
    rw[this] at hd;cases hd.1
  simp only[List.map_cons,mk]
  congr 1
  ·
   simp[upd]
  ·
   refine Eq.trans (List.map_congr_left fun t ht=>?_) (c2i hd.2 (show vs.length=l.length by simpa using h))
   simp only[upd,hne t ht,cond_false]
section
variable {B : Cx} {etb : Tab} {stb : J5}
theorem N9.of {C C':Cx} (hP:C'.P=C.P) (hg:C'.glob=C.glob) {K:FuncId} {args:List V} {H:A9} {Q:V→A9→Prop} (h:N9 C K args H Q):N9 C' K args H Q:=fun w g vs a b c d=>by
 rw[hP]
 exact h w g vs a (fun k cs hk=>b k cs (by rw[hg];exact hk)) c d
theorem H5.of {C C':Cx} (hP:C'.P=C.P) (hg:C'.glob=C.glob) (h:H5 C stb):H5 C' stb:=fun K f vals bs c x y h1 h2 h3=>by
 obtain ⟨a,b⟩:=h K f vals bs c x y h1 h2 h3
 exact ⟨by rw[hP];exact a,b.of hP hg⟩
theorem M7 (hB:d5e B) (h:D0 B etb) (hs:H5 B stb):b6q (B.tab etb) (K4 stb).call:=F8 hB h (b3r (hs.of rfl rfl))
theorem d8p {bs:List Box} {k:Nat} (hk:bs.length=k):Z0 k (G3 bs):=fun m hm=>by
 unfold G3 at hm
 cases hx:ofL (N3 (K9 bs.length) bs) (0::m) with
 | none=>rw[hx] at hm;cases hm
 | some b =>
  obtain ⟨i,h1,_⟩:=Y8 hx
  obtain ⟨j,hj,he⟩:=List.mem_map.1 (List.mem_of_getElem? h1)
  simp at he
  exact ⟨j,by rw[←hk];simpa using hj,he.symm⟩
theorem c4n {C:Cx} {tb:Tab} {cs:CS} {k:Nat} (F:b6q C cs.call) (hE:Has C tb) {sp:Nat→Option Spec} {hn:Nat→Option a2e} {ads:List Ad} {ends:List (List (A6×A6))} {K:FuncId} {args:List V} {H:A9} {R:V→List Box→Prop} {fn:Func} {c:Code}
  (hf:C.P.funcs[K]?=some fn) (hb:fn.body=some c) (hz:Z0 k H) (hL:(match o7 fn.results.toList with|some L=>b5y L|none=>false)=true)
  (ok:v7 C k sp (J3 false c)) (h:E4 C tb cs k sp hn ads ends K args H R):N9 C K args H fun r H'=>∃ns∈ends,∃bs,bs.length=(U0 ns).length∧H'=ofL (N3 (U0 ns) bs)∧R r bs:=by
 unfold E4 at h
 simp only[hf,hb] at h
 cases hr:o7 fn.results.toList with
 | none=>rw[hr] at h;exact h.elim
 | some L =>
  rw[hr] at h hL
  simp only[] at h hL
  refine a7p hf hb hz (b6o (a5s F hE c false _ _ ok h) ?_)
  intro x s' hx
  cases x with
  | exit i=>exact hx.elim
  | normal =>
   obtain ⟨s1,h1,hx⟩:=F2 hx
   obtain ⟨ns,hns,vs,bs,hw,h2,h3,h4⟩:=a8o (C:=C) hx
   exact ⟨_,(V4 h1).trans hw,vs,by rw[f0 hr];exact congrArg some (c2i hL h2),ns,hns,bs,h3,rfl,h4⟩
  | ret =>
   obtain ⟨s1,h1,hx⟩:=F2 hx
   obtain ⟨ns,hns,vs,bs,hw,h2,h3,h4⟩:=a8o (C:=C) hx
   exact ⟨_,(V4 h1).trans hw,vs,by rw[f0 hr];exact congrArg some (c2i hL h2),ns,hns,bs,h3,rfl,h4⟩
theorem a5w:∀{a b:List A6} {x y:List Box},x.length=a.length→N3 (a++b) (x++y)=N3 a x++N3 b y
 | [],b, [],y,_=>rfl
 | [],b,v::x,y,h=>by simp at h
 | n::a,b, [],y,h=>by simp at h
 | n::a,b,v::x,y,h=>by
  simp only[List.cons_append,N3]
  rw[a5w (by simpa using h)]
theorem E9 (hB:d5e B) (h:D0 B etb) (hs:H5 B stb) {K:FuncId} {fn:Func} {cd:Code} {sp:Nat→Option Spec} {hn:Nat→Option a2e} {k:Nat} {ads:List Ad} {ends:List (List (A6×A6))} (hf:B.P.funcs[K]?=some fn) (hb:fn.body=some cd) (hr:(fn.name == "runtime.NumGoroutine")=false)
  (hL:(match o7 fn.results.toList with|some L=>b5y L|none=>false)=true)
  (hends:ends.all (fun ns=>U0 ns==K9 k++J7 ((U0 ns).length-k))=true)
  (ok:v7 (B.tab etb) k sp (J3 false cd)) {vals:List V} {bs bs' news:List Box} {r:V} (hk:bs.length=k) (hl:bs'.length=bs.length)
  (hc:a7i (E4 (B.tab etb) etb (K4 stb) k sp hn ads ends K vals (G3 bs) fun r' bx=>r'=r∧bx=bs'++news)) :
  M4 B.P K∧N9 B K vals (G3 bs) fun r' H'=>r'=r∧H'=V2 bs' news:=by
 refine ⟨⟨fn,hf,by simpa using hr,by rw[hb];rfl⟩, ?_⟩
 have:=(c4n (M7 hB h hs) C4 (C:=B.tab etb) hf hb (d8p hk) hL ok hc.h).of (C':=B) rfl rfl
 intro w g vs a b c d
 refine (this w g vs a b c d).mono ?_
 rintro e w' ⟨v,r',H',g',⟨ns,hns,bx,hlen,rfl,rfl,rfl⟩,h2⟩
 refine ⟨v,_,_,g',⟨rfl, ?_⟩,h2⟩
 have hn:=List.all_eq_true.1 hends ns hns
 have hn:U0 ns=K9 k++J7 ((U0 ns).length-k):=by simpa using hn
 have hlen2:(U0 ns).length-k=news.length:=by
  rw[←hlen];simp;omega
 rw[hlen2] at hn
 unfold V2
 rw[hn,a5w (by simp[K9];omega)]
 rw[show bs'.length=k by omega]
theorem M8 (hs:H5 B stb) {K:FuncId} {S:Sm} (hc:∀vals bs c x y,S.pre vals bs→S.f vals bs=some (c,x,y)→M4 B.P K∧N9 B K vals (G3 bs) fun r' H'=>r'=(bif c then x else y).1∧H'=V2 (bif c then x else y).2.1 (bif c then x else y).2.2) :
  H5 B (stb.add K S):=fun n f vals bs c x y h1 h2 h3=>by
 unfold J5.add at h1
 by_cases e:n=K
 ·
  subst e
  simp at h1;subst h1
  exact hc vals bs c x y h2 h3
 ·
  have:(n==K)=false:=by simpa using e
  rw[this] at h1
  exact hs n f vals bs c x y h1 h2 h3
theorem c5s:∀{grp:List (FuncId×Sm)} {n:FuncId} {S:Sm},b2f grp n=some S→(n,S)∈grp
 | [],n,S,h=>by cases h
 | (a,T)::r,n,S,h=>by
  unfold b2f at h
  by_cases e:n=a
  ·
   subst e;simp at h;subst h;simp
  ·
   have:(n==a)=false:=by simpa using e
   rw[this] at h
   exact List.mem_cons_of_mem _ (c5s h)
theorem a2o {μ:FuncId→List V→List Box→Nat} {m:Nat}:∀{grp:List (FuncId×Sm)} {n:FuncId},b2f (c3y grp μ m) n=match b2f grp n with|some S=>some (S.below (μ n) m)|none=>none
 | [],n=>rfl
 | (a,T)::r,n=>by
  simp only[c3y,List.map_cons,b2f]
  by_cases e:n=a
  ·
   subst e;simp
  ·
   have:(n==a)=false:=by simpa using e
   rw[this]
   exact a2o
theorem e6c (hs : H5 B stb) (grp : List (FuncId × Sm)) (μ : FuncId → List V → List Box → Nat)
  (hc : ∀ n, H5 B (stb.addG (c3y grp μ n)) → ∀ K S, (K, S) ∈ grp → ∀ vals bs c x y, S.pre vals bs → μ K vals bs = n → S.f vals bs = some (c, x, y) →
   M4 B.P K ∧ N9 B K vals (G3 bs) fun r' H' => r' = (bif c then x else y).1 ∧ H' = V2 (bif c then x else y).2.1 (bif c then x else y).2.2) : H5 B (stb.addG grp) := by
 have all : ∀ n, H5 B (stb.addG (c3y grp μ n)) := by
  intro n
  induction n with
  | zero =>
   intro K f vals bs c x y h1 h2 h3
   unfold J5.addG at h1
   rw [a2o] at h1
   cases hl : b2f grp K with
   | none => rw [hl] at h1; exact hs K f vals bs c x y h1 h2 h3
   | some S =>
    rw [hl] at h1
    simp only [Option.some.injEq] at h1
    subst h1
    exact absurd h2.2 (Nat.not_lt_zero _)
  | succ n ih =>
   intro K f vals bs c x y h1 h2 h3
   unfold J5.addG at h1
   rw [a2o] at h1
   cases hl : b2f grp K with
   | none => rw [hl] at h1; exact hs K f vals bs c x y h1 h2 h3
   | some S =>
    rw [hl] at h1
    simp only [Option.some.injEq] at h1
    subst h1
    by_cases hlt : μ K vals bs < n
    ·
     refine ih K (S.below (μ K) n) vals bs c x y ?_ ⟨h2.1, hlt⟩ h3
     unfold J5.addG
     rw [a2o, hl]
    ·
     have e : μ K vals bs = n := by have := h2.2; omega
     exact hc n ih K S (c5s hl) vals bs c x y h2.1 e h3
 intro K f vals bs c x y h1 h2 h3
 unfold J5.addG at h1
 cases hl : b2f grp K with
 | none => rw [hl] at h1; exact hs K f vals bs c x y h1 h2 h3
 | some S =>
  rw [hl] at h1
  simp only [Option.some.injEq] at h1
  subst h1
  refine all (μ K vals bs + 1) K (S.below (μ K) (μ K vals bs + 1)) vals bs c x y ?_ ⟨h2, by omega⟩ h3
  unfold J5.addG
  rw [a2o, hl]
theorem b6n (hB:d5e B) (h:D0 B etb) (hs:H5 B stb) {K:FuncId} {c:Ct} {fn:Func} {cd:Code} {sp:Nat→Option Spec} {hn:Nat→Option a2e} (hf:B.P.funcs[K]?=some fn) (hb:fn.body=some cd) (hr:(fn.name == "runtime.NumGoroutine")=false)
  (ok:v7 (B.tab etb) 0 sp (J3 false cd))
  (hc:∀ds r,c.pre ds→c.f ds=some r→a7i (C2 (B.tab etb) etb (K4 stb) 0 sp hn K (ds.map .d) A9.empty fun v H=>B5 H v= .d r)):D0 B (etb.add K c) :=
 a6w h fun ds r hp hr'=>by
  have he:M4 B.P K:=⟨fn,hf,by simpa using hr,by rw[hb];rfl⟩
  have:=a3g (C:=B.tab etb) he (a5c (M7 hB h hs) C4 (C:=B.tab etb) hf hb (fun m hm=>by cases hm) ok (hc ds r hp hr').h)
  exact this.of rfl rfl
end
end Go.Ev
end
section
namespace Go.Ev.R2
open Go Go.Ev Go.Proofs
set_option maxRecDepth 100000
def b9n:List D:=Lib.asciiSpaceTab.map fun z=>.lit (.int .u8 z)
def e6v:List D:=Lib.pow10Tab.map fun z=>.lit (.int .u64 z)
def f4p:List D:=[.iface 283 .any]
def e8i (k:Nat):Option (List D):=bif k==0 then some b9n else bif k==3 then some f4p else bif k==4 then some f4p else bif k==5 then some e6v else none
noncomputable def B:Cx:=⟨Tryz.prog,e8i,fun _=>none,fun _=>none,fun t=>bif t==24 then true else t==102,fun K=>K==63,fun _=>none⟩
noncomputable def B2 (f:Func):Code:=match f.body with|some c=>c|none=>.skip
noncomputable def Cn (tb:Tab):Cx:=B.tab tb
theorem B9:d5e B:=⟨{plain:=fun t h=>(by
 have h':t=24∨t=102:=by
  cases e:(t==24) with
  | true=>exact .inl (by simpa using e)
  | false =>
   have h2:(bif t==24 then true else t==102)=true:=h
   rw[e] at h2
   exact .inr (by simpa using h2)
 rcases h' with rfl|rfl
 ·
  exact ⟨by kernel_rfl,by kernel_rfl⟩
 ·
  exact ⟨by kernel_rfl,by kernel_rfl⟩),mixed:=(by kernel_rfl) },fun _=>rfl⟩
def a3v (c:Int):Bool:=(decide (97≤c)&&decide (c≤122))||(decide (65≤c)&&decide (c≤90))||(decide (48≤c)&&decide (c≤57))||c==95
def g3b:Ct:=⟨fun _=>True,fun | [.lit (.int .u8 c)]=>some (.lit (.bool (a3v c)))|_=>none⟩
theorem h2h (c:Int) (p:V→Prop):(C2 (Cn d2f) d2f G1 0 B6 B1 230 [V.d (D.lit (Value.int IntKind.u8 c))] A9.empty fun v H =>
 p (B5 H v)) =
 p
 (A7 (bif
 bif
 bif bif decide (97≤c) then decide (c≤122) else false then true
 else bif decide (65≤c) then decide (c≤90) else false then
 true
 else bif decide (48≤c) then decide (c≤57) else false then
 true
 else c==95)):=by kernel_rfl
theorem g2b:D0 B (d2f.add 230 g3b):=by
 refine D2 B9 e7f (fn:=Tryz.f230) (cd:=B2 Tryz.f230) (sp:=B6) (hn:=B1) Tryz.func230 (by kernel_rfl) (by kernel_rfl) A8 fun ds r hp hr=>?_
 unfold g3b at hr
 simp only[] at hr
 split at hr
 ·
  rename_i c
  cases hr
  refine keep (h2h c fun v=>v=_) ?_
  unfold a3v
  cases decide (97≤c)<;>cases decide (c≤122)<;>cases decide (65≤c)<;>cases decide (c≤90)<;>cases decide (48≤c)<;>cases decide (c≤57)<;>rfl
 ·
  cases hr
def t213:Tab:=d2f.add 230 g3b
noncomputable def f3t:Code:=F5 (F9 (B2 Tryz.f213) 8)
theorem g8t (s:ByteArray) (i:Int) (R:X→List V→List Box→Prop):(G0 (Cn t213) t213 G1 0 B6 B1 f3t 33 [0,3] [] [] [] [2] [] [C0 s,A4 i] [] R) =
 (bif decide (i<(↑s.size:Int)) then
 ((0≤i∧i.toNat<s.size)∧
 (True∧
 (bif !a3v (B3 s i.toNat) then
 (33=33∧
 R X.ret [A7 false] []) else
 (33=33∧
 R X.normal [C0 s,A4 (IntKind.i64.wrap (i+1))] [])))) else
 (33=33∧
 R (X.exit 0) [V.any] [])):=by kernel_rfl
def p6 (s:ByteArray):Nat→Nat→Bool
 | 0,_=>true
 | n+1,i=>a3v (B3 s i)&&p6 s n (i+1)
def K7 (s:ByteArray):Bool:=decide (1≤s.size)&&decide (s.size≤60)&& !(decide (48≤B3 s 0)&&decide (B3 s 0≤57))&&p6 s s.size 0
def f6p:Ev.Spec:={L:=[0,3],ns:=[],L':=[2],nm':=[],G:=fun N vals bs k=>match vals,bs with
 | [.d (.lit (.string s)), .d (.lit (.int .i64 i))], []=>N=33∧i=0∧s.size≤60∧(bif p6 s s.size 0 then k (.exit 0) [.any] [] else k .ret [A7 false] [])
 | _,_=>False }
theorem g6k:OkS (Cn t213) 0 (.loop f3t) f6p:=by
 refine F3 fun N vals bs K h=>?_
 simp only[f6p] at h
 split at h
 case h_2=>exact h.elim
 rename_i s i
 obtain ⟨rfl,rfl,h60,h⟩:=h
 have key:∀n i:Nat,i+n=s.size→(bif p6 s n i then K (.exit 0) [.any] [] else K .ret [A7 false] [])→N2 (Cn t213) 0 f3t 33 [0,3] [] [2] [] [C0 s,A4 i] [] K:=by
  intro n
  induction n with
  | zero =>
   intro i hi h
   refine C1 (F8 B9 g2b D1) C4 A8 (adsI:=[]) (nsI:=[]) (nsX:=[]) rfl rfl (keep (g8t s i _) ?_)
   have e1:decide ((i:Int)<s.size)=false:=by simp;omega
   rw[e1]
   exact ⟨rfl,h⟩
  | succ n ih =>
   intro i hi h
   refine C1 (F8 B9 g2b D1) C4 A8 (adsI:=[]) (nsI:=[]) (nsX:=[]) rfl rfl (keep (g8t s i _) ?_)
   have e1:decide ((i:Int)<s.size)=true:=by simp;omega
   rw[e1]
   refine ⟨⟨by omega,by simp;omega⟩,trivial, ?_⟩
   simp only[Int.toNat_natCast]
   unfold p6 at h
   cases hb:a3v (B3 s i) with
   | false=>rw[hb] at h;exact ⟨trivial,h⟩
   | true =>
    rw[hb,Bool.true_and] at h
    have ew:IntKind.i64.wrap ((i:Int)+1)=((i+1:Nat):Int):=by rw[Go.IntWalk.i64_in _ (by omega)];omega
    refine ⟨trivial, ?_⟩
    rw[ew]
    exact ih (i+1) (by omega) h
 exact key s.size 0 (by omega) h
def c213:Ct:=⟨fun _=>True,fun | [.lit (.string s)]=>some (.lit (.bool (K7 s)))|_=>none⟩
theorem h2k (s : ByteArray) (p : V → Prop) : (C2 (Cn t213) t213 G1 0 (spL [(8, f6p)]) B1 213 [C0 s] A9.empty fun v H => p (B5 H v)) =
  ((((!bif decide ((↑s.size : Int) < 1) then true else decide ((↑s.size : Int) > 60)) && true) = true → (((0 : Int) ≤ 0) ∧ 0 < s.size)) ∧
  (((decide (48 ≤ B3 s 0) &&
    ((!bif decide ((↑s.size : Int) < 1) then true else decide ((↑s.size : Int) > 60)) && true)) =
  true → (((0 : Int) ≤ 0) ∧ 0 < s.size)) ∧
  (bif bif bif decide ((↑s.size : Int) < 1) then true else decide ((↑s.size : Int) > 60) then true
else bif decide (48 ≤ B3 s 0) then decide (B3 s 0 ≤ 57) else false then
   p (A7 false) else
   (33 = 33 ∧
   ((0 : Int) = 0 ∧
   (s.size ≤ 60 ∧
   (bif p6 s s.size 0 then
    p (A7 true) else
    p (A7 false)))))))) := by kernel_rfl
theorem g6t:D0 B (t213.add 213 c213):=by
 refine D2 B9 g2b (fn:=Tryz.f213) (cd:=B2 Tryz.f213) (sp:=spL [(8,f6p)]) (hn:=B1) Tryz.func213 (by kernel_rfl) (by kernel_rfl) (C9 (c:=.loop f3t) (by kernel_rfl) g6k E5) fun ds r hp hr=>?_
 unfold c213 at hr
 simp only[] at hr
 split at hr
 ·
  rename_i s
  cases hr
  refine keep (h2k s fun v=>v=_) ?_
  unfold K7
  by_cases h1:1≤s.size
  ·
   by_cases h2:s.size≤60
   ·
    have e1:decide ((s.size:Int)<1)=false:=by simp;omega
    have e2:decide ((s.size:Int)>60)=false:=by simp;omega
    rw[e1,e2]
    refine ⟨fun _=>⟨by omega,by omega⟩,fun _=>⟨by omega,by omega⟩, ?_⟩
    simp only[h1,h2,decide_true,cond_true,cond_false,Bool.true_and]
    cases decide (48≤B3 s 0)<;>cases decide (B3 s 0≤57)<;>cases p6 s s.size 0<;>simp
   ·
    have e1:decide ((s.size:Int)<1)=false:=by simp;omega
    have e2:decide ((s.size:Int)>60)=true:=by simp;omega
    rw[e1,e2]
    simp[h2]
  ·
   have e1:decide ((s.size:Int)<1)=true:=by simp;omega
   rw[e1]
   simp[h1]
 ·
  cases hr
abbrev eqS (s t:ByteArray):Bool:=s.toList==t.toList
abbrev leS (s t:ByteArray):Bool:=Op.bytesLess s.toList t.toList||s.toList==t.toList
def f2d (t:TypeId) (xs:List D):Prop:=∀i,i<xs.length→g2s B t (xs.getD i .any)=xs.getD i .any
def e5j:Tab:=t213.add 213 c213
noncomputable def f9x:Code:=F5 (F9 (B2 Tryz.f191) 8)
def X7 (xs:List D) (i:Nat):Option Int :=
 bif !K7 (A2 (A0 (xs.getD i .any) 0)) then some 5 else
 bif eqS (A2 (A0 (xs.getD i .any) 1)) (ByteArray.mk #[]) then some 1 else
 bif decide (((A2 (A0 (xs.getD i .any) 1)).size:Int)>200) then some 4 else
 bif decide ((i:Int)>0)&&leS (A2 (A0 (xs.getD i .any) 0)) (A2 (A0 (xs.getD (i-1) .any) 0)) then some 9 else none
def f7n (f:Nat→Option Int) (n:Nat):Int:=match B4 f n with|some e=>e|none=>0
def a9c (xs:List D):Int:=bif decide (16<xs.length) then 4 else f7n (X7 xs) xs.length
def f6s:Ev.Spec:={L:=[0,8,9,10],ns:=[],L':=[2],nm':=[],G:=fun N vals bs k=>match vals,bs with
 | [.d (.slice b 2 xs), .d (.slice b' 2 xs'), .d (.lit (.int .i64 n)), .d (.lit (.int .i64 i))], []=>(N=44∧b'=b∧xs'=xs∧i=0∧n=xs.length∧xs.length≤16∧f2d 209 xs)∧Y6 (B4 (X7 xs) xs.length) (k (.exit 0) [.any] []) (fun e=>k .ret [A4 e] [])
 | _,_=>False }
def g8c:Ct:=⟨fun | [.slice _ z xs]=>z=2∧f2d 209 xs|_=>False,fun | [.slice _ _ xs]=>some (.lit (.int .i64 (a9c xs)))|_=>none⟩
def f5v:Tab:=e5j.add 191 g8c
def g8h:Ct:=⟨fun _=>True,fun | [.lit (.string s)]=>some (.lit (.bool (K7 s)))|_=>none⟩
def f6c:Tab:=f5v.add 144 g8h
def J6 (s:ByteArray):Bool:=eqS s (ByteArray.mk #[115,116,97,116,117,115])||eqS s (ByteArray.mk #[100,117,114,97,116,105,111,110])
def c143:Ct:=⟨fun _=>True,fun | [.lit (.string s)]=>some (.lit (.bool (J6 s)))|_=>none⟩
def f6d:Tab:=f6c.add 143 c143
def Q5 (s t:ByteArray):Bool:=decide (t.size≤s.size)&&eqS (s.extract 0 t.size) t
def c212:Ct:=⟨fun _=>True,fun | [.lit (.string s), .lit (.string t)]=>some (.lit (.bool (Q5 s t)))|_=>none⟩
def f5s:Tab:=f6d.add 212 c212
def e5b:Ct:=⟨fun _=>True,fun | [.lit (.string s), .lit (.string t)]=>some (.tup [.lit (.string (bif Q5 s t then s.extract t.size s.size else s)), .lit (.bool (Q5 s t))])|_=>none⟩
def f5w:Tab:=f5s.add 190 e5b
def f6e:Tab:=f5w.add 142 e5b
theorem g8w (xs:List D) (i:Int) (n:Int) (b:Bool) (R:X→List V→List Box→Prop):(G0 (Cn e5j) e5j G1 0 B6 B1 f9x 44 [0,8,9,10] [] [] [] [2] []
 [V.d (D.slice b 2 xs),V.d (D.slice b 2 xs),A4 n,A4 i] [] R) =
 (bif decide (i<n) then
 ((((0:Int)≤i)∧(i.toNat<xs.length∧D.agg
 [zD (A2 (A0 (xs.getD i.toNat D.any) 0)),
 zD (A2 (A0 (xs.getD i.toNat D.any) 1))] =
 xs.getD i.toNat D.any))∧
 (True∧
 (bif !K7 (A2 (A0 (xs.getD i.toNat D.any) 0)) then
 (44=44∧
 R X.ret [A4 5] []) else
 (bif (A2 (A0 (xs.getD i.toNat D.any) (0+1))).toList==(ByteArray.mk #[]).toList then
 (44=44∧
 R X.ret [A4 1] []) else
 (bif decide ((↑(A2 (A0 (xs.getD i.toNat D.any) 1)).size:Int)>200) then
 (44=44∧
 R X.ret [A4 4] []) else
 (((decide (i>0)&&true)=true→(((0:Int)≤IntKind.i64.wrap (i-1))∧((IntKind.i64.wrap (i-1)).toNat<xs.length∧D.agg
 [zD (A2 (A0 (xs.getD (IntKind.i64.wrap (i-1)).toNat D.any) 0)),
 zD (A2 (A0 (xs.getD (IntKind.i64.wrap (i-1)).toNat D.any) 1))] =
 xs.getD (IntKind.i64.wrap (i-1)).toNat D.any)))∧
 (bif bif decide (i>0) then
 Op.bytesLess (A2 (A0 (xs.getD i.toNat D.any) 0)).toList
 (A2 (A0 (xs.getD (IntKind.i64.wrap (i-1)).toNat D.any) 0)).toList ||
 (A2 (A0 (xs.getD i.toNat D.any) 0)).toList ==
 (A2 (A0 (xs.getD (IntKind.i64.wrap (i-1)).toNat D.any) 0)).toList
 else false then
 (44=44∧
 R X.ret [A4 9] []) else
 (44=44∧
 R X.normal
 [V.d (D.slice b 2 xs),V.d (D.slice b 2 xs),A4 n,
 A4 (IntKind.i64.wrap (i+1))]
 [])))))))) else
 (44=44∧
 R (X.exit 0) [V.any] [])):=by kernel_rfl
theorem h2q (xs:List D) (b:Bool) (p:V→Prop):(C2 (Cn e5j) e5j G1 0 (spL [(8,f6s)]) B1 191 [V.d (D.slice b 2 xs)] A9.empty fun v H=>p (B5 H v)) =
 (bif decide ((↑xs.length:Int)>16) then
 p (A4 4) else
 ((44=44∧(b=b∧(xs=xs∧(((0:Int)=0)∧((((↑xs.length:Int):Int)=(↑xs.length:Int))∧(xs.length≤16∧f2d 209 xs))))))∧
 (match B4 (X7 xs) xs.length with
 | some y0 =>
 p (A4 y0)
 | none=>p (A4 0)))):=by kernel_rfl
theorem h3d (s:ByteArray) (p:V→Prop):(C2 (Cn f5v) f5v G1 0 B6 B1 144 [C0 s] A9.empty fun v H=>p (B5 H v)) =
 ((2=2∧f2d 209 [D.agg [zD s,zD (bA [120])]])∧
 p
 (A7 (a9c [D.agg [zD s,zD (bA [120])]]==0))):=by kernel_rfl
theorem h3e (s:ByteArray) (p:V→Prop):(C2 (Cn f6c) f6c G1 0 B6 B1 143 [C0 s] A9.empty fun v H=>p (B5 H v)) =
 p
 (A7 (bif s.toList==(ByteArray.mk #[115,116,97,116,117,115]).toList then true
 else s.toList==(ByteArray.mk #[100,117,114,97,116,105,111,110]).toList)):=by kernel_rfl
theorem h2m (s:ByteArray) (t:ByteArray) (p:V→Prop):(C2 (Cn f6d) f6d G1 0 B6 B1 212 [C0 s,C0 t] A9.empty fun v H=>p (B5 H v)) =
 (((decide ((↑s.size:Int)≥(↑t.size:Int))&&true)=true→(((0:Int)≤(↑t.size:Int))∧(↑t.size:Int).toNat≤s.size))∧
 p
 (A7 (bif decide ((↑s.size:Int)≥(↑t.size:Int)) then (s.extract 0 (↑t.size:Int).toNat).toList==t.toList
 else false))):=by kernel_rfl
theorem h2r (s:ByteArray) (t:ByteArray) (p:V→Prop):(C2 (Cn f5s) f5s G1 0 B6 B1 190 [C0 s,C0 t] A9.empty fun v H=>p (B5 H v)) =
 (True∧
 (bif !Q5 s t then
 p (V.d (D.tup [zD s,oD false])) else
 ((((0:Int)≤(↑t.size:Int))∧(↑t.size:Int).toNat≤s.size)∧
 p (V.d (D.tup [zD (s.extract (↑t.size:Int).toNat s.size),oD true]))))):=by kernel_rfl
theorem h3f (s:ByteArray) (t:ByteArray) (p:V→Prop):(C2 (Cn f5w) f5w G1 0 B6 B1 142 [C0 s,C0 t] A9.empty fun v H=>p (B5 H v)) =
 (True∧
 p
 (V.d
 (D.tup
 [zD (bif Q5 s t then s.extract t.size s.size else s),oD (Q5 s t)]))):=by kernel_rfl
theorem g6o:OkS (Cn e5j) 0 (.loop f9x) f6s:=by
 refine F3 fun N vals bs K h=>?_
 simp only[f6s] at h
 split at h
 case h_2=>exact h.elim
 rename_i b0 xs0 b xs n i
 obtain ⟨⟨rfl,hb,hx,rfl,rfl,h16,hall⟩,h⟩:=h
 subst hb hx
 refine K0 (F8 B9 g6t D1) C4 A8 (hn:=B1) (adsI:=[]) (nsI:=[]) (nsX:=[]) rfl rfl xs.length
  (fun i=>[.d (.slice b 2 xs), .d (.slice b 2 xs),A4 xs.length,A4 i]) (fun _=>[]) (X7 xs) (fun e=>(.ret, [A4 e], [])) (by simp) (.exit 0) [.any] [] (by simp) ?_ ?_ h
 ·
  intro i R hi hR
  refine keep (g8w xs i xs.length b R) ?_
  have e1:decide ((i:Int)<xs.length)=true:=by simp;omega
  have e2:IntKind.i64.wrap ((i:Int)+1)=((i+1:Nat):Int):=by rw[Go.IntWalk.i64_in _ (by omega)];omega
  have e3:0<i→IntKind.i64.wrap ((i:Int)-1)=((i-1:Nat):Int):=fun h=>by rw[Go.IntWalk.i64_in _ (by omega)];omega
  rw[e1]
  simp only[Int.toNat_natCast,e2,cond_true]
  refine ⟨⟨by omega,hi,hall i hi⟩,trivial, ?_⟩
  refine A5 (fun h1=>⟨trivial,by simp only[X7,eqS,leS,h1,cond_true,cond_false,Y6] at hR;exact hR⟩) (fun h1=>?_)
  refine A5 (fun h2=>⟨trivial,by simp only[X7,eqS,leS,h1,h2,cond_true,cond_false,Y6] at hR;exact hR⟩) (fun h2=>?_)
  refine A5 (fun h3=>⟨trivial,by simp only[X7,eqS,leS,h1,h2,h3,cond_true,cond_false,Y6] at hR;exact hR⟩) (fun h3=>?_)
  refine ⟨fun h=>?_, ?_⟩
  ·
   have hz:0<i:=by simp at h;omega
   rw[e3 hz]
   exact ⟨by omega,by omega,hall _ (by omega)⟩
  ·
   have hR':Y6 (bif decide ((i:Int)>0)&&leS (A2 (A0 (xs.getD i .any) 0)) (A2 (A0 (xs.getD (i-1) .any) 0)) then some 9 else none) (R X.normal [V.d (D.slice b 2 xs),V.d (D.slice b 2 xs),A4 ↑xs.length,A4 ↑(i+1)] []) (fun e=>R .ret [A4 e] []):=by
    simp only[X7,eqS,h1,h2,h3,cond_true,cond_false] at hR;exact hR
   by_cases hz:0<i
   ·
    have e4:decide ((i:Int)>0)=true:=by simp;omega
    rw[e4] at hR' ⊢
    rw[e3 hz]
    simp only[cond_true,Bool.true_and,Int.toNat_natCast] at hR' ⊢
    refine A5 (fun h4=>⟨trivial, ?_⟩) (fun h4=>⟨trivial, ?_⟩)
    ·
     rw[show leS _ _=true from h4] at hR';exact hR'
    ·
     rw[show leS _ _=false from h4] at hR';exact hR'
   ·
    have e4:decide ((i:Int)>0)=false:=by simp;omega
    rw[e4] at hR' ⊢
    exact ⟨trivial,hR'⟩
 ·
  intro R hR
  refine keep (g8w xs xs.length xs.length b R) ?_
  have e1:decide ((xs.length:Int)<xs.length)=false:=by simp
  rw[e1]
  exact ⟨rfl,hR⟩
theorem h4z:D0 B f5v:=by
 refine D2 B9 g6t (fn:=Tryz.f191) (cd:=B2 Tryz.f191) (sp:=spL [(8,f6s)]) (hn:=B1) Tryz.func191 (by kernel_rfl) (by kernel_rfl) (C9 (c:=.loop f9x) (by kernel_rfl) g6o E5) fun ds r hp hr=>?_
 unfold g8c at hp hr
 simp only[] at hr
 split at hr
 ·
  rename_i b z xs
  cases hr
  obtain ⟨rfl,hall⟩:=hp
  refine keep (h2q xs b fun v=>v=_) ?_
  unfold a9c f7n
  have e1:decide ((xs.length:Int)>16)=decide (16<xs.length):=by simp;omega
  rw[e1]
  by_cases h:16<xs.length
  ·
   simp[h]
  ·
   simp only[h,decide_false,cond_false]
   refine ⟨⟨trivial,trivial,trivial,trivial,trivial,by omega,hall⟩, ?_⟩
   cases B4 (X7 xs) xs.length<;>simp
 ·
  cases hr
theorem a4z (s:ByteArray):(a9c [.agg [.lit (.string s), .lit (.string (ByteArray.mk (Array.mk [120])))]]==0)=K7 s:=by
 have h:X7 [.agg [.lit (.string s), .lit (.string (ByteArray.mk (Array.mk [120])))]] 0=bif !K7 s then some 5 else none:=by
  show (bif !K7 s then some 5 else _)=_
  cases K7 s<;>kernel_rfl
 show ((match B4 (X7 _) 1 with|some e=>e|none=>0)==0)=_
 unfold B4 rounds
 simp only[h]
 cases K7 s<;>rfl
theorem h5g:D0 B f6c:=by
 refine D2 B9 h4z (fn:=Tryz.f144) (cd:=B2 Tryz.f144) (sp:=B6) (hn:=B1) Tryz.func144 (by kernel_rfl) (by kernel_rfl) A8 fun ds r hp hr=>?_
 unfold g8h at hr
 simp only[] at hr
 split at hr
 ·
  rename_i s
  cases hr
  refine keep (h3d s fun v=>v=_) ?_
  rw[a4z]
  exact ⟨⟨rfl,fun i hi=>by
   cases i with
   | zero=>rfl
   | succ i=>simp at hi⟩,rfl⟩
 ·
  cases hr
theorem h5h:D0 B f6d:=by
 refine D2 B9 h5g (fn:=Tryz.f143) (cd:=B2 Tryz.f143) (sp:=B6) (hn:=B1) Tryz.func143 (by kernel_rfl) (by kernel_rfl) A8 fun ds r hp hr=>?_
 unfold c143 at hr
 simp only[] at hr
 split at hr
 ·
  rename_i s
  cases hr
  refine keep (h3e s fun v=>v=_) ?_
  simp[J6,eqS]
 ·
  cases hr
theorem h4w:D0 B f5s:=by
 refine D2 B9 h5h (fn:=Tryz.f212) (cd:=B2 Tryz.f212) (sp:=B6) (hn:=B1) Tryz.func212 (by kernel_rfl) (by kernel_rfl) A8 fun ds r hp hr=>?_
 unfold c212 at hr
 simp only[] at hr
 split at hr
 ·
  rename_i s t
  cases hr
  refine keep (h2m s t fun v=>v=_) ?_
  refine ⟨fun h=>⟨by omega,by simp at h;omega⟩, ?_⟩
  have e:decide ((s.size:Int)≥(t.size:Int))=decide (t.size≤s.size):=by simp
  rw[e]
  simp[Q5]
 ·
  cases hr
theorem h5a:D0 B f5w:=by
 refine D2 B9 h4w (fn:=Tryz.f190) (cd:=B2 Tryz.f190) (sp:=B6) (hn:=B1) Tryz.func190 (by kernel_rfl) (by kernel_rfl) A8 fun ds r hp hr=>?_
 unfold e5b at hr
 simp only[] at hr
 split at hr
 ·
  rename_i s t
  cases hr
  refine keep (h2r s t fun v=>v=_) ?_
  refine ⟨trivial, ?_⟩
  refine A5 (fun h=>?_) (fun h=>?_)
  ·
   have:Q5 s t=false:=by simpa using h
   rw[this];rfl
  ·
   have hq:Q5 s t=true:=by simpa using h
   have hle:t.size≤s.size:=by unfold Q5 at hq;simp at hq;exact hq.1
   rw[hq]
   exact ⟨⟨by omega,by simp;exact hle⟩,by simp⟩
 ·
  cases hr
theorem g6v:D0 B f6e:=by
 refine D2 B9 h5a (fn:=Tryz.f142) (cd:=B2 Tryz.f142) (sp:=B6) (hn:=B1) Tryz.func142 (by kernel_rfl) (by kernel_rfl) A8 fun ds r hp hr=>?_
 unfold e5b at hr
 simp only[] at hr
 split at hr
 ·
  rename_i s t
  cases hr
  refine keep (h3f s t fun v=>v=_) ?_
  exact ⟨trivial,rfl⟩
 ·
  cases hr
def a2r (c:Int):Bool:=decide (48≤c)&&decide (c≤57)
def W8 (c:Int):Bool:=(decide (97≤c)&&decide (c≤122))||(decide (65≤c)&&decide (c≤90))
def g7x:Ct:=⟨fun _=>True,fun | [.lit (.int .u8 c)]=>some (.lit (.bool (a2r c)))|_=>none⟩
def g7v:Ct:=⟨fun _=>True,fun | [.lit (.int .u8 c)]=>some (.lit (.bool (W8 c)))|_=>none⟩
def g7w:Ct:=⟨fun _=>True,fun | [.lit (.int .u8 c)]=>some (.lit (.bool (W8 c||a2r c||c==95)))|_=>none⟩
def g7z:Ct:=⟨fun _=>True,fun | [.lit (.int .u8 c)]=>some (.lit (.bool true))|_=>none⟩
def f5r:Tab:=f6e.add 269 g7x
def f5p:Tab:=f5r.add 271 g7v
def f5q:Tab:=f5p.add 270 g7w
def Q4:Tab:=f5q.add 260 g7z
theorem g9v (c:Int) (p:V→Prop):(C2 (Cn f6e) f6e G1 0 B6 B1 269 [V.d (D.lit (Value.int IntKind.u8 c))] A9.empty fun v H=>p (B5 H v)) =
 p (A7 (bif decide (48≤c) then decide (c≤57) else false)):=by kernel_rfl
theorem g9t (c:Int) (p:V→Prop):(C2 (Cn f5r) f5r G1 0 B6 B1 271 [V.d (D.lit (Value.int IntKind.u8 c))] A9.empty fun v H=>p (B5 H v)) =
 p
 (A7 (bif bif decide (97≤c) then decide (c≤122) else false then true
 else bif decide (65≤c) then decide (c≤90) else false)):=by kernel_rfl
theorem g9u (c:Int) (p:V→Prop):(C2 (Cn f5p) f5p G1 0 B6 B1 270 [V.d (D.lit (Value.int IntKind.u8 c))] A9.empty fun v H=>p (B5 H v)) =
 (True∧
 (((!W8 c&&true)=true→True)∧
 p (A7 (bif bif W8 c then true else a2r c then true else c==95)))):=by kernel_rfl
theorem h2b (c:Int) (p:V→Prop):(C2 (Cn f5q) f5q G1 0 B6 B1 260 [V.d (D.lit (Value.int IntKind.u8 c))] A9.empty fun v H=>p (B5 H v)) =
 p (A7 true):=by kernel_rfl
abbrev psB (s:ByteArray) (i:Int):Box:=.cells 213 [C0 s,A4 i]
def d5w (bs:List Box):Prop:=match bs with
 | [.cells 213 [.d (.lit (.string s)), .d (.lit (.int .i64 i))]]=>0≤i∧i≤s.size∧s.size≤200
 | _=>False
def e2v:Sm:=⟨fun _ bs=>d5w bs,fun vals bs=>match vals,bs with
 | [.ptr [0,0] 0], [.cells 213 [.d (.lit (.string s)), .d (.lit (.int .i64 i))]]=>some (i==s.size,(.d (.tup [.lit (.int .u8 0), .lit (.bool false)]), [psB s i], []),(.d (.tup [.lit (.int .u8 (B3 s i.toNat)), .lit (.bool true)]), [psB s i], []))
 | _,_=>none⟩
def P0 (s:ByteArray) (i c:Int):Bool:= !(i==s.size)&&B3 s i.toNat==c
def b9r:Sm:=⟨fun _ bs=>d5w bs,fun vals bs=>match vals,bs with
 | [.ptr [0,0] 0, .d (.lit (.int .u8 c))], [.cells 213 [.d (.lit (.string s)), .d (.lit (.int .i64 i))]]=>some (P0 s i c,(A7 true, [psB s (i+1)], []),(A7 false, [psB s i], []))
 | _,_=>none⟩
abbrev e6x (c:Int):Box:=.cells 239 [A4 0,A7 true, .d (.lit (.int .u8 c)), .d (.lit (.pointer none)), .d (.slice true 0 [])]
def e2u:Sm:=⟨fun _ _=>True,fun vals bs=>match vals,bs with
 | [.d (.lit (.int .u8 c))], []=>one (.ptr [2] 0) [] [e6x c]
 | _,_=>none⟩
def a7t (s:ByteArray) (i:Int):Bool:=decide (i+1<s.size)&&(B3 s i.toNat==45&&B3 s (i+1).toNat !=93)
def f8z:Sm:=⟨fun _ bs=>d5w bs,fun vals bs=>match vals,bs with
 | [.ptr [0,0] 0], [.cells 213 [.d (.lit (.string s)), .d (.lit (.int .i64 i))]]=>one (A7 (a7t s i)) [psB s i] []
 | _,_=>none⟩
def g3r:J5:=e7g.add 231 e2v
def g3s:J5:=g3r.add 215 b9r
def g3n:J5:=g3s.add 263 e2u
def g3m:J5:=g3n.add 267 f8z
def e00:List (List (A6×A6)):=[[([0,0],[0,0])]]
theorem h2g (s:ByteArray) (i:Int) (R:V→List Box→Prop):(E4 (Cn Q4) Q4 (K4 e7g) 1 B6 B1 [] e00 231 [V.ptr [0,0] 0] (G3 [psB s i]) R) =
 (bif i==(↑s.size:Int) then
 R (V.d (D.tup [D.lit (Value.int IntKind.u8 0),oD false]))
 [Box.cells 213 [C0 s,A4 i]] else
 ((((0:Int)≤i)∧i.toNat<s.size)∧
 R (V.d (D.tup [D.lit (Value.int IntKind.u8 (B3 s i.toNat)),oD true]))
 [Box.cells 213 [C0 s,A4 i]])):=by kernel_rfl
theorem h2i (s : ByteArray) (i : Int) (c : Int) (R : V → List Box → Prop) : (E4 (Cn Q4) Q4 (K4 g3r) 1 B6 B1 [] e00 215 [V.ptr [0, 0] 0, V.d (D.lit (Value.int IntKind.u8 c))]
  (G3 [psB s i]) R) =
  (((!i == (↑s.size : Int) && true) = true → (((0 : Int) ≤ i) ∧ i.toNat < s.size)) ∧
  (bif bif i == (↑s.size : Int) then true else B3 s i.toNat != c then
   R (A7 false) [Box.cells 213 [C0 s, A4 i]] else
   R (A7 true)
  [Box.cells 213 [C0 s, A4 (IntKind.i64.wrap (i + 1))]])) := by kernel_rfl
theorem g9z (c:Int) (R:V→List Box→Prop):(E4 (Cn Q4) Q4 (K4 g3s) 0 B6 B1 [] [[([2], [7])]] 263 [V.d (D.lit (Value.int IntKind.u8 c))] (G3 []) R) =
 R (V.ptr [2] 0)
 [Box.cells 239
 [A4 0,A7 true,V.d (D.lit (Value.int IntKind.u8 c)),
 V.d (D.lit (Value.pointer none)),V.d (D.slice true 0 [])]]:=by kernel_rfl
theorem g9x (s:ByteArray) (i:Int) (R:V→List Box→Prop):(E4 (Cn Q4) Q4 (K4 g3n) 1 B6 B1 [] e00 267 [V.ptr [0,0] 0] (G3 [psB s i]) R) =
 (((decide (IntKind.i64.wrap (i+1)<(↑s.size:Int))&&true)=true→(((0:Int)≤i)∧i.toNat<s.size))∧
 ((((bif decide (IntKind.i64.wrap (i+1)<(↑s.size:Int)) then B3 s i.toNat==45 else false)&&true)=true→(((0:Int)≤IntKind.i64.wrap (i+1))∧(IntKind.i64.wrap (i+1)).toNat<s.size))∧
 R
 (A7 (bif bif decide (IntKind.i64.wrap (i+1)<(↑s.size:Int)) then B3 s i.toNat==45 else false then
   B3 s (IntKind.i64.wrap (i+1)).toNat !=93
  else false))
 [Box.cells 213 [C0 s,A4 i]])):=by kernel_rfl
theorem h4v:D0 B f5r:=by
 refine D2 B9 g6v (fn:=Tryz.f269) (cd:=B2 Tryz.f269) (sp:=B6) (hn:=B1) Tryz.func269 (by kernel_rfl) (by kernel_rfl) A8 fun ds r hp hr=>?_
 unfold g7x at hr
 simp only[] at hr
 split at hr
 ·
  rename_i c
  cases hr
  exact keep (g9v c fun v=>v=_) (by simp[a2r])
 ·
  cases hr
theorem h4t:D0 B f5p:=by
 refine D2 B9 h4v (fn:=Tryz.f271) (cd:=B2 Tryz.f271) (sp:=B6) (hn:=B1) Tryz.func271 (by kernel_rfl) (by kernel_rfl) A8 fun ds r hp hr=>?_
 unfold g7v at hr
 simp only[] at hr
 split at hr
 ·
  rename_i c
  cases hr
  exact keep (g9t c fun v=>v=_) (by simp[W8])
 ·
  cases hr
theorem h4u:D0 B f5q:=by
 refine D2 B9 h4t (fn:=Tryz.f270) (cd:=B2 Tryz.f270) (sp:=B6) (hn:=B1) Tryz.func270 (by kernel_rfl) (by kernel_rfl) A8 fun ds r hp hr=>?_
 unfold g7w at hr
 simp only[] at hr
 split at hr
 ·
  rename_i c
  cases hr
  exact keep (g9u c fun v=>v=_) (by simp)
 ·
  cases hr
theorem a8h:D0 B Q4:=by
 refine D2 B9 h4u (fn:=Tryz.f260) (cd:=B2 Tryz.f260) (sp:=B6) (hn:=B1) Tryz.func260 (by kernel_rfl) (by kernel_rfl) A8 fun ds r hp hr=>?_
 unfold g7z at hr
 simp only[] at hr
 split at hr
 ·
  rename_i c
  cases hr
  exact keep (h2b c fun v=>v=_) rfl
 ·
  cases hr
theorem a6p:e00.all (fun ns=>U0 ns==K9 1++J7 ((U0 ns).length-1))=true:=by kernel_rfl
theorem d7z {i:Int} {s:ByteArray} (h0:0≤i) (h1:i≤s.size) (h2:s.size≤200):IntKind.i64.wrap (i+1)=i+1:=by rw[Go.IntWalk.i64_in _ (by omega)]
theorem g5z:H5 B g3r:=by
 refine M8 c7f fun vals bs c x y hp hf=>?_
 unfold e2v at hp hf
 simp only[] at hp hf
 split at hf
 case h_2=>cases hf
 rename_i s i
 simp only[Option.some.injEq,Prod.mk.injEq] at hf
 obtain ⟨rfl,rfl,rfl⟩:=hf
 obtain ⟨h0,h1,h2⟩:=hp
 refine E9 B9 a8h c7f (fn:=Tryz.f231) (cd:=B2 Tryz.f231) (sp:=B6) (hn:=B1) (k:=1) (ads:=[]) (ends:=e00) Tryz.func231 (by kernel_rfl) (by kernel_rfl) (by kernel_rfl) a6p A8 rfl (by cases (i==(s.size:Int))<;>rfl) (keep (h2g s i _) ?_)
 refine A5 (fun h=>?_) (fun h=>?_)
 ·
  rw[h];exact ⟨rfl,rfl⟩
 ·
  have:i≠s.size:=by simpa using h
  rw[h];exact ⟨⟨h0,by omega⟩,rfl,rfl⟩
theorem g6a:H5 B g3s:=by
 refine M8 g5z fun vals bs c x y hp hf=>?_
 unfold b9r at hp hf
 simp only[] at hp hf
 split at hf
 case h_2=>cases hf
 rename_i c s i
 simp only[Option.some.injEq,Prod.mk.injEq] at hf
 obtain ⟨rfl,rfl,rfl⟩:=hf
 obtain ⟨h0,h1,h2⟩:=hp
 refine E9 B9 a8h g5z (fn:=Tryz.f215) (cd:=B2 Tryz.f215) (sp:=B6) (hn:=B1) (k:=1) (ads:=[]) (ends:=e00) Tryz.func215 (by kernel_rfl) (by kernel_rfl) (by kernel_rfl) a6p A8 rfl (by cases P0 s i c<;>rfl) (keep (h2i s i c _) ?_)
 rw[d7z h0 h1 h2]
 refine ⟨fun h=>⟨h0,by simp at h;omega⟩, ?_⟩
 refine A5 (fun h=>?_) (fun h=>?_)
 ·
  have:P0 s i c=false:=by unfold P0;revert h;cases (i==(s.size:Int))<;>simp[bne]
  rw[this];exact ⟨rfl,rfl⟩
 ·
  have:P0 s i c=true:=by unfold P0;revert h;cases (i==(s.size:Int))<;>simp[bne]
  rw[this];exact ⟨rfl,rfl⟩
theorem g5w:H5 B g3n:=by
 refine M8 g6a fun vals bs c x y hp hf=>?_
 unfold e2u at hf
 simp only[] at hf
 split at hf
 case h_2=>cases hf
 rename_i c
 simp only[one,Option.some.injEq,Prod.mk.injEq] at hf
 obtain ⟨rfl,rfl,rfl⟩:=hf
 refine E9 B9 a8h g6a (fn:=Tryz.f263) (cd:=B2 Tryz.f263) (sp:=B6) (hn:=B1) (k:=0) (ads:=[]) (ends:=[[([2],[7])]]) Tryz.func263 (by kernel_rfl) (by kernel_rfl) (by kernel_rfl) (by kernel_rfl) A8 rfl rfl (keep (g9z c _) ⟨rfl,rfl⟩)
theorem g5v:H5 B g3m:=by
 refine M8 g5w fun vals bs c x y hp hf=>?_
 unfold f8z at hp hf
 simp only[] at hp hf
 split at hf
 case h_2=>cases hf
 rename_i s i
 simp only[one,Option.some.injEq,Prod.mk.injEq] at hf
 obtain ⟨rfl,rfl,rfl⟩:=hf
 obtain ⟨h0,h1,h2⟩:=hp
 refine E9 B9 a8h g5w (fn:=Tryz.f267) (cd:=B2 Tryz.f267) (sp:=B6) (hn:=B1) (k:=1) (ads:=[]) (ends:=e00) Tryz.func267 (by kernel_rfl) (by kernel_rfl) (by kernel_rfl) a6p A8 rfl (by rfl) (keep (g9x s i _) ?_)
 rw[d7z h0 h1 h2]
 refine ⟨fun h=>⟨h0, ?_⟩,fun h=>⟨by omega, ?_⟩,congrArg (fun b=>V.d (D.lit (Value.bool b))) ?_,rfl⟩
 ·
  have h:=of_decide_eq_true (by simpa using h:decide (i+1<(s.size:Int))=true)
  omega
 ·
  cases hd:decide (i+1<(s.size:Int)) with
  | true=>have:=of_decide_eq_true hd;omega
  | false=>rw[hd] at h;simp at h
 ·
  unfold a7t
  cases decide (i+1<(s.size:Int))<;>cases (B3 s i.toNat==45)<;>rfl
def f8y:Sm:=⟨fun vals _=>match vals with | .d (.lit (.int .u8 c))::_=>0≤c∧c<256|_=>False,fun vals bs=>match vals,bs with
 | [.d (.lit (.int .u8 c)), .ptr [0,0] 0, .ptr [0,1] 0], [.bools 289 256, .cells 4 [.d (.lit (.bool b))]]=>one (.d .anyB) [.bools 289 256, .cells 4 [A7 b]] []
 | _,_=>none⟩
def c8t:J5:=g3m.add 268 f8y
theorem g9w (c:Int) (b:Bool) (R:V→List Box→Prop):(E4 (Cn Q4) Q4 (K4 g3m) 2 B6 B1 [] [[([0,0], [0,0]),([0,1], [0,1])]] 268
 [V.d (D.lit (Value.int IntKind.u8 c)),V.ptr [0,0] 0,V.ptr [0,1] 0]
 (G3 [Box.bools 289 256,Box.cells 4 [A7 b]]) R) =
 ((((0:Int)≤c)∧c.toNat<256)∧
 (0+c.toNat*1<256∧
 R (V.d D.anyB) [Box.bools 289 256,Box.cells 4 [A7 b]])):=by kernel_rfl
noncomputable def c4g:Code:=F5 (F9 (B2 Tryz.f259) 6)
theorem e9q (i:Int) (R:X→List V→List Box→Prop):(G0 (Cn Q4) Q4 (K4 c8t) 0 B6 B1 c4g 15 [0,3,5] [[5000]] [] [([5000], [5000])] [3] [([5000], [5000])]
 [V.fn (Fn.func 260) [] [],V.ptr [5000] 0,A4 i] [Box.bools 289 256] R) =
 (bif decide (i<256) then
 (True∧
 ((((0:Int)≤i)∧i.toNat<256)∧
 (0+i.toNat*1<256∧
 (15=15∧
 R X.normal [V.fn (Fn.func 260) [] [],V.ptr [5000] 0,A4 (IntKind.i64.wrap (i+1))]
 [Box.bools 289 256])))) else
 (15=15∧
 R (X.exit 0) [V.ptr [5000] 0] [Box.bools 289 256])):=by kernel_rfl
theorem e9p (i:Int) (R:X→List V→List Box→Prop):(G0 (Cn Q4) Q4 (K4 c8t) 0 B6 B1 c4g 15 [0,3,5] [[5000]] [] [([5000], [5000])] [3] [([5000], [5000])]
 [V.fn (Fn.func 269) [] [],V.ptr [5000] 0,A4 i] [Box.bools 289 256] R) =
 (bif decide (i<256) then
 (True∧
 ((((0:Int)≤i)∧i.toNat<256)∧
 (0+i.toNat*1<256∧
 (15=15∧
 R X.normal [V.fn (Fn.func 269) [] [],V.ptr [5000] 0,A4 (IntKind.i64.wrap (i+1))]
 [Box.bools 289 256])))) else
 (15=15∧
 R (X.exit 0) [V.ptr [5000] 0] [Box.bools 289 256])):=by kernel_rfl
theorem e9o (i:Int) (R:X→List V→List Box→Prop):(G0 (Cn Q4) Q4 (K4 c8t) 0 B6 B1 c4g 15 [0,3,5] [[5000]] [] [([5000], [5000])] [3] [([5000], [5000])]
 [V.fn (Fn.func 270) [] [],V.ptr [5000] 0,A4 i] [Box.bools 289 256] R) =
 (bif decide (i<256) then
 (True∧
 ((((0:Int)≤i)∧i.toNat<256)∧
 (0+i.toNat*1<256∧
 (15=15∧
 R X.normal [V.fn (Fn.func 270) [] [],V.ptr [5000] 0,A4 (IntKind.i64.wrap (i+1))]
 [Box.bools 289 256])))) else
 (15=15∧
 R (X.exit 0) [V.ptr [5000] 0] [Box.bools 289 256])):=by kernel_rfl
theorem d4w (i:Int) (b:Bool) (R:X→List V→List Box→Prop):(G0 (Cn Q4) Q4 (K4 c8t) 2 B6 B1 c4g 15 [0,3,5] [[0,0], [0,1], [5000]] []
 [([0,0], [0,0]),([0,1], [0,1]),([5000], [5000])] [3] [([0,0], [0,0]),([0,1], [0,1]),([5000], [5000])]
 [V.fn (Fn.func 268) [] [V.ptr [0,0] 0,V.ptr [0,1] 0],V.ptr [5000] 0,A4 i]
 [Box.bools 289 256,Box.cells 4 [A7 b],Box.bools 289 256] R) =
 (bif decide (i<256) then
 (f8y.pre [V.d (D.lit (Value.int IntKind.u8 (IntKind.u8.wrap i))),V.ptr [0,0] 0,V.ptr [0,1] 0]
 [Box.bools 289 256,Box.cells 4 [A7 b]]∧
 ((((0:Int)≤i)∧i.toNat<256)∧
 (0+i.toNat*1<256∧
 (15=15∧
 R X.normal
 [V.fn (Fn.func 268) [] [V.ptr [0,0] 0,V.ptr [0,1] 0],V.ptr [5000] 0,
 A4 (IntKind.i64.wrap (i+1))]
 [Box.bools 289 256,Box.cells 4 [A7 b],Box.bools 289 256])))) else
 (15=15∧
 R (X.exit 0) [V.ptr [5000] 0] [Box.bools 289 256,Box.cells 4 [A7 b],Box.bools 289 256])):=by kernel_rfl
def e7d (K:Nat):Bool:=K==260||(K==269||K==270)
def f6n:Ev.Spec:={L:=[0,3,5],ns:=[([5000],[5])],ads:=[.bools [5]],L':=[3],nm':=[[5000]],G:=fun N vals bs k=>match vals,bs with
 | [.fn (.func K) [] [], .ptr [5000] 0, .d (.lit (.int .i64 i))], [.bools 289 256]=>(N=15∧i=0∧e7d K=true)∧k (.exit 0) [.ptr [5000] 0] [.bools 289 256]
 | _,_=>False }
def e2i:Ev.Spec:={L:=[0,3,5],ns:=[([0,0],[0,0]),([0,1],[0,1]),([5000],[5])],ads:=[.bools [5]],L':=[3],nm':=[[0,0],[0,1],[5000]],G:=fun N vals bs k=>match vals,bs with
 | [.fn (.func 268) [] [.ptr [0,0] 0, .ptr [0,1] 0], .ptr [5000] 0, .d (.lit (.int .i64 i))], [.bools 289 256, .cells 4 [.d (.lit (.bool b))], .bools 289 256]=>(N=15∧i=0)∧k (.exit 0) [.ptr [5000] 0] [.bools 289 256, .cells 4 [A7 b], .bools 289 256]
 | _,_=>False }
def d5s:Sm:=⟨fun _ _=>True,fun vals bs=>match vals,bs with
 | [.fn (.func K) [] []], []=>bif e7d K then one (.d .any) [] [] else none
 | [.fn (.func 268) [] [.ptr [0,0] 0, .ptr [0,1] 0]], [.bools 289 256, .cells 4 [.d (.lit (.bool b))]]=>one (.d .any) [.bools 289 256, .cells 4 [A7 b]] []
 | _,_=>none⟩
def g3p:J5:=c8t.add 259 d5s
theorem h2c (K:Nat) (R:V→List Box→Prop):(E4 (Cn Q4) Q4 (K4 c8t) 0 (spL [(6,f6n)]) B1 [Ad.flat 2] [[]] 259 [V.fn (Fn.func K) [] []] (G3 []) R) =
 ((15=15∧(((0:Int)=0)∧e7d K=true))∧
 R (V.d D.any) []):=by kernel_rfl
theorem g5k (b:Bool) (R:V→List Box→Prop):(E4 (Cn Q4) Q4 (K4 c8t) 2 (spL [(6,e2i)]) B1 [Ad.flat 2] [[([0,0], [0,0]),([0,1], [0,1])]] 259
 [V.fn (Fn.func 268) [] [V.ptr [0,0] 0,V.ptr [0,1] 0]] (G3 [Box.bools 289 256,Box.cells 4 [A7 b]]) R) =
 ((15=15∧((0:Int)=0))∧
 R (V.d D.any) [Box.bools 289 256,Box.cells 4 [A7 b]]):=by kernel_rfl
theorem e6s:H5 B c8t:=by
 refine M8 g5v fun vals bs c x y hp hf=>?_
 unfold f8y at hp hf
 simp only[] at hp hf
 split at hf
 case h_2=>cases hf
 rename_i c b
 simp only[one,Option.some.injEq,Prod.mk.injEq] at hf
 obtain ⟨rfl,rfl,rfl⟩:=hf
 obtain ⟨h0,h1⟩:=hp
 refine E9 B9 a8h g5v (fn:=Tryz.f268) (cd:=B2 Tryz.f268) (sp:=B6) (hn:=B1) (k:=2) (ads:=[]) (ends:=[[([0,0],[0,0]),([0,1],[0,1])]]) Tryz.func268 (by kernel_rfl) (by kernel_rfl) (by kernel_rfl) (by kernel_rfl) A8 rfl rfl (keep (g9w c b _) ?_)
 exact ⟨⟨h0,by omega⟩,by omega,rfl,rfl⟩
theorem f8q (i:Int):0≤IntKind.u8.wrap i∧IntKind.u8.wrap i<256:=by
 have h:IntKind.u8.wrap i=i % 256:=by rfl
 rw[h];omega
theorem g6i:OkS (Cn Q4) 0 (.loop c4g) f6n:=by
 refine F3 fun N vals bs K h=>?_
 simp only[f6n] at h
 split at h
 case h_2=>exact h.elim
 rename_i F i
 obtain ⟨⟨rfl,rfl,hF⟩,h⟩:=h
 have key:∀F:Nat,(∀(i:Int) R,a7i (G0 (Cn Q4) Q4 (K4 c8t) 0 B6 B1 c4g 15 [0,3,5] [[5000]] [] [([5000],[5000])] [3] [([5000],[5000])] [.fn (.func F) [] [], .ptr [5000] 0,A4 i] [.bools 289 256] R)∨¬(bif decide (i<256) then (True∧((((0:Int)≤i)∧i.toNat<256)∧(0+i.toNat*1<256∧(15=15∧R X.normal [V.fn (Fn.func F) [] [],V.ptr [5000] 0,A4 (IntKind.i64.wrap (i+1))] [Box.bools 289 256])))) else (15=15∧R (X.exit 0) [V.ptr [5000] 0] [Box.bools 289 256])))→
   N2 (Cn Q4) 0 c4g 15 [0,3,5] [[5000]] [3] [[5000]] [.fn (.func F) [] [], .ptr [5000] 0,A4 0] [.bools 289 256] K:=by
  intro F hb
  refine b3c (M7 B9 a8h e6s) C4 A8 (hn:=B1) (adsI:=[]) (nsI:=[([5000],[5000])]) (nsX:=[([5000],[5000])]) rfl rfl 256 (fun _ (_:Unit)=>True)
   (fun i _=>[.fn (.func F) [] [], .ptr [5000] 0,A4 i]) (fun _ _=>[.bools 289 256]) (fun i _=>.inl ()) (.exit 0) (fun _=>[.ptr [5000] 0]) (fun _=>[.bools 289 256]) (by simp) ?_ ?_ 256 0 () rfl trivial ?_
  ·
   intro i a R hi _ hR
   refine (hb i R).resolve_right (fun hn=>hn ?_)
   have e1:decide ((i:Int)<256)=true:=by simp;omega
   have e2:IntKind.i64.wrap ((i:Int)+1)=((i+1:Nat):Int):=by rw[Go.IntWalk.i64_in _ (by omega)];omega
   rw[e1,e2]
   exact ⟨trivial,⟨by omega,by omega⟩,by omega,rfl,hR trivial⟩
  ·
   intro a R _ hR
   refine (hb 256 R).resolve_right (fun hn=>hn ?_)
   exact ⟨rfl,hR⟩
  ·
   have:∀n i,rounds (β:=X×List V×List Box) (fun (_:Nat) (_:Unit)=>.inl ()) n i ()= .inl ():=by
    intro n
    induction n with
    | zero=>intro i;rfl
    | succ n ih=>intro i;exact ih (i+1)
   rw[this];exact h
 have alt:∀{a b:Prop},a=b→a7i a∨¬b:=fun {a b} e=>by
  by_cases hb:b
  ·
   exact .inl (keep e hb)
  ·
   exact .inr hb
 unfold e7d at hF
 simp only[Bool.or_eq_true,beq_iff_eq] at hF
 rcases hF with rfl|rfl|rfl
 ·
  exact key 260 fun i R=>alt (e9q i R)
 ·
  exact key 269 fun i R=>alt (e9p i R)
 ·
  exact key 270 fun i R=>alt (e9o i R)
theorem f9j:OkS (Cn Q4) 2 (.loop c4g) e2i:=by
 refine F3 fun N vals bs K h=>?_
 simp only[e2i] at h
 split at h
 case h_2=>exact h.elim
 rename_i i b
 obtain ⟨⟨rfl,rfl⟩,h⟩:=h
 refine b3c (M7 B9 a8h e6s) C4 A8 (hn:=B1) (adsI:=[]) (nsI:=[([0,0],[0,0]),([0,1],[0,1]),([5000],[5000])]) (nsX:=[([0,0],[0,0]),([0,1],[0,1]),([5000],[5000])]) rfl rfl 256 (fun _ (_:Unit)=>True)
   (fun i _=>[.fn (.func 268) [] [.ptr [0,0] 0, .ptr [0,1] 0], .ptr [5000] 0,A4 i]) (fun _ _=>[.bools 289 256, .cells 4 [A7 b], .bools 289 256]) (fun i _=>.inl ()) (.exit 0) (fun _=>[.ptr [5000] 0]) (fun _=>[.bools 289 256, .cells 4 [A7 b], .bools 289 256]) (by simp) ?_ ?_ 256 0 () rfl trivial ?_
 ·
  intro i a R hi _ hR
  refine keep (d4w i b R) ?_
  have e1:decide ((i:Int)<256)=true:=by simp;omega
  have e2:IntKind.i64.wrap ((i:Int)+1)=((i+1:Nat):Int):=by rw[Go.IntWalk.i64_in _ (by omega)];omega
  rw[e1,e2]
  exact ⟨f8q i,⟨by omega,by omega⟩,by omega,rfl,hR trivial⟩
 ·
  intro a R _ hR
  refine keep (d4w 256 b R) ?_
  exact ⟨rfl,hR⟩
 ·
  have:∀n i,rounds (β:=X×List V×List Box) (fun (_:Nat) (_:Unit)=>.inl ()) n i ()= .inl ():=by
   intro n
   induction n with
   | zero=>intro i;rfl
   | succ n ih=>intro i;exact ih (i+1)
  rw[this];exact h
theorem g5y:H5 B g3p:=by
 refine M8 e6s fun vals bs c x y hp hf=>?_
 unfold d5s at hf
 simp only[] at hf
 split at hf
 ·
  rename_i F
  cases hF:e7d F with
  | false=>rw[hF] at hf;cases hf
  | true =>
   rw[hF] at hf
   simp only[one,cond_true,Option.some.injEq,Prod.mk.injEq] at hf
   obtain ⟨rfl,rfl,rfl⟩:=hf
   refine E9 B9 a8h e6s (fn:=Tryz.f259) (cd:=B2 Tryz.f259) (sp:=spL [(6,f6n)]) (hn:=B1) (k:=0) (ads:=[.flat 2]) (ends:=[[]]) Tryz.func259 (by kernel_rfl) (by kernel_rfl) (by kernel_rfl) (by kernel_rfl) (C9 (c:=.loop c4g) (by kernel_rfl) g6i E5) rfl rfl (keep (h2c F _) ?_)
   exact ⟨⟨rfl,rfl,hF⟩,rfl,rfl⟩
 ·
  rename_i b
  simp only[one,Option.some.injEq,Prod.mk.injEq] at hf
  obtain ⟨rfl,rfl,rfl⟩:=hf
  refine E9 B9 a8h e6s (fn:=Tryz.f259) (cd:=B2 Tryz.f259) (sp:=spL [(6,e2i)]) (hn:=B1) (k:=2) (ads:=[.flat 2]) (ends:=[[([0,0],[0,0]),([0,1],[0,1])]]) Tryz.func259 (by kernel_rfl) (by kernel_rfl) (by kernel_rfl) (by kernel_rfl) (C9 (c:=.loop c4g) (by kernel_rfl) f9j E5) rfl rfl (keep (g5k b _) ?_)
  exact ⟨⟨rfl,rfl⟩,rfl,rfl⟩
 ·
  cases hf
abbrev g2t (plain:Bool) (c:Int):Box:=.cells 239 [A4 0,A7 plain, .d (.lit (.int .u8 c)), .d .any, .d (.slice true 0 [])]
def a4b (c:Int):Bool:= !(c==100||c==119)
def a4r (c:Int):Int:=bif c==110 then 10 else bif c==116 then 9 else bif c==100||c==119 then 0 else c
def b3a (c:Int):Bool:=c==110||(c==116||(c==100||(c==119|| !(W8 c||a2r c))))
def V3 (s:ByteArray) (i:Int):Bool:= !(i==s.size)&&b3a (B3 s i.toNat)
def a2z (s:ByteArray) (i:Int):Int:=bif i==s.size then i else i+1
def f2u:Sm:=⟨fun _ bs=>d5w bs,fun vals bs=>match vals,bs with
 | [.ptr [0,0] 0], [.cells 213 [.d (.lit (.string s)), .d (.lit (.int .i64 i))]]=>some (V3 s i,(.tup [.ptr [2] 0,A7 true], [psB s (i+1)], [g2t (a4b (B3 s i.toNat)) (a4r (B3 s i.toNat))]),(.d (.tup [.lit (.pointer none), .lit (.bool false)]), [psB s (a2z s i)], []))
 | _,_=>none⟩
def g3o:J5:=g3p.add 261 f2u
def g7c:Nat→Option a2e:=fun id=>match id with
 | 6=>some {ads:=[.flatC [25,2] 3] }
 | 8=>some {ads:=[.flatC [29,2] 3] }
 | 10=>some {ads:=[.flatC [35] 3] }
 | 12=>some {ads:=[.flatC [41] 3] }
 | 15=>some {ads:=[.flatC [50,2] 3] }
 | _=>none
def g7p:List (List (A6×A6)):=[[([0,0],[0,0]),([2],[25,2])], [([0,0],[0,0]),([2],[29,2])], [([0,0],[0,0]),([2],[35])], [([0,0],[0,0]),([2],[41])], [([0,0],[0,0]),([2],[50,2])], [([0,0],[0,0])]]
theorem h2a (s : ByteArray) (i : Int) (R : V → List Box → Prop) : (E4 (Cn Q4) Q4 (K4 g3p) 1 B6 g7c [] g7p 261 [V.ptr [0, 0] 0] (G3 [psB s i]) R) =
  (e2v.pre [V.ptr [0, 0] 0] [Box.cells 213 [C0 s, A4 i]] ∧
  (bif i == (↑s.size : Int) then
   R (V.d (D.tup [D.lit (Value.pointer none), oD false]))
  [Box.cells 213 [C0 s, A4 i]] else
   (bif B3 s i.toNat == 110 then
    (e2u.pre [V.d (D.lit (Value.int IntKind.u8 10))] [] ∧
    R (V.tup [V.ptr [2] 0, A7 true])
  [Box.cells 213 [C0 s, A4 (IntKind.i64.wrap (i + 1))],
    Box.cells 239
      [A4 0, A7 true, V.d (D.lit (Value.int IntKind.u8 10)),
        V.d D.any, V.d (D.slice true 0 [])]]) else
    (bif B3 s i.toNat == 116 then
     (e2u.pre [V.d (D.lit (Value.int IntKind.u8 9))] [] ∧
     R (V.tup [V.ptr [2] 0, A7 true])
  [Box.cells 213 [C0 s, A4 (IntKind.i64.wrap (i + 1))],
    Box.cells 239
      [A4 0, A7 true, V.d (D.lit (Value.int IntKind.u8 9)),
        V.d D.any, V.d (D.slice true 0 [])]]) else
     (bif B3 s i.toNat == 100 then
      (d5s.pre [V.fn (Fn.func 269) [] []] [] ∧
      R (V.tup [V.ptr [2] 0, A7 true])
  [Box.cells 213 [C0 s, A4 (IntKind.i64.wrap (i + 1))],
    Box.cells 239
      [A4 0, A7 false, V.d (D.lit (Value.int IntKind.u8 0)),
        V.d D.any, V.d (D.slice true 0 [])]]) else
      (bif B3 s i.toNat == 119 then
       (d5s.pre [V.fn (Fn.func 270) [] []] [] ∧
       R (V.tup [V.ptr [2] 0, A7 true])
  [Box.cells 213 [C0 s, A4 (IntKind.i64.wrap (i + 1))],
    Box.cells 239
      [A4 0, A7 false, V.d (D.lit (Value.int IntKind.u8 0)),
        V.d D.any, V.d (D.slice true 0 [])]]) else
       (True ∧
       (((!W8 (B3 s i.toNat) && true) = true → True) ∧
       (bif bif W8 (B3 s i.toNat) then true else a2r (B3 s i.toNat) then
        R (V.d (D.tup [D.lit (Value.pointer none), oD false]))
  [Box.cells 213 [C0 s, A4 (IntKind.i64.wrap (i + 1))]] else
        (e2u.pre [V.d (D.lit (Value.int IntKind.u8 (B3 s i.toNat)))] [] ∧
        R (V.tup [V.ptr [2] 0, A7 true])
  [Box.cells 213 [C0 s, A4 (IntKind.i64.wrap (i + 1))],
    Box.cells 239
      [A4 0, A7 true,
        V.d (D.lit (Value.int IntKind.u8 (B3 s i.toNat))), V.d D.any, V.d (D.slice true 0 [])]])))))))))) := by kernel_rfl
def P4 (s:ByteArray) (i:Int):Bool:= !(i==s.size)&&(!(B3 s i.toNat==93)&&(B3 s i.toNat !=92||(V3 s (i+1)&&a4b (B3 s (i+1).toNat))))
def u7 (s:ByteArray) (i:Int):Int:=bif B3 s i.toNat !=92 then B3 s i.toNat else a4r (B3 s (i+1).toNat)
def G5 (s:ByteArray) (i:Int):Int:=bif B3 s i.toNat !=92 then i+1 else i+1+1
def X0 (s:ByteArray) (i:Int):Int:=bif i==s.size then i else bif B3 s i.toNat==93 then i else bif V3 s (i+1) then i+1+1 else a2z s (i+1)
def f2t:Sm:=⟨fun _ bs=>d5w bs,fun vals bs=>match vals,bs with
 | [.ptr [0,0] 0], [.cells 213 [.d (.lit (.string s)), .d (.lit (.int .i64 i))]]=>some (P4 s i,(.d (.tup [.lit (.int .u8 (u7 s i)), .lit (.bool true)]), [psB s (G5 s i)], []),(.d (.tup [.lit (.int .u8 0), .lit (.bool false)]), [psB s (X0 s i)], []))
 | _,_=>none⟩
def e9w:J5:=g3o.add 266 f2t
theorem g9y (s : ByteArray) (i : Int) (R : V → List Box → Prop) : (E4 (Cn Q4) Q4 (K4 g3o) 1 B6 B1 [] e00 266 [V.ptr [0, 0] 0] (G3 [psB s i]) R) =
  (e2v.pre [V.ptr [0, 0] 0] [Box.cells 213 [C0 s, A4 i]] ∧
  (bif i == (↑s.size : Int) then
   R (V.d (D.tup [D.lit (Value.int IntKind.u8 0), oD false]))
  [Box.cells 213 [C0 s, A4 i]] else
   (bif bif false then true else B3 s i.toNat == 93 then
    R (V.d (D.tup [D.lit (Value.int IntKind.u8 0), oD false]))
  [Box.cells 213 [C0 s, A4 i]] else
    (bif B3 s i.toNat != 92 then
     R (V.d (D.tup [D.lit (Value.int IntKind.u8 (B3 s i.toNat)), oD true]))
  [Box.cells 213 [C0 s, A4 (IntKind.i64.wrap (i + 1))]] else
     (f2u.pre [V.ptr [0, 0] 0]
  [Box.cells 213 [C0 s, A4 (IntKind.i64.wrap (i + 1))]] ∧
     (bif V3 s (IntKind.i64.wrap (i + 1)) then
      (bif bif false then true else !a4b (B3 s (IntKind.i64.wrap (i + 1)).toNat) then
       R (V.d (D.tup [D.lit (Value.int IntKind.u8 0), oD false]))
  [Box.cells 213 [C0 s, A4 (IntKind.i64.wrap (i + 1) + 1)]] else
       R
  (V.d
    (D.tup
      [D.lit (Value.int IntKind.u8 (a4r (B3 s (IntKind.i64.wrap (i + 1)).toNat))), oD true]))
  [Box.cells 213 [C0 s, A4 (IntKind.i64.wrap (i + 1) + 1)]]) else
      ((false = true → False) ∧
      ((false = true → False) ∧
      ((false = true → False) ∧
      ((false = true → False) ∧
      (true = true ∧
      R (V.d (D.tup [D.lit (Value.int IntKind.u8 0), oD false]))
  [Box.cells 213
      [C0 s, A4 (a2z s (IntKind.i64.wrap (i + 1)))]]))))))))))) := by kernel_rfl
theorem g5x:H5 B g3o:=by
 refine M8 g5y fun vals bs c x y hp hf=>?_
 unfold f2u at hp hf
 simp only[] at hp hf
 split at hf
 case h_2=>cases hf
 rename_i s i
 simp only[Option.some.injEq,Prod.mk.injEq] at hf
 obtain ⟨rfl,rfl,rfl⟩:=hf
 obtain ⟨h0,h1,h2⟩:=hp
 refine E9 B9 a8h g5y (fn:=Tryz.f261) (cd:=B2 Tryz.f261) (sp:=B6) (hn:=g7c) (k:=1) (ads:=[]) (ends:=g7p) Tryz.func261 (by kernel_rfl) (by kernel_rfl) (by kernel_rfl) (by kernel_rfl) A8 rfl (by cases V3 s i<;>rfl) (keep (h2a s i _) ?_)
 rw[d7z h0 h1 h2]
 refine ⟨⟨h0,h1,h2⟩, ?_⟩
 refine A5 (fun g1=>?_) (fun g1=>?_)
 ·
  have e:V3 s i=false:=by simp[V3,g1]
  have e2:a2z s i=i:=by simp[a2z,g1]
  rw[e,e2];exact ⟨rfl,rfl⟩
 have ea:a2z s i=i+1:=by simp[a2z,g1]
 refine A5 (fun g2=>?_) (fun g2=>?_)
 ·
  have hc:B3 s i.toNat=110:=by simpa using g2
  have e:V3 s i=true:=by simp[V3,g1,b3a,hc]
  rw[e,hc];exact ⟨trivial,rfl,rfl⟩
 refine A5 (fun g3=>?_) (fun g3=>?_)
 ·
  have hc:B3 s i.toNat=116:=by simpa using g3
  have e:V3 s i=true:=by simp[V3,g1,b3a,hc]
  rw[e,hc];exact ⟨trivial,rfl,rfl⟩
 refine A5 (fun g4=>?_) (fun g4=>?_)
 ·
  have hc:B3 s i.toNat=100:=by simpa using g4
  have e:V3 s i=true:=by simp[V3,g1,b3a,hc]
  rw[e,hc];exact ⟨trivial,rfl,rfl⟩
 refine A5 (fun g5=>?_) (fun g5=>?_)
 ·
  have hc:B3 s i.toNat=119:=by simpa using g5
  have e:V3 s i=true:=by simp[V3,g1,b3a,hc]
  rw[e,hc];exact ⟨trivial,rfl,rfl⟩
 refine ⟨trivial,fun _=>trivial, ?_⟩
 refine A5 (fun g6=>?_) (fun g6=>?_)
 ·
  have e:V3 s i=false:=by
   simp only[V3,b3a,g1,g2,g3,g4,g5]
   revert g6
   cases W8 (B3 s i.toNat)<;>cases a2r (B3 s i.toNat)<;>simp
  rw[e,ea];exact ⟨rfl,rfl⟩
 ·
  have e:V3 s i=true:=by
   simp only[V3,b3a,g1,g2,g3,g4,g5]
   revert g6
   cases W8 (B3 s i.toNat)<;>cases a2r (B3 s i.toNat)<;>simp
  have e2:a4b (B3 s i.toNat)=true:=by simp only[a4b,g4,g5];rfl
  have e3:a4r (B3 s i.toNat)=B3 s i.toNat:=by simp only[a4r,g2,g3,g4,g5];rfl
  rw[e,e2,e3];exact ⟨trivial,rfl,rfl⟩
theorem e3b:H5 B e9w:=by
 refine M8 g5x fun vals bs c x y hp hf=>?_
 unfold f2t at hp hf
 simp only[] at hp hf
 split at hf
 case h_2=>cases hf
 rename_i s i
 simp only[Option.some.injEq,Prod.mk.injEq] at hf
 obtain ⟨rfl,rfl,rfl⟩:=hf
 obtain ⟨h0,h1,h2⟩:=hp
 refine E9 B9 a8h g5x (fn:=Tryz.f266) (cd:=B2 Tryz.f266) (sp:=B6) (hn:=B1) (k:=1) (ads:=[]) (ends:=e00) Tryz.func266 (by kernel_rfl) (by kernel_rfl) (by kernel_rfl) a6p A8 rfl (by cases P4 s i<;>rfl) (keep (g9y s i _) ?_)
 rw[d7z h0 h1 h2]
 refine ⟨⟨h0,h1,h2⟩, ?_⟩
 refine A5 (fun g1=>?_) (fun g1=>?_)
 ·
  have e:P4 s i=false:=by simp[P4,g1]
  have e2:X0 s i=i:=by simp[X0,g1]
  rw[e,e2];exact ⟨rfl,rfl⟩
 have hne:i≠s.size:=by simpa using g1
 refine A5 (fun g2=>?_) (fun g2=>?_)
 ·
  have e:P4 s i=false:=by simp only[P4,g1,cond_false] at g2 ⊢;rw[g2];rfl
  have e2:X0 s i=i:=by simp only[cond_false] at g2;simp only[X0,g1,g2,cond_false,cond_true]
  rw[e,e2];exact ⟨rfl,rfl⟩
 simp only[cond_false] at g2
 refine A5 (fun g3=>?_) (fun g3=>?_)
 ·
  have e:P4 s i=true:=by simp only[P4,g1,g2,g3];rfl
  rw[e];simp only[u7,G5,g3];exact ⟨rfl,rfl⟩
 refine ⟨⟨by omega,by omega,h2⟩, ?_⟩
 refine A5 (fun g4=>?_) (fun g4=>?_)
 ·
  refine A5 (fun g5=>?_) (fun g5=>?_)
  ·
   simp only[cond_false] at g5
   have g5:a4b (B3 s (i+1).toNat)=false:=by simpa using g5
   have e:P4 s i=false:=by simp only[P4,g1,g2,g3,g4,g5];rfl
   have e2:X0 s i=i+1+1:=by simp only[X0,g1,g2,g4,cond_false,cond_true]
   rw[e,e2];exact ⟨rfl,rfl⟩
  ·
   simp only[cond_false] at g5
   have g5:a4b (B3 s (i+1).toNat)=true:=by simpa using g5
   have e:P4 s i=true:=by simp only[P4,g1,g2,g3,g4,g5];rfl
   rw[e];simp only[u7,G5,g3];exact ⟨rfl,rfl⟩
 ·
  have e:P4 s i=false:=by simp only[P4,g1,g2,g3,g4];rfl
  have e2:X0 s i=a2z s (i+1):=by simp only[X0,g1,g2,g4,cond_false]
  rw[e,e2]
  exact ⟨fun h=>(by cases h),fun h=>(by cases h),fun h=>(by cases h),fun h=>(by cases h),rfl,rfl,rfl⟩
abbrev nm3:List (A6×A6):=[([0,0],[0,0]),([5000],[5000]),([5001],[5001])]
noncomputable def b2g:Code:=F5 (F9 (B2 Tryz.f258) 8)
noncomputable def f3c (c:Code) (a:Nat):Code:=match (J3 true c).find? (fun p=>p.1==a) with|some p=>p.2.2|none=>.skip
noncomputable def d9e:Code:=F5 (f3c b2g 32)
abbrev bx3 (s:ByteArray) (i:Int) (b:Bool):List Box:=[psB s i, .bools 289 256, .cells 4 [A7 b]]
abbrev pt3:List V:=[.ptr [0,0] 0, .ptr [5001] 0, .ptr [5000] 0]
theorem f7v (s:ByteArray) (i:Int) (l:Int) (c:Int) (b:Bool) (R:X→List V→List Box→Prop):(G0 (Cn Q4) Q4 (K4 e9w) 1 B6 B1 d9e 60 [0,4,5,9,10] [[0,0], [5000], [5001]] [] nm3 [0,4,5] nm3
 [V.ptr [0,0] 0,V.ptr [5001] 0,V.ptr [5000] 0,V.d (D.lit (Value.int IntKind.u8 l)),A4 c] (bx3 s i b) R) =
 (bif decide (c≤IntKind.i64.wrap l) then
 ((((0:Int)≤c)∧c.toNat<256)∧
 (0+c.toNat*1<256∧
 (60=60∧
 R X.normal
 [V.ptr [0,0] 0,V.ptr [5001] 0,V.ptr [5000] 0,V.d (D.lit (Value.int IntKind.u8 l)),
 A4 (IntKind.i64.wrap (c+1))]
 [Box.cells 213 [C0 s,A4 i],Box.bools 289 256,
 Box.cells 4 [A7 b]]))) else
 (60=60∧
 R (X.exit 2) [V.ptr [0,0] 0,V.ptr [5001] 0,V.ptr [5000] 0]
 [Box.cells 213 [C0 s,A4 i],Box.bools 289 256,
 Box.cells 4 [A7 b]])):=by kernel_rfl
def e2k:Ev.Spec:={L:=[0,4,5,9,10],ns:=nm3,L':=[0,4,5],nm':=[[0,0],[5000],[5001]],G:=fun N vals bs k=>match vals,bs with
 | [.ptr [0,0] 0, .ptr [5001] 0, .ptr [5000] 0, .d (.lit (.int .u8 l)), .d (.lit (.int .i64 c))], [.cells 213 [.d (.lit (.string s)), .d (.lit (.int .i64 i))], .bools 289 256, .cells 4 [.d (.lit (.bool b))]]=>(N=60∧0≤c∧c<256∧0≤l∧l<256)∧k (.exit 2) pt3 (bx3 s i b)
 | _,_=>False }
theorem f7u (s:ByteArray) (i:Int) (b:Bool) (e:Bool) (R:X→List V→List Box→Prop):(G0 (Cn Q4) Q4 (K4 e9w) 1 (spL [(32,e2k)]) B1 b2g 60 [0,4,5,6] [[0,0], [5000], [5001]] [] nm3
 [2,3,4,5] nm3 [V.ptr [0,0] 0,V.ptr [5001] 0,V.ptr [5000] 0,A7 e] (bx3 s i b) R) =
 (bif !e then
 (f2t.pre [V.ptr [0,0] 0] [Box.cells 213 [C0 s,A4 i]]∧
 (bif P4 s i then
 (f8z.pre [V.ptr [0,0] 0]
 [Box.cells 213 [C0 s,A4 (G5 s i)]]∧
 (bif a7t s (G5 s i) then
 (f2t.pre [V.ptr [0,0] 0]
 [Box.cells 213
 [C0 s,A4 (IntKind.i64.wrap (G5 s i+1))]]∧
 (bif P4 s (IntKind.i64.wrap (G5 s i+1)) then
 (bif bif false then true else decide (u7 s (IntKind.i64.wrap (G5 s i+1))<u7 s i) then
 (60=60∧
 R X.ret [V.d (D.lit (Value.pointer none)),A7 false,V.ptr [5001] 0,V.ptr [5000] 0]
 [Box.cells 213
 [C0 s,
 A4 (G5 s (IntKind.i64.wrap (G5 s i+1)))],
 Box.bools 289 256,Box.cells 4 [A7 b]]) else
 ((60=60∧(((0:Int)≤IntKind.i64.wrap (u7 s i))∧(((IntKind.i64.wrap (u7 s i):Int)<256)∧(((0:Int)≤u7 s (IntKind.i64.wrap (G5 s i+1)))∧((u7 s (IntKind.i64.wrap (G5 s i+1)):Int)<256)))))∧
 (b9r.pre [V.ptr [0,0] 0,V.d (D.lit (Value.int IntKind.u8 93))]
 [Box.cells 213
 [C0 s,
 A4 (G5 s (IntKind.i64.wrap (G5 s i+1)))]]∧
 (bif P0 s (G5 s (IntKind.i64.wrap (G5 s i+1))) 93 then
 (60=60∧
 R X.normal [V.ptr [0,0] 0,V.ptr [5001] 0,V.ptr [5000] 0,A7 true]
 [Box.cells 213
 [C0 s,
 A4 (G5 s (IntKind.i64.wrap (G5 s i+1))+1)],
 Box.bools 289 256,Box.cells 4 [A7 b]]) else
 (60=60∧
 R X.normal [V.ptr [0,0] 0,V.ptr [5001] 0,V.ptr [5000] 0,A7 false]
 [Box.cells 213
 [C0 s,
 A4 (G5 s (IntKind.i64.wrap (G5 s i+1)))],
 Box.bools 289 256,Box.cells 4 [A7 b]]))))) else
 (60=60∧
 R X.ret [V.d (D.lit (Value.pointer none)),A7 false,V.ptr [5001] 0,V.ptr [5000] 0]
 [Box.cells 213
 [C0 s,
 A4 (X0 s (IntKind.i64.wrap (G5 s i+1)))],
 Box.bools 289 256,Box.cells 4 [A7 b]]))) else
 ((60=60∧(((0:Int)≤IntKind.i64.wrap (u7 s i))∧(((IntKind.i64.wrap (u7 s i):Int)<256)∧(((0:Int)≤u7 s i)∧((u7 s i:Int)<256)))))∧
 (b9r.pre [V.ptr [0,0] 0,V.d (D.lit (Value.int IntKind.u8 93))]
 [Box.cells 213 [C0 s,A4 (G5 s i)]]∧
 (bif P0 s (G5 s i) 93 then
 (60=60∧
 R X.normal [V.ptr [0,0] 0,V.ptr [5001] 0,V.ptr [5000] 0,A7 true]
 [Box.cells 213 [C0 s,A4 (G5 s i+1)],
 Box.bools 289 256,Box.cells 4 [A7 b]]) else
 (60=60∧
 R X.normal [V.ptr [0,0] 0,V.ptr [5001] 0,V.ptr [5000] 0,A7 false]
 [Box.cells 213 [C0 s,A4 (G5 s i)],Box.bools 289 256,
 Box.cells 4 [A7 b]])))))) else
 (60=60∧
 R X.ret [V.d (D.lit (Value.pointer none)),A7 false,V.ptr [5001] 0,V.ptr [5000] 0]
 [Box.cells 213 [C0 s,A4 (X0 s i)],Box.bools 289 256,
 Box.cells 4 [A7 b]]))) else
 (60=60∧
 R (X.exit 0) [V.any,V.any,V.ptr [5001] 0,V.ptr [5000] 0]
 [Box.cells 213 [C0 s,A4 i],Box.bools 289 256,
 Box.cells 4 [A7 b]])):=by kernel_rfl
def Q3 (s : ByteArray) (i : Int) : Bool × Int :=
 bif P4 s i then
  (bif a7t s (G5 s i) then
   (bif P4 s (G5 s i + 1) then (!decide (u7 s (G5 s i + 1) < u7 s i), G5 s (G5 s i + 1)) else (false, X0 s (G5 s i + 1)))
  else (true, G5 s i))
 else (false, X0 s i)
def brR (s:ByteArray):Nat→Int→Bool×Int
 | 0,i=>(false,i)
 | n+1,i=>bif (Q3 s i).1 then (bif P0 s (Q3 s i).2 93 then (true,(Q3 s i).2+1) else brR s n (Q3 s i).2) else (false,(Q3 s i).2)
def brS (s:ByteArray) (i:Int):Bool×Int:=brR s 201 (bif P0 s i 94 then i+1 else i)
def e2j:Ev.Spec:={L:=[0,4,5,6],ns:=[([0,0],[0,0]),([5000],[7]),([5001],[6])],ads:=[.bools [7]],L':=[2,3,4,5],nm':=[[0,0],[5000],[5001]],G:=fun N vals bs k=>match vals,bs with
 | [.ptr [0,0] 0, .ptr [5001] 0, .ptr [5000] 0, .d (.lit (.bool false))], [.cells 213 [.d (.lit (.string s)), .d (.lit (.int .i64 i))], .bools 289 256, .cells 4 [.d (.lit (.bool b))]]=>(N=60∧0≤i∧i≤s.size∧s.size≤200)∧
  (bif (brR s 201 i).1 then k (.exit 0) [.any, .any, .ptr [5001] 0, .ptr [5000] 0] (bx3 s (brR s 201 i).2 b) else k .ret [.d (.lit (.pointer none)),A7 false, .ptr [5001] 0, .ptr [5000] 0] (bx3 s (brR s 201 i).2 b))
 | _,_=>False }
def f9a:Sm:=⟨fun _ bs=>d5w bs,fun vals bs=>match vals,bs with
 | [.ptr [0,0] 0], [.cells 213 [.d (.lit (.string s)), .d (.lit (.int .i64 i))]]=>one (.d (.tup [.any, .lit (.bool (brS s i).1)])) [psB s (brS s i).2] []
 | _,_=>none⟩
def g3q:J5:=e9w.add 258 f9a
theorem h2d (s:ByteArray) (i:Int) (R:V→List Box→Prop):(E4 (Cn Q4) Q4 (K4 e9w) 1 (spL [(8,e2j)]) B1 [Ad.flat 2] e00 258 [V.ptr [0,0] 0] (G3 [psB s i]) R) =
 (b9r.pre [V.ptr [0,0] 0,V.d (D.lit (Value.int IntKind.u8 94))]
 [Box.cells 213 [C0 s,A4 i]]∧
 (bif P0 s i 94 then
 ((60=60∧(((0:Int)≤i+1)∧(((i+1:Int)≤(↑s.size:Int))∧s.size≤200)))∧
 (bif (brR s 201 (i+1)).fst then
 (d5s.pre [V.fn (Fn.func 268) [] [V.ptr [0,0] 0,V.ptr [0,1] 0]]
 [Box.bools 289 256,Box.cells 4 [A7 true]]∧
 R (V.d (D.tup [D.any,oD true]))
 [Box.cells 213 [C0 s,A4 ((brR s 201 (i+1)).snd)]]) else
 R (V.d (D.tup [D.any,oD false]))
 [Box.cells 213 [C0 s,A4 ((brR s 201 (i+1)).snd)]])) else
 ((60=60∧(((0:Int)≤i)∧(((i:Int)≤(↑s.size:Int))∧s.size≤200)))∧
 (bif (brR s 201 i).fst then
 (d5s.pre [V.fn (Fn.func 268) [] [V.ptr [0,0] 0,V.ptr [0,1] 0]]
 [Box.bools 289 256,Box.cells 4 [A7 false]]∧
 R (V.d (D.tup [D.any,oD true]))
 [Box.cells 213 [C0 s,A4 ((brR s 201 i).snd)]]) else
 R (V.d (D.tup [D.any,oD false]))
 [Box.cells 213 [C0 s,A4 ((brR s 201 i).snd)]])))):=by kernel_rfl
theorem a9r (s:ByteArray) (k:Nat):0≤B3 s k∧B3 s k<256:=by
 unfold B3
 have:=(s.data.toList.getD k 0).toNat_lt
 omega
theorem d7d {c:Int} (h:0≤c∧c<256):0≤a4r c∧a4r c<256:=by
 unfold a4r
 cases (c==110)<;>cases (c==116)<;>cases (c==100||c==119)<;>simp<;>omega
theorem d3b (s:ByteArray) (i:Int):0≤u7 s i∧u7 s i<256:=by
 unfold u7
 cases (B3 s i.toNat !=92) with
 | true=>exact a9r _ _
 | false=>exact d7d (a9r _ _)
theorem b6g {s:ByteArray} {i:Int} (h:V3 s i=true):i≠s.size:=by
 unfold V3 at h
 simp at h;exact h.1
theorem b6h {s:ByteArray} {i:Int} (h0:0≤i) (h1:i≤s.size):0≤a2z s i∧a2z s i≤s.size:=by
 unfold a2z
 cases h:(i==(s.size:Int)) with
 | true=>simp;omega
 | false =>
  have:i≠s.size:=by simpa using h
  simp;omega
theorem a3z {s:ByteArray} {i:Int} (h:P4 s i=true) (h0:0≤i) (h1:i≤s.size):i<G5 s i∧G5 s i≤s.size:=by
 unfold P4 at h
 simp only[Bool.and_eq_true,Bool.not_eq_true'] at h
 have hne:i≠s.size:=by simpa using h.1
 unfold G5
 cases hb:(B3 s i.toNat !=92) with
 | true=>simp;omega
 | false =>
  rw[hb] at h
  simp only[Bool.false_or,Bool.and_eq_true] at h
  have:=b6g h.2.2.1
  simp;omega
theorem c2r {s:ByteArray} {i:Int} (h0:0≤i) (h1:i≤s.size):0≤X0 s i∧X0 s i≤s.size:=by
 unfold X0
 cases h:(i==(s.size:Int)) with
 | true=>simp;omega
 | false =>
  have hne:i≠s.size:=by simpa using h
  cases (B3 s i.toNat==93) with
  | true=>simp;omega
  | false =>
   cases h2:V3 s (i+1) with
   | true=>have:=b6g h2;simp;omega
   | false=>simpa using b6h (by omega:0≤i+1) (by omega)
theorem b2o {s:ByteArray} {i:Int} (h:a7t s i=true):i+1<s.size:=by
 unfold a7t at h
 simp only[Bool.and_eq_true,decide_eq_true_eq] at h
 exact h.1
theorem Y3 {s:ByteArray} {i c:Int} (h:P0 s i c=true) (h1:i≤s.size):i+1≤s.size:=by
 unfold P0 at h
 simp only[Bool.and_eq_true,Bool.not_eq_true'] at h
 have hne:i≠s.size:=by simpa using h.1
 omega
theorem b3f {s:ByteArray} {i:Int} (h0:0≤i) (h1:i≤s.size):0≤(Q3 s i).2∧(Q3 s i).2≤s.size∧((Q3 s i).1=true→i<(Q3 s i).2):=by
 unfold Q3
 cases h:P4 s i with
 | false=>have:=c2r h0 h1;simp;omega
 | true =>
  have p1:=a3z h h0 h1
  simp only[cond_true]
  cases h2:a7t s (G5 s i) with
  | false=>simp;omega
  | true =>
   have p2:=b2o h2
   simp only[cond_true]
   cases h3:P4 s (G5 s i+1) with
   | false=>have:=c2r (s:=s) (i:=G5 s i+1) (by omega) (by omega);simp;omega
   | true=>have:=a3z h3 (by omega) (by omega);simp;omega
theorem c5v {s:ByteArray} {i:Int} (h0:0≤i) (h1:i≤s.size):i≤X0 s i:=by
 unfold X0 a2z
 cases (i==(s.size:Int))<;>cases (B3 s i.toNat==93)<;>cases V3 s (i+1)<;>cases (i+1==(s.size:Int))<;>simp<;>omega
theorem e5d {s:ByteArray} {i:Int} (h0:0≤i) (h1:i≤s.size):i≤(Q3 s i).2:=by
 unfold Q3
 cases h:P4 s i with
 | false=>simpa using c5v h0 h1
 | true =>
  have p1:=a3z h h0 h1
  simp only[cond_true]
  cases h2:a7t s (G5 s i) with
  | false=>simp;omega
  | true =>
   have p2:=b2o h2
   simp only[cond_true]
   cases h3:P4 s (G5 s i+1) with
   | false=>have:=c5v (s:=s) (i:=G5 s i+1) (by omega) (by omega);simp;omega
   | true=>have:=a3z h3 (by omega) (by omega);simp;omega
theorem b8o {s:ByteArray}:∀{n:Nat} {i:Int},0≤i→i≤s.size→0≤(brR s n i).2∧(brR s n i).2≤s.size
 | 0,i,h0,h1=>⟨h0,h1⟩
 | n+1,i,h0,h1=>by
  have p:=b3f h0 h1
  unfold brR
  cases h:(Q3 s i).1 with
  | false=>simp;omega
  | true =>
   simp only[cond_true]
   cases h2:P0 s (Q3 s i).2 93 with
   | true=>have:=Y3 h2 p.2.1;simp;omega
   | false=>simpa using b8o p.1 p.2.1
theorem d7n {s:ByteArray} {a:Int}:∀{n:Nat} {i:Int},0≤i→i≤s.size→a≤i→a≤(brR s n i).2∧(brR s n i).2≤s.size
 | 0,i,h0,h1,h2=>⟨h2,h1⟩
 | n+1,i,h0,h1,h2=>by
  have p:=b3f h0 h1
  have p2:=e5d h0 h1
  unfold brR
  cases h:(Q3 s i).1 with
  | false=>simp;omega
  | true =>
   simp only[cond_true]
   cases h3:P0 s (Q3 s i).2 93 with
   | true=>have:=Y3 h3 p.2.1;simp;omega
   | false=>simpa using d7n p.1 p.2.1 (by omega)
theorem w7 {i:Int} (h0:0≤i) (h1:i≤1000):IntKind.i64.wrap i=i:=by rw[Go.IntWalk.i64_in _ (by omega)]
theorem f9m:OkS (Cn Q4) 1 (.loop d9e) e2k:=by
 refine F3 fun N vals bs K h=>?_
 simp only[e2k] at h
 split at h
 case h_2=>exact h.elim
 rename_i l c s i b
 obtain ⟨⟨rfl,h0,h1,h2,h3⟩,h⟩:=h
 have key:∀(n:Nat) (c:Int),0≤c→c≤256→l+1-c≤n→N2 (Cn Q4) 1 d9e 60 [0,4,5,9,10] [[0,0],[5000],[5001]] [0,4,5] [[0,0],[5000],[5001]] [.ptr [0,0] 0, .ptr [5001] 0, .ptr [5000] 0, .d (.lit (.int .u8 l)),A4 c] (bx3 s i b) K:=by
  intro n
  induction n with
  | zero =>
   intro c c0 c1 cn
   refine C1 (M7 B9 a8h e3b) C4 A8 (hn:=B1) (adsI:=[]) (nsI:=nm3) (nsX:=nm3) rfl rfl (keep (f7v s i l c b _) ?_)
   rw[w7 h2 (by omega)]
   have e:decide (c≤l)=false:=by simp;omega
   rw[e];exact ⟨rfl,h⟩
  | succ n ih =>
   intro c c0 c1 cn
   refine C1 (M7 B9 a8h e3b) C4 A8 (hn:=B1) (adsI:=[]) (nsI:=nm3) (nsX:=nm3) rfl rfl (keep (f7v s i l c b _) ?_)
   rw[w7 h2 (by omega),w7 (i:=c+1) (by omega) (by omega)]
   refine A5 (fun g=>?_) (fun g=>⟨rfl,h⟩)
   have g:=of_decide_eq_true g
   exact ⟨⟨c0,by omega⟩,by omega,rfl,ih (c+1) (by omega) (by omega) (by omega)⟩
 exact key (l+1-c).toNat c h0 (by omega) (by omega)
theorem e3c:((J3 true b2g).filter fun p=>p.1==32).map (fun p=>p.2.2)= [.loop d9e]:=by kernel_rfl
theorem f9k : OkS (Cn Q4) 1 (.loop b2g) e2j := by
  refine F3 fun N vals bs K h => ?_
  simp only [e2j] at h
  split at h
  case h_2 => exact h.elim
  rename_i s i b
  obtain ⟨⟨rfl, h0, h1, h2⟩, h⟩ := h
  have sp : v7 (Cn Q4) 1 (spL [(32, e2k)]) (J3 true b2g) := C9 e3c f9m E5
  have fin : ∀ (j : Int), K (.exit 0) [.any, .any, .ptr [5001] 0, .ptr [5000] 0] (bx3 s j b) → N2 (Cn Q4) 1 b2g 60 [0,4,5,6] [[0,0],[5000],[5001]] [2,3,4,5] [[0,0],[5000],[5001]] [.ptr [0,0] 0, .ptr [5001] 0, .ptr [5000] 0, A7 true] (bx3 s j b) K := by
    intro j hj
    refine C1 (M7 B9 a8h e3b) C4 sp (hn := B1) (adsI := []) (nsI := nm3) (nsX := nm3) rfl rfl (keep (f7u s j b true _) ?_)
    exact ⟨rfl, hj⟩
  have key : ∀ (n : Nat) (i : Int), 0 ≤ i → i ≤ s.size → s.size - i < n →
      (bif (brR s n i).1 then K (.exit 0) [.any, .any, .ptr [5001] 0, .ptr [5000] 0] (bx3 s (brR s n i).2 b) else K .ret [.d (.lit (.pointer none)), A7 false, .ptr [5001] 0, .ptr [5000] 0] (bx3 s (brR s n i).2 b)) →
      N2 (Cn Q4) 1 b2g 60 [0,4,5,6] [[0,0],[5000],[5001]] [2,3,4,5] [[0,0],[5000],[5001]] [.ptr [0,0] 0, .ptr [5001] 0, .ptr [5000] 0, A7 false] (bx3 s i b) K := by
    intro n
    induction n with
    | zero => intro i a0 a1 a2; omega
    | succ n ih =>
      intro i a0 a1 a2 hk
      have p := b3f a0 a1
      unfold brR at hk
      refine C1 (M7 B9 a8h e3b) C4 sp (hn := B1) (adsI := []) (nsI := nm3) (nsX := nm3) rfl rfl (keep (f7u s i b false _) ?_)
      have hc := d3b s i
      -- what comes behind an item or a range
      have next : ∀ j : Int, Q3 s i = (true, j) → (b9r.pre [V.ptr [0, 0] 0, V.d (D.lit (Value.int IntKind.u8 93))] [psB s j] ∧
          (bif P0 s j 93 then (60 = 60 ∧ N2 (Cn Q4) 1 b2g 60 [0,4,5,6] [[0,0],[5000],[5001]] [2,3,4,5] [[0,0],[5000],[5001]] [.ptr [0,0] 0, .ptr [5001] 0, .ptr [5000] 0, A7 true] (bx3 s (j + 1) b) K)
           else (60 = 60 ∧ N2 (Cn Q4) 1 b2g 60 [0,4,5,6] [[0,0],[5000],[5001]] [2,3,4,5] [[0,0],[5000],[5001]] [.ptr [0,0] 0, .ptr [5001] 0, .ptr [5000] 0, A7 false] (bx3 s j b) K))) := by
        intro j hj
        rw [hj] at hk p
        simp only [cond_true] at hk
        refine ⟨⟨p.1, p.2.1, h2⟩, A5 (fun g => ⟨rfl, fin _ ?_⟩) (fun g => ⟨rfl, ih j p.1 p.2.1 (by have := p.2.2 rfl; simp only [] at this; omega) ?_⟩)⟩
        · rw [g] at hk; exact hk
        · rw [g] at hk; exact hk
      have fail : ∀ j : Int, Q3 s i = (false, j) → K .ret [.d (.lit (.pointer none)), A7 false, .ptr [5001] 0, .ptr [5000] 0] (bx3 s j b) := by
        intro j hj
        rw [hj] at hk
        exact hk
      refine ⟨⟨a0, a1, h2⟩, A5 (fun g1 => ?_) (fun g1 => ⟨rfl, fail _ (by simp only [Q3, g1, cond_false])⟩)⟩
      have p1 := a3z g1 a0 a1
      refine ⟨⟨by omega, p1.2, h2⟩, A5 (fun g2 => ?_) (fun g2 => ?_)⟩
      · have p2 := b2o g2
        rw [w7 (i := G5 s i + 1) (by omega) (by omega)]
        have hc2 := d3b s (G5 s i + 1)
        refine ⟨⟨by omega, by omega, h2⟩, A5 (fun g3 => ?_) (fun g3 => ⟨rfl, fail _ (by simp only [Q3, g1, g2, g3, cond_true, cond_false])⟩)⟩
        refine A5 (fun g4 => ⟨rfl, fail _ (by simp only [cond_false] at g4; simp only [Q3, g1, g2, g3, g4, cond_true, Bool.not_true])⟩) (fun g4 => ?_)
        rw [w7 hc.1 (by omega)]
        exact ⟨⟨rfl, hc.1, hc.2, hc2.1, hc2.2⟩, next _ (by simp only [cond_false] at g4; simp only [Q3, g1, g2, g3, g4, cond_true, Bool.not_false])⟩
      · rw [w7 hc.1 (by omega)]
        exact ⟨⟨rfl, hc.1, hc.2, hc.1, hc.2⟩, next _ (by simp only [Q3, g1, g2, cond_true, cond_false])⟩
  exact key 201 i h0 h1 (by omega) h
theorem h3t:H5 B g3q:=by
 refine M8 e3b fun vals bs c x y hp hf=>?_
 unfold f9a at hp hf
 simp only[] at hp hf
 split at hf
 case h_2=>cases hf
 rename_i s i
 simp only[one,Option.some.injEq,Prod.mk.injEq] at hf
 obtain ⟨rfl,rfl,rfl⟩:=hf
 obtain ⟨h0,h1,h2⟩:=hp
 refine E9 B9 a8h e3b (fn:=Tryz.f258) (cd:=B2 Tryz.f258) (sp:=spL [(8,e2j)]) (hn:=B1) (k:=1) (ads:=[.flat 2]) (ends:=e00) Tryz.func258 (by kernel_rfl) (by kernel_rfl) (by kernel_rfl) a6p (C9 (c:=.loop b2g) (by kernel_rfl) f9k E5) rfl rfl (keep (h2d s i _) ?_)
 refine ⟨⟨h0,h1,h2⟩,A5 (fun g=>?_) (fun g=>?_)⟩
 ·
  have e:brS s i=brR s 201 (i+1):=by simp only[brS,g,cond_true]
  rw[e]
  refine ⟨⟨rfl,by omega,Y3 g h1,h2⟩,A5 (fun g2=>⟨trivial, ?_,rfl⟩) (fun g2=>⟨?_,rfl⟩)⟩
  ·
   rw[g2];rfl
  ·
   rw[g2];rfl
 ·
  have e:brS s i=brR s 201 i:=by simp only[brS,g,cond_false]
  rw[e]
  refine ⟨⟨rfl,h0,h1,h2⟩,A5 (fun g2=>⟨trivial, ?_,rfl⟩) (fun g2=>⟨?_,rfl⟩)⟩
  ·
   rw[g2];rfl
  ·
   rw[g2];rfl
end Go.Ev.R2
end
section
namespace Go.Proofs
open Go.Shelf
def Tryz.lays137_ren:Go.Shelf.Ren:=⟨fun | 137=>262 | 217=>220 | 266=>241|n=>n,fun | 9=>9 | 5=>5 | 3=>3|n=>n,fun|n=>n⟩
theorem Tryz.lays137:Go.Proofs.Lays.n137 Tryz.prog Tryz.lays137_ren:={
 mixed:=by kernel_rfl
 f137:=Tryz.func262.trans (congrArg some (by kernel_rfl))
 f217:=Tryz.func220.trans (congrArg some (by kernel_rfl))
 f266:=Tryz.func241.trans (congrArg some (by kernel_rfl))
 t3:=Tryz.underlying3
 a3:=Tryz.isAgg3
 z3:=Tryz.sizeOf3
 v3:=Tryz.zeroValue3
 t5:=Tryz.underlying5
 a5:=Tryz.isAgg5
 z5:=Tryz.sizeOf5
 v5:=Tryz.zeroValue5
 t9:=Tryz.underlying9
 a9:=Tryz.isAgg9
 z9:=Tryz.sizeOf9
 v9:=Tryz.zeroValue9 }
open Go.RowKit in
theorem Tryz.strings_IndexByte (s:ByteArray) (c:Int) (w:World) :
 Calls Tryz.prog 262 #[.string s, .int .u8 c] w fun e w'=>e= .returned (.int .i64 (Lib.indexByte s.data.toList c.toNat.toUInt8))∧w'=w:=Any.strings_IndexByte Tryz.lays137 s c w
def Tryz.laysM171_ren:Go.Shelf.Ren:=⟨fun | 171=>155 | 243=>198 | 246=>219 | 283=>237 | 284=>238 | 285=>239 | 286=>240 | 129=>252 | 317=>251 | 318=>253 | 319=>254 | 320=>255 | 337=>264 | 338=>265|n=>n,fun | 3=>3 | 9=>9 | 2=>2 | 4=>4 | 171=>262 | 0=>0 | 53=>218 | 37=>71 | 5=>5 | 173=>265 | 212=>278 | 51=>204 | 20=>20 | 213=>279 | 46=>245 | 232=>290 | 233=>291|n=>n,fun | 17=>5 | 18=>6 | 19=>7|n=>n⟩
theorem Tryz.laysM171:Go.Proofs.LaysM.n171 Tryz.prog Tryz.laysM171_ren:={
 mixed:=by kernel_rfl
 f129:=Tryz.func252.trans (congrArg some (by kernel_rfl))
 f171:=Tryz.func155.trans (congrArg some (by kernel_rfl))
 f243:=Tryz.func198.trans (congrArg some (by kernel_rfl))
 f246:=Tryz.func219.trans (congrArg some (by kernel_rfl))
 f283:=Tryz.func237.trans (congrArg some (by kernel_rfl))
 f284:=Tryz.func238.trans (congrArg some (by kernel_rfl))
 f285:=Tryz.func239.trans (congrArg some (by kernel_rfl))
 f286:=Tryz.func240.trans (congrArg some (by kernel_rfl))
 f317:=Tryz.func251.trans (congrArg some (by kernel_rfl))
 f318:=Tryz.func253.trans (congrArg some (by kernel_rfl))
 f319:=Tryz.func254.trans (congrArg some (by kernel_rfl))
 f320:=Tryz.func255.trans (congrArg some (by kernel_rfl))
 f337:=Tryz.func264.trans (congrArg some (by kernel_rfl))
 f338:=Tryz.func265.trans (congrArg some (by kernel_rfl))
 t0:=Tryz.underlying0
 a0:=Tryz.isAgg0
 z0:=Tryz.sizeOf0
 v0:=Tryz.zeroValue0
 t2:=Tryz.underlying2
 a2:=Tryz.isAgg2
 z2:=Tryz.sizeOf2
 v2:=Tryz.zeroValue2
 t3:=Tryz.underlying3
 a3:=Tryz.isAgg3
 z3:=Tryz.sizeOf3
 v3:=Tryz.zeroValue3
 t4:=Tryz.underlying4
 a4:=Tryz.isAgg4
 z4:=Tryz.sizeOf4
 v4:=Tryz.zeroValue4
 t5:=Tryz.underlying5
 a5:=Tryz.isAgg5
 z5:=Tryz.sizeOf5
 v5:=Tryz.zeroValue5
 t9:=Tryz.underlying9
 a9:=Tryz.isAgg9
 z9:=Tryz.sizeOf9
 v9:=Tryz.zeroValue9
 t20:=Tryz.underlying20
 a20:=Tryz.isAgg20
 z20:=Tryz.sizeOf20
 v20:=Tryz.zeroValue20
 t37:=Tryz.underlying71
 a37:=Tryz.isAgg71
 z37:=Tryz.sizeOf71
 v37:=Tryz.zeroValue71
 t46:=Tryz.underlying245
 a46:=Tryz.isAgg245
 z46:=Tryz.sizeOf245
 v46:=Tryz.zeroValue245
 t51:=Tryz.underlying204
 a51:=Tryz.isAgg204
 z51:=Tryz.sizeOf204
 v51:=Tryz.zeroValue204
 t53:=Tryz.underlying218
 a53:=Tryz.isAgg218
 z53:=Tryz.sizeOf218
 v53:=Tryz.zeroValue218
 t171:=Tryz.underlying262
 a171:=Tryz.isAgg262
 z171:=Tryz.sizeOf262
 v171:=Tryz.zeroValue262
 t173:=Tryz.underlying265
 a173:=Tryz.isAgg265
 z173:=Tryz.sizeOf265
 v173:=Tryz.zeroValue265
 t212:=Tryz.underlying278
 a212:=Tryz.isAgg278
 z212:=Tryz.sizeOf278
 v212:=Tryz.zeroValue278
 t213:=Tryz.underlying279
 a213:=Tryz.isAgg279
 z213:=Tryz.sizeOf279
 t232:=Tryz.underlying290
 a232:=Tryz.isAgg290
 z232:=Tryz.sizeOf290
 v232:=Tryz.zeroValue290
 t233:=Tryz.underlying291
 a233:=Tryz.isAgg291
 z233:=Tryz.sizeOf291
 v233:=Tryz.zeroValue291
 g17:=by kernel_rfl
 g18:=by kernel_rfl
 g19:=by kernel_rfl
 i0:=by kernel_rfl
 i2:=by kernel_rfl
 i3:=by kernel_rfl
 i4:=by kernel_rfl
 i5:=by kernel_rfl
 i9:=by kernel_rfl
 i20:=by kernel_rfl
 i37:=by kernel_rfl
 i46:=by kernel_rfl
 i51:=by kernel_rfl
 i53:=by kernel_rfl
 i171:=by kernel_rfl
 i173:=by kernel_rfl
 i212:=by kernel_rfl
 i232:=by kernel_rfl
 i233:=by kernel_rfl
 m17:=by kernel_rfl
 m18:=by kernel_rfl
 m19:=by kernel_rfl }
open Go.RowKit Go.Sort Go.Lib in
theorem Tryz.strconv_Itoa (n:Int) (h0: -9223372036854775808≤n) (h1:n≤9223372036854775807) (w:World) (htab:Lib.TabIs Tryz.prog w "internal/strconv.uint64pow10" .u64 Lib.pow10Tab) :
 Calls Tryz.prog 155 #[.int .i64 n] w fun e w'=>e= .returned (.string ⟨(Lib.itoa n).toArray⟩)∧∃k os,w'=grow (w.drewN k) os:=Any.strconv_Itoa Tryz.laysM171 n h0 h1 w htab
def Tryz.laysC172_ren:Go.Shelf.Ren:=⟨fun | 172=>183 | 244=>207 | 245=>208 | 247=>225 | 279=>226 | 280=>227 | 281=>228 | 282=>229 | 287=>244 | 316=>245 | 171=>155 | 205=>246 | 321=>256 | 322=>257 | 243=>198 | 246=>219 | 283=>237 | 284=>238 | 285=>239 | 286=>240 | 129=>252 | 317=>251 | 318=>253 | 319=>254 | 320=>255 | 337=>264 | 338=>265|n=>n,fun | 9=>9 | 3=>3 | 75=>180 | 76=>182 | 4=>4 | 5=>5 | 167=>248 | 37=>71 | 0=>0 | 85=>249 | 2=>2 | 168=>251 | 53=>218 | 175=>269 | 46=>245 | 210=>272 | 127=>124 | 145=>285 | 143=>283 | 21=>21 | 171=>262 | 173=>265 | 212=>278 | 51=>204 | 20=>20 | 213=>279 | 232=>290 | 233=>291 | 80=>77|n=>n,fun | 15=>3 | 16=>4 | 17=>5 | 18=>6 | 19=>7|n=>n⟩
theorem Tryz.laysC172:Go.Proofs.LaysC.n172 Tryz.prog Tryz.laysC172_ren:={
 mixed:=by kernel_rfl
 f129:=Tryz.func252.trans (congrArg some (by kernel_rfl))
 f171:=Tryz.func155.trans (congrArg some (by kernel_rfl))
 f172:=Tryz.func183.trans (congrArg some (by kernel_rfl))
 f205:=Tryz.func246.trans (congrArg some (by kernel_rfl))
 f243:=Tryz.func198.trans (congrArg some (by kernel_rfl))
 f244:=Tryz.func207.trans (congrArg some (by kernel_rfl))
 f245:=Tryz.func208.trans (congrArg some (by kernel_rfl))
 f246:=Tryz.func219.trans (congrArg some (by kernel_rfl))
 f247:=Tryz.func225.trans (congrArg some (by kernel_rfl))
 f279:=Tryz.func226.trans (congrArg some (by kernel_rfl))
 f280:=Tryz.func227.trans (congrArg some (by kernel_rfl))
 f281:=Tryz.func228.trans (congrArg some (by kernel_rfl))
 f282:=Tryz.func229.trans (congrArg some (by kernel_rfl))
 f283:=Tryz.func237.trans (congrArg some (by kernel_rfl))
 f284:=Tryz.func238.trans (congrArg some (by kernel_rfl))
 f285:=Tryz.func239.trans (congrArg some (by kernel_rfl))
 f286:=Tryz.func240.trans (congrArg some (by kernel_rfl))
 f287:=Tryz.func244.trans (congrArg some (by kernel_rfl))
 f316:=Tryz.func245.trans (congrArg some (by kernel_rfl))
 f317:=Tryz.func251.trans (congrArg some (by kernel_rfl))
 f318:=Tryz.func253.trans (congrArg some (by kernel_rfl))
 f319:=Tryz.func254.trans (congrArg some (by kernel_rfl))
 f320:=Tryz.func255.trans (congrArg some (by kernel_rfl))
 f321:=Tryz.func256.trans (congrArg some (by kernel_rfl))
 f322:=Tryz.func257.trans (congrArg some (by kernel_rfl))
 f337:=Tryz.func264.trans (congrArg some (by kernel_rfl))
 f338:=Tryz.func265.trans (congrArg some (by kernel_rfl))
 t0:=Tryz.underlying0
 a0:=Tryz.isAgg0
 z0:=Tryz.sizeOf0
 v0:=Tryz.zeroValue0
 t2:=Tryz.underlying2
 a2:=Tryz.isAgg2
 z2:=Tryz.sizeOf2
 v2:=Tryz.zeroValue2
 t3:=Tryz.underlying3
 a3:=Tryz.isAgg3
 z3:=Tryz.sizeOf3
 v3:=Tryz.zeroValue3
 t4:=Tryz.underlying4
 a4:=Tryz.isAgg4
 z4:=Tryz.sizeOf4
 v4:=Tryz.zeroValue4
 t5:=Tryz.underlying5
 a5:=Tryz.isAgg5
 z5:=Tryz.sizeOf5
 v5:=Tryz.zeroValue5
 t9:=Tryz.underlying9
 a9:=Tryz.isAgg9
 z9:=Tryz.sizeOf9
 v9:=Tryz.zeroValue9
 t20:=Tryz.underlying20
 a20:=Tryz.isAgg20
 z20:=Tryz.sizeOf20
 v20:=Tryz.zeroValue20
 t21:=Tryz.underlying21
 a21:=Tryz.isAgg21
 z21:=Tryz.sizeOf21
 v21:=Tryz.zeroValue21
 t37:=Tryz.underlying71
 a37:=Tryz.isAgg71
 z37:=Tryz.sizeOf71
 v37:=Tryz.zeroValue71
 t46:=Tryz.underlying245
 a46:=Tryz.isAgg245
 z46:=Tryz.sizeOf245
 v46:=Tryz.zeroValue245
 t51:=Tryz.underlying204
 a51:=Tryz.isAgg204
 z51:=Tryz.sizeOf204
 v51:=Tryz.zeroValue204
 t53:=Tryz.underlying218
 a53:=Tryz.isAgg218
 z53:=Tryz.sizeOf218
 v53:=Tryz.zeroValue218
 t75:=Tryz.underlying180
 a75:=Tryz.isAgg180
 z75:=Tryz.sizeOf180
 v75:=Tryz.zeroValue180
 t76:=Tryz.underlying182
 a76:=Tryz.isAgg182
 z76:=Tryz.sizeOf182
 v76:=Tryz.zeroValue182
 t85:=Tryz.underlying249
 a85:=Tryz.isAgg249
 z85:=Tryz.sizeOf249
 v85:=Tryz.zeroValue249
 t127:=Tryz.underlying124
 a127:=Tryz.isAgg124
 z127:=Tryz.sizeOf124
 v127:=Tryz.zeroValue124
 t143:=Tryz.underlying283
 a143:=Tryz.isAgg283
 z143:=Tryz.sizeOf283
 v143:=Tryz.zeroValue283
 t145:=Tryz.underlying285
 a145:=Tryz.isAgg285
 z145:=Tryz.sizeOf285
 v145:=Tryz.zeroValue285
 t167:=Tryz.underlying248
 a167:=Tryz.isAgg248
 z167:=Tryz.sizeOf248
 v167:=Tryz.zeroValue248
 t168:=Tryz.underlying251
 a168:=Tryz.isAgg251
 z168:=Tryz.sizeOf251
 v168:=Tryz.zeroValue251
 t171:=Tryz.underlying262
 a171:=Tryz.isAgg262
 z171:=Tryz.sizeOf262
 v171:=Tryz.zeroValue262
 t173:=Tryz.underlying265
 a173:=Tryz.isAgg265
 z173:=Tryz.sizeOf265
 v173:=Tryz.zeroValue265
 t175:=Tryz.underlying269
 a175:=Tryz.isAgg269
 z175:=Tryz.sizeOf269
 v175:=Tryz.zeroValue269
 t210:=Tryz.underlying272
 a210:=Tryz.isAgg272
 z210:=Tryz.sizeOf272
 v210:=Tryz.zeroValue272
 t212:=Tryz.underlying278
 a212:=Tryz.isAgg278
 z212:=Tryz.sizeOf278
 v212:=Tryz.zeroValue278
 t213:=Tryz.underlying279
 a213:=Tryz.isAgg279
 z213:=Tryz.sizeOf279
 t232:=Tryz.underlying290
 a232:=Tryz.isAgg290
 z232:=Tryz.sizeOf290
 v232:=Tryz.zeroValue290
 t233:=Tryz.underlying291
 a233:=Tryz.isAgg291
 z233:=Tryz.sizeOf291
 v233:=Tryz.zeroValue291
 g15:=by kernel_rfl
 g16:=by kernel_rfl
 g17:=by kernel_rfl
 g18:=by kernel_rfl
 g19:=by kernel_rfl
 t80:=Tryz.underlying77
 a80:=Tryz.isAgg77
 z80:=Tryz.sizeOf77
 v80:=Tryz.zeroValue77
 i0:=by kernel_rfl
 i2:=by kernel_rfl
 i3:=by kernel_rfl
 i4:=by kernel_rfl
 i5:=by kernel_rfl
 i9:=by kernel_rfl
 i20:=by kernel_rfl
 i21:=by kernel_rfl
 i37:=by kernel_rfl
 i46:=by kernel_rfl
 i51:=by kernel_rfl
 i53:=by kernel_rfl
 i75:=by kernel_rfl
 i76:=by kernel_rfl
 i80:=by kernel_rfl
 i85:=by kernel_rfl
 i127:=by kernel_rfl
 i143:=by kernel_rfl
 i145:=by kernel_rfl
 i167:=by kernel_rfl
 i168:=by kernel_rfl
 i171:=by kernel_rfl
 i173:=by kernel_rfl
 i175:=by kernel_rfl
 i210:=by kernel_rfl
 i212:=by kernel_rfl
 i232:=by kernel_rfl
 i233:=by kernel_rfl
 m15:=by kernel_rfl
 m16:=by kernel_rfl
 m17:=by kernel_rfl
 m18:=by kernel_rfl
 m19:=by kernel_rfl
 c0:=by kernel_rfl
 c2:=by kernel_rfl
 c3:=by kernel_rfl
 c4:=by kernel_rfl
 c5:=by kernel_rfl
 c9:=by kernel_rfl
 c20:=by kernel_rfl
 c21:=by kernel_rfl
 c37:=by kernel_rfl
 c46:=by kernel_rfl
 c51:=by kernel_rfl
 c53:=by kernel_rfl
 c75:=by kernel_rfl
 c76:=by kernel_rfl
 c80:=by kernel_rfl
 c85:=by kernel_rfl
 c127:=by kernel_rfl
 c143:=by kernel_rfl
 c145:=by kernel_rfl
 c167:=by kernel_rfl
 c168:=by kernel_rfl
 c171:=by kernel_rfl
 c173:=by kernel_rfl
 c175:=by kernel_rfl
 c210:=by kernel_rfl
 c212:=by kernel_rfl
 c213:=by kernel_rfl
 c232:=by kernel_rfl
 c233:=by kernel_rfl }
open Go.RowKit in
theorem Tryz.strconv_Atoi_ok (s:ByteArray) (hmax:s.size≤9223372036854775806) (v:Int) (h:Lib.atoiAll s.data.toList= .ok v) (w:World) :
 Calls Tryz.prog 183 #[.string s] w fun e w'=>e= .returned (.tuple #[.int .i64 v, .nilIface])∧(w'=w∨∃t,w'=Lib.bytesWorld w 5 t):=Any.strconv_Atoi_ok Tryz.laysC172 s hmax v h w
def Tryz.lays144_ren:Go.Shelf.Ren:=⟨fun | 144=>112 | 143=>170 | 219=>200 | 217=>220 | 225=>221 | 224=>222 | 267=>223 | 266=>241 | 314=>242|n=>n,fun | 9=>9 | 4=>4 | 3=>3 | 5=>5 | 46=>245 | 146=>267 | 51=>204|n=>n,fun | 1=>2|n=>n⟩
theorem Tryz.lays144:Go.Proofs.Lays.n144 Tryz.prog Tryz.lays144_ren:={
 mixed:=by kernel_rfl
 f143:=Tryz.func170.trans (congrArg some (by kernel_rfl))
 f144:=Tryz.func112.trans (congrArg some (by kernel_rfl))
 f217:=Tryz.func220.trans (congrArg some (by kernel_rfl))
 f219:=Tryz.func200.trans (congrArg some (by kernel_rfl))
 f224:=Tryz.func222.trans (congrArg some (by kernel_rfl))
 f225:=Tryz.func221.trans (congrArg some (by kernel_rfl))
 f266:=Tryz.func241.trans (congrArg some (by kernel_rfl))
 f267:=Tryz.func223.trans (congrArg some (by kernel_rfl))
 f314:=Tryz.func242.trans (congrArg some (by kernel_rfl))
 t3:=Tryz.underlying3
 a3:=Tryz.isAgg3
 z3:=Tryz.sizeOf3
 v3:=Tryz.zeroValue3
 t4:=Tryz.underlying4
 a4:=Tryz.isAgg4
 z4:=Tryz.sizeOf4
 v4:=Tryz.zeroValue4
 t5:=Tryz.underlying5
 a5:=Tryz.isAgg5
 z5:=Tryz.sizeOf5
 v5:=Tryz.zeroValue5
 t9:=Tryz.underlying9
 a9:=Tryz.isAgg9
 z9:=Tryz.sizeOf9
 v9:=Tryz.zeroValue9
 t46:=Tryz.underlying245
 a46:=Tryz.isAgg245
 z46:=Tryz.sizeOf245
 v46:=Tryz.zeroValue245
 t51:=Tryz.underlying204
 a51:=Tryz.isAgg204
 z51:=Tryz.sizeOf204
 v51:=Tryz.zeroValue204
 t146:=Tryz.underlying267
 a146:=Tryz.isAgg267
 z146:=Tryz.sizeOf267
 v146:=Tryz.zeroValue267
 g1:=by kernel_rfl }
open Go.RowKit Go.Lib in
theorem Tryz.strings_Contains_one (s:ByteArray) (c:UInt8) (w:World) :
 Calls Tryz.prog 112 #[.string s, .string ⟨#[c]⟩] w fun e w'=>e= .returned (.bool (decide (0≤Lib.indexByte s.data.toList c)))∧w'=w:=Any.strings_Contains_one Tryz.lays144 s c w
def Tryz.laysM157_ren:Go.Shelf.Ren:=⟨fun | 157=>71 | 229=>132 | 199=>133 | 261=>188 | 311=>210 | 312=>211|n=>n,fun | 9=>9 | 31=>25 | 3=>3 | 5=>5 | 4=>4 | 119=>161 | 0=>0 | 40=>163 | 152=>201 | 21=>21 | 154=>203 | 51=>204 | 141=>206 | 196=>228 | 193=>225 | 198=>231 | 49=>229 | 194=>226 | 201=>234 | 226=>254 | 46=>245 | 227=>255|n=>n,fun | 0=>0 | 6=>1|n=>n⟩
theorem Tryz.laysM157:Go.Proofs.LaysM.n157 Tryz.prog Tryz.laysM157_ren:={
 mixed:=by kernel_rfl
 f157:=Tryz.func71.trans (congrArg some (by kernel_rfl))
 f199:=Tryz.func133.trans (congrArg some (by kernel_rfl))
 f229:=Tryz.func132.trans (congrArg some (by kernel_rfl))
 f261:=Tryz.func188.trans (congrArg some (by kernel_rfl))
 f311:=Tryz.func210.trans (congrArg some (by kernel_rfl))
 f312:=Tryz.func211.trans (congrArg some (by kernel_rfl))
 t0:=Tryz.underlying0
 a0:=Tryz.isAgg0
 z0:=Tryz.sizeOf0
 v0:=Tryz.zeroValue0
 t3:=Tryz.underlying3
 a3:=Tryz.isAgg3
 z3:=Tryz.sizeOf3
 v3:=Tryz.zeroValue3
 t4:=Tryz.underlying4
 a4:=Tryz.isAgg4
 z4:=Tryz.sizeOf4
 v4:=Tryz.zeroValue4
 t5:=Tryz.underlying5
 a5:=Tryz.isAgg5
 z5:=Tryz.sizeOf5
 v5:=Tryz.zeroValue5
 t9:=Tryz.underlying9
 a9:=Tryz.isAgg9
 z9:=Tryz.sizeOf9
 v9:=Tryz.zeroValue9
 t21:=Tryz.underlying21
 a21:=Tryz.isAgg21
 z21:=Tryz.sizeOf21
 v21:=Tryz.zeroValue21
 t31:=Tryz.underlying25
 a31:=Tryz.isAgg25
 z31:=Tryz.sizeOf25
 v31:=Tryz.zeroValue25
 t40:=Tryz.underlying163
 a40:=Tryz.isAgg163
 z40:=Tryz.sizeOf163
 v40:=Tryz.zeroValue163
 t46:=Tryz.underlying245
 a46:=Tryz.isAgg245
 z46:=Tryz.sizeOf245
 v46:=Tryz.zeroValue245
 t49:=Tryz.underlying229
 a49:=Tryz.isAgg229
 z49:=Tryz.sizeOf229
 v49:=Tryz.zeroValue229
 t51:=Tryz.underlying204
 a51:=Tryz.isAgg204
 z51:=Tryz.sizeOf204
 v51:=Tryz.zeroValue204
 t119:=Tryz.underlying161
 a119:=Tryz.isAgg161
 z119:=Tryz.sizeOf161
 t141:=Tryz.underlying206
 a141:=Tryz.isAgg206
 z141:=Tryz.sizeOf206
 v141:=Tryz.zeroValue206
 t152:=Tryz.underlying201
 a152:=Tryz.isAgg201
 z152:=Tryz.sizeOf201
 v152:=Tryz.zeroValue201
 t154:=Tryz.underlying203
 a154:=Tryz.isAgg203
 z154:=Tryz.sizeOf203
 v154:=Tryz.zeroValue203
 t193:=Tryz.underlying225
 a193:=Tryz.isAgg225
 z193:=Tryz.sizeOf225
 v193:=Tryz.zeroValue225
 t194:=Tryz.underlying226
 a194:=Tryz.isAgg226
 z194:=Tryz.sizeOf226
 v194:=Tryz.zeroValue226
 t196:=Tryz.underlying228
 a196:=Tryz.isAgg228
 z196:=Tryz.sizeOf228
 v196:=Tryz.zeroValue228
 t198:=Tryz.underlying231
 a198:=Tryz.isAgg231
 z198:=Tryz.sizeOf231
 v198:=Tryz.zeroValue231
 t201:=Tryz.underlying234
 a201:=Tryz.isAgg234
 z201:=Tryz.sizeOf234
 v201:=Tryz.zeroValue234
 t226:=Tryz.underlying254
 a226:=Tryz.isAgg254
 z226:=Tryz.sizeOf254
 v226:=Tryz.zeroValue254
 t227:=Tryz.underlying255
 a227:=Tryz.isAgg255
 z227:=Tryz.sizeOf255
 v227:=Tryz.zeroValue255
 g0:=by kernel_rfl
 g6:=by kernel_rfl
 i0:=by kernel_rfl
 i3:=by kernel_rfl
 i4:=by kernel_rfl
 i5:=by kernel_rfl
 i9:=by kernel_rfl
 i21:=by kernel_rfl
 i31:=by kernel_rfl
 i40:=by kernel_rfl
 i46:=by kernel_rfl
 i49:=by kernel_rfl
 i51:=by kernel_rfl
 i141:=by kernel_rfl
 i152:=by kernel_rfl
 i154:=by kernel_rfl
 i193:=by kernel_rfl
 i194:=by kernel_rfl
 i196:=by kernel_rfl
 i198:=by kernel_rfl
 i201:=by kernel_rfl
 i226:=by kernel_rfl
 i227:=by kernel_rfl
 m0:=by kernel_rfl
 m6:=by kernel_rfl }
open Go.RowKit Go.Lib in
theorem Tryz.strings_Fields_laid (s:ByteArray) (w:World) (hs:s.size<4294967281) (hascii:∀(j:Nat) b,s.data.toList[j]?=some b→b.toNat<128) (htab:Lib.TabIs Tryz.prog w "strings.asciiSpace" .u8 Lib.asciiSpaceTab) :
 Calls Tryz.prog 71 #[.string s] w fun e w' =>
  e= .returned (.slice (some ⟨w.heap.size,0,none⟩) (Lib.fields s.data.toList).length (Lib.fields s.data.toList).length)∧w'=w.alloc (.cells ((Lib.fields s.data.toList).map fun l=>Value.string ⟨l.toArray⟩).toArray 9):=Any.strings_Fields_laid Tryz.laysM157 s w hs hascii htab
end Go.Proofs
end
