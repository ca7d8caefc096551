/- What the proofs of the lexer's laws share, part 4 of 15. -/
import Derived.Test.YtnnhlphbfpnaaaaGreatDoorI3
import Derived.KernelRfl
import Derived.IntWalk
import Derived.Lib.Space
import Derived.Lib.ItoaNum
import Derived.Test.YtnnhlphbfpnaaaaGreatDoorProg
import Derived.Shelf.Strings.Builder1
import Derived.Shelf.Small.Strs
import Derived.Shelf.Strings.BuilderF
import Derived.Shelf.Strings.BuilderK
import Derived.Shelf.Strconv.Atoi
import Derived.Shelf.Strconv.Itoa0
import Derived.Shelf.Strconv.Itoa1
import Derived.Shelf.LaysM
import Derived.Shelf.Strconv.Itoa2
import Derived.Shelf.Strconv.Itoa3
import Derived.Shelf.Strconv.AtoiErrFast
import Derived.Shelf.Strconv.ParseIntEmpty
import Derived.Shelf.Strconv.AtoiFail
import Derived.Shelf.Strconv.Clone
import Derived.Shelf.Strconv.SyntaxError
import Derived.Shelf.LaysC
import Derived.Shelf.Strconv.ToError
import Derived.Shelf.Strconv.AtoiErr
import Derived.Shelf.Strconv.ErrVar
import Derived.Shelf.Strconv.Lower
import Derived.Shelf.Strconv.ParseUint10
import Derived.Shelf.Strconv.ParseUint10Empty
import Derived.Shelf.Strconv.ParseUint10Any
import Derived.Shelf.Strconv.ParseInt10
import Derived.Shelf.Strconv.AtoiLong
import Derived.Shelf.Strconv.AtoiInnerAll
import Derived.Shelf.Strconv.RangeError
import Derived.Shelf.Strconv.ToErrorRange
import Derived.Shelf.Strconv.AtoiAll
import Derived.Shelf.Strconv.ErrVarAll
import Derived.Shelf.Strings.Search1
import Derived.Shelf.Strings.Search2
import Derived.Shelf.Strings.Search3
import Derived.Shelf.Strings.Cut
import Derived.Shelf.Strings.Shaped
import Derived.Shelf.Strings.Fields
import Derived.Shelf.Strings.SplitShaped
import Derived.Shelf.Unicode.Latin
import Derived.Shelf.Unicode.Is16White
import Derived.Shelf.Unicode.IsSpaceAny
import Derived.Shelf.Unicode.Is16Any
import Derived.Shelf.Unicode.Is32Any
import Derived.Shelf.Unicode.ExclAny
import Derived.Shelf.Slices.Turned
set_option linter.unusedVariables false
set_option linter.unusedSimpArgs false
section
namespace Go.Ev
section
variable (C : Cx) (tb : Tab) (cs : CS)
def b4z (H:B3) (t:TypeId) (a v:V):Option (B2×Box×Prop):=match a with
 | .ptr n off=>match H n,M4 C t with
  | some (.bools u kk),some k=>bif s5 v&&k==1 then some (n, .bools u kk,off<kk) else none
  | some (.blob u kk lo hi),some k=>bif s5 v&&k==1 then some (n, .blob u kk lo hi,off<kk) else none
  | _,_=>none
 | _=>none
def d7r (s:St) (o:Oper):Option (B2×Box×Prop):=match o.op with
 | .store t a x=>match F8 C s.F a,F8 C s.F x with
  | some va,some v=>b4z C s.H t va v
  | _,_=>none
 | _=>none
def R9 (y:Bool) (s:St) (dst:Option Nat) (x:V×B3) (k:St→Prop):Prop:=match B4 x.2 x.1 with
 | .d u=>a6q s dst (.d u) k
 | v=>match dst with
  | none=>False
  | some d=>go (bif y then a6x s d v x.2 else a6x (s.age d) d v x.2) k
def f4b (y:Bool) (s:St) (o:Oper) (k:St→Prop):Option Prop:=match o.op with
 | .call c=>match c.callee with
  | .value f=>match F8 C s.F f,Q0 C s.F c.args.toList with
   | some (.fn (.func K) first cap),some args=>match C.ext K,C.prim K with
    | none,none=>match (bif C.keep K then none else a3s s.H (first++args++cap)) with
     | some ds=>match cs.cq K (ds.map .d) B3.empty with
      | some (p,c,x,z)=>some (p∧(bif c then R9 y s o.dst x k else R9 y s o.dst z k))
      | none=>none
     | none=>match o.dst with
      | none=>none
      | some d=>match cs.cq K (a2z upN (bif y then first++args++cap else a2z (age d) (first++args++cap))) ((bif y then s else s.age d).H.ren upN c2c) with
       | some (p,c,x,z)=>some (p∧(bif c then a6q ((bif y then s else s.age d).with (x.2.ren (o5 d) (W9 d))) (some d) (x.1.ren (o5 d)) k else a6q ((bif y then s else s.age d).with (z.2.ren (o5 d) (W9 d))) (some d) (z.1.ren (o5 d)) k))
       | none=>none
    | _,_=>none
   | _,_=>none
  | _=>none
 | _=>none
def c6c (y:Bool) (o:Oper) (s:St) (K:St→Prop):Prop:=match d7r C s o with
 | some (n,b,p)=>p∧a6q ⟨s.N,s.F,s.H.set n b⟩ o.dst N5 K
 | none=>match f5h C tb (F8 C s.F) s.H o with
  | some (v,none)=>a6q s o.dst v K
  | some (v,some p)=>p∧a6q s o.dst v K
  | none=>match f4b C cs y s o K with
   | some p=>p
   | none=>c7i C y cs.call o s K
def a8i (ops:Array Oper):List Oper→St→(St→Prop)→Prop
 | [],s,K=>K s
 | o::rest,s,K=>match o.guard with
  | some _=>e2o ops o s fun b s=>match b with
   | true=>c6c C tb cs false o s fun s=>a8i ops rest s K
   | false=>a6q s o.dst N5 fun s=>a8i ops rest s K
  | none=>c6c C tb cs false o s fun s=>a8i ops rest s K
def a2u (o:Oper):Bool:=match o.op with
 | .move _ | .assign _ | .load .. | .nilCheck _ | .unOp .. | .build .. | .convert .. | .fieldAddr .. | .field .. | .extract .. | .index .. | .indexAddr .. | .slice .. | .binOp .. | .pick .. =>true
 | .call c=>match c.callee with
  | .builtin .len | .builtin .min | .builtin .max=>true
  | .value (.func K)=>match tb K with|some _=>true|none=>false
  | _=>false
 | _=>false
def f6d (l:List Oper):List Oper:=l.takeWhile fun o=>b8g o.guard
def a6h (l:List Oper):List Oper:=l.dropWhile fun o=>b8g o.guard
def a9y:V→Bool
 | .any=>false
 | _=>true
def d7s (H:B3) (t:TypeId) (a v:V) (K:B3→Prop):Prop:=match b4z C H t a v with
 | some (n,b,p)=>p∧K (H.set n b)
 | none=>go (U1 C H t a v) K
def a7j (o:Oper) (s:St) (K:St→Prop):Prop:=match o.op,o.dst,o.guard with
 | .store t a x,none,none=>match F8 C s.F a,F8 C s.F x with
  | some va,some vx=>bif a9y va&&a9y vx then d7s C s.H t va vx (fun H=>K (s.with H)) else False
  | _,_=>False
 | _,_,_=>False
def a8a:Oper→Bool
 | {op:=.store ..,dst:=none,guard:=none, .. }=>true
 | _=>false
def a7o (inLoop:Bool) (ops:Array Oper) (s:St) (K:St→Prop):Prop :=
 bif (a6h ops.toList).all (a2u tb)&& !(N9 ops.toList) then
  a8i C tb cs ops (f6d ops.toList) (bif inLoop then m3 s ops.toList else s) fun s1=>match a6h ops.toList with
   | []=>K s1
   | _::_=>b3o C tb ops (a6h ops.toList) s1 (fun _=>[]) [] K
 else bif (a6h ops.toList).dropLast.all (a2u tb)&&(!(N9 ops.toList)&&(match (a6h ops.toList).getLast? with|some o=>a8a o|none=>false)) then
  a8i C tb cs ops (f6d ops.toList) (bif inLoop then m3 s ops.toList else s) fun s1=>match (a6h ops.toList).getLast? with
   | some o=>b3o C tb ops (a6h ops.toList).dropLast s1 (fun _=>[]) [] fun s2=>a7j C o s2 K
   | none=>False
 else a8i C tb cs ops ops.toList (bif inLoop then m3 s ops.toList else s) fun s'=>K (bif N9 ops.toList then s'.with (o6 s'.H) else s')
def c6i (ops:Array Oper):List Oper→St→(St→List FP→Prop)→Prop
 | [],s,K=>K s []
 | o::l,s,K=>match o.guard with
  | some _=>e2o ops o s fun b s=>match b with
   | true=>c6c C tb cs true o s fun s'=>c6i ops l s' fun r fs=>K r (L3 C cs.call ops.toList o s s'::fs)
   | false=>a6q s o.dst N5 fun s'=>c6i ops l s' fun r fs=>K r (⟨[], [],false, []⟩::fs)
  | none=>c6c C tb cs true o s fun s'=>c6i ops l s' fun r fs=>K r (L3 C cs.call ops.toList o s s'::fs)
def c9w (ops:Array Oper) (s:St) (K:St→Prop):Prop :=
 bif Y9 ops&&(t7 ops&&a6e ops.toList) then
  c6i C tb cs ops ops.toList (Q9 s ops.toList) fun s' fs=>bif d6m ops fs then K (bif N9 ops.toList then s'.with (o6 s'.H) else s') else False
 else False
def c9e (ops:Array Oper):Bool:=ops.toList.dropLast.all (a2u tb)&&(!(N9 ops.toList)&&(a4e ops).all fun p=>Nat.blt p.1 (ops.size-1)&&Nat.blt p.2 (ops.size-1))
def c9x (ops:Array Oper) (s:St) (K:St→Prop):Prop:=match ops.toList.getLast? with
 | some o=>b3o C tb ops ops.toList.dropLast (Q9 s ops.toList) (fun _=>[]) [] fun s1=>a7j C o s1 K
 | none=>False
def b6h (ops:Array Oper) (s:St) (K:St→Prop):Prop :=
 bif Y9 ops&&(t7 ops&&a6e ops.toList)&&(c9e tb ops&&(match ops.toList.getLast? with|some o=>a8a o|none=>false)) then c9x C tb ops s K else
 bif Y9 ops&&(t7 ops&&a6e ops.toList)&&(ops.toList.all (a2u tb)&& !(N9 ops.toList)) then b3o C tb ops ops.toList (Q9 s ops.toList) (fun _=>[]) [] K
 else c9w C tb cs ops s K
def b6u (l:List (B2×Nat)) (s:St) (K:St→Prop):Prop:=match l with
 | []=>K s
 | (n,i)::r=>match s.H n with
  | some (.cells u cs)=>match cs[i]? with
   | some (.opt m off)=>b6u r ⟨s.N,s.F,s.H.set n (.cells u (cs.set i (.d (.lit (.pointer none)))))⟩ K∧b6u r ⟨s.N,s.F,s.H.set n (.cells u (cs.set i (.ptr m off)))⟩ K
   | _=>b6u r s K
  | _=>False
def e4k (k:Nat):List (List Nat×List (B2×B2))→St→(St→Prop)→Prop
 | [],s,K=>K s
 | c::r,s,K=>go (a2t k c.1 c.2 s) fun p=>e4k k r (stN s.N c.1 (S9 c.2) p.1 p.2) K
def f8x (k:Nat) (ads:List Ad) (c:List (List Nat×List (B2×B2))) (s:St) (K:St→Prop):Prop:=go (v8 ads s) fun s=>e4k k c s K
def e2v (k:Nat) (S:Spec) (s:St) (K:X→St→Prop):Prop :=
 go (v8 S.ads s) fun s=>go (a2t k S.L S.ns s) fun p=>S.G s.N p.1 p.2 fun x vs bs=>K x (stO s.N S vs bs)
def d9i (x y:Code):Nat:=bif a6w x==0 then 2*a6w y+1 else 2*a6w x+1
def Q8 (k:Nat) (sp:Nat→Option Spec) (hn:Nat→Option j5) (inLoop:Bool):Code→St→(X→St→Prop)→Prop
 | .skip,s,K=>K .normal s
 | .region id ops draw,s,K=>match hn id with
  | none=>bif draw then b6h C tb cs ops s (K .normal) else a7o C tb cs inLoop ops s (K .normal)
  | some h=>b6u h.split s fun s=>bif draw then b6h C tb cs ops s (fun s=>f8x k h.ads h.cut s (K .normal)) else a7o C tb cs inLoop ops s (fun s=>f8x k h.ads h.cut s (K .normal))
 | .seq a b,s,K=>Q8 k sp hn inLoop a s fun x s'=>match x with
  | .normal=>Q8 k sp hn inLoop b s' K
  | x=>K x s'
 | .cond c x y,s,K=>match sp (d9i x y) with
  | some S=>e2v k S s K
  | none=>match F8 C s.F c with
   | some (.d (.lit (.bool t)))=>bif t then Q8 k sp hn inLoop x (f2i s c true) K else Q8 k sp hn inLoop y (f2i s c false) K
   | _=>False
 | .block id c,s,K=>Q8 k sp hn inLoop c s fun x s'=>match x with
  | .exit i=>bif i==id then K .normal s' else K (.exit i) s'
  | x=>K x s'
 | .loop c,s,K=>match sp (2*a6w c) with
  | some S=>e2v k S s K
  | none=>False
 | .exit id,s,K=>K (.exit id) s
 | .ret,s,K=>K .ret s
 | _,_,_=>False
def K3:Bool→Code→List (Nat×Bool×Code)
 | il, .seq a b=>K3 il a++K3 il b
 | il, .block _ c=>K3 il c
 | il, .loop c=>[(2*a6w c,il, .loop c)]
 | il, .cond c a b=>(d9i a b,il, .cond c a b)::(K3 il a++K3 il b)
 | _,_=>[]
end
def s6 (C:Cx) (k:Nat) (sp:Nat→Option Spec) (l:List (Nat×Bool×Code)):Prop :=
 ∀p∈l,∀S,sp p.1=some S→∀N vals bs K,S.G N vals bs K→T C k p.2.2 (stN N S.L (S9 S.ns) vals bs) fun x s'=>∃vs bs',s'=stO N S vs bs'∧K x vs bs'
section
variable {C : Cx} {tb : Tab} {cs : CS} {k : Nat} {s s' q : St}
theorem a7w {A:Ann} {gs:List Nat} (U:a8u q s A gs):a5a C k q (a3h s A):=fun g a w R z=>by
 have hH:(a3h s A).H=q.H:=U.H.symm
 refine ⟨by rw[hH];exact z,g,⟨by rw[R.size];exact U.N,fun t=>?_,by rw[hH];exact R.heap,R.globs,R.defers⟩, .refl _ _,by rw[hH];exact .refl _ _⟩
 rw[hH]
 unfold a3h
 simp only[]
 cases hA:A t with
 | nil =>
  simp only[]
  have:=U.yes t (by rw[hA];rfl)
  rw[←this];exact R.slots t
 | cons p r=>exact .any
theorem a2q {y:Bool} {ops:Array Oper}:∀{l m:List Oper} {s s1 s2:St},Q7 C y cs.call ops l s=some s1→Q7 C y cs.call ops m s1=some s2→Q7 C y cs.call ops (l++m) s=some s2
 | [],m,s,s1,s2,h1,h2=>by simp[Q7] at h1;subst h1;exact h2
 | o::l,m,s,s1,s2,h1,h2=>by
  simp only[List.cons_append,Q7] at h1 ⊢
  split at h1
  ·rename_i hw
   split at h1
   ·exact a2q h1 h2
   ·cases h1
  ·rename_i hw
   split at h1
   ·exact a2q h1 h2
   ·cases h1
  ·cases h1
theorem f4a {y:Bool} {o:Oper} {K:St→Prop} {p:Prop} (h:f4b C cs y s o K=some p) (hp:p):∃s',D6 C y cs.call o s=some s'∧K s':=by
 obtain ⟨dst,op,type,pos,after,guard⟩:=o
 unfold f4b at h
 cases op with
 | call c =>
  obtain ⟨callee,cargs,tys⟩:=c
  cases callee with
  | value f =>
   simp only[] at h
   split at h
   case h_2=>cases h
   rename_i F first cap args hf ha
   split at h
   case h_2=>cases h
   rename_i he hpr
   split at h
   ·rename_i ds hds
    split at h
    case h_2=>cases h
    rename_i p0 c0 x0 z0 hq
    simp only[Option.some.injEq] at h
    subst h
    obtain ⟨hp0,hp⟩:=hp
    have hcall:=cs.ok _ _ _ _ _ _ _ hq hp0
    have hp:R9 y s dst (bif c0 then x0 else z0) K:=by cases c0<;>exact hp
    generalize (bif c0 then x0 else z0)=res at hp hcall
    obtain ⟨r,Hc⟩:=res
    unfold R9 at hp
    simp only[D6,ha,hf,M9,he,hpr,hds,hcall]
    split at hp
    ·rename_i x hx
     rw[a3o] at hp
     obtain ⟨s1,h1,h2⟩:=F9 hp
     simp only[] at hx
     rw[hx]
     exact ⟨s1,h1,h2⟩
    ·rename_i v hne
     cases dst with
     | none=>exact hp.elim
     | some d =>
      simp only[] at hp
      obtain ⟨s1,h1,h2⟩:=F9 hp
      refine ⟨s1, ?_,h2⟩
      rw[←h1]
      split
      ·rename_i x hx;exact absurd hx (hne x)
      ·rfl
   ·rename_i hds
    cases dst with
    | none=>cases h
    | some d =>
     simp only[] at h
     split at h
     case h_2=>cases h
     rename_i p0 c0 x0 z0 hq
     simp only[Option.some.injEq] at h
     subst h
     obtain ⟨hp0,hp⟩:=hp
     have hcall:=cs.ok _ _ _ _ _ _ _ hq hp0
     have hp:a6q ((bif y then s else s.age d).with ((bif c0 then x0 else z0).2.ren (o5 d) (W9 d))) (some d) ((bif c0 then x0 else z0).1.ren (o5 d)) K:=by cases c0<;>exact hp
     generalize (bif c0 then x0 else z0)=res at hp hcall
     obtain ⟨r,Hc⟩:=res
     rw[a3o] at hp
     obtain ⟨s1,h1,h2⟩:=F9 hp
     refine ⟨s1, ?_,h2⟩
     simp only[D6,ha,hf,M9,he,hpr,hds]
     cases y with
     | true =>
      simp only[cond_true] at hcall h1 ⊢
      simp only[i7,hcall]
      exact h1
     | false =>
      simp only[cond_false] at hcall h1 ⊢
      simp only[i7,hcall]
      exact h1
  | _=>simp only[] at h;cases h
 | _=>simp only[] at h;cases h
theorem b7y {H:B3} {t:TypeId} {a v:V} {n:B2} {b:Box} {p:Prop} (h:b4z C H t a v=some (n,b,p)) (hp:p):U1 C H t a v=some (H.set n b):=by
 unfold b4z at h
 split at h
 ·rename_i m off
  split at h
  ·rename_i u kk k hb hk
   cases hc:(s5 v&&k==1) with
   | false=>rw[hc] at h;cases h
   | true =>
    rw[hc] at h
    simp only[cond_true,Option.some.injEq,Prod.mk.injEq] at h
    obtain ⟨rfl,rfl,rfl⟩:=h
    have hlt:Nat.blt off kk=true:=by simpa [Nat.blt_eq] using hp
    simp only[U1,hb,hk,hc,hlt,Bool.and_self,cond_true]
  ·rename_i u kk lo hi k hb hk
   cases hc:(s5 v&&k==1) with
   | false=>rw[hc] at h;cases h
   | true =>
    rw[hc] at h
    simp only[cond_true,Option.some.injEq,Prod.mk.injEq] at h
    obtain ⟨rfl,rfl,rfl⟩:=h
    simp only[Bool.and_eq_true,beq_iff_eq] at hc
    obtain ⟨hbv,rfl⟩:=hc
    have hlt:Nat.ble (off+1) kk=true:=by rw[Nat.ble_eq];exact hp
    have hcl:v.cells= [v]∧Y6 v=true:=by
     unfold s5 at hbv
     split at hbv
     ·exact ⟨rfl,rfl⟩
     ·exact ⟨rfl,rfl⟩
     ·cases hbv
    have hok:a8y lo hi off [v]=true:=by
     simp only[a8y,Bool.and_true]
     cases (Nat.ble lo off&&Nat.blt off hi) with
     | true=>exact hbv
     | false=>rfl
    simp only[U1,hb,hk,hcl.1,hcl.2,hok,hlt,List.length_singleton,beq_self_eq_true,Bool.and_self,cond_true]
  ·cases h
 ·cases h
theorem b7z {H:B3} {t:TypeId} {a v:V} {K:B3→Prop} (h:d7s C H t a v K):∃H2,U1 C H t a v=some H2∧K H2:=by
 unfold d7s at h
 split at h
 ·rename_i n b p hs
  exact ⟨_,b7y hs h.1,h.2⟩
 ·exact F9 h
theorem e5k {o:Oper} {n:B2} {b:Box} {p:Prop} (h:d7r C s o=some (n,b,p)) (hp:p) {y:Bool}:D6 C y cs.call o s=St.put ⟨s.N,s.F,s.H.set n b⟩ o.dst N5:=by
 obtain ⟨dst,op,type,pos,after,guard⟩:=o
 unfold d7r at h
 cases op with
 | store t a x =>
  simp only[] at h
  split at h
  ·rename_i va v ha hx
   simp only[D6,ha,hx,b7y h hp]
   rfl
  ·cases h
 | _=>simp only[] at h;cases h
theorem b2p (hE:Has C tb) {y:Bool} {o:Oper} {s:St} {K:St→Prop} (h:c6c C tb cs y o s K):∃s',D6 C y cs.call o s=some s'∧K s':=by
 unfold c6c at h
 split at h
 ·rename_i n b p hsp
  obtain ⟨hp,h⟩:=h
  rw[a3o] at h
  obtain ⟨s1,h1,h⟩:=F9 h
  have:D6 C y cs.call o s=St.put ⟨s.N,s.F,s.H.set n b⟩ o.dst N5:=e5k hsp hp
  exact ⟨s1,this.trans h1,h⟩
 split at h
 ·rename_i v hv
  rw[a3o] at h
  obtain ⟨s1,h1,h⟩:=F9 h
  have:=c8c (y:=y) (call:=cs.call) hE (fun x v hx=>hx) hv (fun P hP=>by cases hP)
  exact ⟨s1,this.trans h1,h⟩
 ·rename_i v p hv
  obtain ⟨hp,h⟩:=h
  rw[a3o] at h
  obtain ⟨s1,h1,h⟩:=F9 h
  have:=c8c (y:=y) (call:=cs.call) hE (fun x v hx=>hx) hv (fun P hP=>by cases hP;exact hp)
  exact ⟨s1,this.trans h1,h⟩
 ·split at h
  ·rename_i p hq
   exact f4a hq h
  ·exact e7e C h
theorem u9 (hE:Has C tb) {ops:Array Oper}:∀{l:List Oper} {s:St} {K:St→Prop},a8i C tb cs ops l s K→∃s',Q7 C false cs.call ops l s=some s'∧K s'
 | [],s,K,h=>⟨s,rfl,h⟩
 | o::l,s,K,h=>by
  unfold a8i at h
  unfold Q7
  split at h
  ·rw[d2y] at h
   obtain ⟨b,hb,h⟩:=F9 h
   rw[hb]
   cases b with
   | true =>
    obtain ⟨s1,h1,h⟩:=b2p hE h
    simp only[h1]
    exact u9 hE h
   | false =>
    simp only[] at h ⊢
    rw[a3o] at h
    obtain ⟨s1,h1,h⟩:=F9 h
    simp only[h1]
    exact u9 hE h
  ·rename_i hg
   have hw:L2 ops o s.F=some true:=by unfold L2;rw[hg]
   rw[hw]
   obtain ⟨s1,h1,h⟩:=b2p hE h
   simp only[h1]
   exact u9 hE h
theorem c3c (l:List Oper):f6d l++a6h l=l:=List.takeWhile_append_dropWhile
theorem a6k {A:Ann} {gs:List Nat} {q s:St} (U:a8u q s A gs) {x:Operand} {v:V} (h:F8 C (a3h s A).F x=some v) (hk:a9y v=true):F8 C q.F x=some v:=by
 cases x with
 | tmp t =>
  simp only[F8,Option.some.injEq] at h ⊢
  subst h
  unfold a3h at hk ⊢
  simp only[] at hk ⊢
  cases hA:A t with
  | nil=>exact U.yes t (by rw[hA];rfl)
  | cons p r=>rw[hA] at hk;simp[a9y] at hk
 | const u=>exact h
 | global g=>exact h
 | func f=>exact h
theorem c9d {A:Ann} {gs:List Nat} {q s:St} (U:a8u q s A gs) {ops:Array Oper} {o:Oper} {K:St→Prop} (h:a7j C o (a3h s A) K) :
  ∃H2,(∀y,Q7 C y cs.call ops [o] q=some (q.with H2))∧a8u (q.with H2) (s.with H2) A gs∧K ((a3h s A).with H2):=by
 unfold a7j at h
 split at h
 case h_2=>exact h.elim
 rename_i t a x hop hdst hg
 split at h
 case h_2=>exact h.elim
 rename_i va vx ha hx
 cases hk:(a9y va&&a9y vx) with
 | false=>rw[hk] at h;exact h.elim
 | true =>
  rw[hk] at h
  simp only[cond_true] at h
  simp only[Bool.and_eq_true] at hk
  obtain ⟨H2,e4,e5⟩:=b7z h
  have ha':=a6k U ha hk.1
  have hx':=a6k U hx hk.2
  have hH:(a3h s A).H=q.H:=U.H.symm
  rw[hH] at e4
  refine ⟨H2,fun y=>?_,⟨U.N,rfl,U.yes,U.no,U.has⟩,e5⟩
  unfold Q7 L2
  rw[hg]
  obtain ⟨dst,op,type,pos,after,guard⟩:=o
  simp only at hop hdst hg
  subst hop hdst hg
  simp only[D6,ha',hx',e4]
  rfl
theorem c5r (hE:Has C tb) {il:Bool} {ops:Array Oper} {K:St→Prop} (h:a7o C tb cs il ops s K):∃s',X4 C cs.call il ops s=some s'∧∃s2,a5a C k s' s2∧K s2:=by
 unfold a7o at h
 unfold X4
 cases hc:((a6h ops.toList).all (a2u tb)&& !(N9 ops.toList)) with
 | true =>
  rw[hc] at h
  simp only[cond_true] at h
  simp only[Bool.and_eq_true,Bool.not_eq_true'] at hc
  obtain ⟨s1,h1,h2⟩:=u9 hE h
  cases hp:a6h ops.toList with
  | nil =>
   rw[hp] at h2
   have he:f6d ops.toList=ops.toList:=by have:=c3c ops.toList;rw[hp] at this;simpa using this
   rw[he] at h1
   rw[h1]
   exact ⟨_,rfl,s1,by rw[hc.2];exact .refl,h2⟩
  | cons o r =>
   rw[hp] at h2
   simp only[] at h2
   rw[←hp] at h2
   obtain ⟨q',s',A',gs',e1,e2,e3⟩:=a7g hE (y:=false) (call:=cs.call) (q:=s1) ⟨rfl,rfl,fun _ _=>rfl,fun t ht=>by simp[M8] at ht,fun t p hp=>by simp at hp⟩ h2
   have:=a2q h1 e1
   rw[c3c] at this
   rw[this]
   exact ⟨_,rfl,_,by rw[hc.2];exact a7w e2,e3⟩
 | false =>
  rw[hc] at h
  simp only[cond_false] at h
  cases hl:((a6h ops.toList).dropLast.all (a2u tb)&&(!(N9 ops.toList)&&(match (a6h ops.toList).getLast? with|some o=>a8a o|none=>false))) with
  | true =>
   rw[hl] at h
   simp only[cond_true] at h
   simp only[Bool.and_eq_true,Bool.not_eq_true'] at hl
   obtain ⟨s1,h1,h2⟩:=u9 hE h
   split at h2
   case h_2=>exact h2.elim
   rename_i o ho
   obtain ⟨q',s',A',gs',e1,e2,e3⟩:=a7g hE (y:=false) (call:=cs.call) (q:=s1) ⟨rfl,rfl,fun _ _=>rfl,fun t ht=>by simp[M8] at ht,fun t p hp=>by simp at hp⟩ h2
   obtain ⟨H2,e4,e5,e6⟩:=c9d (cs:=cs) (ops:=ops) e2 e3
   have hsp:(a6h ops.toList).dropLast++ [o]=a6h ops.toList:=by obtain ⟨ys,hy⟩:=List.getLast?_eq_some_iff.1 ho;rw[hy];simp
   have:=a2q h1 (a2q e1 (e4 false))
   rw[hsp,c3c] at this
   rw[this]
   exact ⟨_,rfl,_,by rw[hl.2.1];exact a7w e5,e6⟩
  | false =>
  rw[hl] at h
  simp only[cond_false] at h
  obtain ⟨s1,h1,h2⟩:=u9 hE h
  rw[h1]
  exact ⟨_,rfl,_, .refl,h2⟩
theorem b2q (hE:Has C tb) {ops:Array Oper}:∀{l:List Oper} {s:St} {K:St→List FP→Prop},c6i C tb cs ops l s K→∃r,a5m C cs.call ops l s=some r∧K r.1 r.2
 | [],s,K,h=>⟨(s, []),rfl,h⟩
 | o::l,s,K,h=>by
  unfold c6i at h
  unfold a5m o3 fpY
  split at h
  ·rw[d2y] at h
   obtain ⟨b,hb,h⟩:=F9 h
   rw[hb]
   cases b with
   | true =>
    obtain ⟨s1,h1,h⟩:=b2p hE h
    obtain ⟨r,h2,h3⟩:=b2q hE h
    simp only[h1,h2]
    exact ⟨_,rfl,h3⟩
   | false =>
    simp only[] at h ⊢
    rw[a3o] at h
    obtain ⟨s1,h1,h⟩:=F9 h
    obtain ⟨r,h2,h3⟩:=b2q hE h
    simp only[h1,h2]
    exact ⟨_,rfl,h3⟩
  ·rename_i hg
   have hw:L2 ops o s.F=some true:=by unfold L2;rw[hg]
   rw[hw]
   obtain ⟨s1,h1,h⟩:=b2p hE h
   obtain ⟨r,h2,h3⟩:=b2q hE h
   simp only[h1,h2]
   exact ⟨_,rfl,h3⟩
theorem d5v (hE:Has C tb) {il:Bool} {ops:Array Oper} {K:St→Prop} (h:c9w C tb cs ops s K):∃s',k7 C cs.call il ops s=some s'∧K s':=by
 unfold c9w at h
 unfold k7
 cases hc:(Y9 ops&&(t7 ops&&a6e ops.toList)) with
 | false=>rw[hc] at h;exact h.elim
 | true =>
  rw[hc] at h
  obtain ⟨⟨r,fs⟩,h1,h2⟩:=b2q hE h
  simp only[cond_true,h1] at h2 ⊢
  cases hd:d6m ops fs with
  | false=>rw[hd] at h2;exact h2.elim
  | true =>
   rw[hd] at h2
   have e:((a4e ops).all fun p=>match fs[p.1]?,fs[p.2]? with|some x,some y=>a8b x y|_,_=>false)=true:=hd
   refine ⟨_, ?_,h2⟩
   exact (congrArg (fun b=>bif b then some (bif N9 ops.toList then r.with (o6 r.H) else r) else none) e)
theorem f9b (hE:Has C tb) {l:List Oper} {o:Oper} {s s':St} (h:a2u tb o=true) (hv:D6 C true cs.call o s=some s'):(L3 C cs.call l o s s').d= []∧(L3 C cs.call l o s s').all=false:=by
 obtain ⟨dst,op,type,pos,after,guard⟩:=o
 cases op with
 | call c =>
  obtain ⟨callee,cargs,tys⟩:=c
  cases callee with
  | builtin b=>cases b<;>first|exact ⟨rfl,rfl⟩ | (simp[a2u] at h)
  | value f =>
   cases f with
   | func K =>
    simp only[a2u] at h
    split at h
    ·rename_i c hc
     unfold L3
     simp only[F8]
     cases ha:Q0 C s.F cargs.toList with
     | none=>simp[D6,ha] at hv
     | some args =>
      have:o4 C cs.call s.H K ([]++args++ [])=true:=by
       unfold o4
       rw[hE K,hc]
      simp only[this,cond_true]
      exact ⟨trivial,trivial⟩
    ·cases h
   | _=>simp[a2u] at h
  | invoke a b=>simp[a2u] at h
 | slice t x lo hi mx=>exact ⟨rfl,rfl⟩
 | _=>first|exact ⟨rfl,rfl⟩ | (simp[a2u] at h)
theorem a8g (hE:Has C tb) {ops:Array Oper}:∀{l:List Oper} {q q':St},l.all (a2u tb)=true→Q7 C true cs.call ops l q=some q'→∃fs,a5m C cs.call ops l q=some (q',fs)∧∀x∈fs,x.d= []∧x.all=false
 | [],q,q',_,h=>by simp[Q7] at h;subst h;exact ⟨[],rfl,fun x hx=>by cases hx⟩
 | o::l,q,q',hc,h=>by
  simp only[List.all_cons,Bool.and_eq_true] at hc
  unfold Q7 at h
  unfold a5m o3
  split at h
  ·rename_i hw
   split at h
   ·rename_i s1 h1
    obtain ⟨fs,h2,h3⟩:=a8g hE hc.2 h
    refine ⟨fpY C cs.call ops o q s1::fs,by simp only[h2],fun x hx=>?_⟩
    rcases List.mem_cons.1 hx with rfl|hx
    ·unfold fpY;rw[hw];exact f9b hE hc.1 h1
    ·exact h3 x hx
   ·cases h
  ·rename_i hw
   split at h
   ·rename_i s1 h1
    obtain ⟨fs,h2,h3⟩:=a8g hE hc.2 h
    refine ⟨fpY C cs.call ops o q s1::fs,by simp only[h2],fun x hx=>?_⟩
    rcases List.mem_cons.1 hx with rfl|hx
    ·unfold fpY;rw[hw];exact ⟨rfl,rfl⟩
    ·exact h3 x hx
   ·cases h
  ·cases h
theorem d9h {ops:Array Oper} {fs:List FP} (hl:fs.length=ops.size) (h:∀x∈fs,x.d= []∧x.all=false) (hp:∀p∈a4e ops,p.1<ops.size∧p.2<ops.size):d6m ops fs=true:=by
 unfold d6m
 refine List.all_eq_true.2 fun p hp'=>?_
 obtain ⟨h1,h2⟩:=hp p hp'
 rw[←hl] at h1 h2
 rw[List.getElem?_eq_getElem h1,List.getElem?_eq_getElem h2]
 simp only[]
 obtain ⟨d1,a1⟩:=h _ (List.getElem_mem h1)
 obtain ⟨d2,a2⟩:=h _ (List.getElem_mem h2)
 unfold a8b e7r f3r
 simp[d1,a1,d2,a2,clear]
theorem c8t {ops:Array Oper} {p:Nat×Nat} (h:p∈a5c ops):p.1<ops.size∧p.2<ops.size:=by
 unfold a5c at h
 obtain ⟨b,hb,hp⟩:=List.mem_flatMap.1 h
 obtain ⟨a,ha,hp⟩:=List.mem_filterMap.1 hp
 have hb':=List.mem_range.1 hb
 have ha':=List.mem_range.1 ha
 cases ht:((Region.before ops).getD b 0).testBit a with
 | true=>rw[ht] at hp;cases hp
 | false =>
  rw[ht] at hp
  simp only[cond_false,Option.some.injEq] at hp
  subst hp
  exact ⟨by simp only[];omega,hb'⟩
theorem c2u {ops:Array Oper}:∀{l:List Oper} {q r:St} {fs:List FP},a5m C cs.call ops l q=some (r,fs)→fs.length=l.length
 | [],q,r,fs,h=>by simp[a5m] at h;rw[h.2];rfl
 | o::l,q,r,fs,h=>by
  unfold a5m at h
  split at h
  ·split at h
   ·rename_i r' fs' h2
    simp only[Option.some.injEq,Prod.mk.injEq] at h
    rw[←h.2];simp[c2u h2]
   ·cases h
  ·cases h
theorem c6h {ops:Array Oper} {o:Oper} {q2 q3:St} (ho:o3 C cs.call ops o q2=some q3):∀{l:List Oper} {q:St} {fs:List FP},a5m C cs.call ops l q=some (q2,fs)→a5m C cs.call ops (l++ [o]) q=some (q3,fs++ [fpY C cs.call ops o q2 q3])
 | [],q,fs,h=>by
  simp only[a5m,Option.some.injEq,Prod.mk.injEq] at h
  obtain ⟨rfl,rfl⟩:=h
  simp[a5m,ho]
 | p::l,q,fs,h=>by
  unfold a5m at h
  rw[List.cons_append]
  split at h
  ·rename_i s1 h1
   simp only[a5m,h1]
   split at h
   ·rename_i r fs' h2
    simp only[Option.some.injEq,Prod.mk.injEq] at h
    obtain ⟨rfl,rfl⟩:=h
    rw[c6h ho h2]
    rfl
   ·cases h
  ·cases h
theorem d5w (hE:Has C tb) {il:Bool} {ops:Array Oper} {K:St→Prop} (hc:(Y9 ops&&(t7 ops&&a6e ops.toList))=true) (hl:c9e tb ops=true) (h:c9x C tb ops s K):∃s',k7 C cs.call il ops s=some s'∧∃s2,a5a C k s' s2∧K s2:=by
 unfold c9x at h
 split at h
 case h_2=>exact h.elim
 rename_i o ho
 unfold c9e at hl
 simp only[Bool.and_eq_true,Bool.not_eq_true'] at hl
 obtain ⟨c4,c5,c6⟩:=hl
 have hsp:ops.toList.dropLast++ [o]=ops.toList:=by obtain ⟨ys,hy⟩:=List.getLast?_eq_some_iff.1 ho;rw[hy];simp
 obtain ⟨q',s',A',gs',e1,e2,e3⟩:=a7g hE (y:=true) (call:=cs.call) (q:=Q9 s ops.toList) ⟨rfl,rfl,fun _ _=>rfl,fun t ht=>by simp[M8] at ht,fun t p hp=>by simp at hp⟩ h
 obtain ⟨fs,h1,h2⟩:=a8g hE c4 e1
 unfold a7j at e3
 split at e3
 case h_2=>exact e3.elim
 rename_i t a x hop hdst hg
 split at e3
 case h_2=>exact e3.elim
 rename_i va vx ha hx
 cases hk:(a9y va&&a9y vx) with
 | false=>rw[hk] at e3;exact e3.elim
 | true =>
  rw[hk] at e3
  simp only[cond_true] at e3
  simp only[Bool.and_eq_true] at hk
  obtain ⟨H2,e4,e5⟩:=b7z e3
  have ha':=a6k e2 ha hk.1
  have hx':=a6k e2 hx hk.2
  have hH:(a3h s' A').H=q'.H:=e2.H.symm
  rw[hH] at e4
  have hst:o3 C cs.call ops o q'=some (q'.with H2):=by
   unfold o3 L2
   rw[hg]
   obtain ⟨dst,op,type,pos,after,guard⟩:=o
   simp only at hop hdst hg
   subst hop hdst hg
   simp only[D6,ha',hx',e4]
   rfl
  have hr:=c6h hst h1
  rw[hsp] at hr
  have U2:a8u (q'.with H2) (s'.with H2) A' gs':=⟨e2.N,rfl,e2.yes,e2.no,e2.has⟩
  refine ⟨q'.with H2, ?_,(a3h s' A').with H2,a7w U2,e5⟩
  unfold k7
  rw[hc]
  simp only[cond_true,hr]
  have hlen:fs.length=ops.size-1:=by rw[c2u h1];simp
  have e:((a4e ops).all fun p=>match (fs++ [fpY C cs.call ops o q' (q'.with H2)])[p.1]?,(fs++ [fpY C cs.call ops o q' (q'.with H2)])[p.2]? with|some x,some y=>a8b x y|_,_=>false)=true:=by
   refine List.all_eq_true.2 fun p hp=>?_
   have:=List.all_eq_true.1 c6 p hp
   simp only[Bool.and_eq_true,Nat.blt_eq] at this
   have g1:p.1<fs.length:=by omega
   have g2:p.2<fs.length:=by omega
   rw[List.getElem?_append_left g1,List.getElem?_append_left g2,List.getElem?_eq_getElem g1,List.getElem?_eq_getElem g2]
   simp only[]
   obtain ⟨d1,a1⟩:=h2 _ (List.getElem_mem g1)
   obtain ⟨d2,a2⟩:=h2 _ (List.getElem_mem g2)
   unfold a8b e7r f3r
   simp[d1,a1,d2,a2,clear]
  have:=congrArg (fun b=>bif b then some (bif N9 ops.toList then (q'.with H2).with (o6 (q'.with H2).H) else (q'.with H2)) else none) e
  rw[c5] at this ⊢
  exact this
theorem d5u (hE:Has C tb) {il:Bool} {ops:Array Oper} {K:St→Prop} (h:b6h C tb cs ops s K):∃s',k7 C cs.call il ops s=some s'∧∃s2,a5a C k s' s2∧K s2:=by
 unfold b6h at h
 cases hl:(Y9 ops&&(t7 ops&&a6e ops.toList)&&(c9e tb ops&&(match ops.toList.getLast? with|some o=>a8a o|none=>false))) with
 | true =>
  rw[hl] at h
  simp only[Bool.and_eq_true] at hl
  exact d5w hE (by simp only[Bool.and_eq_true];exact hl.1) hl.2.1 h
 | false =>
 rw[hl] at h
 simp only[cond_false] at h
 cases hc:(Y9 ops&&(t7 ops&&a6e ops.toList)&&(ops.toList.all (a2u tb)&& !(N9 ops.toList))) with
 | false =>
  rw[hc] at h
  obtain ⟨s',h1,h2⟩:=d5v hE (il:=il) h
  exact ⟨s',h1,s', .refl,h2⟩
 | true =>
  rw[hc] at h
  simp only[cond_true] at h
  simp only[Bool.and_eq_true,Bool.not_eq_true'] at hc
  obtain ⟨⟨c1,c2,c3⟩,c4,c5⟩:=hc
  obtain ⟨q',s',A',gs',e1,e2,e3⟩:=a7g hE (y:=true) (call:=cs.call) (q:=Q9 s ops.toList) ⟨rfl,rfl,fun _ _=>rfl,fun t ht=>by simp[M8] at ht,fun t p hp=>by simp at hp⟩ h
  obtain ⟨fs,h1,h2⟩:=a8g hE c4 e1
  refine ⟨q', ?_,_,a7w e2,e3⟩
  unfold k7
  have hst:(Y9 ops&&(t7 ops&&a6e ops.toList))=true:=by simp[c1,c2,c3]
  rw[hst]
  simp only[cond_true,h1]
  have hd:d6m ops fs=true:=d9h (by rw[c2u h1];simp) h2 fun p hp=>c8t (List.mem_filter.1 hp).1
  have e:((a4e ops).all fun p=>match fs[p.1]?,fs[p.2]? with|some x,some y=>a8b x y|_,_=>false)=true:=hd
  have:=congrArg (fun b=>bif b then some (bif N9 ops.toList then q'.with (o6 q'.H) else q') else none) e
  rw[c5] at this ⊢
  exact this
theorem b5c {c:Code} {K:St→Prop} {Q:X→St→Prop} (hK:∀s,K s→T C k c s Q):∀{l:List (B2×Nat)} {s:St},b6u l s K→T C k c s Q
 | [],s,h=>hK s h
 | (n,i)::r,s,h=>by
  unfold b6u at h
  split at h
  ·rename_i u cs hb
   split at h
   ·rename_i m off hi
    exact f9s hb hi (b5c hK h.1) (b5c hK h.2)
   ·exact b5c hK h
  ·exact h.elim
theorem c4y {K:St→Prop}:∀{c:List (List Nat×List (B2×B2))} {s:St},e4k k c s K→∃s2,a5a C k s s2∧K s2
 | [],s,h=>⟨s, .refl,h⟩
 | c::r,s,h=>by
  unfold e4k at h
  obtain ⟨⟨vs,bs⟩,h2,h3⟩:=F9 h
  obtain ⟨s2,hw,hk⟩:=c4y h3
  have h1:a5a C k s _:=k8 h2
  exact ⟨s2,h1.trans hw,hk⟩
theorem e7s {ads:List Ad} {c:List (List Nat×List (B2×B2))} {K:St→Prop} (h:f8x k ads c s K):∃s2,a5a C k s s2∧K s2:=by
 unfold f8x at h
 obtain ⟨s1,h1,h⟩:=F9 h
 obtain ⟨s2,hw,hk⟩:=c4y (C:=C) h
 exact ⟨s2,(V9 h1).trans hw,hk⟩
theorem e2u {c:Code} {S:Spec} {K:X→St→Prop} (hS:∀N vals bs K,S.G N vals bs K→T C k c (stN N S.L (S9 S.ns) vals bs) fun x s'=>∃vs bs',s'=stO N S vs bs'∧K x vs bs') (h:e2v k S s K):T C k c s K:=by
 unfold e2v at h
 obtain ⟨s1,h1,h⟩:=F9 h
 obtain ⟨⟨vs,bs⟩,h2,h3⟩:=F9 h
 refine h2h ((V9 h1).trans (k8 h2)) (d9y (hS _ _ _ _ h3) ?_)
 rintro x s' ⟨vs',bs',rfl,hk⟩
 exact hk
theorem a5e (F:b4v C cs.call) (hE:Has C tb) {sp:Nat→Option Spec} {hn:Nat→Option j5}:∀(c:Code) (il:Bool) (s:St) (K:X→St→Prop),s6 C k sp (K3 il c)→Q8 C tb cs k sp hn il c s K→T C k c s K:=by
 intro c
 induction c with
 | skip=>intro il s K _ h;exact h2i h
 | region id ops draw =>
  intro il s K _ h
  unfold Q8 at h
  have one:∀(s:St) (K':St→Prop) (Q:X→St→Prop),(∀s1,K' s1→∃s2,a5a C k s1 s2∧Q .normal s2)→(bif draw then b6h C tb cs ops s K' else a7o C tb cs il ops s K')→T C k (.region id ops draw) s Q:=by
   intro s K' Q hQ h
   cases draw with
   | true =>
    simp only[cond_true] at h
    obtain ⟨s1,h1,s2,hw,h2⟩:=d5u hE (il:=il) (k:=k) h
    refine b4s (K:=fun x s'=>x= .normal∧s'=s1) (d7d F (il:=il) (draw:=true) (by simpa using h1) ⟨rfl,rfl⟩) ?_
    rintro x s' ⟨rfl,rfl⟩
    obtain ⟨s3,hw3,h3⟩:=hQ s2 h2
    exact ⟨s3,hw.trans hw3,h3⟩
   | false =>
    simp only[cond_false] at h
    obtain ⟨s1,h1,s2,hw,h2⟩:=c5r hE (k:=k) h
    refine b4s (K:=fun x s'=>x= .normal∧s'=s1) (d7d F (il:=il) (draw:=false) (by simpa using h1) ⟨rfl,rfl⟩) ?_
    rintro x s' ⟨rfl,rfl⟩
    obtain ⟨s3,hw3,h3⟩:=hQ s2 h2
    exact ⟨s3,hw.trans hw3,h3⟩
  split at h
  ·exact one s _ K (fun s1 h1=>⟨s1, .refl,h1⟩) h
  ·rename_i hh _
   exact b5c (fun s hs=>one s _ K (fun s1 h1=>e7s h1) hs) h
 | seq a b ih1 ih2 =>
  intro il s K ok h
  unfold Q8 at h
  have h1:=ih1 il s _ (fun p hp=>ok p (by simp[K3,hp])) h
  refine f4u (d9y h1 ?_)
  intro x s1 hx
  cases x with
  | normal=>exact ih2 il s1 K (fun p hp=>ok p (by simp[K3,hp])) hx
  | exit i=>exact hx
  | ret=>exact hx
 | cond c a b ih1 ih2 =>
  intro il s K ok h
  unfold Q8 at h
  split at h
  ·rename_i S hS
   exact e2u (ok (d9i a b,il, .cond c a b) (by simp[K3]) S hS) h
  ·generalize hc:F8 C s.F c=v at h
   split at h
   ·rename_i t
    refine h2m hc ?_
    cases t with
    | true=>simp only[cond_true] at h ⊢;rw[d4v C hc] at h;exact ih1 il s K (fun p hp=>ok p (by simp[K3,hp])) h
    | false=>simp only[cond_false] at h ⊢;rw[d4v C hc] at h;exact ih2 il s K (fun p hp=>ok p (by simp[K3,hp])) h
   ·exact h.elim
 | block id a ih =>
  intro il s K ok h
  unfold Q8 at h
  exact f9t (ih il s _ ok h)
 | loop a ih =>
  intro il s K ok h
  unfold Q8 at h
  split at h
  ·rename_i S hS
   exact e2u (ok (2*a6w a,il, .loop a) (by simp[K3]) S hS) h
  ·exact h.elim
 | exit id=>intro il s K _ h;exact h2k h
 | ret=>intro il s K _ h;exact i2i h
 | _=>intro il s K _ h;simp[Q8] at h
def E1 (C:Cx) (tb:Tab) (cs:CS) (k:Nat) (sp:Nat→Option Spec) (hn:Nat→Option j5) (c:Code) (N:Nat) (L:List Nat) (nm:List B2) (adsI:List Ad) (nsI:List (B2×B2)) (L':List Nat) (nsX:List (B2×B2)) (vals:List V) (bs:List Box) (R:X→List V→List Box→Prop):Prop :=
 Q8 C tb cs k sp hn true c (stN N L nm vals bs) fun x s=>s.N=N∧match x with
  | .normal=>go (v8 adsI s) fun s=>go (a2t k L nsI s) fun p=>R .normal p.1 p.2
  | x=>go (a2t k L' nsX s) fun p=>R x p.1 p.2
def J2 (C:Cx) (k:Nat) (c:Code) (N:Nat) (L:List Nat) (nm:List B2) (L':List Nat) (nm':List B2) (vals:List V) (bs:List Box) (Q:X→List V→List Box→Prop):Prop :=
 TL C k c (stN N L nm vals bs) fun x s'=>∃vs bs',s'=stN N L' nm' vs bs'∧Q x vs bs'
theorem B5 (F:b4v C cs.call) (hE:Has C tb) {sp:Nat→Option Spec} {hn:Nat→Option j5} {c:Code} {N:Nat} {L L':List Nat} {nm nm':List B2} {adsI:List Ad} {nsI nsX:List (B2×B2)} {vals:List V} {bs:List Box} {Q:X→List V→List Box→Prop}
  (ok:s6 C k sp (K3 true c)) (hI:S9 nsI=nm) (hX:S9 nsX=nm')
  (h:a6d (E1 C tb cs k sp hn c N L nm adsI nsI L' nsX vals bs fun x vs bs'=>match x with | .normal=>J2 C k c N L nm L' nm' vs bs' Q|x=>Q x vs bs')):J2 C k c N L nm L' nm' vals bs Q:=by
 refine f9u (b4s (a5e F hE c true _ _ ok h.h) ?_)
 intro x s' ⟨hN,hx⟩
 cases x with
 | normal =>
  simp only[] at hx
  obtain ⟨s1,h1,hx⟩:=F9 hx
  obtain ⟨⟨vs,bs'⟩,h2,h3⟩:=F9 hx
  have hw:a5a C k s' _:=(V9 (k:=k) h1).trans (k8 h2)
  have hN1:s1.N=N:=(c5j h1).trans hN
  rw[hN1,hI] at hw
  exact ⟨_,hw,h3⟩
 | exit i =>
  simp only[] at hx
  obtain ⟨⟨vs,bs'⟩,h2,h3⟩:=F9 hx
  have hw:a5a C k s' _:=k8 h2
  rw[hN,hX] at hw
  exact ⟨_,hw,vs,bs',rfl,h3⟩
 | ret =>
  simp only[] at hx
  obtain ⟨⟨vs,bs'⟩,h2,h3⟩:=F9 hx
  have hw:a5a C k s' _:=k8 h2
  rw[hN,hX] at hw
  exact ⟨_,hw,vs,bs',rfl,h3⟩
theorem f7h {c:Code} {N:Nat} {S:Spec} {nm:List B2} {vals:List V} {bs:List Box} {K:X→List V→List Box→Prop} (h:J2 C k c N S.L nm S.L' S.nm' vals bs K):T C k (.loop c) (stN N S.L nm vals bs) fun x s'=>∃vs bs',s'=stO N S vs bs'∧K x vs bs':=h2j h
def B6 (C:Cx) (tb:Tab) (cs:CS) (k:Nat) (sp:Nat→Option Spec) (hn:Nat→Option j5) (K:FuncId) (args:List V) (H:B3) (Q:V→B3→Prop):Prop :=
 match C.P.funcs[K]? with
 | none=>False
 | some fn=>match fn.body with
  | none=>False
  | some c=>Q8 C tb cs k sp hn false c ⟨max fn.ntmps args.length,fun t=>(args[t]?).getD N5,H⟩ fun x s=>match x with
   | .exit _=>False
   | _=>go (a2p C s fn.results.toList) fun vs=>Q (j6 vs) s.H
theorem a3p (F:b4v C cs.call) (hE:Has C tb) {sp:Nat→Option Spec} {hn:Nat→Option j5} {K:FuncId} {args:List V} {H:B3} {Q:V→B3→Prop} {fn:Func} {c:Code} (hf:C.P.funcs[K]?=some fn) (hb:fn.body=some c) (hz:Z0 k H)
  (ok:s6 C k sp (K3 false c)) (h:B6 C tb cs k sp hn K args H Q):R8 C K args H Q:=by
 unfold B6 at h
 simp only[hf,hb] at h
 refine a9h hf hb hz (d9y (a5e F hE c false _ _ ok h) ?_)
 intro x s' hx
 cases x with
 | normal=>obtain ⟨vs,h1,h2⟩:=F9 hx;exact ⟨vs,h1,h2⟩
 | ret=>obtain ⟨vs,h1,h2⟩:=F9 hx;exact ⟨vs,h1,h2⟩
 | exit i=>exact hx.elim
end
end Go.Ev
end
section
namespace Go.Ev
def C3 (B:Cx) (tb:Tab):Prop:=∀K ct ds r,tb K=some ct→ct.pre ds→ct.f ds=some r→a6o B K ds r
def Tab.add (tb:Tab) (K:FuncId) (c:Ct):Tab:=fun n=>bif n==K then some c else tb n
def d4d:Tab:=fun _=>none
theorem e9x {B:Cx}:C3 B d4d:=fun K ct ds r h=>by cases h
structure b7w (B:Cx):Prop where
 ok:a8s B
 prim:∀K,B.prim K=none
section
variable {B : Cx} {tb : Tab}
theorem C0:Has (B.tab tb) tb:=fun K=>rfl
theorem a6o.of {C C':Cx} (hP:C'.P=C.P) (hg:C'.glob=C.glob) {K:FuncId} {ds:List D} {r:D} (h:a6o C K ds r):a6o C' K ds r:=by
 obtain ⟨h1,h2⟩:=h
 refine ⟨by rw[hP];exact h1,fun w lim vs a b c=>?_⟩
 rw[hP]
 exact h2 w lim vs a (fun k cs hk=>b k cs (by rw[hg];exact hk)) c
theorem D3 (hB:b7w B) (h:C3 B tb) {call:E9} (hv:Z4 (B.tab tb) call):b4v (B.tab tb) call:=by
 refine ⟨⟨hB.ok.plain,hB.ok.mixed⟩,⟨fun K f ds r hf hr=>?_,fun K f args H r H' hf=>?_⟩,hv⟩
 ·have hf':(match tb K with|some c=>some c.gate|none=>none)=some f:=hf
  cases hc:tb K with
  | none=>rw[hc] at hf';cases hf'
  | some c =>
   rw[hc] at hf'
   simp only[Option.some.injEq] at hf'
   subst hf'
   unfold Ct.gate at hr
   by_cases hp:c.pre ds
   ·rw[if_pos hp] at hr
    exact (h K c ds r hc hp hr).of rfl rfl
   ·rw[if_neg hp] at hr;cases hr
 ·have:B.prim K=some f:=hf
  rw[hB.prim K] at this;cases this
theorem C2 {C:Cx}:Z4 C D5.call:=fun K args H r H' h=>by cases h
theorem a2o {C:Cx} {K:FuncId} {ds:List D} {r:D} (he:N8 C.P K) (h:R8 C K (ds.map .d) B3.empty fun v H=>B4 H v= .d r):a6o C K ds r:=by
 refine ⟨he,fun w lim vs hl hg hr=>?_⟩
 refine (h w ⟨fun _=>.nilFunc,lim,fun _=>none⟩ vs (c7p (g:=⟨fun _=>.nilFunc,lim,fun _=>none⟩) hl) hg (.of_ds hr) (fun n hn=>by simp[B3.empty] at hn)).mono ?_
 rintro e w' ⟨u,r',H',gc,hf,rfl,k1,k2,k3,k4⟩
 have hE:Ext w w':=c9h (fun _=>rfl) k3
 have hlo:∀b,b<w.heap.size→gc.lim b=lim b∧gc.owner b=none:=fun b hb=>(k3.free b hb rfl).2
 obtain ⟨lim',j1,j2,j3⟩:=c4b k2 hf k1
 exact ⟨u,lim',rfl,hE,fun b hb=>by rw[j2 b (hlo b hb).2,(hlo b hb).1],fun b hb=>by rw[j2 b (k2.fresh b hb).2];exact (k2.fresh b hb).1,j3⟩
theorem Y8 (h:C3 B tb) {K:FuncId} {c:Ct} (hc:∀ds r,c.pre ds→c.f ds=some r→a6o B K ds r):C3 B (tb.add K c):=fun n ct ds r hn hp hr=>by
 unfold Tab.add at hn
 by_cases e:n=K
 ·subst e
  simp at hn;subst hn
  exact hc ds r hp hr
 ·have:(n==K)=false:=by simpa using e
  rw[this] at hn
  exact h n ct ds r hn hp hr
theorem C4 (hB:b7w B) (h:C3 B tb) {K:FuncId} {c:Ct} {fn:Func} {cd:Code} {sp:Nat→Option Spec} {hn:Nat→Option j5} (hf:B.P.funcs[K]?=some fn) (hb:fn.body=some cd) (hr:(fn.name == "runtime.NumGoroutine")=false)
  (ok:s6 (B.tab tb) 0 sp (K3 false cd))
  (hc:∀ds r,c.pre ds→c.f ds=some r→a6d (B6 (B.tab tb) tb D5 0 sp hn K (ds.map .d) B3.empty fun v H=>B4 H v= .d r)):C3 B (tb.add K c) :=
 Y8 h fun ds r hp hr'=>by
  have he:N8 B.P K:=⟨fn,hf,by simpa using hr,by rw[hb];rfl⟩
  have:=a2o (C:=B.tab tb) he (a3p (D3 hB h C2) C0 (C:=B.tab tb) hf hb (fun m hm=>by cases hm) ok (hc ds r hp hr').h)
  exact this.of rfl rfl
def Ct.below (c:Ct) (μ:List D→Nat) (n:Nat):Ct:=⟨fun ds=>c.pre ds∧μ ds<n,c.f⟩
theorem S4 (hB:b7w B) (h:C3 B tb) {K:FuncId} {c:Ct} {fn:Func} {cd:Code} {sp:Nat→Nat→Option Spec} {hn:Nat→Option j5} (μ:List D→Nat) (hf:B.P.funcs[K]?=some fn) (hb:fn.body=some cd) (hr:(fn.name == "runtime.NumGoroutine")=false)
  (ok:∀n,C3 B (tb.add K (c.below μ n))→s6 (B.tab (tb.add K (c.below μ n))) 0 (sp n) (K3 false cd))
  (hc:∀n ds r,c.pre ds→μ ds=n→c.f ds=some r→a6d (B6 (B.tab (tb.add K (c.below μ n))) (tb.add K (c.below μ n)) D5 0 (sp n) hn K (ds.map .d) B3.empty fun v H=>B4 H v= .d r)):C3 B (tb.add K c):=by
 have he:N8 B.P K:=⟨fn,hf,by simpa using hr,by rw[hb];rfl⟩
 have all:∀n,C3 B (tb.add K (c.below μ n)):=by
  intro n
  induction n with
  | zero=>exact Y8 h fun ds r hp hr'=>absurd hp.2 (Nat.not_lt_zero _)
  | succ n ih =>
   refine Y8 h fun ds r hp hr'=>?_
   by_cases hlt:μ ds<n
   ·refine ih K (c.below μ n) ds r ?_ ⟨hp.1,hlt⟩ hr'
    simp[Tab.add]
   ·have e:μ ds=n:=by have:=hp.2;omega
    exact (a2o (C:=B.tab (tb.add K (c.below μ n))) he (a3p (D3 hB ih C2) C0 (C:=B.tab (tb.add K (c.below μ n))) hf hb (fun m hm=>by cases hm) (ok n ih) (hc n ds r hp.1 e hr').h)).of rfl rfl
 exact Y8 h fun ds r hp hr'=>all (μ ds+1) K (c.below μ (μ ds+1)) ds r (by simp[Tab.add]) ⟨hp,by omega⟩ hr'
def B8:Nat→Option Spec:=fun _=>none
def B1:Nat→Option j5:=fun _=>none
theorem A8 {C:Cx} {k:Nat} {l:List (Nat×Bool×Code)}:s6 C k B8 l:=fun p _ S h=>by cases h
def OkS (C:Cx) (k:Nat) (c:Code) (S:Spec):Prop:=∀N vals bs K,S.G N vals bs K→T C k c (stN N S.L (S9 S.ns) vals bs) fun x s'=>∃vs bs',s'=stO N S vs bs'∧K x vs bs'
def spL:List (Nat×Spec)→Nat→Option Spec
 | [],_=>none
 | (a,S)::r,n=>bif n==a then some S else spL r n
theorem C8 {C:Cx} {k:Nat} {l:List (Nat×Bool×Code)}:s6 C k (spL []) l:=fun p _ S h=>by cases h
theorem B7 {C:Cx} {k:Nat} {l:List (Nat×Bool×Code)} {a:Nat} {S:Spec} {r:List (Nat×Spec)} {c:Code} (h:(l.filter fun p=>p.1==a).map (fun p=>p.2.2)= [c]) (hS:OkS C k c S) (hr:s6 C k (spL r) l):s6 C k (spL ((a,S)::r)) l:=fun p hp S' hs=>by
 by_cases e:p.1=a
 ·have hm:p.2.2∈(l.filter fun p=>p.1==a).map (fun p=>p.2.2):=List.mem_map.2 ⟨p,List.mem_filter.2 ⟨hp,by simpa using e⟩,rfl⟩
  rw[h] at hm
  simp only[List.mem_singleton] at hm
  rw[hm]
  have:(p.1==a)=true:=by simpa using e
  simp only[spL,this,cond_true,Option.some.injEq] at hs
  subst hs
  exact hS
 ·have:(p.1==a)=false:=by simpa using e
  simp only[spL,this,cond_false] at hs
  exact hr p hp S' hs
def C5 (c:Code) (a:Nat):Code:=match (K3 false c).find? (fun p=>p.1==a) with|some p=>p.2.2|none=>.skip
def D7:Code→Code
 | .loop c=>c
 | _=>.skip
theorem D0 {C:Cx} {k:Nat} {c:Code} {S:Spec} (h:∀N vals bs K,S.G N vals bs K→J2 C k c N S.L (S9 S.ns) S.L' S.nm' vals bs K):OkS C k (.loop c) S:=fun N vals bs K hg=>f7h (h N vals bs K hg)
end
end Go.Ev
end
section
namespace Go.Ev
def rounds {σ β:Type} (f:Nat→σ→σ ⊕ β):Nat→Nat→σ→σ ⊕ β
 | 0,_,a=>.inl a
 | n+1,i,a=>match f i a with
  | .inl a'=>rounds f n (i+1) a'
  | .inr b=>.inr b
def S6 {β:Type}:Option β→Unit ⊕ β
 | some b=>.inr b
 | none=>.inl ()
def C1 {β:Type} (f:Nat→Option β) (n:Nat):Option β:=match rounds (fun i _=>S6 (f i)) n 0 () with | .inr b=>some b | .inl _=>none
theorem A5 {c:Bool} {A B:Prop} (h1:c=true→A) (h2:c=false→B):bif c then A else B:=by
 cases c with
 | true=>exact h1 rfl
 | false=>exact h2 rfl
def S3 {β:Type} (o:Option β) (z:Prop) (s:β→Prop):Prop:=match o with|some b=>s b|none=>z
section
variable {C : Cx} {tb : Tab} {cs : CS} {k : Nat}
theorem b4o (F:b4v C cs.call) (hE:Has C tb) {sp:Nat→Option Spec} {hn:Nat→Option j5} {c:Code} {N:Nat} {L L':List Nat} {nm nm':List B2} {adsI:List Ad} {nsI nsX:List (B2×B2)} (ok:s6 C k sp (K3 true c)) (hI:S9 nsI=nm) (hX:S9 nsX=nm')
  {σ:Type} (len:Nat) (P:Nat→σ→Prop) (V0:Nat→σ→List V) (B0:Nat→σ→List Box) (f:Nat→σ→σ ⊕ (X×List V×List Box)) (xE:X) (vE:σ→List V) (bE:σ→List Box) (hxE:xE≠ .normal)
  (hb:∀i a R,i<len→P i a→(match f i a with | .inl a'=>P (i+1) a'→R .normal (V0 (i+1) a') (B0 (i+1) a') | .inr (x,vs,bs)=>x≠ .normal→R x vs bs)→a6d (E1 C tb cs k sp hn c N L nm adsI nsI L' nsX (V0 i a) (B0 i a) R))
  (he:∀a R,P len a→R xE (vE a) (bE a)→a6d (E1 C tb cs k sp hn c N L nm adsI nsI L' nsX (V0 len a) (B0 len a) R)) {Q:X→List V→List Box→Prop} :
  ∀n i a,i+n=len→P i a→(match rounds f n i a with | .inl a'=>Q xE (vE a') (bE a') | .inr (x,vs,bs)=>Q x vs bs)→J2 C k c N L nm L' nm' (V0 i a) (B0 i a) Q:=by
 intro n
 induction n with
 | zero =>
  intro i a hi hp h
  have:i=len:=by omega
  subst this
  refine B5 F hE ok (adsI:=adsI) hI hX (he a _ hp ?_)
  cases xE with
  | normal=>exact absurd rfl hxE
  | exit i=>exact h
  | ret=>exact h
 | succ n ih =>
  intro i a hi hp h
  unfold rounds at h
  refine B5 F hE ok (adsI:=adsI) hI hX (hb i a _ (by omega) hp ?_)
  cases hf:f i a with
  | inl a' =>
   simp only[hf] at h ⊢
   exact fun hp'=>ih (i+1) a' (by omega) hp' h
  | inr b =>
   obtain ⟨x,vs,bs⟩:=b
   simp only[hf] at h ⊢
   intro hne
   cases x with
   | normal=>exact absurd rfl hne
   | exit i=>exact h
   | ret=>exact h
def b6t {σ β γ:Type} (g:β→γ):σ ⊕ β→σ ⊕ γ
 | .inl a=>.inl a
 | .inr b=>.inr (g b)
theorem c2v {σ β γ:Type} {f:Nat→σ→σ ⊕ β} {g:β→γ}:∀{n i:Nat} {a:σ},rounds (fun i a=>b6t g (f i a)) n i a=b6t g (rounds f n i a)
 | 0,i,a=>rfl
 | n+1,i,a=>by
  unfold rounds
  cases hf:f i a with
  | inl a'=>simp only[b6t];exact c2v
  | inr b=>rfl
theorem G0 (F:b4v C cs.call) (hE:Has C tb) {sp:Nat→Option Spec} {hn:Nat→Option j5} {c:Code} {N:Nat} {L L':List Nat} {nm nm':List B2} {adsI:List Ad} {nsI nsX:List (B2×B2)} (ok:s6 C k sp (K3 true c)) (hI:S9 nsI=nm) (hX:S9 nsX=nm')
  {β:Type} (len:Nat) (V0:Nat→List V) (B0:Nat→List Box) (f:Nat→Option β) (out:β→X×List V×List Box) (hout:∀b,(out b).1≠ .normal) (xE:X) (vE:List V) (bE:List Box) (hxE:xE≠ .normal)
  (hb:∀i R,i<len→S3 (f i) (R .normal (V0 (i+1)) (B0 (i+1))) (fun b=>R (out b).1 (out b).2.1 (out b).2.2)→a6d (E1 C tb cs k sp hn c N L nm adsI nsI L' nsX (V0 i) (B0 i) R))
  (he:∀R,R xE vE bE→a6d (E1 C tb cs k sp hn c N L nm adsI nsI L' nsX (V0 len) (B0 len) R)) {Q:X→List V→List Box→Prop}
  (h:S3 (C1 f len) (Q xE vE bE) (fun b=>Q (out b).1 (out b).2.1 (out b).2.2)):J2 C k c N L nm L' nm' (V0 0) (B0 0) Q:=by
 refine b4o F hE ok hI hX len (fun _ (_:Unit)=>True) (fun i _=>V0 i) (fun i _=>B0 i) (fun i _=>b6t out (S6 (f i))) xE (fun _=>vE) (fun _=>bE) hxE ?_ (fun a R _ hR=>he R hR) len 0 () (by omega) trivial ?_
 ·intro i a R hi _ hR
  refine hb i R hi ?_
  cases hf:f i with
  | none=>simp only[hf,S6,b6t] at hR ⊢;exact hR trivial
  | some b=>simp only[hf,S6,b6t] at hR ⊢;exact hR (hout b)
 ·rw[c2v (f:=fun i _=>S6 (f i)) (g:=out)]
  unfold C1 at h
  cases hr:rounds (fun i _=>S6 (f i)) len 0 () with
  | inl a=>rw[hr] at h;exact h
  | inr b=>rw[hr] at h;exact h
end
end Go.Ev
end
section
namespace Go.Ev
def a6s:L4:=fun _=>none
theorem N3 {C:Cx}:H9 C a6s:=fun K f vals bs c x y h=>by cases h
def L4.add (tb:L4) (K:FuncId) (S:Sm):L4:=fun n=>bif n==K then some S else tb n
def b3s:List (FuncId×Sm)→FuncId→Option Sm
 | [],_=>none
 | (a,S)::r,n=>bif n==a then some S else b3s r n
def L4.addG (tb:L4) (grp:List (FuncId×Sm)):L4:=fun n=>match b3s grp n with|some S=>some S|none=>tb n
def Sm.below (S:Sm) (m:List V→List Box→Nat) (n:Nat):Sm:=⟨fun vs bs=>S.pre vs bs∧m vs bs<n,S.f⟩
def b7u (grp:List (FuncId×Sm)) (μ:FuncId→List V→List Box→Nat) (n:Nat):List (FuncId×Sm):=grp.map fun p=>(p.1,p.2.below (μ p.1) n)
def b7f:List Nat→Bool
 | []=>true
 | d::l=> !l.contains d&&b7f l
def a2c:List ResultVar→Option (List Nat)
 | []=>some []
 | .tmp t::r=>match a2c r with|some l=>some (t::l)|none=>none
 | _::_=>none
def d6g (k:Nat) (L:List Nat):List (List (B2×B2))→St→(List V→List Box→Prop)→Prop
 | [],_,_=>False
 | ns::r,s,R=>match a2t k L ns s with
  | some p=>R p.1 p.2
  | none=>d6g k L r s R
def F3 (C:Cx) (tb:Tab) (cs:CS) (k:Nat) (sp:Nat→Option Spec) (hn:Nat→Option j5) (ads:List Ad) (ends:List (List (B2×B2))) (K:FuncId) (args:List V) (H:B3) (R:V→List Box→Prop):Prop :=
 match C.P.funcs[K]? with
 | none=>False
 | some fn=>match fn.body,a2c fn.results.toList with
  | some c,some L=>Q8 C tb cs k sp hn false c ⟨max fn.ntmps args.length,fun t=>(args[t]?).getD N5,H⟩ fun x s=>match x with
   | .exit _=>False
   | _=>go (v8 ads s) fun s=>d6g k L ends s fun vs bs=>R (j6 vs) bs
  | _,_=>False
theorem b2c {C:Cx} {k:Nat} {L:List Nat} {R:List V→List Box→Prop}:∀{ends:List (List (B2×B2))} {s:St},d6g k L ends s R→∃ns∈ends,∃vs bs,a5a C k s (stN s.N L (S9 ns) vs bs)∧vs.length=L.length∧bs.length=(S9 ns).length∧R vs bs
 | [],s,h=>h.elim
 | ns::r,s,h=>by
  unfold d6g at h
  split at h
  ·rename_i p hp
   obtain ⟨vs,bs⟩:=p
   refine ⟨ns,by simp,vs,bs,k8 hp, ?_, ?_,h⟩
   ·unfold a2t at hp
    split at hp
    ·rename_i b0 hb0
     cases hc:c4z k ns (L.map s.F) b0 with
     | false=>rw[hc] at hp;cases hp
     | true =>
      rw[hc] at hp
      simp only[cond_true,Option.some.injEq,Prod.mk.injEq] at hp
      rw[←hp.1,c2z];simp
    ·cases hp
   ·unfold a2t at hp
    split at hp
    ·rename_i b0 hb0
     cases hc:c4z k ns (L.map s.F) b0 with
     | false=>rw[hc] at hp;cases hp
     | true =>
      rw[hc] at hp
      simp only[cond_true,Option.some.injEq,Prod.mk.injEq] at hp
      rw[←hp.2]
      unfold S9
      simp[(a3k hb0).1]
    ·cases hp
  ·obtain ⟨ns',h1,h2⟩:=b2c h
   exact ⟨ns',List.mem_cons_of_mem _ h1,h2⟩
theorem o9 {C:Cx}:∀{l:List ResultVar} {L:List Nat} {s:St},a2c l=some L→a2p C s l=some (L.map s.F)
 | [],L,s,h=>by simp[a2c] at h;subst h;rfl
 | .tmp t::r,L,s,h=>by
  unfold a2c at h
  cases hr:a2c r with
  | none=>rw[hr] at h;cases h
  | some l =>
   rw[hr] at h;simp at h;subst h
   unfold a2p
   rw[o9 hr]
   rfl
 | .cell a t::r,L,s,h=>by simp[a2c] at h
theorem c3k:∀{L:List Nat} {vs:List V},b7f L=true→vs.length=L.length→L.map (mk P8 L vs)=vs
 | [], [],_,_=>rfl
 | [],v::vs,_,h=>by simp at h
 | d::l, [],_,h=>by simp at h
 | d::l,v::vs,hd,h=>by
  simp only[b7f,Bool.and_eq_true,Bool.not_eq_true'] at hd
  have hne:∀t∈l,(t==d)=false:=fun t ht=>by
   cases hx:t==d with
   | false=>rfl
   | true =>
    have:t=d:=by simpa using hx
    subst this
    have:l.contains t=true:=by simpa using ht
    rw[this] at hd;cases hd.1
  simp only[List.map_cons,mk]
  congr 1
  ·simp[upd]
  ·refine Eq.trans (List.map_congr_left fun t ht=>?_) (c3k hd.2 (show vs.length=l.length by simpa using h))
   simp only[upd,hne t ht,cond_false]
section
variable {B : Cx} {etb : Tab} {stb : L4}
theorem R8.of {C C':Cx} (hP:C'.P=C.P) (hg:C'.glob=C.glob) {K:FuncId} {args:List V} {H:B3} {Q:V→B3→Prop} (h:R8 C K args H Q):R8 C' K args H Q:=fun w g vs a b c d=>by
 rw[hP]
 exact h w g vs a (fun k cs hk=>b k cs (by rw[hg];exact hk)) c d
theorem H9.of {C C':Cx} (hP:C'.P=C.P) (hg:C'.glob=C.glob) (h:H9 C stb):H9 C' stb:=fun K f vals bs c x y h1 h2 h3=>by
 obtain ⟨a,b⟩:=h K f vals bs c x y h1 h2 h3
 exact ⟨by rw[hP];exact a,b.of hP hg⟩
theorem L8 (hB:b7w B) (h:C3 B etb) (hs:H9 B stb):b4v (B.tab etb) (H7 stb).call:=D3 hB h (b5e (hs.of rfl rfl))
theorem e2x {bs:List Box} {k:Nat} (hk:bs.length=k):Z0 k (H6 bs):=fun m hm=>by
 unfold H6 at hm
 cases hx:ofL (Q4 (G8 bs.length) bs) (0::m) with
 | none=>rw[hx] at hm;cases hm
 | some b =>
  obtain ⟨i,h1,_⟩:=n3 hx
  obtain ⟨j,hj,he⟩:=List.mem_map.1 (List.mem_of_getElem? h1)
  simp at he
  exact ⟨j,by rw[←hk];simpa using hj,he.symm⟩
theorem c5s {C:Cx} {tb:Tab} {cs:CS} {k:Nat} (F:b4v C cs.call) (hE:Has C tb) {sp:Nat→Option Spec} {hn:Nat→Option j5} {ads:List Ad} {ends:List (List (B2×B2))} {K:FuncId} {args:List V} {H:B3} {R:V→List Box→Prop} {fn:Func} {c:Code}
  (hf:C.P.funcs[K]?=some fn) (hb:fn.body=some c) (hz:Z0 k H) (hL:(match a2c fn.results.toList with|some L=>b7f L|none=>false)=true)
  (ok:s6 C k sp (K3 false c)) (h:F3 C tb cs k sp hn ads ends K args H R):R8 C K args H fun r H'=>∃ns∈ends,∃bs,bs.length=(S9 ns).length∧H'=ofL (Q4 (S9 ns) bs)∧R r bs:=by
 unfold F3 at h
 simp only[hf,hb] at h
 cases hr:a2c fn.results.toList with
 | none=>rw[hr] at h;exact h.elim
 | some L =>
  rw[hr] at h hL
  simp only[] at h hL
  refine a9h hf hb hz (b4s (a5e F hE c false _ _ ok h) ?_)
  intro x s' hx
  cases x with
  | exit i=>exact hx.elim
  | normal =>
   obtain ⟨s1,h1,hx⟩:=F9 hx
   obtain ⟨ns,hns,vs,bs,hw,h2,h3,h4⟩:=b2c (C:=C) hx
   exact ⟨_,(V9 h1).trans hw,vs,by rw[o9 hr];exact congrArg some (c3k hL h2),ns,hns,bs,h3,rfl,h4⟩
  | ret =>
   obtain ⟨s1,h1,hx⟩:=F9 hx
   obtain ⟨ns,hns,vs,bs,hw,h2,h3,h4⟩:=b2c (C:=C) hx
   exact ⟨_,(V9 h1).trans hw,vs,by rw[o9 hr];exact congrArg some (c3k hL h2),ns,hns,bs,h3,rfl,h4⟩
theorem a7u:∀{a b:List B2} {x y:List Box},x.length=a.length→Q4 (a++b) (x++y)=Q4 a x++Q4 b y
 | [],b, [],y,_=>rfl
 | [],b,v::x,y,h=>by simp at h
 | n::a,b, [],y,h=>by simp at h
 | n::a,b,v::x,y,h=>by
  simp only[List.cons_append,Q4]
  rw[a7u (by simpa using h)]
theorem F6 (hB:b7w B) (h:C3 B etb) (hs:H9 B stb) {K:FuncId} {fn:Func} {cd:Code} {sp:Nat→Option Spec} {hn:Nat→Option j5} {k:Nat} {ads:List Ad} {ends:List (List (B2×B2))} (hf:B.P.funcs[K]?=some fn) (hb:fn.body=some cd) (hr:(fn.name == "runtime.NumGoroutine")=false)
  (hL:(match a2c fn.results.toList with|some L=>b7f L|none=>false)=true)
  (hends:ends.all (fun ns=>S9 ns==G8 k++L7 ((S9 ns).length-k))=true)
  (ok:s6 (B.tab etb) k sp (K3 false cd)) {vals:List V} {bs bs' news:List Box} {r:V} (hk:bs.length=k) (hl:bs'.length=bs.length)
  (hc:a6d (F3 (B.tab etb) etb (H7 stb) k sp hn ads ends K vals (H6 bs) fun r' bx=>r'=r∧bx=bs'++news)) :
  N8 B.P K∧R8 B K vals (H6 bs) fun r' H'=>r'=r∧H'=Y1 bs' news:=by
 refine ⟨⟨fn,hf,by simpa using hr,by rw[hb];rfl⟩, ?_⟩
 have:=(c5s (L8 hB h hs) C0 (C:=B.tab etb) hf hb (e2x hk) hL ok hc.h).of (C':=B) rfl rfl
 intro w g vs a b c d
 refine (this w g vs a b c d).mono ?_
 rintro e w' ⟨v,r',H',g',⟨ns,hns,bx,hlen,rfl,rfl,rfl⟩,h2⟩
 refine ⟨v,_,_,g',⟨rfl, ?_⟩,h2⟩
 have hn:=List.all_eq_true.1 hends ns hns
 have hn:S9 ns=G8 k++L7 ((S9 ns).length-k):=by simpa using hn
 have hlen2:(S9 ns).length-k=news.length:=by
  rw[←hlen];simp;omega
 rw[hlen2] at hn
 unfold Y1
 rw[hn,a7u (by simp[G8];omega)]
 rw[show bs'.length=k by omega]
theorem P9 (hs:H9 B stb) {K:FuncId} {S:Sm} (hc:∀vals bs c x y,S.pre vals bs→S.f vals bs=some (c,x,y)→N8 B.P K∧R8 B K vals (H6 bs) fun r' H'=>r'=(bif c then x else y).1∧H'=Y1 (bif c then x else y).2.1 (bif c then x else y).2.2) :
  H9 B (stb.add K S):=fun n f vals bs c x y h1 h2 h3=>by
 unfold L4.add at h1
 by_cases e:n=K
 ·subst e
  simp at h1;subst h1
  exact hc vals bs c x y h2 h3
 ·have:(n==K)=false:=by simpa using e
  rw[this] at h1
  exact hs n f vals bs c x y h1 h2 h3
theorem c6w:∀{grp:List (FuncId×Sm)} {n:FuncId} {S:Sm},b3s grp n=some S→(n,S)∈grp
 | [],n,S,h=>by cases h
 | (a,T)::r,n,S,h=>by
  unfold b3s at h
  by_cases e:n=a
  ·subst e;simp at h;subst h;simp
  ·have:(n==a)=false:=by simpa using e
   rw[this] at h
   exact List.mem_cons_of_mem _ (c6w h)
theorem a3x {μ:FuncId→List V→List Box→Nat} {m:Nat}:∀{grp:List (FuncId×Sm)} {n:FuncId},b3s (b7u grp μ m) n=match b3s grp n with|some S=>some (S.below (μ n) m)|none=>none
 | [],n=>rfl
 | (a,T)::r,n=>by
  simp only[b7u,List.map_cons,b3s]
  by_cases e:n=a
  ·subst e;simp
  ·have:(n==a)=false:=by simpa using e
   rw[this]
   exact a3x
theorem d3e (hs : H9 B stb) (grp : List (FuncId × Sm)) (μ : FuncId → List V → List Box → Nat)
  (hc : ∀ n, H9 B (stb.addG (b7u grp μ n)) → ∀ K S, (K, S) ∈ grp → ∀ vals bs c x y, S.pre vals bs → μ K vals bs = n → S.f vals bs = some (c, x, y) →
   N8 B.P K ∧ R8 B K vals (H6 bs) fun r' H' => r' = (bif c then x else y).1 ∧ H' = Y1 (bif c then x else y).2.1 (bif c then x else y).2.2) : H9 B (stb.addG grp) := by
 have all : ∀ n, H9 B (stb.addG (b7u grp μ n)) := by
  intro n
  induction n with
  | zero =>
   intro K f vals bs c x y h1 h2 h3
   unfold L4.addG at h1
   rw [a3x] at h1
   cases hl : b3s grp K with
   | none => rw [hl] at h1; exact hs K f vals bs c x y h1 h2 h3
   | some S =>
    rw [hl] at h1
    simp only [Option.some.injEq] at h1
    subst h1
    exact absurd h2.2 (Nat.not_lt_zero _)
  | succ n ih =>
   intro K f vals bs c x y h1 h2 h3
   unfold L4.addG at h1
   rw [a3x] at h1
   cases hl : b3s grp K with
   | none => rw [hl] at h1; exact hs K f vals bs c x y h1 h2 h3
   | some S =>
    rw [hl] at h1
    simp only [Option.some.injEq] at h1
    subst h1
    by_cases hlt : μ K vals bs < n
    ·refine ih K (S.below (μ K) n) vals bs c x y ?_ ⟨h2.1, hlt⟩ h3
     unfold L4.addG
     rw [a3x, hl]
    ·have e : μ K vals bs = n := by have := h2.2; omega
     exact hc n ih K S (c6w hl) vals bs c x y h2.1 e h3
 intro K f vals bs c x y h1 h2 h3
 unfold L4.addG at h1
 cases hl : b3s grp K with
 | none => rw [hl] at h1; exact hs K f vals bs c x y h1 h2 h3
 | some S =>
  rw [hl] at h1
  simp only [Option.some.injEq] at h1
  subst h1
  refine all (μ K vals bs + 1) K (S.below (μ K) (μ K vals bs + 1)) vals bs c x y ?_ ⟨h2, by omega⟩ h3
  unfold L4.addG
  rw [a3x, hl]
theorem b3f (hB:b7w B) (h:C3 B etb) (hs:H9 B stb) {K:FuncId} {c:Ct} {fn:Func} {cd:Code} {sp:Nat→Option Spec} {hn:Nat→Option j5} (hf:B.P.funcs[K]?=some fn) (hb:fn.body=some cd) (hr:(fn.name == "runtime.NumGoroutine")=false)
  (ok:s6 (B.tab etb) 0 sp (K3 false cd))
  (hc:∀ds r,c.pre ds→c.f ds=some r→a6d (B6 (B.tab etb) etb (H7 stb) 0 sp hn K (ds.map .d) B3.empty fun v H=>B4 H v= .d r)):C3 B (etb.add K c) :=
 Y8 h fun ds r hp hr'=>by
  have he:N8 B.P K:=⟨fn,hf,by simpa using hr,by rw[hb];rfl⟩
  have:=a2o (C:=B.tab etb) he (a3p (L8 hB h hs) C0 (C:=B.tab etb) hf hb (fun m hm=>by cases hm) ok (hc ds r hp hr').h)
  exact this.of rfl rfl
end
end Go.Ev
end
section
namespace Go.Ev.R2
open Go Go.Ev Go.Proofs
set_option maxRecDepth 100000
def c2k:List D:=Lib.asciiSpaceTab.map fun z=>.lit (.int .u8 z)
def e9k:List D:=Lib.pow10Tab.map fun z=>.lit (.int .u64 z)
def f8s:List D:=[.iface 283 .any]
def f2z (k:Nat):Option (List D):=bif k==0 then some c2k else bif k==3 then some f8s else bif k==4 then some f8s else bif k==5 then some e9k else none
noncomputable def B:Cx:=⟨Tryz.prog,f2z,fun _=>none,fun _=>none,fun t=>bif t==24 then true else t==102,fun K=>K==63,fun _=>none⟩
noncomputable def A7 (f:Func):Code:=match f.body with|some c=>c|none=>.skip
noncomputable def Cn (tb:Tab):Cx:=B.tab tb
theorem B9:b7w B:=⟨{plain:=fun t h=>(by
 have h':t=24∨t=102:=by
  cases e:(t==24) with
  | true=>exact .inl (by simpa using e)
  | false =>
   have h2:(bif t==24 then true else t==102)=true:=h
   rw[e] at h2
   exact .inr (by simpa using h2)
 rcases h' with rfl|rfl
 ·exact ⟨by kernel_rfl,by kernel_rfl⟩
 ·exact ⟨by kernel_rfl,by kernel_rfl⟩),mixed:=(by kernel_rfl) },fun _=>rfl⟩
def a3v (c:Int):Bool:=(decide (97≤c)&&decide (c≤122))||(decide (65≤c)&&decide (c≤90))||(decide (48≤c)&&decide (c≤57))||c==95
def f4d:Ct:=⟨fun _=>True,fun | [.lit (.int .u8 c)]=>some (.lit (.bool (a3v c)))|_=>none⟩
theorem i3v (c:Int) (p:V→Prop):(B6 (Cn d4d) d4d D5 0 B8 B1 230 [V.d (D.lit (Value.int IntKind.u8 c))] B3.empty fun v H =>
 p (B4 H v)) =
 p
 (A6 (bif
 bif
 bif bif decide (97≤c) then decide (c≤122) else false then true
 else bif decide (65≤c) then decide (c≤90) else false then
 true
 else bif decide (48≤c) then decide (c≤57) else false then
 true
 else c==95)):=by kernel_rfl
theorem g8e:C3 B (d4d.add 230 f4d):=by
 refine C4 B9 e9x (fn:=Tryz.f230) (cd:=A7 Tryz.f230) (sp:=B8) (hn:=B1) Tryz.func230 (by kernel_rfl) (by kernel_rfl) A8 fun ds r hp hr=>?_
 unfold f4d at hr
 simp only[] at hr
 split at hr
 ·rename_i c
  cases hr
  refine keep (i3v c fun v=>v=_) ?_
  unfold a3v
  cases decide (97≤c)<;>cases decide (c≤122)<;>cases decide (65≤c)<;>cases decide (c≤90)<;>cases decide (48≤c)<;>cases decide (c≤57)<;>rfl
 ·cases hr
def t213:Tab:=d4d.add 230 f4d
noncomputable def f7n:Code:=D7 (C5 (A7 Tryz.f213) 8)
theorem h9i (s:ByteArray) (i:Int) (R:X→List V→List Box→Prop):(E1 (Cn t213) t213 D5 0 B8 B1 f7n 33 [0,3] [] [] [] [2] [] [C6 s,A3 i] [] R) =
 (bif decide (i<(↑s.size:Int)) then
 ((0≤i∧i.toNat<s.size)∧
 (True∧
 (bif !a3v (A9 s i.toNat) then
 (33=33∧
 R X.ret [A6 false] []) else
 (33=33∧
 R X.normal [C6 s,A3 (IntKind.i64.wrap (i+1))] [])))) else
 (33=33∧
 R (X.exit 0) [V.any] [])):=by kernel_rfl
def Z2 (s:ByteArray):Nat→Nat→Bool
 | 0,_=>true
 | n+1,i=>a3v (A9 s i)&&Z2 s n (i+1)
def H8 (s:ByteArray):Bool:=decide (1≤s.size)&&decide (s.size≤60)&& !(decide (48≤A9 s 0)&&decide (A9 s 0≤57))&&Z2 s s.size 0
def g3z:Ev.Spec:={L:=[0,3],ns:=[],L':=[2],nm':=[],G:=fun N vals bs k=>match vals,bs with
 | [.d (.lit (.string s)), .d (.lit (.int .i64 i))], []=>N=33∧i=0∧s.size≤60∧(bif Z2 s s.size 0 then k (.exit 0) [.any] [] else k .ret [A6 false] [])
 | _,_=>False }
theorem h5f:OkS (Cn t213) 0 (.loop f7n) g3z:=by
 refine D0 fun N vals bs K h=>?_
 simp only[g3z] at h
 split at h
 case h_2=>exact h.elim
 rename_i s i
 obtain ⟨rfl,rfl,h60,h⟩:=h
 have key:∀n i:Nat,i+n=s.size→(bif Z2 s n i then K (.exit 0) [.any] [] else K .ret [A6 false] [])→J2 (Cn t213) 0 f7n 33 [0,3] [] [2] [] [C6 s,A3 i] [] K:=by
  intro n
  induction n with
  | zero =>
   intro i hi h
   refine B5 (D3 B9 g8e C2) C0 A8 (adsI:=[]) (nsI:=[]) (nsX:=[]) rfl rfl (keep (h9i s i _) ?_)
   have e1:decide ((i:Int)<s.size)=false:=by simp;omega
   rw[e1]
   exact ⟨rfl,h⟩
  | succ n ih =>
   intro i hi h
   refine B5 (D3 B9 g8e C2) C0 A8 (adsI:=[]) (nsI:=[]) (nsX:=[]) rfl rfl (keep (h9i s i _) ?_)
   have e1:decide ((i:Int)<s.size)=true:=by simp;omega
   rw[e1]
   refine ⟨⟨by omega,by simp;omega⟩,trivial, ?_⟩
   simp only[Int.toNat_natCast]
   unfold Z2 at h
   cases hb:a3v (A9 s i) with
   | false=>rw[hb] at h;exact ⟨trivial,h⟩
   | true =>
    rw[hb,Bool.true_and] at h
    have ew:IntKind.i64.wrap ((i:Int)+1)=((i+1:Nat):Int):=by rw[Go.IntWalk.i64_in _ (by omega)];omega
    refine ⟨trivial, ?_⟩
    rw[ew]
    exact ih (i+1) (by omega) h
 exact key s.size 0 (by omega) h
def c213:Ct:=⟨fun _=>True,fun | [.lit (.string s)]=>some (.lit (.bool (H8 s)))|_=>none⟩
theorem i4a (s : ByteArray) (p : V → Prop) : (B6 (Cn t213) t213 D5 0 (spL [(8, g3z)]) B1 213 [C6 s] B3.empty fun v H => p (B4 H v)) =
  ((((!bif decide ((↑s.size : Int) < 1) then true else decide ((↑s.size : Int) > 60)) && true) = true → (((0 : Int) ≤ 0) ∧ 0 < s.size)) ∧
  (((decide (48 ≤ A9 s 0) &&
    ((!bif decide ((↑s.size : Int) < 1) then true else decide ((↑s.size : Int) > 60)) && true)) =
  true → (((0 : Int) ≤ 0) ∧ 0 < s.size)) ∧
  (bif bif bif decide ((↑s.size : Int) < 1) then true else decide ((↑s.size : Int) > 60) then true
else bif decide (48 ≤ A9 s 0) then decide (A9 s 0 ≤ 57) else false then
   p (A6 false) else
   (33 = 33 ∧
   ((0 : Int) = 0 ∧
   (s.size ≤ 60 ∧
   (bif Z2 s s.size 0 then
    p (A6 true) else
    p (A6 false)))))))) := by kernel_rfl
theorem h6b:C3 B (t213.add 213 c213):=by
 refine C4 B9 g8e (fn:=Tryz.f213) (cd:=A7 Tryz.f213) (sp:=spL [(8,g3z)]) (hn:=B1) Tryz.func213 (by kernel_rfl) (by kernel_rfl) (B7 (c:=.loop f7n) (by kernel_rfl) h5f C8) fun ds r hp hr=>?_
 unfold c213 at hr
 simp only[] at hr
 split at hr
 ·rename_i s
  cases hr
  refine keep (i4a s fun v=>v=_) ?_
  unfold H8
  by_cases h1:1≤s.size
  ·by_cases h2:s.size≤60
   ·have e1:decide ((s.size:Int)<1)=false:=by simp;omega
    have e2:decide ((s.size:Int)>60)=false:=by simp;omega
    rw[e1,e2]
    refine ⟨fun _=>⟨by omega,by omega⟩,fun _=>⟨by omega,by omega⟩, ?_⟩
    simp only[h1,h2,decide_true,cond_true,cond_false,Bool.true_and]
    cases decide (48≤A9 s 0)<;>cases decide (A9 s 0≤57)<;>cases Z2 s s.size 0<;>simp
   ·have e1:decide ((s.size:Int)<1)=false:=by simp;omega
    have e2:decide ((s.size:Int)>60)=true:=by simp;omega
    rw[e1,e2]
    simp[h2]
  ·have e1:decide ((s.size:Int)<1)=true:=by simp;omega
   rw[e1]
   simp[h1]
 ·cases hr
abbrev eqS (s t:ByteArray):Bool:=s.toList==t.toList
abbrev leS (s t:ByteArray):Bool:=Op.bytesLess s.toList t.toList||s.toList==t.toList
def f5a (t:TypeId) (xs:List D):Prop:=∀i,i<xs.length→g9b B t (xs.getD i .any)=xs.getD i .any
def e8e:Tab:=t213.add 213 c213
noncomputable def g7y:Code:=D7 (C5 (A7 Tryz.f191) 8)
def j8 (xs:List D) (i:Nat):Option Int :=
 bif !H8 (A4 (A0 (xs.getD i .any) 0)) then some 5 else
 bif eqS (A4 (A0 (xs.getD i .any) 1)) (ByteArray.mk #[]) then some 1 else
 bif decide (((A4 (A0 (xs.getD i .any) 1)).size:Int)>200) then some 4 else
 bif decide ((i:Int)>0)&&leS (A4 (A0 (xs.getD i .any) 0)) (A4 (A0 (xs.getD (i-1) .any) 0)) then some 9 else none
def g5c (f:Nat→Option Int) (n:Nat):Int:=match C1 f n with|some e=>e|none=>0
def a8d (xs:List D):Int:=bif decide (16<xs.length) then 4 else g5c (j8 xs) xs.length
def g4e:Ev.Spec:={L:=[0,8,9,10],ns:=[],L':=[2],nm':=[],G:=fun N vals bs k=>match vals,bs with
 | [.d (.slice b 2 xs), .d (.slice b' 2 xs'), .d (.lit (.int .i64 n)), .d (.lit (.int .i64 i))], []=>(N=44∧b'=b∧xs'=xs∧i=0∧n=xs.length∧xs.length≤16∧f5a 209 xs)∧S3 (C1 (j8 xs) xs.length) (k (.exit 0) [.any] []) (fun e=>k .ret [A3 e] [])
 | _,_=>False }
def h7v:Ct:=⟨fun | [.slice _ z xs]=>z=2∧f5a 209 xs|_=>False,fun | [.slice _ _ xs]=>some (.lit (.int .i64 (a8d xs)))|_=>none⟩
def g2h:Tab:=e8e.add 191 h7v
def h8e:Ct:=⟨fun _=>True,fun | [.lit (.string s)]=>some (.lit (.bool (H8 s)))|_=>none⟩
def g2z:Tab:=g2h.add 144 h8e
def K0 (s:ByteArray):Bool:=eqS s (ByteArray.mk #[115,116,97,116,117,115])||eqS s (ByteArray.mk #[100,117,114,97,116,105,111,110])
def c143:Ct:=⟨fun _=>True,fun | [.lit (.string s)]=>some (.lit (.bool (K0 s)))|_=>none⟩
def g3a:Tab:=g2z.add 143 c143
def P6 (s t:ByteArray):Bool:=decide (t.size≤s.size)&&eqS (s.extract 0 t.size) t
def c212:Ct:=⟨fun _=>True,fun | [.lit (.string s), .lit (.string t)]=>some (.lit (.bool (P6 s t)))|_=>none⟩
def g2d:Tab:=g3a.add 212 c212
def e7z:Ct:=⟨fun _=>True,fun | [.lit (.string s), .lit (.string t)]=>some (.tup [.lit (.string (bif P6 s t then s.extract t.size s.size else s)), .lit (.bool (P6 s t))])|_=>none⟩
def g2i:Tab:=g2d.add 190 e7z
def g3b:Tab:=g2i.add 142 e7z
theorem h9o (xs:List D) (i:Int) (n:Int) (b:Bool) (R:X→List V→List Box→Prop):(E1 (Cn e8e) e8e D5 0 B8 B1 g7y 44 [0,8,9,10] [] [] [] [2] []
 [V.d (D.slice b 2 xs),V.d (D.slice b 2 xs),A3 n,A3 i] [] R) =
 (bif decide (i<n) then
 ((((0:Int)≤i)∧(i.toNat<xs.length∧D.agg
 [zD (A4 (A0 (xs.getD i.toNat D.any) 0)),
 zD (A4 (A0 (xs.getD i.toNat D.any) 1))] =
 xs.getD i.toNat D.any))∧
 (True∧
 (bif !H8 (A4 (A0 (xs.getD i.toNat D.any) 0)) then
 (44=44∧
 R X.ret [A3 5] []) else
 (bif (A4 (A0 (xs.getD i.toNat D.any) (0+1))).toList==(ByteArray.mk #[]).toList then
 (44=44∧
 R X.ret [A3 1] []) else
 (bif decide ((↑(A4 (A0 (xs.getD i.toNat D.any) 1)).size:Int)>200) then
 (44=44∧
 R X.ret [A3 4] []) else
 (((decide (i>0)&&true)=true→(((0:Int)≤IntKind.i64.wrap (i-1))∧((IntKind.i64.wrap (i-1)).toNat<xs.length∧D.agg
 [zD (A4 (A0 (xs.getD (IntKind.i64.wrap (i-1)).toNat D.any) 0)),
 zD (A4 (A0 (xs.getD (IntKind.i64.wrap (i-1)).toNat D.any) 1))] =
 xs.getD (IntKind.i64.wrap (i-1)).toNat D.any)))∧
 (bif bif decide (i>0) then
 Op.bytesLess (A4 (A0 (xs.getD i.toNat D.any) 0)).toList
 (A4 (A0 (xs.getD (IntKind.i64.wrap (i-1)).toNat D.any) 0)).toList ||
 (A4 (A0 (xs.getD i.toNat D.any) 0)).toList ==
 (A4 (A0 (xs.getD (IntKind.i64.wrap (i-1)).toNat D.any) 0)).toList
 else false then
 (44=44∧
 R X.ret [A3 9] []) else
 (44=44∧
 R X.normal
 [V.d (D.slice b 2 xs),V.d (D.slice b 2 xs),A3 n,
 A3 (IntKind.i64.wrap (i+1))]
 [])))))))) else
 (44=44∧
 R (X.exit 0) [V.any] [])):=by kernel_rfl
theorem i4i (xs:List D) (b:Bool) (p:V→Prop):(B6 (Cn e8e) e8e D5 0 (spL [(8,g4e)]) B1 191 [V.d (D.slice b 2 xs)] B3.empty fun v H=>p (B4 H v)) =
 (bif decide ((↑xs.length:Int)>16) then
 p (A3 4) else
 ((44=44∧(b=b∧(xs=xs∧(((0:Int)=0)∧((((↑xs.length:Int):Int)=(↑xs.length:Int))∧(xs.length≤16∧f5a 209 xs))))))∧
 (match C1 (j8 xs) xs.length with
 | some y0 =>
 p (A3 y0)
 | none=>p (A3 0)))):=by kernel_rfl
theorem i5i (s:ByteArray) (p:V→Prop):(B6 (Cn g2h) g2h D5 0 B8 B1 144 [C6 s] B3.empty fun v H=>p (B4 H v)) =
 ((2=2∧f5a 209 [D.agg [zD s,zD (bA [120])]])∧
 p
 (A6 (a8d [D.agg [zD s,zD (bA [120])]]==0))):=by kernel_rfl
theorem i5j (s:ByteArray) (p:V→Prop):(B6 (Cn g2z) g2z D5 0 B8 B1 143 [C6 s] B3.empty fun v H=>p (B4 H v)) =
 p
 (A6 (bif s.toList==(ByteArray.mk #[115,116,97,116,117,115]).toList then true
 else s.toList==(ByteArray.mk #[100,117,114,97,116,105,111,110]).toList)):=by kernel_rfl
theorem i4b (s:ByteArray) (t:ByteArray) (p:V→Prop):(B6 (Cn g3a) g3a D5 0 B8 B1 212 [C6 s,C6 t] B3.empty fun v H=>p (B4 H v)) =
 (((decide ((↑s.size:Int)≥(↑t.size:Int))&&true)=true→(((0:Int)≤(↑t.size:Int))∧(↑t.size:Int).toNat≤s.size))∧
 p
 (A6 (bif decide ((↑s.size:Int)≥(↑t.size:Int)) then (s.extract 0 (↑t.size:Int).toNat).toList==t.toList
 else false))):=by kernel_rfl
theorem i4j (s:ByteArray) (t:ByteArray) (p:V→Prop):(B6 (Cn g2d) g2d D5 0 B8 B1 190 [C6 s,C6 t] B3.empty fun v H=>p (B4 H v)) =
 (True∧
 (bif !P6 s t then
 p (V.d (D.tup [zD s,oD false])) else
 ((((0:Int)≤(↑t.size:Int))∧(↑t.size:Int).toNat≤s.size)∧
 p (V.d (D.tup [zD (s.extract (↑t.size:Int).toNat s.size),oD true]))))):=by kernel_rfl
theorem i5k (s:ByteArray) (t:ByteArray) (p:V→Prop):(B6 (Cn g2i) g2i D5 0 B8 B1 142 [C6 s,C6 t] B3.empty fun v H=>p (B4 H v)) =
 (True∧
 p
 (V.d
 (D.tup
 [zD (bif P6 s t then s.extract t.size s.size else s),oD (P6 s t)]))):=by kernel_rfl
theorem h5k:OkS (Cn e8e) 0 (.loop g7y) g4e:=by
 refine D0 fun N vals bs K h=>?_
 simp only[g4e] at h
 split at h
 case h_2=>exact h.elim
 rename_i b0 xs0 b xs n i
 obtain ⟨⟨rfl,hb,hx,rfl,rfl,h16,hall⟩,h⟩:=h
 subst hb hx
 refine G0 (D3 B9 h6b C2) C0 A8 (hn:=B1) (adsI:=[]) (nsI:=[]) (nsX:=[]) rfl rfl xs.length
  (fun i=>[.d (.slice b 2 xs), .d (.slice b 2 xs),A3 xs.length,A3 i]) (fun _=>[]) (j8 xs) (fun e=>(.ret, [A3 e], [])) (by simp) (.exit 0) [.any] [] (by simp) ?_ ?_ h
 ·intro i R hi hR
  refine keep (h9o xs i xs.length b R) ?_
  have e1:decide ((i:Int)<xs.length)=true:=by simp;omega
  have e2:IntKind.i64.wrap ((i:Int)+1)=((i+1:Nat):Int):=by rw[Go.IntWalk.i64_in _ (by omega)];omega
  have e3:0<i→IntKind.i64.wrap ((i:Int)-1)=((i-1:Nat):Int):=fun h=>by rw[Go.IntWalk.i64_in _ (by omega)];omega
  rw[e1]
  simp only[Int.toNat_natCast,e2,cond_true]
  refine ⟨⟨by omega,hi,hall i hi⟩,trivial, ?_⟩
  refine A5 (fun h1=>⟨trivial,by simp only[j8,eqS,leS,h1,cond_true,cond_false,S3] at hR;exact hR⟩) (fun h1=>?_)
  refine A5 (fun h2=>⟨trivial,by simp only[j8,eqS,leS,h1,h2,cond_true,cond_false,S3] at hR;exact hR⟩) (fun h2=>?_)
  refine A5 (fun h3=>⟨trivial,by simp only[j8,eqS,leS,h1,h2,h3,cond_true,cond_false,S3] at hR;exact hR⟩) (fun h3=>?_)
  refine ⟨fun h=>?_, ?_⟩
  ·have hz:0<i:=by simp at h;omega
   rw[e3 hz]
   exact ⟨by omega,by omega,hall _ (by omega)⟩
  ·have hR':S3 (bif decide ((i:Int)>0)&&leS (A4 (A0 (xs.getD i .any) 0)) (A4 (A0 (xs.getD (i-1) .any) 0)) then some 9 else none) (R X.normal [V.d (D.slice b 2 xs),V.d (D.slice b 2 xs),A3 ↑xs.length,A3 ↑(i+1)] []) (fun e=>R .ret [A3 e] []):=by
    simp only[j8,eqS,h1,h2,h3,cond_true,cond_false] at hR;exact hR
   by_cases hz:0<i
   ·have e4:decide ((i:Int)>0)=true:=by simp;omega
    rw[e4] at hR' ⊢
    rw[e3 hz]
    simp only[cond_true,Bool.true_and,Int.toNat_natCast] at hR' ⊢
    refine A5 (fun h4=>⟨trivial, ?_⟩) (fun h4=>⟨trivial, ?_⟩)
    ·rw[show leS _ _=true from h4] at hR';exact hR'
    ·rw[show leS _ _=false from h4] at hR';exact hR'
   ·have e4:decide ((i:Int)>0)=false:=by simp;omega
    rw[e4] at hR' ⊢
    exact ⟨trivial,hR'⟩
 ·intro R hR
  refine keep (h9o xs xs.length xs.length b R) ?_
  have e1:decide ((xs.length:Int)<xs.length)=false:=by simp
  rw[e1]
  exact ⟨rfl,hR⟩
theorem i8j:C3 B g2h:=by
 refine C4 B9 h6b (fn:=Tryz.f191) (cd:=A7 Tryz.f191) (sp:=spL [(8,g4e)]) (hn:=B1) Tryz.func191 (by kernel_rfl) (by kernel_rfl) (B7 (c:=.loop g7y) (by kernel_rfl) h5k C8) fun ds r hp hr=>?_
 unfold h7v at hp hr
 simp only[] at hr
 split at hr
 ·rename_i b z xs
  cases hr
  obtain ⟨rfl,hall⟩:=hp
  refine keep (i4i xs b fun v=>v=_) ?_
  unfold a8d g5c
  have e1:decide ((xs.length:Int)>16)=decide (16<xs.length):=by simp;omega
  rw[e1]
  by_cases h:16<xs.length
  ·simp[h]
  ·simp only[h,decide_false,cond_false]
   refine ⟨⟨trivial,trivial,trivial,trivial,trivial,by omega,hall⟩, ?_⟩
   cases C1 (j8 xs) xs.length<;>simp
 ·cases hr
theorem a6v (s:ByteArray):(a8d [.agg [.lit (.string s), .lit (.string (ByteArray.mk (Array.mk [120])))]]==0)=H8 s:=by
 have h:j8 [.agg [.lit (.string s), .lit (.string (ByteArray.mk (Array.mk [120])))]] 0=bif !H8 s then some 5 else none:=by
  show (bif !H8 s then some 5 else _)=_
  cases H8 s<;>kernel_rfl
 show ((match C1 (j8 _) 1 with|some e=>e|none=>0)==0)=_
 unfold C1 rounds
 simp only[h]
 cases H8 s<;>rfl
theorem i9a:C3 B g2z:=by
 refine C4 B9 i8j (fn:=Tryz.f144) (cd:=A7 Tryz.f144) (sp:=B8) (hn:=B1) Tryz.func144 (by kernel_rfl) (by kernel_rfl) A8 fun ds r hp hr=>?_
 unfold h8e at hr
 simp only[] at hr
 split at hr
 ·rename_i s
  cases hr
  refine keep (i5i s fun v=>v=_) ?_
  rw[a6v]
  exact ⟨⟨rfl,fun i hi=>by
   cases i with
   | zero=>rfl
   | succ i=>simp at hi⟩,rfl⟩
 ·cases hr
theorem i9b:C3 B g3a:=by
 refine C4 B9 i9a (fn:=Tryz.f143) (cd:=A7 Tryz.f143) (sp:=B8) (hn:=B1) Tryz.func143 (by kernel_rfl) (by kernel_rfl) A8 fun ds r hp hr=>?_
 unfold c143 at hr
 simp only[] at hr
 split at hr
 ·rename_i s
  cases hr
  refine keep (i5j s fun v=>v=_) ?_
  simp[K0,eqS]
 ·cases hr
theorem i8f:C3 B g2d:=by
 refine C4 B9 i9b (fn:=Tryz.f212) (cd:=A7 Tryz.f212) (sp:=B8) (hn:=B1) Tryz.func212 (by kernel_rfl) (by kernel_rfl) A8 fun ds r hp hr=>?_
 unfold c212 at hr
 simp only[] at hr
 split at hr
 ·rename_i s t
  cases hr
  refine keep (i4b s t fun v=>v=_) ?_
  refine ⟨fun h=>⟨by omega,by simp at h;omega⟩, ?_⟩
  have e:decide ((s.size:Int)≥(t.size:Int))=decide (t.size≤s.size):=by simp
  rw[e]
  simp[P6]
 ·cases hr
theorem i8k:C3 B g2i:=by
 refine C4 B9 i8f (fn:=Tryz.f190) (cd:=A7 Tryz.f190) (sp:=B8) (hn:=B1) Tryz.func190 (by kernel_rfl) (by kernel_rfl) A8 fun ds r hp hr=>?_
 unfold e7z at hr
 simp only[] at hr
 split at hr
 ·rename_i s t
  cases hr
  refine keep (i4j s t fun v=>v=_) ?_
  refine ⟨trivial, ?_⟩
  refine A5 (fun h=>?_) (fun h=>?_)
  ·have:P6 s t=false:=by simpa using h
   rw[this];rfl
  ·have hq:P6 s t=true:=by simpa using h
   have hle:t.size≤s.size:=by unfold P6 at hq;simp at hq;exact hq.1
   rw[hq]
   exact ⟨⟨by omega,by simp;exact hle⟩,by simp⟩
 ·cases hr
theorem h6f:C3 B g3b:=by
 refine C4 B9 i8k (fn:=Tryz.f142) (cd:=A7 Tryz.f142) (sp:=B8) (hn:=B1) Tryz.func142 (by kernel_rfl) (by kernel_rfl) A8 fun ds r hp hr=>?_
 unfold e7z at hr
 simp only[] at hr
 split at hr
 ·rename_i s t
  cases hr
  refine keep (i5k s t fun v=>v=_) ?_
  exact ⟨trivial,rfl⟩
 ·cases hr
def p8 (c:Int):Bool:=decide (48≤c)&&decide (c≤57)
def V3 (c:Int):Bool:=(decide (97≤c)&&decide (c≤122))||(decide (65≤c)&&decide (c≤90))
def h7f:Ct:=⟨fun _=>True,fun | [.lit (.int .u8 c)]=>some (.lit (.bool (p8 c)))|_=>none⟩
def h7d:Ct:=⟨fun _=>True,fun | [.lit (.int .u8 c)]=>some (.lit (.bool (V3 c)))|_=>none⟩
def h7e:Ct:=⟨fun _=>True,fun | [.lit (.int .u8 c)]=>some (.lit (.bool (V3 c||p8 c||c==95)))|_=>none⟩
def h7h:Ct:=⟨fun _=>True,fun | [.lit (.int .u8 c)]=>some (.lit (.bool true))|_=>none⟩
def f9x:Tab:=g3b.add 269 h7f
def f9v:Tab:=f9x.add 271 h7d
def f9w:Tab:=f9v.add 270 h7e
def U6:Tab:=f9w.add 260 h7h
theorem i3b (c:Int) (p:V→Prop):(B6 (Cn g3b) g3b D5 0 B8 B1 269 [V.d (D.lit (Value.int IntKind.u8 c))] B3.empty fun v H=>p (B4 H v)) =
 p (A6 (bif decide (48≤c) then decide (c≤57) else false)):=by kernel_rfl
theorem i2z (c:Int) (p:V→Prop):(B6 (Cn f9x) f9x D5 0 B8 B1 271 [V.d (D.lit (Value.int IntKind.u8 c))] B3.empty fun v H=>p (B4 H v)) =
 p
 (A6 (bif bif decide (97≤c) then decide (c≤122) else false then true
 else bif decide (65≤c) then decide (c≤90) else false)):=by kernel_rfl
theorem i3a (c:Int) (p:V→Prop):(B6 (Cn f9v) f9v D5 0 B8 B1 270 [V.d (D.lit (Value.int IntKind.u8 c))] B3.empty fun v H=>p (B4 H v)) =
 (True∧
 (((!V3 c&&true)=true→True)∧
 p (A6 (bif bif V3 c then true else p8 c then true else c==95)))):=by kernel_rfl
theorem i3h (c:Int) (p:V→Prop):(B6 (Cn f9w) f9w D5 0 B8 B1 260 [V.d (D.lit (Value.int IntKind.u8 c))] B3.empty fun v H=>p (B4 H v)) =
 p (A6 true):=by kernel_rfl
abbrev psB (s:ByteArray) (i:Int):Box:=.cells 213 [C6 s,A3 i]
def d8c (bs:List Box):Prop:=match bs with
 | [.cells 213 [.d (.lit (.string s)), .d (.lit (.int .i64 i))]]=>0≤i∧i≤s.size∧s.size≤200
 | _=>False
def e5o:Sm:=⟨fun _ bs=>d8c bs,fun vals bs=>match vals,bs with
 | [.ptr [0,0] 0], [.cells 213 [.d (.lit (.string s)), .d (.lit (.int .i64 i))]]=>some (i==s.size,(.d (.tup [.lit (.int .u8 0), .lit (.bool false)]), [psB s i], []),(.d (.tup [.lit (.int .u8 (A9 s i.toNat)), .lit (.bool true)]), [psB s i], []))
 | _,_=>none⟩
def L5 (s:ByteArray) (i c:Int):Bool:= !(i==s.size)&&A9 s i.toNat==c
def c2r:Sm:=⟨fun _ bs=>d8c bs,fun vals bs=>match vals,bs with
 | [.ptr [0,0] 0, .d (.lit (.int .u8 c))], [.cells 213 [.d (.lit (.string s)), .d (.lit (.int .i64 i))]]=>some (L5 s i c,(A6 true, [psB s (i+1)], []),(A6 false, [psB s i], []))
 | _,_=>none⟩
abbrev e9n (c:Int):Box:=.cells 239 [A3 0,A6 true, .d (.lit (.int .u8 c)), .d (.lit (.pointer none)), .d (.slice true 0 [])]
def e5n:Sm:=⟨fun _ _=>True,fun vals bs=>match vals,bs with
 | [.d (.lit (.int .u8 c))], []=>one (.ptr [2] 0) [] [e9n c]
 | _,_=>none⟩
def a4i (s:ByteArray) (i:Int):Bool:=decide (i+1<s.size)&&(A9 s i.toNat==45&&A9 s (i+1).toNat !=93)
def g6o:Sm:=⟨fun _ bs=>d8c bs,fun vals bs=>match vals,bs with
 | [.ptr [0,0] 0], [.cells 213 [.d (.lit (.string s)), .d (.lit (.int .i64 i))]]=>one (A6 (a4i s i)) [psB s i] []
 | _,_=>none⟩
def h2a:L4:=a6s.add 231 e5o
def h2b:L4:=h2a.add 215 c2r
def g9w:L4:=h2b.add 263 e5n
def g9v:L4:=g9w.add 267 g6o
def e00:List (List (B2×B2)):=[[([0,0],[0,0])]]
theorem i3u (s:ByteArray) (i:Int) (R:V→List Box→Prop):(F3 (Cn U6) U6 (H7 a6s) 1 B8 B1 [] e00 231 [V.ptr [0,0] 0] (H6 [psB s i]) R) =
 (bif i==(↑s.size:Int) then
 R (V.d (D.tup [D.lit (Value.int IntKind.u8 0),oD false]))
 [Box.cells 213 [C6 s,A3 i]] else
 ((((0:Int)≤i)∧i.toNat<s.size)∧
 R (V.d (D.tup [D.lit (Value.int IntKind.u8 (A9 s i.toNat)),oD true]))
 [Box.cells 213 [C6 s,A3 i]])):=by kernel_rfl
theorem i3y (s : ByteArray) (i : Int) (c : Int) (R : V → List Box → Prop) : (F3 (Cn U6) U6 (H7 h2a) 1 B8 B1 [] e00 215 [V.ptr [0, 0] 0, V.d (D.lit (Value.int IntKind.u8 c))]
  (H6 [psB s i]) R) =
  (((!i == (↑s.size : Int) && true) = true → (((0 : Int) ≤ i) ∧ i.toNat < s.size)) ∧
  (bif bif i == (↑s.size : Int) then true else A9 s i.toNat != c then
   R (A6 false) [Box.cells 213 [C6 s, A3 i]] else
   R (A6 true)
  [Box.cells 213 [C6 s, A3 (IntKind.i64.wrap (i + 1))]])) := by kernel_rfl
theorem i3f (c:Int) (R:V→List Box→Prop):(F3 (Cn U6) U6 (H7 h2b) 0 B8 B1 [] [[([2], [7])]] 263 [V.d (D.lit (Value.int IntKind.u8 c))] (H6 []) R) =
 R (V.ptr [2] 0)
 [Box.cells 239
 [A3 0,A6 true,V.d (D.lit (Value.int IntKind.u8 c)),
 V.d (D.lit (Value.pointer none)),V.d (D.slice true 0 [])]]:=by kernel_rfl
theorem i3d (s:ByteArray) (i:Int) (R:V→List Box→Prop):(F3 (Cn U6) U6 (H7 g9w) 1 B8 B1 [] e00 267 [V.ptr [0,0] 0] (H6 [psB s i]) R) =
 (((decide (IntKind.i64.wrap (i+1)<(↑s.size:Int))&&true)=true→(((0:Int)≤i)∧i.toNat<s.size))∧
 ((((bif decide (IntKind.i64.wrap (i+1)<(↑s.size:Int)) then A9 s i.toNat==45 else false)&&true)=true→(((0:Int)≤IntKind.i64.wrap (i+1))∧(IntKind.i64.wrap (i+1)).toNat<s.size))∧
 R
 (A6 (bif bif decide (IntKind.i64.wrap (i+1)<(↑s.size:Int)) then A9 s i.toNat==45 else false then
   A9 s (IntKind.i64.wrap (i+1)).toNat !=93
  else false))
 [Box.cells 213 [C6 s,A3 i]])):=by kernel_rfl
theorem i8a:C3 B f9x:=by
 refine C4 B9 h6f (fn:=Tryz.f269) (cd:=A7 Tryz.f269) (sp:=B8) (hn:=B1) Tryz.func269 (by kernel_rfl) (by kernel_rfl) A8 fun ds r hp hr=>?_
 unfold h7f at hr
 simp only[] at hr
 split at hr
 ·rename_i c
  cases hr
  exact keep (i3b c fun v=>v=_) (by simp[p8])
 ·cases hr
theorem i7y:C3 B f9v:=by
 refine C4 B9 i8a (fn:=Tryz.f271) (cd:=A7 Tryz.f271) (sp:=B8) (hn:=B1) Tryz.func271 (by kernel_rfl) (by kernel_rfl) A8 fun ds r hp hr=>?_
 unfold h7d at hr
 simp only[] at hr
 split at hr
 ·rename_i c
  cases hr
  exact keep (i2z c fun v=>v=_) (by simp[V3])
 ·cases hr
theorem i7z:C3 B f9w:=by
 refine C4 B9 i7y (fn:=Tryz.f270) (cd:=A7 Tryz.f270) (sp:=B8) (hn:=B1) Tryz.func270 (by kernel_rfl) (by kernel_rfl) A8 fun ds r hp hr=>?_
 unfold h7e at hr
 simp only[] at hr
 split at hr
 ·rename_i c
  cases hr
  exact keep (i3a c fun v=>v=_) (by simp)
 ·cases hr
theorem a9z:C3 B U6:=by
 refine C4 B9 i7z (fn:=Tryz.f260) (cd:=A7 Tryz.f260) (sp:=B8) (hn:=B1) Tryz.func260 (by kernel_rfl) (by kernel_rfl) A8 fun ds r hp hr=>?_
 unfold h7h at hr
 simp only[] at hr
 split at hr
 ·rename_i c
  cases hr
  exact keep (i3h c fun v=>v=_) rfl
 ·cases hr
theorem a8m:e00.all (fun ns=>S9 ns==G8 1++L7 ((S9 ns).length-1))=true:=by kernel_rfl
theorem e2i {i:Int} {s:ByteArray} (h0:0≤i) (h1:i≤s.size) (h2:s.size≤200):IntKind.i64.wrap (i+1)=i+1:=by rw[Go.IntWalk.i64_in _ (by omega)]
theorem h4o:H9 B h2a:=by
 refine P9 N3 fun vals bs c x y hp hf=>?_
 unfold e5o at hp hf
 simp only[] at hp hf
 split at hf
 case h_2=>cases hf
 rename_i s i
 simp only[Option.some.injEq,Prod.mk.injEq] at hf
 obtain ⟨rfl,rfl,rfl⟩:=hf
 obtain ⟨h0,h1,h2⟩:=hp
 refine F6 B9 a9z N3 (fn:=Tryz.f231) (cd:=A7 Tryz.f231) (sp:=B8) (hn:=B1) (k:=1) (ads:=[]) (ends:=e00) Tryz.func231 (by kernel_rfl) (by kernel_rfl) (by kernel_rfl) a8m A8 rfl (by cases (i==(s.size:Int))<;>rfl) (keep (i3u s i _) ?_)
 refine A5 (fun h=>?_) (fun h=>?_)
 ·rw[h];exact ⟨rfl,rfl⟩
 ·have:i≠s.size:=by simpa using h
  rw[h];exact ⟨⟨h0,by omega⟩,rfl,rfl⟩
theorem h4p:H9 B h2b:=by
 refine P9 h4o fun vals bs c x y hp hf=>?_
 unfold c2r at hp hf
 simp only[] at hp hf
 split at hf
 case h_2=>cases hf
 rename_i c s i
 simp only[Option.some.injEq,Prod.mk.injEq] at hf
 obtain ⟨rfl,rfl,rfl⟩:=hf
 obtain ⟨h0,h1,h2⟩:=hp
 refine F6 B9 a9z h4o (fn:=Tryz.f215) (cd:=A7 Tryz.f215) (sp:=B8) (hn:=B1) (k:=1) (ads:=[]) (ends:=e00) Tryz.func215 (by kernel_rfl) (by kernel_rfl) (by kernel_rfl) a8m A8 rfl (by cases L5 s i c<;>rfl) (keep (i3y s i c _) ?_)
 rw[e2i h0 h1 h2]
 refine ⟨fun h=>⟨h0,by simp at h;omega⟩, ?_⟩
 refine A5 (fun h=>?_) (fun h=>?_)
 ·have:L5 s i c=false:=by unfold L5;revert h;cases (i==(s.size:Int))<;>simp[bne]
  rw[this];exact ⟨rfl,rfl⟩
 ·have:L5 s i c=true:=by unfold L5;revert h;cases (i==(s.size:Int))<;>simp[bne]
  rw[this];exact ⟨rfl,rfl⟩
theorem h4k:H9 B g9w:=by
 refine P9 h4p fun vals bs c x y hp hf=>?_
 unfold e5n at hf
 simp only[] at hf
 split at hf
 case h_2=>cases hf
 rename_i c
 simp only[one,Option.some.injEq,Prod.mk.injEq] at hf
 obtain ⟨rfl,rfl,rfl⟩:=hf
 refine F6 B9 a9z h4p (fn:=Tryz.f263) (cd:=A7 Tryz.f263) (sp:=B8) (hn:=B1) (k:=0) (ads:=[]) (ends:=[[([2],[7])]]) Tryz.func263 (by kernel_rfl) (by kernel_rfl) (by kernel_rfl) (by kernel_rfl) A8 rfl rfl (keep (i3f c _) ⟨rfl,rfl⟩)
theorem h4j:H9 B g9v:=by
 refine P9 h4k fun vals bs c x y hp hf=>?_
 unfold g6o at hp hf
 simp only[] at hp hf
 split at hf
 case h_2=>cases hf
 rename_i s i
 simp only[one,Option.some.injEq,Prod.mk.injEq] at hf
 obtain ⟨rfl,rfl,rfl⟩:=hf
 obtain ⟨h0,h1,h2⟩:=hp
 refine F6 B9 a9z h4k (fn:=Tryz.f267) (cd:=A7 Tryz.f267) (sp:=B8) (hn:=B1) (k:=1) (ads:=[]) (ends:=e00) Tryz.func267 (by kernel_rfl) (by kernel_rfl) (by kernel_rfl) a8m A8 rfl (by rfl) (keep (i3d s i _) ?_)
 rw[e2i h0 h1 h2]
 refine ⟨fun h=>⟨h0, ?_⟩,fun h=>⟨by omega, ?_⟩,congrArg (fun b=>V.d (D.lit (Value.bool b))) ?_,rfl⟩
 ·have h:=of_decide_eq_true (by simpa using h:decide (i+1<(s.size:Int))=true)
  omega
 ·cases hd:decide (i+1<(s.size:Int)) with
  | true=>have:=of_decide_eq_true hd;omega
  | false=>rw[hd] at h;simp at h
 ·unfold a4i
  cases decide (i+1<(s.size:Int))<;>cases (A9 s i.toNat==45)<;>rfl
def g6n:Sm:=⟨fun vals _=>match vals with | .d (.lit (.int .u8 c))::_=>0≤c∧c<256|_=>False,fun vals bs=>match vals,bs with
 | [.d (.lit (.int .u8 c)), .ptr [0,0] 0, .ptr [0,1] 0], [.bools 289 256, .cells 4 [.d (.lit (.bool b))]]=>one (.d .anyB) [.bools 289 256, .cells 4 [A6 b]] []
 | _,_=>none⟩
def d2s:L4:=g9v.add 268 g6n
theorem i3c (c:Int) (b:Bool) (R:V→List Box→Prop):(F3 (Cn U6) U6 (H7 g9v) 2 B8 B1 [] [[([0,0], [0,0]),([0,1], [0,1])]] 268
 [V.d (D.lit (Value.int IntKind.u8 c)),V.ptr [0,0] 0,V.ptr [0,1] 0]
 (H6 [Box.bools 289 256,Box.cells 4 [A6 b]]) R) =
 ((((0:Int)≤c)∧c.toNat<256)∧
 (0+c.toNat*1<256∧
 R (V.d D.anyB) [Box.bools 289 256,Box.cells 4 [A6 b]])):=by kernel_rfl
noncomputable def c5m:Code:=D7 (C5 (A7 Tryz.f259) 6)
theorem f4k (i:Int) (R:X→List V→List Box→Prop):(E1 (Cn U6) U6 (H7 d2s) 0 B8 B1 c5m 15 [0,3,5] [[5000]] [] [([5000], [5000])] [3] [([5000], [5000])]
 [V.fn (Fn.func 260) [] [],V.ptr [5000] 0,A3 i] [Box.bools 289 256] R) =
 (bif decide (i<256) then
 (True∧
 ((((0:Int)≤i)∧i.toNat<256)∧
 (0+i.toNat*1<256∧
 (15=15∧
 R X.normal [V.fn (Fn.func 260) [] [],V.ptr [5000] 0,A3 (IntKind.i64.wrap (i+1))]
 [Box.bools 289 256])))) else
 (15=15∧
 R (X.exit 0) [V.ptr [5000] 0] [Box.bools 289 256])):=by kernel_rfl
theorem f4j (i:Int) (R:X→List V→List Box→Prop):(E1 (Cn U6) U6 (H7 d2s) 0 B8 B1 c5m 15 [0,3,5] [[5000]] [] [([5000], [5000])] [3] [([5000], [5000])]
 [V.fn (Fn.func 269) [] [],V.ptr [5000] 0,A3 i] [Box.bools 289 256] R) =
 (bif decide (i<256) then
 (True∧
 ((((0:Int)≤i)∧i.toNat<256)∧
 (0+i.toNat*1<256∧
 (15=15∧
 R X.normal [V.fn (Fn.func 269) [] [],V.ptr [5000] 0,A3 (IntKind.i64.wrap (i+1))]
 [Box.bools 289 256])))) else
 (15=15∧
 R (X.exit 0) [V.ptr [5000] 0] [Box.bools 289 256])):=by kernel_rfl
theorem f4i (i:Int) (R:X→List V→List Box→Prop):(E1 (Cn U6) U6 (H7 d2s) 0 B8 B1 c5m 15 [0,3,5] [[5000]] [] [([5000], [5000])] [3] [([5000], [5000])]
 [V.fn (Fn.func 270) [] [],V.ptr [5000] 0,A3 i] [Box.bools 289 256] R) =
 (bif decide (i<256) then
 (True∧
 ((((0:Int)≤i)∧i.toNat<256)∧
 (0+i.toNat*1<256∧
 (15=15∧
 R X.normal [V.fn (Fn.func 270) [] [],V.ptr [5000] 0,A3 (IntKind.i64.wrap (i+1))]
 [Box.bools 289 256])))) else
 (15=15∧
 R (X.exit 0) [V.ptr [5000] 0] [Box.bools 289 256])):=by kernel_rfl
theorem d6x (i:Int) (b:Bool) (R:X→List V→List Box→Prop):(E1 (Cn U6) U6 (H7 d2s) 2 B8 B1 c5m 15 [0,3,5] [[0,0], [0,1], [5000]] []
 [([0,0], [0,0]),([0,1], [0,1]),([5000], [5000])] [3] [([0,0], [0,0]),([0,1], [0,1]),([5000], [5000])]
 [V.fn (Fn.func 268) [] [V.ptr [0,0] 0,V.ptr [0,1] 0],V.ptr [5000] 0,A3 i]
 [Box.bools 289 256,Box.cells 4 [A6 b],Box.bools 289 256] R) =
 (bif decide (i<256) then
 (g6n.pre [V.d (D.lit (Value.int IntKind.u8 (IntKind.u8.wrap i))),V.ptr [0,0] 0,V.ptr [0,1] 0]
 [Box.bools 289 256,Box.cells 4 [A6 b]]∧
 ((((0:Int)≤i)∧i.toNat<256)∧
 (0+i.toNat*1<256∧
 (15=15∧
 R X.normal
 [V.fn (Fn.func 268) [] [V.ptr [0,0] 0,V.ptr [0,1] 0],V.ptr [5000] 0,
 A3 (IntKind.i64.wrap (i+1))]
 [Box.bools 289 256,Box.cells 4 [A6 b],Box.bools 289 256])))) else
 (15=15∧
 R (X.exit 0) [V.ptr [5000] 0] [Box.bools 289 256,Box.cells 4 [A6 b],Box.bools 289 256])):=by kernel_rfl
def e9v (K:Nat):Bool:=K==260||(K==269||K==270)
def g3v:Ev.Spec:={L:=[0,3,5],ns:=[([5000],[5])],ads:=[.bools [5]],L':=[3],nm':=[[5000]],G:=fun N vals bs k=>match vals,bs with
 | [.fn (.func K) [] [], .ptr [5000] 0, .d (.lit (.int .i64 i))], [.bools 289 256]=>(N=15∧i=0∧e9v K=true)∧k (.exit 0) [.ptr [5000] 0] [.bools 289 256]
 | _,_=>False }
def e4w:Ev.Spec:={L:=[0,3,5],ns:=[([0,0],[0,0]),([0,1],[0,1]),([5000],[5])],ads:=[.bools [5]],L':=[3],nm':=[[0,0],[0,1],[5000]],G:=fun N vals bs k=>match vals,bs with
 | [.fn (.func 268) [] [.ptr [0,0] 0, .ptr [0,1] 0], .ptr [5000] 0, .d (.lit (.int .i64 i))], [.bools 289 256, .cells 4 [.d (.lit (.bool b))], .bools 289 256]=>(N=15∧i=0)∧k (.exit 0) [.ptr [5000] 0] [.bools 289 256, .cells 4 [A6 b], .bools 289 256]
 | _,_=>False }
def d7z:Sm:=⟨fun _ _=>True,fun vals bs=>match vals,bs with
 | [.fn (.func K) [] []], []=>bif e9v K then one (.d .any) [] [] else none
 | [.fn (.func 268) [] [.ptr [0,0] 0, .ptr [0,1] 0]], [.bools 289 256, .cells 4 [.d (.lit (.bool b))]]=>one (.d .any) [.bools 289 256, .cells 4 [A6 b]] []
 | _,_=>none⟩
def g9y:L4:=d2s.add 259 d7z
theorem i3i (K:Nat) (R:V→List Box→Prop):(F3 (Cn U6) U6 (H7 d2s) 0 (spL [(6,g3v)]) B1 [Ad.flat 2] [[]] 259 [V.fn (Fn.func K) [] []] (H6 []) R) =
 ((15=15∧(((0:Int)=0)∧e9v K=true))∧
 R (V.d D.any) []):=by kernel_rfl
theorem h3x (b:Bool) (R:V→List Box→Prop):(F3 (Cn U6) U6 (H7 d2s) 2 (spL [(6,e4w)]) B1 [Ad.flat 2] [[([0,0], [0,0]),([0,1], [0,1])]] 259
 [V.fn (Fn.func 268) [] [V.ptr [0,0] 0,V.ptr [0,1] 0]] (H6 [Box.bools 289 256,Box.cells 4 [A6 b]]) R) =
 ((15=15∧((0:Int)=0))∧
 R (V.d D.any) [Box.bools 289 256,Box.cells 4 [A6 b]]):=by kernel_rfl
theorem e9g:H9 B d2s:=by
 refine P9 h4j fun vals bs c x y hp hf=>?_
 unfold g6n at hp hf
 simp only[] at hp hf
 split at hf
 case h_2=>cases hf
 rename_i c b
 simp only[one,Option.some.injEq,Prod.mk.injEq] at hf
 obtain ⟨rfl,rfl,rfl⟩:=hf
 obtain ⟨h0,h1⟩:=hp
 refine F6 B9 a9z h4j (fn:=Tryz.f268) (cd:=A7 Tryz.f268) (sp:=B8) (hn:=B1) (k:=2) (ads:=[]) (ends:=[[([0,0],[0,0]),([0,1],[0,1])]]) Tryz.func268 (by kernel_rfl) (by kernel_rfl) (by kernel_rfl) (by kernel_rfl) A8 rfl rfl (keep (i3c c b _) ?_)
 exact ⟨⟨h0,by omega⟩,by omega,rfl,rfl⟩
theorem g6g (i:Int):0≤IntKind.u8.wrap i∧IntKind.u8.wrap i<256:=by
 have h:IntKind.u8.wrap i=i % 256:=by rfl
 rw[h];omega
theorem h5b:OkS (Cn U6) 0 (.loop c5m) g3v:=by
 refine D0 fun N vals bs K h=>?_
 simp only[g3v] at h
 split at h
 case h_2=>exact h.elim
 rename_i F i
 obtain ⟨⟨rfl,rfl,hF⟩,h⟩:=h
 have key:∀F:Nat,(∀(i:Int) R,a6d (E1 (Cn U6) U6 (H7 d2s) 0 B8 B1 c5m 15 [0,3,5] [[5000]] [] [([5000],[5000])] [3] [([5000],[5000])] [.fn (.func F) [] [], .ptr [5000] 0,A3 i] [.bools 289 256] R)∨¬(bif decide (i<256) then (True∧((((0:Int)≤i)∧i.toNat<256)∧(0+i.toNat*1<256∧(15=15∧R X.normal [V.fn (Fn.func F) [] [],V.ptr [5000] 0,A3 (IntKind.i64.wrap (i+1))] [Box.bools 289 256])))) else (15=15∧R (X.exit 0) [V.ptr [5000] 0] [Box.bools 289 256])))→
   J2 (Cn U6) 0 c5m 15 [0,3,5] [[5000]] [3] [[5000]] [.fn (.func F) [] [], .ptr [5000] 0,A3 0] [.bools 289 256] K:=by
  intro F hb
  refine b4o (L8 B9 a9z e9g) C0 A8 (hn:=B1) (adsI:=[]) (nsI:=[([5000],[5000])]) (nsX:=[([5000],[5000])]) rfl rfl 256 (fun _ (_:Unit)=>True)
   (fun i _=>[.fn (.func F) [] [], .ptr [5000] 0,A3 i]) (fun _ _=>[.bools 289 256]) (fun i _=>.inl ()) (.exit 0) (fun _=>[.ptr [5000] 0]) (fun _=>[.bools 289 256]) (by simp) ?_ ?_ 256 0 () rfl trivial ?_
  ·intro i a R hi _ hR
   refine (hb i R).resolve_right (fun hn=>hn ?_)
   have e1:decide ((i:Int)<256)=true:=by simp;omega
   have e2:IntKind.i64.wrap ((i:Int)+1)=((i+1:Nat):Int):=by rw[Go.IntWalk.i64_in _ (by omega)];omega
   rw[e1,e2]
   exact ⟨trivial,⟨by omega,by omega⟩,by omega,rfl,hR trivial⟩
  ·intro a R _ hR
   refine (hb 256 R).resolve_right (fun hn=>hn ?_)
   exact ⟨rfl,hR⟩
  ·have:∀n i,rounds (β:=X×List V×List Box) (fun (_:Nat) (_:Unit)=>.inl ()) n i ()= .inl ():=by
    intro n
    induction n with
    | zero=>intro i;rfl
    | succ n ih=>intro i;exact ih (i+1)
   rw[this];exact h
 have alt:∀{a b:Prop},a=b→a6d a∨¬b:=fun {a b} e=>by
  by_cases hb:b
  ·exact .inl (keep e hb)
  ·exact .inr hb
 unfold e9v at hF
 simp only[Bool.or_eq_true,beq_iff_eq] at hF
 rcases hF with rfl|rfl|rfl
 ·exact key 260 fun i R=>alt (f4k i R)
 ·exact key 269 fun i R=>alt (f4j i R)
 ·exact key 270 fun i R=>alt (f4i i R)
theorem g6y:OkS (Cn U6) 2 (.loop c5m) e4w:=by
 refine D0 fun N vals bs K h=>?_
 simp only[e4w] at h
 split at h
 case h_2=>exact h.elim
 rename_i i b
 obtain ⟨⟨rfl,rfl⟩,h⟩:=h
 refine b4o (L8 B9 a9z e9g) C0 A8 (hn:=B1) (adsI:=[]) (nsI:=[([0,0],[0,0]),([0,1],[0,1]),([5000],[5000])]) (nsX:=[([0,0],[0,0]),([0,1],[0,1]),([5000],[5000])]) rfl rfl 256 (fun _ (_:Unit)=>True)
   (fun i _=>[.fn (.func 268) [] [.ptr [0,0] 0, .ptr [0,1] 0], .ptr [5000] 0,A3 i]) (fun _ _=>[.bools 289 256, .cells 4 [A6 b], .bools 289 256]) (fun i _=>.inl ()) (.exit 0) (fun _=>[.ptr [5000] 0]) (fun _=>[.bools 289 256, .cells 4 [A6 b], .bools 289 256]) (by simp) ?_ ?_ 256 0 () rfl trivial ?_
 ·intro i a R hi _ hR
  refine keep (d6x i b R) ?_
  have e1:decide ((i:Int)<256)=true:=by simp;omega
  have e2:IntKind.i64.wrap ((i:Int)+1)=((i+1:Nat):Int):=by rw[Go.IntWalk.i64_in _ (by omega)];omega
  rw[e1,e2]
  exact ⟨g6g i,⟨by omega,by omega⟩,by omega,rfl,hR trivial⟩
 ·intro a R _ hR
  refine keep (d6x 256 b R) ?_
  exact ⟨rfl,hR⟩
 ·have:∀n i,rounds (β:=X×List V×List Box) (fun (_:Nat) (_:Unit)=>.inl ()) n i ()= .inl ():=by
   intro n
   induction n with
   | zero=>intro i;rfl
   | succ n ih=>intro i;exact ih (i+1)
  rw[this];exact h
theorem h4n:H9 B g9y:=by
 refine P9 e9g fun vals bs c x y hp hf=>?_
 unfold d7z at hf
 simp only[] at hf
 split at hf
 ·rename_i F
  cases hF:e9v F with
  | false=>rw[hF] at hf;cases hf
  | true =>
   rw[hF] at hf
   simp only[one,cond_true,Option.some.injEq,Prod.mk.injEq] at hf
   obtain ⟨rfl,rfl,rfl⟩:=hf
   refine F6 B9 a9z e9g (fn:=Tryz.f259) (cd:=A7 Tryz.f259) (sp:=spL [(6,g3v)]) (hn:=B1) (k:=0) (ads:=[.flat 2]) (ends:=[[]]) Tryz.func259 (by kernel_rfl) (by kernel_rfl) (by kernel_rfl) (by kernel_rfl) (B7 (c:=.loop c5m) (by kernel_rfl) h5b C8) rfl rfl (keep (i3i F _) ?_)
   exact ⟨⟨rfl,rfl,hF⟩,rfl,rfl⟩
 ·rename_i b
  simp only[one,Option.some.injEq,Prod.mk.injEq] at hf
  obtain ⟨rfl,rfl,rfl⟩:=hf
  refine F6 B9 a9z e9g (fn:=Tryz.f259) (cd:=A7 Tryz.f259) (sp:=spL [(6,e4w)]) (hn:=B1) (k:=2) (ads:=[.flat 2]) (ends:=[[([0,0],[0,0]),([0,1],[0,1])]]) Tryz.func259 (by kernel_rfl) (by kernel_rfl) (by kernel_rfl) (by kernel_rfl) (B7 (c:=.loop c5m) (by kernel_rfl) g6y C8) rfl rfl (keep (h3x b _) ?_)
  exact ⟨⟨rfl,rfl⟩,rfl,rfl⟩
 ·cases hf
abbrev g9c (plain:Bool) (c:Int):Box:=.cells 239 [A3 0,A6 plain, .d (.lit (.int .u8 c)), .d .any, .d (.slice true 0 [])]
def r7 (c:Int):Bool:= !(c==100||c==119)
def a3q (c:Int):Int:=bif c==110 then 10 else bif c==116 then 9 else bif c==100||c==119 then 0 else c
def a5x (c:Int):Bool:=c==110||(c==116||(c==100||(c==119|| !(V3 c||p8 c))))
def V6 (s:ByteArray) (i:Int):Bool:= !(i==s.size)&&a5x (A9 s i.toNat)
def a4s (s:ByteArray) (i:Int):Int:=bif i==s.size then i else i+1
def f5v:Sm:=⟨fun _ bs=>d8c bs,fun vals bs=>match vals,bs with
 | [.ptr [0,0] 0], [.cells 213 [.d (.lit (.string s)), .d (.lit (.int .i64 i))]]=>some (V6 s i,(.tup [.ptr [2] 0,A6 true], [psB s (i+1)], [g9c (r7 (A9 s i.toNat)) (a3q (A9 s i.toNat))]),(.d (.tup [.lit (.pointer none), .lit (.bool false)]), [psB s (a4s s i)], []))
 | _,_=>none⟩
def g9x:L4:=g9y.add 261 f5v
def h6n:Nat→Option j5:=fun id=>match id with
 | 6=>some {ads:=[.flatC [25,2] 3] }
 | 8=>some {ads:=[.flatC [29,2] 3] }
 | 10=>some {ads:=[.flatC [35] 3] }
 | 12=>some {ads:=[.flatC [41] 3] }
 | 15=>some {ads:=[.flatC [50,2] 3] }
 | _=>none
def h6y:List (List (B2×B2)):=[[([0,0],[0,0]),([2],[25,2])], [([0,0],[0,0]),([2],[29,2])], [([0,0],[0,0]),([2],[35])], [([0,0],[0,0]),([2],[41])], [([0,0],[0,0]),([2],[50,2])], [([0,0],[0,0])]]
theorem i3g (s : ByteArray) (i : Int) (R : V → List Box → Prop) : (F3 (Cn U6) U6 (H7 g9y) 1 B8 h6n [] h6y 261 [V.ptr [0, 0] 0] (H6 [psB s i]) R) =
  (e5o.pre [V.ptr [0, 0] 0] [Box.cells 213 [C6 s, A3 i]] ∧
  (bif i == (↑s.size : Int) then
   R (V.d (D.tup [D.lit (Value.pointer none), oD false]))
  [Box.cells 213 [C6 s, A3 i]] else
   (bif A9 s i.toNat == 110 then
    (e5n.pre [V.d (D.lit (Value.int IntKind.u8 10))] [] ∧
    R (V.tup [V.ptr [2] 0, A6 true])
  [Box.cells 213 [C6 s, A3 (IntKind.i64.wrap (i + 1))],
    Box.cells 239
      [A3 0, A6 true, V.d (D.lit (Value.int IntKind.u8 10)),
        V.d D.any, V.d (D.slice true 0 [])]]) else
    (bif A9 s i.toNat == 116 then
     (e5n.pre [V.d (D.lit (Value.int IntKind.u8 9))] [] ∧
     R (V.tup [V.ptr [2] 0, A6 true])
  [Box.cells 213 [C6 s, A3 (IntKind.i64.wrap (i + 1))],
    Box.cells 239
      [A3 0, A6 true, V.d (D.lit (Value.int IntKind.u8 9)),
        V.d D.any, V.d (D.slice true 0 [])]]) else
     (bif A9 s i.toNat == 100 then
      (d7z.pre [V.fn (Fn.func 269) [] []] [] ∧
      R (V.tup [V.ptr [2] 0, A6 true])
  [Box.cells 213 [C6 s, A3 (IntKind.i64.wrap (i + 1))],
    Box.cells 239
      [A3 0, A6 false, V.d (D.lit (Value.int IntKind.u8 0)),
        V.d D.any, V.d (D.slice true 0 [])]]) else
      (bif A9 s i.toNat == 119 then
       (d7z.pre [V.fn (Fn.func 270) [] []] [] ∧
       R (V.tup [V.ptr [2] 0, A6 true])
  [Box.cells 213 [C6 s, A3 (IntKind.i64.wrap (i + 1))],
    Box.cells 239
      [A3 0, A6 false, V.d (D.lit (Value.int IntKind.u8 0)),
        V.d D.any, V.d (D.slice true 0 [])]]) else
       (True ∧
       (((!V3 (A9 s i.toNat) && true) = true → True) ∧
       (bif bif V3 (A9 s i.toNat) then true else p8 (A9 s i.toNat) then
        R (V.d (D.tup [D.lit (Value.pointer none), oD false]))
  [Box.cells 213 [C6 s, A3 (IntKind.i64.wrap (i + 1))]] else
        (e5n.pre [V.d (D.lit (Value.int IntKind.u8 (A9 s i.toNat)))] [] ∧
        R (V.tup [V.ptr [2] 0, A6 true])
  [Box.cells 213 [C6 s, A3 (IntKind.i64.wrap (i + 1))],
    Box.cells 239
      [A3 0, A6 true,
        V.d (D.lit (Value.int IntKind.u8 (A9 s i.toNat))), V.d D.any, V.d (D.slice true 0 [])]])))))))))) := by kernel_rfl
def N7 (s:ByteArray) (i:Int):Bool:= !(i==s.size)&&(!(A9 s i.toNat==93)&&(A9 s i.toNat !=92||(V6 s (i+1)&&r7 (A9 s (i+1).toNat))))
def p7 (s:ByteArray) (i:Int):Int:=bif A9 s i.toNat !=92 then A9 s i.toNat else a3q (A9 s (i+1).toNat)
def G3 (s:ByteArray) (i:Int):Int:=bif A9 s i.toNat !=92 then i+1 else i+1+1
def f6 (s:ByteArray) (i:Int):Int:=bif i==s.size then i else bif A9 s i.toNat==93 then i else bif V6 s (i+1) then i+1+1 else a4s s (i+1)
def f5u:Sm:=⟨fun _ bs=>d8c bs,fun vals bs=>match vals,bs with
 | [.ptr [0,0] 0], [.cells 213 [.d (.lit (.string s)), .d (.lit (.int .i64 i))]]=>some (N7 s i,(.d (.tup [.lit (.int .u8 (p7 s i)), .lit (.bool true)]), [psB s (G3 s i)], []),(.d (.tup [.lit (.int .u8 0), .lit (.bool false)]), [psB s (f6 s i)], []))
 | _,_=>none⟩
def f4t:L4:=g9x.add 266 f5u
theorem i3e (s : ByteArray) (i : Int) (R : V → List Box → Prop) : (F3 (Cn U6) U6 (H7 g9x) 1 B8 B1 [] e00 266 [V.ptr [0, 0] 0] (H6 [psB s i]) R) =
  (e5o.pre [V.ptr [0, 0] 0] [Box.cells 213 [C6 s, A3 i]] ∧
  (bif i == (↑s.size : Int) then
   R (V.d (D.tup [D.lit (Value.int IntKind.u8 0), oD false]))
  [Box.cells 213 [C6 s, A3 i]] else
   (bif bif false then true else A9 s i.toNat == 93 then
    R (V.d (D.tup [D.lit (Value.int IntKind.u8 0), oD false]))
  [Box.cells 213 [C6 s, A3 i]] else
    (bif A9 s i.toNat != 92 then
     R (V.d (D.tup [D.lit (Value.int IntKind.u8 (A9 s i.toNat)), oD true]))
  [Box.cells 213 [C6 s, A3 (IntKind.i64.wrap (i + 1))]] else
     (f5v.pre [V.ptr [0, 0] 0]
  [Box.cells 213 [C6 s, A3 (IntKind.i64.wrap (i + 1))]] ∧
     (bif V6 s (IntKind.i64.wrap (i + 1)) then
      (bif bif false then true else !r7 (A9 s (IntKind.i64.wrap (i + 1)).toNat) then
       R (V.d (D.tup [D.lit (Value.int IntKind.u8 0), oD false]))
  [Box.cells 213 [C6 s, A3 (IntKind.i64.wrap (i + 1) + 1)]] else
       R
  (V.d
    (D.tup
      [D.lit (Value.int IntKind.u8 (a3q (A9 s (IntKind.i64.wrap (i + 1)).toNat))), oD true]))
  [Box.cells 213 [C6 s, A3 (IntKind.i64.wrap (i + 1) + 1)]]) else
      ((false = true → False) ∧
      ((false = true → False) ∧
      ((false = true → False) ∧
      ((false = true → False) ∧
      (true = true ∧
      R (V.d (D.tup [D.lit (Value.int IntKind.u8 0), oD false]))
  [Box.cells 213
      [C6 s, A3 (a4s s (IntKind.i64.wrap (i + 1)))]]))))))))))) := by kernel_rfl
theorem h4m:H9 B g9x:=by
 refine P9 h4n fun vals bs c x y hp hf=>?_
 unfold f5v at hp hf
 simp only[] at hp hf
 split at hf
 case h_2=>cases hf
 rename_i s i
 simp only[Option.some.injEq,Prod.mk.injEq] at hf
 obtain ⟨rfl,rfl,rfl⟩:=hf
 obtain ⟨h0,h1,h2⟩:=hp
 refine F6 B9 a9z h4n (fn:=Tryz.f261) (cd:=A7 Tryz.f261) (sp:=B8) (hn:=h6n) (k:=1) (ads:=[]) (ends:=h6y) Tryz.func261 (by kernel_rfl) (by kernel_rfl) (by kernel_rfl) (by kernel_rfl) A8 rfl (by cases V6 s i<;>rfl) (keep (i3g s i _) ?_)
 rw[e2i h0 h1 h2]
 refine ⟨⟨h0,h1,h2⟩, ?_⟩
 refine A5 (fun g1=>?_) (fun g1=>?_)
 ·have e:V6 s i=false:=by simp[V6,g1]
  have e2:a4s s i=i:=by simp[a4s,g1]
  rw[e,e2];exact ⟨rfl,rfl⟩
 have ea:a4s s i=i+1:=by simp[a4s,g1]
 refine A5 (fun g2=>?_) (fun g2=>?_)
 ·have hc:A9 s i.toNat=110:=by simpa using g2
  have e:V6 s i=true:=by simp[V6,g1,a5x,hc]
  rw[e,hc];exact ⟨trivial,rfl,rfl⟩
 refine A5 (fun g3=>?_) (fun g3=>?_)
 ·have hc:A9 s i.toNat=116:=by simpa using g3
  have e:V6 s i=true:=by simp[V6,g1,a5x,hc]
  rw[e,hc];exact ⟨trivial,rfl,rfl⟩
 refine A5 (fun g4=>?_) (fun g4=>?_)
 ·have hc:A9 s i.toNat=100:=by simpa using g4
  have e:V6 s i=true:=by simp[V6,g1,a5x,hc]
  rw[e,hc];exact ⟨trivial,rfl,rfl⟩
 refine A5 (fun g5=>?_) (fun g5=>?_)
 ·have hc:A9 s i.toNat=119:=by simpa using g5
  have e:V6 s i=true:=by simp[V6,g1,a5x,hc]
  rw[e,hc];exact ⟨trivial,rfl,rfl⟩
 refine ⟨trivial,fun _=>trivial, ?_⟩
 refine A5 (fun g6=>?_) (fun g6=>?_)
 ·have e:V6 s i=false:=by
   simp only[V6,a5x,g1,g2,g3,g4,g5]
   revert g6
   cases V3 (A9 s i.toNat)<;>cases p8 (A9 s i.toNat)<;>simp
  rw[e,ea];exact ⟨rfl,rfl⟩
 ·have e:V6 s i=true:=by
   simp only[V6,a5x,g1,g2,g3,g4,g5]
   revert g6
   cases V3 (A9 s i.toNat)<;>cases p8 (A9 s i.toNat)<;>simp
  have e2:r7 (A9 s i.toNat)=true:=by simp only[r7,g4,g5];rfl
  have e3:a3q (A9 s i.toNat)=A9 s i.toNat:=by simp only[a3q,g2,g3,g4,g5];rfl
  rw[e,e2,e3];exact ⟨trivial,rfl,rfl⟩
theorem e5t:H9 B f4t:=by
 refine P9 h4m fun vals bs c x y hp hf=>?_
 unfold f5u at hp hf
 simp only[] at hp hf
 split at hf
 case h_2=>cases hf
 rename_i s i
 simp only[Option.some.injEq,Prod.mk.injEq] at hf
 obtain ⟨rfl,rfl,rfl⟩:=hf
 obtain ⟨h0,h1,h2⟩:=hp
 refine F6 B9 a9z h4m (fn:=Tryz.f266) (cd:=A7 Tryz.f266) (sp:=B8) (hn:=B1) (k:=1) (ads:=[]) (ends:=e00) Tryz.func266 (by kernel_rfl) (by kernel_rfl) (by kernel_rfl) a8m A8 rfl (by cases N7 s i<;>rfl) (keep (i3e s i _) ?_)
 rw[e2i h0 h1 h2]
 refine ⟨⟨h0,h1,h2⟩, ?_⟩
 refine A5 (fun g1=>?_) (fun g1=>?_)
 ·have e:N7 s i=false:=by simp[N7,g1]
  have e2:f6 s i=i:=by simp[f6,g1]
  rw[e,e2];exact ⟨rfl,rfl⟩
 have hne:i≠s.size:=by simpa using g1
 refine A5 (fun g2=>?_) (fun g2=>?_)
 ·have e:N7 s i=false:=by simp only[N7,g1,cond_false] at g2 ⊢;rw[g2];rfl
  have e2:f6 s i=i:=by simp only[cond_false] at g2;simp only[f6,g1,g2,cond_false,cond_true]
  rw[e,e2];exact ⟨rfl,rfl⟩
 simp only[cond_false] at g2
 refine A5 (fun g3=>?_) (fun g3=>?_)
 ·have e:N7 s i=true:=by simp only[N7,g1,g2,g3];rfl
  rw[e];simp only[p7,G3,g3];exact ⟨rfl,rfl⟩
 refine ⟨⟨by omega,by omega,h2⟩, ?_⟩
 refine A5 (fun g4=>?_) (fun g4=>?_)
 ·refine A5 (fun g5=>?_) (fun g5=>?_)
  ·simp only[cond_false] at g5
   have g5:r7 (A9 s (i+1).toNat)=false:=by simpa using g5
   have e:N7 s i=false:=by simp only[N7,g1,g2,g3,g4,g5];rfl
   have e2:f6 s i=i+1+1:=by simp only[f6,g1,g2,g4,cond_false,cond_true]
   rw[e,e2];exact ⟨rfl,rfl⟩
  ·simp only[cond_false] at g5
   have g5:r7 (A9 s (i+1).toNat)=true:=by simpa using g5
   have e:N7 s i=true:=by simp only[N7,g1,g2,g3,g4,g5];rfl
   rw[e];simp only[p7,G3,g3];exact ⟨rfl,rfl⟩
 ·have e:N7 s i=false:=by simp only[N7,g1,g2,g3,g4];rfl
  have e2:f6 s i=a4s s (i+1):=by simp only[f6,g1,g2,g4,cond_false]
  rw[e,e2]
  exact ⟨fun h=>(by cases h),fun h=>(by cases h),fun h=>(by cases h),fun h=>(by cases h),rfl,rfl,rfl⟩
abbrev nm3:List (B2×B2):=[([0,0],[0,0]),([5000],[5000]),([5001],[5001])]
noncomputable def b3u:Code:=D7 (C5 (A7 Tryz.f258) 8)
noncomputable def e3c (c:Code) (a:Nat):Code:=match (K3 true c).find? (fun p=>p.1==a) with|some p=>p.2.2|none=>.skip
noncomputable def e3o:Code:=D7 (e3c b3u 32)
abbrev bx3 (s:ByteArray) (i:Int) (b:Bool):List Box:=[psB s i, .bools 289 256, .cells 4 [A6 b]]
abbrev pt3:List V:=[.ptr [0,0] 0, .ptr [5001] 0, .ptr [5000] 0]
theorem g5j (s:ByteArray) (i:Int) (l:Int) (c:Int) (b:Bool) (R:X→List V→List Box→Prop):(E1 (Cn U6) U6 (H7 f4t) 1 B8 B1 e3o 60 [0,4,5,9,10] [[0,0], [5000], [5001]] [] nm3 [0,4,5] nm3
 [V.ptr [0,0] 0,V.ptr [5001] 0,V.ptr [5000] 0,V.d (D.lit (Value.int IntKind.u8 l)),A3 c] (bx3 s i b) R) =
 (bif decide (c≤IntKind.i64.wrap l) then
 ((((0:Int)≤c)∧c.toNat<256)∧
 (0+c.toNat*1<256∧
 (60=60∧
 R X.normal
 [V.ptr [0,0] 0,V.ptr [5001] 0,V.ptr [5000] 0,V.d (D.lit (Value.int IntKind.u8 l)),
 A3 (IntKind.i64.wrap (c+1))]
 [Box.cells 213 [C6 s,A3 i],Box.bools 289 256,
 Box.cells 4 [A6 b]]))) else
 (60=60∧
 R (X.exit 2) [V.ptr [0,0] 0,V.ptr [5001] 0,V.ptr [5000] 0]
 [Box.cells 213 [C6 s,A3 i],Box.bools 289 256,
 Box.cells 4 [A6 b]])):=by kernel_rfl
def e4y:Ev.Spec:={L:=[0,4,5,9,10],ns:=nm3,L':=[0,4,5],nm':=[[0,0],[5000],[5001]],G:=fun N vals bs k=>match vals,bs with
 | [.ptr [0,0] 0, .ptr [5001] 0, .ptr [5000] 0, .d (.lit (.int .u8 l)), .d (.lit (.int .i64 c))], [.cells 213 [.d (.lit (.string s)), .d (.lit (.int .i64 i))], .bools 289 256, .cells 4 [.d (.lit (.bool b))]]=>(N=60∧0≤c∧c<256∧0≤l∧l<256)∧k (.exit 2) pt3 (bx3 s i b)
 | _,_=>False }
theorem g5i (s:ByteArray) (i:Int) (b:Bool) (e:Bool) (R:X→List V→List Box→Prop):(E1 (Cn U6) U6 (H7 f4t) 1 (spL [(32,e4y)]) B1 b3u 60 [0,4,5,6] [[0,0], [5000], [5001]] [] nm3
 [2,3,4,5] nm3 [V.ptr [0,0] 0,V.ptr [5001] 0,V.ptr [5000] 0,A6 e] (bx3 s i b) R) =
 (bif !e then
 (f5u.pre [V.ptr [0,0] 0] [Box.cells 213 [C6 s,A3 i]]∧
 (bif N7 s i then
 (g6o.pre [V.ptr [0,0] 0]
 [Box.cells 213 [C6 s,A3 (G3 s i)]]∧
 (bif a4i s (G3 s i) then
 (f5u.pre [V.ptr [0,0] 0]
 [Box.cells 213
 [C6 s,A3 (IntKind.i64.wrap (G3 s i+1))]]∧
 (bif N7 s (IntKind.i64.wrap (G3 s i+1)) then
 (bif bif false then true else decide (p7 s (IntKind.i64.wrap (G3 s i+1))<p7 s i) then
 (60=60∧
 R X.ret [V.d (D.lit (Value.pointer none)),A6 false,V.ptr [5001] 0,V.ptr [5000] 0]
 [Box.cells 213
 [C6 s,
 A3 (G3 s (IntKind.i64.wrap (G3 s i+1)))],
 Box.bools 289 256,Box.cells 4 [A6 b]]) else
 ((60=60∧(((0:Int)≤IntKind.i64.wrap (p7 s i))∧(((IntKind.i64.wrap (p7 s i):Int)<256)∧(((0:Int)≤p7 s (IntKind.i64.wrap (G3 s i+1)))∧((p7 s (IntKind.i64.wrap (G3 s i+1)):Int)<256)))))∧
 (c2r.pre [V.ptr [0,0] 0,V.d (D.lit (Value.int IntKind.u8 93))]
 [Box.cells 213
 [C6 s,
 A3 (G3 s (IntKind.i64.wrap (G3 s i+1)))]]∧
 (bif L5 s (G3 s (IntKind.i64.wrap (G3 s i+1))) 93 then
 (60=60∧
 R X.normal [V.ptr [0,0] 0,V.ptr [5001] 0,V.ptr [5000] 0,A6 true]
 [Box.cells 213
 [C6 s,
 A3 (G3 s (IntKind.i64.wrap (G3 s i+1))+1)],
 Box.bools 289 256,Box.cells 4 [A6 b]]) else
 (60=60∧
 R X.normal [V.ptr [0,0] 0,V.ptr [5001] 0,V.ptr [5000] 0,A6 false]
 [Box.cells 213
 [C6 s,
 A3 (G3 s (IntKind.i64.wrap (G3 s i+1)))],
 Box.bools 289 256,Box.cells 4 [A6 b]]))))) else
 (60=60∧
 R X.ret [V.d (D.lit (Value.pointer none)),A6 false,V.ptr [5001] 0,V.ptr [5000] 0]
 [Box.cells 213
 [C6 s,
 A3 (f6 s (IntKind.i64.wrap (G3 s i+1)))],
 Box.bools 289 256,Box.cells 4 [A6 b]]))) else
 ((60=60∧(((0:Int)≤IntKind.i64.wrap (p7 s i))∧(((IntKind.i64.wrap (p7 s i):Int)<256)∧(((0:Int)≤p7 s i)∧((p7 s i:Int)<256)))))∧
 (c2r.pre [V.ptr [0,0] 0,V.d (D.lit (Value.int IntKind.u8 93))]
 [Box.cells 213 [C6 s,A3 (G3 s i)]]∧
 (bif L5 s (G3 s i) 93 then
 (60=60∧
 R X.normal [V.ptr [0,0] 0,V.ptr [5001] 0,V.ptr [5000] 0,A6 true]
 [Box.cells 213 [C6 s,A3 (G3 s i+1)],
 Box.bools 289 256,Box.cells 4 [A6 b]]) else
 (60=60∧
 R X.normal [V.ptr [0,0] 0,V.ptr [5001] 0,V.ptr [5000] 0,A6 false]
 [Box.cells 213 [C6 s,A3 (G3 s i)],Box.bools 289 256,
 Box.cells 4 [A6 b]])))))) else
 (60=60∧
 R X.ret [V.d (D.lit (Value.pointer none)),A6 false,V.ptr [5001] 0,V.ptr [5000] 0]
 [Box.cells 213 [C6 s,A3 (f6 s i)],Box.bools 289 256,
 Box.cells 4 [A6 b]]))) else
 (60=60∧
 R (X.exit 0) [V.any,V.any,V.ptr [5001] 0,V.ptr [5000] 0]
 [Box.cells 213 [C6 s,A3 i],Box.bools 289 256,
 Box.cells 4 [A6 b]])):=by kernel_rfl
def M5 (s : ByteArray) (i : Int) : Bool × Int :=
 bif N7 s i then
  (bif a4i s (G3 s i) then
   (bif N7 s (G3 s i + 1) then (!decide (p7 s (G3 s i + 1) < p7 s i), G3 s (G3 s i + 1)) else (false, f6 s (G3 s i + 1)))
  else (true, G3 s i))
 else (false, f6 s i)
def brR (s:ByteArray):Nat→Int→Bool×Int
 | 0,i=>(false,i)
 | n+1,i=>bif (M5 s i).1 then (bif L5 s (M5 s i).2 93 then (true,(M5 s i).2+1) else brR s n (M5 s i).2) else (false,(M5 s i).2)
def brS (s:ByteArray) (i:Int):Bool×Int:=brR s 201 (bif L5 s i 94 then i+1 else i)
def e4x:Ev.Spec:={L:=[0,4,5,6],ns:=[([0,0],[0,0]),([5000],[7]),([5001],[6])],ads:=[.bools [7]],L':=[2,3,4,5],nm':=[[0,0],[5000],[5001]],G:=fun N vals bs k=>match vals,bs with
 | [.ptr [0,0] 0, .ptr [5001] 0, .ptr [5000] 0, .d (.lit (.bool false))], [.cells 213 [.d (.lit (.string s)), .d (.lit (.int .i64 i))], .bools 289 256, .cells 4 [.d (.lit (.bool b))]]=>(N=60∧0≤i∧i≤s.size∧s.size≤200)∧
  (bif (brR s 201 i).1 then k (.exit 0) [.any, .any, .ptr [5001] 0, .ptr [5000] 0] (bx3 s (brR s 201 i).2 b) else k .ret [.d (.lit (.pointer none)),A6 false, .ptr [5001] 0, .ptr [5000] 0] (bx3 s (brR s 201 i).2 b))
 | _,_=>False }
def g6p:Sm:=⟨fun _ bs=>d8c bs,fun vals bs=>match vals,bs with
 | [.ptr [0,0] 0], [.cells 213 [.d (.lit (.string s)), .d (.lit (.int .i64 i))]]=>one (.d (.tup [.any, .lit (.bool (brS s i).1)])) [psB s (brS s i).2] []
 | _,_=>none⟩
def g9z:L4:=f4t.add 258 g6p
theorem i3j (s:ByteArray) (i:Int) (R:V→List Box→Prop):(F3 (Cn U6) U6 (H7 f4t) 1 (spL [(8,e4x)]) B1 [Ad.flat 2] e00 258 [V.ptr [0,0] 0] (H6 [psB s i]) R) =
 (c2r.pre [V.ptr [0,0] 0,V.d (D.lit (Value.int IntKind.u8 94))]
 [Box.cells 213 [C6 s,A3 i]]∧
 (bif L5 s i 94 then
 ((60=60∧(((0:Int)≤i+1)∧(((i+1:Int)≤(↑s.size:Int))∧s.size≤200)))∧
 (bif (brR s 201 (i+1)).fst then
 (d7z.pre [V.fn (Fn.func 268) [] [V.ptr [0,0] 0,V.ptr [0,1] 0]]
 [Box.bools 289 256,Box.cells 4 [A6 true]]∧
 R (V.d (D.tup [D.any,oD true]))
 [Box.cells 213 [C6 s,A3 ((brR s 201 (i+1)).snd)]]) else
 R (V.d (D.tup [D.any,oD false]))
 [Box.cells 213 [C6 s,A3 ((brR s 201 (i+1)).snd)]])) else
 ((60=60∧(((0:Int)≤i)∧(((i:Int)≤(↑s.size:Int))∧s.size≤200)))∧
 (bif (brR s 201 i).fst then
 (d7z.pre [V.fn (Fn.func 268) [] [V.ptr [0,0] 0,V.ptr [0,1] 0]]
 [Box.bools 289 256,Box.cells 4 [A6 false]]∧
 R (V.d (D.tup [D.any,oD true]))
 [Box.cells 213 [C6 s,A3 ((brR s 201 i).snd)]]) else
 R (V.d (D.tup [D.any,oD false]))
 [Box.cells 213 [C6 s,A3 ((brR s 201 i).snd)]])))):=by kernel_rfl
theorem n7 (s:ByteArray) (k:Nat):0≤A9 s k∧A9 s k<256:=by
 unfold A9
 have:=(s.data.toList.getD k 0).toNat_lt
 omega
theorem d9g {c:Int} (h:0≤c∧c<256):0≤a3q c∧a3q c<256:=by
 unfold a3q
 cases (c==110)<;>cases (c==116)<;>cases (c==100||c==119)<;>simp<;>omega
theorem d5a (s:ByteArray) (i:Int):0≤p7 s i∧p7 s i<256:=by
 unfold p7
 cases (A9 s i.toNat !=92) with
 | true=>exact n7 _ _
 | false=>exact d9g (n7 _ _)
theorem b7o {s:ByteArray} {i:Int} (h:V6 s i=true):i≠s.size:=by
 unfold V6 at h
 simp at h;exact h.1
theorem b7p {s:ByteArray} {i:Int} (h0:0≤i) (h1:i≤s.size):0≤a4s s i∧a4s s i≤s.size:=by
 unfold a4s
 cases h:(i==(s.size:Int)) with
 | true=>simp;omega
 | false =>
  have:i≠s.size:=by simpa using h
  simp;omega
theorem a5t {s:ByteArray} {i:Int} (h:N7 s i=true) (h0:0≤i) (h1:i≤s.size):i<G3 s i∧G3 s i≤s.size:=by
 unfold N7 at h
 simp only[Bool.and_eq_true,Bool.not_eq_true'] at h
 have hne:i≠s.size:=by simpa using h.1
 unfold G3
 cases hb:(A9 s i.toNat !=92) with
 | true=>simp;omega
 | false =>
  rw[hb] at h
  simp only[Bool.false_or,Bool.and_eq_true] at h
  have:=b7o h.2.2.1
  simp;omega
theorem c3v {s:ByteArray} {i:Int} (h0:0≤i) (h1:i≤s.size):0≤f6 s i∧f6 s i≤s.size:=by
 unfold f6
 cases h:(i==(s.size:Int)) with
 | true=>simp;omega
 | false =>
  have hne:i≠s.size:=by simpa using h
  cases (A9 s i.toNat==93) with
  | true=>simp;omega
  | false =>
   cases h2:V6 s (i+1) with
   | true=>have:=b7o h2;simp;omega
   | false=>simpa using b7p (by omega:0≤i+1) (by omega)
theorem b4a {s:ByteArray} {i:Int} (h:a4i s i=true):i+1<s.size:=by
 unfold a4i at h
 simp only[Bool.and_eq_true,decide_eq_true_eq] at h
 exact h.1
theorem Z8 {s:ByteArray} {i c:Int} (h:L5 s i c=true) (h1:i≤s.size):i+1≤s.size:=by
 unfold L5 at h
 simp only[Bool.and_eq_true,Bool.not_eq_true'] at h
 have hne:i≠s.size:=by simpa using h.1
 omega
theorem b4r {s:ByteArray} {i:Int} (h0:0≤i) (h1:i≤s.size):0≤(M5 s i).2∧(M5 s i).2≤s.size∧((M5 s i).1=true→i<(M5 s i).2):=by
 unfold M5
 cases h:N7 s i with
 | false=>have:=c3v h0 h1;simp;omega
 | true =>
  have p1:=a5t h h0 h1
  simp only[cond_true]
  cases h2:a4i s (G3 s i) with
  | false=>simp;omega
  | true =>
   have p2:=b4a h2
   simp only[cond_true]
   cases h3:N7 s (G3 s i+1) with
   | false=>have:=c3v (s:=s) (i:=G3 s i+1) (by omega) (by omega);simp;omega
   | true=>have:=a5t h3 (by omega) (by omega);simp;omega
theorem c7c {s:ByteArray} {i:Int} (h0:0≤i) (h1:i≤s.size):i≤f6 s i:=by
 unfold f6 a4s
 cases (i==(s.size:Int))<;>cases (A9 s i.toNat==93)<;>cases V6 s (i+1)<;>cases (i+1==(s.size:Int))<;>simp<;>omega
theorem e8b {s:ByteArray} {i:Int} (h0:0≤i) (h1:i≤s.size):i≤(M5 s i).2:=by
 unfold M5
 cases h:N7 s i with
 | false=>simpa using c7c h0 h1
 | true =>
  have p1:=a5t h h0 h1
  simp only[cond_true]
  cases h2:a4i s (G3 s i) with
  | false=>simp;omega
  | true =>
   have p2:=b4a h2
   simp only[cond_true]
   cases h3:N7 s (G3 s i+1) with
   | false=>have:=c7c (s:=s) (i:=G3 s i+1) (by omega) (by omega);simp;omega
   | true=>have:=a5t h3 (by omega) (by omega);simp;omega
theorem b9r {s:ByteArray}:∀{n:Nat} {i:Int},0≤i→i≤s.size→0≤(brR s n i).2∧(brR s n i).2≤s.size
 | 0,i,h0,h1=>⟨h0,h1⟩
 | n+1,i,h0,h1=>by
  have p:=b4r h0 h1
  unfold brR
  cases h:(M5 s i).1 with
  | false=>simp;omega
  | true =>
   simp only[cond_true]
   cases h2:L5 s (M5 s i).2 93 with
   | true=>have:=Z8 h2 p.2.1;simp;omega
   | false=>simpa using b9r p.1 p.2.1
theorem d9q {s:ByteArray} {a:Int}:∀{n:Nat} {i:Int},0≤i→i≤s.size→a≤i→a≤(brR s n i).2∧(brR s n i).2≤s.size
 | 0,i,h0,h1,h2=>⟨h2,h1⟩
 | n+1,i,h0,h1,h2=>by
  have p:=b4r h0 h1
  have p2:=e8b h0 h1
  unfold brR
  cases h:(M5 s i).1 with
  | false=>simp;omega
  | true =>
   simp only[cond_true]
   cases h3:L5 s (M5 s i).2 93 with
   | true=>have:=Z8 h3 p.2.1;simp;omega
   | false=>simpa using d9q p.1 p.2.1 (by omega)
theorem a3f {i:Int} (h0:0≤i) (h1:i≤1000):IntKind.i64.wrap i=i:=by rw[Go.IntWalk.i64_in _ (by omega)]
theorem g7c:OkS (Cn U6) 1 (.loop e3o) e4y:=by
 refine D0 fun N vals bs K h=>?_
 simp only[e4y] at h
 split at h
 case h_2=>exact h.elim
 rename_i l c s i b
 obtain ⟨⟨rfl,h0,h1,h2,h3⟩,h⟩:=h
 have key:∀(n:Nat) (c:Int),0≤c→c≤256→l+1-c≤n→J2 (Cn U6) 1 e3o 60 [0,4,5,9,10] [[0,0],[5000],[5001]] [0,4,5] [[0,0],[5000],[5001]] [.ptr [0,0] 0, .ptr [5001] 0, .ptr [5000] 0, .d (.lit (.int .u8 l)),A3 c] (bx3 s i b) K:=by
  intro n
  induction n with
  | zero =>
   intro c c0 c1 cn
   refine B5 (L8 B9 a9z e5t) C0 A8 (hn:=B1) (adsI:=[]) (nsI:=nm3) (nsX:=nm3) rfl rfl (keep (g5j s i l c b _) ?_)
   rw[a3f h2 (by omega)]
   have e:decide (c≤l)=false:=by simp;omega
   rw[e];exact ⟨rfl,h⟩
  | succ n ih =>
   intro c c0 c1 cn
   refine B5 (L8 B9 a9z e5t) C0 A8 (hn:=B1) (adsI:=[]) (nsI:=nm3) (nsX:=nm3) rfl rfl (keep (g5j s i l c b _) ?_)
   rw[a3f h2 (by omega),a3f (i:=c+1) (by omega) (by omega)]
   refine A5 (fun g=>?_) (fun g=>⟨rfl,h⟩)
   have g:=of_decide_eq_true g
   exact ⟨⟨c0,by omega⟩,by omega,rfl,ih (c+1) (by omega) (by omega) (by omega)⟩
 exact key (l+1-c).toNat c h0 (by omega) (by omega)
theorem e5u:((K3 true b3u).filter fun p=>p.1==32).map (fun p=>p.2.2)= [.loop e3o]:=by kernel_rfl
theorem g6z : OkS (Cn U6) 1 (.loop b3u) e4x := by
  refine D0 fun N vals bs K h => ?_
  simp only [e4x] at h
  split at h
  case h_2 => exact h.elim
  rename_i s i b
  obtain ⟨⟨rfl, h0, h1, h2⟩, h⟩ := h
  have sp : s6 (Cn U6) 1 (spL [(32, e4y)]) (K3 true b3u) := B7 e5u g7c C8
  have fin : ∀ (j : Int), K (.exit 0) [.any, .any, .ptr [5001] 0, .ptr [5000] 0] (bx3 s j b) → J2 (Cn U6) 1 b3u 60 [0,4,5,6] [[0,0],[5000],[5001]] [2,3,4,5] [[0,0],[5000],[5001]] [.ptr [0,0] 0, .ptr [5001] 0, .ptr [5000] 0, A6 true] (bx3 s j b) K := by
    intro j hj
    refine B5 (L8 B9 a9z e5t) C0 sp (hn := B1) (adsI := []) (nsI := nm3) (nsX := nm3) rfl rfl (keep (g5i s j b true _) ?_)
    exact ⟨rfl, hj⟩
  have key : ∀ (n : Nat) (i : Int), 0 ≤ i → i ≤ s.size → s.size - i < n →
      (bif (brR s n i).1 then K (.exit 0) [.any, .any, .ptr [5001] 0, .ptr [5000] 0] (bx3 s (brR s n i).2 b) else K .ret [.d (.lit (.pointer none)), A6 false, .ptr [5001] 0, .ptr [5000] 0] (bx3 s (brR s n i).2 b)) →
      J2 (Cn U6) 1 b3u 60 [0,4,5,6] [[0,0],[5000],[5001]] [2,3,4,5] [[0,0],[5000],[5001]] [.ptr [0,0] 0, .ptr [5001] 0, .ptr [5000] 0, A6 false] (bx3 s i b) K := by
    intro n
    induction n with
    | zero => intro i a0 a1 a2; omega
    | succ n ih =>
      intro i a0 a1 a2 hk
      have p := b4r a0 a1
      unfold brR at hk
      refine B5 (L8 B9 a9z e5t) C0 sp (hn := B1) (adsI := []) (nsI := nm3) (nsX := nm3) rfl rfl (keep (g5i s i b false _) ?_)
      have hc := d5a s i
      -- what comes behind an item or a range
      have next : ∀ j : Int, M5 s i = (true, j) → (c2r.pre [V.ptr [0, 0] 0, V.d (D.lit (Value.int IntKind.u8 93))] [psB s j] ∧
          (bif L5 s j 93 then (60 = 60 ∧ J2 (Cn U6) 1 b3u 60 [0,4,5,6] [[0,0],[5000],[5001]] [2,3,4,5] [[0,0],[5000],[5001]] [.ptr [0,0] 0, .ptr [5001] 0, .ptr [5000] 0, A6 true] (bx3 s (j + 1) b) K)
           else (60 = 60 ∧ J2 (Cn U6) 1 b3u 60 [0,4,5,6] [[0,0],[5000],[5001]] [2,3,4,5] [[0,0],[5000],[5001]] [.ptr [0,0] 0, .ptr [5001] 0, .ptr [5000] 0, A6 false] (bx3 s j b) K))) := by
        intro j hj
        rw [hj] at hk p
        simp only [cond_true] at hk
        refine ⟨⟨p.1, p.2.1, h2⟩, A5 (fun g => ⟨rfl, fin _ ?_⟩) (fun g => ⟨rfl, ih j p.1 p.2.1 (by have := p.2.2 rfl; simp only [] at this; omega) ?_⟩)⟩
        · rw [g] at hk; exact hk
        · rw [g] at hk; exact hk
      have fail : ∀ j : Int, M5 s i = (false, j) → K .ret [.d (.lit (.pointer none)), A6 false, .ptr [5001] 0, .ptr [5000] 0] (bx3 s j b) := by
        intro j hj
        rw [hj] at hk
        exact hk
      refine ⟨⟨a0, a1, h2⟩, A5 (fun g1 => ?_) (fun g1 => ⟨rfl, fail _ (by simp only [M5, g1, cond_false])⟩)⟩
      have p1 := a5t g1 a0 a1
      refine ⟨⟨by omega, p1.2, h2⟩, A5 (fun g2 => ?_) (fun g2 => ?_)⟩
      · have p2 := b4a g2
        rw [a3f (i := G3 s i + 1) (by omega) (by omega)]
        have hc2 := d5a s (G3 s i + 1)
        refine ⟨⟨by omega, by omega, h2⟩, A5 (fun g3 => ?_) (fun g3 => ⟨rfl, fail _ (by simp only [M5, g1, g2, g3, cond_true, cond_false])⟩)⟩
        refine A5 (fun g4 => ⟨rfl, fail _ (by simp only [cond_false] at g4; simp only [M5, g1, g2, g3, g4, cond_true, Bool.not_true])⟩) (fun g4 => ?_)
        rw [a3f hc.1 (by omega)]
        exact ⟨⟨rfl, hc.1, hc.2, hc2.1, hc2.2⟩, next _ (by simp only [cond_false] at g4; simp only [M5, g1, g2, g3, g4, cond_true, Bool.not_false])⟩
      · rw [a3f hc.1 (by omega)]
        exact ⟨⟨rfl, hc.1, hc.2, hc.1, hc.2⟩, next _ (by simp only [M5, g1, g2, cond_true, cond_false])⟩
  exact key 201 i h0 h1 (by omega) h
theorem i6n:H9 B g9z:=by
 refine P9 e5t fun vals bs c x y hp hf=>?_
 unfold g6p at hp hf
 simp only[] at hp hf
 split at hf
 case h_2=>cases hf
 rename_i s i
 simp only[one,Option.some.injEq,Prod.mk.injEq] at hf
 obtain ⟨rfl,rfl,rfl⟩:=hf
 obtain ⟨h0,h1,h2⟩:=hp
 refine F6 B9 a9z e5t (fn:=Tryz.f258) (cd:=A7 Tryz.f258) (sp:=spL [(8,e4x)]) (hn:=B1) (k:=1) (ads:=[.flat 2]) (ends:=e00) Tryz.func258 (by kernel_rfl) (by kernel_rfl) (by kernel_rfl) a8m (B7 (c:=.loop b3u) (by kernel_rfl) g6z C8) rfl rfl (keep (i3j s i _) ?_)
 refine ⟨⟨h0,h1,h2⟩,A5 (fun g=>?_) (fun g=>?_)⟩
 ·have e:brS s i=brR s 201 (i+1):=by simp only[brS,g,cond_true]
  rw[e]
  refine ⟨⟨rfl,by omega,Z8 g h1,h2⟩,A5 (fun g2=>⟨trivial, ?_,rfl⟩) (fun g2=>⟨?_,rfl⟩)⟩
  ·rw[g2];rfl
  ·rw[g2];rfl
 ·have e:brS s i=brR s 201 i:=by simp only[brS,g,cond_false]
  rw[e]
  refine ⟨⟨rfl,h0,h1,h2⟩,A5 (fun g2=>⟨trivial, ?_,rfl⟩) (fun g2=>⟨?_,rfl⟩)⟩
  ·rw[g2];rfl
  ·rw[g2];rfl
end Go.Ev.R2
end
section
namespace Go.Proofs
open Go.Shelf
def Tryz.lays137_ren:Go.Shelf.Ren:=⟨fun | 137=>262 | 217=>220 | 266=>241|n=>n,fun | 9=>9 | 5=>5 | 3=>3|n=>n,fun|n=>n⟩
theorem Tryz.lays137:Go.Proofs.Lays.n137 Tryz.prog Tryz.lays137_ren:={
 mixed:=by kernel_rfl
 f137:=Tryz.func262.trans (congrArg some (by kernel_rfl))
 f217:=Tryz.func220.trans (congrArg some (by kernel_rfl))
 f266:=Tryz.func241.trans (congrArg some (by kernel_rfl))
 t3:=Tryz.underlying3
 a3:=Tryz.isAgg3
 z3:=Tryz.sizeOf3
 v3:=Tryz.zeroValue3
 t5:=Tryz.underlying5
 a5:=Tryz.isAgg5
 z5:=Tryz.sizeOf5
 v5:=Tryz.zeroValue5
 t9:=Tryz.underlying9
 a9:=Tryz.isAgg9
 z9:=Tryz.sizeOf9
 v9:=Tryz.zeroValue9 }
open Go.RowKit in
theorem Tryz.strings_IndexByte (s:ByteArray) (c:Int) (w:World) :
 Calls Tryz.prog 262 #[.string s, .int .u8 c] w fun e w'=>e= .returned (.int .i64 (Lib.indexByte s.data.toList c.toNat.toUInt8))∧w'=w:=Any.strings_IndexByte Tryz.lays137 s c w
def Tryz.laysM171_ren:Go.Shelf.Ren:=⟨fun | 171=>155 | 243=>198 | 246=>219 | 283=>237 | 284=>238 | 285=>239 | 286=>240 | 129=>252 | 317=>251 | 318=>253 | 319=>254 | 320=>255 | 337=>264 | 338=>265|n=>n,fun | 3=>3 | 9=>9 | 2=>2 | 4=>4 | 171=>262 | 0=>0 | 53=>218 | 37=>71 | 5=>5 | 173=>265 | 212=>278 | 51=>204 | 20=>20 | 213=>279 | 46=>245 | 232=>290 | 233=>291|n=>n,fun | 17=>5 | 18=>6 | 19=>7|n=>n⟩
theorem Tryz.laysM171:Go.Proofs.LaysM.n171 Tryz.prog Tryz.laysM171_ren:={
 mixed:=by kernel_rfl
 f129:=Tryz.func252.trans (congrArg some (by kernel_rfl))
 f171:=Tryz.func155.trans (congrArg some (by kernel_rfl))
 f243:=Tryz.func198.trans (congrArg some (by kernel_rfl))
 f246:=Tryz.func219.trans (congrArg some (by kernel_rfl))
 f283:=Tryz.func237.trans (congrArg some (by kernel_rfl))
 f284:=Tryz.func238.trans (congrArg some (by kernel_rfl))
 f285:=Tryz.func239.trans (congrArg some (by kernel_rfl))
 f286:=Tryz.func240.trans (congrArg some (by kernel_rfl))
 f317:=Tryz.func251.trans (congrArg some (by kernel_rfl))
 f318:=Tryz.func253.trans (congrArg some (by kernel_rfl))
 f319:=Tryz.func254.trans (congrArg some (by kernel_rfl))
 f320:=Tryz.func255.trans (congrArg some (by kernel_rfl))
 f337:=Tryz.func264.trans (congrArg some (by kernel_rfl))
 f338:=Tryz.func265.trans (congrArg some (by kernel_rfl))
 t0:=Tryz.underlying0
 a0:=Tryz.isAgg0
 z0:=Tryz.sizeOf0
 v0:=Tryz.zeroValue0
 t2:=Tryz.underlying2
 a2:=Tryz.isAgg2
 z2:=Tryz.sizeOf2
 v2:=Tryz.zeroValue2
 t3:=Tryz.underlying3
 a3:=Tryz.isAgg3
 z3:=Tryz.sizeOf3
 v3:=Tryz.zeroValue3
 t4:=Tryz.underlying4
 a4:=Tryz.isAgg4
 z4:=Tryz.sizeOf4
 v4:=Tryz.zeroValue4
 t5:=Tryz.underlying5
 a5:=Tryz.isAgg5
 z5:=Tryz.sizeOf5
 v5:=Tryz.zeroValue5
 t9:=Tryz.underlying9
 a9:=Tryz.isAgg9
 z9:=Tryz.sizeOf9
 v9:=Tryz.zeroValue9
 t20:=Tryz.underlying20
 a20:=Tryz.isAgg20
 z20:=Tryz.sizeOf20
 v20:=Tryz.zeroValue20
 t37:=Tryz.underlying71
 a37:=Tryz.isAgg71
 z37:=Tryz.sizeOf71
 v37:=Tryz.zeroValue71
 t46:=Tryz.underlying245
 a46:=Tryz.isAgg245
 z46:=Tryz.sizeOf245
 v46:=Tryz.zeroValue245
 t51:=Tryz.underlying204
 a51:=Tryz.isAgg204
 z51:=Tryz.sizeOf204
 v51:=Tryz.zeroValue204
 t53:=Tryz.underlying218
 a53:=Tryz.isAgg218
 z53:=Tryz.sizeOf218
 v53:=Tryz.zeroValue218
 t171:=Tryz.underlying262
 a171:=Tryz.isAgg262
 z171:=Tryz.sizeOf262
 v171:=Tryz.zeroValue262
 t173:=Tryz.underlying265
 a173:=Tryz.isAgg265
 z173:=Tryz.sizeOf265
 v173:=Tryz.zeroValue265
 t212:=Tryz.underlying278
 a212:=Tryz.isAgg278
 z212:=Tryz.sizeOf278
 v212:=Tryz.zeroValue278
 t213:=Tryz.underlying279
 a213:=Tryz.isAgg279
 z213:=Tryz.sizeOf279
 t232:=Tryz.underlying290
 a232:=Tryz.isAgg290
 z232:=Tryz.sizeOf290
 v232:=Tryz.zeroValue290
 t233:=Tryz.underlying291
 a233:=Tryz.isAgg291
 z233:=Tryz.sizeOf291
 v233:=Tryz.zeroValue291
 g17:=by kernel_rfl
 g18:=by kernel_rfl
 g19:=by kernel_rfl
 i0:=by kernel_rfl
 i2:=by kernel_rfl
 i3:=by kernel_rfl
 i4:=by kernel_rfl
 i5:=by kernel_rfl
 i9:=by kernel_rfl
 i20:=by kernel_rfl
 i37:=by kernel_rfl
 i46:=by kernel_rfl
 i51:=by kernel_rfl
 i53:=by kernel_rfl
 i171:=by kernel_rfl
 i173:=by kernel_rfl
 i212:=by kernel_rfl
 i232:=by kernel_rfl
 i233:=by kernel_rfl
 m17:=by kernel_rfl
 m18:=by kernel_rfl
 m19:=by kernel_rfl }
open Go.RowKit Go.Sort Go.Lib in
theorem Tryz.strconv_Itoa (n:Int) (h0: -9223372036854775808≤n) (h1:n≤9223372036854775807) (w:World) (htab:Lib.TabIs Tryz.prog w "internal/strconv.uint64pow10" .u64 Lib.pow10Tab) :
 Calls Tryz.prog 155 #[.int .i64 n] w fun e w'=>e= .returned (.string ⟨(Lib.itoa n).toArray⟩)∧∃k os,w'=grow (w.drewN k) os:=Any.strconv_Itoa Tryz.laysM171 n h0 h1 w htab
def Tryz.laysC172_ren:Go.Shelf.Ren:=⟨fun | 172=>183 | 244=>207 | 245=>208 | 247=>225 | 279=>226 | 280=>227 | 281=>228 | 282=>229 | 287=>244 | 316=>245 | 171=>155 | 205=>246 | 321=>256 | 322=>257 | 243=>198 | 246=>219 | 283=>237 | 284=>238 | 285=>239 | 286=>240 | 129=>252 | 317=>251 | 318=>253 | 319=>254 | 320=>255 | 337=>264 | 338=>265|n=>n,fun | 9=>9 | 3=>3 | 75=>180 | 76=>182 | 4=>4 | 5=>5 | 167=>248 | 37=>71 | 0=>0 | 85=>249 | 2=>2 | 168=>251 | 53=>218 | 175=>269 | 46=>245 | 210=>272 | 127=>124 | 145=>285 | 143=>283 | 21=>21 | 171=>262 | 173=>265 | 212=>278 | 51=>204 | 20=>20 | 213=>279 | 232=>290 | 233=>291 | 80=>77|n=>n,fun | 15=>3 | 16=>4 | 17=>5 | 18=>6 | 19=>7|n=>n⟩
theorem Tryz.laysC172:Go.Proofs.LaysC.n172 Tryz.prog Tryz.laysC172_ren:={
 mixed:=by kernel_rfl
 f129:=Tryz.func252.trans (congrArg some (by kernel_rfl))
 f171:=Tryz.func155.trans (congrArg some (by kernel_rfl))
 f172:=Tryz.func183.trans (congrArg some (by kernel_rfl))
 f205:=Tryz.func246.trans (congrArg some (by kernel_rfl))
 f243:=Tryz.func198.trans (congrArg some (by kernel_rfl))
 f244:=Tryz.func207.trans (congrArg some (by kernel_rfl))
 f245:=Tryz.func208.trans (congrArg some (by kernel_rfl))
 f246:=Tryz.func219.trans (congrArg some (by kernel_rfl))
 f247:=Tryz.func225.trans (congrArg some (by kernel_rfl))
 f279:=Tryz.func226.trans (congrArg some (by kernel_rfl))
 f280:=Tryz.func227.trans (congrArg some (by kernel_rfl))
 f281:=Tryz.func228.trans (congrArg some (by kernel_rfl))
 f282:=Tryz.func229.trans (congrArg some (by kernel_rfl))
 f283:=Tryz.func237.trans (congrArg some (by kernel_rfl))
 f284:=Tryz.func238.trans (congrArg some (by kernel_rfl))
 f285:=Tryz.func239.trans (congrArg some (by kernel_rfl))
 f286:=Tryz.func240.trans (congrArg some (by kernel_rfl))
 f287:=Tryz.func244.trans (congrArg some (by kernel_rfl))
 f316:=Tryz.func245.trans (congrArg some (by kernel_rfl))
 f317:=Tryz.func251.trans (congrArg some (by kernel_rfl))
 f318:=Tryz.func253.trans (congrArg some (by kernel_rfl))
 f319:=Tryz.func254.trans (congrArg some (by kernel_rfl))
 f320:=Tryz.func255.trans (congrArg some (by kernel_rfl))
 f321:=Tryz.func256.trans (congrArg some (by kernel_rfl))
 f322:=Tryz.func257.trans (congrArg some (by kernel_rfl))
 f337:=Tryz.func264.trans (congrArg some (by kernel_rfl))
 f338:=Tryz.func265.trans (congrArg some (by kernel_rfl))
 t0:=Tryz.underlying0
 a0:=Tryz.isAgg0
 z0:=Tryz.sizeOf0
 v0:=Tryz.zeroValue0
 t2:=Tryz.underlying2
 a2:=Tryz.isAgg2
 z2:=Tryz.sizeOf2
 v2:=Tryz.zeroValue2
 t3:=Tryz.underlying3
 a3:=Tryz.isAgg3
 z3:=Tryz.sizeOf3
 v3:=Tryz.zeroValue3
 t4:=Tryz.underlying4
 a4:=Tryz.isAgg4
 z4:=Tryz.sizeOf4
 v4:=Tryz.zeroValue4
 t5:=Tryz.underlying5
 a5:=Tryz.isAgg5
 z5:=Tryz.sizeOf5
 v5:=Tryz.zeroValue5
 t9:=Tryz.underlying9
 a9:=Tryz.isAgg9
 z9:=Tryz.sizeOf9
 v9:=Tryz.zeroValue9
 t20:=Tryz.underlying20
 a20:=Tryz.isAgg20
 z20:=Tryz.sizeOf20
 v20:=Tryz.zeroValue20
 t21:=Tryz.underlying21
 a21:=Tryz.isAgg21
 z21:=Tryz.sizeOf21
 v21:=Tryz.zeroValue21
 t37:=Tryz.underlying71
 a37:=Tryz.isAgg71
 z37:=Tryz.sizeOf71
 v37:=Tryz.zeroValue71
 t46:=Tryz.underlying245
 a46:=Tryz.isAgg245
 z46:=Tryz.sizeOf245
 v46:=Tryz.zeroValue245
 t51:=Tryz.underlying204
 a51:=Tryz.isAgg204
 z51:=Tryz.sizeOf204
 v51:=Tryz.zeroValue204
 t53:=Tryz.underlying218
 a53:=Tryz.isAgg218
 z53:=Tryz.sizeOf218
 v53:=Tryz.zeroValue218
 t75:=Tryz.underlying180
 a75:=Tryz.isAgg180
 z75:=Tryz.sizeOf180
 v75:=Tryz.zeroValue180
 t76:=Tryz.underlying182
 a76:=Tryz.isAgg182
 z76:=Tryz.sizeOf182
 v76:=Tryz.zeroValue182
 t85:=Tryz.underlying249
 a85:=Tryz.isAgg249
 z85:=Tryz.sizeOf249
 v85:=Tryz.zeroValue249
 t127:=Tryz.underlying124
 a127:=Tryz.isAgg124
 z127:=Tryz.sizeOf124
 v127:=Tryz.zeroValue124
 t143:=Tryz.underlying283
 a143:=Tryz.isAgg283
 z143:=Tryz.sizeOf283
 v143:=Tryz.zeroValue283
 t145:=Tryz.underlying285
 a145:=Tryz.isAgg285
 z145:=Tryz.sizeOf285
 v145:=Tryz.zeroValue285
 t167:=Tryz.underlying248
 a167:=Tryz.isAgg248
 z167:=Tryz.sizeOf248
 v167:=Tryz.zeroValue248
 t168:=Tryz.underlying251
 a168:=Tryz.isAgg251
 z168:=Tryz.sizeOf251
 v168:=Tryz.zeroValue251
 t171:=Tryz.underlying262
 a171:=Tryz.isAgg262
 z171:=Tryz.sizeOf262
 v171:=Tryz.zeroValue262
 t173:=Tryz.underlying265
 a173:=Tryz.isAgg265
 z173:=Tryz.sizeOf265
 v173:=Tryz.zeroValue265
 t175:=Tryz.underlying269
 a175:=Tryz.isAgg269
 z175:=Tryz.sizeOf269
 v175:=Tryz.zeroValue269
 t210:=Tryz.underlying272
 a210:=Tryz.isAgg272
 z210:=Tryz.sizeOf272
 v210:=Tryz.zeroValue272
 t212:=Tryz.underlying278
 a212:=Tryz.isAgg278
 z212:=Tryz.sizeOf278
 v212:=Tryz.zeroValue278
 t213:=Tryz.underlying279
 a213:=Tryz.isAgg279
 z213:=Tryz.sizeOf279
 t232:=Tryz.underlying290
 a232:=Tryz.isAgg290
 z232:=Tryz.sizeOf290
 v232:=Tryz.zeroValue290
 t233:=Tryz.underlying291
 a233:=Tryz.isAgg291
 z233:=Tryz.sizeOf291
 v233:=Tryz.zeroValue291
 g15:=by kernel_rfl
 g16:=by kernel_rfl
 g17:=by kernel_rfl
 g18:=by kernel_rfl
 g19:=by kernel_rfl
 t80:=Tryz.underlying77
 a80:=Tryz.isAgg77
 z80:=Tryz.sizeOf77
 v80:=Tryz.zeroValue77
 i0:=by kernel_rfl
 i2:=by kernel_rfl
 i3:=by kernel_rfl
 i4:=by kernel_rfl
 i5:=by kernel_rfl
 i9:=by kernel_rfl
 i20:=by kernel_rfl
 i21:=by kernel_rfl
 i37:=by kernel_rfl
 i46:=by kernel_rfl
 i51:=by kernel_rfl
 i53:=by kernel_rfl
 i75:=by kernel_rfl
 i76:=by kernel_rfl
 i80:=by kernel_rfl
 i85:=by kernel_rfl
 i127:=by kernel_rfl
 i143:=by kernel_rfl
 i145:=by kernel_rfl
 i167:=by kernel_rfl
 i168:=by kernel_rfl
 i171:=by kernel_rfl
 i173:=by kernel_rfl
 i175:=by kernel_rfl
 i210:=by kernel_rfl
 i212:=by kernel_rfl
 i232:=by kernel_rfl
 i233:=by kernel_rfl
 m15:=by kernel_rfl
 m16:=by kernel_rfl
 m17:=by kernel_rfl
 m18:=by kernel_rfl
 m19:=by kernel_rfl
 c0:=by kernel_rfl
 c2:=by kernel_rfl
 c3:=by kernel_rfl
 c4:=by kernel_rfl
 c5:=by kernel_rfl
 c9:=by kernel_rfl
 c20:=by kernel_rfl
 c21:=by kernel_rfl
 c37:=by kernel_rfl
 c46:=by kernel_rfl
 c51:=by kernel_rfl
 c53:=by kernel_rfl
 c75:=by kernel_rfl
 c76:=by kernel_rfl
 c80:=by kernel_rfl
 c85:=by kernel_rfl
 c127:=by kernel_rfl
 c143:=by kernel_rfl
 c145:=by kernel_rfl
 c167:=by kernel_rfl
 c168:=by kernel_rfl
 c171:=by kernel_rfl
 c173:=by kernel_rfl
 c175:=by kernel_rfl
 c210:=by kernel_rfl
 c212:=by kernel_rfl
 c213:=by kernel_rfl
 c232:=by kernel_rfl
 c233:=by kernel_rfl }
open Go.RowKit in
theorem Tryz.strconv_Atoi_ok (s:ByteArray) (hmax:s.size≤9223372036854775806) (v:Int) (h:Lib.atoiAll s.data.toList= .ok v) (w:World) :
 Calls Tryz.prog 183 #[.string s] w fun e w'=>e= .returned (.tuple #[.int .i64 v, .nilIface])∧(w'=w∨∃t,w'=Lib.bytesWorld w 5 t):=Any.strconv_Atoi_ok Tryz.laysC172 s hmax v h w
def Tryz.lays144_ren:Go.Shelf.Ren:=⟨fun | 144=>112 | 143=>170 | 219=>200 | 217=>220 | 225=>221 | 224=>222 | 267=>223 | 266=>241 | 314=>242|n=>n,fun | 9=>9 | 4=>4 | 3=>3 | 5=>5 | 46=>245 | 146=>267 | 51=>204|n=>n,fun | 1=>2|n=>n⟩
theorem Tryz.lays144:Go.Proofs.Lays.n144 Tryz.prog Tryz.lays144_ren:={
 mixed:=by kernel_rfl
 f143:=Tryz.func170.trans (congrArg some (by kernel_rfl))
 f144:=Tryz.func112.trans (congrArg some (by kernel_rfl))
 f217:=Tryz.func220.trans (congrArg some (by kernel_rfl))
 f219:=Tryz.func200.trans (congrArg some (by kernel_rfl))
 f224:=Tryz.func222.trans (congrArg some (by kernel_rfl))
 f225:=Tryz.func221.trans (congrArg some (by kernel_rfl))
 f266:=Tryz.func241.trans (congrArg some (by kernel_rfl))
 f267:=Tryz.func223.trans (congrArg some (by kernel_rfl))
 f314:=Tryz.func242.trans (congrArg some (by kernel_rfl))
 t3:=Tryz.underlying3
 a3:=Tryz.isAgg3
 z3:=Tryz.sizeOf3
 v3:=Tryz.zeroValue3
 t4:=Tryz.underlying4
 a4:=Tryz.isAgg4
 z4:=Tryz.sizeOf4
 v4:=Tryz.zeroValue4
 t5:=Tryz.underlying5
 a5:=Tryz.isAgg5
 z5:=Tryz.sizeOf5
 v5:=Tryz.zeroValue5
 t9:=Tryz.underlying9
 a9:=Tryz.isAgg9
 z9:=Tryz.sizeOf9
 v9:=Tryz.zeroValue9
 t46:=Tryz.underlying245
 a46:=Tryz.isAgg245
 z46:=Tryz.sizeOf245
 v46:=Tryz.zeroValue245
 t51:=Tryz.underlying204
 a51:=Tryz.isAgg204
 z51:=Tryz.sizeOf204
 v51:=Tryz.zeroValue204
 t146:=Tryz.underlying267
 a146:=Tryz.isAgg267
 z146:=Tryz.sizeOf267
 v146:=Tryz.zeroValue267
 g1:=by kernel_rfl }
open Go.RowKit Go.Lib in
theorem Tryz.strings_Contains_one (s:ByteArray) (c:UInt8) (w:World) :
 Calls Tryz.prog 112 #[.string s, .string ⟨#[c]⟩] w fun e w'=>e= .returned (.bool (decide (0≤Lib.indexByte s.data.toList c)))∧w'=w:=Any.strings_Contains_one Tryz.lays144 s c w
def Tryz.laysM157_ren:Go.Shelf.Ren:=⟨fun | 157=>71 | 229=>132 | 199=>133 | 261=>188 | 311=>210 | 312=>211|n=>n,fun | 9=>9 | 31=>25 | 3=>3 | 5=>5 | 4=>4 | 119=>161 | 0=>0 | 40=>163 | 152=>201 | 21=>21 | 154=>203 | 51=>204 | 141=>206 | 196=>228 | 193=>225 | 198=>231 | 49=>229 | 194=>226 | 201=>234 | 226=>254 | 46=>245 | 227=>255|n=>n,fun | 0=>0 | 6=>1|n=>n⟩
theorem Tryz.laysM157:Go.Proofs.LaysM.n157 Tryz.prog Tryz.laysM157_ren:={
 mixed:=by kernel_rfl
 f157:=Tryz.func71.trans (congrArg some (by kernel_rfl))
 f199:=Tryz.func133.trans (congrArg some (by kernel_rfl))
 f229:=Tryz.func132.trans (congrArg some (by kernel_rfl))
 f261:=Tryz.func188.trans (congrArg some (by kernel_rfl))
 f311:=Tryz.func210.trans (congrArg some (by kernel_rfl))
 f312:=Tryz.func211.trans (congrArg some (by kernel_rfl))
 t0:=Tryz.underlying0
 a0:=Tryz.isAgg0
 z0:=Tryz.sizeOf0
 v0:=Tryz.zeroValue0
 t3:=Tryz.underlying3
 a3:=Tryz.isAgg3
 z3:=Tryz.sizeOf3
 v3:=Tryz.zeroValue3
 t4:=Tryz.underlying4
 a4:=Tryz.isAgg4
 z4:=Tryz.sizeOf4
 v4:=Tryz.zeroValue4
 t5:=Tryz.underlying5
 a5:=Tryz.isAgg5
 z5:=Tryz.sizeOf5
 v5:=Tryz.zeroValue5
 t9:=Tryz.underlying9
 a9:=Tryz.isAgg9
 z9:=Tryz.sizeOf9
 v9:=Tryz.zeroValue9
 t21:=Tryz.underlying21
 a21:=Tryz.isAgg21
 z21:=Tryz.sizeOf21
 v21:=Tryz.zeroValue21
 t31:=Tryz.underlying25
 a31:=Tryz.isAgg25
 z31:=Tryz.sizeOf25
 v31:=Tryz.zeroValue25
 t40:=Tryz.underlying163
 a40:=Tryz.isAgg163
 z40:=Tryz.sizeOf163
 v40:=Tryz.zeroValue163
 t46:=Tryz.underlying245
 a46:=Tryz.isAgg245
 z46:=Tryz.sizeOf245
 v46:=Tryz.zeroValue245
 t49:=Tryz.underlying229
 a49:=Tryz.isAgg229
 z49:=Tryz.sizeOf229
 v49:=Tryz.zeroValue229
 t51:=Tryz.underlying204
 a51:=Tryz.isAgg204
 z51:=Tryz.sizeOf204
 v51:=Tryz.zeroValue204
 t119:=Tryz.underlying161
 a119:=Tryz.isAgg161
 z119:=Tryz.sizeOf161
 t141:=Tryz.underlying206
 a141:=Tryz.isAgg206
 z141:=Tryz.sizeOf206
 v141:=Tryz.zeroValue206
 t152:=Tryz.underlying201
 a152:=Tryz.isAgg201
 z152:=Tryz.sizeOf201
 v152:=Tryz.zeroValue201
 t154:=Tryz.underlying203
 a154:=Tryz.isAgg203
 z154:=Tryz.sizeOf203
 v154:=Tryz.zeroValue203
 t193:=Tryz.underlying225
 a193:=Tryz.isAgg225
 z193:=Tryz.sizeOf225
 v193:=Tryz.zeroValue225
 t194:=Tryz.underlying226
 a194:=Tryz.isAgg226
 z194:=Tryz.sizeOf226
 v194:=Tryz.zeroValue226
 t196:=Tryz.underlying228
 a196:=Tryz.isAgg228
 z196:=Tryz.sizeOf228
 v196:=Tryz.zeroValue228
 t198:=Tryz.underlying231
 a198:=Tryz.isAgg231
 z198:=Tryz.sizeOf231
 v198:=Tryz.zeroValue231
 t201:=Tryz.underlying234
 a201:=Tryz.isAgg234
 z201:=Tryz.sizeOf234
 v201:=Tryz.zeroValue234
 t226:=Tryz.underlying254
 a226:=Tryz.isAgg254
 z226:=Tryz.sizeOf254
 v226:=Tryz.zeroValue254
 t227:=Tryz.underlying255
 a227:=Tryz.isAgg255
 z227:=Tryz.sizeOf255
 v227:=Tryz.zeroValue255
 g0:=by kernel_rfl
 g6:=by kernel_rfl
 i0:=by kernel_rfl
 i3:=by kernel_rfl
 i4:=by kernel_rfl
 i5:=by kernel_rfl
 i9:=by kernel_rfl
 i21:=by kernel_rfl
 i31:=by kernel_rfl
 i40:=by kernel_rfl
 i46:=by kernel_rfl
 i49:=by kernel_rfl
 i51:=by kernel_rfl
 i141:=by kernel_rfl
 i152:=by kernel_rfl
 i154:=by kernel_rfl
 i193:=by kernel_rfl
 i194:=by kernel_rfl
 i196:=by kernel_rfl
 i198:=by kernel_rfl
 i201:=by kernel_rfl
 i226:=by kernel_rfl
 i227:=by kernel_rfl
 m0:=by kernel_rfl
 m6:=by kernel_rfl }
open Go.RowKit Go.Lib in
theorem Tryz.strings_Fields_laid (s:ByteArray) (w:World) (hs:s.size<4294967281) (hascii:∀(j:Nat) b,s.data.toList[j]?=some b→b.toNat<128) (htab:Lib.TabIs Tryz.prog w "strings.asciiSpace" .u8 Lib.asciiSpaceTab) :
 Calls Tryz.prog 71 #[.string s] w fun e w' =>
  e= .returned (.slice (some ⟨w.heap.size,0,none⟩) (Lib.fields s.data.toList).length (Lib.fields s.data.toList).length)∧w'=w.alloc (.cells ((Lib.fields s.data.toList).map fun l=>Value.string ⟨l.toArray⟩).toArray 9):=Any.strings_Fields_laid Tryz.laysM157 s w hs hascii htab
end Go.Proofs
end
