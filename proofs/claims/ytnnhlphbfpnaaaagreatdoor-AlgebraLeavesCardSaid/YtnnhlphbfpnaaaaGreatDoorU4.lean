/- What the proofs of the lexer's laws share, part 4 of 14. -/
import Derived.Test.YtnnhlphbfpnaaaaGreatDoorU3
import Derived.KernelRfl
import Derived.IntWalk
import Derived.Lib.Space
import Derived.Lib.ItoaNum
import Derived.Test.YtnnhlphbfpnaaaaGreatDoorProg
import Derived.Shelf.Strings.Builder1
import Derived.Shelf.Small.Strs
import Derived.Shelf.Strings.BuilderF
import Derived.Shelf.Strings.BuilderK
import Derived.Shelf.Strconv.Atoi
import Derived.Shelf.Strconv.Itoa0
import Derived.Shelf.Strconv.Itoa1
import Derived.Shelf.LaysM
import Derived.Shelf.Strconv.Itoa2
import Derived.Shelf.Strconv.Itoa3
import Derived.Shelf.Strconv.AtoiErrFast
import Derived.Shelf.Strconv.ParseIntEmpty
import Derived.Shelf.Strconv.AtoiFail
import Derived.Shelf.Strconv.Clone
import Derived.Shelf.Strconv.SyntaxError
import Derived.Shelf.LaysC
import Derived.Shelf.Strconv.ToError
import Derived.Shelf.Strconv.AtoiErr
import Derived.Shelf.Strconv.ErrVar
import Derived.Shelf.Strconv.Lower
import Derived.Shelf.Strconv.ParseUint10
import Derived.Shelf.Strconv.ParseUint10Empty
import Derived.Shelf.Strconv.ParseUint10Any
import Derived.Shelf.Strconv.ParseInt10
import Derived.Shelf.Strconv.AtoiLong
import Derived.Shelf.Strconv.AtoiInnerAll
import Derived.Shelf.Strconv.RangeError
import Derived.Shelf.Strconv.ToErrorRange
import Derived.Shelf.Strconv.AtoiAll
import Derived.Shelf.Strconv.ErrVarAll
import Derived.Shelf.Strings.Search1
import Derived.Shelf.Strings.Search2
import Derived.Shelf.Strings.Search3
import Derived.Shelf.Strings.Cut
import Derived.Shelf.Strings.Shaped
import Derived.Shelf.Strings.Fields
import Derived.Shelf.Strings.SplitShaped
import Derived.Shelf.Unicode.Latin
import Derived.Shelf.Unicode.Is16White
import Derived.Shelf.Unicode.IsSpaceAny
import Derived.Shelf.Unicode.Is16Any
import Derived.Shelf.Unicode.Is32Any
import Derived.Shelf.Unicode.ExclAny
import Derived.Shelf.Slices.Turned
set_option linter.unusedVariables false
set_option linter.unusedSimpArgs false
section
namespace Go.Ev
section
variable (C : Cx) (tb : Tab) (cs : CS)
def b3i (H:B4) (t:TypeId) (a v:V):Option (B2×Box×Prop):=match a with
 | .ptr n off=>match H n,K8 C t with
  | some (.bools u kk),some k=>bif o7 v&&k==1 then some (n, .bools u kk,off<kk) else none
  | some (.blob u kk lo hi),some k=>bif o7 v&&k==1 then some (n, .blob u kk lo hi,off<kk) else none
  | _,_=>none
 | _=>none
def d4z (s:St) (o:Oper):Option (B2×Box×Prop):=match o.op with
 | .store t a x=>match F3 C s.F a,F3 C s.F x with
  | some va,some v=>b3i C s.H t va v
  | _,_=>none
 | _=>none
def P4 (y:Bool) (s:St) (dst:Option Nat) (x:V×B4) (k:St→Prop):Prop:=match B5 x.2 x.1 with
 | .d u=>a5r s dst (.d u) k
 | v=>match dst with
  | none=>False
  | some d=>go (bif y then a5y s d v x.2 else a5y (s.age d) d v x.2) k
def e8q (y:Bool) (s:St) (o:Oper) (k:St→Prop):Option Prop:=match o.op with
 | .call c=>match c.callee with
  | .value f=>match F3 C s.F f,N2 C s.F c.args.toList with
   | some (.fn (.func K) first cap),some args=>match C.ext K,C.prim K with
    | none,none=>match (bif C.keep K then none else a2v s.H (first++args++cap)) with
     | some ds=>match cs.cq K (ds.map .d) B4.empty with
      | some (p,c,x,z)=>some (p∧(bif c then P4 y s o.dst x k else P4 y s o.dst z k))
      | none=>none
     | none=>match o.dst with
      | none=>none
      | some d=>match cs.cq K (a2b upN (bif y then first++args++cap else a2b (age d) (first++args++cap))) ((bif y then s else s.age d).H.ren upN b8b) with
       | some (p,c,x,z)=>some (p∧(bif c then a5r ((bif y then s else s.age d).with (x.2.ren (k8 d) (U7 d))) (some d) (x.1.ren (k8 d)) k else a5r ((bif y then s else s.age d).with (z.2.ren (k8 d) (U7 d))) (some d) (z.1.ren (k8 d)) k))
       | none=>none
    | _,_=>none
   | _,_=>none
  | _=>none
 | _=>none
def c3z (y:Bool) (o:Oper) (s:St) (K:St→Prop):Prop:=match d4z C s o with
 | some (n,b,p)=>p∧a5r ⟨s.N,s.F,s.H.set n b⟩ o.dst K9 K
 | none=>match e9q C tb (F3 C s.F) s.H o with
  | some (v,none)=>a5r s o.dst v K
  | some (v,some p)=>p∧a5r s o.dst v K
  | none=>match e8q C cs y s o K with
   | some p=>p
   | none=>c5e C y cs.call o s K
def a7d (ops:Array Oper):List Oper→St→(St→Prop)→Prop
 | [],s,K=>K s
 | o::rest,s,K=>match o.guard with
  | some _=>d7z ops o s fun b s=>match b with
   | true=>c3z C tb cs false o s fun s=>a7d ops rest s K
   | false=>a5r s o.dst K9 fun s=>a7d ops rest s K
  | none=>c3z C tb cs false o s fun s=>a7d ops rest s K
def w7 (o:Oper):Bool:=match o.op with
 | .move _ | .assign _ | .load .. | .nilCheck _ | .unOp .. | .build .. | .convert .. | .fieldAddr .. | .field .. | .extract .. | .index .. | .indexAddr .. | .slice .. | .binOp .. | .pick .. =>true
 | .call c=>match c.callee with
  | .builtin .len | .builtin .min | .builtin .max=>true
  | .value (.func K)=>match tb K with|some _=>true|none=>false
  | _=>false
 | _=>false
def f2i (l:List Oper):List Oper:=l.takeWhile fun o=>b6i o.guard
def a5g (l:List Oper):List Oper:=l.dropWhile fun o=>b6i o.guard
def a8s:V→Bool
 | .any=>false
 | _=>true
def d5a (H:B4) (t:TypeId) (a v:V) (K:B4→Prop):Prop:=match b3i C H t a v with
 | some (n,b,p)=>p∧K (H.set n b)
 | none=>go (Q3 C H t a v) K
def a6j (o:Oper) (s:St) (K:St→Prop):Prop:=match o.op,o.dst,o.guard with
 | .store t a x,none,none=>match F3 C s.F a,F3 C s.F x with
  | some va,some vx=>bif a8s va&&a8s vx then d5a C s.H t va vx (fun H=>K (s.with H)) else False
  | _,_=>False
 | _,_,_=>False
def a6x:Oper→Bool
 | {op:=.store ..,dst:=none,guard:=none, .. }=>true
 | _=>false
def a6n (inLoop:Bool) (ops:Array Oper) (s:St) (K:St→Prop):Prop :=
 bif (a5g ops.toList).all (w7 tb)&& !(M1 ops.toList) then
  a7d C tb cs ops (f2i ops.toList) (bif inLoop then f0 s ops.toList else s) fun s1=>match a5g ops.toList with
   | []=>K s1
   | _::_=>b2c C tb ops (a5g ops.toList) s1 (fun _=>[]) [] K
 else bif (a5g ops.toList).dropLast.all (w7 tb)&&(!(M1 ops.toList)&&(match (a5g ops.toList).getLast? with|some o=>a6x o|none=>false)) then
  a7d C tb cs ops (f2i ops.toList) (bif inLoop then f0 s ops.toList else s) fun s1=>match (a5g ops.toList).getLast? with
   | some o=>b2c C tb ops (a5g ops.toList).dropLast s1 (fun _=>[]) [] fun s2=>a6j C o s2 K
   | none=>False
 else a7d C tb cs ops ops.toList (bif inLoop then f0 s ops.toList else s) fun s'=>K (bif M1 ops.toList then s'.with (k9 s'.H) else s')
def c4g (ops:Array Oper):List Oper→St→(St→List FP→Prop)→Prop
 | [],s,K=>K s []
 | o::l,s,K=>match o.guard with
  | some _=>d7z ops o s fun b s=>match b with
   | true=>c3z C tb cs true o s fun s'=>c4g ops l s' fun r fs=>K r (J7 C cs.call ops.toList o s s'::fs)
   | false=>a5r s o.dst K9 fun s'=>c4g ops l s' fun r fs=>K r (⟨[], [],false, []⟩::fs)
  | none=>c3z C tb cs true o s fun s'=>c4g ops l s' fun r fs=>K r (J7 C cs.call ops.toList o s s'::fs)
def c7o (ops:Array Oper) (s:St) (K:St→Prop):Prop :=
 bif W8 ops&&(p7 ops&&a5d ops.toList) then
  c4g C tb cs ops ops.toList (P2 s ops.toList) fun s' fs=>bif d3v ops fs then K (bif M1 ops.toList then s'.with (k9 s'.H) else s') else False
 else False
def c6w (ops:Array Oper):Bool:=ops.toList.dropLast.all (w7 tb)&&(!(M1 ops.toList)&&(a3f ops).all fun p=>Nat.blt p.1 (ops.size-1)&&Nat.blt p.2 (ops.size-1))
def c7p (ops:Array Oper) (s:St) (K:St→Prop):Prop:=match ops.toList.getLast? with
 | some o=>b2c C tb ops ops.toList.dropLast (P2 s ops.toList) (fun _=>[]) [] fun s1=>a6j C o s1 K
 | none=>False
def b4k (ops:Array Oper) (s:St) (K:St→Prop):Prop :=
 bif W8 ops&&(p7 ops&&a5d ops.toList)&&(c6w tb ops&&(match ops.toList.getLast? with|some o=>a6x o|none=>false)) then c7p C tb ops s K else
 bif W8 ops&&(p7 ops&&a5d ops.toList)&&(ops.toList.all (w7 tb)&& !(M1 ops.toList)) then b2c C tb ops ops.toList (P2 s ops.toList) (fun _=>[]) [] K
 else c7o C tb cs ops s K
def b4w (l:List (B2×Nat)) (s:St) (K:St→Prop):Prop:=match l with
 | []=>K s
 | (n,i)::r=>match s.H n with
  | some (.cells u cs)=>match cs[i]? with
   | some (.opt m off)=>b4w r ⟨s.N,s.F,s.H.set n (.cells u (cs.set i (.d (.lit (.pointer none)))))⟩ K∧b4w r ⟨s.N,s.F,s.H.set n (.cells u (cs.set i (.ptr m off)))⟩ K
   | _=>b4w r s K
  | _=>False
def d9r (k:Nat):List (List Nat×List (B2×B2))→St→(St→Prop)→Prop
 | [],s,K=>K s
 | c::r,s,K=>go (w6 k c.1 c.2 s) fun p=>d9r k r (stN s.N c.1 (Q8 c.2) p.1 p.2) K
def f4x (k:Nat) (ads:List Ad) (c:List (List Nat×List (B2×B2))) (s:St) (K:St→Prop):Prop:=go (r8 ads s) fun s=>d9r k c s K
def d8g (k:Nat) (S:Spec) (s:St) (K:X→St→Prop):Prop :=
 go (r8 S.ads s) fun s=>go (w6 k S.L S.ns s) fun p=>S.G s.N p.1 p.2 fun x vs bs=>K x (stO s.N S vs bs)
def d6v (x y:Code):Nat:=bif a5x x==0 then 2*a5x y+1 else 2*a5x x+1
def P1 (k:Nat) (sp:Nat→Option Spec) (hn:Nat→Option o9) (inLoop:Bool):Code→St→(X→St→Prop)→Prop
 | .skip,s,K=>K .normal s
 | .region id ops draw,s,K=>match hn id with
  | none=>bif draw then b4k C tb cs ops s (K .normal) else a6n C tb cs inLoop ops s (K .normal)
  | some h=>b4w h.split s fun s=>bif draw then b4k C tb cs ops s (fun s=>f4x k h.ads h.cut s (K .normal)) else a6n C tb cs inLoop ops s (fun s=>f4x k h.ads h.cut s (K .normal))
 | .seq a b,s,K=>P1 k sp hn inLoop a s fun x s'=>match x with
  | .normal=>P1 k sp hn inLoop b s' K
  | x=>K x s'
 | .cond c x y,s,K=>match sp (d6v x y) with
  | some S=>d8g k S s K
  | none=>match F3 C s.F c with
   | some (.d (.lit (.bool t)))=>bif t then P1 k sp hn inLoop x (e6z s c true) K else P1 k sp hn inLoop y (e6z s c false) K
   | _=>False
 | .block id c,s,K=>P1 k sp hn inLoop c s fun x s'=>match x with
  | .exit i=>bif i==id then K .normal s' else K (.exit i) s'
  | x=>K x s'
 | .loop c,s,K=>match sp (2*a5x c) with
  | some S=>d8g k S s K
  | none=>False
 | .exit id,s,K=>K (.exit id) s
 | .ret,s,K=>K .ret s
 | _,_,_=>False
def H8:Bool→Code→List (Nat×Bool×Code)
 | il, .seq a b=>H8 il a++H8 il b
 | il, .block _ c=>H8 il c
 | il, .loop c=>[(2*a5x c,il, .loop c)]
 | il, .cond c a b=>(d6v a b,il, .cond c a b)::(H8 il a++H8 il b)
 | _,_=>[]
end
def o8 (C:Cx) (k:Nat) (sp:Nat→Option Spec) (l:List (Nat×Bool×Code)):Prop :=
 ∀p∈l,∀S,sp p.1=some S→∀N vals bs K,S.G N vals bs K→T C k p.2.2 (stN N S.L (Q8 S.ns) vals bs) fun x s'=>∃vs bs',s'=stO N S vs bs'∧K x vs bs'
section
variable {C : Cx} {tb : Tab} {cs : CS} {k : Nat} {s s' q : St}
theorem a6t {A:Ann} {gs:List Nat} (U:a7o q s A gs):a3z C k q (a2n s A):=fun g a w R z=>by
 have hH:(a2n s A).H=q.H:=U.H.symm
 refine ⟨by rw[hH];exact z,g,⟨by rw[R.size];exact U.N,fun t=>?_,by rw[hH];exact R.heap,R.globs,R.defers⟩, .refl _ _,by rw[hH];exact .refl _ _⟩
 rw[hH]
 unfold a2n
 simp only[]
 cases hA:A t with
 | nil =>
  simp only[]
  have:=U.yes t (by rw[hA];rfl)
  rw[←this];exact R.slots t
 | cons p r=>exact .any
theorem u9 {y:Bool} {ops:Array Oper}:∀{l m:List Oper} {s s1 s2:St},P0 C y cs.call ops l s=some s1→P0 C y cs.call ops m s1=some s2→P0 C y cs.call ops (l++m) s=some s2
 | [],m,s,s1,s2,h1,h2=>by simp[P0] at h1;subst h1;exact h2
 | o::l,m,s,s1,s2,h1,h2=>by
  simp only[List.cons_append,P0] at h1 ⊢
  split at h1
  ·rename_i hw
   split at h1
   ·exact u9 h1 h2
   ·cases h1
  ·rename_i hw
   split at h1
   ·exact u9 h1 h2
   ·cases h1
  ·cases h1
theorem e8p {y:Bool} {o:Oper} {K:St→Prop} {p:Prop} (h:e8q C cs y s o K=some p) (hp:p):∃s',D5 C y cs.call o s=some s'∧K s':=by
 obtain ⟨dst,op,type,pos,after,guard⟩:=o
 unfold e8q at h
 cases op with
 | call c =>
  obtain ⟨callee,cargs,tys⟩:=c
  cases callee with
  | value f =>
   simp only[] at h
   split at h
   case h_2=>cases h
   rename_i F first cap args hf ha
   split at h
   case h_2=>cases h
   rename_i he hpr
   split at h
   ·rename_i ds hds
    split at h
    case h_2=>cases h
    rename_i p0 c0 x0 z0 hq
    simp only[Option.some.injEq] at h
    subst h
    obtain ⟨hp0,hp⟩:=hp
    have hcall:=cs.ok _ _ _ _ _ _ _ hq hp0
    have hp:P4 y s dst (bif c0 then x0 else z0) K:=by cases c0<;>exact hp
    generalize (bif c0 then x0 else z0)=res at hp hcall
    obtain ⟨r,Hc⟩:=res
    unfold P4 at hp
    simp only[D5,ha,hf,L3,he,hpr,hds,hcall]
    split at hp
    ·rename_i x hx
     rw[a2s] at hp
     obtain ⟨s1,h1,h2⟩:=F4 hp
     simp only[] at hx
     rw[hx]
     exact ⟨s1,h1,h2⟩
    ·rename_i v hne
     cases dst with
     | none=>exact hp.elim
     | some d =>
      simp only[] at hp
      obtain ⟨s1,h1,h2⟩:=F4 hp
      refine ⟨s1, ?_,h2⟩
      rw[←h1]
      split
      ·rename_i x hx;exact absurd hx (hne x)
      ·rfl
   ·rename_i hds
    cases dst with
    | none=>cases h
    | some d =>
     simp only[] at h
     split at h
     case h_2=>cases h
     rename_i p0 c0 x0 z0 hq
     simp only[Option.some.injEq] at h
     subst h
     obtain ⟨hp0,hp⟩:=hp
     have hcall:=cs.ok _ _ _ _ _ _ _ hq hp0
     have hp:a5r ((bif y then s else s.age d).with ((bif c0 then x0 else z0).2.ren (k8 d) (U7 d))) (some d) ((bif c0 then x0 else z0).1.ren (k8 d)) K:=by cases c0<;>exact hp
     generalize (bif c0 then x0 else z0)=res at hp hcall
     obtain ⟨r,Hc⟩:=res
     rw[a2s] at hp
     obtain ⟨s1,h1,h2⟩:=F4 hp
     refine ⟨s1, ?_,h2⟩
     simp only[D5,ha,hf,L3,he,hpr,hds]
     cases y with
     | true =>
      simp only[cond_true] at hcall h1 ⊢
      simp only[Y5,hcall]
      exact h1
     | false =>
      simp only[cond_false] at hcall h1 ⊢
      simp only[Y5,hcall]
      exact h1
  | _=>simp only[] at h;cases h
 | _=>simp only[] at h;cases h
theorem b6b {H:B4} {t:TypeId} {a v:V} {n:B2} {b:Box} {p:Prop} (h:b3i C H t a v=some (n,b,p)) (hp:p):Q3 C H t a v=some (H.set n b):=by
 unfold b3i at h
 split at h
 ·rename_i m off
  split at h
  ·rename_i u kk k hb hk
   cases hc:(o7 v&&k==1) with
   | false=>rw[hc] at h;cases h
   | true =>
    rw[hc] at h
    simp only[cond_true,Option.some.injEq,Prod.mk.injEq] at h
    obtain ⟨rfl,rfl,rfl⟩:=h
    have hlt:Nat.blt off kk=true:=by simpa [Nat.blt_eq] using hp
    simp only[Q3,hb,hk,hc,hlt,Bool.and_self,cond_true]
  ·rename_i u kk lo hi k hb hk
   cases hc:(o7 v&&k==1) with
   | false=>rw[hc] at h;cases h
   | true =>
    rw[hc] at h
    simp only[cond_true,Option.some.injEq,Prod.mk.injEq] at h
    obtain ⟨rfl,rfl,rfl⟩:=h
    simp only[Bool.and_eq_true,beq_iff_eq] at hc
    obtain ⟨hbv,rfl⟩:=hc
    have hlt:Nat.ble (off+1) kk=true:=by rw[Nat.ble_eq];exact hp
    have hcl:v.cells= [v]∧W5 v=true:=by
     unfold o7 at hbv
     split at hbv
     ·exact ⟨rfl,rfl⟩
     ·exact ⟨rfl,rfl⟩
     ·cases hbv
    have hok:a7r lo hi off [v]=true:=by
     simp only[a7r,Bool.and_true]
     cases (Nat.ble lo off&&Nat.blt off hi) with
     | true=>exact hbv
     | false=>rfl
    simp only[Q3,hb,hk,hcl.1,hcl.2,hok,hlt,List.length_singleton,beq_self_eq_true,Bool.and_self,cond_true]
  ·cases h
 ·cases h
theorem b6c {H:B4} {t:TypeId} {a v:V} {K:B4→Prop} (h:d5a C H t a v K):∃H2,Q3 C H t a v=some H2∧K H2:=by
 unfold d5a at h
 split at h
 ·rename_i n b p hs
  exact ⟨_,b6b hs h.1,h.2⟩
 ·exact F4 h
theorem e2p {o:Oper} {n:B2} {b:Box} {p:Prop} (h:d4z C s o=some (n,b,p)) (hp:p) {y:Bool}:D5 C y cs.call o s=St.put ⟨s.N,s.F,s.H.set n b⟩ o.dst K9:=by
 obtain ⟨dst,op,type,pos,after,guard⟩:=o
 unfold d4z at h
 cases op with
 | store t a x =>
  simp only[] at h
  split at h
  ·rename_i va v ha hx
   simp only[D5,ha,hx,b6b h hp]
   rfl
  ·cases h
 | _=>simp only[] at h;cases h
theorem a9g (hE:Has C tb) {y:Bool} {o:Oper} {s:St} {K:St→Prop} (h:c3z C tb cs y o s K):∃s',D5 C y cs.call o s=some s'∧K s':=by
 unfold c3z at h
 split at h
 ·rename_i n b p hsp
  obtain ⟨hp,h⟩:=h
  rw[a2s] at h
  obtain ⟨s1,h1,h⟩:=F4 h
  have:D5 C y cs.call o s=St.put ⟨s.N,s.F,s.H.set n b⟩ o.dst K9:=e2p hsp hp
  exact ⟨s1,this.trans h1,h⟩
 split at h
 ·rename_i v hv
  rw[a2s] at h
  obtain ⟨s1,h1,h⟩:=F4 h
  have:=c5y (y:=y) (call:=cs.call) hE (fun x v hx=>hx) hv (fun P hP=>by cases hP)
  exact ⟨s1,this.trans h1,h⟩
 ·rename_i v p hv
  obtain ⟨hp,h⟩:=h
  rw[a2s] at h
  obtain ⟨s1,h1,h⟩:=F4 h
  have:=c5y (y:=y) (call:=cs.call) hE (fun x v hx=>hx) hv (fun P hP=>by cases hP;exact hp)
  exact ⟨s1,this.trans h1,h⟩
 ·split at h
  ·rename_i p hq
   exact e8p hq h
  ·exact e4h C h
theorem r7 (hE:Has C tb) {ops:Array Oper}:∀{l:List Oper} {s:St} {K:St→Prop},a7d C tb cs ops l s K→∃s',P0 C false cs.call ops l s=some s'∧K s'
 | [],s,K,h=>⟨s,rfl,h⟩
 | o::l,s,K,h=>by
  unfold a7d at h
  unfold P0
  split at h
  ·rw[c8p] at h
   obtain ⟨b,hb,h⟩:=F4 h
   rw[hb]
   cases b with
   | true =>
    obtain ⟨s1,h1,h⟩:=a9g hE h
    simp only[h1]
    exact r7 hE h
   | false =>
    simp only[] at h ⊢
    rw[a2s] at h
    obtain ⟨s1,h1,h⟩:=F4 h
    simp only[h1]
    exact r7 hE h
  ·rename_i hg
   have hw:J6 ops o s.F=some true:=by unfold J6;rw[hg]
   rw[hw]
   obtain ⟨s1,h1,h⟩:=a9g hE h
   simp only[h1]
   exact r7 hE h
theorem b9a (l:List Oper):f2i l++a5g l=l:=List.takeWhile_append_dropWhile
theorem a5k {A:Ann} {gs:List Nat} {q s:St} (U:a7o q s A gs) {x:Operand} {v:V} (h:F3 C (a2n s A).F x=some v) (hk:a8s v=true):F3 C q.F x=some v:=by
 cases x with
 | tmp t =>
  simp only[F3,Option.some.injEq] at h ⊢
  subst h
  unfold a2n at hk ⊢
  simp only[] at hk ⊢
  cases hA:A t with
  | nil=>exact U.yes t (by rw[hA];rfl)
  | cons p r=>rw[hA] at hk;simp[a8s] at hk
 | const u=>exact h
 | global g=>exact h
 | func f=>exact h
theorem c6v {A:Ann} {gs:List Nat} {q s:St} (U:a7o q s A gs) {ops:Array Oper} {o:Oper} {K:St→Prop} (h:a6j C o (a2n s A) K) :
  ∃H2,(∀y,P0 C y cs.call ops [o] q=some (q.with H2))∧a7o (q.with H2) (s.with H2) A gs∧K ((a2n s A).with H2):=by
 unfold a6j at h
 split at h
 case h_2=>exact h.elim
 rename_i t a x hop hdst hg
 split at h
 case h_2=>exact h.elim
 rename_i va vx ha hx
 cases hk:(a8s va&&a8s vx) with
 | false=>rw[hk] at h;exact h.elim
 | true =>
  rw[hk] at h
  simp only[cond_true] at h
  simp only[Bool.and_eq_true] at hk
  obtain ⟨H2,e4,e5⟩:=b6c h
  have ha':=a5k U ha hk.1
  have hx':=a5k U hx hk.2
  have hH:(a2n s A).H=q.H:=U.H.symm
  rw[hH] at e4
  refine ⟨H2,fun y=>?_,⟨U.N,rfl,U.yes,U.no,U.has⟩,e5⟩
  unfold P0 J6
  rw[hg]
  obtain ⟨dst,op,type,pos,after,guard⟩:=o
  simp only at hop hdst hg
  subst hop hdst hg
  simp only[D5,ha',hx',e4]
  rfl
theorem c3q (hE:Has C tb) {il:Bool} {ops:Array Oper} {K:St→Prop} (h:a6n C tb cs il ops s K):∃s',V3 C cs.call il ops s=some s'∧∃s2,a3z C k s' s2∧K s2:=by
 unfold a6n at h
 unfold V3
 cases hc:((a5g ops.toList).all (w7 tb)&& !(M1 ops.toList)) with
 | true =>
  rw[hc] at h
  simp only[cond_true] at h
  simp only[Bool.and_eq_true,Bool.not_eq_true'] at hc
  obtain ⟨s1,h1,h2⟩:=r7 hE h
  cases hp:a5g ops.toList with
  | nil =>
   rw[hp] at h2
   have he:f2i ops.toList=ops.toList:=by have:=b9a ops.toList;rw[hp] at this;simpa using this
   rw[he] at h1
   rw[h1]
   exact ⟨_,rfl,s1,by rw[hc.2];exact .refl,h2⟩
  | cons o r =>
   rw[hp] at h2
   simp only[] at h2
   rw[←hp] at h2
   obtain ⟨q',s',A',gs',e1,e2,e3⟩:=a6h hE (y:=false) (call:=cs.call) (q:=s1) ⟨rfl,rfl,fun _ _=>rfl,fun t ht=>by simp[L2] at ht,fun t p hp=>by simp at hp⟩ h2
   have:=u9 h1 e1
   rw[b9a] at this
   rw[this]
   exact ⟨_,rfl,_,by rw[hc.2];exact a6t e2,e3⟩
 | false =>
  rw[hc] at h
  simp only[cond_false] at h
  cases hl:((a5g ops.toList).dropLast.all (w7 tb)&&(!(M1 ops.toList)&&(match (a5g ops.toList).getLast? with|some o=>a6x o|none=>false))) with
  | true =>
   rw[hl] at h
   simp only[cond_true] at h
   simp only[Bool.and_eq_true,Bool.not_eq_true'] at hl
   obtain ⟨s1,h1,h2⟩:=r7 hE h
   split at h2
   case h_2=>exact h2.elim
   rename_i o ho
   obtain ⟨q',s',A',gs',e1,e2,e3⟩:=a6h hE (y:=false) (call:=cs.call) (q:=s1) ⟨rfl,rfl,fun _ _=>rfl,fun t ht=>by simp[L2] at ht,fun t p hp=>by simp at hp⟩ h2
   obtain ⟨H2,e4,e5,e6⟩:=c6v (cs:=cs) (ops:=ops) e2 e3
   have hsp:(a5g ops.toList).dropLast++ [o]=a5g ops.toList:=by obtain ⟨ys,hy⟩:=List.getLast?_eq_some_iff.1 ho;rw[hy];simp
   have:=u9 h1 (u9 e1 (e4 false))
   rw[hsp,b9a] at this
   rw[this]
   exact ⟨_,rfl,_,by rw[hl.2.1];exact a6t e5,e6⟩
  | false =>
  rw[hl] at h
  simp only[cond_false] at h
  obtain ⟨s1,h1,h2⟩:=r7 hE h
  rw[h1]
  exact ⟨_,rfl,_, .refl,h2⟩
theorem a9h (hE:Has C tb) {ops:Array Oper}:∀{l:List Oper} {s:St} {K:St→List FP→Prop},c4g C tb cs ops l s K→∃r,a4i C cs.call ops l s=some r∧K r.1 r.2
 | [],s,K,h=>⟨(s, []),rfl,h⟩
 | o::l,s,K,h=>by
  unfold c4g at h
  unfold a4i k6 fpY
  split at h
  ·rw[c8p] at h
   obtain ⟨b,hb,h⟩:=F4 h
   rw[hb]
   cases b with
   | true =>
    obtain ⟨s1,h1,h⟩:=a9g hE h
    obtain ⟨r,h2,h3⟩:=a9h hE h
    simp only[h1,h2]
    exact ⟨_,rfl,h3⟩
   | false =>
    simp only[] at h ⊢
    rw[a2s] at h
    obtain ⟨s1,h1,h⟩:=F4 h
    obtain ⟨r,h2,h3⟩:=a9h hE h
    simp only[h1,h2]
    exact ⟨_,rfl,h3⟩
  ·rename_i hg
   have hw:J6 ops o s.F=some true:=by unfold J6;rw[hg]
   rw[hw]
   obtain ⟨s1,h1,h⟩:=a9g hE h
   obtain ⟨r,h2,h3⟩:=a9h hE h
   simp only[h1,h2]
   exact ⟨_,rfl,h3⟩
theorem d3f (hE:Has C tb) {il:Bool} {ops:Array Oper} {K:St→Prop} (h:c7o C tb cs ops s K):∃s',Z6 C cs.call il ops s=some s'∧K s':=by
 unfold c7o at h
 unfold Z6
 cases hc:(W8 ops&&(p7 ops&&a5d ops.toList)) with
 | false=>rw[hc] at h;exact h.elim
 | true =>
  rw[hc] at h
  obtain ⟨⟨r,fs⟩,h1,h2⟩:=a9h hE h
  simp only[cond_true,h1] at h2 ⊢
  cases hd:d3v ops fs with
  | false=>rw[hd] at h2;exact h2.elim
  | true =>
   rw[hd] at h2
   have e:((a3f ops).all fun p=>match fs[p.1]?,fs[p.2]? with|some x,some y=>a6y x y|_,_=>false)=true:=hd
   refine ⟨_, ?_,h2⟩
   exact (congrArg (fun b=>bif b then some (bif M1 ops.toList then r.with (k9 r.H) else r) else none) e)
theorem f5b (hE:Has C tb) {l:List Oper} {o:Oper} {s s':St} (h:w7 tb o=true) (hv:D5 C true cs.call o s=some s'):(J7 C cs.call l o s s').d= []∧(J7 C cs.call l o s s').all=false:=by
 obtain ⟨dst,op,type,pos,after,guard⟩:=o
 cases op with
 | call c =>
  obtain ⟨callee,cargs,tys⟩:=c
  cases callee with
  | builtin b=>cases b<;>first|exact ⟨rfl,rfl⟩ | (simp[w7] at h)
  | value f =>
   cases f with
   | func K =>
    simp only[w7] at h
    split at h
    ·rename_i c hc
     unfold J7
     simp only[F3]
     cases ha:N2 C s.F cargs.toList with
     | none=>simp[D5,ha] at hv
     | some args =>
      have:k7 C cs.call s.H K ([]++args++ [])=true:=by
       unfold k7
       rw[hE K,hc]
      simp only[this,cond_true]
      exact ⟨trivial,trivial⟩
    ·cases h
   | _=>simp[w7] at h
  | invoke a b=>simp[w7] at h
 | slice t x lo hi mx=>exact ⟨rfl,rfl⟩
 | _=>first|exact ⟨rfl,rfl⟩ | (simp[w7] at h)
theorem a7b (hE:Has C tb) {ops:Array Oper}:∀{l:List Oper} {q q':St},l.all (w7 tb)=true→P0 C true cs.call ops l q=some q'→∃fs,a4i C cs.call ops l q=some (q',fs)∧∀x∈fs,x.d= []∧x.all=false
 | [],q,q',_,h=>by simp[P0] at h;subst h;exact ⟨[],rfl,fun x hx=>by cases hx⟩
 | o::l,q,q',hc,h=>by
  simp only[List.all_cons,Bool.and_eq_true] at hc
  unfold P0 at h
  unfold a4i k6
  split at h
  ·rename_i hw
   split at h
   ·rename_i s1 h1
    obtain ⟨fs,h2,h3⟩:=a7b hE hc.2 h
    refine ⟨fpY C cs.call ops o q s1::fs,by simp only[h2],fun x hx=>?_⟩
    rcases List.mem_cons.1 hx with rfl|hx
    ·unfold fpY;rw[hw];exact f5b hE hc.1 h1
    ·exact h3 x hx
   ·cases h
  ·rename_i hw
   split at h
   ·rename_i s1 h1
    obtain ⟨fs,h2,h3⟩:=a7b hE hc.2 h
    refine ⟨fpY C cs.call ops o q s1::fs,by simp only[h2],fun x hx=>?_⟩
    rcases List.mem_cons.1 hx with rfl|hx
    ·unfold fpY;rw[hw];exact ⟨rfl,rfl⟩
    ·exact h3 x hx
   ·cases h
  ·cases h
theorem d6u {ops:Array Oper} {fs:List FP} (hl:fs.length=ops.size) (h:∀x∈fs,x.d= []∧x.all=false) (hp:∀p∈a3f ops,p.1<ops.size∧p.2<ops.size):d3v ops fs=true:=by
 unfold d3v
 refine List.all_eq_true.2 fun p hp'=>?_
 obtain ⟨h1,h2⟩:=hp p hp'
 rw[←hl] at h1 h2
 rw[List.getElem?_eq_getElem h1,List.getElem?_eq_getElem h2]
 simp only[]
 obtain ⟨d1,a1⟩:=h _ (List.getElem_mem h1)
 obtain ⟨d2,a2⟩:=h _ (List.getElem_mem h2)
 unfold a6y e4u e8f
 simp[d1,a1,d2,a2,clear]
theorem c6p {ops:Array Oper} {p:Nat×Nat} (h:p∈a4a ops):p.1<ops.size∧p.2<ops.size:=by
 unfold a4a at h
 obtain ⟨b,hb,hp⟩:=List.mem_flatMap.1 h
 obtain ⟨a,ha,hp⟩:=List.mem_filterMap.1 hp
 have hb':=List.mem_range.1 hb
 have ha':=List.mem_range.1 ha
 cases ht:((Region.before ops).getD b 0).testBit a with
 | true=>rw[ht] at hp;cases hp
 | false =>
  rw[ht] at hp
  simp only[cond_false,Option.some.injEq] at hp
  subst hp
  exact ⟨by simp only[];omega,hb'⟩
theorem b8s {ops:Array Oper}:∀{l:List Oper} {q r:St} {fs:List FP},a4i C cs.call ops l q=some (r,fs)→fs.length=l.length
 | [],q,r,fs,h=>by simp[a4i] at h;rw[h.2];rfl
 | o::l,q,r,fs,h=>by
  unfold a4i at h
  split at h
  ·split at h
   ·rename_i r' fs' h2
    simp only[Option.some.injEq,Prod.mk.injEq] at h
    rw[←h.2];simp[b8s h2]
   ·cases h
  ·cases h
theorem c4f {ops:Array Oper} {o:Oper} {q2 q3:St} (ho:k6 C cs.call ops o q2=some q3):∀{l:List Oper} {q:St} {fs:List FP},a4i C cs.call ops l q=some (q2,fs)→a4i C cs.call ops (l++ [o]) q=some (q3,fs++ [fpY C cs.call ops o q2 q3])
 | [],q,fs,h=>by
  simp only[a4i,Option.some.injEq,Prod.mk.injEq] at h
  obtain ⟨rfl,rfl⟩:=h
  simp[a4i,ho]
 | p::l,q,fs,h=>by
  unfold a4i at h
  rw[List.cons_append]
  split at h
  ·rename_i s1 h1
   simp only[a4i,h1]
   split at h
   ·rename_i r fs' h2
    simp only[Option.some.injEq,Prod.mk.injEq] at h
    obtain ⟨rfl,rfl⟩:=h
    rw[c4f ho h2]
    rfl
   ·cases h
  ·cases h
theorem d3g (hE:Has C tb) {il:Bool} {ops:Array Oper} {K:St→Prop} (hc:(W8 ops&&(p7 ops&&a5d ops.toList))=true) (hl:c6w tb ops=true) (h:c7p C tb ops s K):∃s',Z6 C cs.call il ops s=some s'∧∃s2,a3z C k s' s2∧K s2:=by
 unfold c7p at h
 split at h
 case h_2=>exact h.elim
 rename_i o ho
 unfold c6w at hl
 simp only[Bool.and_eq_true,Bool.not_eq_true'] at hl
 obtain ⟨c4,c5,c6⟩:=hl
 have hsp:ops.toList.dropLast++ [o]=ops.toList:=by obtain ⟨ys,hy⟩:=List.getLast?_eq_some_iff.1 ho;rw[hy];simp
 obtain ⟨q',s',A',gs',e1,e2,e3⟩:=a6h hE (y:=true) (call:=cs.call) (q:=P2 s ops.toList) ⟨rfl,rfl,fun _ _=>rfl,fun t ht=>by simp[L2] at ht,fun t p hp=>by simp at hp⟩ h
 obtain ⟨fs,h1,h2⟩:=a7b hE c4 e1
 unfold a6j at e3
 split at e3
 case h_2=>exact e3.elim
 rename_i t a x hop hdst hg
 split at e3
 case h_2=>exact e3.elim
 rename_i va vx ha hx
 cases hk:(a8s va&&a8s vx) with
 | false=>rw[hk] at e3;exact e3.elim
 | true =>
  rw[hk] at e3
  simp only[cond_true] at e3
  simp only[Bool.and_eq_true] at hk
  obtain ⟨H2,e4,e5⟩:=b6c e3
  have ha':=a5k e2 ha hk.1
  have hx':=a5k e2 hx hk.2
  have hH:(a2n s' A').H=q'.H:=e2.H.symm
  rw[hH] at e4
  have hst:k6 C cs.call ops o q'=some (q'.with H2):=by
   unfold k6 J6
   rw[hg]
   obtain ⟨dst,op,type,pos,after,guard⟩:=o
   simp only at hop hdst hg
   subst hop hdst hg
   simp only[D5,ha',hx',e4]
   rfl
  have hr:=c4f hst h1
  rw[hsp] at hr
  have U2:a7o (q'.with H2) (s'.with H2) A' gs':=⟨e2.N,rfl,e2.yes,e2.no,e2.has⟩
  refine ⟨q'.with H2, ?_,(a2n s' A').with H2,a6t U2,e5⟩
  unfold Z6
  rw[hc]
  simp only[cond_true,hr]
  have hlen:fs.length=ops.size-1:=by rw[b8s h1];simp
  have e:((a3f ops).all fun p=>match (fs++ [fpY C cs.call ops o q' (q'.with H2)])[p.1]?,(fs++ [fpY C cs.call ops o q' (q'.with H2)])[p.2]? with|some x,some y=>a6y x y|_,_=>false)=true:=by
   refine List.all_eq_true.2 fun p hp=>?_
   have:=List.all_eq_true.1 c6 p hp
   simp only[Bool.and_eq_true,Nat.blt_eq] at this
   have g1:p.1<fs.length:=by omega
   have g2:p.2<fs.length:=by omega
   rw[List.getElem?_append_left g1,List.getElem?_append_left g2,List.getElem?_eq_getElem g1,List.getElem?_eq_getElem g2]
   simp only[]
   obtain ⟨d1,a1⟩:=h2 _ (List.getElem_mem g1)
   obtain ⟨d2,a2⟩:=h2 _ (List.getElem_mem g2)
   unfold a6y e4u e8f
   simp[d1,a1,d2,a2,clear]
  have:=congrArg (fun b=>bif b then some (bif M1 ops.toList then (q'.with H2).with (k9 (q'.with H2).H) else (q'.with H2)) else none) e
  rw[c5] at this ⊢
  exact this
theorem d3e (hE:Has C tb) {il:Bool} {ops:Array Oper} {K:St→Prop} (h:b4k C tb cs ops s K):∃s',Z6 C cs.call il ops s=some s'∧∃s2,a3z C k s' s2∧K s2:=by
 unfold b4k at h
 cases hl:(W8 ops&&(p7 ops&&a5d ops.toList)&&(c6w tb ops&&(match ops.toList.getLast? with|some o=>a6x o|none=>false))) with
 | true =>
  rw[hl] at h
  simp only[Bool.and_eq_true] at hl
  exact d3g hE (by simp only[Bool.and_eq_true];exact hl.1) hl.2.1 h
 | false =>
 rw[hl] at h
 simp only[cond_false] at h
 cases hc:(W8 ops&&(p7 ops&&a5d ops.toList)&&(ops.toList.all (w7 tb)&& !(M1 ops.toList))) with
 | false =>
  rw[hc] at h
  obtain ⟨s',h1,h2⟩:=d3f hE (il:=il) h
  exact ⟨s',h1,s', .refl,h2⟩
 | true =>
  rw[hc] at h
  simp only[cond_true] at h
  simp only[Bool.and_eq_true,Bool.not_eq_true'] at hc
  obtain ⟨⟨c1,c2,c3⟩,c4,c5⟩:=hc
  obtain ⟨q',s',A',gs',e1,e2,e3⟩:=a6h hE (y:=true) (call:=cs.call) (q:=P2 s ops.toList) ⟨rfl,rfl,fun _ _=>rfl,fun t ht=>by simp[L2] at ht,fun t p hp=>by simp at hp⟩ h
  obtain ⟨fs,h1,h2⟩:=a7b hE c4 e1
  refine ⟨q', ?_,_,a6t e2,e3⟩
  unfold Z6
  have hst:(W8 ops&&(p7 ops&&a5d ops.toList))=true:=by simp[c1,c2,c3]
  rw[hst]
  simp only[cond_true,h1]
  have hd:d3v ops fs=true:=d6u (by rw[b8s h1];simp) h2 fun p hp=>c6p (List.mem_filter.1 hp).1
  have e:((a3f ops).all fun p=>match fs[p.1]?,fs[p.2]? with|some x,some y=>a6y x y|_,_=>false)=true:=hd
  have:=congrArg (fun b=>bif b then some (bif M1 ops.toList then q'.with (k9 q'.H) else q') else none) e
  rw[c5] at this ⊢
  exact this
theorem b3m {c:Code} {K:St→Prop} {Q:X→St→Prop} (hK:∀s,K s→T C k c s Q):∀{l:List (B2×Nat)} {s:St},b4w l s K→T C k c s Q
 | [],s,h=>hK s h
 | (n,i)::r,s,h=>by
  unfold b4w at h
  split at h
  ·rename_i u cs hb
   split at h
   ·rename_i m off hi
    exact f5o hb hi (b3m hK h.1) (b3m hK h.2)
   ·exact b3m hK h
  ·exact h.elim
theorem c2s {K:St→Prop}:∀{c:List (List Nat×List (B2×B2))} {s:St},d9r k c s K→∃s2,a3z C k s s2∧K s2
 | [],s,h=>⟨s, .refl,h⟩
 | c::r,s,h=>by
  unfold d9r at h
  obtain ⟨⟨vs,bs⟩,h2,h3⟩:=F4 h
  obtain ⟨s2,hw,hk⟩:=c2s h3
  have h1:a3z C k s _:=Z7 h2
  exact ⟨s2,h1.trans hw,hk⟩
theorem e4v {ads:List Ad} {c:List (List Nat×List (B2×B2))} {K:St→Prop} (h:f4x k ads c s K):∃s2,a3z C k s s2∧K s2:=by
 unfold f4x at h
 obtain ⟨s1,h1,h⟩:=F4 h
 obtain ⟨s2,hw,hk⟩:=c2s (C:=C) h
 exact ⟨s2,(S5 h1).trans hw,hk⟩
theorem d8f {c:Code} {S:Spec} {K:X→St→Prop} (hS:∀N vals bs K,S.G N vals bs K→T C k c (stN N S.L (Q8 S.ns) vals bs) fun x s'=>∃vs bs',s'=stO N S vs bs'∧K x vs bs') (h:d8g k S s K):T C k c s K:=by
 unfold d8g at h
 obtain ⟨s1,h1,h⟩:=F4 h
 obtain ⟨⟨vs,bs⟩,h2,h3⟩:=F4 h
 refine g4x ((S5 h1).trans (Z7 h2)) (d7k (hS _ _ _ _ h3) ?_)
 rintro x s' ⟨vs',bs',rfl,hk⟩
 exact hk
theorem a4c (F:a9y C cs.call) (hE:Has C tb) {sp:Nat→Option Spec} {hn:Nat→Option o9}:∀(c:Code) (il:Bool) (s:St) (K:X→St→Prop),o8 C k sp (H8 il c)→P1 C tb cs k sp hn il c s K→T C k c s K:=by
 intro c
 induction c with
 | skip=>intro il s K _ h;exact g4y h
 | region id ops draw =>
  intro il s K _ h
  unfold P1 at h
  have one:∀(s:St) (K':St→Prop) (Q:X→St→Prop),(∀s1,K' s1→∃s2,a3z C k s1 s2∧Q .normal s2)→(bif draw then b4k C tb cs ops s K' else a6n C tb cs il ops s K')→T C k (.region id ops draw) s Q:=by
   intro s K' Q hQ h
   cases draw with
   | true =>
    simp only[cond_true] at h
    obtain ⟨s1,h1,s2,hw,h2⟩:=d3e hE (il:=il) (k:=k) h
    refine b3e (K:=fun x s'=>x= .normal∧s'=s1) (d4n F (il:=il) (draw:=true) (by simpa using h1) ⟨rfl,rfl⟩) ?_
    rintro x s' ⟨rfl,rfl⟩
    obtain ⟨s3,hw3,h3⟩:=hQ s2 h2
    exact ⟨s3,hw.trans hw3,h3⟩
   | false =>
    simp only[cond_false] at h
    obtain ⟨s1,h1,s2,hw,h2⟩:=c3q hE (k:=k) h
    refine b3e (K:=fun x s'=>x= .normal∧s'=s1) (d4n F (il:=il) (draw:=false) (by simpa using h1) ⟨rfl,rfl⟩) ?_
    rintro x s' ⟨rfl,rfl⟩
    obtain ⟨s3,hw3,h3⟩:=hQ s2 h2
    exact ⟨s3,hw.trans hw3,h3⟩
  split at h
  ·exact one s _ K (fun s1 h1=>⟨s1, .refl,h1⟩) h
  ·rename_i hh _
   exact b3m (fun s hs=>one s _ K (fun s1 h1=>e4v h1) hs) h
 | seq a b ih1 ih2 =>
  intro il s K ok h
  unfold P1 at h
  have h1:=ih1 il s _ (fun p hp=>ok p (by simp[H8,hp])) h
  refine e9i (d7k h1 ?_)
  intro x s1 hx
  cases x with
  | normal=>exact ih2 il s1 K (fun p hp=>ok p (by simp[H8,hp])) hx
  | exit i=>exact hx
  | ret=>exact hx
 | cond c a b ih1 ih2 =>
  intro il s K ok h
  unfold P1 at h
  split at h
  ·rename_i S hS
   exact d8f (ok (d6v a b,il, .cond c a b) (by simp[H8]) S hS) h
  ·generalize hc:F3 C s.F c=v at h
   split at h
   ·rename_i t
    refine g5b hc ?_
    cases t with
    | true=>simp only[cond_true] at h ⊢;rw[d2h C hc] at h;exact ih1 il s K (fun p hp=>ok p (by simp[H8,hp])) h
    | false=>simp only[cond_false] at h ⊢;rw[d2h C hc] at h;exact ih2 il s K (fun p hp=>ok p (by simp[H8,hp])) h
   ·exact h.elim
 | block id a ih =>
  intro il s K ok h
  unfold P1 at h
  exact f5p (ih il s _ ok h)
 | loop a ih =>
  intro il s K ok h
  unfold P1 at h
  split at h
  ·rename_i S hS
   exact d8f (ok (2*a5x a,il, .loop a) (by simp[H8]) S hS) h
  ·exact h.elim
 | exit id=>intro il s K _ h;exact g5a h
 | ret=>intro il s K _ h;exact h4a h
 | _=>intro il s K _ h;simp[P1] at h
def D7 (C:Cx) (tb:Tab) (cs:CS) (k:Nat) (sp:Nat→Option Spec) (hn:Nat→Option o9) (c:Code) (N:Nat) (L:List Nat) (nm:List B2) (adsI:List Ad) (nsI:List (B2×B2)) (L':List Nat) (nsX:List (B2×B2)) (vals:List V) (bs:List Box) (R:X→List V→List Box→Prop):Prop :=
 P1 C tb cs k sp hn true c (stN N L nm vals bs) fun x s=>s.N=N∧match x with
  | .normal=>go (r8 adsI s) fun s=>go (w6 k L nsI s) fun p=>R .normal p.1 p.2
  | x=>go (w6 k L' nsX s) fun p=>R x p.1 p.2
def J5 (C:Cx) (k:Nat) (c:Code) (N:Nat) (L:List Nat) (nm:List B2) (L':List Nat) (nm':List B2) (vals:List V) (bs:List Box) (Q:X→List V→List Box→Prop):Prop :=
 TL C k c (stN N L nm vals bs) fun x s'=>∃vs bs',s'=stN N L' nm' vs bs'∧Q x vs bs'
theorem B6 (F:a9y C cs.call) (hE:Has C tb) {sp:Nat→Option Spec} {hn:Nat→Option o9} {c:Code} {N:Nat} {L L':List Nat} {nm nm':List B2} {adsI:List Ad} {nsI nsX:List (B2×B2)} {vals:List V} {bs:List Box} {Q:X→List V→List Box→Prop}
  (ok:o8 C k sp (H8 true c)) (hI:Q8 nsI=nm) (hX:Q8 nsX=nm')
  (h:a5c (D7 C tb cs k sp hn c N L nm adsI nsI L' nsX vals bs fun x vs bs'=>match x with | .normal=>J5 C k c N L nm L' nm' vs bs' Q|x=>Q x vs bs')):J5 C k c N L nm L' nm' vals bs Q:=by
 refine f5q (b3e (a4c F hE c true _ _ ok h.h) ?_)
 intro x s' ⟨hN,hx⟩
 cases x with
 | normal =>
  simp only[] at hx
  obtain ⟨s1,h1,hx⟩:=F4 hx
  obtain ⟨⟨vs,bs'⟩,h2,h3⟩:=F4 hx
  have hw:a3z C k s' _:=(S5 (k:=k) h1).trans (Z7 h2)
  have hN1:s1.N=N:=(c3e h1).trans hN
  rw[hN1,hI] at hw
  exact ⟨_,hw,h3⟩
 | exit i =>
  simp only[] at hx
  obtain ⟨⟨vs,bs'⟩,h2,h3⟩:=F4 hx
  have hw:a3z C k s' _:=Z7 h2
  rw[hN,hX] at hw
  exact ⟨_,hw,vs,bs',rfl,h3⟩
 | ret =>
  simp only[] at hx
  obtain ⟨⟨vs,bs'⟩,h2,h3⟩:=F4 hx
  have hw:a3z C k s' _:=Z7 h2
  rw[hN,hX] at hw
  exact ⟨_,hw,vs,bs',rfl,h3⟩
theorem f3j {c:Code} {N:Nat} {S:Spec} {nm:List B2} {vals:List V} {bs:List Box} {K:X→List V→List Box→Prop} (h:J5 C k c N S.L nm S.L' S.nm' vals bs K):T C k (.loop c) (stN N S.L nm vals bs) fun x s'=>∃vs bs',s'=stO N S vs bs'∧K x vs bs':=g4z h
def B7 (C:Cx) (tb:Tab) (cs:CS) (k:Nat) (sp:Nat→Option Spec) (hn:Nat→Option o9) (K:FuncId) (args:List V) (H:B4) (Q:V→B4→Prop):Prop :=
 match C.P.funcs[K]? with
 | none=>False
 | some fn=>match fn.body with
  | none=>False
  | some c=>P1 C tb cs k sp hn false c ⟨max fn.ntmps args.length,fun t=>(args[t]?).getD K9,H⟩ fun x s=>match x with
   | .exit _=>False
   | _=>go (u7 C s fn.results.toList) fun vs=>Q (Y9 vs) s.H
theorem a2t (F:a9y C cs.call) (hE:Has C tb) {sp:Nat→Option Spec} {hn:Nat→Option o9} {K:FuncId} {args:List V} {H:B4} {Q:V→B4→Prop} {fn:Func} {c:Code} (hf:C.P.funcs[K]?=some fn) (hb:fn.body=some c) (hz:Z0 k H)
  (ok:o8 C k sp (H8 false c)) (h:B7 C tb cs k sp hn K args H Q):V8 C K args H Q:=by
 unfold B7 at h
 simp only[hf,hb] at h
 refine a8a hf hb hz (d7k (a4c F hE c false _ _ ok h) ?_)
 intro x s' hx
 cases x with
 | normal=>obtain ⟨vs,h1,h2⟩:=F4 hx;exact ⟨vs,h1,h2⟩
 | ret=>obtain ⟨vs,h1,h2⟩:=F4 hx;exact ⟨vs,h1,h2⟩
 | exit i=>exact hx.elim
end
end Go.Ev
end
section
namespace Go.Ev
def C2 (B:Cx) (tb:Tab):Prop:=∀K ct ds r,tb K=some ct→ct.pre ds→ct.f ds=some r→a5a B K ds r
def Tab.add (tb:Tab) (K:FuncId) (c:Ct):Tab:=fun n=>bif n==K then some c else tb n
def a5i:Tab:=fun _=>none
theorem b9f {B:Cx}:C2 B a5i:=fun K ct ds r h=>by cases h
structure b4t (B:Cx):Prop where
 ok:a7m B
 prim:∀K,B.prim K=none
section
variable {B : Cx} {tb : Tab}
theorem C1:Has (B.tab tb) tb:=fun K=>rfl
theorem a5a.of {C C':Cx} (hP:C'.P=C.P) (hg:C'.glob=C.glob) {K:FuncId} {ds:List D} {r:D} (h:a5a C K ds r):a5a C' K ds r:=by
 obtain ⟨h1,h2⟩:=h
 refine ⟨by rw[hP];exact h1,fun w lim vs a b c=>?_⟩
 rw[hP]
 exact h2 w lim vs a (fun k cs hk=>b k cs (by rw[hg];exact hk)) c
theorem D1 (hB:b4t B) (h:C2 B tb) {call:E7} (hv:X2 (B.tab tb) call):a9y (B.tab tb) call:=by
 refine ⟨⟨hB.ok.plain,hB.ok.mixed⟩,⟨fun K f ds r hf hr=>?_,fun K f args H r H' hf=>?_⟩,hv⟩
 ·have hf':(match tb K with|some c=>some c.gate|none=>none)=some f:=hf
  cases hc:tb K with
  | none=>rw[hc] at hf';cases hf'
  | some c =>
   rw[hc] at hf'
   simp only[Option.some.injEq] at hf'
   subst hf'
   unfold Ct.gate at hr
   by_cases hp:c.pre ds
   ·rw[if_pos hp] at hr
    exact (h K c ds r hc hp hr).of rfl rfl
   ·rw[if_neg hp] at hr;cases hr
 ·have:B.prim K=some f:=hf
  rw[hB.prim K] at this;cases this
theorem B9 {C:Cx}:X2 C D4.call:=fun K args H r H' h=>by cases h
theorem u6 {C:Cx} {K:FuncId} {ds:List D} {r:D} (he:Q0 C.P K) (h:V8 C K (ds.map .d) B4.empty fun v H=>B5 H v= .d r):a5a C K ds r:=by
 refine ⟨he,fun w lim vs hl hg hr=>?_⟩
 refine (h w ⟨fun _=>.nilFunc,lim,fun _=>none⟩ vs (c5k (g:=⟨fun _=>.nilFunc,lim,fun _=>none⟩) hl) hg (.of_ds hr) (fun n hn=>by simp[B4.empty] at hn)).mono ?_
 rintro e w' ⟨u,r',H',gc,hf,rfl,k1,k2,k3,k4⟩
 have hE:Ext w w':=c6z (fun _=>rfl) k3
 have hlo:∀b,b<w.heap.size→gc.lim b=lim b∧gc.owner b=none:=fun b hb=>(k3.free b hb rfl).2
 obtain ⟨lim',j1,j2,j3⟩:=b9y k2 hf k1
 exact ⟨u,lim',rfl,hE,fun b hb=>by rw[j2 b (hlo b hb).2,(hlo b hb).1],fun b hb=>by rw[j2 b (k2.fresh b hb).2];exact (k2.fresh b hb).1,j3⟩
theorem Y1 (h:C2 B tb) {K:FuncId} {c:Ct} (hc:∀ds r,c.pre ds→c.f ds=some r→a5a B K ds r):C2 B (tb.add K c):=fun n ct ds r hn hp hr=>by
 unfold Tab.add at hn
 by_cases e:n=K
 ·subst e
  simp at hn;subst hn
  exact hc ds r hp hr
 ·have:(n==K)=false:=by simpa using e
  rw[this] at hn
  exact h n ct ds r hn hp hr
theorem C3 (hB:b4t B) (h:C2 B tb) {K:FuncId} {c:Ct} {fn:Func} {cd:Code} {sp:Nat→Option Spec} {hn:Nat→Option o9} (hf:B.P.funcs[K]?=some fn) (hb:fn.body=some cd) (hr:(fn.name == "runtime.NumGoroutine")=false)
  (ok:o8 (B.tab tb) 0 sp (H8 false cd))
  (hc:∀ds r,c.pre ds→c.f ds=some r→a5c (B7 (B.tab tb) tb D4 0 sp hn K (ds.map .d) B4.empty fun v H=>B5 H v= .d r)):C2 B (tb.add K c) :=
 Y1 h fun ds r hp hr'=>by
  have he:Q0 B.P K:=⟨fn,hf,by simpa using hr,by rw[hb];rfl⟩
  have:=u6 (C:=B.tab tb) he (a2t (D1 hB h B9) C1 (C:=B.tab tb) hf hb (fun m hm=>by cases hm) ok (hc ds r hp hr').h)
  exact this.of rfl rfl
def Ct.below (c:Ct) (μ:List D→Nat) (n:Nat):Ct:=⟨fun ds=>c.pre ds∧μ ds<n,c.f⟩
theorem P9 (hB:b4t B) (h:C2 B tb) {K:FuncId} {c:Ct} {fn:Func} {cd:Code} {sp:Nat→Nat→Option Spec} {hn:Nat→Option o9} (μ:List D→Nat) (hf:B.P.funcs[K]?=some fn) (hb:fn.body=some cd) (hr:(fn.name == "runtime.NumGoroutine")=false)
  (ok:∀n,C2 B (tb.add K (c.below μ n))→o8 (B.tab (tb.add K (c.below μ n))) 0 (sp n) (H8 false cd))
  (hc:∀n ds r,c.pre ds→μ ds=n→c.f ds=some r→a5c (B7 (B.tab (tb.add K (c.below μ n))) (tb.add K (c.below μ n)) D4 0 (sp n) hn K (ds.map .d) B4.empty fun v H=>B5 H v= .d r)):C2 B (tb.add K c):=by
 have he:Q0 B.P K:=⟨fn,hf,by simpa using hr,by rw[hb];rfl⟩
 have all:∀n,C2 B (tb.add K (c.below μ n)):=by
  intro n
  induction n with
  | zero=>exact Y1 h fun ds r hp hr'=>absurd hp.2 (Nat.not_lt_zero _)
  | succ n ih =>
   refine Y1 h fun ds r hp hr'=>?_
   by_cases hlt:μ ds<n
   ·refine ih K (c.below μ n) ds r ?_ ⟨hp.1,hlt⟩ hr'
    simp[Tab.add]
   ·have e:μ ds=n:=by have:=hp.2;omega
    exact (u6 (C:=B.tab (tb.add K (c.below μ n))) he (a2t (D1 hB ih B9) C1 (C:=B.tab (tb.add K (c.below μ n))) hf hb (fun m hm=>by cases hm) (ok n ih) (hc n ds r hp.1 e hr').h)).of rfl rfl
 exact Y1 h fun ds r hp hr'=>all (μ ds+1) K (c.below μ (μ ds+1)) ds r (by simp[Tab.add]) ⟨hp,by omega⟩ hr'
def C5:Nat→Option Spec:=fun _=>none
def B1:Nat→Option o9:=fun _=>none
theorem A8 {C:Cx} {k:Nat} {l:List (Nat×Bool×Code)}:o8 C k C5 l:=fun p _ S h=>by cases h
def OkS (C:Cx) (k:Nat) (c:Code) (S:Spec):Prop:=∀N vals bs K,S.G N vals bs K→T C k c (stN N S.L (Q8 S.ns) vals bs) fun x s'=>∃vs bs',s'=stO N S vs bs'∧K x vs bs'
def spL:List (Nat×Spec)→Nat→Option Spec
 | [],_=>none
 | (a,S)::r,n=>bif n==a then some S else spL r n
theorem C8 {C:Cx} {k:Nat} {l:List (Nat×Bool×Code)}:o8 C k (spL []) l:=fun p _ S h=>by cases h
theorem B8 {C:Cx} {k:Nat} {l:List (Nat×Bool×Code)} {a:Nat} {S:Spec} {r:List (Nat×Spec)} {c:Code} (h:(l.filter fun p=>p.1==a).map (fun p=>p.2.2)= [c]) (hS:OkS C k c S) (hr:o8 C k (spL r) l):o8 C k (spL ((a,S)::r)) l:=fun p hp S' hs=>by
 by_cases e:p.1=a
 ·have hm:p.2.2∈(l.filter fun p=>p.1==a).map (fun p=>p.2.2):=List.mem_map.2 ⟨p,List.mem_filter.2 ⟨hp,by simpa using e⟩,rfl⟩
  rw[h] at hm
  simp only[List.mem_singleton] at hm
  rw[hm]
  have:(p.1==a)=true:=by simpa using e
  simp only[spL,this,cond_true,Option.some.injEq] at hs
  subst hs
  exact hS
 ·have:(p.1==a)=false:=by simpa using e
  simp only[spL,this,cond_false] at hs
  exact hr p hp S' hs
def C6 (c:Code) (a:Nat):Code:=match (H8 false c).find? (fun p=>p.1==a) with|some p=>p.2.2|none=>.skip
def D6:Code→Code
 | .loop c=>c
 | _=>.skip
theorem D2 {C:Cx} {k:Nat} {c:Code} {S:Spec} (h:∀N vals bs K,S.G N vals bs K→J5 C k c N S.L (Q8 S.ns) S.L' S.nm' vals bs K):OkS C k (.loop c) S:=fun N vals bs K hg=>f3j (h N vals bs K hg)
end
end Go.Ev
end
section
namespace Go.Ev
def rounds {σ β:Type} (f:Nat→σ→σ ⊕ β):Nat→Nat→σ→σ ⊕ β
 | 0,_,a=>.inl a
 | n+1,i,a=>match f i a with
  | .inl a'=>rounds f n (i+1) a'
  | .inr b=>.inr b
def Q1 {β:Type}:Option β→Unit ⊕ β
 | some b=>.inr b
 | none=>.inl ()
def C0 {β:Type} (f:Nat→Option β) (n:Nat):Option β:=match rounds (fun i _=>Q1 (f i)) n 0 () with | .inr b=>some b | .inl _=>none
theorem A4 {c:Bool} {A B:Prop} (h1:c=true→A) (h2:c=false→B):bif c then A else B:=by
 cases c with
 | true=>exact h1 rfl
 | false=>exact h2 rfl
def P7 {β:Type} (o:Option β) (z:Prop) (s:β→Prop):Prop:=match o with|some b=>s b|none=>z
section
variable {C : Cx} {tb : Tab} {cs : CS} {k : Nat}
theorem b3b (F:a9y C cs.call) (hE:Has C tb) {sp:Nat→Option Spec} {hn:Nat→Option o9} {c:Code} {N:Nat} {L L':List Nat} {nm nm':List B2} {adsI:List Ad} {nsI nsX:List (B2×B2)} (ok:o8 C k sp (H8 true c)) (hI:Q8 nsI=nm) (hX:Q8 nsX=nm')
  {σ:Type} (len:Nat) (P:Nat→σ→Prop) (V0:Nat→σ→List V) (B0:Nat→σ→List Box) (f:Nat→σ→σ ⊕ (X×List V×List Box)) (xE:X) (vE:σ→List V) (bE:σ→List Box) (hxE:xE≠ .normal)
  (hb:∀i a R,i<len→P i a→(match f i a with | .inl a'=>P (i+1) a'→R .normal (V0 (i+1) a') (B0 (i+1) a') | .inr (x,vs,bs)=>x≠ .normal→R x vs bs)→a5c (D7 C tb cs k sp hn c N L nm adsI nsI L' nsX (V0 i a) (B0 i a) R))
  (he:∀a R,P len a→R xE (vE a) (bE a)→a5c (D7 C tb cs k sp hn c N L nm adsI nsI L' nsX (V0 len a) (B0 len a) R)) {Q:X→List V→List Box→Prop} :
  ∀n i a,i+n=len→P i a→(match rounds f n i a with | .inl a'=>Q xE (vE a') (bE a') | .inr (x,vs,bs)=>Q x vs bs)→J5 C k c N L nm L' nm' (V0 i a) (B0 i a) Q:=by
 intro n
 induction n with
 | zero =>
  intro i a hi hp h
  have:i=len:=by omega
  subst this
  refine B6 F hE ok (adsI:=adsI) hI hX (he a _ hp ?_)
  cases xE with
  | normal=>exact absurd rfl hxE
  | exit i=>exact h
  | ret=>exact h
 | succ n ih =>
  intro i a hi hp h
  unfold rounds at h
  refine B6 F hE ok (adsI:=adsI) hI hX (hb i a _ (by omega) hp ?_)
  cases hf:f i a with
  | inl a' =>
   simp only[hf] at h ⊢
   exact fun hp'=>ih (i+1) a' (by omega) hp' h
  | inr b =>
   obtain ⟨x,vs,bs⟩:=b
   simp only[hf] at h ⊢
   intro hne
   cases x with
   | normal=>exact absurd rfl hne
   | exit i=>exact h
   | ret=>exact h
def b4v {σ β γ:Type} (g:β→γ):σ ⊕ β→σ ⊕ γ
 | .inl a=>.inl a
 | .inr b=>.inr (g b)
theorem b8t {σ β γ:Type} {f:Nat→σ→σ ⊕ β} {g:β→γ}:∀{n i:Nat} {a:σ},rounds (fun i a=>b4v g (f i a)) n i a=b4v g (rounds f n i a)
 | 0,i,a=>rfl
 | n+1,i,a=>by
  unfold rounds
  cases hf:f i a with
  | inl a'=>simp only[b4v];exact b8t
  | inr b=>rfl
theorem F5 (F:a9y C cs.call) (hE:Has C tb) {sp:Nat→Option Spec} {hn:Nat→Option o9} {c:Code} {N:Nat} {L L':List Nat} {nm nm':List B2} {adsI:List Ad} {nsI nsX:List (B2×B2)} (ok:o8 C k sp (H8 true c)) (hI:Q8 nsI=nm) (hX:Q8 nsX=nm')
  {β:Type} (len:Nat) (V0:Nat→List V) (B0:Nat→List Box) (f:Nat→Option β) (out:β→X×List V×List Box) (hout:∀b,(out b).1≠ .normal) (xE:X) (vE:List V) (bE:List Box) (hxE:xE≠ .normal)
  (hb:∀i R,i<len→P7 (f i) (R .normal (V0 (i+1)) (B0 (i+1))) (fun b=>R (out b).1 (out b).2.1 (out b).2.2)→a5c (D7 C tb cs k sp hn c N L nm adsI nsI L' nsX (V0 i) (B0 i) R))
  (he:∀R,R xE vE bE→a5c (D7 C tb cs k sp hn c N L nm adsI nsI L' nsX (V0 len) (B0 len) R)) {Q:X→List V→List Box→Prop}
  (h:P7 (C0 f len) (Q xE vE bE) (fun b=>Q (out b).1 (out b).2.1 (out b).2.2)):J5 C k c N L nm L' nm' (V0 0) (B0 0) Q:=by
 refine b3b F hE ok hI hX len (fun _ (_:Unit)=>True) (fun i _=>V0 i) (fun i _=>B0 i) (fun i _=>b4v out (Q1 (f i))) xE (fun _=>vE) (fun _=>bE) hxE ?_ (fun a R _ hR=>he R hR) len 0 () (by omega) trivial ?_
 ·intro i a R hi _ hR
  refine hb i R hi ?_
  cases hf:f i with
  | none=>simp only[hf,Q1,b4v] at hR ⊢;exact hR trivial
  | some b=>simp only[hf,Q1,b4v] at hR ⊢;exact hR (hout b)
 ·rw[b8t (f:=fun i _=>Q1 (f i)) (g:=out)]
  unfold C0 at h
  cases hr:rounds (fun i _=>Q1 (f i)) len 0 () with
  | inl a=>rw[hr] at h;exact h
  | inr b=>rw[hr] at h;exact h
end
end Go.Ev
end
section
namespace Go.Ev
def a5u:Y7:=fun _=>none
theorem L8 {C:Cx}:S6 C a5u:=fun K f vals bs c x y h=>by cases h
def Y7.add (tb:Y7) (K:FuncId) (S:Sm):Y7:=fun n=>bif n==K then some S else tb n
def b2g:List (FuncId×Sm)→FuncId→Option Sm
 | [],_=>none
 | (a,S)::r,n=>bif n==a then some S else b2g r n
def Y7.addG (tb:Y7) (grp:List (FuncId×Sm)):Y7:=fun n=>match b2g grp n with|some S=>some S|none=>tb n
def Sm.below (S:Sm) (m:List V→List Box→Nat) (n:Nat):Sm:=⟨fun vs bs=>S.pre vs bs∧m vs bs<n,S.f⟩
def b5x (grp:List (FuncId×Sm)) (μ:FuncId→List V→List Box→Nat) (n:Nat):List (FuncId×Sm):=grp.map fun p=>(p.1,p.2.below (μ p.1) n)
def b5g:List Nat→Bool
 | []=>true
 | d::l=> !l.contains d&&b5g l
def t6:List ResultVar→Option (List Nat)
 | []=>some []
 | .tmp t::r=>match t6 r with|some l=>some (t::l)|none=>none
 | _::_=>none
def d3r (k:Nat) (L:List Nat):List (List (B2×B2))→St→(List V→List Box→Prop)→Prop
 | [],_,_=>False
 | ns::r,s,R=>match w6 k L ns s with
  | some p=>R p.1 p.2
  | none=>d3r k L r s R
def P8 (C:Cx) (tb:Tab) (cs:CS) (k:Nat) (sp:Nat→Option Spec) (hn:Nat→Option o9) (ads:List Ad) (ends:List (List (B2×B2))) (K:FuncId) (args:List V) (H:B4) (R:V→List Box→Prop):Prop :=
 match C.P.funcs[K]? with
 | none=>False
 | some fn=>match fn.body,t6 fn.results.toList with
  | some c,some L=>P1 C tb cs k sp hn false c ⟨max fn.ntmps args.length,fun t=>(args[t]?).getD K9,H⟩ fun x s=>match x with
   | .exit _=>False
   | _=>go (r8 ads s) fun s=>d3r k L ends s fun vs bs=>R (Y9 vs) bs
  | _,_=>False
theorem a8v {C:Cx} {k:Nat} {L:List Nat} {R:List V→List Box→Prop}:∀{ends:List (List (B2×B2))} {s:St},d3r k L ends s R→∃ns∈ends,∃vs bs,a3z C k s (stN s.N L (Q8 ns) vs bs)∧vs.length=L.length∧bs.length=(Q8 ns).length∧R vs bs
 | [],s,h=>h.elim
 | ns::r,s,h=>by
  unfold d3r at h
  split at h
  ·rename_i p hp
   obtain ⟨vs,bs⟩:=p
   refine ⟨ns,by simp,vs,bs,Z7 hp, ?_, ?_,h⟩
   ·unfold w6 at hp
    split at hp
    ·rename_i b0 hb0
     cases hc:c2t k ns (L.map s.F) b0 with
     | false=>rw[hc] at hp;cases hp
     | true =>
      rw[hc] at hp
      simp only[cond_true,Option.some.injEq,Prod.mk.injEq] at hp
      rw[←hp.1,b8x];simp
    ·cases hp
   ·unfold w6 at hp
    split at hp
    ·rename_i b0 hb0
     cases hc:c2t k ns (L.map s.F) b0 with
     | false=>rw[hc] at hp;cases hp
     | true =>
      rw[hc] at hp
      simp only[cond_true,Option.some.injEq,Prod.mk.injEq] at hp
      rw[←hp.2]
      unfold Q8
      simp[(a2q hb0).1]
    ·cases hp
  ·obtain ⟨ns',h1,h2⟩:=a8v h
   exact ⟨ns',List.mem_cons_of_mem _ h1,h2⟩
theorem m9 {C:Cx}:∀{l:List ResultVar} {L:List Nat} {s:St},t6 l=some L→u7 C s l=some (L.map s.F)
 | [],L,s,h=>by simp[t6] at h;subst h;rfl
 | .tmp t::r,L,s,h=>by
  unfold t6 at h
  cases hr:t6 r with
  | none=>rw[hr] at h;cases h
  | some l =>
   rw[hr] at h;simp at h;subst h
   unfold u7
   rw[m9 hr]
   rfl
 | .cell a t::r,L,s,h=>by simp[t6] at h
theorem b9i:∀{L:List Nat} {vs:List V},b5g L=true→vs.length=L.length→L.map (mk N0 L vs)=vs
 | [], [],_,_=>rfl
 | [],v::vs,_,h=>by simp at h
 | d::l, [],_,h=>by simp at h
 | d::l,v::vs,hd,h=>by
  simp only[b5g,Bool.and_eq_true,Bool.not_eq_true'] at hd
  have hne:∀t∈l,(t==d)=false:=fun t ht=>by
   cases hx:t==d with
   | false=>rfl
   | true =>
    have:t=d:=by simpa using hx
    subst this
    have:l.contains t=true:=by simpa using ht
    rw[this] at hd;cases hd.1
  simp only[List.map_cons,mk]
  congr 1
  ·simp[upd]
  ·refine Eq.trans (List.map_congr_left fun t ht=>?_) (b9i hd.2 (show vs.length=l.length by simpa using h))
   simp only[upd,hne t ht,cond_false]
section
variable {B : Cx} {etb : Tab} {stb : Y7}
theorem V8.of {C C':Cx} (hP:C'.P=C.P) (hg:C'.glob=C.glob) {K:FuncId} {args:List V} {H:B4} {Q:V→B4→Prop} (h:V8 C K args H Q):V8 C' K args H Q:=fun w g vs a b c d=>by
 rw[hP]
 exact h w g vs a (fun k cs hk=>b k cs (by rw[hg];exact hk)) c d
theorem S6.of {C C':Cx} (hP:C'.P=C.P) (hg:C'.glob=C.glob) (h:S6 C stb):S6 C' stb:=fun K f vals bs c x y h1 h2 h3=>by
 obtain ⟨a,b⟩:=h K f vals bs c x y h1 h2 h3
 exact ⟨by rw[hP];exact a,b.of hP hg⟩
theorem U8 (hB:b4t B) (h:C2 B etb) (hs:S6 B stb):a9y (B.tab etb) (L6 stb).call:=D1 hB h (b3o (hs.of rfl rfl))
theorem d8i {bs:List Box} {k:Nat} (hk:bs.length=k):Z0 k (L5 bs):=fun m hm=>by
 unfold L5 at hm
 cases hx:ofL (N8 (F9 bs.length) bs) (0::m) with
 | none=>rw[hx] at hm;cases hm
 | some b =>
  obtain ⟨i,h1,_⟩:=g9 hx
  obtain ⟨j,hj,he⟩:=List.mem_map.1 (List.mem_of_getElem? h1)
  simp at he
  exact ⟨j,by rw[←hk];simpa using hj,he.symm⟩
theorem c3r {C:Cx} {tb:Tab} {cs:CS} {k:Nat} (F:a9y C cs.call) (hE:Has C tb) {sp:Nat→Option Spec} {hn:Nat→Option o9} {ads:List Ad} {ends:List (List (B2×B2))} {K:FuncId} {args:List V} {H:B4} {R:V→List Box→Prop} {fn:Func} {c:Code}
  (hf:C.P.funcs[K]?=some fn) (hb:fn.body=some c) (hz:Z0 k H) (hL:(match t6 fn.results.toList with|some L=>b5g L|none=>false)=true)
  (ok:o8 C k sp (H8 false c)) (h:P8 C tb cs k sp hn ads ends K args H R):V8 C K args H fun r H'=>∃ns∈ends,∃bs,bs.length=(Q8 ns).length∧H'=ofL (N8 (Q8 ns) bs)∧R r bs:=by
 unfold P8 at h
 simp only[hf,hb] at h
 cases hr:t6 fn.results.toList with
 | none=>rw[hr] at h;exact h.elim
 | some L =>
  rw[hr] at h hL
  simp only[] at h hL
  refine a8a hf hb hz (b3e (a4c F hE c false _ _ ok h) ?_)
  intro x s' hx
  cases x with
  | exit i=>exact hx.elim
  | normal =>
   obtain ⟨s1,h1,hx⟩:=F4 hx
   obtain ⟨ns,hns,vs,bs,hw,h2,h3,h4⟩:=a8v (C:=C) hx
   exact ⟨_,(S5 h1).trans hw,vs,by rw[m9 hr];exact congrArg some (b9i hL h2),ns,hns,bs,h3,rfl,h4⟩
  | ret =>
   obtain ⟨s1,h1,hx⟩:=F4 hx
   obtain ⟨ns,hns,vs,bs,hw,h2,h3,h4⟩:=a8v (C:=C) hx
   exact ⟨_,(S5 h1).trans hw,vs,by rw[m9 hr];exact congrArg some (b9i hL h2),ns,hns,bs,h3,rfl,h4⟩
theorem a6r:∀{a b:List B2} {x y:List Box},x.length=a.length→N8 (a++b) (x++y)=N8 a x++N8 b y
 | [],b, [],y,_=>rfl
 | [],b,v::x,y,h=>by simp at h
 | n::a,b, [],y,h=>by simp at h
 | n::a,b,v::x,y,h=>by
  simp only[List.cons_append,N8]
  rw[a6r (by simpa using h)]
theorem P3 (hB:b4t B) (h:C2 B etb) (hs:S6 B stb) {K:FuncId} {fn:Func} {cd:Code} {sp:Nat→Option Spec} {hn:Nat→Option o9} {k:Nat} {ads:List Ad} {ends:List (List (B2×B2))} (hf:B.P.funcs[K]?=some fn) (hb:fn.body=some cd) (hr:(fn.name == "runtime.NumGoroutine")=false)
  (hL:(match t6 fn.results.toList with|some L=>b5g L|none=>false)=true)
  (hends:ends.all (fun ns=>Q8 ns==F9 k++K0 ((Q8 ns).length-k))=true)
  (ok:o8 (B.tab etb) k sp (H8 false cd)) {vals:List V} {bs bs' news:List Box} {r:V} (hk:bs.length=k) (hl:bs'.length=bs.length)
  (hc:a5c (P8 (B.tab etb) etb (L6 stb) k sp hn ads ends K vals (L5 bs) fun r' bx=>r'=r∧bx=bs'++news)) :
  Q0 B.P K∧V8 B K vals (L5 bs) fun r' H'=>r'=r∧H'=Y4 bs' news:=by
 refine ⟨⟨fn,hf,by simpa using hr,by rw[hb];rfl⟩, ?_⟩
 have:=(c3r (U8 hB h hs) C1 (C:=B.tab etb) hf hb (d8i hk) hL ok hc.h).of (C':=B) rfl rfl
 intro w g vs a b c d
 refine (this w g vs a b c d).mono ?_
 rintro e w' ⟨v,r',H',g',⟨ns,hns,bx,hlen,rfl,rfl,rfl⟩,h2⟩
 refine ⟨v,_,_,g',⟨rfl, ?_⟩,h2⟩
 have hn:=List.all_eq_true.1 hends ns hns
 have hn:Q8 ns=F9 k++K0 ((Q8 ns).length-k):=by simpa using hn
 have hlen2:(Q8 ns).length-k=news.length:=by
  rw[←hlen];simp;omega
 rw[hlen2] at hn
 unfold Y4
 rw[hn,a6r (by simp[F9];omega)]
 rw[show bs'.length=k by omega]
theorem a5p (hs:S6 B stb) {K:FuncId} {S:Sm} (hc:∀vals bs c x y,S.pre vals bs→S.f vals bs=some (c,x,y)→Q0 B.P K∧V8 B K vals (L5 bs) fun r' H'=>r'=(bif c then x else y).1∧H'=Y4 (bif c then x else y).2.1 (bif c then x else y).2.2) :
  S6 B (stb.add K S):=fun n f vals bs c x y h1 h2 h3=>by
 unfold Y7.add at h1
 by_cases e:n=K
 ·subst e
  simp at h1;subst h1
  exact hc vals bs c x y h2 h3
 ·have:(n==K)=false:=by simpa using e
  rw[this] at h1
  exact hs n f vals bs c x y h1 h2 h3
theorem c4s:∀{grp:List (FuncId×Sm)} {n:FuncId} {S:Sm},b2g grp n=some S→(n,S)∈grp
 | [],n,S,h=>by cases h
 | (a,T)::r,n,S,h=>by
  unfold b2g at h
  by_cases e:n=a
  ·subst e;simp at h;subst h;simp
  ·have:(n==a)=false:=by simpa using e
   rw[this] at h
   exact List.mem_cons_of_mem _ (c4s h)
theorem a3a {μ:FuncId→List V→List Box→Nat} {m:Nat}:∀{grp:List (FuncId×Sm)} {n:FuncId},b2g (b5x grp μ m) n=match b2g grp n with|some S=>some (S.below (μ n) m)|none=>none
 | [],n=>rfl
 | (a,T)::r,n=>by
  simp only[b5x,List.map_cons,b2g]
  by_cases e:n=a
  ·subst e;simp
  ·have:(n==a)=false:=by simpa using e
   rw[this]
   exact a3a
theorem c8v (hs : S6 B stb) (grp : List (FuncId × Sm)) (μ : FuncId → List V → List Box → Nat)
  (hc : ∀ n, S6 B (stb.addG (b5x grp μ n)) → ∀ K S, (K, S) ∈ grp → ∀ vals bs c x y, S.pre vals bs → μ K vals bs = n → S.f vals bs = some (c, x, y) →
   Q0 B.P K ∧ V8 B K vals (L5 bs) fun r' H' => r' = (bif c then x else y).1 ∧ H' = Y4 (bif c then x else y).2.1 (bif c then x else y).2.2) : S6 B (stb.addG grp) := by
 have all : ∀ n, S6 B (stb.addG (b5x grp μ n)) := by
  intro n
  induction n with
  | zero =>
   intro K f vals bs c x y h1 h2 h3
   unfold Y7.addG at h1
   rw [a3a] at h1
   cases hl : b2g grp K with
   | none => rw [hl] at h1; exact hs K f vals bs c x y h1 h2 h3
   | some S =>
    rw [hl] at h1
    simp only [Option.some.injEq] at h1
    subst h1
    exact absurd h2.2 (Nat.not_lt_zero _)
  | succ n ih =>
   intro K f vals bs c x y h1 h2 h3
   unfold Y7.addG at h1
   rw [a3a] at h1
   cases hl : b2g grp K with
   | none => rw [hl] at h1; exact hs K f vals bs c x y h1 h2 h3
   | some S =>
    rw [hl] at h1
    simp only [Option.some.injEq] at h1
    subst h1
    by_cases hlt : μ K vals bs < n
    ·refine ih K (S.below (μ K) n) vals bs c x y ?_ ⟨h2.1, hlt⟩ h3
     unfold Y7.addG
     rw [a3a, hl]
    ·have e : μ K vals bs = n := by have := h2.2; omega
     exact hc n ih K S (c4s hl) vals bs c x y h2.1 e h3
 intro K f vals bs c x y h1 h2 h3
 unfold Y7.addG at h1
 cases hl : b2g grp K with
 | none => rw [hl] at h1; exact hs K f vals bs c x y h1 h2 h3
 | some S =>
  rw [hl] at h1
  simp only [Option.some.injEq] at h1
  subst h1
  refine all (μ K vals bs + 1) K (S.below (μ K) (μ K vals bs + 1)) vals bs c x y ?_ ⟨h2, by omega⟩ h3
  unfold Y7.addG
  rw [a3a, hl]
theorem b5y (hB:b4t B) (h:C2 B etb) (hs:S6 B stb) {K:FuncId} {c:Ct} {fn:Func} {cd:Code} {sp:Nat→Option Spec} {hn:Nat→Option o9} (hf:B.P.funcs[K]?=some fn) (hb:fn.body=some cd) (hr:(fn.name == "runtime.NumGoroutine")=false)
  (ok:o8 (B.tab etb) 0 sp (H8 false cd))
  (hc:∀ds r,c.pre ds→c.f ds=some r→a5c (B7 (B.tab etb) etb (L6 stb) 0 sp hn K (ds.map .d) B4.empty fun v H=>B5 H v= .d r)):C2 B (etb.add K c) :=
 Y1 h fun ds r hp hr'=>by
  have he:Q0 B.P K:=⟨fn,hf,by simpa using hr,by rw[hb];rfl⟩
  have:=u6 (C:=B.tab etb) he (a2t (U8 hB h hs) C1 (C:=B.tab etb) hf hb (fun m hm=>by cases hm) ok (hc ds r hp hr').h)
  exact this.of rfl rfl
end
end Go.Ev
end
section
namespace Go.Ev.R2
open Go Go.Ev Go.Proofs
set_option maxRecDepth 100000
def b8j:List D:=Lib.asciiSpaceTab.map fun z=>.lit (.int .u8 z)
def e6f:List D:=Lib.pow10Tab.map fun z=>.lit (.int .u64 z)
def f4s:List D:=[.iface 283 .any]
def e7q (k:Nat):Option (List D):=bif k==0 then some b8j else bif k==3 then some f4s else bif k==4 then some f4s else bif k==5 then some e6f else none
noncomputable def B:Cx:=⟨Tryz.prog,e7q,fun _=>none,fun _=>none,fun t=>bif t==24 then true else t==102,fun K=>K==63,fun _=>none⟩
noncomputable def A7 (f:Func):Code:=match f.body with|some c=>c|none=>.skip
noncomputable def Cn (tb:Tab):Cx:=B.tab tb
theorem C4:b4t B:=⟨{plain:=fun t h=>(by
 have h':t=24∨t=102:=by
  cases e:(t==24) with
  | true=>exact .inl (by simpa using e)
  | false =>
   have h2:(bif t==24 then true else t==102)=true:=h
   rw[e] at h2
   exact .inr (by simpa using h2)
 rcases h' with rfl|rfl
 ·exact ⟨by kernel_rfl,by kernel_rfl⟩
 ·exact ⟨by kernel_rfl,by kernel_rfl⟩),mixed:=(by kernel_rfl) },fun _=>rfl⟩
def a2y (c:Int):Bool:=(decide (97≤c)&&decide (c≤122))||(decide (65≤c)&&decide (c≤90))||(decide (48≤c)&&decide (c≤57))||c==95
def e8s:Ct:=⟨fun _=>True,fun | [.lit (.int .u8 c)]=>some (.lit (.bool (a2y c)))|_=>none⟩
theorem h5d (c:Int) (p:V→Prop):(B7 (Cn a5i) a5i D4 0 C5 B1 230 [V.d (D.lit (Value.int IntKind.u8 c))] B4.empty fun v H =>
 p (B5 H v)) =
 p
 (A9 (bif
 bif
 bif bif decide (97≤c) then decide (c≤122) else false then true
 else bif decide (65≤c) then decide (c≤90) else false then
 true
 else bif decide (48≤c) then decide (c≤57) else false then
 true
 else c==95)):=by kernel_rfl
theorem g3a:C2 B (a5i.add 230 e8s):=by
 refine C3 C4 b9f (fn:=Tryz.f230) (cd:=A7 Tryz.f230) (sp:=C5) (hn:=B1) Tryz.func230 (by kernel_rfl) (by kernel_rfl) A8 fun ds r hp hr=>?_
 unfold e8s at hr
 simp only[] at hr
 split at hr
 ·rename_i c
  cases hr
  refine keep (h5d c fun v=>v=_) ?_
  unfold a2y
  cases decide (97≤c)<;>cases decide (c≤122)<;>cases decide (65≤c)<;>cases decide (c≤90)<;>cases decide (48≤c)<;>cases decide (c≤57)<;>rfl
 ·cases hr
def t213:Tab:=a5i.add 230 e8s
noncomputable def f3o:Code:=D6 (C6 (A7 Tryz.f213) 8)
theorem h3g (s:ByteArray) (i:Int) (R:X→List V→List Box→Prop):(D7 (Cn t213) t213 D4 0 C5 B1 f3o 33 [0,3] [] [] [] [2] [] [C9 s,A3 i] [] R) =
 (bif decide (i<(↑s.size:Int)) then
 ((0≤i∧i.toNat<s.size)∧
 (True∧
 (bif !a2y (A6 s i.toNat) then
 (33=33∧
 R X.ret [A9 false] []) else
 (33=33∧
 R X.normal [C9 s,A3 (IntKind.i64.wrap (i+1))] [])))) else
 (33=33∧
 R (X.exit 0) [V.any] [])):=by kernel_rfl
def X0 (s:ByteArray):Nat→Nat→Bool
 | 0,_=>true
 | n+1,i=>a2y (A6 s i)&&X0 s n (i+1)
def G4 (s:ByteArray):Bool:=decide (1≤s.size)&&decide (s.size≤60)&& !(decide (48≤A6 s 0)&&decide (A6 s 0≤57))&&X0 s s.size 0
def f7v:Ev.Spec:={L:=[0,3],ns:=[],L':=[2],nm':=[],G:=fun N vals bs k=>match vals,bs with
 | [.d (.lit (.string s)), .d (.lit (.int .i64 i))], []=>N=33∧i=0∧s.size≤60∧(bif X0 s s.size 0 then k (.exit 0) [.any] [] else k .ret [A9 false] [])
 | _,_=>False }
theorem g6v:OkS (Cn t213) 0 (.loop f3o) f7v:=by
 refine D2 fun N vals bs K h=>?_
 simp only[f7v] at h
 split at h
 case h_2=>exact h.elim
 rename_i s i
 obtain ⟨rfl,rfl,h60,h⟩:=h
 have key:∀n i:Nat,i+n=s.size→(bif X0 s n i then K (.exit 0) [.any] [] else K .ret [A9 false] [])→J5 (Cn t213) 0 f3o 33 [0,3] [] [2] [] [C9 s,A3 i] [] K:=by
  intro n
  induction n with
  | zero =>
   intro i hi h
   refine B6 (D1 C4 g3a B9) C1 A8 (adsI:=[]) (nsI:=[]) (nsX:=[]) rfl rfl (keep (h3g s i _) ?_)
   have e1:decide ((i:Int)<s.size)=false:=by simp;omega
   rw[e1]
   exact ⟨rfl,h⟩
  | succ n ih =>
   intro i hi h
   refine B6 (D1 C4 g3a B9) C1 A8 (adsI:=[]) (nsI:=[]) (nsX:=[]) rfl rfl (keep (h3g s i _) ?_)
   have e1:decide ((i:Int)<s.size)=true:=by simp;omega
   rw[e1]
   refine ⟨⟨by omega,by simp;omega⟩,trivial, ?_⟩
   simp only[Int.toNat_natCast]
   unfold X0 at h
   cases hb:a2y (A6 s i) with
   | false=>rw[hb] at h;exact ⟨trivial,h⟩
   | true =>
    rw[hb,Bool.true_and] at h
    have ew:IntKind.i64.wrap ((i:Int)+1)=((i+1:Nat):Int):=by rw[Go.IntWalk.i64_in _ (by omega)];omega
    refine ⟨trivial, ?_⟩
    rw[ew]
    exact ih (i+1) (by omega) h
 exact key s.size 0 (by omega) h
def c213:Ct:=⟨fun _=>True,fun | [.lit (.string s)]=>some (.lit (.bool (G4 s)))|_=>none⟩
theorem h5i (s : ByteArray) (p : V → Prop) : (B7 (Cn t213) t213 D4 0 (spL [(8, f7v)]) B1 213 [C9 s] B4.empty fun v H => p (B5 H v)) =
  ((((!bif decide ((↑s.size : Int) < 1) then true else decide ((↑s.size : Int) > 60)) && true) = true → (((0 : Int) ≤ 0) ∧ 0 < s.size)) ∧
  (((decide (48 ≤ A6 s 0) &&
    ((!bif decide ((↑s.size : Int) < 1) then true else decide ((↑s.size : Int) > 60)) && true)) =
  true → (((0 : Int) ≤ 0) ∧ 0 < s.size)) ∧
  (bif bif bif decide ((↑s.size : Int) < 1) then true else decide ((↑s.size : Int) > 60) then true
else bif decide (48 ≤ A6 s 0) then decide (A6 s 0 ≤ 57) else false then
   p (A9 false) else
   (33 = 33 ∧
   ((0 : Int) = 0 ∧
   (s.size ≤ 60 ∧
   (bif X0 s s.size 0 then
    p (A9 true) else
    p (A9 false)))))))) := by kernel_rfl
theorem g7t:C2 B (t213.add 213 c213):=by
 refine C3 C4 g3a (fn:=Tryz.f213) (cd:=A7 Tryz.f213) (sp:=spL [(8,f7v)]) (hn:=B1) Tryz.func213 (by kernel_rfl) (by kernel_rfl) (B8 (c:=.loop f3o) (by kernel_rfl) g6v C8) fun ds r hp hr=>?_
 unfold c213 at hr
 simp only[] at hr
 split at hr
 ·rename_i s
  cases hr
  refine keep (h5i s fun v=>v=_) ?_
  unfold G4
  by_cases h1:1≤s.size
  ·by_cases h2:s.size≤60
   ·have e1:decide ((s.size:Int)<1)=false:=by simp;omega
    have e2:decide ((s.size:Int)>60)=false:=by simp;omega
    rw[e1,e2]
    refine ⟨fun _=>⟨by omega,by omega⟩,fun _=>⟨by omega,by omega⟩, ?_⟩
    simp only[h1,h2,decide_true,cond_true,cond_false,Bool.true_and]
    cases decide (48≤A6 s 0)<;>cases decide (A6 s 0≤57)<;>cases X0 s s.size 0<;>simp
   ·have e1:decide ((s.size:Int)<1)=false:=by simp;omega
    have e2:decide ((s.size:Int)>60)=true:=by simp;omega
    rw[e1,e2]
    simp[h2]
  ·have e1:decide ((s.size:Int)<1)=true:=by simp;omega
   rw[e1]
   simp[h1]
 ·cases hr
abbrev eqS (s t:ByteArray):Bool:=s.toList==t.toList
abbrev leS (s t:ByteArray):Bool:=Op.bytesLess s.toList t.toList||s.toList==t.toList
def e9m (t:TypeId) (xs:List D):Prop:=∀i,i<xs.length→g3u B t (xs.getD i .any)=xs.getD i .any
def e5f:Tab:=t213.add 213 c213
noncomputable def g2w:Code:=D6 (C6 (A7 Tryz.f191) 8)
def Z2 (xs:List D) (i:Nat):Option Int :=
 bif !G4 (A5 (A0 (xs.getD i .any) 0)) then some 5 else
 bif eqS (A5 (A0 (xs.getD i .any) 1)) (ByteArray.mk #[]) then some 1 else
 bif decide (((A5 (A0 (xs.getD i .any) 1)).size:Int)>200) then some 4 else
 bif decide ((i:Int)>0)&&leS (A5 (A0 (xs.getD i .any) 0)) (A5 (A0 (xs.getD (i-1) .any) 0)) then some 9 else none
def f8z (f:Nat→Option Int) (n:Nat):Int:=match C0 f n with|some e=>e|none=>0
def a6z (xs:List D):Int:=bif decide (16<xs.length) then 4 else f8z (Z2 xs) xs.length
def f8a:Ev.Spec:={L:=[0,8,9,10],ns:=[],L':=[2],nm':=[],G:=fun N vals bs k=>match vals,bs with
 | [.d (.slice b 2 xs), .d (.slice b' 2 xs'), .d (.lit (.int .i64 n)), .d (.lit (.int .i64 i))], []=>(N=44∧b'=b∧xs'=xs∧i=0∧n=xs.length∧xs.length≤16∧e9m 209 xs)∧P7 (C0 (Z2 xs) xs.length) (k (.exit 0) [.any] []) (fun e=>k .ret [A3 e] [])
 | _,_=>False }
def g9o:Ct:=⟨fun | [.slice _ z xs]=>z=2∧e9m 209 xs|_=>False,fun | [.slice _ _ xs]=>some (.lit (.int .i64 (a6z xs)))|_=>none⟩
def f6d:Tab:=e5f.add 191 g9o
def g9w:Ct:=⟨fun _=>True,fun | [.lit (.string s)]=>some (.lit (.bool (G4 s)))|_=>none⟩
def f6s:Tab:=f6d.add 144 g9w
def L7 (s:ByteArray):Bool:=eqS s (ByteArray.mk #[115,116,97,116,117,115])||eqS s (ByteArray.mk #[100,117,114,97,116,105,111,110])
def c143:Ct:=⟨fun _=>True,fun | [.lit (.string s)]=>some (.lit (.bool (L7 s)))|_=>none⟩
def f6t:Tab:=f6s.add 143 c143
def M8 (s t:ByteArray):Bool:=decide (t.size≤s.size)&&eqS (s.extract 0 t.size) t
def c212:Ct:=⟨fun _=>True,fun | [.lit (.string s), .lit (.string t)]=>some (.lit (.bool (M8 s t)))|_=>none⟩
def f5z:Tab:=f6t.add 212 c212
def e5a:Ct:=⟨fun _=>True,fun | [.lit (.string s), .lit (.string t)]=>some (.tup [.lit (.string (bif M8 s t then s.extract t.size s.size else s)), .lit (.bool (M8 s t))])|_=>none⟩
def f6e:Tab:=f5z.add 190 e5a
def f6u:Tab:=f6e.add 142 e5a
theorem h3m (xs:List D) (i:Int) (n:Int) (b:Bool) (R:X→List V→List Box→Prop):(D7 (Cn e5f) e5f D4 0 C5 B1 g2w 44 [0,8,9,10] [] [] [] [2] []
 [V.d (D.slice b 2 xs),V.d (D.slice b 2 xs),A3 n,A3 i] [] R) =
 (bif decide (i<n) then
 ((((0:Int)≤i)∧(i.toNat<xs.length∧D.agg
 [zD (A5 (A0 (xs.getD i.toNat D.any) 0)),
 zD (A5 (A0 (xs.getD i.toNat D.any) 1))] =
 xs.getD i.toNat D.any))∧
 (True∧
 (bif !G4 (A5 (A0 (xs.getD i.toNat D.any) 0)) then
 (44=44∧
 R X.ret [A3 5] []) else
 (bif (A5 (A0 (xs.getD i.toNat D.any) (0+1))).toList==(ByteArray.mk #[]).toList then
 (44=44∧
 R X.ret [A3 1] []) else
 (bif decide ((↑(A5 (A0 (xs.getD i.toNat D.any) 1)).size:Int)>200) then
 (44=44∧
 R X.ret [A3 4] []) else
 (((decide (i>0)&&true)=true→(((0:Int)≤IntKind.i64.wrap (i-1))∧((IntKind.i64.wrap (i-1)).toNat<xs.length∧D.agg
 [zD (A5 (A0 (xs.getD (IntKind.i64.wrap (i-1)).toNat D.any) 0)),
 zD (A5 (A0 (xs.getD (IntKind.i64.wrap (i-1)).toNat D.any) 1))] =
 xs.getD (IntKind.i64.wrap (i-1)).toNat D.any)))∧
 (bif bif decide (i>0) then
 Op.bytesLess (A5 (A0 (xs.getD i.toNat D.any) 0)).toList
 (A5 (A0 (xs.getD (IntKind.i64.wrap (i-1)).toNat D.any) 0)).toList ||
 (A5 (A0 (xs.getD i.toNat D.any) 0)).toList ==
 (A5 (A0 (xs.getD (IntKind.i64.wrap (i-1)).toNat D.any) 0)).toList
 else false then
 (44=44∧
 R X.ret [A3 9] []) else
 (44=44∧
 R X.normal
 [V.d (D.slice b 2 xs),V.d (D.slice b 2 xs),A3 n,
 A3 (IntKind.i64.wrap (i+1))]
 [])))))))) else
 (44=44∧
 R (X.exit 0) [V.any] [])):=by kernel_rfl
theorem h5r (xs:List D) (b:Bool) (p:V→Prop):(B7 (Cn e5f) e5f D4 0 (spL [(8,f8a)]) B1 191 [V.d (D.slice b 2 xs)] B4.empty fun v H=>p (B5 H v)) =
 (bif decide ((↑xs.length:Int)>16) then
 p (A3 4) else
 ((44=44∧(b=b∧(xs=xs∧(((0:Int)=0)∧((((↑xs.length:Int):Int)=(↑xs.length:Int))∧(xs.length≤16∧e9m 209 xs))))))∧
 (match C0 (Z2 xs) xs.length with
 | some y0 =>
 p (A3 y0)
 | none=>p (A3 0)))):=by kernel_rfl
theorem h6i (s:ByteArray) (p:V→Prop):(B7 (Cn f6d) f6d D4 0 C5 B1 144 [C9 s] B4.empty fun v H=>p (B5 H v)) =
 ((2=2∧e9m 209 [D.agg [zD s,zD (bA [120])]])∧
 p
 (A9 (a6z [D.agg [zD s,zD (bA [120])]]==0))):=by kernel_rfl
theorem h6j (s:ByteArray) (p:V→Prop):(B7 (Cn f6s) f6s D4 0 C5 B1 143 [C9 s] B4.empty fun v H=>p (B5 H v)) =
 p
 (A9 (bif s.toList==(ByteArray.mk #[115,116,97,116,117,115]).toList then true
 else s.toList==(ByteArray.mk #[100,117,114,97,116,105,111,110]).toList)):=by kernel_rfl
theorem h5j (s:ByteArray) (t:ByteArray) (p:V→Prop):(B7 (Cn f6t) f6t D4 0 C5 B1 212 [C9 s,C9 t] B4.empty fun v H=>p (B5 H v)) =
 (((decide ((↑s.size:Int)≥(↑t.size:Int))&&true)=true→(((0:Int)≤(↑t.size:Int))∧(↑t.size:Int).toNat≤s.size))∧
 p
 (A9 (bif decide ((↑s.size:Int)≥(↑t.size:Int)) then (s.extract 0 (↑t.size:Int).toNat).toList==t.toList
 else false))):=by kernel_rfl
theorem h5s (s:ByteArray) (t:ByteArray) (p:V→Prop):(B7 (Cn f5z) f5z D4 0 C5 B1 190 [C9 s,C9 t] B4.empty fun v H=>p (B5 H v)) =
 (True∧
 (bif !M8 s t then
 p (V.d (D.tup [zD s,oD false])) else
 ((((0:Int)≤(↑t.size:Int))∧(↑t.size:Int).toNat≤s.size)∧
 p (V.d (D.tup [zD (s.extract (↑t.size:Int).toNat s.size),oD true]))))):=by kernel_rfl
theorem h6k (s:ByteArray) (t:ByteArray) (p:V→Prop):(B7 (Cn f6e) f6e D4 0 C5 B1 142 [C9 s,C9 t] B4.empty fun v H=>p (B5 H v)) =
 (True∧
 p
 (V.d
 (D.tup
 [zD (bif M8 s t then s.extract t.size s.size else s),oD (M8 s t)]))):=by kernel_rfl
theorem g7d:OkS (Cn e5f) 0 (.loop g2w) f8a:=by
 refine D2 fun N vals bs K h=>?_
 simp only[f8a] at h
 split at h
 case h_2=>exact h.elim
 rename_i b0 xs0 b xs n i
 obtain ⟨⟨rfl,hb,hx,rfl,rfl,h16,hall⟩,h⟩:=h
 subst hb hx
 refine F5 (D1 C4 g7t B9) C1 A8 (hn:=B1) (adsI:=[]) (nsI:=[]) (nsX:=[]) rfl rfl xs.length
  (fun i=>[.d (.slice b 2 xs), .d (.slice b 2 xs),A3 xs.length,A3 i]) (fun _=>[]) (Z2 xs) (fun e=>(.ret, [A3 e], [])) (by simp) (.exit 0) [.any] [] (by simp) ?_ ?_ h
 ·intro i R hi hR
  refine keep (h3m xs i xs.length b R) ?_
  have e1:decide ((i:Int)<xs.length)=true:=by simp;omega
  have e2:IntKind.i64.wrap ((i:Int)+1)=((i+1:Nat):Int):=by rw[Go.IntWalk.i64_in _ (by omega)];omega
  have e3:0<i→IntKind.i64.wrap ((i:Int)-1)=((i-1:Nat):Int):=fun h=>by rw[Go.IntWalk.i64_in _ (by omega)];omega
  rw[e1]
  simp only[Int.toNat_natCast,e2,cond_true]
  refine ⟨⟨by omega,hi,hall i hi⟩,trivial, ?_⟩
  refine A4 (fun h1=>⟨trivial,by simp only[Z2,eqS,leS,h1,cond_true,cond_false,P7] at hR;exact hR⟩) (fun h1=>?_)
  refine A4 (fun h2=>⟨trivial,by simp only[Z2,eqS,leS,h1,h2,cond_true,cond_false,P7] at hR;exact hR⟩) (fun h2=>?_)
  refine A4 (fun h3=>⟨trivial,by simp only[Z2,eqS,leS,h1,h2,h3,cond_true,cond_false,P7] at hR;exact hR⟩) (fun h3=>?_)
  refine ⟨fun h=>?_, ?_⟩
  ·have hz:0<i:=by simp at h;omega
   rw[e3 hz]
   exact ⟨by omega,by omega,hall _ (by omega)⟩
  ·have hR':P7 (bif decide ((i:Int)>0)&&leS (A5 (A0 (xs.getD i .any) 0)) (A5 (A0 (xs.getD (i-1) .any) 0)) then some 9 else none) (R X.normal [V.d (D.slice b 2 xs),V.d (D.slice b 2 xs),A3 ↑xs.length,A3 ↑(i+1)] []) (fun e=>R .ret [A3 e] []):=by
    simp only[Z2,eqS,h1,h2,h3,cond_true,cond_false] at hR;exact hR
   by_cases hz:0<i
   ·have e4:decide ((i:Int)>0)=true:=by simp;omega
    rw[e4] at hR' ⊢
    rw[e3 hz]
    simp only[cond_true,Bool.true_and,Int.toNat_natCast] at hR' ⊢
    refine A4 (fun h4=>⟨trivial, ?_⟩) (fun h4=>⟨trivial, ?_⟩)
    ·rw[show leS _ _=true from h4] at hR';exact hR'
    ·rw[show leS _ _=false from h4] at hR';exact hR'
   ·have e4:decide ((i:Int)>0)=false:=by simp;omega
    rw[e4] at hR' ⊢
    exact ⟨trivial,hR'⟩
 ·intro R hR
  refine keep (h3m xs xs.length xs.length b R) ?_
  have e1:decide ((xs.length:Int)<xs.length)=false:=by simp
  rw[e1]
  exact ⟨rfl,hR⟩
theorem h8x:C2 B f6d:=by
 refine C3 C4 g7t (fn:=Tryz.f191) (cd:=A7 Tryz.f191) (sp:=spL [(8,f8a)]) (hn:=B1) Tryz.func191 (by kernel_rfl) (by kernel_rfl) (B8 (c:=.loop g2w) (by kernel_rfl) g7d C8) fun ds r hp hr=>?_
 unfold g9o at hp hr
 simp only[] at hr
 split at hr
 ·rename_i b z xs
  cases hr
  obtain ⟨rfl,hall⟩:=hp
  refine keep (h5r xs b fun v=>v=_) ?_
  unfold a6z f8z
  have e1:decide ((xs.length:Int)>16)=decide (16<xs.length):=by simp;omega
  rw[e1]
  by_cases h:16<xs.length
  ·simp[h]
  ·simp only[h,decide_false,cond_false]
   refine ⟨⟨trivial,trivial,trivial,trivial,trivial,by omega,hall⟩, ?_⟩
   cases C0 (Z2 xs) xs.length<;>simp
 ·cases hr
theorem a5w (s:ByteArray):(a6z [.agg [.lit (.string s), .lit (.string (ByteArray.mk (Array.mk [120])))]]==0)=G4 s:=by
 have h:Z2 [.agg [.lit (.string s), .lit (.string (ByteArray.mk (Array.mk [120])))]] 0=bif !G4 s then some 5 else none:=by
  show (bif !G4 s then some 5 else _)=_
  cases G4 s<;>kernel_rfl
 show ((match C0 (Z2 _) 1 with|some e=>e|none=>0)==0)=_
 unfold C0 rounds
 simp only[h]
 cases G4 s<;>rfl
theorem h9k:C2 B f6s:=by
 refine C3 C4 h8x (fn:=Tryz.f144) (cd:=A7 Tryz.f144) (sp:=C5) (hn:=B1) Tryz.func144 (by kernel_rfl) (by kernel_rfl) A8 fun ds r hp hr=>?_
 unfold g9w at hr
 simp only[] at hr
 split at hr
 ·rename_i s
  cases hr
  refine keep (h6i s fun v=>v=_) ?_
  rw[a5w]
  exact ⟨⟨rfl,fun i hi=>by
   cases i with
   | zero=>rfl
   | succ i=>simp at hi⟩,rfl⟩
 ·cases hr
theorem h9m:C2 B f6t:=by
 refine C3 C4 h9k (fn:=Tryz.f143) (cd:=A7 Tryz.f143) (sp:=C5) (hn:=B1) Tryz.func143 (by kernel_rfl) (by kernel_rfl) A8 fun ds r hp hr=>?_
 unfold c143 at hr
 simp only[] at hr
 split at hr
 ·rename_i s
  cases hr
  refine keep (h6j s fun v=>v=_) ?_
  simp[L7,eqS]
 ·cases hr
theorem h8t:C2 B f5z:=by
 refine C3 C4 h9m (fn:=Tryz.f212) (cd:=A7 Tryz.f212) (sp:=C5) (hn:=B1) Tryz.func212 (by kernel_rfl) (by kernel_rfl) A8 fun ds r hp hr=>?_
 unfold c212 at hr
 simp only[] at hr
 split at hr
 ·rename_i s t
  cases hr
  refine keep (h5j s t fun v=>v=_) ?_
  refine ⟨fun h=>⟨by omega,by simp at h;omega⟩, ?_⟩
  have e:decide ((s.size:Int)≥(t.size:Int))=decide (t.size≤s.size):=by simp
  rw[e]
  simp[M8]
 ·cases hr
theorem h8y:C2 B f6e:=by
 refine C3 C4 h8t (fn:=Tryz.f190) (cd:=A7 Tryz.f190) (sp:=C5) (hn:=B1) Tryz.func190 (by kernel_rfl) (by kernel_rfl) A8 fun ds r hp hr=>?_
 unfold e5a at hr
 simp only[] at hr
 split at hr
 ·rename_i s t
  cases hr
  refine keep (h5s s t fun v=>v=_) ?_
  refine ⟨trivial, ?_⟩
  refine A4 (fun h=>?_) (fun h=>?_)
  ·have:M8 s t=false:=by simpa using h
   rw[this];rfl
  ·have hq:M8 s t=true:=by simpa using h
   have hle:t.size≤s.size:=by unfold M8 at hq;simp at hq;exact hq.1
   rw[hq]
   exact ⟨⟨by omega,by simp;exact hle⟩,by simp⟩
 ·cases hr
theorem g7x:C2 B f6u:=by
 refine C3 C4 h8y (fn:=Tryz.f142) (cd:=A7 Tryz.f142) (sp:=C5) (hn:=B1) Tryz.func142 (by kernel_rfl) (by kernel_rfl) A8 fun ds r hp hr=>?_
 unfold e5a at hr
 simp only[] at hr
 split at hr
 ·rename_i s t
  cases hr
  refine keep (h6k s t fun v=>v=_) ?_
  exact ⟨trivial,rfl⟩
 ·cases hr
def n7 (c:Int):Bool:=decide (48≤c)&&decide (c≤57)
def R9 (c:Int):Bool:=(decide (97≤c)&&decide (c≤122))||(decide (65≤c)&&decide (c≤90))
def g8y:Ct:=⟨fun _=>True,fun | [.lit (.int .u8 c)]=>some (.lit (.bool (n7 c)))|_=>none⟩
def g8w:Ct:=⟨fun _=>True,fun | [.lit (.int .u8 c)]=>some (.lit (.bool (R9 c)))|_=>none⟩
def g8x:Ct:=⟨fun _=>True,fun | [.lit (.int .u8 c)]=>some (.lit (.bool (R9 c||n7 c||c==95)))|_=>none⟩
def g9a:Ct:=⟨fun _=>True,fun | [.lit (.int .u8 c)]=>some (.lit (.bool true))|_=>none⟩
def f5t:Tab:=f6u.add 269 g8y
def f5r:Tab:=f5t.add 271 g8w
def f5s:Tab:=f5r.add 270 g8x
def Q5:Tab:=f5s.add 260 g9a
theorem h4j (c:Int) (p:V→Prop):(B7 (Cn f6u) f6u D4 0 C5 B1 269 [V.d (D.lit (Value.int IntKind.u8 c))] B4.empty fun v H=>p (B5 H v)) =
 p (A9 (bif decide (48≤c) then decide (c≤57) else false)):=by kernel_rfl
theorem h4h (c:Int) (p:V→Prop):(B7 (Cn f5t) f5t D4 0 C5 B1 271 [V.d (D.lit (Value.int IntKind.u8 c))] B4.empty fun v H=>p (B5 H v)) =
 p
 (A9 (bif bif decide (97≤c) then decide (c≤122) else false then true
 else bif decide (65≤c) then decide (c≤90) else false)):=by kernel_rfl
theorem h4i (c:Int) (p:V→Prop):(B7 (Cn f5r) f5r D4 0 C5 B1 270 [V.d (D.lit (Value.int IntKind.u8 c))] B4.empty fun v H=>p (B5 H v)) =
 (True∧
 (((!R9 c&&true)=true→True)∧
 p (A9 (bif bif R9 c then true else n7 c then true else c==95)))):=by kernel_rfl
theorem h4q (c:Int) (p:V→Prop):(B7 (Cn f5s) f5s D4 0 C5 B1 260 [V.d (D.lit (Value.int IntKind.u8 c))] B4.empty fun v H=>p (B5 H v)) =
 p (A9 true):=by kernel_rfl
abbrev psB (s:ByteArray) (i:Int):Box:=.cells 213 [C9 s,A3 i]
def d5n (bs:List Box):Prop:=match bs with
 | [.cells 213 [.d (.lit (.string s)), .d (.lit (.int .i64 i))]]=>0≤i∧i≤s.size∧s.size≤200
 | _=>False
def e2t:Sm:=⟨fun _ bs=>d5n bs,fun vals bs=>match vals,bs with
 | [.ptr [0,0] 0], [.cells 213 [.d (.lit (.string s)), .d (.lit (.int .i64 i))]]=>some (i==s.size,(.d (.tup [.lit (.int .u8 0), .lit (.bool false)]), [psB s i], []),(.d (.tup [.lit (.int .u8 (A6 s i.toNat)), .lit (.bool true)]), [psB s i], []))
 | _,_=>none⟩
def J8 (s:ByteArray) (i c:Int):Bool:= !(i==s.size)&&A6 s i.toNat==c
def b8q:Sm:=⟨fun _ bs=>d5n bs,fun vals bs=>match vals,bs with
 | [.ptr [0,0] 0, .d (.lit (.int .u8 c))], [.cells 213 [.d (.lit (.string s)), .d (.lit (.int .i64 i))]]=>some (J8 s i c,(A9 true, [psB s (i+1)], []),(A9 false, [psB s i], []))
 | _,_=>none⟩
abbrev e6h (c:Int):Box:=.cells 239 [A3 0,A9 true, .d (.lit (.int .u8 c)), .d (.lit (.pointer none)), .d (.slice true 0 [])]
def e2s:Sm:=⟨fun _ _=>True,fun vals bs=>match vals,bs with
 | [.d (.lit (.int .u8 c))], []=>one (.ptr [2] 0) [] [e6h c]
 | _,_=>none⟩
def a3j (s:ByteArray) (i:Int):Bool:=decide (i+1<s.size)&&(A6 s i.toNat==45&&A6 s (i+1).toNat !=93)
def f9t:Sm:=⟨fun _ bs=>d5n bs,fun vals bs=>match vals,bs with
 | [.ptr [0,0] 0], [.cells 213 [.d (.lit (.string s)), .d (.lit (.int .i64 i))]]=>one (A9 (a3j s i)) [psB s i] []
 | _,_=>none⟩
def g4v:Y7:=a5u.add 231 e2t
def g4w:Y7:=g4v.add 215 b8q
def g4r:Y7:=g4w.add 263 e2s
def g4q:Y7:=g4r.add 267 f9t
def e00:List (List (B2×B2)):=[[([0,0],[0,0])]]
theorem h5c (s:ByteArray) (i:Int) (R:V→List Box→Prop):(P8 (Cn Q5) Q5 (L6 a5u) 1 C5 B1 [] e00 231 [V.ptr [0,0] 0] (L5 [psB s i]) R) =
 (bif i==(↑s.size:Int) then
 R (V.d (D.tup [D.lit (Value.int IntKind.u8 0),oD false]))
 [Box.cells 213 [C9 s,A3 i]] else
 ((((0:Int)≤i)∧i.toNat<s.size)∧
 R (V.d (D.tup [D.lit (Value.int IntKind.u8 (A6 s i.toNat)),oD true]))
 [Box.cells 213 [C9 s,A3 i]])):=by kernel_rfl
theorem h5g (s : ByteArray) (i : Int) (c : Int) (R : V → List Box → Prop) : (P8 (Cn Q5) Q5 (L6 g4v) 1 C5 B1 [] e00 215 [V.ptr [0, 0] 0, V.d (D.lit (Value.int IntKind.u8 c))]
  (L5 [psB s i]) R) =
  (((!i == (↑s.size : Int) && true) = true → (((0 : Int) ≤ i) ∧ i.toNat < s.size)) ∧
  (bif bif i == (↑s.size : Int) then true else A6 s i.toNat != c then
   R (A9 false) [Box.cells 213 [C9 s, A3 i]] else
   R (A9 true)
  [Box.cells 213 [C9 s, A3 (IntKind.i64.wrap (i + 1))]])) := by kernel_rfl
theorem h4o (c:Int) (R:V→List Box→Prop):(P8 (Cn Q5) Q5 (L6 g4w) 0 C5 B1 [] [[([2], [7])]] 263 [V.d (D.lit (Value.int IntKind.u8 c))] (L5 []) R) =
 R (V.ptr [2] 0)
 [Box.cells 239
 [A3 0,A9 true,V.d (D.lit (Value.int IntKind.u8 c)),
 V.d (D.lit (Value.pointer none)),V.d (D.slice true 0 [])]]:=by kernel_rfl
theorem h4m (s:ByteArray) (i:Int) (R:V→List Box→Prop):(P8 (Cn Q5) Q5 (L6 g4r) 1 C5 B1 [] e00 267 [V.ptr [0,0] 0] (L5 [psB s i]) R) =
 (((decide (IntKind.i64.wrap (i+1)<(↑s.size:Int))&&true)=true→(((0:Int)≤i)∧i.toNat<s.size))∧
 ((((bif decide (IntKind.i64.wrap (i+1)<(↑s.size:Int)) then A6 s i.toNat==45 else false)&&true)=true→(((0:Int)≤IntKind.i64.wrap (i+1))∧(IntKind.i64.wrap (i+1)).toNat<s.size))∧
 R
 (A9 (bif bif decide (IntKind.i64.wrap (i+1)<(↑s.size:Int)) then A6 s i.toNat==45 else false then
   A6 s (IntKind.i64.wrap (i+1)).toNat !=93
  else false))
 [Box.cells 213 [C9 s,A3 i]])):=by kernel_rfl
theorem h8o:C2 B f5t:=by
 refine C3 C4 g7x (fn:=Tryz.f269) (cd:=A7 Tryz.f269) (sp:=C5) (hn:=B1) Tryz.func269 (by kernel_rfl) (by kernel_rfl) A8 fun ds r hp hr=>?_
 unfold g8y at hr
 simp only[] at hr
 split at hr
 ·rename_i c
  cases hr
  exact keep (h4j c fun v=>v=_) (by simp[n7])
 ·cases hr
theorem h8m:C2 B f5r:=by
 refine C3 C4 h8o (fn:=Tryz.f271) (cd:=A7 Tryz.f271) (sp:=C5) (hn:=B1) Tryz.func271 (by kernel_rfl) (by kernel_rfl) A8 fun ds r hp hr=>?_
 unfold g8w at hr
 simp only[] at hr
 split at hr
 ·rename_i c
  cases hr
  exact keep (h4h c fun v=>v=_) (by simp[R9])
 ·cases hr
theorem h8n:C2 B f5s:=by
 refine C3 C4 h8m (fn:=Tryz.f270) (cd:=A7 Tryz.f270) (sp:=C5) (hn:=B1) Tryz.func270 (by kernel_rfl) (by kernel_rfl) A8 fun ds r hp hr=>?_
 unfold g8x at hr
 simp only[] at hr
 split at hr
 ·rename_i c
  cases hr
  exact keep (h4i c fun v=>v=_) (by simp)
 ·cases hr
theorem a8t:C2 B Q5:=by
 refine C3 C4 h8n (fn:=Tryz.f260) (cd:=A7 Tryz.f260) (sp:=C5) (hn:=B1) Tryz.func260 (by kernel_rfl) (by kernel_rfl) A8 fun ds r hp hr=>?_
 unfold g9a at hr
 simp only[] at hr
 split at hr
 ·rename_i c
  cases hr
  exact keep (h4q c fun v=>v=_) rfl
 ·cases hr
theorem a7g:e00.all (fun ns=>Q8 ns==F9 1++K0 ((Q8 ns).length-1))=true:=by kernel_rfl
theorem d7w {i:Int} {s:ByteArray} (h0:0≤i) (h1:i≤s.size) (h2:s.size≤200):IntKind.i64.wrap (i+1)=i+1:=by rw[Go.IntWalk.i64_in _ (by omega)]
theorem g6b:S6 B g4v:=by
 refine a5p L8 fun vals bs c x y hp hf=>?_
 unfold e2t at hp hf
 simp only[] at hp hf
 split at hf
 case h_2=>cases hf
 rename_i s i
 simp only[Option.some.injEq,Prod.mk.injEq] at hf
 obtain ⟨rfl,rfl,rfl⟩:=hf
 obtain ⟨h0,h1,h2⟩:=hp
 refine P3 C4 a8t L8 (fn:=Tryz.f231) (cd:=A7 Tryz.f231) (sp:=C5) (hn:=B1) (k:=1) (ads:=[]) (ends:=e00) Tryz.func231 (by kernel_rfl) (by kernel_rfl) (by kernel_rfl) a7g A8 rfl (by cases (i==(s.size:Int))<;>rfl) (keep (h5c s i _) ?_)
 refine A4 (fun h=>?_) (fun h=>?_)
 ·rw[h];exact ⟨rfl,rfl⟩
 ·have:i≠s.size:=by simpa using h
  rw[h];exact ⟨⟨h0,by omega⟩,rfl,rfl⟩
theorem g6c:S6 B g4w:=by
 refine a5p g6b fun vals bs c x y hp hf=>?_
 unfold b8q at hp hf
 simp only[] at hp hf
 split at hf
 case h_2=>cases hf
 rename_i c s i
 simp only[Option.some.injEq,Prod.mk.injEq] at hf
 obtain ⟨rfl,rfl,rfl⟩:=hf
 obtain ⟨h0,h1,h2⟩:=hp
 refine P3 C4 a8t g6b (fn:=Tryz.f215) (cd:=A7 Tryz.f215) (sp:=C5) (hn:=B1) (k:=1) (ads:=[]) (ends:=e00) Tryz.func215 (by kernel_rfl) (by kernel_rfl) (by kernel_rfl) a7g A8 rfl (by cases J8 s i c<;>rfl) (keep (h5g s i c _) ?_)
 rw[d7w h0 h1 h2]
 refine ⟨fun h=>⟨h0,by simp at h;omega⟩, ?_⟩
 refine A4 (fun h=>?_) (fun h=>?_)
 ·have:J8 s i c=false:=by unfold J8;revert h;cases (i==(s.size:Int))<;>simp[bne]
  rw[this];exact ⟨rfl,rfl⟩
 ·have:J8 s i c=true:=by unfold J8;revert h;cases (i==(s.size:Int))<;>simp[bne]
  rw[this];exact ⟨rfl,rfl⟩
theorem g5y:S6 B g4r:=by
 refine a5p g6c fun vals bs c x y hp hf=>?_
 unfold e2s at hf
 simp only[] at hf
 split at hf
 case h_2=>cases hf
 rename_i c
 simp only[one,Option.some.injEq,Prod.mk.injEq] at hf
 obtain ⟨rfl,rfl,rfl⟩:=hf
 refine P3 C4 a8t g6c (fn:=Tryz.f263) (cd:=A7 Tryz.f263) (sp:=C5) (hn:=B1) (k:=0) (ads:=[]) (ends:=[[([2],[7])]]) Tryz.func263 (by kernel_rfl) (by kernel_rfl) (by kernel_rfl) (by kernel_rfl) A8 rfl rfl (keep (h4o c _) ⟨rfl,rfl⟩)
theorem g5x:S6 B g4q:=by
 refine a5p g5y fun vals bs c x y hp hf=>?_
 unfold f9t at hp hf
 simp only[] at hp hf
 split at hf
 case h_2=>cases hf
 rename_i s i
 simp only[one,Option.some.injEq,Prod.mk.injEq] at hf
 obtain ⟨rfl,rfl,rfl⟩:=hf
 obtain ⟨h0,h1,h2⟩:=hp
 refine P3 C4 a8t g5y (fn:=Tryz.f267) (cd:=A7 Tryz.f267) (sp:=C5) (hn:=B1) (k:=1) (ads:=[]) (ends:=e00) Tryz.func267 (by kernel_rfl) (by kernel_rfl) (by kernel_rfl) a7g A8 rfl (by rfl) (keep (h4m s i _) ?_)
 rw[d7w h0 h1 h2]
 refine ⟨fun h=>⟨h0, ?_⟩,fun h=>⟨by omega, ?_⟩,congrArg (fun b=>V.d (D.lit (Value.bool b))) ?_,rfl⟩
 ·have h:=of_decide_eq_true (by simpa using h:decide (i+1<(s.size:Int))=true)
  omega
 ·cases hd:decide (i+1<(s.size:Int)) with
  | true=>have:=of_decide_eq_true hd;omega
  | false=>rw[hd] at h;simp at h
 ·unfold a3j
  cases decide (i+1<(s.size:Int))<;>cases (A6 s i.toNat==45)<;>rfl
def f9s:Sm:=⟨fun vals _=>match vals with | .d (.lit (.int .u8 c))::_=>0≤c∧c<256|_=>False,fun vals bs=>match vals,bs with
 | [.d (.lit (.int .u8 c)), .ptr [0,0] 0, .ptr [0,1] 0], [.bools 289 256, .cells 4 [.d (.lit (.bool b))]]=>one (.d .anyB) [.bools 289 256, .cells 4 [A9 b]] []
 | _,_=>none⟩
def c8h:Y7:=g4q.add 268 f9s
theorem h4k (c:Int) (b:Bool) (R:V→List Box→Prop):(P8 (Cn Q5) Q5 (L6 g4q) 2 C5 B1 [] [[([0,0], [0,0]),([0,1], [0,1])]] 268
 [V.d (D.lit (Value.int IntKind.u8 c)),V.ptr [0,0] 0,V.ptr [0,1] 0]
 (L5 [Box.bools 289 256,Box.cells 4 [A9 b]]) R) =
 ((((0:Int)≤c)∧c.toNat<256)∧
 (0+c.toNat*1<256∧
 R (V.d D.anyB) [Box.bools 289 256,Box.cells 4 [A9 b]])):=by kernel_rfl
noncomputable def c3j:Code:=D6 (C6 (A7 Tryz.f259) 6)
theorem e8z (i:Int) (R:X→List V→List Box→Prop):(D7 (Cn Q5) Q5 (L6 c8h) 0 C5 B1 c3j 15 [0,3,5] [[5000]] [] [([5000], [5000])] [3] [([5000], [5000])]
 [V.fn (Fn.func 260) [] [],V.ptr [5000] 0,A3 i] [Box.bools 289 256] R) =
 (bif decide (i<256) then
 (True∧
 ((((0:Int)≤i)∧i.toNat<256)∧
 (0+i.toNat*1<256∧
 (15=15∧
 R X.normal [V.fn (Fn.func 260) [] [],V.ptr [5000] 0,A3 (IntKind.i64.wrap (i+1))]
 [Box.bools 289 256])))) else
 (15=15∧
 R (X.exit 0) [V.ptr [5000] 0] [Box.bools 289 256])):=by kernel_rfl
theorem e8y (i:Int) (R:X→List V→List Box→Prop):(D7 (Cn Q5) Q5 (L6 c8h) 0 C5 B1 c3j 15 [0,3,5] [[5000]] [] [([5000], [5000])] [3] [([5000], [5000])]
 [V.fn (Fn.func 269) [] [],V.ptr [5000] 0,A3 i] [Box.bools 289 256] R) =
 (bif decide (i<256) then
 (True∧
 ((((0:Int)≤i)∧i.toNat<256)∧
 (0+i.toNat*1<256∧
 (15=15∧
 R X.normal [V.fn (Fn.func 269) [] [],V.ptr [5000] 0,A3 (IntKind.i64.wrap (i+1))]
 [Box.bools 289 256])))) else
 (15=15∧
 R (X.exit 0) [V.ptr [5000] 0] [Box.bools 289 256])):=by kernel_rfl
theorem e8x (i:Int) (R:X→List V→List Box→Prop):(D7 (Cn Q5) Q5 (L6 c8h) 0 C5 B1 c3j 15 [0,3,5] [[5000]] [] [([5000], [5000])] [3] [([5000], [5000])]
 [V.fn (Fn.func 270) [] [],V.ptr [5000] 0,A3 i] [Box.bools 289 256] R) =
 (bif decide (i<256) then
 (True∧
 ((((0:Int)≤i)∧i.toNat<256)∧
 (0+i.toNat*1<256∧
 (15=15∧
 R X.normal [V.fn (Fn.func 270) [] [],V.ptr [5000] 0,A3 (IntKind.i64.wrap (i+1))]
 [Box.bools 289 256])))) else
 (15=15∧
 R (X.exit 0) [V.ptr [5000] 0] [Box.bools 289 256])):=by kernel_rfl
theorem d4g (i:Int) (b:Bool) (R:X→List V→List Box→Prop):(D7 (Cn Q5) Q5 (L6 c8h) 2 C5 B1 c3j 15 [0,3,5] [[0,0], [0,1], [5000]] []
 [([0,0], [0,0]),([0,1], [0,1]),([5000], [5000])] [3] [([0,0], [0,0]),([0,1], [0,1]),([5000], [5000])]
 [V.fn (Fn.func 268) [] [V.ptr [0,0] 0,V.ptr [0,1] 0],V.ptr [5000] 0,A3 i]
 [Box.bools 289 256,Box.cells 4 [A9 b],Box.bools 289 256] R) =
 (bif decide (i<256) then
 (f9s.pre [V.d (D.lit (Value.int IntKind.u8 (IntKind.u8.wrap i))),V.ptr [0,0] 0,V.ptr [0,1] 0]
 [Box.bools 289 256,Box.cells 4 [A9 b]]∧
 ((((0:Int)≤i)∧i.toNat<256)∧
 (0+i.toNat*1<256∧
 (15=15∧
 R X.normal
 [V.fn (Fn.func 268) [] [V.ptr [0,0] 0,V.ptr [0,1] 0],V.ptr [5000] 0,
 A3 (IntKind.i64.wrap (i+1))]
 [Box.bools 289 256,Box.cells 4 [A9 b],Box.bools 289 256])))) else
 (15=15∧
 R (X.exit 0) [V.ptr [5000] 0] [Box.bools 289 256,Box.cells 4 [A9 b],Box.bools 289 256])):=by kernel_rfl
def e6q (K:Nat):Bool:=K==260||(K==269||K==270)
def f7r:Ev.Spec:={L:=[0,3,5],ns:=[([5000],[5])],ads:=[.bools [5]],L':=[3],nm':=[[5000]],G:=fun N vals bs k=>match vals,bs with
 | [.fn (.func K) [] [], .ptr [5000] 0, .d (.lit (.int .i64 i))], [.bools 289 256]=>(N=15∧i=0∧e6q K=true)∧k (.exit 0) [.ptr [5000] 0] [.bools 289 256]
 | _,_=>False }
def e2a:Ev.Spec:={L:=[0,3,5],ns:=[([0,0],[0,0]),([0,1],[0,1]),([5000],[5])],ads:=[.bools [5]],L':=[3],nm':=[[0,0],[0,1],[5000]],G:=fun N vals bs k=>match vals,bs with
 | [.fn (.func 268) [] [.ptr [0,0] 0, .ptr [0,1] 0], .ptr [5000] 0, .d (.lit (.int .i64 i))], [.bools 289 256, .cells 4 [.d (.lit (.bool b))], .bools 289 256]=>(N=15∧i=0)∧k (.exit 0) [.ptr [5000] 0] [.bools 289 256, .cells 4 [A9 b], .bools 289 256]
 | _,_=>False }
def d5i:Sm:=⟨fun _ _=>True,fun vals bs=>match vals,bs with
 | [.fn (.func K) [] []], []=>bif e6q K then one (.d .any) [] [] else none
 | [.fn (.func 268) [] [.ptr [0,0] 0, .ptr [0,1] 0]], [.bools 289 256, .cells 4 [.d (.lit (.bool b))]]=>one (.d .any) [.bools 289 256, .cells 4 [A9 b]] []
 | _,_=>none⟩
def g4t:Y7:=c8h.add 259 d5i
theorem h4r (K:Nat) (R:V→List Box→Prop):(P8 (Cn Q5) Q5 (L6 c8h) 0 (spL [(6,f7r)]) B1 [Ad.flat 2] [[]] 259 [V.fn (Fn.func K) [] []] (L5 []) R) =
 ((15=15∧(((0:Int)=0)∧e6q K=true))∧
 R (V.d D.any) []):=by kernel_rfl
theorem g5s (b:Bool) (R:V→List Box→Prop):(P8 (Cn Q5) Q5 (L6 c8h) 2 (spL [(6,e2a)]) B1 [Ad.flat 2] [[([0,0], [0,0]),([0,1], [0,1])]] 259
 [V.fn (Fn.func 268) [] [V.ptr [0,0] 0,V.ptr [0,1] 0]] (L5 [Box.bools 289 256,Box.cells 4 [A9 b]]) R) =
 ((15=15∧((0:Int)=0))∧
 R (V.d D.any) [Box.bools 289 256,Box.cells 4 [A9 b]]):=by kernel_rfl
theorem e6c:S6 B c8h:=by
 refine a5p g5x fun vals bs c x y hp hf=>?_
 unfold f9s at hp hf
 simp only[] at hp hf
 split at hf
 case h_2=>cases hf
 rename_i c b
 simp only[one,Option.some.injEq,Prod.mk.injEq] at hf
 obtain ⟨rfl,rfl,rfl⟩:=hf
 obtain ⟨h0,h1⟩:=hp
 refine P3 C4 a8t g5x (fn:=Tryz.f268) (cd:=A7 Tryz.f268) (sp:=C5) (hn:=B1) (k:=2) (ads:=[]) (ends:=[[([0,0],[0,0]),([0,1],[0,1])]]) Tryz.func268 (by kernel_rfl) (by kernel_rfl) (by kernel_rfl) (by kernel_rfl) A8 rfl rfl (keep (h4k c b _) ?_)
 exact ⟨⟨h0,by omega⟩,by omega,rfl,rfl⟩
theorem f9o (i:Int):0≤IntKind.u8.wrap i∧IntKind.u8.wrap i<256:=by
 have h:IntKind.u8.wrap i=i % 256:=by rfl
 rw[h];omega
theorem g6r:OkS (Cn Q5) 0 (.loop c3j) f7r:=by
 refine D2 fun N vals bs K h=>?_
 simp only[f7r] at h
 split at h
 case h_2=>exact h.elim
 rename_i F i
 obtain ⟨⟨rfl,rfl,hF⟩,h⟩:=h
 have key:∀F:Nat,(∀(i:Int) R,a5c (D7 (Cn Q5) Q5 (L6 c8h) 0 C5 B1 c3j 15 [0,3,5] [[5000]] [] [([5000],[5000])] [3] [([5000],[5000])] [.fn (.func F) [] [], .ptr [5000] 0,A3 i] [.bools 289 256] R)∨¬(bif decide (i<256) then (True∧((((0:Int)≤i)∧i.toNat<256)∧(0+i.toNat*1<256∧(15=15∧R X.normal [V.fn (Fn.func F) [] [],V.ptr [5000] 0,A3 (IntKind.i64.wrap (i+1))] [Box.bools 289 256])))) else (15=15∧R (X.exit 0) [V.ptr [5000] 0] [Box.bools 289 256])))→
   J5 (Cn Q5) 0 c3j 15 [0,3,5] [[5000]] [3] [[5000]] [.fn (.func F) [] [], .ptr [5000] 0,A3 0] [.bools 289 256] K:=by
  intro F hb
  refine b3b (U8 C4 a8t e6c) C1 A8 (hn:=B1) (adsI:=[]) (nsI:=[([5000],[5000])]) (nsX:=[([5000],[5000])]) rfl rfl 256 (fun _ (_:Unit)=>True)
   (fun i _=>[.fn (.func F) [] [], .ptr [5000] 0,A3 i]) (fun _ _=>[.bools 289 256]) (fun i _=>.inl ()) (.exit 0) (fun _=>[.ptr [5000] 0]) (fun _=>[.bools 289 256]) (by simp) ?_ ?_ 256 0 () rfl trivial ?_
  ·intro i a R hi _ hR
   refine (hb i R).resolve_right (fun hn=>hn ?_)
   have e1:decide ((i:Int)<256)=true:=by simp;omega
   have e2:IntKind.i64.wrap ((i:Int)+1)=((i+1:Nat):Int):=by rw[Go.IntWalk.i64_in _ (by omega)];omega
   rw[e1,e2]
   exact ⟨trivial,⟨by omega,by omega⟩,by omega,rfl,hR trivial⟩
  ·intro a R _ hR
   refine (hb 256 R).resolve_right (fun hn=>hn ?_)
   exact ⟨rfl,hR⟩
  ·have:∀n i,rounds (β:=X×List V×List Box) (fun (_:Nat) (_:Unit)=>.inl ()) n i ()= .inl ():=by
    intro n
    induction n with
    | zero=>intro i;rfl
    | succ n ih=>intro i;exact ih (i+1)
   rw[this];exact h
 have alt:∀{a b:Prop},a=b→a5c a∨¬b:=fun {a b} e=>by
  by_cases hb:b
  ·exact .inl (keep e hb)
  ·exact .inr hb
 unfold e6q at hF
 simp only[Bool.or_eq_true,beq_iff_eq] at hF
 rcases hF with rfl|rfl|rfl
 ·exact key 260 fun i R=>alt (e8z i R)
 ·exact key 269 fun i R=>alt (e8y i R)
 ·exact key 270 fun i R=>alt (e8x i R)
theorem g2b:OkS (Cn Q5) 2 (.loop c3j) e2a:=by
 refine D2 fun N vals bs K h=>?_
 simp only[e2a] at h
 split at h
 case h_2=>exact h.elim
 rename_i i b
 obtain ⟨⟨rfl,rfl⟩,h⟩:=h
 refine b3b (U8 C4 a8t e6c) C1 A8 (hn:=B1) (adsI:=[]) (nsI:=[([0,0],[0,0]),([0,1],[0,1]),([5000],[5000])]) (nsX:=[([0,0],[0,0]),([0,1],[0,1]),([5000],[5000])]) rfl rfl 256 (fun _ (_:Unit)=>True)
   (fun i _=>[.fn (.func 268) [] [.ptr [0,0] 0, .ptr [0,1] 0], .ptr [5000] 0,A3 i]) (fun _ _=>[.bools 289 256, .cells 4 [A9 b], .bools 289 256]) (fun i _=>.inl ()) (.exit 0) (fun _=>[.ptr [5000] 0]) (fun _=>[.bools 289 256, .cells 4 [A9 b], .bools 289 256]) (by simp) ?_ ?_ 256 0 () rfl trivial ?_
 ·intro i a R hi _ hR
  refine keep (d4g i b R) ?_
  have e1:decide ((i:Int)<256)=true:=by simp;omega
  have e2:IntKind.i64.wrap ((i:Int)+1)=((i+1:Nat):Int):=by rw[Go.IntWalk.i64_in _ (by omega)];omega
  rw[e1,e2]
  exact ⟨f9o i,⟨by omega,by omega⟩,by omega,rfl,hR trivial⟩
 ·intro a R _ hR
  refine keep (d4g 256 b R) ?_
  exact ⟨rfl,hR⟩
 ·have:∀n i,rounds (β:=X×List V×List Box) (fun (_:Nat) (_:Unit)=>.inl ()) n i ()= .inl ():=by
   intro n
   induction n with
   | zero=>intro i;rfl
   | succ n ih=>intro i;exact ih (i+1)
  rw[this];exact h
theorem g6a:S6 B g4t:=by
 refine a5p e6c fun vals bs c x y hp hf=>?_
 unfold d5i at hf
 simp only[] at hf
 split at hf
 ·rename_i F
  cases hF:e6q F with
  | false=>rw[hF] at hf;cases hf
  | true =>
   rw[hF] at hf
   simp only[one,cond_true,Option.some.injEq,Prod.mk.injEq] at hf
   obtain ⟨rfl,rfl,rfl⟩:=hf
   refine P3 C4 a8t e6c (fn:=Tryz.f259) (cd:=A7 Tryz.f259) (sp:=spL [(6,f7r)]) (hn:=B1) (k:=0) (ads:=[.flat 2]) (ends:=[[]]) Tryz.func259 (by kernel_rfl) (by kernel_rfl) (by kernel_rfl) (by kernel_rfl) (B8 (c:=.loop c3j) (by kernel_rfl) g6r C8) rfl rfl (keep (h4r F _) ?_)
   exact ⟨⟨rfl,rfl,hF⟩,rfl,rfl⟩
 ·rename_i b
  simp only[one,Option.some.injEq,Prod.mk.injEq] at hf
  obtain ⟨rfl,rfl,rfl⟩:=hf
  refine P3 C4 a8t e6c (fn:=Tryz.f259) (cd:=A7 Tryz.f259) (sp:=spL [(6,e2a)]) (hn:=B1) (k:=2) (ads:=[.flat 2]) (ends:=[[([0,0],[0,0]),([0,1],[0,1])]]) Tryz.func259 (by kernel_rfl) (by kernel_rfl) (by kernel_rfl) (by kernel_rfl) (B8 (c:=.loop c3j) (by kernel_rfl) g2b C8) rfl rfl (keep (g5s b _) ?_)
  exact ⟨⟨rfl,rfl⟩,rfl,rfl⟩
 ·cases hf
abbrev g3v (plain:Bool) (c:Int):Box:=.cells 239 [A3 0,A9 plain, .d (.lit (.int .u8 c)), .d .any, .d (.slice true 0 [])]
def o4 (c:Int):Bool:= !(c==100||c==119)
def a2u (c:Int):Int:=bif c==110 then 10 else bif c==116 then 9 else bif c==100||c==119 then 0 else c
def a4u (c:Int):Bool:=c==110||(c==116||(c==100||(c==119|| !(R9 c||n7 c))))
def S2 (s:ByteArray) (i:Int):Bool:= !(i==s.size)&&a4u (A6 s i.toNat)
def a3s (s:ByteArray) (i:Int):Int:=bif i==s.size then i else i+1
def f2c:Sm:=⟨fun _ bs=>d5n bs,fun vals bs=>match vals,bs with
 | [.ptr [0,0] 0], [.cells 213 [.d (.lit (.string s)), .d (.lit (.int .i64 i))]]=>some (S2 s i,(.tup [.ptr [2] 0,A9 true], [psB s (i+1)], [g3v (o4 (A6 s i.toNat)) (a2u (A6 s i.toNat))]),(.d (.tup [.lit (.pointer none), .lit (.bool false)]), [psB s (a3s s i)], []))
 | _,_=>none⟩
def g4s:Y7:=g4t.add 261 f2c
def g8d:Nat→Option o9:=fun id=>match id with
 | 6=>some {ads:=[.flatC [25,2] 3] }
 | 8=>some {ads:=[.flatC [29,2] 3] }
 | 10=>some {ads:=[.flatC [35] 3] }
 | 12=>some {ads:=[.flatC [41] 3] }
 | 15=>some {ads:=[.flatC [50,2] 3] }
 | _=>none
def g8q:List (List (B2×B2)):=[[([0,0],[0,0]),([2],[25,2])], [([0,0],[0,0]),([2],[29,2])], [([0,0],[0,0]),([2],[35])], [([0,0],[0,0]),([2],[41])], [([0,0],[0,0]),([2],[50,2])], [([0,0],[0,0])]]
theorem h4p (s : ByteArray) (i : Int) (R : V → List Box → Prop) : (P8 (Cn Q5) Q5 (L6 g4t) 1 C5 g8d [] g8q 261 [V.ptr [0, 0] 0] (L5 [psB s i]) R) =
  (e2t.pre [V.ptr [0, 0] 0] [Box.cells 213 [C9 s, A3 i]] ∧
  (bif i == (↑s.size : Int) then
   R (V.d (D.tup [D.lit (Value.pointer none), oD false]))
  [Box.cells 213 [C9 s, A3 i]] else
   (bif A6 s i.toNat == 110 then
    (e2s.pre [V.d (D.lit (Value.int IntKind.u8 10))] [] ∧
    R (V.tup [V.ptr [2] 0, A9 true])
  [Box.cells 213 [C9 s, A3 (IntKind.i64.wrap (i + 1))],
    Box.cells 239
      [A3 0, A9 true, V.d (D.lit (Value.int IntKind.u8 10)),
        V.d D.any, V.d (D.slice true 0 [])]]) else
    (bif A6 s i.toNat == 116 then
     (e2s.pre [V.d (D.lit (Value.int IntKind.u8 9))] [] ∧
     R (V.tup [V.ptr [2] 0, A9 true])
  [Box.cells 213 [C9 s, A3 (IntKind.i64.wrap (i + 1))],
    Box.cells 239
      [A3 0, A9 true, V.d (D.lit (Value.int IntKind.u8 9)),
        V.d D.any, V.d (D.slice true 0 [])]]) else
     (bif A6 s i.toNat == 100 then
      (d5i.pre [V.fn (Fn.func 269) [] []] [] ∧
      R (V.tup [V.ptr [2] 0, A9 true])
  [Box.cells 213 [C9 s, A3 (IntKind.i64.wrap (i + 1))],
    Box.cells 239
      [A3 0, A9 false, V.d (D.lit (Value.int IntKind.u8 0)),
        V.d D.any, V.d (D.slice true 0 [])]]) else
      (bif A6 s i.toNat == 119 then
       (d5i.pre [V.fn (Fn.func 270) [] []] [] ∧
       R (V.tup [V.ptr [2] 0, A9 true])
  [Box.cells 213 [C9 s, A3 (IntKind.i64.wrap (i + 1))],
    Box.cells 239
      [A3 0, A9 false, V.d (D.lit (Value.int IntKind.u8 0)),
        V.d D.any, V.d (D.slice true 0 [])]]) else
       (True ∧
       (((!R9 (A6 s i.toNat) && true) = true → True) ∧
       (bif bif R9 (A6 s i.toNat) then true else n7 (A6 s i.toNat) then
        R (V.d (D.tup [D.lit (Value.pointer none), oD false]))
  [Box.cells 213 [C9 s, A3 (IntKind.i64.wrap (i + 1))]] else
        (e2s.pre [V.d (D.lit (Value.int IntKind.u8 (A6 s i.toNat)))] [] ∧
        R (V.tup [V.ptr [2] 0, A9 true])
  [Box.cells 213 [C9 s, A3 (IntKind.i64.wrap (i + 1))],
    Box.cells 239
      [A3 0, A9 true,
        V.d (D.lit (Value.int IntKind.u8 (A6 s i.toNat))), V.d D.any, V.d (D.slice true 0 [])]])))))))))) := by kernel_rfl
def M0 (s:ByteArray) (i:Int):Bool:= !(i==s.size)&&(!(A6 s i.toNat==93)&&(A6 s i.toNat !=92||(S2 s (i+1)&&o4 (A6 s (i+1).toNat))))
def n6 (s:ByteArray) (i:Int):Int:=bif A6 s i.toNat !=92 then A6 s i.toNat else a2u (A6 s (i+1).toNat)
def F7 (s:ByteArray) (i:Int):Int:=bif A6 s i.toNat !=92 then i+1 else i+1+1
def Y0 (s:ByteArray) (i:Int):Int:=bif i==s.size then i else bif A6 s i.toNat==93 then i else bif S2 s (i+1) then i+1+1 else a3s s (i+1)
def f2b:Sm:=⟨fun _ bs=>d5n bs,fun vals bs=>match vals,bs with
 | [.ptr [0,0] 0], [.cells 213 [.d (.lit (.string s)), .d (.lit (.int .i64 i))]]=>some (M0 s i,(.d (.tup [.lit (.int .u8 (n6 s i)), .lit (.bool true)]), [psB s (F7 s i)], []),(.d (.tup [.lit (.int .u8 0), .lit (.bool false)]), [psB s (Y0 s i)], []))
 | _,_=>none⟩
def e9h:Y7:=g4s.add 266 f2b
theorem h4n (s : ByteArray) (i : Int) (R : V → List Box → Prop) : (P8 (Cn Q5) Q5 (L6 g4s) 1 C5 B1 [] e00 266 [V.ptr [0, 0] 0] (L5 [psB s i]) R) =
  (e2t.pre [V.ptr [0, 0] 0] [Box.cells 213 [C9 s, A3 i]] ∧
  (bif i == (↑s.size : Int) then
   R (V.d (D.tup [D.lit (Value.int IntKind.u8 0), oD false]))
  [Box.cells 213 [C9 s, A3 i]] else
   (bif bif false then true else A6 s i.toNat == 93 then
    R (V.d (D.tup [D.lit (Value.int IntKind.u8 0), oD false]))
  [Box.cells 213 [C9 s, A3 i]] else
    (bif A6 s i.toNat != 92 then
     R (V.d (D.tup [D.lit (Value.int IntKind.u8 (A6 s i.toNat)), oD true]))
  [Box.cells 213 [C9 s, A3 (IntKind.i64.wrap (i + 1))]] else
     (f2c.pre [V.ptr [0, 0] 0]
  [Box.cells 213 [C9 s, A3 (IntKind.i64.wrap (i + 1))]] ∧
     (bif S2 s (IntKind.i64.wrap (i + 1)) then
      (bif bif false then true else !o4 (A6 s (IntKind.i64.wrap (i + 1)).toNat) then
       R (V.d (D.tup [D.lit (Value.int IntKind.u8 0), oD false]))
  [Box.cells 213 [C9 s, A3 (IntKind.i64.wrap (i + 1) + 1)]] else
       R
  (V.d
    (D.tup
      [D.lit (Value.int IntKind.u8 (a2u (A6 s (IntKind.i64.wrap (i + 1)).toNat))), oD true]))
  [Box.cells 213 [C9 s, A3 (IntKind.i64.wrap (i + 1) + 1)]]) else
      ((false = true → False) ∧
      ((false = true → False) ∧
      ((false = true → False) ∧
      ((false = true → False) ∧
      (true = true ∧
      R (V.d (D.tup [D.lit (Value.int IntKind.u8 0), oD false]))
  [Box.cells 213
      [C9 s, A3 (a3s s (IntKind.i64.wrap (i + 1)))]]))))))))))) := by kernel_rfl
theorem g5z:S6 B g4s:=by
 refine a5p g6a fun vals bs c x y hp hf=>?_
 unfold f2c at hp hf
 simp only[] at hp hf
 split at hf
 case h_2=>cases hf
 rename_i s i
 simp only[Option.some.injEq,Prod.mk.injEq] at hf
 obtain ⟨rfl,rfl,rfl⟩:=hf
 obtain ⟨h0,h1,h2⟩:=hp
 refine P3 C4 a8t g6a (fn:=Tryz.f261) (cd:=A7 Tryz.f261) (sp:=C5) (hn:=g8d) (k:=1) (ads:=[]) (ends:=g8q) Tryz.func261 (by kernel_rfl) (by kernel_rfl) (by kernel_rfl) (by kernel_rfl) A8 rfl (by cases S2 s i<;>rfl) (keep (h4p s i _) ?_)
 rw[d7w h0 h1 h2]
 refine ⟨⟨h0,h1,h2⟩, ?_⟩
 refine A4 (fun g1=>?_) (fun g1=>?_)
 ·have e:S2 s i=false:=by simp[S2,g1]
  have e2:a3s s i=i:=by simp[a3s,g1]
  rw[e,e2];exact ⟨rfl,rfl⟩
 have ea:a3s s i=i+1:=by simp[a3s,g1]
 refine A4 (fun g2=>?_) (fun g2=>?_)
 ·have hc:A6 s i.toNat=110:=by simpa using g2
  have e:S2 s i=true:=by simp[S2,g1,a4u,hc]
  rw[e,hc];exact ⟨trivial,rfl,rfl⟩
 refine A4 (fun g3=>?_) (fun g3=>?_)
 ·have hc:A6 s i.toNat=116:=by simpa using g3
  have e:S2 s i=true:=by simp[S2,g1,a4u,hc]
  rw[e,hc];exact ⟨trivial,rfl,rfl⟩
 refine A4 (fun g4=>?_) (fun g4=>?_)
 ·have hc:A6 s i.toNat=100:=by simpa using g4
  have e:S2 s i=true:=by simp[S2,g1,a4u,hc]
  rw[e,hc];exact ⟨trivial,rfl,rfl⟩
 refine A4 (fun g5=>?_) (fun g5=>?_)
 ·have hc:A6 s i.toNat=119:=by simpa using g5
  have e:S2 s i=true:=by simp[S2,g1,a4u,hc]
  rw[e,hc];exact ⟨trivial,rfl,rfl⟩
 refine ⟨trivial,fun _=>trivial, ?_⟩
 refine A4 (fun g6=>?_) (fun g6=>?_)
 ·have e:S2 s i=false:=by
   simp only[S2,a4u,g1,g2,g3,g4,g5]
   revert g6
   cases R9 (A6 s i.toNat)<;>cases n7 (A6 s i.toNat)<;>simp
  rw[e,ea];exact ⟨rfl,rfl⟩
 ·have e:S2 s i=true:=by
   simp only[S2,a4u,g1,g2,g3,g4,g5]
   revert g6
   cases R9 (A6 s i.toNat)<;>cases n7 (A6 s i.toNat)<;>simp
  have e2:o4 (A6 s i.toNat)=true:=by simp only[o4,g4,g5];rfl
  have e3:a2u (A6 s i.toNat)=A6 s i.toNat:=by simp only[a2u,g2,g3,g4,g5];rfl
  rw[e,e2,e3];exact ⟨trivial,rfl,rfl⟩
theorem e2y:S6 B e9h:=by
 refine a5p g5z fun vals bs c x y hp hf=>?_
 unfold f2b at hp hf
 simp only[] at hp hf
 split at hf
 case h_2=>cases hf
 rename_i s i
 simp only[Option.some.injEq,Prod.mk.injEq] at hf
 obtain ⟨rfl,rfl,rfl⟩:=hf
 obtain ⟨h0,h1,h2⟩:=hp
 refine P3 C4 a8t g5z (fn:=Tryz.f266) (cd:=A7 Tryz.f266) (sp:=C5) (hn:=B1) (k:=1) (ads:=[]) (ends:=e00) Tryz.func266 (by kernel_rfl) (by kernel_rfl) (by kernel_rfl) a7g A8 rfl (by cases M0 s i<;>rfl) (keep (h4n s i _) ?_)
 rw[d7w h0 h1 h2]
 refine ⟨⟨h0,h1,h2⟩, ?_⟩
 refine A4 (fun g1=>?_) (fun g1=>?_)
 ·have e:M0 s i=false:=by simp[M0,g1]
  have e2:Y0 s i=i:=by simp[Y0,g1]
  rw[e,e2];exact ⟨rfl,rfl⟩
 have hne:i≠s.size:=by simpa using g1
 refine A4 (fun g2=>?_) (fun g2=>?_)
 ·have e:M0 s i=false:=by simp only[M0,g1,cond_false] at g2 ⊢;rw[g2];rfl
  have e2:Y0 s i=i:=by simp only[cond_false] at g2;simp only[Y0,g1,g2,cond_false,cond_true]
  rw[e,e2];exact ⟨rfl,rfl⟩
 simp only[cond_false] at g2
 refine A4 (fun g3=>?_) (fun g3=>?_)
 ·have e:M0 s i=true:=by simp only[M0,g1,g2,g3];rfl
  rw[e];simp only[n6,F7,g3];exact ⟨rfl,rfl⟩
 refine ⟨⟨by omega,by omega,h2⟩, ?_⟩
 refine A4 (fun g4=>?_) (fun g4=>?_)
 ·refine A4 (fun g5=>?_) (fun g5=>?_)
  ·simp only[cond_false] at g5
   have g5:o4 (A6 s (i+1).toNat)=false:=by simpa using g5
   have e:M0 s i=false:=by simp only[M0,g1,g2,g3,g4,g5];rfl
   have e2:Y0 s i=i+1+1:=by simp only[Y0,g1,g2,g4,cond_false,cond_true]
   rw[e,e2];exact ⟨rfl,rfl⟩
  ·simp only[cond_false] at g5
   have g5:o4 (A6 s (i+1).toNat)=true:=by simpa using g5
   have e:M0 s i=true:=by simp only[M0,g1,g2,g3,g4,g5];rfl
   rw[e];simp only[n6,F7,g3];exact ⟨rfl,rfl⟩
 ·have e:M0 s i=false:=by simp only[M0,g1,g2,g3,g4];rfl
  have e2:Y0 s i=a3s s (i+1):=by simp only[Y0,g1,g2,g4,cond_false]
  rw[e,e2]
  exact ⟨fun h=>(by cases h),fun h=>(by cases h),fun h=>(by cases h),fun h=>(by cases h),rfl,rfl,rfl⟩
abbrev nm3:List (B2×B2):=[([0,0],[0,0]),([5000],[5000]),([5001],[5001])]
noncomputable def b2i:Code:=D6 (C6 (A7 Tryz.f258) 8)
noncomputable def d8o (c:Code) (a:Nat):Code:=match (H8 true c).find? (fun p=>p.1==a) with|some p=>p.2.2|none=>.skip
noncomputable def d9a:Code:=D6 (d8o b2i 32)
abbrev bx3 (s:ByteArray) (i:Int) (b:Bool):List Box:=[psB s i, .bools 289 256, .cells 4 [A9 b]]
abbrev pt3:List V:=[.ptr [0,0] 0, .ptr [5001] 0, .ptr [5000] 0]
theorem f9e (s:ByteArray) (i:Int) (l:Int) (c:Int) (b:Bool) (R:X→List V→List Box→Prop):(D7 (Cn Q5) Q5 (L6 e9h) 1 C5 B1 d9a 60 [0,4,5,9,10] [[0,0], [5000], [5001]] [] nm3 [0,4,5] nm3
 [V.ptr [0,0] 0,V.ptr [5001] 0,V.ptr [5000] 0,V.d (D.lit (Value.int IntKind.u8 l)),A3 c] (bx3 s i b) R) =
 (bif decide (c≤IntKind.i64.wrap l) then
 ((((0:Int)≤c)∧c.toNat<256)∧
 (0+c.toNat*1<256∧
 (60=60∧
 R X.normal
 [V.ptr [0,0] 0,V.ptr [5001] 0,V.ptr [5000] 0,V.d (D.lit (Value.int IntKind.u8 l)),
 A3 (IntKind.i64.wrap (c+1))]
 [Box.cells 213 [C9 s,A3 i],Box.bools 289 256,
 Box.cells 4 [A9 b]]))) else
 (60=60∧
 R (X.exit 2) [V.ptr [0,0] 0,V.ptr [5001] 0,V.ptr [5000] 0]
 [Box.cells 213 [C9 s,A3 i],Box.bools 289 256,
 Box.cells 4 [A9 b]])):=by kernel_rfl
def e2c:Ev.Spec:={L:=[0,4,5,9,10],ns:=nm3,L':=[0,4,5],nm':=[[0,0],[5000],[5001]],G:=fun N vals bs k=>match vals,bs with
 | [.ptr [0,0] 0, .ptr [5001] 0, .ptr [5000] 0, .d (.lit (.int .u8 l)), .d (.lit (.int .i64 c))], [.cells 213 [.d (.lit (.string s)), .d (.lit (.int .i64 i))], .bools 289 256, .cells 4 [.d (.lit (.bool b))]]=>(N=60∧0≤c∧c<256∧0≤l∧l<256)∧k (.exit 2) pt3 (bx3 s i b)
 | _,_=>False }
theorem f9d (s:ByteArray) (i:Int) (b:Bool) (e:Bool) (R:X→List V→List Box→Prop):(D7 (Cn Q5) Q5 (L6 e9h) 1 (spL [(32,e2c)]) B1 b2i 60 [0,4,5,6] [[0,0], [5000], [5001]] [] nm3
 [2,3,4,5] nm3 [V.ptr [0,0] 0,V.ptr [5001] 0,V.ptr [5000] 0,A9 e] (bx3 s i b) R) =
 (bif !e then
 (f2b.pre [V.ptr [0,0] 0] [Box.cells 213 [C9 s,A3 i]]∧
 (bif M0 s i then
 (f9t.pre [V.ptr [0,0] 0]
 [Box.cells 213 [C9 s,A3 (F7 s i)]]∧
 (bif a3j s (F7 s i) then
 (f2b.pre [V.ptr [0,0] 0]
 [Box.cells 213
 [C9 s,A3 (IntKind.i64.wrap (F7 s i+1))]]∧
 (bif M0 s (IntKind.i64.wrap (F7 s i+1)) then
 (bif bif false then true else decide (n6 s (IntKind.i64.wrap (F7 s i+1))<n6 s i) then
 (60=60∧
 R X.ret [V.d (D.lit (Value.pointer none)),A9 false,V.ptr [5001] 0,V.ptr [5000] 0]
 [Box.cells 213
 [C9 s,
 A3 (F7 s (IntKind.i64.wrap (F7 s i+1)))],
 Box.bools 289 256,Box.cells 4 [A9 b]]) else
 ((60=60∧(((0:Int)≤IntKind.i64.wrap (n6 s i))∧(((IntKind.i64.wrap (n6 s i):Int)<256)∧(((0:Int)≤n6 s (IntKind.i64.wrap (F7 s i+1)))∧((n6 s (IntKind.i64.wrap (F7 s i+1)):Int)<256)))))∧
 (b8q.pre [V.ptr [0,0] 0,V.d (D.lit (Value.int IntKind.u8 93))]
 [Box.cells 213
 [C9 s,
 A3 (F7 s (IntKind.i64.wrap (F7 s i+1)))]]∧
 (bif J8 s (F7 s (IntKind.i64.wrap (F7 s i+1))) 93 then
 (60=60∧
 R X.normal [V.ptr [0,0] 0,V.ptr [5001] 0,V.ptr [5000] 0,A9 true]
 [Box.cells 213
 [C9 s,
 A3 (F7 s (IntKind.i64.wrap (F7 s i+1))+1)],
 Box.bools 289 256,Box.cells 4 [A9 b]]) else
 (60=60∧
 R X.normal [V.ptr [0,0] 0,V.ptr [5001] 0,V.ptr [5000] 0,A9 false]
 [Box.cells 213
 [C9 s,
 A3 (F7 s (IntKind.i64.wrap (F7 s i+1)))],
 Box.bools 289 256,Box.cells 4 [A9 b]]))))) else
 (60=60∧
 R X.ret [V.d (D.lit (Value.pointer none)),A9 false,V.ptr [5001] 0,V.ptr [5000] 0]
 [Box.cells 213
 [C9 s,
 A3 (Y0 s (IntKind.i64.wrap (F7 s i+1)))],
 Box.bools 289 256,Box.cells 4 [A9 b]]))) else
 ((60=60∧(((0:Int)≤IntKind.i64.wrap (n6 s i))∧(((IntKind.i64.wrap (n6 s i):Int)<256)∧(((0:Int)≤n6 s i)∧((n6 s i:Int)<256)))))∧
 (b8q.pre [V.ptr [0,0] 0,V.d (D.lit (Value.int IntKind.u8 93))]
 [Box.cells 213 [C9 s,A3 (F7 s i)]]∧
 (bif J8 s (F7 s i) 93 then
 (60=60∧
 R X.normal [V.ptr [0,0] 0,V.ptr [5001] 0,V.ptr [5000] 0,A9 true]
 [Box.cells 213 [C9 s,A3 (F7 s i+1)],
 Box.bools 289 256,Box.cells 4 [A9 b]]) else
 (60=60∧
 R X.normal [V.ptr [0,0] 0,V.ptr [5001] 0,V.ptr [5000] 0,A9 false]
 [Box.cells 213 [C9 s,A3 (F7 s i)],Box.bools 289 256,
 Box.cells 4 [A9 b]])))))) else
 (60=60∧
 R X.ret [V.d (D.lit (Value.pointer none)),A9 false,V.ptr [5001] 0,V.ptr [5000] 0]
 [Box.cells 213 [C9 s,A3 (Y0 s i)],Box.bools 289 256,
 Box.cells 4 [A9 b]]))) else
 (60=60∧
 R (X.exit 0) [V.any,V.any,V.ptr [5001] 0,V.ptr [5000] 0]
 [Box.cells 213 [C9 s,A3 i],Box.bools 289 256,
 Box.cells 4 [A9 b]])):=by kernel_rfl
def L0 (s : ByteArray) (i : Int) : Bool × Int :=
 bif M0 s i then
  (bif a3j s (F7 s i) then
   (bif M0 s (F7 s i + 1) then (!decide (n6 s (F7 s i + 1) < n6 s i), F7 s (F7 s i + 1)) else (false, Y0 s (F7 s i + 1)))
  else (true, F7 s i))
 else (false, Y0 s i)
def brR (s:ByteArray):Nat→Int→Bool×Int
 | 0,i=>(false,i)
 | n+1,i=>bif (L0 s i).1 then (bif J8 s (L0 s i).2 93 then (true,(L0 s i).2+1) else brR s n (L0 s i).2) else (false,(L0 s i).2)
def brS (s:ByteArray) (i:Int):Bool×Int:=brR s 201 (bif J8 s i 94 then i+1 else i)
def e2b:Ev.Spec:={L:=[0,4,5,6],ns:=[([0,0],[0,0]),([5000],[7]),([5001],[6])],ads:=[.bools [7]],L':=[2,3,4,5],nm':=[[0,0],[5000],[5001]],G:=fun N vals bs k=>match vals,bs with
 | [.ptr [0,0] 0, .ptr [5001] 0, .ptr [5000] 0, .d (.lit (.bool false))], [.cells 213 [.d (.lit (.string s)), .d (.lit (.int .i64 i))], .bools 289 256, .cells 4 [.d (.lit (.bool b))]]=>(N=60∧0≤i∧i≤s.size∧s.size≤200)∧
  (bif (brR s 201 i).1 then k (.exit 0) [.any, .any, .ptr [5001] 0, .ptr [5000] 0] (bx3 s (brR s 201 i).2 b) else k .ret [.d (.lit (.pointer none)),A9 false, .ptr [5001] 0, .ptr [5000] 0] (bx3 s (brR s 201 i).2 b))
 | _,_=>False }
def f9u:Sm:=⟨fun _ bs=>d5n bs,fun vals bs=>match vals,bs with
 | [.ptr [0,0] 0], [.cells 213 [.d (.lit (.string s)), .d (.lit (.int .i64 i))]]=>one (.d (.tup [.any, .lit (.bool (brS s i).1)])) [psB s (brS s i).2] []
 | _,_=>none⟩
def g4u:Y7:=e9h.add 258 f9u
theorem h4s (s:ByteArray) (i:Int) (R:V→List Box→Prop):(P8 (Cn Q5) Q5 (L6 e9h) 1 (spL [(8,e2b)]) B1 [Ad.flat 2] e00 258 [V.ptr [0,0] 0] (L5 [psB s i]) R) =
 (b8q.pre [V.ptr [0,0] 0,V.d (D.lit (Value.int IntKind.u8 94))]
 [Box.cells 213 [C9 s,A3 i]]∧
 (bif J8 s i 94 then
 ((60=60∧(((0:Int)≤i+1)∧(((i+1:Int)≤(↑s.size:Int))∧s.size≤200)))∧
 (bif (brR s 201 (i+1)).fst then
 (d5i.pre [V.fn (Fn.func 268) [] [V.ptr [0,0] 0,V.ptr [0,1] 0]]
 [Box.bools 289 256,Box.cells 4 [A9 true]]∧
 R (V.d (D.tup [D.any,oD true]))
 [Box.cells 213 [C9 s,A3 ((brR s 201 (i+1)).snd)]]) else
 R (V.d (D.tup [D.any,oD false]))
 [Box.cells 213 [C9 s,A3 ((brR s 201 (i+1)).snd)]])) else
 ((60=60∧(((0:Int)≤i)∧(((i:Int)≤(↑s.size:Int))∧s.size≤200)))∧
 (bif (brR s 201 i).fst then
 (d5i.pre [V.fn (Fn.func 268) [] [V.ptr [0,0] 0,V.ptr [0,1] 0]]
 [Box.bools 289 256,Box.cells 4 [A9 false]]∧
 R (V.d (D.tup [D.any,oD true]))
 [Box.cells 213 [C9 s,A3 ((brR s 201 i).snd)]]) else
 R (V.d (D.tup [D.any,oD false]))
 [Box.cells 213 [C9 s,A3 ((brR s 201 i).snd)]])))):=by kernel_rfl
theorem j6 (s:ByteArray) (k:Nat):0≤A6 s k∧A6 s k<256:=by
 unfold A6
 have:=(s.data.toList.getD k 0).toNat_lt
 omega
theorem d6s {c:Int} (h:0≤c∧c<256):0≤a2u c∧a2u c<256:=by
 unfold a2u
 cases (c==110)<;>cases (c==116)<;>cases (c==100||c==119)<;>simp<;>omega
theorem d2k (s:ByteArray) (i:Int):0≤n6 s i∧n6 s i<256:=by
 unfold n6
 cases (A6 s i.toNat !=92) with
 | true=>exact j6 _ _
 | false=>exact d6s (j6 _ _)
theorem b5r {s:ByteArray} {i:Int} (h:S2 s i=true):i≠s.size:=by
 unfold S2 at h
 simp at h;exact h.1
theorem b5s {s:ByteArray} {i:Int} (h0:0≤i) (h1:i≤s.size):0≤a3s s i∧a3s s i≤s.size:=by
 unfold a3s
 cases h:(i==(s.size:Int)) with
 | true=>simp;omega
 | false =>
  have:i≠s.size:=by simpa using h
  simp;omega
theorem a4q {s:ByteArray} {i:Int} (h:M0 s i=true) (h0:0≤i) (h1:i≤s.size):i<F7 s i∧F7 s i≤s.size:=by
 unfold M0 at h
 simp only[Bool.and_eq_true,Bool.not_eq_true'] at h
 have hne:i≠s.size:=by simpa using h.1
 unfold F7
 cases hb:(A6 s i.toNat !=92) with
 | true=>simp;omega
 | false =>
  rw[hb] at h
  simp only[Bool.false_or,Bool.and_eq_true] at h
  have:=b5r h.2.2.1
  simp;omega
theorem b9t {s:ByteArray} {i:Int} (h0:0≤i) (h1:i≤s.size):0≤Y0 s i∧Y0 s i≤s.size:=by
 unfold Y0
 cases h:(i==(s.size:Int)) with
 | true=>simp;omega
 | false =>
  have hne:i≠s.size:=by simpa using h
  cases (A6 s i.toNat==93) with
  | true=>simp;omega
  | false =>
   cases h2:S2 s (i+1) with
   | true=>have:=b5r h2;simp;omega
   | false=>simpa using b5s (by omega:0≤i+1) (by omega)
theorem b2p {s:ByteArray} {i:Int} (h:a3j s i=true):i+1<s.size:=by
 unfold a3j at h
 simp only[Bool.and_eq_true,decide_eq_true_eq] at h
 exact h.1
theorem X5 {s:ByteArray} {i c:Int} (h:J8 s i c=true) (h1:i≤s.size):i+1≤s.size:=by
 unfold J8 at h
 simp only[Bool.and_eq_true,Bool.not_eq_true'] at h
 have hne:i≠s.size:=by simpa using h.1
 omega
theorem b3d {s:ByteArray} {i:Int} (h0:0≤i) (h1:i≤s.size):0≤(L0 s i).2∧(L0 s i).2≤s.size∧((L0 s i).1=true→i<(L0 s i).2):=by
 unfold L0
 cases h:M0 s i with
 | false=>have:=b9t h0 h1;simp;omega
 | true =>
  have p1:=a4q h h0 h1
  simp only[cond_true]
  cases h2:a3j s (F7 s i) with
  | false=>simp;omega
  | true =>
   have p2:=b2p h2
   simp only[cond_true]
   cases h3:M0 s (F7 s i+1) with
   | false=>have:=b9t (s:=s) (i:=F7 s i+1) (by omega) (by omega);simp;omega
   | true=>have:=a4q h3 (by omega) (by omega);simp;omega
theorem c4y {s:ByteArray} {i:Int} (h0:0≤i) (h1:i≤s.size):i≤Y0 s i:=by
 unfold Y0 a3s
 cases (i==(s.size:Int))<;>cases (A6 s i.toNat==93)<;>cases S2 s (i+1)<;>cases (i+1==(s.size:Int))<;>simp<;>omega
theorem e5c {s:ByteArray} {i:Int} (h0:0≤i) (h1:i≤s.size):i≤(L0 s i).2:=by
 unfold L0
 cases h:M0 s i with
 | false=>simpa using c4y h0 h1
 | true =>
  have p1:=a4q h h0 h1
  simp only[cond_true]
  cases h2:a3j s (F7 s i) with
  | false=>simp;omega
  | true =>
   have p2:=b2p h2
   simp only[cond_true]
   cases h3:M0 s (F7 s i+1) with
   | false=>have:=c4y (s:=s) (i:=F7 s i+1) (by omega) (by omega);simp;omega
   | true=>have:=a4q h3 (by omega) (by omega);simp;omega
theorem b7q {s:ByteArray}:∀{n:Nat} {i:Int},0≤i→i≤s.size→0≤(brR s n i).2∧(brR s n i).2≤s.size
 | 0,i,h0,h1=>⟨h0,h1⟩
 | n+1,i,h0,h1=>by
  have p:=b3d h0 h1
  unfold brR
  cases h:(L0 s i).1 with
  | false=>simp;omega
  | true =>
   simp only[cond_true]
   cases h2:J8 s (L0 s i).2 93 with
   | true=>have:=X5 h2 p.2.1;simp;omega
   | false=>simpa using b7q p.1 p.2.1
theorem d7b {s:ByteArray} {a:Int}:∀{n:Nat} {i:Int},0≤i→i≤s.size→a≤i→a≤(brR s n i).2∧(brR s n i).2≤s.size
 | 0,i,h0,h1,h2=>⟨h2,h1⟩
 | n+1,i,h0,h1,h2=>by
  have p:=b3d h0 h1
  have p2:=e5c h0 h1
  unfold brR
  cases h:(L0 s i).1 with
  | false=>simp;omega
  | true =>
   simp only[cond_true]
   cases h3:J8 s (L0 s i).2 93 with
   | true=>have:=X5 h3 p.2.1;simp;omega
   | false=>simpa using d7b p.1 p.2.1 (by omega)
theorem a2k {i:Int} (h0:0≤i) (h1:i≤1000):IntKind.i64.wrap i=i:=by rw[Go.IntWalk.i64_in _ (by omega)]
theorem g2d:OkS (Cn Q5) 1 (.loop d9a) e2c:=by
 refine D2 fun N vals bs K h=>?_
 simp only[e2c] at h
 split at h
 case h_2=>exact h.elim
 rename_i l c s i b
 obtain ⟨⟨rfl,h0,h1,h2,h3⟩,h⟩:=h
 have key:∀(n:Nat) (c:Int),0≤c→c≤256→l+1-c≤n→J5 (Cn Q5) 1 d9a 60 [0,4,5,9,10] [[0,0],[5000],[5001]] [0,4,5] [[0,0],[5000],[5001]] [.ptr [0,0] 0, .ptr [5001] 0, .ptr [5000] 0, .d (.lit (.int .u8 l)),A3 c] (bx3 s i b) K:=by
  intro n
  induction n with
  | zero =>
   intro c c0 c1 cn
   refine B6 (U8 C4 a8t e2y) C1 A8 (hn:=B1) (adsI:=[]) (nsI:=nm3) (nsX:=nm3) rfl rfl (keep (f9e s i l c b _) ?_)
   rw[a2k h2 (by omega)]
   have e:decide (c≤l)=false:=by simp;omega
   rw[e];exact ⟨rfl,h⟩
  | succ n ih =>
   intro c c0 c1 cn
   refine B6 (U8 C4 a8t e2y) C1 A8 (hn:=B1) (adsI:=[]) (nsI:=nm3) (nsX:=nm3) rfl rfl (keep (f9e s i l c b _) ?_)
   rw[a2k h2 (by omega),a2k (i:=c+1) (by omega) (by omega)]
   refine A4 (fun g=>?_) (fun g=>⟨rfl,h⟩)
   have g:=of_decide_eq_true g
   exact ⟨⟨c0,by omega⟩,by omega,rfl,ih (c+1) (by omega) (by omega) (by omega)⟩
 exact key (l+1-c).toNat c h0 (by omega) (by omega)
theorem e2z:((H8 true b2i).filter fun p=>p.1==32).map (fun p=>p.2.2)= [.loop d9a]:=by kernel_rfl
theorem g2c : OkS (Cn Q5) 1 (.loop b2i) e2b := by
  refine D2 fun N vals bs K h => ?_
  simp only [e2b] at h
  split at h
  case h_2 => exact h.elim
  rename_i s i b
  obtain ⟨⟨rfl, h0, h1, h2⟩, h⟩ := h
  have sp : o8 (Cn Q5) 1 (spL [(32, e2c)]) (H8 true b2i) := B8 e2z g2d C8
  have fin : ∀ (j : Int), K (.exit 0) [.any, .any, .ptr [5001] 0, .ptr [5000] 0] (bx3 s j b) → J5 (Cn Q5) 1 b2i 60 [0,4,5,6] [[0,0],[5000],[5001]] [2,3,4,5] [[0,0],[5000],[5001]] [.ptr [0,0] 0, .ptr [5001] 0, .ptr [5000] 0, A9 true] (bx3 s j b) K := by
    intro j hj
    refine B6 (U8 C4 a8t e2y) C1 sp (hn := B1) (adsI := []) (nsI := nm3) (nsX := nm3) rfl rfl (keep (f9d s j b true _) ?_)
    exact ⟨rfl, hj⟩
  have key : ∀ (n : Nat) (i : Int), 0 ≤ i → i ≤ s.size → s.size - i < n →
      (bif (brR s n i).1 then K (.exit 0) [.any, .any, .ptr [5001] 0, .ptr [5000] 0] (bx3 s (brR s n i).2 b) else K .ret [.d (.lit (.pointer none)), A9 false, .ptr [5001] 0, .ptr [5000] 0] (bx3 s (brR s n i).2 b)) →
      J5 (Cn Q5) 1 b2i 60 [0,4,5,6] [[0,0],[5000],[5001]] [2,3,4,5] [[0,0],[5000],[5001]] [.ptr [0,0] 0, .ptr [5001] 0, .ptr [5000] 0, A9 false] (bx3 s i b) K := by
    intro n
    induction n with
    | zero => intro i a0 a1 a2; omega
    | succ n ih =>
      intro i a0 a1 a2 hk
      have p := b3d a0 a1
      unfold brR at hk
      refine B6 (U8 C4 a8t e2y) C1 sp (hn := B1) (adsI := []) (nsI := nm3) (nsX := nm3) rfl rfl (keep (f9d s i b false _) ?_)
      have hc := d2k s i
      -- what comes behind an item or a range
      have next : ∀ j : Int, L0 s i = (true, j) → (b8q.pre [V.ptr [0, 0] 0, V.d (D.lit (Value.int IntKind.u8 93))] [psB s j] ∧
          (bif J8 s j 93 then (60 = 60 ∧ J5 (Cn Q5) 1 b2i 60 [0,4,5,6] [[0,0],[5000],[5001]] [2,3,4,5] [[0,0],[5000],[5001]] [.ptr [0,0] 0, .ptr [5001] 0, .ptr [5000] 0, A9 true] (bx3 s (j + 1) b) K)
           else (60 = 60 ∧ J5 (Cn Q5) 1 b2i 60 [0,4,5,6] [[0,0],[5000],[5001]] [2,3,4,5] [[0,0],[5000],[5001]] [.ptr [0,0] 0, .ptr [5001] 0, .ptr [5000] 0, A9 false] (bx3 s j b) K))) := by
        intro j hj
        rw [hj] at hk p
        simp only [cond_true] at hk
        refine ⟨⟨p.1, p.2.1, h2⟩, A4 (fun g => ⟨rfl, fin _ ?_⟩) (fun g => ⟨rfl, ih j p.1 p.2.1 (by have := p.2.2 rfl; simp only [] at this; omega) ?_⟩)⟩
        · rw [g] at hk; exact hk
        · rw [g] at hk; exact hk
      have fail : ∀ j : Int, L0 s i = (false, j) → K .ret [.d (.lit (.pointer none)), A9 false, .ptr [5001] 0, .ptr [5000] 0] (bx3 s j b) := by
        intro j hj
        rw [hj] at hk
        exact hk
      refine ⟨⟨a0, a1, h2⟩, A4 (fun g1 => ?_) (fun g1 => ⟨rfl, fail _ (by simp only [L0, g1, cond_false])⟩)⟩
      have p1 := a4q g1 a0 a1
      refine ⟨⟨by omega, p1.2, h2⟩, A4 (fun g2 => ?_) (fun g2 => ?_)⟩
      · have p2 := b2p g2
        rw [a2k (i := F7 s i + 1) (by omega) (by omega)]
        have hc2 := d2k s (F7 s i + 1)
        refine ⟨⟨by omega, by omega, h2⟩, A4 (fun g3 => ?_) (fun g3 => ⟨rfl, fail _ (by simp only [L0, g1, g2, g3, cond_true, cond_false])⟩)⟩
        refine A4 (fun g4 => ⟨rfl, fail _ (by simp only [cond_false] at g4; simp only [L0, g1, g2, g3, g4, cond_true, Bool.not_true])⟩) (fun g4 => ?_)
        rw [a2k hc.1 (by omega)]
        exact ⟨⟨rfl, hc.1, hc.2, hc2.1, hc2.2⟩, next _ (by simp only [cond_false] at g4; simp only [L0, g1, g2, g3, g4, cond_true, Bool.not_false])⟩
      · rw [a2k hc.1 (by omega)]
        exact ⟨⟨rfl, hc.1, hc.2, hc.1, hc.2⟩, next _ (by simp only [L0, g1, g2, cond_true, cond_false])⟩
  exact key 201 i h0 h1 (by omega) h
theorem h7g:S6 B g4u:=by
 refine a5p e2y fun vals bs c x y hp hf=>?_
 unfold f9u at hp hf
 simp only[] at hp hf
 split at hf
 case h_2=>cases hf
 rename_i s i
 simp only[one,Option.some.injEq,Prod.mk.injEq] at hf
 obtain ⟨rfl,rfl,rfl⟩:=hf
 obtain ⟨h0,h1,h2⟩:=hp
 refine P3 C4 a8t e2y (fn:=Tryz.f258) (cd:=A7 Tryz.f258) (sp:=spL [(8,e2b)]) (hn:=B1) (k:=1) (ads:=[.flat 2]) (ends:=e00) Tryz.func258 (by kernel_rfl) (by kernel_rfl) (by kernel_rfl) a7g (B8 (c:=.loop b2i) (by kernel_rfl) g2c C8) rfl rfl (keep (h4s s i _) ?_)
 refine ⟨⟨h0,h1,h2⟩,A4 (fun g=>?_) (fun g=>?_)⟩
 ·have e:brS s i=brR s 201 (i+1):=by simp only[brS,g,cond_true]
  rw[e]
  refine ⟨⟨rfl,by omega,X5 g h1,h2⟩,A4 (fun g2=>⟨trivial, ?_,rfl⟩) (fun g2=>⟨?_,rfl⟩)⟩
  ·rw[g2];rfl
  ·rw[g2];rfl
 ·have e:brS s i=brR s 201 i:=by simp only[brS,g,cond_false]
  rw[e]
  refine ⟨⟨rfl,h0,h1,h2⟩,A4 (fun g2=>⟨trivial, ?_,rfl⟩) (fun g2=>⟨?_,rfl⟩)⟩
  ·rw[g2];rfl
  ·rw[g2];rfl
end Go.Ev.R2
end
section
namespace Go.Proofs
open Go.Shelf
def Tryz.lays137_ren:Go.Shelf.Ren:=⟨fun | 137=>262 | 217=>220 | 266=>241|n=>n,fun | 9=>9 | 5=>5 | 3=>3|n=>n,fun|n=>n⟩
theorem Tryz.lays137:Go.Proofs.Lays.n137 Tryz.prog Tryz.lays137_ren:={
 mixed:=by kernel_rfl
 f137:=Tryz.func262.trans (congrArg some (by kernel_rfl))
 f217:=Tryz.func220.trans (congrArg some (by kernel_rfl))
 f266:=Tryz.func241.trans (congrArg some (by kernel_rfl))
 t3:=Tryz.underlying3
 a3:=Tryz.isAgg3
 z3:=Tryz.sizeOf3
 v3:=Tryz.zeroValue3
 t5:=Tryz.underlying5
 a5:=Tryz.isAgg5
 z5:=Tryz.sizeOf5
 v5:=Tryz.zeroValue5
 t9:=Tryz.underlying9
 a9:=Tryz.isAgg9
 z9:=Tryz.sizeOf9
 v9:=Tryz.zeroValue9 }
open Go.RowKit in
theorem Tryz.strings_IndexByte (s:ByteArray) (c:Int) (w:World) :
 Calls Tryz.prog 262 #[.string s, .int .u8 c] w fun e w'=>e= .returned (.int .i64 (Lib.indexByte s.data.toList c.toNat.toUInt8))∧w'=w:=Any.strings_IndexByte Tryz.lays137 s c w
def Tryz.laysM171_ren:Go.Shelf.Ren:=⟨fun | 171=>155 | 243=>198 | 246=>219 | 283=>237 | 284=>238 | 285=>239 | 286=>240 | 129=>252 | 317=>251 | 318=>253 | 319=>254 | 320=>255 | 337=>264 | 338=>265|n=>n,fun | 3=>3 | 9=>9 | 2=>2 | 4=>4 | 171=>262 | 0=>0 | 53=>218 | 37=>71 | 5=>5 | 173=>265 | 212=>278 | 51=>204 | 20=>20 | 213=>279 | 46=>245 | 232=>290 | 233=>291|n=>n,fun | 17=>5 | 18=>6 | 19=>7|n=>n⟩
theorem Tryz.laysM171:Go.Proofs.LaysM.n171 Tryz.prog Tryz.laysM171_ren:={
 mixed:=by kernel_rfl
 f129:=Tryz.func252.trans (congrArg some (by kernel_rfl))
 f171:=Tryz.func155.trans (congrArg some (by kernel_rfl))
 f243:=Tryz.func198.trans (congrArg some (by kernel_rfl))
 f246:=Tryz.func219.trans (congrArg some (by kernel_rfl))
 f283:=Tryz.func237.trans (congrArg some (by kernel_rfl))
 f284:=Tryz.func238.trans (congrArg some (by kernel_rfl))
 f285:=Tryz.func239.trans (congrArg some (by kernel_rfl))
 f286:=Tryz.func240.trans (congrArg some (by kernel_rfl))
 f317:=Tryz.func251.trans (congrArg some (by kernel_rfl))
 f318:=Tryz.func253.trans (congrArg some (by kernel_rfl))
 f319:=Tryz.func254.trans (congrArg some (by kernel_rfl))
 f320:=Tryz.func255.trans (congrArg some (by kernel_rfl))
 f337:=Tryz.func264.trans (congrArg some (by kernel_rfl))
 f338:=Tryz.func265.trans (congrArg some (by kernel_rfl))
 t0:=Tryz.underlying0
 a0:=Tryz.isAgg0
 z0:=Tryz.sizeOf0
 v0:=Tryz.zeroValue0
 t2:=Tryz.underlying2
 a2:=Tryz.isAgg2
 z2:=Tryz.sizeOf2
 v2:=Tryz.zeroValue2
 t3:=Tryz.underlying3
 a3:=Tryz.isAgg3
 z3:=Tryz.sizeOf3
 v3:=Tryz.zeroValue3
 t4:=Tryz.underlying4
 a4:=Tryz.isAgg4
 z4:=Tryz.sizeOf4
 v4:=Tryz.zeroValue4
 t5:=Tryz.underlying5
 a5:=Tryz.isAgg5
 z5:=Tryz.sizeOf5
 v5:=Tryz.zeroValue5
 t9:=Tryz.underlying9
 a9:=Tryz.isAgg9
 z9:=Tryz.sizeOf9
 v9:=Tryz.zeroValue9
 t20:=Tryz.underlying20
 a20:=Tryz.isAgg20
 z20:=Tryz.sizeOf20
 v20:=Tryz.zeroValue20
 t37:=Tryz.underlying71
 a37:=Tryz.isAgg71
 z37:=Tryz.sizeOf71
 v37:=Tryz.zeroValue71
 t46:=Tryz.underlying245
 a46:=Tryz.isAgg245
 z46:=Tryz.sizeOf245
 v46:=Tryz.zeroValue245
 t51:=Tryz.underlying204
 a51:=Tryz.isAgg204
 z51:=Tryz.sizeOf204
 v51:=Tryz.zeroValue204
 t53:=Tryz.underlying218
 a53:=Tryz.isAgg218
 z53:=Tryz.sizeOf218
 v53:=Tryz.zeroValue218
 t171:=Tryz.underlying262
 a171:=Tryz.isAgg262
 z171:=Tryz.sizeOf262
 v171:=Tryz.zeroValue262
 t173:=Tryz.underlying265
 a173:=Tryz.isAgg265
 z173:=Tryz.sizeOf265
 v173:=Tryz.zeroValue265
 t212:=Tryz.underlying278
 a212:=Tryz.isAgg278
 z212:=Tryz.sizeOf278
 v212:=Tryz.zeroValue278
 t213:=Tryz.underlying279
 a213:=Tryz.isAgg279
 z213:=Tryz.sizeOf279
 t232:=Tryz.underlying290
 a232:=Tryz.isAgg290
 z232:=Tryz.sizeOf290
 v232:=Tryz.zeroValue290
 t233:=Tryz.underlying291
 a233:=Tryz.isAgg291
 z233:=Tryz.sizeOf291
 v233:=Tryz.zeroValue291
 g17:=by kernel_rfl
 g18:=by kernel_rfl
 g19:=by kernel_rfl
 i0:=by kernel_rfl
 i2:=by kernel_rfl
 i3:=by kernel_rfl
 i4:=by kernel_rfl
 i5:=by kernel_rfl
 i9:=by kernel_rfl
 i20:=by kernel_rfl
 i37:=by kernel_rfl
 i46:=by kernel_rfl
 i51:=by kernel_rfl
 i53:=by kernel_rfl
 i171:=by kernel_rfl
 i173:=by kernel_rfl
 i212:=by kernel_rfl
 i232:=by kernel_rfl
 i233:=by kernel_rfl
 m17:=by kernel_rfl
 m18:=by kernel_rfl
 m19:=by kernel_rfl }
open Go.RowKit Go.Sort Go.Lib in
theorem Tryz.strconv_Itoa (n:Int) (h0: -9223372036854775808≤n) (h1:n≤9223372036854775807) (w:World) (htab:Lib.TabIs Tryz.prog w "internal/strconv.uint64pow10" .u64 Lib.pow10Tab) :
 Calls Tryz.prog 155 #[.int .i64 n] w fun e w'=>e= .returned (.string ⟨(Lib.itoa n).toArray⟩)∧∃k os,w'=grow (w.drewN k) os:=Any.strconv_Itoa Tryz.laysM171 n h0 h1 w htab
def Tryz.laysC172_ren:Go.Shelf.Ren:=⟨fun | 172=>183 | 244=>207 | 245=>208 | 247=>225 | 279=>226 | 280=>227 | 281=>228 | 282=>229 | 287=>244 | 316=>245 | 171=>155 | 205=>246 | 321=>256 | 322=>257 | 243=>198 | 246=>219 | 283=>237 | 284=>238 | 285=>239 | 286=>240 | 129=>252 | 317=>251 | 318=>253 | 319=>254 | 320=>255 | 337=>264 | 338=>265|n=>n,fun | 9=>9 | 3=>3 | 75=>180 | 76=>182 | 4=>4 | 5=>5 | 167=>248 | 37=>71 | 0=>0 | 85=>249 | 2=>2 | 168=>251 | 53=>218 | 175=>269 | 46=>245 | 210=>272 | 127=>124 | 145=>285 | 143=>283 | 21=>21 | 171=>262 | 173=>265 | 212=>278 | 51=>204 | 20=>20 | 213=>279 | 232=>290 | 233=>291 | 80=>77|n=>n,fun | 15=>3 | 16=>4 | 17=>5 | 18=>6 | 19=>7|n=>n⟩
theorem Tryz.laysC172:Go.Proofs.LaysC.n172 Tryz.prog Tryz.laysC172_ren:={
 mixed:=by kernel_rfl
 f129:=Tryz.func252.trans (congrArg some (by kernel_rfl))
 f171:=Tryz.func155.trans (congrArg some (by kernel_rfl))
 f172:=Tryz.func183.trans (congrArg some (by kernel_rfl))
 f205:=Tryz.func246.trans (congrArg some (by kernel_rfl))
 f243:=Tryz.func198.trans (congrArg some (by kernel_rfl))
 f244:=Tryz.func207.trans (congrArg some (by kernel_rfl))
 f245:=Tryz.func208.trans (congrArg some (by kernel_rfl))
 f246:=Tryz.func219.trans (congrArg some (by kernel_rfl))
 f247:=Tryz.func225.trans (congrArg some (by kernel_rfl))
 f279:=Tryz.func226.trans (congrArg some (by kernel_rfl))
 f280:=Tryz.func227.trans (congrArg some (by kernel_rfl))
 f281:=Tryz.func228.trans (congrArg some (by kernel_rfl))
 f282:=Tryz.func229.trans (congrArg some (by kernel_rfl))
 f283:=Tryz.func237.trans (congrArg some (by kernel_rfl))
 f284:=Tryz.func238.trans (congrArg some (by kernel_rfl))
 f285:=Tryz.func239.trans (congrArg some (by kernel_rfl))
 f286:=Tryz.func240.trans (congrArg some (by kernel_rfl))
 f287:=Tryz.func244.trans (congrArg some (by kernel_rfl))
 f316:=Tryz.func245.trans (congrArg some (by kernel_rfl))
 f317:=Tryz.func251.trans (congrArg some (by kernel_rfl))
 f318:=Tryz.func253.trans (congrArg some (by kernel_rfl))
 f319:=Tryz.func254.trans (congrArg some (by kernel_rfl))
 f320:=Tryz.func255.trans (congrArg some (by kernel_rfl))
 f321:=Tryz.func256.trans (congrArg some (by kernel_rfl))
 f322:=Tryz.func257.trans (congrArg some (by kernel_rfl))
 f337:=Tryz.func264.trans (congrArg some (by kernel_rfl))
 f338:=Tryz.func265.trans (congrArg some (by kernel_rfl))
 t0:=Tryz.underlying0
 a0:=Tryz.isAgg0
 z0:=Tryz.sizeOf0
 v0:=Tryz.zeroValue0
 t2:=Tryz.underlying2
 a2:=Tryz.isAgg2
 z2:=Tryz.sizeOf2
 v2:=Tryz.zeroValue2
 t3:=Tryz.underlying3
 a3:=Tryz.isAgg3
 z3:=Tryz.sizeOf3
 v3:=Tryz.zeroValue3
 t4:=Tryz.underlying4
 a4:=Tryz.isAgg4
 z4:=Tryz.sizeOf4
 v4:=Tryz.zeroValue4
 t5:=Tryz.underlying5
 a5:=Tryz.isAgg5
 z5:=Tryz.sizeOf5
 v5:=Tryz.zeroValue5
 t9:=Tryz.underlying9
 a9:=Tryz.isAgg9
 z9:=Tryz.sizeOf9
 v9:=Tryz.zeroValue9
 t20:=Tryz.underlying20
 a20:=Tryz.isAgg20
 z20:=Tryz.sizeOf20
 v20:=Tryz.zeroValue20
 t21:=Tryz.underlying21
 a21:=Tryz.isAgg21
 z21:=Tryz.sizeOf21
 v21:=Tryz.zeroValue21
 t37:=Tryz.underlying71
 a37:=Tryz.isAgg71
 z37:=Tryz.sizeOf71
 v37:=Tryz.zeroValue71
 t46:=Tryz.underlying245
 a46:=Tryz.isAgg245
 z46:=Tryz.sizeOf245
 v46:=Tryz.zeroValue245
 t51:=Tryz.underlying204
 a51:=Tryz.isAgg204
 z51:=Tryz.sizeOf204
 v51:=Tryz.zeroValue204
 t53:=Tryz.underlying218
 a53:=Tryz.isAgg218
 z53:=Tryz.sizeOf218
 v53:=Tryz.zeroValue218
 t75:=Tryz.underlying180
 a75:=Tryz.isAgg180
 z75:=Tryz.sizeOf180
 v75:=Tryz.zeroValue180
 t76:=Tryz.underlying182
 a76:=Tryz.isAgg182
 z76:=Tryz.sizeOf182
 v76:=Tryz.zeroValue182
 t85:=Tryz.underlying249
 a85:=Tryz.isAgg249
 z85:=Tryz.sizeOf249
 v85:=Tryz.zeroValue249
 t127:=Tryz.underlying124
 a127:=Tryz.isAgg124
 z127:=Tryz.sizeOf124
 v127:=Tryz.zeroValue124
 t143:=Tryz.underlying283
 a143:=Tryz.isAgg283
 z143:=Tryz.sizeOf283
 v143:=Tryz.zeroValue283
 t145:=Tryz.underlying285
 a145:=Tryz.isAgg285
 z145:=Tryz.sizeOf285
 v145:=Tryz.zeroValue285
 t167:=Tryz.underlying248
 a167:=Tryz.isAgg248
 z167:=Tryz.sizeOf248
 v167:=Tryz.zeroValue248
 t168:=Tryz.underlying251
 a168:=Tryz.isAgg251
 z168:=Tryz.sizeOf251
 v168:=Tryz.zeroValue251
 t171:=Tryz.underlying262
 a171:=Tryz.isAgg262
 z171:=Tryz.sizeOf262
 v171:=Tryz.zeroValue262
 t173:=Tryz.underlying265
 a173:=Tryz.isAgg265
 z173:=Tryz.sizeOf265
 v173:=Tryz.zeroValue265
 t175:=Tryz.underlying269
 a175:=Tryz.isAgg269
 z175:=Tryz.sizeOf269
 v175:=Tryz.zeroValue269
 t210:=Tryz.underlying272
 a210:=Tryz.isAgg272
 z210:=Tryz.sizeOf272
 v210:=Tryz.zeroValue272
 t212:=Tryz.underlying278
 a212:=Tryz.isAgg278
 z212:=Tryz.sizeOf278
 v212:=Tryz.zeroValue278
 t213:=Tryz.underlying279
 a213:=Tryz.isAgg279
 z213:=Tryz.sizeOf279
 t232:=Tryz.underlying290
 a232:=Tryz.isAgg290
 z232:=Tryz.sizeOf290
 v232:=Tryz.zeroValue290
 t233:=Tryz.underlying291
 a233:=Tryz.isAgg291
 z233:=Tryz.sizeOf291
 v233:=Tryz.zeroValue291
 g15:=by kernel_rfl
 g16:=by kernel_rfl
 g17:=by kernel_rfl
 g18:=by kernel_rfl
 g19:=by kernel_rfl
 t80:=Tryz.underlying77
 a80:=Tryz.isAgg77
 z80:=Tryz.sizeOf77
 v80:=Tryz.zeroValue77
 i0:=by kernel_rfl
 i2:=by kernel_rfl
 i3:=by kernel_rfl
 i4:=by kernel_rfl
 i5:=by kernel_rfl
 i9:=by kernel_rfl
 i20:=by kernel_rfl
 i21:=by kernel_rfl
 i37:=by kernel_rfl
 i46:=by kernel_rfl
 i51:=by kernel_rfl
 i53:=by kernel_rfl
 i75:=by kernel_rfl
 i76:=by kernel_rfl
 i80:=by kernel_rfl
 i85:=by kernel_rfl
 i127:=by kernel_rfl
 i143:=by kernel_rfl
 i145:=by kernel_rfl
 i167:=by kernel_rfl
 i168:=by kernel_rfl
 i171:=by kernel_rfl
 i173:=by kernel_rfl
 i175:=by kernel_rfl
 i210:=by kernel_rfl
 i212:=by kernel_rfl
 i232:=by kernel_rfl
 i233:=by kernel_rfl
 m15:=by kernel_rfl
 m16:=by kernel_rfl
 m17:=by kernel_rfl
 m18:=by kernel_rfl
 m19:=by kernel_rfl
 c0:=by kernel_rfl
 c2:=by kernel_rfl
 c3:=by kernel_rfl
 c4:=by kernel_rfl
 c5:=by kernel_rfl
 c9:=by kernel_rfl
 c20:=by kernel_rfl
 c21:=by kernel_rfl
 c37:=by kernel_rfl
 c46:=by kernel_rfl
 c51:=by kernel_rfl
 c53:=by kernel_rfl
 c75:=by kernel_rfl
 c76:=by kernel_rfl
 c80:=by kernel_rfl
 c85:=by kernel_rfl
 c127:=by kernel_rfl
 c143:=by kernel_rfl
 c145:=by kernel_rfl
 c167:=by kernel_rfl
 c168:=by kernel_rfl
 c171:=by kernel_rfl
 c173:=by kernel_rfl
 c175:=by kernel_rfl
 c210:=by kernel_rfl
 c212:=by kernel_rfl
 c213:=by kernel_rfl
 c232:=by kernel_rfl
 c233:=by kernel_rfl }
open Go.RowKit in
theorem Tryz.strconv_Atoi_ok (s:ByteArray) (hmax:s.size≤9223372036854775806) (v:Int) (h:Lib.atoiAll s.data.toList= .ok v) (w:World) :
 Calls Tryz.prog 183 #[.string s] w fun e w'=>e= .returned (.tuple #[.int .i64 v, .nilIface])∧(w'=w∨∃t,w'=Lib.bytesWorld w 5 t):=Any.strconv_Atoi_ok Tryz.laysC172 s hmax v h w
def Tryz.lays144_ren:Go.Shelf.Ren:=⟨fun | 144=>112 | 143=>170 | 219=>200 | 217=>220 | 225=>221 | 224=>222 | 267=>223 | 266=>241 | 314=>242|n=>n,fun | 9=>9 | 4=>4 | 3=>3 | 5=>5 | 46=>245 | 146=>267 | 51=>204|n=>n,fun | 1=>2|n=>n⟩
theorem Tryz.lays144:Go.Proofs.Lays.n144 Tryz.prog Tryz.lays144_ren:={
 mixed:=by kernel_rfl
 f143:=Tryz.func170.trans (congrArg some (by kernel_rfl))
 f144:=Tryz.func112.trans (congrArg some (by kernel_rfl))
 f217:=Tryz.func220.trans (congrArg some (by kernel_rfl))
 f219:=Tryz.func200.trans (congrArg some (by kernel_rfl))
 f224:=Tryz.func222.trans (congrArg some (by kernel_rfl))
 f225:=Tryz.func221.trans (congrArg some (by kernel_rfl))
 f266:=Tryz.func241.trans (congrArg some (by kernel_rfl))
 f267:=Tryz.func223.trans (congrArg some (by kernel_rfl))
 f314:=Tryz.func242.trans (congrArg some (by kernel_rfl))
 t3:=Tryz.underlying3
 a3:=Tryz.isAgg3
 z3:=Tryz.sizeOf3
 v3:=Tryz.zeroValue3
 t4:=Tryz.underlying4
 a4:=Tryz.isAgg4
 z4:=Tryz.sizeOf4
 v4:=Tryz.zeroValue4
 t5:=Tryz.underlying5
 a5:=Tryz.isAgg5
 z5:=Tryz.sizeOf5
 v5:=Tryz.zeroValue5
 t9:=Tryz.underlying9
 a9:=Tryz.isAgg9
 z9:=Tryz.sizeOf9
 v9:=Tryz.zeroValue9
 t46:=Tryz.underlying245
 a46:=Tryz.isAgg245
 z46:=Tryz.sizeOf245
 v46:=Tryz.zeroValue245
 t51:=Tryz.underlying204
 a51:=Tryz.isAgg204
 z51:=Tryz.sizeOf204
 v51:=Tryz.zeroValue204
 t146:=Tryz.underlying267
 a146:=Tryz.isAgg267
 z146:=Tryz.sizeOf267
 v146:=Tryz.zeroValue267
 g1:=by kernel_rfl }
open Go.RowKit Go.Lib in
theorem Tryz.strings_Contains_one (s:ByteArray) (c:UInt8) (w:World) :
 Calls Tryz.prog 112 #[.string s, .string ⟨#[c]⟩] w fun e w'=>e= .returned (.bool (decide (0≤Lib.indexByte s.data.toList c)))∧w'=w:=Any.strings_Contains_one Tryz.lays144 s c w
def Tryz.laysM157_ren:Go.Shelf.Ren:=⟨fun | 157=>71 | 229=>132 | 199=>133 | 261=>188 | 311=>210 | 312=>211|n=>n,fun | 9=>9 | 31=>25 | 3=>3 | 5=>5 | 4=>4 | 119=>161 | 0=>0 | 40=>163 | 152=>201 | 21=>21 | 154=>203 | 51=>204 | 141=>206 | 196=>228 | 193=>225 | 198=>231 | 49=>229 | 194=>226 | 201=>234 | 226=>254 | 46=>245 | 227=>255|n=>n,fun | 0=>0 | 6=>1|n=>n⟩
theorem Tryz.laysM157:Go.Proofs.LaysM.n157 Tryz.prog Tryz.laysM157_ren:={
 mixed:=by kernel_rfl
 f157:=Tryz.func71.trans (congrArg some (by kernel_rfl))
 f199:=Tryz.func133.trans (congrArg some (by kernel_rfl))
 f229:=Tryz.func132.trans (congrArg some (by kernel_rfl))
 f261:=Tryz.func188.trans (congrArg some (by kernel_rfl))
 f311:=Tryz.func210.trans (congrArg some (by kernel_rfl))
 f312:=Tryz.func211.trans (congrArg some (by kernel_rfl))
 t0:=Tryz.underlying0
 a0:=Tryz.isAgg0
 z0:=Tryz.sizeOf0
 v0:=Tryz.zeroValue0
 t3:=Tryz.underlying3
 a3:=Tryz.isAgg3
 z3:=Tryz.sizeOf3
 v3:=Tryz.zeroValue3
 t4:=Tryz.underlying4
 a4:=Tryz.isAgg4
 z4:=Tryz.sizeOf4
 v4:=Tryz.zeroValue4
 t5:=Tryz.underlying5
 a5:=Tryz.isAgg5
 z5:=Tryz.sizeOf5
 v5:=Tryz.zeroValue5
 t9:=Tryz.underlying9
 a9:=Tryz.isAgg9
 z9:=Tryz.sizeOf9
 v9:=Tryz.zeroValue9
 t21:=Tryz.underlying21
 a21:=Tryz.isAgg21
 z21:=Tryz.sizeOf21
 v21:=Tryz.zeroValue21
 t31:=Tryz.underlying25
 a31:=Tryz.isAgg25
 z31:=Tryz.sizeOf25
 v31:=Tryz.zeroValue25
 t40:=Tryz.underlying163
 a40:=Tryz.isAgg163
 z40:=Tryz.sizeOf163
 v40:=Tryz.zeroValue163
 t46:=Tryz.underlying245
 a46:=Tryz.isAgg245
 z46:=Tryz.sizeOf245
 v46:=Tryz.zeroValue245
 t49:=Tryz.underlying229
 a49:=Tryz.isAgg229
 z49:=Tryz.sizeOf229
 v49:=Tryz.zeroValue229
 t51:=Tryz.underlying204
 a51:=Tryz.isAgg204
 z51:=Tryz.sizeOf204
 v51:=Tryz.zeroValue204
 t119:=Tryz.underlying161
 a119:=Tryz.isAgg161
 z119:=Tryz.sizeOf161
 t141:=Tryz.underlying206
 a141:=Tryz.isAgg206
 z141:=Tryz.sizeOf206
 v141:=Tryz.zeroValue206
 t152:=Tryz.underlying201
 a152:=Tryz.isAgg201
 z152:=Tryz.sizeOf201
 v152:=Tryz.zeroValue201
 t154:=Tryz.underlying203
 a154:=Tryz.isAgg203
 z154:=Tryz.sizeOf203
 v154:=Tryz.zeroValue203
 t193:=Tryz.underlying225
 a193:=Tryz.isAgg225
 z193:=Tryz.sizeOf225
 v193:=Tryz.zeroValue225
 t194:=Tryz.underlying226
 a194:=Tryz.isAgg226
 z194:=Tryz.sizeOf226
 v194:=Tryz.zeroValue226
 t196:=Tryz.underlying228
 a196:=Tryz.isAgg228
 z196:=Tryz.sizeOf228
 v196:=Tryz.zeroValue228
 t198:=Tryz.underlying231
 a198:=Tryz.isAgg231
 z198:=Tryz.sizeOf231
 v198:=Tryz.zeroValue231
 t201:=Tryz.underlying234
 a201:=Tryz.isAgg234
 z201:=Tryz.sizeOf234
 v201:=Tryz.zeroValue234
 t226:=Tryz.underlying254
 a226:=Tryz.isAgg254
 z226:=Tryz.sizeOf254
 v226:=Tryz.zeroValue254
 t227:=Tryz.underlying255
 a227:=Tryz.isAgg255
 z227:=Tryz.sizeOf255
 v227:=Tryz.zeroValue255
 g0:=by kernel_rfl
 g6:=by kernel_rfl
 i0:=by kernel_rfl
 i3:=by kernel_rfl
 i4:=by kernel_rfl
 i5:=by kernel_rfl
 i9:=by kernel_rfl
 i21:=by kernel_rfl
 i31:=by kernel_rfl
 i40:=by kernel_rfl
 i46:=by kernel_rfl
 i49:=by kernel_rfl
 i51:=by kernel_rfl
 i141:=by kernel_rfl
 i152:=by kernel_rfl
 i154:=by kernel_rfl
 i193:=by kernel_rfl
 i194:=by kernel_rfl
 i196:=by kernel_rfl
 i198:=by kernel_rfl
 i201:=by kernel_rfl
 i226:=by kernel_rfl
 i227:=by kernel_rfl
 m0:=by kernel_rfl
 m6:=by kernel_rfl }
open Go.RowKit Go.Lib in
theorem Tryz.strings_Fields_laid (s:ByteArray) (w:World) (hs:s.size<4294967281) (hascii:∀(j:Nat) b,s.data.toList[j]?=some b→b.toNat<128) (htab:Lib.TabIs Tryz.prog w "strings.asciiSpace" .u8 Lib.asciiSpaceTab) :
 Calls Tryz.prog 71 #[.string s] w fun e w' =>
  e= .returned (.slice (some ⟨w.heap.size,0,none⟩) (Lib.fields s.data.toList).length (Lib.fields s.data.toList).length)∧w'=w.alloc (.cells ((Lib.fields s.data.toList).map fun l=>Value.string ⟨l.toArray⟩).toArray 9):=Any.strings_Fields_laid Tryz.laysM157 s w hs hascii htab
end Go.Proofs
end
