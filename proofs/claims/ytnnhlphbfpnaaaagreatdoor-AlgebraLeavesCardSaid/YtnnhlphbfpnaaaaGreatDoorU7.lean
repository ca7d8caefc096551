/- What the proofs of the lexer's laws share, part 7 of 14. -/
import Derived.Test.YtnnhlphbfpnaaaaGreatDoorU6
set_option linter.unusedVariables false
set_option linter.unusedSimpArgs false
section
namespace Go.Ev.R2
open Go Go.Ev Go.Proofs
set_option maxRecDepth 100000
def e8e:Nat→Nat→List UInt8
 | 0,_=>[]
 | k+1,u=>if u<10 then [UInt8.ofNat (48+u)] else e8e k (u / 10)++ [UInt8.ofNat (48+u % 10)]
theorem c7v:∀(k u:Nat),u<10 ^ k→0<k→e8e k u=Lib.decDigits u
 | 0,u,_,h=>by omega
 | k+1,u,h,_=>by
  rw[Lib.decDigits]
  unfold e8e
  by_cases hu:u<10
  ·rw[if_pos hu,dif_pos hu]
  ·rw[if_neg hu,dif_neg hu]
   have hk:0<k:=by
    rcases Nat.eq_zero_or_pos k with rfl|hk
    ·simp at h;omega
    ·exact hk
   rw[c7v k (u / 10) (by rw[Nat.pow_succ] at h;omega) hk]
def e7d (n:Int):List UInt8:=bif decide (n<0) then 45::e8e 20 n.natAbs else e8e 20 n.toNat
theorem e7c {n:Int} (h0: -9223372036854775808≤n) (h1:n≤9223372036854775807):e7d n=Lib.itoa n:=by
 unfold e7d Lib.itoa
 by_cases h:n<0
 ·rw[if_pos h];simp only[h,decide_true,cond_true];rw[c7v 20 _ (by omega) (by omega)]
 ·rw[if_neg h];simp only[h,decide_false,cond_false];rw[c7v 20 _ (by omega) (by omega)]
def x71:List D→Option D
 | [.lit (.string s)]=>bif decide (s.size<4294967281)&&e9b s then some (.slice false 1 ((Lib.fields s.data.toList).map W7)) else none
 | _=>none
def f9n:List D→Option D
 | [.lit (.string s), .lit (.string t)]=>match t.data.toList with
  | [c]=>some (.lit (.bool (decide (0≤Lib.indexByte s.data.toList c))))
  | _=>none
 | _=>none
def f9m:List D→Option D
 | [.lit (.int .i64 n)]=>bif decide (-9223372036854775808≤n)&&decide (n≤9223372036854775807) then some (W7 (e7d n)) else none
 | _=>none
def f9k:List D→Option D
 | [.lit (.string s)]=>bif decide (s.size≤9223372036854775806) then (match Lib.atoiAll s.data.toList with
  | .ok v=>some (.tup [.lit (.int .i64 v), .lit .nilIface])
  | _=>none) else none
 | _=>none
def g5m (ds:List D):Option D:=e5a.f ds
def e7w (K:FuncId):Option (List D→Option D):=bif K==71 then some x71 else bif K==112 then some f9n else bif K==155 then some f9m else bif K==183 then some f9k else bif K==142 then some g5m else none
def e5m:a9c:=[(195,f2d),(61,s61),(115,f2e)]
noncomputable def C14:Cx:={B with ext:=e7w,keep:=fun K=>K==63 }
def e7g:Option (V×B4)→Bool
 | some (.d (.lit (.bool b)),_)=>b
 | _=>false
theorem f3f:a9w C14:=fun K fn hf _ he=>by
 have h:(Tryz.prog.funcs.toList.all fun f=> !(f.name == "runtime.NumGoroutine"))=true:=by kernel_rfl
 have hf':Tryz.prog.funcs[K]?=some fn:=hf
 have hm:fn∈Tryz.prog.funcs.toList:=by
  obtain ⟨h1,h2⟩:=Array.getElem?_eq_some_iff.1 hf'
  rw[←h2];simp
 have:=List.all_eq_true.1 h fn hm
 rw[he] at this
 simp at this
theorem f9w {w:World} {lim:Nat→Nat} (hg:a7q B w lim):Lib.TabIs Tryz.prog w "internal/strconv.uint64pow10" .u64 Lib.pow10Tab:=by
 obtain ⟨h1,h2,c,t,m,h3,h4⟩:=hg 5 e6f rfl
 have hn:Tryz.prog.globalNamed "internal/strconv.uint64pow10" = some 5:=by kernel_rfl
 unfold Lib.TabIs World.var?
 rw[hn]
 show (match w.heap[5]? with|some (.cells cs _ _)=>some cs|_=>none)=_
 rw[h3]
 refine congrArg some ?_
 cases h1 with
 | elem hd hf hh =>
  have e:e6f=(Lib.pow10Tab.map fun z=>Value.int .u64 z).map .lit:=by simp[e6f]
  rw[e] at hd
  have:=b8v (by intro x hx a;obtain ⟨z,_,rfl⟩:=List.mem_map.1 hx;simp) hd
  subst this
  refine Array.ext' ?_
  rw[List.toList_toArray]
  refine List.ext_getElem? fun i=>?_
  by_cases hi:i<c.toList.length
  ·have hi':i<(Lib.pow10Tab.map fun z=>Value.int .u64 z).length:=by rw[e,List.length_map] at h4;simpa [←h4] using hi
   have:=(hh.2 i _ (List.getElem?_eq_getElem hi')).2
   unfold World.cell? at this
   simp only[Nat.zero_add,h3] at this
   rw[List.getElem?_eq_getElem hi', ←this]
   simp
  ·have hi':¬i<(Lib.pow10Tab.map fun z=>Value.int .u64 z).length:=by rw[e,List.length_map] at h4;simpa [←h4] using hi
   simp only[List.toList_toArray]
   rw[List.getElem?_eq_none (by omega),List.getElem?_eq_none (by omega)]
theorem b5t {K:Nat} {fn:Func} (hf:Tryz.prog.funcs[K]?=some fn) (hn:(fn.name == "runtime.NumGoroutine")=false) (hb:fn.body.isSome=true):Q0 Tryz.prog K:=⟨fn,hf,by simpa using hn,hb⟩
theorem i2i {ds:List D} {r:D} (h:f9n ds=some r):a5a B 112 ds r:=by
 unfold f9n at h
 split at h
 ·rename_i s t
  split at h
  ·rename_i c hc
   cases h
   refine ⟨b5t Tryz.func112 (by kernel_rfl) (by kernel_rfl),fun w lim vs hl hg hd=>?_⟩
   obtain ⟨vs⟩:=vs
   have ht:t=⟨#[c]⟩:=by
    obtain ⟨⟨l⟩⟩:=t
    simp at hc
    rw[hc]
   subst ht
   cases hd with
   | cons h1 t1 =>
    cases t1 with
    | cons h2 t2 =>
     cases t2
     cases h1;cases h2
     refine (Tryz.strings_Contains_one s c w).mono ?_
     rintro e w' ⟨rfl,rfl⟩
     exact ⟨_,lim,rfl, .refl _,fun _ _=>rfl,hl, .lit (by simp)⟩
  ·cases h
 ·cases h
theorem e7o (w:World) (k:Nat) (os:Array Obj):Ext w (Sort.grow (w.drewN k) os) :=
 ⟨rfl,rfl,rfl,by simp[Sort.grow,World.drewN],fun b hb=>by
  show (w.heap++os)[b]?=w.heap[b]?
  rw[Array.getElem?_append_left hb]⟩
theorem d6e {w w1:World} (h:Ext w w1) {a:Addr} {n:Nat} (ha:w.heap.size≤a.block):Ext w (w1.freeze a n):=by
 unfold World.freeze
 split
 ·exact h
 ·refine ⟨h.os,h.tape,h.output,by simpa using h.size,fun b hb=>?_⟩
  simp only[Array.getElem?_modify]
  rw[if_neg (by omega)]
  exact h.block b hb
theorem e5b (w:World) (e:TypeId) (t:ByteArray):Ext w (Lib.bytesWorld w e t):=d6e (Ext.drew w _) (Nat.le_refl _)
theorem i2g {ds:List D} {r:D} (h:f9m ds=some r):a5a B 155 ds r:=by
 unfold f9m at h
 split at h
 ·rename_i n
  cases hc:(decide (-9223372036854775808≤n)&&decide (n≤9223372036854775807)) with
  | false=>rw[hc] at h;cases h
  | true =>
   rw[hc] at h
   simp only[Bool.and_eq_true,decide_eq_true_eq] at hc
   cases h
   refine ⟨b5t Tryz.func155 (by kernel_rfl) (by kernel_rfl),fun w lim vs hl hg hd=>?_⟩
   obtain ⟨vs⟩:=vs
   cases hd with
   | cons h1 t1 =>
    cases t1
    cases h1
    refine (Tryz.strconv_Itoa n hc.1 hc.2 w (f9w hg)).mono ?_
    rintro e w' ⟨rfl,k,os,rfl⟩
    have he:=e7o w k os
    exact ⟨_,lim,rfl,he,fun _ _=>rfl,fun b hb=>hl b (Nat.le_trans he.size hb),by rw[e7c hc.1 hc.2];exact .lit (by simp)⟩
 ·cases h
theorem i2f {ds:List D} {r:D} (h:f9k ds=some r):a5a B 183 ds r:=by
 unfold f9k at h
 split at h
 ·rename_i s
  cases hc:decide (s.size≤9223372036854775806) with
  | false=>rw[hc] at h;cases h
  | true =>
   rw[hc] at h
   simp only[cond_true] at h
   split at h
   ·rename_i v hv
    cases h
    refine ⟨b5t Tryz.func183 (by kernel_rfl) (by kernel_rfl),fun w lim vs hl hg hd=>?_⟩
    obtain ⟨vs⟩:=vs
    cases hd with
    | cons h1 t1 =>
     cases t1
     cases h1
     refine (Tryz.strconv_Atoi_ok s (by simpa using hc) v hv w).mono ?_
     rintro e w' ⟨rfl,hw⟩
     have he:Ext w w':=by
      rcases hw with rfl|⟨t,rfl⟩
      ·exact .refl _
      ·exact e5b w 5 t
     exact ⟨_,lim,rfl,he,fun _ _=>rfl,fun b hb=>hl b (Nat.le_trans he.size hb), .tup (.cons (.lit (by simp)) (.cons (.lit (by simp)) .nil))⟩
   ·cases h
 ·cases h
theorem e71 {ds:List D} {r:D} (h:x71 ds=some r):a5a B 71 ds r:=by
 unfold x71 at h
 split at h
 ·rename_i s
  cases hc:(decide (s.size<4294967281)&&e9b s) with
  | false=>rw[hc] at h;cases h
  | true =>
   rw[hc] at h
   simp only[Bool.and_eq_true,decide_eq_true_eq] at hc
   exact k71 71 c71 _ r rfl hc h
 ·cases h
theorem i2h {ds:List D} {r:D} (h:g5m ds=some r):a5a B 142 ds r:=g7x 142 e5a ds r rfl trivial h
theorem f5c:U6 C14:=by
 refine ⟨fun K f ds r hf hr=>?_,fun K f args H r H' hf=>by cases hf⟩
 have hf':e7w K=some f:=hf
 unfold e7w at hf'
 have key:∀(n:Nat) {a b:Option (List D→Option D)},(bif K==n then a else b)=some f→(K=n∧a=some f)∨b=some f:=fun n a b h=>by
  cases e:(K==n) with
  | true=>rw[e] at h;exact .inl ⟨by simpa using e,h⟩
  | false=>rw[e] at h;exact .inr h
 rcases key 71 hf' with ⟨rfl,h⟩|h
 ·cases h;exact (e71 hr).of rfl rfl
 rcases key 112 h with ⟨rfl,h⟩|h
 ·cases h;exact (i2i hr).of rfl rfl
 rcases key 155 h with ⟨rfl,h⟩|h
 ·cases h;exact (i2g hr).of rfl rfl
 rcases key 183 h with ⟨rfl,h⟩|h
 ·cases h;exact (i2f hr).of rfl rfl
 rcases key 142 h with ⟨rfl,h⟩|h
 ·cases h;exact (i2h hr).of rfl rfl
 cases h
theorem h7e:S6 B e5m.st:=b8k (b8k (b8k f9q g7i) h7p) g6y
theorem e9p:∀n,X2 C14 (evB C14 (b3p e5m) n) :=
 c5h ⟨C4.ok.plain,C4.ok.mixed⟩ f5c f3f (X2.le (d5c e5m) (b3o (S6.of rfl rfl h7e)))
theorem g5u:e7g (evB C14 (b3p e5m) 60 14 [] B4.empty)=true:=by kernel_rfl
theorem k14:C2 B T14:=by
 refine Y1 k13 fun ds r hp hr=>?_
 unfold c14 at hp hr
 simp only[] at hr hp
 split at hr
 ·cases hr
  have h:=g5u
  cases he:evB C14 (b3p e5m) 60 14 [] B4.empty with
  | none=>rw[he] at h;cases h
  | some p =>
   obtain ⟨v,H'⟩:=p
   rw[he] at h
   have hv:v=A9 true:=by
    unfold e7g at h
    split at h
    ·rename_i b H1 heq
     simp only[Option.some.injEq,Prod.mk.injEq] at heq
     rw[heq.1,h]
    ·cases h
   subst hv
   obtain ⟨h1,h2,_⟩:=e9p 60 14 [] B4.empty _ _ he
   refine (u6 (C:=C14) (K:=14) (ds:=[]) (r:=.lit (.bool true)) h1 fun w g vs a b c d=>?_).of rfl rfl
   refine (h2 w g vs a b c d).mono ?_
   rintro e w' ⟨v,g',k1,k2,k3,k4,k5⟩
   exact ⟨v,_,H',g',rfl,k1,k2,k3,k4,k5⟩
 ·cases hr
end Go.Ev.R2
end
