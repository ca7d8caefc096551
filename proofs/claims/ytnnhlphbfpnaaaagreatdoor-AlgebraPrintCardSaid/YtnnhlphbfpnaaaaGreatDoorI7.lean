/- What the proofs of the lexer's laws share, part 7 of 15. -/
import Derived.Test.YtnnhlphbfpnaaaaGreatDoorI6
set_option linter.unusedVariables false
set_option linter.unusedSimpArgs false
section
namespace Go.Ev.R2
open Go Go.Ev Go.Proofs
set_option maxRecDepth 100000
def c4x:Nat→Nat→List UInt8
 | 0,_=>[]
 | k+1,u=>if u<10 then [UInt8.ofNat (48+u)] else c4x k (u / 10)++ [UInt8.ofNat (48+u % 10)]
theorem d2e:∀(k u:Nat),u<10 ^ k→0<k→c4x k u=Lib.decDigits u
 | 0,u,_,h=>by omega
 | k+1,u,h,_=>by
  rw[Lib.decDigits]
  unfold c4x
  by_cases hu:u<10
  ·rw[if_pos hu,dif_pos hu]
  ·rw[if_neg hu,dif_neg hu]
   have hk:0<k:=by
    rcases Nat.eq_zero_or_pos k with rfl|hk
    ·simp at h;omega
    ·exact hk
   rw[d2e k (u / 10) (by rw[Nat.pow_succ] at h;omega) hk]
def b6b (n:Int):List UInt8:=bif decide (n<0) then 45::c4x 20 n.natAbs else c4x 20 n.toNat
theorem f2n {n:Int} (h0: -9223372036854775808≤n) (h1:n≤9223372036854775807):b6b n=Lib.itoa n:=by
 unfold b6b Lib.itoa
 by_cases h:n<0
 ·rw[if_pos h];simp only[h,decide_true,cond_true];rw[d2e 20 _ (by omega) (by omega)]
 ·rw[if_neg h];simp only[h,decide_false,cond_false];rw[d2e 20 _ (by omega) (by omega)]
def x71:List D→Option D
 | [.lit (.string s)]=>bif decide (s.size<4294967281)&&f4n s then some (.slice false 1 ((Lib.fields s.data.toList).map Y2)) else none
 | _=>none
def g5u:List D→Option D
 | [.lit (.string s), .lit (.string t)]=>match t.data.toList with
  | [c]=>some (.lit (.bool (decide (0≤Lib.indexByte s.data.toList c))))
  | _=>none
 | _=>none
def g5t:List D→Option D
 | [.lit (.int .i64 n)]=>bif decide (-9223372036854775808≤n)&&decide (n≤9223372036854775807) then some (Y2 (b6b n)) else none
 | _=>none
def g5s:List D→Option D
 | [.lit (.string s)]=>bif decide (s.size≤9223372036854775806) then (match Lib.atoiAll s.data.toList with
  | .ok v=>some (.tup [.lit (.int .i64 v), .lit .nilIface])
  | _=>none) else none
 | _=>none
def h2x (ds:List D):Option D:=e7z.f ds
def f3i (K:FuncId):Option (List D→Option D):=bif K==71 then some x71 else bif K==112 then some g5u else bif K==155 then some g5t else bif K==183 then some g5s else bif K==142 then some h2x else none
def e8n:b2j:=[(195,c2s),(61,s61),(115,f5w)]
noncomputable def C14:Cx:={B with ext:=f3i,keep:=fun K=>K==63 }
def f2q:Option (V×B3)→Bool
 | some (.d (.lit (.bool b)),_)=>b
 | _=>false
theorem f7c:b3g C14:=fun K fn hf _ he=>by
 have h:(Tryz.prog.funcs.toList.all fun f=> !(f.name == "runtime.NumGoroutine"))=true:=by kernel_rfl
 have hf':Tryz.prog.funcs[K]?=some fn:=hf
 have hm:fn∈Tryz.prog.funcs.toList:=by
  obtain ⟨h1,h2⟩:=Array.getElem?_eq_some_iff.1 hf'
  rw[←h2];simp
 have:=List.all_eq_true.1 h fn hm
 rw[he] at this
 simp at this
theorem g6t {w:World} {lim:Nat→Nat} (hg:a8w B w lim):Lib.TabIs Tryz.prog w "internal/strconv.uint64pow10" .u64 Lib.pow10Tab:=by
 obtain ⟨h1,h2,c,t,m,h3,h4⟩:=hg 5 e9k rfl
 have hn:Tryz.prog.globalNamed "internal/strconv.uint64pow10" = some 5:=by kernel_rfl
 unfold Lib.TabIs World.var?
 rw[hn]
 show (match w.heap[5]? with|some (.cells cs _ _)=>some cs|_=>none)=_
 rw[h3]
 refine congrArg some ?_
 cases h1 with
 | elem hd hf hh =>
  have e:e9k=(Lib.pow10Tab.map fun z=>Value.int .u64 z).map .lit:=by simp[e9k]
  rw[e] at hd
  have:=c2x (by intro x hx a;obtain ⟨z,_,rfl⟩:=List.mem_map.1 hx;simp) hd
  subst this
  refine Array.ext' ?_
  rw[List.toList_toArray]
  refine List.ext_getElem? fun i=>?_
  by_cases hi:i<c.toList.length
  ·have hi':i<(Lib.pow10Tab.map fun z=>Value.int .u64 z).length:=by rw[e,List.length_map] at h4;simpa [←h4] using hi
   have:=(hh.2 i _ (List.getElem?_eq_getElem hi')).2
   unfold World.cell? at this
   simp only[Nat.zero_add,h3] at this
   rw[List.getElem?_eq_getElem hi', ←this]
   simp
  ·have hi':¬i<(Lib.pow10Tab.map fun z=>Value.int .u64 z).length:=by rw[e,List.length_map] at h4;simpa [←h4] using hi
   simp only[List.toList_toArray]
   rw[List.getElem?_eq_none (by omega),List.getElem?_eq_none (by omega)]
theorem b7q {K:Nat} {fn:Func} (hf:Tryz.prog.funcs[K]?=some fn) (hn:(fn.name == "runtime.NumGoroutine")=false) (hb:fn.body.isSome=true):N8 Tryz.prog K:=⟨fn,hf,by simpa using hn,hb⟩
theorem i9y {ds:List D} {r:D} (h:g5u ds=some r):a6o B 112 ds r:=by
 unfold g5u at h
 split at h
 ·rename_i s t
  split at h
  ·rename_i c hc
   cases h
   refine ⟨b7q Tryz.func112 (by kernel_rfl) (by kernel_rfl),fun w lim vs hl hg hd=>?_⟩
   obtain ⟨vs⟩:=vs
   have ht:t=⟨#[c]⟩:=by
    obtain ⟨⟨l⟩⟩:=t
    simp at hc
    rw[hc]
   subst ht
   cases hd with
   | cons h1 t1 =>
    cases t1 with
    | cons h2 t2 =>
     cases t2
     cases h1;cases h2
     refine (Tryz.strings_Contains_one s c w).mono ?_
     rintro e w' ⟨rfl,rfl⟩
     exact ⟨_,lim,rfl, .refl _,fun _ _=>rfl,hl, .lit (by simp)⟩
  ·cases h
 ·cases h
theorem f2x (w:World) (k:Nat) (os:Array Obj):Ext w (Sort.grow (w.drewN k) os) :=
 ⟨rfl,rfl,rfl,by simp[Sort.grow,World.drewN],fun b hb=>by
  show (w.heap++os)[b]?=w.heap[b]?
  rw[Array.getElem?_append_left hb]⟩
theorem d8t {w w1:World} (h:Ext w w1) {a:Addr} {n:Nat} (ha:w.heap.size≤a.block):Ext w (w1.freeze a n):=by
 unfold World.freeze
 split
 ·exact h
 ·refine ⟨h.os,h.tape,h.output,by simpa using h.size,fun b hb=>?_⟩
  simp only[Array.getElem?_modify]
  rw[if_neg (by omega)]
  exact h.block b hb
theorem e8a (w:World) (e:TypeId) (t:ByteArray):Ext w (Lib.bytesWorld w e t):=d8t (Ext.drew w _) (Nat.le_refl _)
theorem h6z {ds:List D} {r:D} (h:g5t ds=some r):a6o B 155 ds r:=by
 unfold g5t at h
 split at h
 ·rename_i n
  cases hc:(decide (-9223372036854775808≤n)&&decide (n≤9223372036854775807)) with
  | false=>rw[hc] at h;cases h
  | true =>
   rw[hc] at h
   simp only[Bool.and_eq_true,decide_eq_true_eq] at hc
   cases h
   refine ⟨b7q Tryz.func155 (by kernel_rfl) (by kernel_rfl),fun w lim vs hl hg hd=>?_⟩
   obtain ⟨vs⟩:=vs
   cases hd with
   | cons h1 t1 =>
    cases t1
    cases h1
    refine (Tryz.strconv_Itoa n hc.1 hc.2 w (g6t hg)).mono ?_
    rintro e w' ⟨rfl,k,os,rfl⟩
    have he:=f2x w k os
    exact ⟨_,lim,rfl,he,fun _ _=>rfl,fun b hb=>hl b (Nat.le_trans he.size hb),by rw[f2n hc.1 hc.2];exact .lit (by simp)⟩
 ·cases h
theorem i9w {ds:List D} {r:D} (h:g5s ds=some r):a6o B 183 ds r:=by
 unfold g5s at h
 split at h
 ·rename_i s
  cases hc:decide (s.size≤9223372036854775806) with
  | false=>rw[hc] at h;cases h
  | true =>
   rw[hc] at h
   simp only[cond_true] at h
   split at h
   ·rename_i v hv
    cases h
    refine ⟨b7q Tryz.func183 (by kernel_rfl) (by kernel_rfl),fun w lim vs hl hg hd=>?_⟩
    obtain ⟨vs⟩:=vs
    cases hd with
    | cons h1 t1 =>
     cases t1
     cases h1
     refine (Tryz.strconv_Atoi_ok s (by simpa using hc) v hv w).mono ?_
     rintro e w' ⟨rfl,hw⟩
     have he:Ext w w':=by
      rcases hw with rfl|⟨t,rfl⟩
      ·exact .refl _
      ·exact e8a w 5 t
     exact ⟨_,lim,rfl,he,fun _ _=>rfl,fun b hb=>hl b (Nat.le_trans he.size hb), .tup (.cons (.lit (by simp)) (.cons (.lit (by simp)) .nil))⟩
   ·cases h
 ·cases h
theorem e71 {ds:List D} {r:D} (h:x71 ds=some r):a6o B 71 ds r:=by
 unfold x71 at h
 split at h
 ·rename_i s
  cases hc:(decide (s.size<4294967281)&&f4n s) with
  | false=>rw[hc] at h;cases h
  | true =>
   rw[hc] at h
   simp only[Bool.and_eq_true,decide_eq_true_eq] at hc
   exact k71 71 c71 _ r rfl hc h
 ·cases h
theorem i9x {ds:List D} {r:D} (h:h2x ds=some r):a6o B 142 ds r:=h6f 142 e7z ds r rfl trivial h
theorem f9c:W8 C14:=by
 refine ⟨fun K f ds r hf hr=>?_,fun K f args H r H' hf=>by cases hf⟩
 have hf':f3i K=some f:=hf
 unfold f3i at hf'
 have key:∀(n:Nat) {a b:Option (List D→Option D)},(bif K==n then a else b)=some f→(K=n∧a=some f)∨b=some f:=fun n a b h=>by
  cases e:(K==n) with
  | true=>rw[e] at h;exact .inl ⟨by simpa using e,h⟩
  | false=>rw[e] at h;exact .inr h
 rcases key 71 hf' with ⟨rfl,h⟩|h
 ·cases h;exact (e71 hr).of rfl rfl
 rcases key 112 h with ⟨rfl,h⟩|h
 ·cases h;exact (i9y hr).of rfl rfl
 rcases key 155 h with ⟨rfl,h⟩|h
 ·cases h;exact (h6z hr).of rfl rfl
 rcases key 183 h with ⟨rfl,h⟩|h
 ·cases h;exact (i9w hr).of rfl rfl
 rcases key 142 h with ⟨rfl,h⟩|h
 ·cases h;exact (i9x hr).of rfl rfl
 cases h
theorem i6e:H9 B e8n.st:=c2m (c2m (c2m g6i h5r) f6z) g4u
theorem f5g:∀n,Z4 C14 (evB C14 (b5f e8n) n) :=
 c7m ⟨B9.ok.plain,B9.ok.mixed⟩ f9c f7c (Z4.le (d7u e8n) (b5e (H9.of rfl rfl i6e)))
theorem h4g:f2q (evB C14 (b5f e8n) 60 14 [] B3.empty)=true:=by kernel_rfl
theorem k14:C3 B T14:=by
 refine Y8 k13 fun ds r hp hr=>?_
 unfold c14 at hp hr
 simp only[] at hr hp
 split at hr
 ·cases hr
  have h:=h4g
  cases he:evB C14 (b5f e8n) 60 14 [] B3.empty with
  | none=>rw[he] at h;cases h
  | some p =>
   obtain ⟨v,H'⟩:=p
   rw[he] at h
   have hv:v=A6 true:=by
    unfold f2q at h
    split at h
    ·rename_i b H1 heq
     simp only[Option.some.injEq,Prod.mk.injEq] at heq
     rw[heq.1,h]
    ·cases h
   subst hv
   obtain ⟨h1,h2,_⟩:=f5g 60 14 [] B3.empty _ _ he
   refine (a2o (C:=C14) (K:=14) (ds:=[]) (r:=.lit (.bool true)) h1 fun w g vs a b c d=>?_).of rfl rfl
   refine (h2 w g vs a b c d).mono ?_
   rintro e w' ⟨v,g',k1,k2,k3,k4,k5⟩
   exact ⟨v,_,H',g',rfl,k1,k2,k3,k4,k5⟩
 ·cases hr
end Go.Ev.R2
end
