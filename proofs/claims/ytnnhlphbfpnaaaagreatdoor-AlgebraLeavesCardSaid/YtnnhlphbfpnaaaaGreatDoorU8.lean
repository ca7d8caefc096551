/- What the proofs of the lexer's laws share, part 8 of 14. -/
import Derived.Test.YtnnhlphbfpnaaaaGreatDoorU6
import Derived.Test.YtnnhlphbfpnaaaaGreatDoorU7
import Derived.Test.YtnnhlphbfpnaaaaGreatDoorCards
import Derived.Test.YtnnhlphbfpnaaaaGreatDoorTie
import Derived.WalkKit
import Derived.ProofKit
import Derived.OpenShut
import Derived.LaidMore
import Derived.Deep.DeepHandedRow
import Derived.Deep.DeepWitnessRowRef
import Derived.Lib.LaidTab
import Derived.Stop.LaidErr
import Derived.Shelf.Vars
import Derived.Deep.DeepLaidRun
import Derived.ChangeStays
import Derived.ChangeOld
import Derived.ChangeSame
set_option linter.unusedVariables false
set_option linter.unusedSimpArgs false
section
namespace Go.Ev.R2
open Go Go.Ev Go.Proofs Go.ChangeShapes Go.WideShapes Go.ChangeAt Go.RowKit Go.Proofs.YtnnhlphbfpnaaaaGreatDoor
set_option maxRecDepth 100000
theorem own:ownKnob Tryz.prog.godebug=none:=by kernel_rfl
def b7m:List (String×DataW Unit):=Rows.algebraPartsRow.laid
theorem g4a:(Rows.laid_strings_asciiSpace:DataW Unit)=Lib.tabData .u8 Lib.asciiSpaceTab:=by kernel_rfl
theorem i2e:(Rows.laid_internal_strconv_uint64pow10:DataW Unit)=Lib.tabData .u64 Lib.pow10Tab:=by kernel_rfl
theorem g5t : "*" ++ "errors.errorString" = "*errors.errorString" :=by decide
theorem d8b (u:TypeId) (h:Tryz.prog.typeName? 3 u=some "*errors.errorString"):u=283 :=
 typeName_ptr_named (P:=Tryz.prog) (nm := "errors.errorString") (by rw[g5t];kernel_rfl) (by kernel_rfl) (by decide) u (by rw[g5t];exact h)
theorem b3g {w:World} {n:String} {k:Nat} {cs:Array Value} (hn:Tryz.prog.globalNamed n=some k) (h:w.var? Tryz.prog n=some cs):∃t m,w.heap[k]?=some (.cells cs t m):=by
 unfold World.var? at h
 rw[hn] at h
 simp only[Option.bind_some] at h
 split at h
 ·rename_i cs' t m hh
  cases h
  exact ⟨t,m,hh⟩
 ·cases h
theorem b7o {w:World} {k:Nat} {cs:Array Value} {ds:List D} (h:∃t m,w.heap[k]?=some (.cells cs t m)) (hr:E5 w (a7s w) ds cs.toList) (hf:∀v∈cs.toList,K6 v) (hne:0<cs.size) :
  N7 w (a7s w) (.elem ds) (.pointer (some ⟨k,0,none⟩))∧0<a7s w k∧∃c t m,w.heap[k]?=some (.cells c t m)∧c.size=ds.length:=by
 obtain ⟨t,m,h⟩:=h
 have hl:a7s w k=cs.size:=by simp[a7s,h]
 refine ⟨.elem hr hf ⟨rfl,fun i v hv=>?_⟩,by omega,cs,t,m,h,by rw[hr.length];simp⟩
 have hlt:=(List.getElem?_eq_some_iff.1 hv).1
 refine ⟨by show 0+i<a7s w k;rw[hl];simp at hlt;omega, ?_⟩
 simp only[World.cell?,h,Nat.zero_add]
 simpa using hv
theorem b9u {w:World} {lim:Nat→Nat} (k:IntKind):∀zs:List Int,E5 w lim (zs.map fun z=>.lit (.int k z)) (zs.map fun z=>Value.int k z)
 | []=>.nil
 | z::zs=>.cons (.lit (by simp)) (b9u k zs)
theorem g3p {W:World} (h:laidMetH Tryz.prog b7m W):a7q B W (a7s W):=by
 have h0:laidMet Tryz.prog b7m W:=h
 have hp:laidMet Tryz.prog [("internal/strconv.uint64pow10",Rows.laid_internal_strconv_uint64pow10),("strconv.ErrRange",Rows.laid_strconv_ErrRange),("strconv.ErrSyntax",Rows.laid_strconv_ErrSyntax),("unicode.White_Space",Rows.laid_unicode_White_Space),("strings.asciiSpace",Rows.laid_strings_asciiSpace)] W:=h0.tail.tail
 have her:laidMet Tryz.prog [("strconv.ErrRange",Rows.laid_strconv_ErrRange),("strconv.ErrSyntax",Rows.laid_strconv_ErrSyntax),("unicode.White_Space",Rows.laid_unicode_White_Space),("strings.asciiSpace",Rows.laid_strings_asciiSpace)] W:=hp.tail
 have hes:laidMet Tryz.prog [("strconv.ErrSyntax",Rows.laid_strconv_ErrSyntax),("unicode.White_Space",Rows.laid_unicode_White_Space),("strings.asciiSpace",Rows.laid_strings_asciiSpace)] W:=her.tail
 have hsp:laidMet Tryz.prog [("strings.asciiSpace",Rows.laid_strings_asciiSpace)] W:=hes.tail.tail
 rw[i2e] at hp
 rw[g4a] at hsp
 have tS:Lib.TabIs Tryz.prog W "strings.asciiSpace" .u8 Lib.asciiSpaceTab:=Lib.tabIs_of_head (rest:=[]) (show Tryz.prog.globalNamed "strings.asciiSpace" = some 0 by kernel_rfl) (show (Tryz.prog.globals[0]?).map (·.type)=some 161 by kernel_rfl) (n:=256) (e:=5) (by kernel_rfl) (by kernel_rfl) (by kernel_rfl) (by kernel_rfl) hsp
 have tP:Lib.TabIs Tryz.prog W "internal/strconv.uint64pow10" .u64 Lib.pow10Tab:=Lib.tabIs_of_head (rest:=[("strconv.ErrRange",Rows.laid_strconv_ErrRange),("strconv.ErrSyntax",Rows.laid_strconv_ErrSyntax),("unicode.White_Space",Rows.laid_unicode_White_Space),("strings.asciiSpace",Rows.laid_strings_asciiSpace)]) (show Tryz.prog.globalNamed "internal/strconv.uint64pow10" = some 5 by kernel_rfl) (show (Tryz.prog.globals[5]?).map (·.type)=some 278 by kernel_rfl) (n:=20) (e:=218) (by kernel_rfl) (by kernel_rfl) (by kernel_rfl) (by kernel_rfl) hp
 obtain ⟨a3,s3,v3,_⟩:=laid_sentinel (g:=3) (ti:=180) (tp:=283) (te:=285) (ts:=9) hes (by kernel_rfl) (by kernel_rfl) Tryz.underlying180 d8b Tryz.underlying283 Tryz.underlying285 rfl rfl Tryz.underlying9 (by kernel_rfl) (by kernel_rfl)
 obtain ⟨a4,s4,v4,_⟩:=laid_sentinel (g:=4) (ti:=180) (tp:=283) (te:=285) (ts:=9) her (by kernel_rfl) (by kernel_rfl) Tryz.underlying180 d8b Tryz.underlying283 Tryz.underlying285 rfl rfl Tryz.underlying9 (by kernel_rfl) (by kernel_rfl)
 intro k cs hk
 have hk':e7q k=some cs:=hk
 unfold e7q at hk'
 by_cases e0:k=0
 ·subst e0
  cases hk'
  exact b7o (ds:=b8j) (b3g (by kernel_rfl) tS) (by rw[List.toList_toArray];exact b9u .u8 Lib.asciiSpaceTab) (by intro v hv;simp at hv;obtain ⟨z,_,rfl⟩:=hv;exact ⟨by simp,by simp⟩) (by decide +kernel)
 by_cases e3:k=3
 ·subst e3
  cases hk'
  exact b7o (ds:=f4s) (b3g (by kernel_rfl) v3) (.cons (.iface (.any ⟨by simp,by simp⟩)) .nil) (by intro v hv;simp at hv;subst hv;exact ⟨by simp,by simp⟩) (by simp)
 by_cases e4:k=4
 ·subst e4
  cases hk'
  exact b7o (ds:=f4s) (b3g (by kernel_rfl) v4) (.cons (.iface (.any ⟨by simp,by simp⟩)) .nil) (by intro v hv;simp at hv;subst hv;exact ⟨by simp,by simp⟩) (by simp)
 by_cases e5:k=5
 ·subst e5
  cases hk'
  exact b7o (ds:=e6f) (b3g (by kernel_rfl) tP) (by rw[List.toList_toArray];exact b9u .u64 Lib.pow10Tab) (by intro v hv;simp at hv;obtain ⟨z,_,rfl⟩:=hv;exact ⟨by simp,by simp⟩) (by decide +kernel)
 ·have b0:(k==0)=false:=by simpa using e0
  have b3:(k==3)=false:=by simpa using e3
  have b4:(k==4)=false:=by simpa using e4
  have b5:(k==5)=false:=by simpa using e5
  rw[b0,b3,b4,b5] at hk'
  cases hk'
theorem h8j:Kids Tryz.prog (· ∈tyL):=by
 have hk:=b5e.kinds
 refine ⟨fun {t e} ht hu=>?_,fun {t e} ht hu=>(b5e.slice t e ht hu).1,fun {t e n} ht hu=>?_,fun {t fs} ht hu=>b5e.struct t fs ht hu,fun {t k e} ht hu=>?_⟩
 all_goals
  exfalso
  rcases hk t ht with ⟨fs,h⟩|⟨_,h|⟨_,h⟩|h|⟨_,h⟩⟩<;>rw[h] at hu<;>cases hu
theorem b8e {H:Type} {enc:TypeId×Value→H} {W W':World} {t:TypeId} {v:Value} {d:DataW H} {p:List MemPlace} (ht:t∈tyL) (h:DataW.Trod enc Tryz.prog W 0 (fun _=>true) true t v d p) (hE:Ext W W') :
  DataW.Trod enc Tryz.prog W' 0 (fun b=>decide (b<W.heap.size)) true t v d p:=by
 obtain ⟨fuel,h⟩:=h
 refine ⟨fuel,DataW.trod_stays h8j (fun {t e} ht hu=>(b5e.slice t e ht hu).2.1) (fun h=>by cases h) ht h (fun q hq=>?_) (fun q hq=>?_)⟩
 ·have hb:=DataW.trod_lt _ _ _ _ h q hq
  cases q with
  | cell b off=>exact hE.cell hb
  | map b=>exact hE.block b hb
 ·simpa using DataW.trod_lt _ _ _ _ h q hq
theorem e4c {W W':World} (h:Ext W W') (may:MemPlace→Prop):W.keptBut W' may:=by
 refine ⟨h.os,h.output,fun i hi=>?_⟩
 rw[h.block i hi]
 cases hw:W.heap[i]? with
 | none=>rfl
 | some o =>
  cases o with
  | cells c t fr=>exact ⟨rfl,rfl,rfl,fun _ _=>rfl⟩
  | map es c=>exact .inr ⟨rfl,rfl⟩
  | _=>rfl
theorem e8n {tb:Tab} (hk:C2 B tb) {K:FuncId} {ct:Ct} {ds:List D} {r:D} {vs:Array Value} {W:World} (hL:laidMetH Tryz.prog b7m W) (hc:tb K=some ct) (hp:ct.pre ds) (hf:ct.f ds=some r) (hr:E5 W (a7s W) ds vs.toList) :
  Calls Tryz.prog K vs W fun e W'=>∃v lim',e= .returned v∧Ext W W'∧N7 W' lim' r v :=
 ((hk K ct ds r hc hp hf).2 W (a7s W) vs (fun b hb=>d5y hb) (g3p hL) hr).mono fun e W' ⟨v,lim',h1,h2,_,_,h5⟩=>⟨v,lim',h1,h2,h5⟩
noncomputable def b5m (os:Os):World:=World.doorLaid Tryz.prog 96 os
set_option maxRecDepth 1000000 in
theorem e6y (os:Os) (args:Array Value):laidMet Tryz.prog b7m ((b5m os).forCall (fun _ _=>0) ⟨#[],args, []⟩).memory :=
 laidMet_of_run3 8 (by kernel_rfl) (by kernel_rfl) (by kernel_rfl)
end Go.Ev.R2
end
