/- What the proofs of the lexer's laws share, part 1 of 14. -/
import Derived.Calls
import Derived.Laws.Build
import Derived.Below
import Derived.Laws.AppendOwn
import Derived.WalkKit
import Derived.Laws.StructEq
import Derived.Laws.Tables
import Derived.Laws.CopyRow
import Derived.Laws.BytesString
set_option linter.unusedVariables false
set_option linter.unusedSimpArgs false
section
namespace Go.Ev
abbrev B2:=List Nat
inductive D where
 | lit (v:Value)
 | agg (cs:List D)
 | slice (nil:Bool) (sz:Nat) (xs:List D)
 | elem (cs:List D)
 | map (es:List (D×D))
 | tup (ds:List D)
 | iface (t:TypeId) (x:D)
 | any
 | anyB
 deriving Inhabited
inductive V where
 | d (x:D)
 | agg (cs:List V)
 | ref (n:B2)
 | ptr (n:B2) (off:Nat)
 | hp (n:B2) (i sz:Nat)
 | fn (f:Fn) (first cap:List V)
 | tup (vs:List V)
 | zs (sz:Nat) (x:D)
 | any
 | opt (n:B2) (off:Nat)
 deriving Inhabited
inductive Box where
 | cells (t:TypeId) (cs:List V)
 | arr (live nil:Bool) (t:TypeId) (sz:Nat) (xs ys:List D)
 | map (es:List (D×D))
 | junk
 | bools (t:TypeId) (k:Nat)
 | blob (t:TypeId) (k lo hi:Nat)
abbrev B4:=B2→Option Box
def B4.empty:B4:=fun _=>none
structure St where
 N:Nat
 F:Nat→V
 H:B4
structure Cx where
 P:Program
 glob:Nat→Option (List D)
 ext:FuncId→Option (List D→Option D)
 prim:FuncId→Option (List V→B4→Option (V×B4))
 plain:TypeId→Bool
 keep:FuncId→Bool
 blob:TypeId→Option (Nat×Nat):=fun _=>none
abbrev A3 (n:Int):V:=.d (.lit (.int .i64 n))
abbrev A9 (b:Bool):V:=.d (.lit (.bool b))
abbrev iD (n:Int):D:=.lit (.int .i64 n)
abbrev zD (s:ByteArray):D:=.lit (.string s)
abbrev oD (b:Bool):D:=.lit (.bool b)
abbrev bA (l:List UInt8):ByteArray:=⟨⟨l⟩⟩
abbrev C9 (s:ByteArray):V:=.d (.lit (.string s))
abbrev K9:V:=.d (.lit (.tuple #[]))
def a8m:Value→D
 | .slice none 0 0=>.slice true 0 []
 | v=>.lit v
def ofValue:Value→D
 | .agg cs=>.agg (cs.toList.map a8m)
 | v=>a8m v
def b4g:D→Bool
 | .tup _ | .agg _ | .lit (.tuple _) | .lit (.agg _)=>false
 | _=>true
def J0:D→Bool
 | .tup _ | .lit (.tuple _) | .lit (.agg _)=>false
 | _=>true
def W5:V→Bool
 | .tup _=>false
 | .any=>false
 | .d x=>J0 x
 | _=>true
def b2j:Value→Bool
 | .agg cs=>cs.toList.all fun c=>b4g (a8m c)
 | _=>true
def D.cells:D→List D
 | .agg cs=>cs
 | x=>[x]
def V.cells:V→List V
 | .agg cs=>cs
 | .d (.agg ds)=>ds.map .d
 | v=>[v]
def b7c:List V→Option (List D)
 | []=>some []
 | .d x::r=>match b7c r with|some l=>some (x::l)|none=>none
 | _::_=>none
def b6j (cs:List V):V:=match b7c cs with|some ds=>.d (.agg ds)|none=>.agg cs
def e6t (cs:List V):V:=match b7c cs with|some ds=>.d (.tup ds)|none=>.tup cs
mutual
def toD (H:B4):V→Option D
 | .d x=>some x
 | .ref n=>match H n with
  | some (.arr _ nil _ sz xs [])=>some (.slice nil sz xs)
  | _=>none
 | .agg cs=>match a2v H cs with|some l=>some (.agg l)|none=>none
 | _=>none
def a2v (H:B4):List V→Option (List D)
 | []=>some []
 | v::r=>match toD H v,a2v H r with|some x,some l=>some (x::l)|_,_=>none
end
mutual
def V.ren (g:B2→B2):V→V
 | .d x=>.d x
 | .agg cs=>.agg (a2b g cs)
 | .ref n=>.ref (g n)
 | .ptr n off=>.ptr (g n) off
 | .hp n i sz=>.hp (g n) i sz
 | .fn f a b=>.fn f (a2b g a) (a2b g b)
 | .tup vs=>.tup (a2b g vs)
 | .zs sz x=>.zs sz x
 | .any=>.any
 | .opt n off=>.opt (g n) off
def a2b (g:B2→B2):List V→List V
 | []=>[]
 | v::r=>v.ren g::a2b g r
end
def Box.ren (g:B2→B2):Box→Box
 | .cells t cs=>.cells t (a2b g cs)
 | b=>b
def B4.ren (H:B4) (g:B2→B2) (inv:B2→Option B2):B4:=fun n =>
 match inv n with
 | some m=>(match H m with|some b=>some (b.ren g)|none=>none)
 | none=>none
def St.ren (s:St) (g:B2→B2) (inv:B2→Option B2):St:=⟨s.N,fun t=>(s.F t).ren g,s.H.ren g inv⟩
def b4q (d:Nat):B2→Bool
 | []=>false
 | h::m=>bif h==1 then b4q d m else h==d+2
def age (d:Nat) (n:B2):B2:=bif b4q d n then 1::n else n
def r9 (d:Nat) (n:B2):Option B2:=bif b4q d n then (match n with|h::m=>bif h==1 then some m else none | []=>none) else some n
def St.age (s:St) (d:Nat):St:=s.ren (Ev.age d) (r9 d)
def B4.set (H:B4) (n:B2) (b:Box):B4:=fun m=>bif m==n then some b else H m
def upd (F:Nat→V) (d:Nat) (v:V) (t:Nat):V:=bif t==d then v else F t
def St.put (s:St) (dst:Option Nat) (v:V):Option St:=match dst with
 | none=>some s
 | some d=>bif Nat.blt d s.N then some ⟨s.N,upd s.F d v,s.H⟩ else none
def St.with (s:St) (H:B4):St:=⟨s.N,s.F,H⟩
def St.make (s:St) (dst:Option Nat) (b:Box) (v:B2→V):Option St:=match dst with
 | none=>none
 | some d=>match s.H [d+2] with
  | none=>St.put (s.with (s.H.set [d+2] b)) dst (v [d+2])
  | some _=>none
section ops
variable (C : Cx)
def F1 (t:TypeId):Option TypeDesc:=C.P.underlying t
def Z4 (u:TypeDesc):Bool:=match u with | .struct _ | .array _ _=>true|_=>false
def K8 (t:TypeId):Option Nat:=match C.P.info? t with|some i=>some i.size|none=>none
def b5v (t:TypeId):Option Nat:=match C.P.info? t with|some i=>some i.bytes|none=>none
def a6c (t:TypeId):Option D:=match C.P.info? t with|some i=>(match i.zero with|some z=>(bif b2j z then some (ofValue z) else none)|none=>none)|none=>none
def F3 (F:Nat→V):Operand→Option V
 | .tmp t=>some (F t)
 | .const v=>bif b2j v then some (.d (ofValue v)) else none
 | .global g=>match C.glob g with|some cs=>some (.d (.elem cs))|none=>none
 | .func f=>some (.fn (.func f) [] [])
def N2 (F:Nat→V):List Operand→Option (List V)
 | []=>some []
 | x::r=>match F3 C F x,N2 F r with|some v,some l=>some (v::l)|_,_=>none
def a2r (t:TypeId) (cs:List V):Option V :=
 match F1 C t,K8 C t with
 | some u,some k =>
  bif Z4 u then (bif Nat.ble k cs.length then some (b6j (cs.take k)) else none)
  else match cs with|v::_=>some v | []=>none
 | _,_=>none
def m7 (t:TypeId) (cs:List D):Option D :=
 match F1 C t,K8 C t with
 | some u,some k =>
  bif Z4 u then (bif Nat.ble k cs.length then some (.agg (cs.take k)) else none)
  else match cs with|v::_=>some v | []=>none
 | _,_=>none
def d4e (lo hi:Nat):Nat→Nat→List D
 | _,0=>[]
 | off,z+1=>(bif Nat.ble lo off&&Nat.blt off hi then .anyB else .any)::d4e lo hi (off+1) z
def a2f (H:B4) (t:TypeId):V→Option V
 | .ptr n off=>match H n with
  | some (.cells _ cs)=>a2r C t (cs.drop off)
  | some (.bools _ k)=>match F1 C t,K8 C t with
   | some u,some _=>bif Z4 u then none else bif Nat.blt off k then some (.d .anyB) else none
   | _,_=>none
  | some (.blob _ k lo hi)=>match F1 C t,K8 C t with
   | some u,some z=>bif Z4 u then (bif Nat.ble (off+z) k then some (.d (.agg (d4e lo hi off z))) else none) else bif Nat.ble lo off&&Nat.blt off hi then some (.d .anyB) else bif Nat.blt off k then some (.d .any) else none
   | _,_=>none
  | _=>none
 | .d (.elem ds)=>match m7 C t ds with|some x=>some (.d x)|none=>none
 | _=>none
def o7:V→Bool
 | .d (.lit (.bool _))=>true
 | .d .anyB=>true
 | _=>false
def d9x (x y:V):Bool:=match x with
 | .d .anyB=>o7 y
 | .d (.lit (.bool _))=>(match y with | .d .anyB=>true|_=>false)
 | _=>false
def a7r (lo hi:Nat):Nat→List V→Bool
 | _, []=>true
 | off,c::r=>(bif Nat.ble lo off&&Nat.blt off hi then o7 c else true)&&a7r lo hi (off+1) r
def b4x (cs:List V) (off:Nat) (vs:List V):List V:=cs.take off++(vs++cs.drop (off+vs.length))
def Q3 (H:B4) (t:TypeId) (a v:V):Option B4 :=
 match a with
 | .ptr n off=>match H n,K8 C t with
  | some (.cells u cs),some k =>
   bif W5 v&&v.cells.length==k&&Nat.ble (off+k) cs.length then some (H.set n (.cells u (b4x cs off v.cells))) else none
  | some (.bools u kk),some k=>bif o7 v&&k==1&&Nat.blt off kk then some (H.set n (.bools u kk)) else none
  | some (.blob u kk lo hi),some k=>bif W5 v&&v.cells.length==k&&Nat.ble (off+k) kk&&a7r lo hi off v.cells then some (H.set n (.blob u kk lo hi)) else none
  | _,_=>none
 | .hp n i z=>match H n,K8 C t,toD H v with
  | some (.arr live nil u sz xs ys),some k,some x =>
   bif J0 x&&k==sz&&z==sz&&x.cells.length==sz&&Nat.ble xs.length i&&Nat.blt i (xs.length+ys.length) then some (H.set n (.arr live nil u sz xs (ys.set (i-xs.length) x))) else none
  | _,_,_=>none
 | _=>none
def a9s (s:TypeId) (f:Nat):Option Field:=match F1 C s with|some (.struct fs)=>fs[f]?|_=>none
def b2d (t:TypeId) (off:Nat):V→Option V
 | .agg cs=>a2r C t (cs.drop off)
 | .d (.agg ds)=>match m7 C t (ds.drop off) with|some x=>some (.d x)|none=>none
 | _=>none
def b5n (op:BinOp) (k:IntKind) (a b:Int):Option Value :=
 match op with
 | .add=>some (.int k (k.wrap (a+b)))
 | .sub=>some (.int k (k.wrap (a-b)))
 | .mul=>some (.int k (k.wrap (a*b)))
 | .quo=>if b=0 then none else some (.int k (k.wrap (a.tdiv b)))
 | .rem=>if b=0 then none else some (.int k (a.tmod b))
 | .eql=>some (.bool (a==b))
 | .neq=>some (.bool (a !=b))
 | .lss=>some (.bool (a<b))
 | .leq=>some (.bool (a≤b))
 | .gtr=>some (.bool (a>b))
 | .geq=>some (.bool (a≥b))
 | _=>none
def c6a (op:BinOp) (a b:ByteArray):Option Value :=
 match op with
 | .add=>if ((a.size+b.size:Nat):Int)>IntKind.i64.max then none else some (.string (a++b))
 | .eql=>some (.bool (a.toList==b.toList))
 | .neq=>some (.bool !(a.toList==b.toList))
 | .lss=>some (.bool (Op.bytesLess a.toList b.toList))
 | .leq=>some (.bool (Op.bytesLess a.toList b.toList||a.toList==b.toList))
 | .gtr=>some (.bool !(Op.bytesLess a.toList b.toList||a.toList==b.toList))
 | .geq=>some (.bool !(Op.bytesLess a.toList b.toList))
 | _=>none
def V2 (H:B4) (u:TypeDesc) (x:V):Option Bool :=
 match u,x with
 | .pointer _, .d (.lit (.pointer none))=>some true
 | .pointer _, .d (.elem _) | .pointer _, .ptr _ _=>some false
 | .func _ _ _, .d (.lit .nilFunc)=>some true
 | .func _ _ _, .fn _ _ _=>some false
 | .interface _, .d (.lit .nilIface)=>some true
 | .interface _, .d (.iface _ _)=>some false
 | .slice _, .d (.slice b _ _)=>some b
 | .slice _, .ref n=>match H n with|some (.arr _ b _ _ _ _)=>some b|_=>none
 | _,_=>none
def d3q (u:TypeDesc) (x y:Value):Option Bool :=
 match u,x,y with
 | .bool, .bool a, .bool b=>some (a==b)
 | .int _, .int k a, .int k' b=>if k=k' then some (a==b) else none
 | .string, .string a, .string b=>some (a==b)
 | _,_,_=>none
def eqFields (eq:TypeId→D→D→Option Bool) (xs ys:List D):List Field→Option Bool
 | []=>some true
 | f::r =>
  if f.name = "_" then none else
  match m7 C f.type (xs.drop f.offset),m7 C f.type (ys.drop f.offset) with
  | some a,some b=>match eq f.type a b,eqFields eq xs ys r with
   | some p,some q=>some (p&&q)
   | _,_=>none
  | _,_=>none
def eqD:Nat→TypeId→D→D→Option Bool
 | 0,_,_,_=>none
 | n+1,t,x,y =>
  match x,y with
  | .lit a, .lit b=>match F1 C t with|some u=>d3q u a b|none=>none
  | .agg xs, .agg ys=>match F1 C t with
   | some (.struct fs)=>bif C.plain t then eqFields C (eqD n) xs ys fs.toList else none
   | _=>none
  | _,_=>none
def b2z (H:B4) (t:TypeId) (x y:V):Option Bool :=
 match F1 C t with
 | none=>none
 | some u=>match V2 H u x,V2 H u y with
  | some true,some b=>some b
  | some b,some true=>some b
  | some false,some false=>match u,x,y with
   | .pointer e, .ptr n i, .ptr m j=>(match K8 C e with|some k=>bif n==m&& !(k==0) then some (i==j) else none|none=>none)
   | _,_,_=>none
  | none,none=>match x,y with
   | .d a, .d b=>eqD C 4 t a b
   | _,_=>none
  | _,_=>none
def o3 (H:B4) (op:BinOp) (t:TypeId) (x y:V):Option V :=
 match x,y with
 | .d (.lit (.int k a)), .d (.lit (.int k' b))=>if k=k' then (match b5n op k a b with|some v=>some (.d (.lit v))|none=>none) else none
 | .d (.lit (.string a)), .d (.lit (.string b))=>match c6a op a b with|some v=>some (.d (.lit v))|none=>none
 | x,y=>bif d9x x y then (match F1 C t,op with
  | some .bool, .eql=>some (.d .anyB)
  | some .bool, .neq=>some (.d .anyB)
  | _,_=>none) else match op with
  | .eql=>match b2z C H t x y with|some b=>some (A9 b)|none=>none
  | .neq=>match b2z C H t x y with|some b=>some (A9 !b)|none=>none
  | _=>none
def a2h:V→Bool
 | .d (.lit .nilIface)=>true
 | _=>false
def e4d (op:UnOp) (x:V):Option V :=
 match op,x with
 | .not, .d (.lit (.bool b))=>some (A9 !b)
 | .neg, .d (.lit (.int k n))=>some (.d (.lit (.int k (k.wrap (0-n)))))
 | _,_=>none
def G9 (s:ByteArray):List D:=s.data.toList.map fun b=>.lit (.int .u8 b.toNat)
def U3:List D→Option (List UInt8)
 | []=>some []
 | .lit (.int .u8 n)::r=>match U3 r with|some l=>some (UInt8.ofNat n.toNat::l)|none=>none
 | _::_=>none
def a3n (H:B4):V→Option (Bool×Nat×List D)
 | .d (.slice nil sz xs)=>some (nil,sz,xs)
 | .ref n=>match H n with|some (.arr _ nil _ sz xs [])=>some (nil,sz,xs)|_=>none
 | _=>none
def V4 (H:B4) (src dst:TypeId) (x:V):Option V :=
 match F1 C src,F1 C dst,x with
 | some (.int _),some (.int k), .d (.lit (.int _ n))=>some (.d (.lit (.int k (k.wrap n))))
 | some .string,some .string, .d (.lit (.string s))=>some (C9 s)
 | some .string,some (.slice e), .d (.lit (.string s))=>match F1 C e,K8 C e with
  | some (.int .u8),some 1=>some (.d (.slice false 1 (G9 s)))
  | _,_=>none
 | some (.slice e),some .string,x=>match F1 C e,a3n H x with
  | some (.int .u8),some (_,sz,xs)=>(bif sz==1||xs.isEmpty then (match U3 xs with|some l=>some (C9 ⟨l.toArray⟩)|none=>none) else none)
  | _,_=>none
 | _,_,_=>none
def idx (x:V):Option Nat:=match x with | .d (.lit (.int _ i))=>if 0≤i then some i.toNat else none|_=>none
def a3q (d:Nat):Option V→Option Nat
 | none=>some d
 | some v=>idx v
def W4 (H:B4) (t:TypeId) (x:V) (lo hi:Option V):Option V :=
 match F1 C t,x with
 | some .string, .d (.lit (.string s))=>match a3q 0 lo,a3q s.size hi with
  | some l,some h=>if l≤h then (if h≤s.size then some (C9 (s.extract l h)) else none) else none
  | _,_=>none
 | some (.slice e),x=>match a3n H x,K8 C e with
  | some (nil,sz,xs),some k=>match a3q 0 lo,a3q xs.length hi with
   | some l,some h=>if l≤h then (if h≤xs.length then (bif sz==k||nil then some (.d (.slice nil k ((xs.take h).drop l))) else none) else none) else none
   | _,_=>none
  | _,_=>none
 | _,_=>none
def w4 (t:TypeId) (x i:V):Option V :=
 match F1 C t,x,idx i with
 | some .string, .d (.lit (.string s)),some k=>match s[k]? with|some b=>some (.d (.lit (.int .u8 b.toNat)))|none=>none
 | some (.array n e),x,some k=>match K8 C e with|some z=>(if k<n then b2d C e (k*z) x else none)|none=>none
 | _,_,_=>none
def J4 (H:B4) (t:TypeId) (x i:V):Option V :=
 match F1 C t,idx i with
 | some (.slice e),some k=>match a3n H x,K8 C e with
  | some (_,sz,xs),some z=>match xs[k]? with
   | some y=>bif sz==z then some (.d (.elem y.cells)) else none
   | none=>none
  | none,some z=>match x with
   | .ref n=>match H n with
    | some (.arr _ _ _ sz xs ys)=>bif sz==z&&Nat.ble xs.length k&&Nat.blt k (xs.length+ys.length) then some (.hp n k sz) else none
    | _=>none
   | _=>none
  | _,_=>none
 | some (.array n e),some k=>match x,K8 C e with
  | .ptr m off,some z=>if k<n then some (.ptr m (off+k*z)) else none
  | .d (.elem cs),some z=>if k<n then some (.d (.elem (cs.drop (k*z)))) else none
  | _,_=>none
 | _,_=>none
def b6u (H:B4) (t:TypeId) (x:V):Option V :=
 match F1 C t,x with
 | some .string, .d (.lit (.string s))=>some (A3 s.size)
 | some (.slice _),x=>match a3n H x with|some (_,_,xs)=>some (A3 xs.length)|none=>none
 | some (.array n _),_=>some (A3 n)
 | _,_=>none
def a8p (mx:Bool):List V→Option V
 | [.d (.lit (.int k a)), .d (.lit (.int k' b))]=>if k=k' then some (.d (.lit (.int k (bif mx then (if b>a then b else a) else (if b<a then b else a))))) else none
 | _=>none
def b6t (place:Nat→Option (Nat×Nat)) (cells:List V):List (Nat×V)→Option (List V)
 | []=>some cells
 | (i,v)::rest=>match place i with
  | none=>none
  | some (off,k)=>bif W5 v&&v.cells.length==k&&Nat.ble (off+k) cells.length then b6t place (b4x cells off v.cells) rest else none
def a4k (fs:List Field):Option (List (Nat×Nat)) :=
 match fs with
 | []=>some []
 | f::r=>match K8 C f.type,a4k r with|some k,some l=>some ((f.offset,k)::l)|_,_=>none
def a9u (t:TypeId) (parts:List (Nat×V)):Option V :=
 match F1 C t,a6c C t with
 | some (.struct fs),some z=>bif J0 z then (match a4k C fs.toList with
  | some ps=>match b6t (fun i=>ps[i]?) (z.cells.map .d) parts with
   | some cs=>some (b6j cs)
   | none=>none
  | none=>none) else none
 | some (.array _ e),some z=>bif J0 z then (match K8 C e with
  | some k=>(match b6t (fun i=>some (i*k,k)) (z.cells.map .d) parts with
   | some cs=>some (b6j cs)
   | none=>none)
  | none=>none) else none
 | _,_=>none
def M9 (F:Nat→V):List (Nat×Operand)→Option (List (Nat×V))
 | []=>some []
 | (i,x)::r=>match F3 C F x,M9 F r with|some v,some l=>some ((i,v)::l)|_,_=>none
def m8 (H:B4) (sz:Nat):List D→List (Nat×V)→Option (List D)
 | xs, []=>some xs
 | xs,(i,v)::r=>match toD H v with
  | some x=>bif J0 x&&x.cells.length==sz&&Nat.blt i xs.length then m8 H sz (xs.set i x) r else none
  | none=>none
def a5q:Nat:=70368744177664
def b4s (H:B4) (sz:Nat):V→Option (List D×List D)
 | .d (.lit (.string s))=>bif sz==1 then some (G9 s, []) else none
 | .zs z x=>bif z==sz then some ([], [x]) else none
 | x=>match a3n H x with
  | some (_,z,xs)=>bif z==sz||xs.isEmpty then some (xs, []) else none
  | none=>none
def a7n (H:B4) (e sz:Nat):V→Option (Option B2×Bool×List D)
 | .d (.slice true _ xs)=>bif xs.isEmpty then some (none,true, []) else none
 | .ref n=>match H n with
  | some (.arr live nil t z xs [])=>bif live&&(t==e&&z==sz) then some (some n,nil,xs) else none
  | _=>none
 | _=>none
def V5 (s:St) (dst:Option Nat) (t:TypeId) (x y:V):Option St :=
 match F1 C t with
 | some (.slice e)=>match K8 C e,b5v C e with
  | some sz,some by_=>match a7n s.H e sz x,b4s s.H sz y with
   | some (n,nil,xs),some (ys,zs) =>
    bif sz==0||by_==0 then none else
    if (xs.length+(ys.length+zs.length))*by_≤a5q then
     (match a6c C e with
     | some z=>bif J0 z&&z.cells.length==sz then
       St.make (s.with (match n with|some n=>s.H.set n (.arr false nil e sz xs [])|none=>s.H)) dst (.arr true (nil&&(ys.isEmpty&&zs.isEmpty)) e sz (xs++ys) zs) .ref
      else none
     | none=>none)
    else none
   | _,_=>none
  | _,_=>none
 | _=>none
def b3r:Value→D→Option Bool
 | .int k a, .lit (.int k' b)=>if k=k' then some (a==b) else none
 | .string a, .lit (.string b)=>some (a==b)
 | .bool a, .lit (.bool b)=>some (a==b)
 | _,_=>none
def b4i (k:Value):List (D×D)→Option (Option D)
 | []=>some none
 | (x,v)::r=>match b3r k x with
  | some true=>some (some v)
  | some false=>b4i k r
  | none=>none
def a2p (H:B4):V→Option (List (D×D))
 | .d (.map es)=>some es
 | .ref n=>match H n with|some (.map es)=>some es|_=>none
 | _=>none
def U4 (u:TypeDesc) (k:Value):Bool :=
 match u,k with
 | .int _, .int _ _ | .string, .string _ | .bool, .bool _=>true
 | _,_=>false
def o0 (H:B4) (t:TypeId) (m k:V) (ok:Bool):Option V :=
 match F1 C t,k,a2p H m with
 | some (.map kt et), .d (.lit kv),some es=>match F1 C kt,b4i kv es,a6c C et with
  | some u,some r,some z =>
   bif U4 u kv then (match r with
    | some v=>some (bif ok then .d (.tup [v, .lit (.bool true)]) else .d v)
    | none=>some (bif ok then .d (.tup [z, .lit (.bool false)]) else .d z)) else none
  | _,_,_=>none
 | _,_,_=>none
def w3 (s:St) (t:TypeId) (m k v:V):Option St :=
 match F1 C t,m,k,toD s.H v with
 | some (.map kt _), .ref n, .d (.lit kv),some x=>match F1 C kt,s.H n with
  | some u,some (.map es)=>match b4i kv es with
   | some none=>bif U4 u kv then some (s.with (s.H.set n (.map (es++ [(.lit kv,x)])))) else none
   | _=>none
  | _,_=>none
 | _,_,_,_=>none
abbrev E7:=FuncId→List V→B4→Option (V×B4)
def upN (n:B2):B2:=0::n
def b8b (n:B2):Option B2:=match n with | 0::m=>some m|_=>none
def b3j (d:Nat) (n:B2):B2:=(d+2)::n
def a4d (d:Nat) (n:B2):Option B2:=match n with|h::m=>bif h==d+2 then some m else none | []=>none
def k8 (d:Nat) (n:B2):B2:=match n with | 0::m=>m|m=>(d+2)::m
def U7 (d:Nat) (n:B2):Option B2:=match n with
 | h::m=>bif h==d+2 then (match m with | 0::_=>none|m=>some m) else some (0::n)
 | []=>some [0]
def B5 (H:B4) (v:V):V :=
 match v with
 | .ref n=>match H n with
  | some (.map es)=>.d (.map es)
  | some (.arr _ nil _ sz xs [])=>.d (.slice nil sz xs)
  | _=>v
 | .tup vs=>match a2v H vs with|some ds=>.d (.tup ds)|none=>.tup vs
 | v=>match toD H v with|some x=>.d x|none=>v
def B4.join (H K:B4):B4:=fun n=>match K n with|some b=>some b|none=>H n
def a5y (s:St) (d:Nat) (r:V) (Hc:B4):Option St :=
 St.put (s.with (s.H.join (Hc.ren (b3j d) (a4d d)))) (some d) (r.ren (b3j d))
def Y5 (call:E7) (s:St) (d:Nat) (K:FuncId) (args:List V):Option St :=
 match call K (a2b upN args) (s.H.ren upN b8b) with
 | some (r,Hc)=>St.put (s.with (Hc.ren (k8 d) (U7 d))) (some d) (r.ren (k8 d))
 | none=>none
def L3 (y:Bool) (call:E7) (s:St) (dst:Option Nat) (K:FuncId) (args:List V):Option St :=
 match C.ext K with
 | some f=>match a2v s.H args with
  | some ds=>match f ds with|some r=>s.put dst (.d r)|none=>none
  | none=>none
 | none =>
  match C.prim K with
  | some f=>match f args s.H with
   | some (v,H)=>St.put (s.with H) dst v
   | none=>none
  | none =>
   match (bif C.keep K then none else a2v s.H args) with
   | some ds=>match call K (ds.map .d) B4.empty with
    | some (r,Hc)=>match B5 Hc r with
     | .d x=>s.put dst (.d x)
     | v=>match dst with
      | none=>none
      | some d=>bif y then a5y s d v Hc else a5y (s.age d) d v Hc
    | none=>none
   | none=>match dst with
    | none=>none
    | some d=>bif y then Y5 call s d K args else Y5 call (s.age d) d K (a2b (age d) args)
def a3v (F:Nat→V):Option Operand→Option (Option V)
 | none=>some none
 | some x=>match F3 C F x with|some v=>some (some v)|none=>none
def asV (r:Option V) (s:St) (dst:Option Nat):Option St:=match r with|some v=>s.put dst v|none=>none
def D5 (y:Bool) (call:E7) (o:Oper) (s:St):Option St :=
 let d:=o.dst
 match o.op with
 | .move x | .assign x=>asV (F3 C s.F x) s d
 | .pick c a b=>match F3 C s.F c with
  | some (.d (.lit (.bool t)))=>bif t then asV (F3 C s.F a) s d else asV (F3 C s.F b) s d
  | _=>none
 | .alloc t=>match a6c C t with
  | some z=>bif J0 z then (match C.blob t with
   | none=>s.make d (.cells t (z.cells.map .d)) (.ptr · 0)
   | some (lo,hi)=>bif a7r lo hi 0 (z.cells.map .d)&&Nat.ble hi z.cells.length then s.make d (.blob t z.cells.length lo hi) (.ptr · 0) else none) else none
  | none=>none
 | .box t x=>match F3 C s.F x with
  | some v=>bif W5 v then s.make d (.cells t v.cells) (.ptr · 0) else none
  | none=>none
 | .build t parts=>match M9 C s.F parts.toList with
  | some l=>asV (a9u C t l) s d
  | none=>none
 | .buildSlice t len parts=>match F1 C t with
  | some (.slice e)=>match K8 C e,a6c C e with
   | some sz,some z=>match parts.toList with
    | [(0, .const (.agg cs))]=>bif b2j (.agg cs)&&len==1&&cs.size==sz&& !(sz==0)&&Nat.ble sz 1000&&J0 z&&z.cells.length==sz then s.put d (.zs sz (ofValue (.agg cs))) else none
    | ps=>match M9 C s.F ps with
     | some l=>bif !J0 z||sz==0||Nat.blt 16777216 (len*sz)|| !(z.cells.length==sz) then none else
      (match m8 s.H sz (List.replicate len z) l with
      | some xs=>s.make d (.arr true false e sz xs []) .ref
      | none=>none)
     | none=>none
   | _,_=>none
  | _=>none
 | .makeSlice t l c=>match F1 C t,F3 C s.F l,F3 C s.F c with
  | some (.slice e),some (.d (.lit (.int _ 0))),some c=>match K8 C e,b5v C e,idx c with
   | some sz,some by_,some k=>if sz≠0∧by_≠0∧k*by_≤a5q then
     (match a6c C e with
     | some z=>bif J0 z&&z.cells.length==sz then s.make d (.arr true false e sz [] []) .ref else none
     | none=>none)
    else none
   | _,_,_=>none
  | _,_,_=>none
 | .load t a=>match F3 C s.F a with|some a=>asV (a2f C s.H t a) s d|none=>none
 | .store t a x=>match F3 C s.F a,F3 C s.F x with
  | some a,some v=>match Q3 C s.H t a v with|some H=>St.put (s.with H) d K9|none=>none
  | _,_=>none
 | .nilCheck x=>match F3 C s.F x with
  | some (.ptr n off)=>s.put d (.ptr n off)
  | some (.d (.elem cs))=>s.put d (.d (.elem cs))
  | _=>none
 | .binOp op t x y _=>match F3 C s.F x,F3 C s.F y with
  | some vx,some vy=>bif a2h vx&&a2h vy&& !(Region.isConst x||Region.isConst y) then none else asV (o3 C s.H op t vx vy) s d
  | _,_=>none
 | .unOp op _ x=>match F3 C s.F x with|some x=>asV (e4d op x) s d|none=>none
 | .convert src dst x=>match F3 C s.F x with|some x=>asV (V4 C s.H src dst x) s d|none=>none
 | .makeFunc f a b=>match N2 C s.F a.toList,N2 C s.F b.toList with
  | some a,some b=>s.put d (.fn f a b)
  | _,_=>none
 | .makeInterface t x=>match F3 C s.F x with
  | some x=>(match toD s.H x with
   | some x=>bif C.P.concrete t then s.put d (.d (.iface t x)) else none
   | none=>none)
  | none=>none
 | .makeMap t r=>match r,F1 C t with
  | none,some (.map _ _)=>s.make d (.map []) .ref
  | some (.const (.int _ _)),some (.map _ _)=>s.make d (.map []) .ref
  | _,_=>none
 | .slice t x lo hi none=>match F3 C s.F x,a3v C s.F lo,a3v C s.F hi with
  | some x,some lo,some hi=>asV (W4 C s.H t x lo hi) s d
  | _,_,_=>none
 | .fieldAddr st x f=>match F3 C s.F x,a9s C st f with
  | some x,some fd=>match K8 C fd.type with
   | some k=>bif k==0 then none else (match x with
    | .ptr n off=>s.put d (.ptr n (off+fd.offset))
    | .d (.elem cs)=>s.put d (.d (.elem (cs.drop fd.offset)))
    | _=>none)
   | none=>none
  | _,_=>none
 | .field st x f=>match F3 C s.F x,a9s C st f with
  | some x,some fd=>asV (b2d C fd.type fd.offset x) s d
  | _,_=>none
 | .indexAddr t x i=>match F3 C s.F x,F3 C s.F i with
  | some x,some i=>asV (J4 C s.H t x i) s d
  | _,_=>none
 | .index t x i=>match F3 C s.F x,F3 C s.F i with
  | some x,some i=>asV (w4 C t x i) s d
  | _,_=>none
 | .lookup t m k ok=>match F3 C s.F m,F3 C s.F k with
  | some m,some k=>asV (o0 C s.H t m k ok) s d
  | _,_=>none
 | .insert t m k x=>match F3 C s.F m,F3 C s.F k,F3 C s.F x with
  | some m,some k,some x=>(match w3 C s t m k x with|some s=>s.put d K9|none=>none)
  | _,_,_=>none
 | .extract t i=>match F3 C s.F t with
  | some (.d (.tup ds))=>match ds[i]? with|some x=>s.put d (.d x)|none=>none
  | some (.tup vs)=>match vs[i]? with|some x=>s.put d x|none=>none
  | _=>none
 | .call c=>match N2 C s.F c.args.toList with
  | none=>none
  | some args=>match c.callee with
   | .builtin .len=>match c.argTypes[0]?,args with
    | some t, [x]=>asV (b6u C s.H t x) s d
    | _,_=>none
   | .builtin .min=>asV (a8p false args) s d
   | .builtin .max=>asV (a8p true args) s d
   | .builtin .append=>match c.argTypes[0]?,c.argTypes[1]?,args with
    | some t,some u, [x,y]=>(match F1 C u with
     | some (.slice _)=>V5 C s d t x y
     | some .string=>V5 C s d t x y
     | _=>none)
    | _,_,_=>none
   | .value f=>match F3 C s.F f with
    | some (.fn (.func K) first cap)=>L3 C y call s d K (first++args++cap)
    | _=>none
   | _=>none
 | _=>none
def J6 (ops:Array Oper) (o:Oper) (F:Nat→V):Option Bool :=
 match o.guard with
 | none=>some true
 | some (j,want)=>match (ops[j]?).bind (·.dst) with
  | none=>none
  | some d=>match F d with
   | .d (.lit (.bool b))=>some (b==want)
   | .d (.lit (.tuple _))=>some false
   | _=>none
def P0 (y:Bool) (call:E7) (ops:Array Oper):List Oper→St→Option St
 | [],s=>some s
 | o::rest,s=>match J6 ops o s.F with
  | some true=>(match D5 C y call o s with|some s'=>P0 y call ops rest s'|none=>none)
  | some false=>(match s.put o.dst K9 with|some s'=>P0 y call ops rest s'|none=>none)
  | none=>none
def f8r:Op→Bool
 | .alloc _ | .box .. | .buildSlice .. | .makeSlice .. | .makeMap .. =>true
 | .call {callee:=.builtin .append, .. }=>true
 | _=>false
def f0 (s:St):List Oper→St
 | []=>s
 | o::r=>match f8r o.op,o.dst with|true,some d=>f0 (s.age d) r|_,_=>f0 s r
def k9 (H:B4):B4:=fun n=>match H n with
 | some (.arr live nil t sz xs ys)=>some (.arr live nil t sz (xs++ys) [])
 | b=>b
def e6o:List (Nat×Operand)→Bool
 | [(0, .const (.agg _))]=>true
 | _=>false
def f9r:Op→Bool
 | .buildSlice _ _ parts=>e6o parts.toList
 | _=>false
def M1 (ops:List Oper):Bool:=ops.any fun o=>f9r o.op
inductive X where
 | normal|exit (id:Nat)|ret
 deriving DecidableEq
abbrev a7p:=(St→Option (X×St))→St→Option (X×St)
def V3 (call:E7) (inLoop:Bool) (ops:Array Oper) (s:St):Option St :=
 match P0 C false call ops ops.toList (bif inLoop then f0 s ops.toList else s) with
 | some s'=>some (bif M1 ops.toList then s'.with (k9 s'.H) else s')
 | none=>none
mutual
def V.names:V→List B2
 | .d _=>[]
 | .agg cs=>J1 cs
 | .ref n=>[n]
 | .ptr n _=>[n]
 | .hp n _ _=>[n]
 | .fn _ a b=>J1 a++J1 b
 | .tup vs=>J1 vs
 | .zs _ _=>[]
 | .any=>[]
 | .opt n _=>[n]
def J1:List V→List B2
 | []=>[]
 | v::r=>v.names++J1 r
end
structure FP where
 r:List B2
 d:List B2
 all:Bool
 kp:List B2
def a8h:Option Nat→List B2
 | some d=>[[d+2]]
 | none=>[]
def c6e:Value→Value→Bool
 | .int k a, .int k' b=>decide (k=k')&&decide (a=b)
 | .bool a, .bool b=>decide (a=b)
 | .string a, .string b=>decide (a=b)
 | .pointer none, .pointer none=>true
 | _,_=>false
def e5x:V→V→Bool
 | .d (.lit a), .d (.lit b)=>c6e a b
 | .d (.slice true k []), .d (.slice true k' [])=>decide (k=k')
 | .ref n, .ref m=>decide (n=m)
 | .ptr n i, .ptr m j=>decide (n=m)&&decide (i=j)
 | _,_=>false
def b5a:List V→List V→Bool
 | [], []=>true
 | a::l,b::m=>e5x a b&&b5a l m
 | _,_=>false
def b7h:Option Box→Option Box→Bool
 | some (.cells t a),some (.cells u b)=>decide (t=u)&&b5a a b
 | _,_=>false
def e5i (F:Nat→V):List Oper→List B2
 | []=>[]
 | o::l=>(match o.op with
  | .load _ x=>(match F3 C F x with|some v=>v.names|none=>[])
  | _=>[])++e5i F l
def S9 (F:Nat→V) (x:Operand):List B2:=match F3 C F x with|some v=>v.names|none=>[]
def a3w (F:Nat→V):List Operand→List B2
 | []=>[]
 | x::l=>S9 C F x++a3w F l
def k7 (call:E7) (H:B4) (K:FuncId) (args:List V):Bool :=
 match C.ext K with
 | some _=>true
 | none=>match C.prim K with
  | some _=>false
  | none=>match (bif C.keep K then none else a2v H args) with
   | some ds=>(match call K (ds.map .d) B4.empty with
    | some (r,Hc)=>(match B5 Hc r with | .d _=>true|_=>false)
    | none=>false)
   | none=>false
def J7 (call:E7) (l:List Oper) (o:Oper) (s s':St):FP :=
 match o.op with
 | .alloc _ | .makeMap .. | .makeSlice .. | .box .. =>⟨a8h o.dst,a8h o.dst,false, []⟩
 | .buildSlice _ _ parts=>⟨a8h o.dst++a3w C s.F (parts.toList.map (·.2)),a8h o.dst,false, []⟩
 | .load _ x=>⟨S9 C s.F x, [],false, []⟩
 | .store _ x y=>match F3 C s.F x with
  | some (.hp n _ _)=>⟨n::S9 C s.F y, [n],false, []⟩
  | some (.ptr n _)=>⟨[n], [n],false, []⟩
  | _=>⟨[], [],false, []⟩
 | .binOp _ _ x y _=>⟨S9 C s.F x++S9 C s.F y, [],false, []⟩
 | .convert _ _ x | .makeInterface _ x | .slice _ x _ _ _ | .indexAddr _ x _ | .lookup _ x _ _=>⟨S9 C s.F x, [],false, []⟩
 | .insert _ m _ x=>⟨S9 C s.F m++S9 C s.F x,S9 C s.F m,false, []⟩
 | .call c=>match c.callee with
  | .builtin .append=>⟨a8h o.dst++a3w C s.F c.args.toList,a8h o.dst++a3w C s.F c.args.toList,false, []⟩
  | .builtin _=>⟨a3w C s.F c.args.toList, [],false, []⟩
  | .value f=>match F3 C s.F f,N2 C s.F c.args.toList with
   | some (.fn (.func K) first cap),some args =>
    bif k7 C call s.H K (first++args++cap) then ⟨J1 (first++args++cap), [],false, []⟩
    else ⟨[], [],true,(e5i C s.F l).filter fun n=>b7h (s.H n) (s'.H n)⟩
   | _,_=>⟨[], [],true, []⟩
  | _=>⟨[], [],true, []⟩
 | _=>⟨[], [],false, []⟩
def clear (a b:List B2):Bool:=a.all fun n=> !b.contains n
def b9v (a b:List B2):Bool:=a.all fun n=>b.contains n
def e4u (x y:FP):Bool:=bif x.all then (bif y.all then false else b9v y.r x.kp) else (bif y.all then x.d.isEmpty else clear x.d y.r)
def e8f (x y:FP):Bool:=bif x.all then (bif y.all then false else b9v y.d x.kp) else (bif y.all then b9v x.d y.kp else clear x.d y.d)
def a6y (x y:FP):Bool:=e4u x y&&e4u y x&&e8f x y
def b9c (o:Oper):List Nat:=o.op.operands.toList.filterMap fun | .tmp t=>some t|_=>none
def p3 (ops:Array Oper) (o:Oper):List Nat:=b9c o++(match o.guard with
 | some (j,_)=>(match (ops[j]?).bind (·.dst) with|some d=>[d]|none=>[])
 | none=>[])
def c8f (ops:Array Oper) (a b:Oper):Bool :=
 (match a.dst with|some d=> !(p3 ops b).contains d&& !(b.dst==some d)|none=>true) &&
 (match b.dst with|some d=> !(p3 ops a).contains d|none=>true)
def a4a (ops:Array Oper):List (Nat×Nat) :=
 (List.range ops.size).flatMap fun b=>(List.range b).filterMap fun a=>bif ((Region.before ops).getD b 0).testBit a then none else some (a,b)
def W8 (ops:Array Oper):Bool:=(a4a ops).all fun p=>match ops[p.1]?,ops[p.2]? with
 | some a,some b=>c8f ops a b
 | _,_=>false
def looks (o:Oper):Bool:=match o.op with
 | .move _ | .assign _ | .pick .. | .nilCheck _ | .unOp .. | .fieldAddr .. | .field .. | .index .. | .extract .. | .makeFunc .. | .build .. =>false
 | _=>true
def a6s (o:Oper):Bool:=match o.op with
 | .alloc _ | .makeMap .. | .makeSlice .. | .box .. | .buildSlice .. | .store .. | .insert .. =>true
 | .call c=>(match c.callee with
  | .builtin .append=>true
  | .builtin _=>false
  | _=>true)
 | _=>false
def a3f (ops:Array Oper):List (Nat×Nat):=(a4a ops).filter fun p=>match ops[p.1]?,ops[p.2]? with
 | some a,some b=>looks a&&looks b&&(a6s a||a6s b)
 | _,_=>true
def k6 (call:E7) (ops:Array Oper) (o:Oper) (s:St):Option St:=match J6 ops o s.F with
 | some true=>D5 C true call o s
 | some false=>s.put o.dst K9
 | none=>none
def fpY (call:E7) (ops:Array Oper) (o:Oper) (s s':St):FP:=match J6 ops o s.F with
 | some true=>J7 C call ops.toList o s s'
 | _=>⟨[], [],false, []⟩
def a4i (call:E7) (ops:Array Oper):List Oper→St→Option (St×List FP)
 | [],s=>some (s, [])
 | o::l,s=>match k6 C call ops o s with
  | some s'=>(match a4i call ops l s' with
   | some (r,fs)=>some (r,fpY C call ops o s s'::fs)
   | none=>none)
  | none=>none
def named (o:Oper):Bool:=f8r o.op||(match o.op with | .call {callee:=.value _, .. }=>true|_=>false)
def P2 (s:St):List Oper→St
 | []=>s
 | o::r=>match named o,o.dst with|true,some d=>P2 (s.age d) r|_,_=>P2 s r
def p7 (ops:Array Oper):Bool:=(List.range ops.size).all fun j=>match ops[j]? with
 | some o=>o.after.toList.all fun e=> !Region.binds .any e||Nat.blt e.on j
 | none=>true
def a5d:List Oper→Bool
 | []=>true
 | o::l=>(match o.dst with
  | some d=>l.all fun p=> !(p.dst==some d)|| !(named o||named p)
  | none=>true)&&a5d l
def Z6 (call:E7) (_inLoop:Bool) (ops:Array Oper) (s:St):Option St :=
 bif W8 ops&&(p7 ops&&a5d ops.toList) then
  (match a4i C call ops ops.toList (P2 s ops.toList) with
  | some (s',fs)=>bif (a3f ops).all (fun p=>match fs[p.1]?,fs[p.2]? with|some x,some y=>a6y x y|_,_=>false) then
   some (bif M1 ops.toList then s'.with (k9 s'.H) else s') else none
  | none=>none)
 else none
def G0 (lp:a7p) (call:E7) (inLoop:Bool):Code→St→Option (X×St)
 | .skip,s=>some (.normal,s)
 | .region _ ops draw,s=>match (if draw then Z6 C call inLoop ops s else V3 C call inLoop ops s) with|some s'=>some (.normal,s')|none=>none
 | .seq a b,s=>match G0 lp call inLoop a s with
  | some (.normal,s')=>G0 lp call inLoop b s'
  | r=>r
 | .cond c x y,s=>match F3 C s.F c with
  | some (.d (.lit (.bool t)))=>bif t then G0 lp call inLoop x s else G0 lp call inLoop y s
  | _=>none
 | .block id c,s=>match G0 lp call inLoop c s with
  | some (.exit i,s')=>some (if i=id then .normal else .exit i,s')
  | r=>r
 | .loop c,s=>lp (fun s=>G0 lp call true c s) s
 | .exit id,s=>some (.exit id,s)
 | .ret,s=>some (.ret,s)
 | _,_=>none
def u7 (s:St):List ResultVar→Option (List V)
 | []=>some []
 | .tmp t::r=>match u7 s r with|some l=>some (s.F t::l)|none=>none
 | .cell a t::r=>match a2f C s.H t (s.F a),u7 s r with|some v,some l=>some (v::l)|_,_=>none
def Y9:List V→V
 | [v]=>v
 | vs=>e6t vs
def a5z (lp:a7p) (call:E7):E7:=fun K args H =>
 match C.P.funcs[K]? with
 | none=>none
 | some fn=>match fn.body with
  | none=>none
  | some c =>
   match G0 C lp call false c ⟨max fn.ntmps args.length,fun t=>(args[t]?).getD K9,H⟩ with
   | some (.normal,s)|some (.ret,s)=>match u7 C s fn.results.toList with
    | some vs=>some (Y9 vs,s.H)
    | none=>none
   | _=>none
def j5:Nat→a7p
 | 0,_,_=>none
 | n+1,f,s=>match f s with
  | some (.normal,s')=>j5 n f s'
  | r=>r
end ops
end Go.Ev
end
section
namespace Go.Ev
def K6 (v:Value):Prop:=(∀a,v≠ .agg a)∧(∀a,v≠ .tuple a)
def a3t (w:World) (lim:Nat→Nat) (a:Addr) (vs:List Value):Prop :=
 a.spot=none∧∀i v,vs[i]?=some v→a.off+i<lim a.block∧w.cell? ⟨a.block,a.off+i,none⟩=some v
structure c8j (ms:Array MapEntry) (c:Nat):Prop where
 old:∀e∈ms.toList,e.born<c
 uniq:(ms.toList.map (·.born)).Nodup
def E9 (xs:List D):List D:=xs.flatMap D.cells
mutual
inductive N7 (w:World) (lim:Nat→Nat):D→Value→Prop where
 | lit {v:Value} (h:∀a,v≠ .agg a):N7 w lim (.lit v) v
 | agg {cs:List D} {a:Array Value} (h:E5 w lim cs a.toList) (hf:∀v∈a.toList,K6 v):N7 w lim (.agg cs) (.agg a)
 | nils {sz:Nat}:N7 w lim (.slice true sz []) (.slice none 0 0)
 | slice {sz:Nat} {xs:List D} {vs:List Value} {a:Addr} {n cap:Nat} (h:E5 w lim (E9 xs) vs) (hf:∀v∈vs,K6 v) (hh:xs≠ []→a3t w lim a vs)
  (hs:∀x∈xs,x.cells.length=sz) (hn:n=xs.length) (hc:n≤cap):N7 w lim (.slice false sz xs) (.slice (some a) n cap)
 | elem {cs:List D} {vs:List Value} {a:Addr} (h:E5 w lim cs vs) (hf:∀v∈vs,K6 v) (hh:a3t w lim a vs):N7 w lim (.elem cs) (.pointer (some a))
 | map {es:List (D×D)} {r:Nat} {ms:Array MapEntry} {c:Nat} (hr:0<lim r) (hw:w.heap[r]?=some (.map ms c))
  (hk:E5 w lim (es.map (·.1)) (ms.toList.map (·.key))) (hv:E5 w lim (es.map (·.2)) (ms.toList.map (·.val))) (hs:c8j ms c):N7 w lim (.map es) (.map (some r))
 | tup {ds:List D} {a:Array Value} (h:E5 w lim ds a.toList):N7 w lim (.tup ds) (.tuple a)
 | iface {t:TypeId} {x:D} {v:Value} (h:N7 w lim x v):N7 w lim (.iface t x) (.iface t v)
 | any {v:Value} (h:K6 v):N7 w lim .any v
 | anyB {b:Bool}:N7 w lim .anyB (.bool b)
inductive E5 (w:World) (lim:Nat→Nat):List D→List Value→Prop where
 | nil:E5 w lim [] []
 | cons {x:D} {v:Value} {l:List D} {vs:List Value} (h:N7 w lim x v) (t:E5 w lim l vs):E5 w lim (x::l) (v::vs)
end
structure Q9 (w:World) (lim:Nat→Nat) (w':World) (lim':Nat→Nat):Prop where
 le:∀b,lim b≤lim' b
 cell:∀b o,o<lim b→w'.cell? ⟨b,o,none⟩=w.cell? ⟨b,o,none⟩
 map:∀b ms c,0<lim b→w.heap[b]?=some (.map ms c)→w'.heap[b]?=some (.map ms c)
 size:∀b c t m,0<lim b→w.heap[b]?=some (.cells c t m)→∃c' m',w'.heap[b]?=some (.cells c' t m')∧c'.size=c.size
theorem Q9.refl (w:World) (lim:Nat→Nat):Q9 w lim w lim:=⟨fun _=>Nat.le_refl _,fun _ _ _=>rfl,fun _ _ _ _ h=>h,fun _ c _ m _ h=>⟨c,m,h,rfl⟩⟩
theorem Q9.trans {w w' w'':World} {l l' l'':Nat→Nat} (h:Q9 w l w' l') (k:Q9 w' l' w'' l''):Q9 w l w'' l'' :=
 ⟨fun b=>Nat.le_trans (h.le b) (k.le b),fun b o ho=>(k.cell b o (Nat.lt_of_lt_of_le ho (h.le b))).trans (h.cell b o ho),
  fun b ms c hb hw=>k.map b ms c (Nat.lt_of_lt_of_le hb (h.le b)) (h.map b ms c hb hw),
  fun b c t m hb hw=>by
   obtain ⟨c1,m1,h1,e1⟩:=h.size b c t m hb hw
   obtain ⟨c2,m2,h2,e2⟩:=k.size b c1 t m1 (Nat.lt_of_lt_of_le hb (h.le b)) h1
   exact ⟨c2,m2,h2,e2.trans e1⟩⟩
theorem a3t.mono {w w':World} {l l':Nat→Nat} {a:Addr} {vs:List Value} (h:a3t w l a vs) (g:Q9 w l w' l'):a3t w' l' a vs :=
 ⟨h.1,fun i v hv=>⟨Nat.lt_of_lt_of_le (h.2 i v hv).1 (g.le _),(g.cell _ _ (h.2 i v hv).1).trans (h.2 i v hv).2⟩⟩
mutual
theorem N7.mono {w w':World} {l l':Nat→Nat} (g:Q9 w l w' l'):∀{x:D} {v:Value},N7 w l x v→N7 w' l' x v
 | _,_, .lit h=>.lit h
 | _,_, .agg h hf=>.agg (E5.mono g h) hf
 | _,_, .nils=>.nils
 | _,_, .slice h hf hh hs hn hc=>.slice (E5.mono g h) hf (fun hne=>(hh hne).mono g) hs hn hc
 | _,_, .elem h hf hh=>.elem (E5.mono g h) hf (hh.mono g)
 | _,_, .map hr hw hk hv hs=>.map (Nat.lt_of_lt_of_le hr (g.le _)) (g.map _ _ _ hr hw) (E5.mono g hk) (E5.mono g hv) hs
 | _,_, .tup h=>.tup (E5.mono g h)
 | _,_, .iface h=>.iface (N7.mono g h)
 | _,_, .any h=>.any h
 | _,_, .anyB=>.anyB
theorem E5.mono {w w':World} {l l':Nat→Nat} (g:Q9 w l w' l'):∀{xs:List D} {vs:List Value},E5 w l xs vs→E5 w' l' xs vs
 | _,_, .nil=>.nil
 | _,_, .cons h t=>.cons (N7.mono g h) (E5.mono g t)
end
theorem E5.length {w:World} {l:Nat→Nat}:∀{xs:List D} {vs:List Value},E5 w l xs vs→xs.length=vs.length
 | _,_, .nil=>rfl
 | _,_, .cons _ t=>congrArg (· + 1) t.length
theorem E5.append {w:World} {l:Nat→Nat}:∀{xs:List D} {vs:List Value} {ys:List D} {us:List Value},E5 w l xs vs→E5 w l ys us→E5 w l (xs++ys) (vs++us)
 | _,_,_,_, .nil,k=>k
 | _,_,_,_, .cons h t,k=>.cons h (t.append k)
theorem E5.drop {w:World} {l:Nat→Nat}:∀(n:Nat) {xs:List D} {vs:List Value},E5 w l xs vs→E5 w l (xs.drop n) (vs.drop n)
 | 0,_,_,h=>h
 | _+1,_,_, .nil=>.nil
 | n+1,_,_, .cons _ t=>t.drop n
theorem E5.take {w:World} {l:Nat→Nat}:∀(n:Nat) {xs:List D} {vs:List Value},E5 w l xs vs→E5 w l (xs.take n) (vs.take n)
 | 0,_,_,_=>.nil
 | _+1,_,_, .nil=>.nil
 | n+1,_,_, .cons h t=>.cons h (t.take n)
theorem E5.get {w:World} {l:Nat→Nat}:∀{xs:List D} {vs:List Value} {i:Nat} {x:D},E5 w l xs vs→xs[i]?=some x→∃v,vs[i]?=some v∧N7 w l x v
 | _,_,_,_, .nil,h=>by simp at h
 | _,_,0,_, .cons h t,k=>by simp at k;subst k;exact ⟨_,rfl,h⟩
 | _,_,i+1,_, .cons h t,k=>by simpa using t.get (by simpa using k)
theorem a3t.part {w:World} {l:Nat→Nat} {a:Addr} {vs us:List Value} {k:Nat} (h:a3t w l a vs) (hu:∀i v,us[i]?=some v→vs[k+i]?=some v):a3t w l ⟨a.block,a.off+k,none⟩ us :=
 ⟨rfl,fun i v hv=>by have:=h.2 (k+i) v (hu i v hv);simpa [Nat.add_assoc] using this⟩
theorem a3t.drop {w:World} {l:Nat→Nat} {a:Addr} {vs:List Value} (k:Nat) (h:a3t w l a vs):a3t w l ⟨a.block,a.off+k,none⟩ (vs.drop k) :=
 h.part fun i v hv=>by simpa using hv
theorem a3t.take {w:World} {l:Nat→Nat} {a:Addr} {vs:List Value} (k:Nat) (h:a3t w l a vs):a3t w l a (vs.take k) :=
 ⟨h.1,fun i v hv=>h.2 i v (by rw[List.getElem?_take] at hv;split at hv<;>simp_all)⟩
structure G where
 val:B2→Value
 lim:Nat→Nat
 owner:Nat→Option B2
def a2w (v:Value) (off:Nat):Value:=match v with | .pointer (some a)=>.pointer (some ⟨a.block,a.off+off,none⟩)|v=>v
def c7t (v:Value) (off:Nat):Value:=match v with | .slice (some a) _ _=>.pointer (some ⟨a.block,a.off+off,none⟩)|v=>v
def Box.kind:Box→Nat
 | .cells .. =>0
 | .arr .. =>1
 | .map .. =>2
 | .junk=>1
 | .bools .. =>0
 | .blob .. =>0
def kd (H:B4) (n:B2):Option Nat:=(H n).map Box.kind
def J9 (H:B4) (g:G) (H':B4) (g':G):Prop:=∀n k,kd H n=some k→kd H' n=some k∧g'.val n=g.val n
mutual
inductive D9 (w:World) (g:G) (H:B4):V→Value→Prop where
 | d {x:D} {v:Value} (h:N7 w g.lim x v):D9 w g H (.d x) v
 | agg {cs:List V} {a:Array Value} (h:E0 w g H cs a.toList) (hf:∀v∈a.toList,K6 v):D9 w g H (.agg cs) (.agg a)
 | ref {n:B2} {k:Nat} (h:kd H n=some (k+1)):D9 w g H (.ref n) (g.val n)
 | ptr {n:B2} {off:Nat} (h:kd H n=some 0):D9 w g H (.ptr n off) (a2w (g.val n) off)
 | hp {n:B2} {i sz:Nat} (h:kd H n=some 1):D9 w g H (.hp n i sz) (c7t (g.val n) (i*sz))
 | fn {f:Fn} {a b:List V} {x y:Array Value} (ha:E0 w g H a x.toList) (hb:E0 w g H b y.toList):D9 w g H (.fn f a b) (.func f x y)
 | tup {vs:List V} {a:Array Value} (h:E0 w g H vs a.toList):D9 w g H (.tup vs) (.tuple a)
 | zs {sz:Nat} {x:D} {v:Value} (h:N7 w g.lim (.slice false sz [x]) v):D9 w g H (.zs sz x) v
 | any {v:Value}:D9 w g H .any v
 | opt {n:B2} {off:Nat} {v:Value} (h:kd H n=some 0) (hv:v= .pointer none∨v=a2w (g.val n) off):D9 w g H (.opt n off) v
inductive E0 (w:World) (g:G) (H:B4):List V→List Value→Prop where
 | nil:E0 w g H [] []
 | cons {x:V} {v:Value} {l:List V} {vs:List Value} (h:D9 w g H x v) (t:E0 w g H l vs):E0 w g H (x::l) (v::vs)
end
mutual
theorem D9.mono {w w':World} {g g':G} {H H':B4} (hg:Q9 w g.lim w' g'.lim) (hn:J9 H g H' g') :
  ∀{x:V} {v:Value},D9 w g H x v→D9 w' g' H' x v
 | _,_, .d h=>.d (h.mono hg)
 | _,_, .agg h hf=>.agg (E0.mono hg hn h) hf
 | _,_, .ref h=>by rw[←(hn _ _ h).2];exact .ref (hn _ _ h).1
 | _,_, .ptr h=>by rw[←(hn _ _ h).2];exact .ptr (hn _ _ h).1
 | _,_, .hp h=>by rw[←(hn _ _ h).2];exact .hp (hn _ _ h).1
 | _,_, .fn ha hb=>.fn (E0.mono hg hn ha) (E0.mono hg hn hb)
 | _,_, .tup h=>.tup (E0.mono hg hn h)
 | _,_, .zs h=>.zs (h.mono hg)
 | _,_, .any=>.any
 | _,_, .opt h hv=>.opt (hn _ _ h).1 (by rw[(hn _ _ h).2];exact hv)
theorem E0.mono {w w':World} {g g':G} {H H':B4} (hg:Q9 w g.lim w' g'.lim) (hn:J9 H g H' g') :
  ∀{xs:List V} {vs:List Value},E0 w g H xs vs→E0 w' g' H' xs vs
 | _,_, .nil=>.nil
 | _,_, .cons h t=>.cons (D9.mono hg hn h) (E0.mono hg hn t)
end
theorem J9.refl (H:B4) (g:G):J9 H g H g:=fun _ _ h=>⟨h,rfl⟩
theorem J9.trans {H H' H'':B4} {g g' g'':G} (h:J9 H g H' g') (k:J9 H' g' H'' g''):J9 H g H'' g'' :=
 fun n i hi=>let ⟨a,b⟩:=h n i hi;let ⟨c,d⟩:=k n i a;⟨c,d.trans b⟩
def f5 (w:World) (g:G) (H:B4) (n:B2):Box→Prop
 | .cells t cs=>∃b c,g.val n= .pointer (some ⟨b,0,none⟩)∧w.heap[b]?=some (.cells c t (0,0))∧E0 w g H cs c.toList∧(∀v∈c.toList,K6 v)
  ∧g.lim b=0∧g.owner b=some n
 | .arr live nil t sz xs ys=>∃vs us,E5 w g.lim (E9 xs) vs∧E5 w g.lim (E9 ys) us∧(∀v∈vs++us,K6 v)∧(∀x∈xs++ys,x.cells.length=sz)∧
  (nil=true↔g.val n= .slice none 0 0)∧(nil=true→xs= []∧ys= [])∧
  (live=true→w.ownsRow 0 t sz (g.val n) (xs.length+ys.length) (vs++us)∧∀b,(g.val n).ownBlock=some b→g.owner b=some n∧g.lim b=xs.length*sz)∧
  (live=false→ys= []∧(nil=true∨∃a cap,g.val n= .slice (some a) xs.length cap∧xs.length≤cap∧a3t w g.lim a vs))
 | .map es=>∃r ms c,g.val n= .map (some r)∧w.heap[r]?=some (.map ms c)∧E5 w g.lim (es.map (·.1)) (ms.toList.map (·.key))∧
  E5 w g.lim (es.map (·.2)) (ms.toList.map (·.val))∧g.lim r=0∧g.owner r=some n∧c8j ms c
 | .junk=>K6 (g.val n)
 | .bools t k=>∃b c,g.val n= .pointer (some ⟨b,0,none⟩)∧w.heap[b]?=some (.cells c t (0,0))∧c.size=k∧(∀v∈c.toList,∃x,v= .bool x)∧g.lim b=0∧g.owner b=some n
 | .blob t k lo hi=>∃b c,g.val n= .pointer (some ⟨b,0,none⟩)∧w.heap[b]?=some (.cells c t (0,0))∧c.size=k∧((∀v∈c.toList,K6 v)∧∀i:Nat,lo≤i→i<hi→∃x:Bool,c.toList[i]?=some (.bool x))∧g.lim b=0∧g.owner b=some n
theorem E8 {sz:Nat}:∀{xs:List D},(∀x∈xs,x.cells.length=sz)→(E9 xs).length=xs.length*sz
 | [],_=>by simp[E9]
 | x::xs,h=>by
  have:=E8 (xs:=xs) fun y hy=>h y (by simp[hy])
  simp only[E9,List.flatMap_cons,List.length_append,List.length_cons] at this ⊢
  rw[this,h x (by simp),Nat.add_mul];omega
theorem f5.slice {w:World} {g:G} {H:B4} {n:B2} {live nil:Bool} {t:TypeId} {sz:Nat} {xs:List D} (h:f5 w g H n (.arr live nil t sz xs [])) :
  N7 w g.lim (.slice nil sz xs) (g.val n):=by
 obtain ⟨vs,us,h1,h2,h3,h4,h5,h6,h7,h8⟩:=h
 cases nil with
 | true=>rw[h5.1 rfl,(h6 rfl).1];exact .nils
 | false =>
  have hu:us= []:=by simp[E9] at h2;cases h2;rfl
  subst hu
  have hx:∀x∈xs,x.cells.length=sz:=fun x hx=>h4 x (by simp[hx])
  have hl:vs.length=xs.length*sz:=by rw[←h1.length,E8 hx]
  cases live with
  | false =>
   obtain ⟨_,h|⟨a,cap,hv,hc,hh⟩⟩:=h8 rfl
   ·cases h
   ·rw[hv];exact .slice h1 (fun v hv=>h3 v (by simp[hv])) (fun _=>hh) hx rfl hc
  | true =>
   obtain ⟨ho,hb⟩:=h7 rfl
   rcases ho.2 with ⟨hv,_⟩|⟨b,cap,cur,hv,_,hw,hn,hm,hs,ht⟩
   ·have:=h5.2 hv;cases this
   ·have hob:=hb b (by rw[hv];rfl)
    rw[hv]
    refine .slice h1 (fun v hv=>h3 v (by simp[hv])) (fun _=>⟨rfl,fun i v hi=>?_⟩) hx (by simp) hn
    have hlt:=(List.getElem?_eq_some_iff.1 hi).1
    refine ⟨by rw[hob.2];show 0+i<_;omega, ?_⟩
    have:=ho.cells (g:=b) (by rw[hv];rfl) i v (by simpa using hi)
    unfold Addr.add at this
    split at this
    ·subst_vars;simpa using this
    ·simpa using this
structure K7 (w:World) (g:G) (H:B4):Prop where
 box:∀n b,H n=some b→f5 w g H n b
 fresh:∀b,w.heap.size≤b→g.lim b=0∧g.owner b=none
def a7q (C:Cx) (w:World) (lim:Nat→Nat):Prop:=∀k cs,C.glob k=some cs→N7 w lim (.elem cs) (.pointer (some ⟨k,0,none⟩))∧0<lim k∧∃c t m,w.heap[k]?=some (.cells c t m)∧c.size=cs.length
theorem a7q.mono {C:Cx} {w w':World} {l l':Nat→Nat} (h:a7q C w l) (g:Q9 w l w' l'):a7q C w' l':=fun k cs hk=>by
 obtain ⟨h1,h2,c,t,m,h3,h4⟩:=h k cs hk
 obtain ⟨c',m',h5,h6⟩:=g.size k c t m h2 h3
 exact ⟨h1.mono g,Nat.lt_of_lt_of_le h2 (g.le k),c',t,m',h5,h6.trans h4⟩
structure j7 (w:World) (g:G) (w':World) (g':G):Prop where
 os:w'.os=w.os
 tape:w'.tape=w.tape
 output:w'.output=w.output
 size:w.heap.size≤w'.heap.size
 free:∀b,b<w.heap.size→g.owner b=none→w'.heap[b]?=w.heap[b]?∧g'.lim b=g.lim b∧g'.owner b=none
 grow:Q9 w g.lim w' g'.lim
theorem j7.refl (w:World) (g:G):j7 w g w g:=⟨rfl,rfl,rfl,Nat.le_refl _,fun _ _ h=>⟨rfl,rfl,h⟩, .refl _ _⟩
theorem j7.trans {w w' w'':World} {g g' g'':G} (h:j7 w g w' g') (k:j7 w' g' w'' g''):j7 w g w'' g'' :=
 ⟨k.os.trans h.os,k.tape.trans h.tape,k.output.trans h.output,Nat.le_trans h.size k.size,
  fun b hb ho=>let ⟨h1,h2,h3⟩:=h.free b hb ho;let ⟨k1,k2,k3⟩:=k.free b (Nat.lt_of_lt_of_le hb h.size) h3;⟨k1.trans h1,k2.trans h2,k3⟩,h.grow.trans k.grow⟩
structure Rel (C:Cx) (g:G) (s:St) (a:Act) (w:World):Prop where
 size:a.tmps.size=s.N
 slots:∀t,D9 w g s.H (s.F t) (a.tmps.getD t undef)
 heap:K7 w g s.H
 globs:a7q C w g.lim
 defers:a.defers= []
end Go.Ev
end
section
namespace Go.Ev
section runs
variable (P : Program) (w : World)
theorem b3u {t:TypeId} {i:TypeInfo} (h:P.info? t=some i):(typeInfo t).run P w= .ok i w:=by
 simp[typeInfo,h]
theorem F0 {t:TypeId} {u:TypeDesc} (h:P.underlying t=some u):(underlying t).run P w= .ok u w:=by
 simp[underlying,h]
theorem L1 {t:TypeId} {i:TypeInfo} (h:P.info? t=some i):(sizeOf t).run P w= .ok i.size w:=by
 simp[sizeOf,b3u P w h]
theorem b3t {t:TypeId} {i:TypeInfo} {z:Value} (h:P.info? t=some i) (hz:i.zero=some z):(zeroValue t).run P w= .ok z w:=by
 simp[zeroValue,b3u P w h,hz]
theorem c4e {t:TypeId} {u:TypeDesc} (h:P.underlying t=some u):(isAgg t).run P w= .ok (Z4 u) w:=by
 simp[isAgg,F0 P w h,Z4]
 cases u<;>simp
end runs
theorem G8 {C:Cx} {t:TypeId} {k:Nat} (h:K8 C t=some k):∃i,C.P.info? t=some i∧i.size=k:=by
 unfold K8 at h
 cases hi:C.P.info? t with
 | none=>simp[hi] at h
 | some i=>simp[hi] at h;exact ⟨i,rfl,h⟩
theorem b6y {C:Cx} {t:TypeId} {k:Nat} (h:b5v C t=some k):∃i,C.P.info? t=some i∧i.bytes=k:=by
 unfold b5v at h
 cases hi:C.P.info? t with
 | none=>simp[hi] at h
 | some i=>simp[hi] at h;exact ⟨i,rfl,h⟩
theorem b7z {C:Cx} {t:TypeId} {z:D} (h:a6c C t=some z):∃i v,C.P.info? t=some i∧i.zero=some v∧b2j v=true∧z=ofValue v:=by
 unfold a6c at h
 cases hi:C.P.info? t with
 | none=>simp[hi] at h
 | some i =>
  simp only[hi] at h
  cases hz:i.zero with
  | none=>simp[hz] at h
  | some v =>
   simp only[hz] at h
   cases hf:b2j v with
   | false=>simp[hf] at h
   | true=>simp[hf] at h;exact ⟨i,v,rfl,hz,hf,h.symm⟩
section reps
variable {w : World} {lim : Nat → Nat}
theorem c4p {v:Value} (h:∀a,v≠ .agg a):N7 w lim (a8m v) v:=by
 unfold a8m
 split
 ·exact .nils
 ·exact .lit h
theorem c7k {v:Value} (h:b4g (a8m v)=true):K6 v:=by
 unfold a8m at h
 split at h
 ·exact ⟨fun _=>by simp,fun _=>by simp⟩
 ·constructor
  ·intro a ha;subst ha;simp[b4g] at h
  ·intro a ha;subst ha;simp[b4g] at h
theorem b9e:∀{l:List Value},(∀v∈l,K6 v)→E5 w lim (l.map a8m) l
 | [],_=>.nil
 | v::r,h=>.cons (c4p (h v (by simp)).1) (b9e fun u hu=>h u (by simp[hu]))
theorem a4n {v:Value} (h:b2j v=true):N7 w lim (ofValue v) v:=by
 unfold ofValue
 split
 ·rename_i cs
  have hf:∀v∈cs.toList,K6 v:=fun v hv=>c7k (List.all_eq_true.1 h v hv)
  exact .agg (b9e hf) hf
 ·rename_i hn
  exact c4p hn
theorem N7.cells {x:D} {v:Value} (h:N7 w lim x v) (hc:J0 x=true):E5 w lim x.cells v.cells.toList∧∀u∈v.cells.toList,K6 u:=by
 cases h with
 | lit h =>
  refine ⟨?_, ?_⟩
  ·cases v with
   | agg a=>exact absurd rfl (h a)
   | _=>exact .cons (.lit h) .nil
  ·cases v with
   | agg a=>exact absurd rfl (h a)
   | tuple a=>simp[J0] at hc
   | _=>intro u hu;simp[Value.cells] at hu;subst hu;exact ⟨by simp,by simp⟩
 | agg h hf=>exact ⟨h,hf⟩
 | nils=>exact ⟨.cons .nils .nil,fun u hu=>by simp[Value.cells] at hu;subst hu;exact ⟨by simp,by simp⟩⟩
 | slice h hf hh hs hn hcap=>exact ⟨.cons (.slice h hf hh hs hn hcap) .nil,fun u hu=>by simp[Value.cells] at hu;subst hu;exact ⟨by simp,by simp⟩⟩
 | elem h hf hh=>exact ⟨.cons (.elem h hf hh) .nil,fun u hu=>by simp[Value.cells] at hu;subst hu;exact ⟨by simp,by simp⟩⟩
 | map a b c d e=>exact ⟨.cons (.map a b c d e) .nil,fun u hu=>by simp[Value.cells] at hu;subst hu;exact ⟨by simp,by simp⟩⟩
 | tup h=>simp[J0] at hc
 | iface h=>exact ⟨.cons (.iface h) .nil,fun u hu=>by simp[Value.cells] at hu;subst hu;exact ⟨by simp,by simp⟩⟩
 | anyB=>exact ⟨.cons .anyB .nil,fun u hu=>by simp[Value.cells] at hu;subst hu;exact ⟨by simp,by simp⟩⟩
 | any h =>
  have e:v.cells.toList= [v]:=by
   cases v with
   | agg a=>exact absurd rfl (h.1 a)
   | _=>rfl
  rw[e]
  exact ⟨.cons (.any h) .nil,fun u hu=>by simp at hu;subst hu;exact h⟩
theorem E0.of_ds {g:G} {H:B4}:∀{xs:List D} {vs:List Value},E5 w g.lim xs vs→E0 w g H (xs.map .d) vs
 | _,_, .nil=>.nil
 | _,_, .cons h t=>.cons (.d h) (E0.of_ds t)
theorem c8g {g:G} {H:B4}:∀{cs:List V} {ds:List D} {vs:List Value},b7c cs=some ds→E0 w g H cs vs→E5 w g.lim ds vs
 | [],_,_,h, .nil=>by simp[b7c] at h;subst h;exact .nil
 | c::cs,_,_,h, .cons hc t=>by
  cases c with
  | d x =>
   simp only[b7c] at h
   cases hr:b7c cs with
   | none=>simp[hr] at h
   | some l =>
    simp[hr] at h;subst h
    cases hc with
    | d hx=>exact .cons hx (c8g hr t)
  | _=>simp[b7c] at h
theorem b9j {g:G} {H:B4} {cs:List V} {a:Array Value} (h:E0 w g H cs a.toList) (hf:∀v∈a.toList,K6 v):D9 w g H (b6j cs) (.agg a):=by
 unfold b6j
 cases hc:b7c cs with
 | none=>exact .agg h hf
 | some ds=>exact .d (.agg (c8g hc h) hf)
theorem e6s {g:G} {H:B4} {cs:List V} {a:Array Value} (h:E0 w g H cs a.toList):D9 w g H (e6t cs) (.tuple a):=by
 unfold e6t
 cases hc:b7c cs with
 | none=>exact .tup h
 | some ds=>exact .d (.tup (c8g hc h))
theorem E0.length {g:G} {H:B4}:∀{xs:List V} {vs:List Value},E0 w g H xs vs→xs.length=vs.length
 | _,_, .nil=>rfl
 | _,_, .cons _ t=>congrArg (· + 1) t.length
theorem E0.append {g:G} {H:B4}:∀{xs:List V} {vs:List Value} {ys:List V} {us:List Value},E0 w g H xs vs→E0 w g H ys us→E0 w g H (xs++ys) (vs++us)
 | _,_,_,_, .nil,k=>k
 | _,_,_,_, .cons h t,k=>.cons h (t.append k)
theorem E0.drop {g:G} {H:B4}:∀(n:Nat) {xs:List V} {vs:List Value},E0 w g H xs vs→E0 w g H (xs.drop n) (vs.drop n)
 | 0,_,_,h=>h
 | _+1,_,_, .nil=>.nil
 | n+1,_,_, .cons _ t=>t.drop n
theorem E0.take {g:G} {H:B4}:∀(n:Nat) {xs:List V} {vs:List Value},E0 w g H xs vs→E0 w g H (xs.take n) (vs.take n)
 | 0,_,_,_=>.nil
 | _+1,_,_, .nil=>.nil
 | n+1,_,_, .cons h t=>.cons h (t.take n)
theorem E0.get {g:G} {H:B4}:∀{xs:List V} {vs:List Value} {i:Nat} {x:V},E0 w g H xs vs→xs[i]?=some x→∃v,vs[i]?=some v∧D9 w g H x v
 | _,_,_,_, .nil,h=>by simp at h
 | _,_,0,_, .cons h t,k=>by simp at k;subst k;exact ⟨_,rfl,h⟩
 | _,_,i+1,_, .cons h t,k=>by simpa using t.get (by simpa using k)
theorem e7t {u v:Value} (hu:u∈v.cells.toList) (ha:∀a,v≠ .agg a) (ht:∀a,v≠ .tuple a):K6 u:=by
 cases v with
 | agg a=>exact absurd rfl (ha a)
 | tuple a=>exact absurd rfl (ht a)
 | _=>simp[Value.cells] at hu;subst hu;exact ⟨by simp,by simp⟩
theorem e4w {v:Value} (ha:∀a,v≠ .agg a):v.cells.toList= [v]:=by
 cases v with
 | agg a=>exact absurd rfl (ha a)
 | _=>rfl
theorem a6w {v:Value} {off:Nat} (h:K6 v):K6 (a2w v off):=by
 unfold a2w;split
 ·exact ⟨by simp,by simp⟩
 ·exact h
theorem b6x {v:Value} {off:Nat} (h:K6 v):K6 (c7t v off):=by
 unfold c7t;split
 ·exact ⟨by simp,by simp⟩
 ·exact h
theorem f5.flat {g:G} {H:B4} {n:B2} {b:Box} (h:f5 w g H n b):K6 (g.val n):=by
 cases b with
 | cells t cs=>obtain ⟨b,c,hv,_⟩:=h;rw[hv];exact ⟨by simp,by simp⟩
 | arr live nil t sz xs ys =>
  obtain ⟨vs,us,h1,h2,h3,h4,h5,h6,h7,h8⟩:=h
  cases nil with
  | true=>rw[h5.1 rfl];exact ⟨by simp,by simp⟩
  | false =>
   cases live with
   | true =>
    rcases (h7 rfl).1.2 with ⟨hv,_⟩|⟨b,cap,cur,hv,_⟩<;>(rw[hv];exact ⟨by simp,by simp⟩)
   | false =>
    obtain ⟨_,h|⟨a,cap,hv,_⟩⟩:=h8 rfl
    ·cases h
    ·rw[hv];exact ⟨by simp,by simp⟩
 | map es=>obtain ⟨r,ms,c,hv,_⟩:=h;rw[hv];exact ⟨by simp,by simp⟩
 | junk=>exact h
 | bools t k=>obtain ⟨b,c,hv,_⟩:=h;rw[hv];exact ⟨by simp,by simp⟩
 | blob t k lo hi=>obtain ⟨b,c,hv,_⟩:=h;rw[hv];exact ⟨by simp,by simp⟩
theorem a9k {H:B4} {n:B2} {k:Nat} (h:kd H n=some k):∃b,H n=some b∧b.kind=k:=by
 unfold kd at h
 cases hb:H n with
 | none=>simp[hb] at h
 | some b=>simp[hb] at h;exact ⟨b,rfl,h⟩
theorem b9s {g:G} {H:B4} {n:B2} (hH:K7 w g H) (h:kd H n=some 0):∃b,g.val n= .pointer (some ⟨b,0,none⟩):=by
 obtain ⟨b,hb,hk⟩:=a9k h
 have hbox:=hH.box n b hb
 cases b with
 | cells t cs=>obtain ⟨b,c,hv,_⟩:=hbox;exact ⟨b,hv⟩
 | bools t k=>obtain ⟨b,c,hv,_⟩:=hbox;exact ⟨b,hv⟩
 | blob t k lo hi=>obtain ⟨b,c,hv,_⟩:=hbox;exact ⟨b,hv⟩
 | _=>simp[Box.kind] at hk
theorem D9.lit_inv' {g:G} {H:B4} {v u:Value} (h:D9 w g H (.d (.lit v)) u):u=v:=by cases h with|d h=>cases h;rfl
theorem D9.cells {g:G} {H:B4} (hH:K7 w g H) {x:V} {v:Value} (h:D9 w g H x v) (hc:W5 x=true):E0 w g H x.cells v.cells.toList∧∀u∈v.cells.toList,K6 u:=by
 have nf:∀n k,kd H n=some k→K6 (g.val n):=fun n k hn=>by
  obtain ⟨b,hb,_⟩:=a9k hn;exact (hH.box n b hb).flat
 have one:∀(y:V) (u:Value),y.cells= [y]→D9 w g H y u→K6 u→E0 w g H y.cells u.cells.toList∧∀z∈u.cells.toList,K6 z:=fun y u hy hr hf =>
  ⟨by rw[hy,e4w hf.1];exact .cons hr .nil,fun z hz=>e7t hz hf.1 hf.2⟩
 cases h with
 | d h =>
  have:=h.cells hc
  refine ⟨?_,this.2⟩
  rename_i x
  have e:(V.d x).cells=x.cells.map V.d:=by cases x<;>rfl
  rw[e];exact .of_ds this.1
 | agg h hf=>exact ⟨h,hf⟩
 | ref h=>exact one _ _ rfl (.ref h) (nf _ _ h)
 | ptr h=>exact one _ _ rfl (.ptr h) (a6w (nf _ _ h))
 | hp h=>exact one _ _ rfl (.hp h) (b6x (nf _ _ h))
 | fn ha hb=>exact one _ _ rfl (.fn ha hb) ⟨by simp,by simp⟩
 | tup h=>simp[W5] at hc
 | zs h =>
  cases h with
  | slice a b c d e f=>exact one _ _ rfl (.zs (.slice a b c d e f)) ⟨by simp,by simp⟩
 | any=>simp[W5] at hc
 | opt h hv =>
  refine one _ _ rfl (.opt h hv) ?_
  rcases hv with rfl|rfl
  ·exact ⟨by simp,by simp⟩
  ·exact a6w (nf _ _ h)
theorem F8 {C:Cx} {g:G} {s:St} {a:Act} {x:Operand} {v:V} (R:Rel C g s a w) (h:F3 C s.F x=some v):D9 w g s.H v (a.eval x):=by
 cases x with
 | tmp t=>simp[F3] at h;subst h;exact R.slots t
 | const u =>
  simp only[F3] at h
  cases hf:b2j u with
  | false=>simp[hf] at h
  | true=>simp[hf] at h;subst h;exact .d (a4n hf)
 | global k =>
  simp only[F3] at h
  cases hk:C.glob k with
  | none=>simp[hk] at h
  | some cs=>simp[hk] at h;subst h;exact .d (R.globs k cs hk).1
 | func f=>simp[F3] at h;subst h;exact .fn .nil .nil
theorem a8j {C:Cx} {g:G} {s:St} {a:Act} (R:Rel C g s a w):∀{l:List Operand} {vs:List V},N2 C s.F l=some vs→E0 w g s.H vs (l.map a.eval)
 | [],_,h=>by simp[N2] at h;subst h;exact .nil
 | x::l,_,h=>by
  simp only[N2] at h
  cases hx:F3 C s.F x with
  | none=>simp[hx] at h
  | some v =>
   cases hl:N2 C s.F l with
   | none=>simp[hx,hl] at h
   | some us=>simp[hx,hl] at h;subst h;exact .cons (F8 R hx) (a8j R hl)
theorem b4u {g:G} {H:B4} (hH:K7 w g H):∀{x:V} {y:D} {v:Value},toD H x=some y→D9 w g H x v→N7 w g.lim y v:=by
 intro x
 refine V.rec (motive_1:=fun x=>∀{y:D} {v:Value},toD H x=some y→D9 w g H x v→N7 w g.lim y v)
  (motive_2:=fun l=>∀{ys:List D} {vs:List Value},a2v H l=some ys→E0 w g H l vs→E5 w g.lim ys vs) ?d ?agg ?ref ?ptr ?hp ?fn ?tup ?zs ?any ?opt ?nil ?cons x
 case d=>intro x y v h hr;simp[toD] at h;subst h;cases hr;assumption
 case agg =>
  intro cs ih y v h hr
  simp only[toD] at h
  cases hc:a2v H cs with
  | none=>simp[hc] at h
  | some l=>simp[hc] at h;subst h;cases hr with|agg h hf=>exact .agg (ih hc h) hf
 case ref =>
  intro n y v h hr
  cases hr
  simp only[toD] at h
  split at h
  ·rename_i live nil t sz xs hb
   simp at h;subst h
   exact (hH.box n _ hb).slice
  ·simp at h
 case ptr=>intro n o y v h;simp[toD] at h
 case hp=>intro n i s y v h;simp[toD] at h
 case fn=>intro f a b _ _ y v h;simp[toD] at h
 case tup=>intro vs _ y v h;simp[toD] at h
 case zs=>intro a b y v h;simp[toD] at h
 case any=>intro y v h;simp[toD] at h
 case opt=>intro n o y v h;simp[toD] at h
 case nil=>intro ys vs h hr;simp[a2v] at h;subst h;cases hr;exact .nil
 case cons =>
  intro x l ih1 ih2 ys vs h hr
  simp only[a2v] at h
  cases hx:toD H x with
  | none=>simp[hx] at h
  | some y =>
   cases hl:a2v H l with
   | none=>simp[hx,hl] at h
   | some us=>simp[hx,hl] at h;subst h;cases hr with|cons a b=>exact .cons (ih1 hx a) (ih2 hl b)
theorem b7f {g:G} {H:B4} (hH:K7 w g H):∀{l:List V} {ys:List D} {vs:List Value},a2v H l=some ys→E0 w g H l vs→E5 w g.lim ys vs
 | [],_,_,h,hr=>by simp[a2v] at h;subst h;cases hr;exact .nil
 | x::l,_,_,h,hr=>by
  simp only[a2v] at h
  cases hx:toD H x with
  | none=>simp[hx] at h
  | some y =>
   cases hl:a2v H l with
   | none=>simp[hx,hl] at h
   | some us=>simp[hx,hl] at h;subst h;cases hr with|cons a b=>exact .cons (b4u hH hx a) (b7f hH hl b)
def b7t (P:Program) (t:TypeId) (vs:List Value) (v:Value):Prop :=
 ∃u i,P.underlying t=some u∧P.info? t=some i∧((Z4 u=true∧i.size≤vs.length∧v= .agg (vs.take i.size).toArray)∨(Z4 u=false∧vs.head?=some v))
theorem a5e {C:Cx} {t:TypeId} {cs:List D} {x:D} {vs:List Value} (h:m7 C t cs=some x) (hr:E5 w lim cs vs) (hf:∀v∈vs,K6 v) :
  ∃v,b7t C.P t vs v∧N7 w lim x v:=by
 unfold m7 F1 at h
 cases hu:C.P.underlying t with
 | none=>simp[hu] at h
 | some u =>
  cases hk:K8 C t with
  | none=>simp[hu,hk] at h
  | some k =>
   obtain ⟨i,hi,rfl⟩:=G8 hk
   simp only[hu,hk] at h
   cases ha:Z4 u with
   | true =>
    simp only[ha,cond_true] at h
    by_cases hl:i.size≤cs.length
    ·simp only[Nat.ble_eq_true_of_le hl,cond_true,Option.some.injEq] at h;subst h
     refine ⟨_,⟨u,i,hu,hi, .inl ⟨ha,by rw[←hr.length];exact hl,rfl⟩⟩, .agg (by simpa using hr.take i.size) ?_⟩
     intro v hv;exact hf v (List.mem_of_mem_take (by simpa using hv))
    ·have:Nat.ble i.size cs.length=false:=by
      cases hb:Nat.ble i.size cs.length with
      | false=>rfl
      | true=>exact absurd (Nat.le_of_ble_eq_true hb) hl
     simp[this] at h
   | false =>
    simp only[ha,cond_false] at h
    cases hr with
    | nil=>simp at h
    | cons hx ht=>simp at h;subst h;exact ⟨_,⟨u,i,hu,hi, .inr ⟨ha,rfl⟩⟩,hx⟩
theorem a4f {C:Cx} {g:G} {H:B4} {t:TypeId} {cs:List V} {x:V} {vs:List Value} (h:a2r C t cs=some x) (hr:E0 w g H cs vs) (hf:∀v∈vs,K6 v) :
  ∃v,b7t C.P t vs v∧D9 w g H x v:=by
 unfold a2r F1 at h
 cases hu:C.P.underlying t with
 | none=>simp[hu] at h
 | some u =>
  cases hk:K8 C t with
  | none=>simp[hu,hk] at h
  | some k =>
   obtain ⟨i,hi,rfl⟩:=G8 hk
   simp only[hu,hk] at h
   cases ha:Z4 u with
   | true =>
    simp only[ha,cond_true] at h
    by_cases hl:i.size≤cs.length
    ·simp only[Nat.ble_eq_true_of_le hl,cond_true,Option.some.injEq] at h;subst h
     refine ⟨_,⟨u,i,hu,hi, .inl ⟨ha,by rw[←hr.length];exact hl,rfl⟩⟩,b9j (by simpa using hr.take i.size) ?_⟩
     intro v hv;exact hf v (List.mem_of_mem_take (by simpa using hv))
    ·have:Nat.ble i.size cs.length=false:=by
      cases hb:Nat.ble i.size cs.length with
      | false=>rfl
      | true=>exact absurd (Nat.le_of_ble_eq_true hb) hl
     simp[this] at h
   | false =>
    simp only[ha,cond_false] at h
    cases hr with
    | nil=>simp at h
    | cons hx ht=>simp at h;subst h;exact ⟨_,⟨u,i,hu,hi, .inr ⟨ha,rfl⟩⟩,hx⟩
theorem b3z {P:Program} {t:TypeId} {cs:Array Value} {off:Nat} {v:Value} (h:b7t P t (cs.toList.drop off) v) (w:World):(part t cs off).run P w= .ok v w:=by
 obtain ⟨u,i,hu,hi,h⟩:=h
 simp only[part,Sem.run_bind,c4e P w hu,Result.andThen_ok]
 rcases h with ⟨ha,hl,rfl⟩|⟨ha,hv⟩
 ·simp only[ha,if_true,Sem.run_bind,L1 P w hi,Result.andThen_ok,Sem.run_pure]
  congr 2
  apply Array.toList_inj.1
  simp[List.extract_eq_take_drop]
 ·have:cs[off]?=some v:=by simpa [List.head?_drop] using hv
  simp[ha,this]
theorem b2b {P:Program} {a:Addr} {v:Value} {w:World} (h:w.cell? a=some v):(load a).run P w= .ok v w:=by simp[h]
theorem u0 {P:Program} {w:World} {a:Addr} (hs:a.spot=none):∀(vs:List Value) (i:Nat) (acc:Array Value),
  (∀j v,vs[j]?=some v→w.cell? ⟨a.block,a.off+(i+j),none⟩=some v)→(loadCellsFrom a i vs.length acc).run P w= .ok (acc++vs.toArray) w
 | [],i,acc,_=>by simp[loadCellsFrom]
 | v::vs,i,acc,h=>by
  have h0:w.cell? (a.add i)=some v:=by
   have:=h 0 v rfl
   unfold Addr.add
   split
   ·subst_vars;simpa [←hs] using this
   ·simpa using this
  simp only[List.length_cons,loadCellsFrom,Sem.run_bind,b2b h0,Result.andThen_ok]
  rw[u0 hs vs (i+1) (acc.push v) (fun j u hj=>by have:=h (j+1) u (by simpa using hj);simpa [Nat.add_assoc,Nat.add_comm 1] using this)]
  simp
theorem a3c {P:Program} {w:World} {t:TypeId} {a:Addr} {vs:List Value} {v:Value} (hs:a.spot=none)
  (hc:∀i u,vs[i]?=some u→w.cell? ⟨a.block,a.off+i,none⟩=some u) (h:b7t P t vs v):(loadVar t a).run P w= .ok v w:=by
 obtain ⟨u,i,hu,hi,h⟩:=h
 simp only[loadVar,Sem.run_bind,c4e P w hu,Result.andThen_ok]
 rcases h with ⟨ha,hl,rfl⟩|⟨ha,hv⟩
 ·have hl':(vs.take i.size).length=i.size:=by simp[hl]
  have:=u0 (P:=P) (w:=w) (a:=a) hs (vs.take i.size) 0 #[] (fun j v hj=>by
   simpa using hc j v (by rw[List.getElem?_take] at hj;split at hj<;>simp_all))
  rw[hl'] at this
  simp only[ha,if_true,Sem.run_bind,L1 P w hi,Result.andThen_ok,loadCells,this,Sem.run_pure]
  simp
 ·have h0:w.cell? a=some v:=by
   have:=hc 0 v (by simpa [List.head?_eq_getElem?] using hv)
   simpa [←hs] using this
  simp only[ha,Bool.false_eq_true,if_false,b2b h0]
theorem U1 {w:World} {b i:Nat} {c:Array Value} {t:TypeId} {fr:Nat×Nat} (h:w.heap[b]?=some (.cells c t fr)):w.cell? ⟨b,i,none⟩=c[i]?:=by
 simp[World.cell?,h]
theorem d2r {g:G} {H:B4}:∀{l:List Value},(∀v∈l,K6 v)→E0 w g H (l.map fun v=>V.d (.lit v)) l
 | [],_=>.nil
 | v::r,h=>.cons (.d (.lit (h v (by simp)).1)) (d2r fun x hx=>h x (by simp[hx]))
theorem d4k {l:Nat→Nat}:∀{vs:List Value},(∀v∈vs,K6 v)→E5 w l (List.replicate vs.length .any) vs
 | [],_=>.nil
 | v::r,h=>.cons (.any (h v (by simp))) (d4k fun x hx=>h x (by simp[hx]))
theorem c5v:∀{l:List Value},b7c (l.map fun v=>V.d (.lit v))=some (l.map fun v=>D.lit v)
 | []=>rfl
 | v::r=>by simp[b7c,c5v (l:=r)]
theorem d4d {lim:Nat→Nat} {lo hi:Nat}:∀{l:List Value} {off:Nat},(∀v∈l,K6 v)→(∀j:Nat,lo≤off+j→off+j<hi→j<l.length→∃x:Bool,l[j]?=some (.bool x))→E5 w lim (d4e lo hi off l.length) l
 | [],_,_,_=>.nil
 | v::r,off,hf,hb=>by
  refine .cons ?_ (d4d (off:=off+1) (fun x hx=>hf x (by simp[hx])) fun j h1 h2 h3=>?_)
  ·cases hc:(Nat.ble lo off&&Nat.blt off hi) with
   | true =>
    simp only[Bool.and_eq_true] at hc
    obtain ⟨x,hx⟩:=hb 0 (Nat.le_of_ble_eq_true hc.1) (Nat.le_of_ble_eq_true hc.2) (by simp)
    simp at hx
    subst hx
    exact .anyB
   | false=>exact .any (hf v (by simp))
  ·obtain ⟨x,hx⟩:=hb (j+1) (by omega) (by omega) (by simpa using h3)
   exact ⟨x,by simpa using hx⟩
theorem d2c {lim:Nat→Nat}:∀{l m:List Value},E5 w lim (l.map fun v=>D.lit v) m→m=l
 | [],_,h=>by cases h;rfl
 | v::r,_,h=>by
  cases h with
  | cons h t =>
   cases h
   rw[d2c t]
theorem f5k {g:G} {H:B4} {l:List Value} {u:Value} {k lo hi off:Nat} (h:D9 w g H (b6j (l.map fun v=>V.d (.lit v))) u) (hl:l.length=k) (hb:∀j:Nat,lo≤off+j→off+j<hi→j<l.length→∃x:Bool,l[j]?=some (.bool x)):D9 w g H (.d (.agg (d4e lo hi off k))) u:=by
 unfold b6j at h
 rw[c5v] at h
 cases h with
 | d h =>
  cases h with
  | agg hr hff =>
   have e:=d2c hr
   refine .d (.agg ?_ hff)
   rw[e] at hff ⊢
   rw[←hl]
   exact d4d hff hb
theorem c9z {C:Cx} {g:G} {H:B4} (hH:K7 w g H) {t:TypeId} {x y:V} {v:Value} (h:a2f C H t x=some y) (hr:D9 w g H x v) :
  ∃a u,v= .pointer (some a)∧(loadVar t a).run C.P w= .ok u w∧D9 w g H y u:=by
 cases x with
 | ptr n off =>
  simp only[a2f] at h
  cases hb:H n with
  | none=>simp[hb] at h
  | some b =>
   cases b with
   | cells t' cs =>
    simp only[hb] at h
    obtain ⟨b,c,hv,hw,hcs,hf, -, -⟩:=hH.box n _ hb
    obtain ⟨u,hu,hru⟩:=a4f h (hcs.drop off) (fun v hv=>hf v (List.mem_of_mem_drop hv))
    cases hr
    refine ⟨⟨b,0+off,none⟩,u,by rw[hv];rfl,a3c rfl (fun i z hz=>?_) hu,hru⟩
    rw[U1 hw]
    simpa using hz
   | bools t' k =>
    simp only[hb] at h
    obtain ⟨b,c,hv,hw,hk,hbl, -, -⟩:=hH.box n _ hb
    split at h
    ·rename_i u sz hu hs
     cases ha:Z4 u with
     | true=>simp[ha] at h
     | false =>
      simp only[ha,cond_false] at h
      cases hlt:Nat.blt off k with
      | false=>simp[hlt] at h
      | true =>
       simp only[hlt,cond_true,Option.some.injEq] at h
       subst h
       have hlt:off<c.size:=by rw[hk];exact Nat.le_of_ble_eq_true hlt
       obtain ⟨x,hx⟩:=hbl c[off] (by simp)
       have hrep:E0 w g H (c.toList.map fun v=>V.d (.lit v)) c.toList:=by
        have key:∀l:List Value,(∀v∈l,∃x,v= .bool x)→E0 w g H (l.map fun v=>V.d (.lit v)) l:=by
         intro l
         induction l with
         | nil=>intro _;exact .nil
         | cons v r ih =>
          intro h
          obtain ⟨x,rfl⟩:=h v (by simp)
          exact .cons (.d (.lit (by simp))) (ih fun v hv=>h v (by simp[hv]))
        exact key _ hbl
       have hfl:∀v∈c.toList,K6 v:=fun v hv=>by obtain ⟨x,rfl⟩:=hbl v hv;exact ⟨by simp,by simp⟩
       have htk:a2r C t ((c.toList.map fun v=>V.d (.lit v)).drop off)=some (.d (.lit (.bool x))):=by
        have hd:(c.toList.map fun v=>V.d (.lit v)).drop off=V.d (.lit (.bool x))::(c.toList.map fun v=>V.d (.lit v)).drop (off+1):=by
         rw[List.drop_eq_getElem_cons (by simpa using hlt)]
         congr 1
         simp[hx]
        rw[hd]
        unfold a2r
        simp only[hu,hs,ha,cond_false]
       obtain ⟨u',hu',hru⟩:=a4f htk (hrep.drop off) (fun v hv=>hfl v (List.mem_of_mem_drop hv))
       have:=hru.lit_inv'
       subst this
       cases hr
       refine ⟨⟨b,0+off,none⟩, .bool x,by rw[hv];rfl,a3c rfl (fun i z hz=>?_) hu', .d .anyB⟩
       rw[U1 hw]
       simpa using hz
    ·cases h
   | blob t' k lo hi =>
    simp only[hb] at h
    obtain ⟨b,c,hv,hw,hk,⟨hfl,hbl⟩, -, -⟩:=hH.box n _ hb
    have hrep:=d2r (w:=w) (g:=g) (H:=H) hfl
    split at h
    ·rename_i u sz hu hs
     cases ha:Z4 u with
     | true =>
      simp only[ha,cond_true] at h
      cases hle:Nat.ble (off+sz) k with
      | false=>simp[hle] at h
      | true =>
       simp only[hle,cond_true,Option.some.injEq] at h
       subst h
       have hle:off+sz≤c.size:=by rw[hk];exact Nat.le_of_ble_eq_true hle
       have htk:a2r C t ((c.toList.map fun v=>V.d (.lit v)).drop off)=some (b6j (((c.toList.map fun v=>V.d (.lit v)).drop off).take sz)):=by
        unfold a2r
        have h1:Nat.ble sz ((c.toList.map fun v=>V.d (.lit v)).drop off).length=true:=by
         rw[Nat.ble_eq];simp;omega
        simp only[hu,hs,ha,cond_true,h1]
       obtain ⟨u',hu',hru⟩:=a4f htk (hrep.drop off) (fun v hv=>hfl v (List.mem_of_mem_drop hv))
       cases hr
       refine ⟨⟨b,0+off,none⟩,u',by rw[hv];rfl,a3c rfl (fun i z hz=>?_) hu', ?_⟩
       ·rw[U1 hw]
        simpa using hz
       ·rw[←List.map_drop, ←List.map_take] at hru
        exact f5k hru (by simp;omega) (fun j h1 h2 h3=>by
         obtain ⟨x,hx⟩:=hbl (off+j) h1 h2
         simp at h3
         exact ⟨x,by rw[List.getElem?_take_of_lt (by omega),List.getElem?_drop];exact hx⟩)
     | false =>
      simp only[ha,cond_false] at h
      have one:off<c.size→∃x,c.toList[off]?=some x∧∃a u,v= .pointer (some a)∧(loadVar t a).run C.P w= .ok u w∧u=x:=fun hlt=>by
       have htk:a2r C t ((c.toList.map fun v=>V.d (.lit v)).drop off)=some (.d (.lit c[off])):=by
        have hd:(c.toList.map fun v=>V.d (.lit v)).drop off=V.d (.lit c[off])::(c.toList.map fun v=>V.d (.lit v)).drop (off+1):=by
         rw[List.drop_eq_getElem_cons (by simpa using hlt)]
         congr 1
         simp
        rw[hd]
        unfold a2r
        simp only[hu,hs,ha,cond_false]
       obtain ⟨u',hu',hru⟩:=a4f htk (hrep.drop off) (fun v hv=>hfl v (List.mem_of_mem_drop hv))
       have:=hru.lit_inv'
       subst this
       cases hr
       refine ⟨c[off],by simp[hlt],⟨b,0+off,none⟩,c[off],by rw[hv];rfl,a3c rfl (fun i z hz=>?_) hu',rfl⟩
       rw[U1 hw]
       simpa using hz
      cases hbo:(Nat.ble lo off&&Nat.blt off hi) with
      | true =>
       simp only[hbo,cond_true,Option.some.injEq] at h
       subst h
       simp only[Bool.and_eq_true] at hbo
       obtain ⟨x,hx⟩:=hbl off (Nat.le_of_ble_eq_true hbo.1) (Nat.le_of_ble_eq_true hbo.2)
       have hlt:off<c.size:=by have:=(List.getElem?_eq_some_iff.1 hx).1;simpa using this
       obtain ⟨y,hy,a,u',h1,h2,rfl⟩:=one hlt
       rw[hx] at hy
       cases hy
       exact ⟨a,_,h1,h2, .d .anyB⟩
      | false =>
       simp only[hbo,cond_false] at h
       cases hlt:Nat.blt off k with
       | false=>simp[hlt] at h
       | true =>
        simp only[hlt,cond_true,Option.some.injEq] at h
        subst h
        obtain ⟨y,hy,a,u',h1,h2,rfl⟩:=one (by rw[hk];exact Nat.le_of_ble_eq_true hlt)
        exact ⟨a,_,h1,h2, .d (.any (hfl _ (List.mem_of_getElem? hy)))⟩
    ·cases h
   | _=>simp[hb] at h
 | d x =>
  cases x with
  | elem ds =>
   simp only[a2f] at h
   cases hd:m7 C t ds with
   | none=>simp[hd] at h
   | some z =>
    simp[hd] at h;subst h
    cases hr with
    | d hr =>
     cases hr with
     | elem h1 h2 h3 =>
      obtain ⟨u,hu,hru⟩:=a5e hd h1 h2
      exact ⟨_,u,rfl,a3c h3.1 (fun i z hz=>(h3.2 i z hz).2) hu, .d hru⟩
  | _=>simp[a2f] at h
 | _=>simp[a2f] at h
end reps
end Go.Ev
end
section
namespace Go.Ev
structure a7m (C:Cx):Prop where
 plain:∀t,C.plain t=true→C.P.eqGuardType C.P.depth t=false∧C.P.stoodInHeld t=false
 mixed:C.P.follows .mixedOrders=true
section
variable {C : Cx} {w : World} {g : G} {H : B4}
theorem D9.lit_inv {v u:Value} (h:D9 w g H (.d (.lit v)) u):u=v:=by cases h with|d h=>cases h;rfl
theorem N7.lit_inv {lim:Nat→Nat} {v u:Value} (h:N7 w lim (.lit v) u):u=v:=by cases h;rfl
theorem t7 {b:Bool}:D9 w g H (A9 b) (.bool b):=.d (.lit (by simp))
theorem b8w {s:ByteArray}:D9 w g H (C9 s) (.string s):=.d (.lit (by simp))
theorem a4j:D9 w g H K9 undef:=.d (.lit (by simp))
theorem a8d (hH:K7 w g H) {x:V} {nil:Bool} {sz:Nat} {xs:List D} {v:Value} (h:a3n H x=some (nil,sz,xs)) (hr:D9 w g H x v):N7 w g.lim (.slice nil sz xs) v:=by
 cases x with
 | d x =>
  cases x<;>simp[a3n] at h
  obtain ⟨rfl,rfl,rfl⟩:=h
  cases hr;assumption
 | ref n =>
  simp only[a3n] at h
  split at h
  ·rename_i hb
   simp at h;obtain ⟨rfl,rfl,rfl⟩:=h
   cases hr
   exact (hH.box n _ hb).slice
  ·simp at h
 | _=>simp[a3n] at h
theorem s6 {lim:Nat→Nat} {nil:Bool} {sz:Nat} {xs:List D} {v:Value} (h:N7 w lim (.slice nil sz xs) v) :
  (nil=true∧xs= []∧v= .slice none 0 0)∨(nil=false∧∃a cap vs,v= .slice (some a) xs.length cap∧xs.length≤cap∧E5 w lim (E9 xs) vs∧(∀v∈vs,K6 v)∧(xs≠ []→a3t w lim a vs)∧∀x∈xs,x.cells.length=sz):=by
 cases h with
 | nils=>exact .inl ⟨rfl,rfl,rfl⟩
 | slice h hf hh hs hn hc=>subst hn;exact .inr ⟨rfl,_,_,_,rfl,hc,h,hf,hh,hs⟩
theorem a9m (hH:K7 w g H) {u:TypeDesc} {x:V} {b:Bool} {v:Value} (h:V2 H u x=some b) (hr:D9 w g H x v) :
  (∃e,u= .pointer e∧((b=true∧v= .pointer none)∨(b=false∧∃a,v= .pointer (some a))))∨
  (∃p q r,u= .func p q r∧((b=true∧v= .nilFunc)∨(b=false∧∃f p q,v= .func f p q)))∨
  (∃ms,u= .interface ms∧((b=true∧v= .nilIface∧x= .d (.lit .nilIface))∨(b=false∧∃t z,v= .iface t z)))∨
  (∃e,u= .slice e∧((b=true∧v= .slice none 0 0)∨(b=false∧∃a n c,v= .slice (some a) n c))):=by
 unfold V2 at h
 split at h
 ·cases hr.lit_inv;simp at h;subst h;exact .inl ⟨_,rfl, .inl ⟨rfl,rfl⟩⟩
 ·simp at h;subst h;cases hr with|d hr=>cases hr;exact .inl ⟨_,rfl, .inr ⟨rfl,_,rfl⟩⟩
 ·rename_i n off
  simp at h;subst h
  cases hr with
  | ptr hn =>
   obtain ⟨b,hv⟩:=b9s hH hn
   exact .inl ⟨_,rfl, .inr ⟨rfl,_,by rw[hv];rfl⟩⟩
 ·cases hr.lit_inv;simp at h;subst h;exact .inr (.inl ⟨_,_,_,rfl, .inl ⟨rfl,rfl⟩⟩)
 ·simp at h;subst h;cases hr;exact .inr (.inl ⟨_,_,_,rfl, .inr ⟨rfl,_,_,_,rfl⟩⟩)
 ·cases hr.lit_inv;simp at h;subst h;exact .inr (.inr (.inl ⟨_,rfl, .inl ⟨rfl,rfl,rfl⟩⟩))
 ·simp at h;subst h;cases hr with|d hr=>cases hr;exact .inr (.inr (.inl ⟨_,rfl, .inr ⟨rfl,_,_,rfl⟩⟩))
 ·simp at h;subst h
  cases hr with
  | d hr =>
   rcases s6 hr with ⟨rfl,rfl,rfl⟩|⟨rfl,a,cap,vs,rfl,_⟩
   ·exact .inr (.inr (.inr ⟨_,rfl, .inl ⟨rfl,rfl⟩⟩))
   ·exact .inr (.inr (.inr ⟨_,rfl, .inr ⟨rfl,_,_,_,rfl⟩⟩))
 ·rename_i n
  split at h
  ·rename_i live nil t sz xs ys hb
   simp at h;subst h
   cases hr
   obtain ⟨vs,us,h1,h2,h3,h4,h5,h6,h7,h8⟩:=hH.box n _ hb
   cases nil with
   | true=>exact .inr (.inr (.inr ⟨_,rfl, .inl ⟨rfl,h5.1 rfl⟩⟩))
   | false =>
    refine .inr (.inr (.inr ⟨_,rfl, .inr ⟨rfl, ?_⟩⟩))
    cases live with
    | true =>
     rcases (h7 rfl).1.2 with ⟨hv,_⟩|⟨b,cap,cur,hv,_⟩
     ·cases h5.2 hv
     ·exact ⟨_,_,_,hv⟩
    | false =>
     obtain ⟨_,h|⟨a,cap,hv,_⟩⟩:=h8 rfl
     ·cases h
     ·exact ⟨_,_,_,hv⟩
  ·simp at h
 ·simp at h
theorem b6w {lim:Nat→Nat} {eq:TypeId→D→D→Option Bool} {d:Nat} (he:∀t x y b vx vy,eq t x y=some b→N7 w lim x vx→N7 w lim y vy→(Op.equalIn d t vx vy).run C.P w= .ok b w)
  {xs ys:List D} {ax ay:Array Value} (hx:E5 w lim xs ax.toList) (fx:∀v∈ax.toList,K6 v) (hy:E5 w lim ys ay.toList) (fy:∀v∈ay.toList,K6 v) :
  ∀(fs:List Field) (b:Bool),eqFields C eq xs ys fs=some b→(Op.eqFields d ax ay fs).run C.P w= .ok b w
 | [],b,h=>by simp[eqFields] at h;subst h;rfl
 | f::fs,b,h=>by
  simp only[eqFields] at h
  by_cases hn:f.name = "_"
  ·simp[hn] at h
  ·simp only[hn,if_false] at h
   cases h1:m7 C f.type (xs.drop f.offset) with
   | none=>simp[h1] at h
   | some a =>
    cases h2:m7 C f.type (ys.drop f.offset) with
    | none=>simp[h1,h2] at h
    | some c =>
     simp only[h1,h2] at h
     obtain ⟨va,ta,ra⟩:=a5e h1 (hx.drop _) (fun v hv=>fx v (List.mem_of_mem_drop hv))
     obtain ⟨vc,tc,rc⟩:=a5e h2 (hy.drop _) (fun v hv=>fy v (List.mem_of_mem_drop hv))
     cases h3:eq f.type a c with
     | none=>simp[h3] at h
     | some r =>
      have hr:=he _ _ _ _ _ _ h3 ra rc
      simp only[Op.eqFields,ne_eq,hn,not_false_eq_true,if_true,Sem.run_bind,b3z ta w,b3z tc w,hr,Result.andThen_ok]
      cases h4:eqFields C eq xs ys fs with
      | none=>simp[h3,h4] at h
      | some q =>
       simp[h3,h4] at h
       cases r with
       | true=>simp at h;subst h;simpa using b6w he hx fx hy fy fs q h4
       | false=>simp at h;subst h;rfl
theorem e8a (ok:a7m C) {lim:Nat→Nat}:∀(n:Nat) (t:TypeId) (x y:D) (b:Bool) (vx vy:Value),eqD C n t x y=some b→N7 w lim x vx→N7 w lim y vy→
  ∀d,n≤d→(Op.equalIn d t vx vy).run C.P w= .ok b w
 | 0,_,_,_,_,_,_,h=>by simp[eqD] at h
 | n+1,t,x,y,b,vx,vy,h=>fun hx hy d hd=>by
  obtain ⟨d,rfl⟩:∃m,d=m+1:=⟨d-1,by omega⟩
  cases x with
  | lit a =>
   cases y with
   | lit c =>
    cases hx;cases hy
    simp only[eqD,F1] at h
    cases hu:C.P.underlying t with
    | none=>simp[hu] at h
    | some u =>
     simp only[hu] at h
     unfold d3q at h
     split at h
     ·simp at h;subst h;exact run_equalIn_bool' w d t _ _ hu
     ·split at h
      ·rename_i hk;subst hk;simp at h;subst h;exact run_equalIn_int w d t _ _ _ _ hu
      ·simp at h
     ·simp at h;subst h
      rw[beq_toListBytes];exact run_equalIn_string w d t _ _ hu
     ·simp at h
   | _=>simp[eqD] at h
  | agg xs =>
   cases y with
   | agg ys =>
    cases hx with
    | agg hx fx =>
     cases hy with
     | agg hy fy =>
      simp only[eqD,F1] at h
      cases hu:C.P.underlying t with
      | none=>simp[hu] at h
      | some u =>
       cases u with
       | struct fs =>
        simp only[hu] at h
        cases hp:C.plain t with
        | false=>simp[hp] at h
        | true =>
         simp only[hp,cond_true] at h
         have hf:C.P.fieldsOf t=fs:=by simp[Program.fieldsOf,hu]
         rw[run_equalIn_struct w d t _ _ (by rw[hf];exact hu) (ok.plain t hp).2,hf]
         exact b6w (fun t x y b vx vy h1 h2 h3=>e8a ok n t x y b vx vy h1 h2 h3 d (by omega)) hx fx hy fy _ _ h
       | _=>simp[hu] at h
   | _=>simp[eqD] at h
  | _=>simp[eqD] at h
theorem d3p (d:Nat) {t:TypeId} {u:TypeDesc} (hu:C.P.underlying t=some u) (hH:K7 w g H) {x y:V} {vx vy:Value} {a b:Bool} (hx:D9 w g H x vx) (hy:D9 w g H y vy)
  (ha:V2 H u x=some a) (hb:V2 H u y=some b) (hab:a=true∨b=true):(Op.equalIn (d+1) t vx vy).run C.P w= .ok (a&&b) w:=by
 simp only[Op.equalIn,Sem.run_bind,F0 _ w hu,Result.andThen_ok]
 rcases a9m hH ha hx with ⟨e,rfl,h1⟩|⟨p,q,r,rfl,h1⟩|⟨ms,rfl,h1⟩|⟨e,rfl,h1⟩ <;>
 rcases a9m hH hb hy with ⟨e',h0,h2⟩|⟨p',q',r',h0,h2⟩|⟨ms',h0,h2⟩|⟨e',h0,h2⟩<;>(try cases h0)
 ·rcases h1 with ⟨rfl,rfl⟩|⟨rfl,_,rfl⟩<;>rcases h2 with ⟨rfl,rfl⟩|⟨rfl,_,rfl⟩<;>first|rfl|simp at hab
 ·rcases h1 with ⟨rfl,rfl⟩|⟨rfl,_,_,_,rfl⟩<;>rcases h2 with ⟨rfl,rfl⟩|⟨rfl,_,_,_,rfl⟩<;>first|rfl|simp at hab
 ·rcases h1 with ⟨rfl,rfl,_⟩|⟨rfl,_,_,rfl⟩<;>rcases h2 with ⟨rfl,rfl,_⟩|⟨rfl,_,_,rfl⟩<;>first|rfl|simp at hab
 ·rcases h1 with ⟨rfl,rfl⟩|⟨rfl,_,_,_,rfl⟩<;>rcases h2 with ⟨rfl,rfl⟩|⟨rfl,_,_,_,rfl⟩<;>first|rfl|simp at hab
theorem c5j {t:TypeId} {u:TypeDesc} (hu:C.P.underlying t=some u) (hH:K7 w g H) {x y:V} {vx vy:Value} {a b:Bool} (hx:D9 w g H x vx) (hy:D9 w g H y vy)
  (ha:V2 H u x=some a) (hb:V2 H u y=some b) (hab:a=true∨b=true):(Op.equal t vx vy).run C.P w= .ok (a&&b) w :=
 d3p 9999 hu hH hx hy ha hb hab
theorem d3o (d:Nat) {t e:TypeId} {ti:TypeInfo} (hu:C.P.underlying t=some (.pointer e)) (hi:C.P.info? e=some ti) (hs:ti.size≠0) (b i j:Nat) :
  (Op.equalIn (d+1) t (.pointer (some ⟨b,i,none⟩)) (.pointer (some ⟨b,j,none⟩))).run C.P w= .ok (i==j) w:=by
 simp only[Op.equalIn,Sem.run_bind,F0 _ w hu,Result.andThen_ok,L1 _ w hi,ne_eq,hs,not_false_eq_true,if_true,sameAddr,beq_self_eq_true,Sem.run_pure]
 congr 1
 by_cases hij:i=j
 ·subst hij;simp
 ·have:(i==j)=false:=by simpa using hij
  rw[this]
  simp[hij]
theorem b7p (ok:a7m C) (hH:K7 w g H) {t:TypeId} {x y:V} {b:Bool} {vx vy:Value} (h:b2z C H t x y=some b) (hx:D9 w g H x vx) (hy:D9 w g H y vy) :
  (Op.equal t vx vy).run C.P w= .ok b w:=by
 unfold b2z F1 at h
 cases hu:C.P.underlying t with
 | none=>simp[hu] at h
 | some u =>
  simp only[hu] at h
  cases ha:V2 H u x with
  | some a =>
   cases hb:V2 H u y with
   | some b' =>
    simp only[ha,hb] at h
    cases a with
    | true =>
     simp at h;subst h
     simpa using c5j hu hH hx hy ha hb (.inl rfl)
    | false =>
     cases b' with
     | true=>simp at h;subst h;simpa using c5j hu hH hx hy ha hb (.inr rfl)
     | false =>
      simp only at h
      split at h
      ·rename_i e n i m j
       cases hk:K8 C e with
       | none=>simp[hk] at h
       | some k =>
        obtain ⟨ti,hi,rfl⟩:=G8 hk
        simp only[hk] at h
        cases hc:(n==m&& !ti.size==0) with
        | false=>simp[hc] at h
        | true =>
         simp only[hc,cond_true,Option.some.injEq] at h
         subst h
         simp only[Bool.and_eq_true,beq_iff_eq,Bool.not_eq_true',beq_eq_false_iff_ne,ne_eq] at hc
         obtain ⟨rfl,hs⟩:=hc
         cases hx with
         | ptr hn =>
          cases hy
          obtain ⟨b,hv⟩:=b9s hH hn
          rw[hv]
          have:=d3o (w:=w) 9999 hu hi hs b (0+i) (0+j)
          simp only[Nat.zero_add] at this
          show (Op.equalIn (9999+1) t _ _).run C.P w=_
          simp only[a2w,Nat.zero_add]
          exact this
      ·simp at h
   | none=>cases a<;>simp[ha,hb] at h
  | none =>
   cases hb:V2 H u y with
   | some b'=>cases b'<;>simp[ha,hb] at h
   | none =>
    simp only[ha,hb] at h
    split at h
    ·cases hx;cases hy
     rename_i h1 h2
     exact e8a ok 4 t _ _ b _ _ h h1 h2 10000 (by omega)
    ·simp at h
def d4v (x y:Value):Prop:=(∀k a k' b,¬(x= .int k a∧y= .int k' b))∧(∀k a k' b,¬(x= .float k a∧y= .float k' b))∧
 (∀k a b k' c d,¬(x= .complex k a b∧y= .complex k' c d))∧(∀a b,¬(x= .string a∧y= .string b))
theorem d4v.left {x y:Value} (h1:∀k a,x≠ .int k a) (h2:∀k a,x≠ .float k a) (h3:∀k a b,x≠ .complex k a b) (h4:∀a,x≠ .string a):d4v x y :=
 ⟨fun k a _ _ h=>h1 k a h.1,fun k a _ _ h=>h2 k a h.1,fun k a b _ _ _ h=>h3 k a b h.1,fun a _ h=>h4 a h.1⟩
theorem c5r {x y:Value} (h:d4v x y) (t:TypeId):binOp .eql t x y=(do pure (.bool (←Op.equal t x y))):=by
 obtain ⟨h1,h2,h3,h4⟩:=h
 unfold binOp
 split<;>first|rfl | (exfalso;exact h1 _ _ _ _ ⟨rfl,rfl⟩) | (exfalso;exact h2 _ _ _ _ ⟨rfl,rfl⟩) | (exfalso;exact h3 _ _ _ _ _ _ ⟨rfl,rfl⟩) | (exfalso;exact h4 _ _ ⟨rfl,rfl⟩)|simp_all
theorem c5q {x y:Value} (h:d4v x y) (t:TypeId):binOp .neq t x y=(do pure (.bool (!(←Op.equal t x y)))):=by
 obtain ⟨h1,h2,h3,h4⟩:=h
 unfold binOp
 split<;>first|rfl | (exfalso;exact h1 _ _ _ _ ⟨rfl,rfl⟩) | (exfalso;exact h2 _ _ _ _ ⟨rfl,rfl⟩) | (exfalso;exact h3 _ _ _ _ _ _ ⟨rfl,rfl⟩) | (exfalso;exact h4 _ _ ⟨rfl,rfl⟩)|simp_all
theorem a5m {op:BinOp} {t:TypeId} {ox oy:Operand} {x y:Value} (h1:x= .nilIface→y= .nilIface→(Region.isConst ox||Region.isConst oy)=true)
  (h2:∀a b,x= .agg a→y= .agg b→C.P.eqGuardType C.P.depth t=false):(eqGuard op t ox oy x y).run C.P w= .ok () w:=by
 have hn:(x= .nilIface∧y= .nilIface)∨(∃a b,x= .agg a∧y= .agg b)∨(eqGuard op t ox oy x y).run C.P w= .ok () w:=by
  by_cases hx:x= .nilIface
  ·subst hx
   cases y<;>first|exact .inl ⟨rfl,rfl⟩ | (right;right;cases op<;>rfl)
  ·cases x<;>first
    | exact absurd rfl hx
    | (cases y<;>first|exact .inr (.inl ⟨_,_,rfl,rfl⟩) | (right;right;cases op<;>rfl))
    | (right;right;cases op<;>rfl)
 rcases hn with ⟨rfl,rfl⟩|⟨a,b,rfl,rfl⟩|h
 ·have:=h1 rfl rfl
  cases op<;>first|rfl | (cases ox<;>cases oy<;>first|rfl | (simp[Region.isConst] at this;done))
 ·exact run_eqGuard_agg w op t ox oy a b (h2 _ _ rfl rfl)
 ·exact h
theorem a7f (ok:a7m C) (hH:K7 w g H) {t:TypeId} {x y:V} {b:Bool} {vx vy:Value} (h:b2z C H t x y=some b) (hx:D9 w g H x vx) (hy:D9 w g H y vy)
  (n1:∀k a k' b,x= .d (.lit (.int k a))→y= .d (.lit (.int k' b))→False) (n2:∀a b,x= .d (.lit (.string a))→y= .d (.lit (.string b))→False) :
  d4v vx vy∧(vx= .nilIface→vy= .nilIface→a2h x=true∧a2h y=true)∧(∀a b,vx= .agg a→vy= .agg b→C.P.eqGuardType C.P.depth t=false):=by
 unfold b2z F1 at h
 cases hu:C.P.underlying t with
 | none=>simp[hu] at h
 | some u =>
  simp only[hu] at h
  cases ha:V2 H u x with
  | some a =>
   have hb:∃b',V2 H u y=some b':=by
    cases hb:V2 H u y with
    | some b'=>exact ⟨_,rfl⟩
    | none=>cases a<;>simp[ha,hb] at h
   obtain ⟨b',hb⟩:=hb
   have k1:=a9m hH ha hx
   have k2:=a9m hH hb hy
   have i2:vy= .nilIface→a2h y=true:=by
    intro e;subst e
    rcases k2 with ⟨e,rfl,⟨_,h⟩|⟨_,_,h⟩⟩|⟨p,q,r,rfl,⟨_,h⟩|⟨_,_,_,_,h⟩⟩|⟨ms,rfl,⟨_,_,h⟩|⟨_,_,_,h⟩⟩|⟨e,rfl,⟨_,h⟩|⟨_,_,_,_,h⟩⟩<;>first | (cases h;done) | (subst h;rfl)
   rcases k1 with ⟨e,rfl,⟨_,rfl⟩|⟨_,_,rfl⟩⟩|⟨p,q,r,rfl,⟨_,rfl⟩|⟨_,_,_,_,rfl⟩⟩|⟨ms,rfl,⟨_,rfl,rfl⟩|⟨_,_,_,rfl⟩⟩|⟨e,rfl,⟨_,rfl⟩|⟨_,_,_,_,rfl⟩⟩ <;>
    exact ⟨.left (by simp) (by simp) (by simp) (by simp),(by first | (intro h;cases h;done)|exact fun _ e=>⟨rfl,i2 e⟩),(by intro a b h;cases h)⟩
  | none =>
   cases hb:V2 H u y with
   | some b'=>cases b'<;>simp[ha,hb] at h
   | none =>
    simp only[ha,hb] at h
    split at h
    ·rename_i p q
     cases p with
     | lit p =>
      cases q with
      | lit q =>
       cases hx.lit_inv;cases hy.lit_inv
       simp only[eqD,F1,hu] at h
       unfold d3q at h
       split at h
       ·exact ⟨.left (by simp) (by simp) (by simp) (by simp),by simp,by simp⟩
       ·exact (n1 _ _ _ _ rfl rfl).elim
       ·exact (n2 _ _ rfl rfl).elim
       ·simp at h
      | _=>simp[eqD] at h
     | agg p =>
      cases q with
      | agg q =>
       cases hx with|d hx=>cases hx;cases hy with|d hy=>cases hy;exact ⟨.left (by simp) (by simp) (by simp) (by simp),by simp,fun _ _ _ _=>by
         cases u with
         | struct fs =>
          simp only[eqD,F1,hu] at h
          cases hp:C.plain t with
          | false=>simp[hp] at h
          | true=>exact (ok.plain t hp).1
         | _=>simp[eqD,F1,hu] at h⟩
      | _=>simp[eqD] at h
     | _=>simp[eqD] at h
    ·simp at h
theorem e7y (ok : a7m C) (hH : K7 w g H) {op : BinOp} {t : TypeId} {x y v : V} {vx vy : Value} {ox oy : Operand} (h : o3 C H op t x y = some v) (hx : D9 w g H x vx) (hy : D9 w g H y vy)
    (hg : (a2h x && a2h y && !(Region.isConst ox || Region.isConst oy)) = false) :
    ∃ u, (do eqGuard op t ox oy vx vy; binOp op t vx vy : Sem Value).run C.P w = .ok u w ∧ D9 w g H v u := by
  unfold o3 at h
  split at h
  · rename_i k a k' b
    cases hx.lit_inv; cases hy.lit_inv
    split at h
    · rename_i hk; subst hk
      have eg : ∀ op, (eqGuard op t ox oy (.int k a) (.int k b)).run C.P w = .ok () w := fun op => by cases op <;> rfl
      simp only [Sem.run_bind, eg, Result.andThen_ok]
      cases op <;> simp only [b5n] at h
      all_goals first
        | (simp at h; subst h; exact ⟨_, by simp [binOp, Op.intArith, Op.intCmp], .d (.lit (by simp))⟩)
        | (by_cases hb : b = 0
           · simp [hb] at h
           · simp [hb] at h; subst h; exact ⟨_, by simp [binOp, Op.intDiv, hb], .d (.lit (by simp))⟩)
        | (simp at h; done)
    · simp at h
  · rename_i a b
    cases hx.lit_inv; cases hy.lit_inv
    have eg : ∀ op, (eqGuard op t ox oy (.string a) (.string b)).run C.P w = .ok () w := fun op => by cases op <;> rfl
    simp only [Sem.run_bind, eg, Result.andThen_ok]
    cases op <;> simp only [c6a] at h
    all_goals first
      | (simp at h; subst h; exact ⟨_, by simp [binOp, Op.stringOp], .d (.lit (by simp))⟩)
      | (by_cases hb : ((a.size + b.size : Nat) : Int) > IntKind.i64.max
         · simp only [hb, if_true] at h; simp at h
         · simp only [hb, if_false] at h; simp at h; subst h; exact ⟨_, by simp only [binOp, Op.stringOp, hb, if_false, Sem.run_pure], .d (.lit (by simp))⟩)
      | (simp at h; done)
  · rename_i n1 n2
    cases hbb : d9x x y with
    | true =>
      rw [hbb] at h
      simp only [cond_true] at h
      have hx' : ∃ a, vx = .bool a := by
        unfold d9x at hbb
        split at hbb
        · cases hx with | d hx => cases hx; exact ⟨_, rfl⟩
        · exact ⟨_, hx.lit_inv⟩
        · cases hbb
      have hy' : ∃ b, vy = .bool b := by
        unfold d9x at hbb
        split at hbb
        · unfold o7 at hbb
          split at hbb
          · exact ⟨_, hy.lit_inv⟩
          · cases hy with | d hy => cases hy; exact ⟨_, rfl⟩
          · cases hbb
        · split at hbb
          · cases hy with | d hy => cases hy; exact ⟨_, rfl⟩
          · cases hbb
        · cases hbb
      obtain ⟨a, rfl⟩ := hx'
      obtain ⟨b, rfl⟩ := hy'
      split at h
      · rename_i hu
        simp at h; subst h
        have he : b2z C H t (A9 a) (A9 b) = some (a == b) := by simp only [b2z, hu, V2, eqD, d3q]
        obtain ⟨s1, s2, s3⟩ := a7f ok hH he t7 t7 (by intro k a k' b h; cases h) (by intro a b h; cases h)
        have := b7p ok hH he t7 t7
        refine ⟨.bool (a == b), ?_, .d .anyB⟩
        rw [Sem.run_bind, a5m (fun e1 => by cases e1) s3, Result.andThen_ok, c5r s1, Sem.run_bind, this]; rfl
      · rename_i hu
        simp at h; subst h
        have he : b2z C H t (A9 a) (A9 b) = some (a == b) := by simp only [b2z, hu, V2, eqD, d3q]
        obtain ⟨s1, s2, s3⟩ := a7f ok hH he t7 t7 (by intro k a k' b h; cases h) (by intro a b h; cases h)
        have := b7p ok hH he t7 t7
        refine ⟨.bool !(a == b), ?_, .d .anyB⟩
        rw [Sem.run_bind, a5m (fun e1 => by cases e1) s3, Result.andThen_ok, c5q s1, Sem.run_bind, this]; rfl
      · cases h
    | false =>
    rw [hbb] at h
    simp only [cond_false] at h
    split at h
    · cases he : b2z C H t x y with
      | none => simp [he] at h
      | some b =>
        simp [he] at h; subst h
        obtain ⟨s1, s2, s3⟩ := a7f ok hH he hx hy n1 n2
        have := b7p ok hH he hx hy
        refine ⟨.bool b, ?_, t7⟩
        rw [Sem.run_bind, a5m (fun e1 e2 => by have := s2 e1 e2; rw [this.1, this.2] at hg; revert hg; cases (Region.isConst ox || Region.isConst oy) <;> simp) s3, Result.andThen_ok, c5r s1, Sem.run_bind, this]; rfl
    · cases he : b2z C H t x y with
      | none => simp [he] at h
      | some b =>
        simp [he] at h; subst h
        obtain ⟨s1, s2, s3⟩ := a7f ok hH he hx hy n1 n2
        have := b7p ok hH he hx hy
        refine ⟨.bool !b, ?_, t7⟩
        rw [Sem.run_bind, a5m (fun e1 e2 => by have := s2 e1 e2; rw [this.1, this.2] at hg; revert hg; cases (Region.isConst ox || Region.isConst oy) <;> simp) s3, Result.andThen_ok, c5q s1, Sem.run_bind, this]; rfl
    · simp at h
end
end Go.Ev
end
section
namespace Go.Ev
section
variable {C : Cx} {w : World} {g : G} {H : B4}
theorem f4o {op:UnOp} {x v:V} {vx:Value} (h:e4d op x=some v) (hx:D9 w g H x vx):∃u,(Op.unary op vx).run C.P w= .ok u w∧D9 w g H v u:=by
 unfold e4d at h
 split at h
 ·cases hx.lit_inv;simp at h;subst h;exact ⟨_,by simp[Op.unary],t7⟩
 ·cases hx.lit_inv;simp at h;subst h;exact ⟨_,by simp[Op.unary,Op.intArith], .d (.lit (by simp))⟩
 ·simp at h
theorem e7x (hH:K7 w g H) {t ty:TypeId} {at_:Array TypeId} {x v:V} {vx:Value} (h:b6u C H t x=some v) (hx:D9 w g H x vx) (ht:at_[0]?=some t) :
  ∃u,(Builtin.len_ at_ ty #[vx]).run C.P w= .ok u w∧D9 w g H v u:=by
 unfold b6u F1 at h
 split at h
 ·have hu:= ‹C.P.underlying t=some _›
  cases hx.lit_inv;simp at h;subst h
  exact ⟨_,by simp[Builtin.len_,ht,F0 _ w hu];rfl, .d (.lit (by simp))⟩
 ·have hu:= ‹C.P.underlying t=some _›
  split at h
  ·rename_i nil sz xs hs
   simp at h;subst h
   have:=a8d hH hs hx
   rcases s6 this with ⟨rfl,rfl,rfl⟩|⟨rfl,a,cap,vs,rfl,_⟩
   ·exact ⟨_,by simp[Builtin.len_,ht,F0 _ w hu];rfl, .d (.lit (by simp))⟩
   ·exact ⟨_,by simp[Builtin.len_,ht,F0 _ w hu];rfl, .d (.lit (by simp))⟩
  ·simp at h
 ·have hu:= ‹C.P.underlying t=some _›
  simp at h;subst h
  exact ⟨_,by simp[Builtin.len_,ht,F0 _ w hu];rfl, .d (.lit (by simp))⟩
 ·simp at h
theorem a6k {x:V} {k:Nat} (h:idx x=some k):∃q,x= .d (.lit (.int q (k:Int))):=by
 unfold idx at h
 split at h
 ·rename_i q i
  split at h
  ·rename_i hi;simp at h;subst h;exact ⟨q,by rw[Int.toNat_of_nonneg hi]⟩
  ·simp at h
 ·simp at h
theorem c9o {t:TypeId} {off:Nat} {x y:V} {vx:Value} (h:b2d C t off x=some y) (hx:D9 w g H x vx) :
  ∃cs u,vx= .agg cs∧(part t cs off).run C.P w= .ok u w∧D9 w g H y u:=by
 cases x with
 | agg cs =>
  simp only[b2d] at h
  cases hx with
  | agg hx hf =>
   obtain ⟨u,hu,hr⟩:=a4f h (hx.drop off) (fun v hv=>hf v (List.mem_of_mem_drop hv))
   exact ⟨_,u,rfl,b3z hu w,hr⟩
 | d x =>
  cases x with
  | agg ds =>
   simp only[b2d] at h
   cases hd:m7 C t (ds.drop off) with
   | none=>simp[hd] at h
   | some z =>
    simp[hd] at h;subst h
    cases hx with
    | d hx =>
     cases hx with
     | agg hx hf =>
      obtain ⟨u,hu,hr⟩:=a5e hd (hx.drop off) (fun v hv=>hf v (List.mem_of_mem_drop hv))
      exact ⟨_,u,rfl,b3z hu w, .d hr⟩
  | _=>simp[b2d] at h
 | _=>simp[b2d] at h
theorem d6k {t:TypeId} {x i v:V} {vx vi:Value} (h:w4 C t x i=some v) (hx:D9 w g H x vx) (hi:D9 w g H i vi) :
  ∃u,(Instr.index t vx vi).run C.P w= .ok u w∧D9 w g H v u:=by
 unfold w4 F1 at h
 split at h
 ·rename_i s k hu hk
  obtain ⟨q,rfl⟩:=a6k hk
  cases hx.lit_inv;cases hi.lit_inv
  cases hb:s[k]? with
  | none=>simp[hb] at h
  | some b =>
   simp[hb] at h;subst h
   refine ⟨_, ?_, .d (.lit (by simp))⟩
   simp[Instr.index,asIntOf,F0 _ w hu,hb]
 ·rename_i n e k hu hk
  obtain ⟨q,rfl⟩:=a6k hk
  cases hi.lit_inv
  cases hz:K8 C e with
  | none=>simp[hz] at h
  | some z =>
   obtain ⟨ti,hti,rfl⟩:=G8 hz
   simp only[hz] at h
   by_cases hkn:k<n
   ·simp only[hkn,if_true] at h
    obtain ⟨cs,u,rfl,hp,hr⟩:=c9o h hx
    refine ⟨u, ?_,hr⟩
    simp[Instr.index,asIntOf,F0 _ w hu,L1 _ w hti,hkn,hp]
   ·simp[hkn] at h
 ·simp at h
theorem c2n (hH:K7 w g H) {t:TypeId} {x i v:V} {vx vi:Value} (h:J4 C H t x i=some v) (hx:D9 w g H x vx) (hi:D9 w g H i vi) :
  ∃u,(Instr.indexAt t vx vi).run C.P w= .ok u w∧D9 w g H v u:=by
 have hadd:∀(b o k:Nat),(⟨b,o,none⟩:Addr).add k=⟨b,o+k,none⟩:=fun b o k=>by unfold Addr.add;split<;>simp_all
 unfold J4 F1 at h
 split at h
 ·rename_i e k hu hk
  obtain ⟨q,rfl⟩:=a6k hk
  cases hi.lit_inv
  split at h
  ·rename_i nil sz xs z hs hz
   obtain ⟨ti,hti,rfl⟩:=G8 hz
   cases hy:xs[k]? with
   | none=>simp[hy] at h
   | some y =>
    simp only[hy] at h
    cases hsz:(sz==ti.size) with
    | false=>simp[hsz] at h
    | true =>
     simp only[hsz,cond_true,Option.some.injEq] at h
     subst h
     obtain rfl:sz=ti.size:=by simpa using hsz
     rcases s6 (a8d hH hs hx) with ⟨rfl,rfl,rfl⟩|⟨rfl,⟨b,o,sp⟩,cap,vs,rfl,hc,hd,hf,hh,hsz'⟩
     ·simp at hy
     ·have hk':k<xs.length:=(List.getElem?_eq_some_iff.1 hy).1
      have hh:=hh (by rintro rfl;simp at hk')
      obtain rfl:sp=none:=hh.1
      refine ⟨.pointer (some ⟨b,o+k*ti.size,none⟩), ?_, ?_⟩
      ·simp[Instr.indexAt,asIntOf,F0 _ w hu,L1 _ w hti,hk',hadd]
      ·have e1:(E9 xs).drop (k*ti.size)=y.cells++(E9 (xs.drop (k+1))):=by
        have:xs=xs.take k++y::xs.drop (k+1):=by
         rw[List.getElem?_eq_some_iff] at hy
         obtain ⟨_,rfl⟩:=hy
         simp
        have hlen:(E9 (xs.take k)).length=k*ti.size:=by
         rw[E8 (fun x hx=>hsz' x (List.mem_of_mem_take hx)),List.length_take,Nat.min_eq_left (Nat.le_of_lt hk')]
        have e2:E9 xs=E9 (xs.take k)++(y.cells++E9 (xs.drop (k+1))):=by
         rw[←show E9 (xs.take k++y::xs.drop (k+1))=E9 (xs.take k)++(y.cells++E9 (xs.drop (k+1))) by simp[E9], ←this]
        rw[e2, ←hlen,List.drop_left]
       have hr:=(hd.drop (k*ti.size)).take y.cells.length
       rw[e1,List.take_left] at hr
       exact .d (.elem hr (fun v hv=>hf v (List.mem_of_mem_drop (List.mem_of_mem_take hv))) ((hh.drop (k*ti.size)).take _))
  ·rename_i z hs hz
   obtain ⟨ti,hti,rfl⟩:=G8 hz
   split at h
   ·rename_i n
    cases hb:H n with
    | none=>simp[hb] at h
    | some b =>
     cases b with
     | arr live nil t' sz xs ys =>
      simp only[hb] at h
      cases hc:(sz==ti.size&&(Nat.ble xs.length k&&Nat.blt k (xs.length+ys.length))) with
      | false=>simp[Bool.and_assoc,hc] at h
      | true =>
       simp only[Bool.and_assoc,hc,cond_true,Option.some.injEq] at h
       subst h
       simp only[Bool.and_eq_true,beq_iff_eq] at hc
       obtain ⟨rfl,h1,h2⟩:=hc
       have h1:=Nat.le_of_ble_eq_true h1
       have h2:k<xs.length+ys.length:=Nat.le_of_ble_eq_true h2
       cases hx with
       | ref hk =>
        obtain ⟨vs,us,g1,g2,g3,g4,g5,g6,g7,g8⟩:=hH.box n _ hb
        have hlive:live=true:=by
         cases live with
         | true=>rfl
         | false=>have:=(g8 rfl).1;subst this;simp at h2;omega
        subst hlive
        rcases (g7 rfl).1.2 with ⟨hv,h0⟩|⟨b,cap,cur,hv,_⟩
        ·have:=g6 (g5.2 hv);rw[this.1,this.2] at h2;simp at h2
        ·rw[hv]
         have hk1:kd H n=some 1:=by simp[kd,hb,Box.kind]
         refine ⟨.pointer (some ⟨b,0+k*ti.size,none⟩), ?_, ?_⟩
         ·have:(k:Int)<(xs.length:Int)+(ys.length:Int):=by omega
          simp[Instr.indexAt,asIntOf,F0 _ w hu,L1 _ w hti,this,hadd]
          intro hh;omega
         ·have:=D9.hp (w:=w) (g:=g) (i:=k) (sz:=ti.size) hk1
          rw[hv] at this
          exact this
     | _=>simp[hb] at h
   ·simp at h
  ·simp at h
 ·rename_i n e k hu hk
  obtain ⟨q,rfl⟩:=a6k hk
  cases hi.lit_inv
  split at h
  ·rename_i m off z hz
   obtain ⟨ti,hti,rfl⟩:=G8 hz
   by_cases hkn:k<n
   ·simp[hkn] at h;subst h
    cases hx with
    | ptr hm =>
     obtain ⟨b,hv⟩:=b9s hH hm
     have:=D9.ptr (w:=w) (g:=g) (off:=off+k*ti.size) hm
     rw[hv] at this ⊢
     refine ⟨_, ?_,this⟩
     simp[Instr.indexAt,asIntOf,F0 _ w hu,L1 _ w hti,hkn,Instr.sureAddr,a2w,hadd,Nat.add_assoc]
   ·simp[hkn] at h
  ·rename_i cs z hz
   obtain ⟨ti,hti,rfl⟩:=G8 hz
   by_cases hkn:k<n
   ·simp[hkn] at h;subst h
    cases hx with
    | d hx =>
     cases hx with
     | elem h1 h2 h3 =>
      rename_i vs a
      obtain ⟨b,o,sp⟩:=a
      obtain rfl:sp=none:=h3.1
      refine ⟨.pointer (some ⟨b,o+k*ti.size,none⟩), ?_, .d (.elem (h1.drop _) (fun v hv=>h2 v (List.mem_of_mem_drop hv)) (h3.drop _))⟩
      simp[Instr.indexAt,asIntOf,F0 _ w hu,L1 _ w hti,hkn,Instr.sureAddr,hadd]
   ·simp[hkn] at h
  ·simp at h
 ·simp at h
theorem c4r {mx:Bool} {l:List V} {v:V} {vs:List Value} {at_:Array TypeId} {ty:TypeId} (h:a8p mx l=some v) (hx:E0 w g H l vs) :
  ∃u,(bif mx then Builtin.max_ at_ ty vs.toArray else Builtin.min_ at_ ty vs.toArray).run C.P w= .ok u w∧D9 w g H v u:=by
 unfold a8p at h
 split at h
 ·rename_i k a k' b
  cases hx with
  | cons h1 hx =>
   cases hx with
   | cons h2 hx =>
    cases hx
    cases h1.lit_inv;cases h2.lit_inv
    split at h
    ·simp at h;subst h
     refine ⟨_, ?_, .d (.lit (by simp))⟩
     cases mx<;>simp[Builtin.max_,Builtin.min_,Builtin.max2,Builtin.min2]
    ·simp at h
 ·simp at h
theorem d2n {d k:Nat} {x:Option V} (h:a3q d x=some k):(x=none∧k=d)∨∃q,x=some (.d (.lit (.int q (k:Int)))):=by
 unfold a3q at h
 split at h
 ·simp at h;exact .inl ⟨rfl,h.symm⟩
 ·obtain ⟨q,rfl⟩:=a6k h;exact .inr ⟨q,rfl⟩
theorem f2o {s:St} {a:Act} (R:Rel C g s a w) {x:Option Operand} {r:Option V} (h:a3v C s.F x=some r) :
  (x=none∧r=none)∨∃o v,x=some o∧r=some v∧D9 w g s.H v (a.eval o):=by
 unfold a3v at h
 split at h
 ·simp at h;exact .inl ⟨rfl,h.symm⟩
 ·rename_i o
  cases ho:F3 C s.F o with
  | none=>simp[ho] at h
  | some v=>simp[ho] at h;subst h;exact .inr ⟨o,v,rfl,rfl,F8 R ho⟩
theorem a4v {isS:Bool} {len cap l k:Nat} {lo hi:Option Value} (hlo:(lo=none∧l=0)∨∃q,lo=some (.int q (l:Int))) (hhi:(hi=none∧k=len)∨∃q,hi=some (.int q (k:Int)))
  (h1:l≤k) (h2:k≤cap):(Instr.sliceBounds isS len cap lo hi none).run C.P w= .ok (l,k,cap) w:=by
 rcases hlo with ⟨rfl,rfl⟩|⟨q,rfl⟩<;>rcases hhi with ⟨rfl,rfl⟩|⟨q',rfl⟩
 ·simp[Instr.sliceBounds]
 ·simp[Instr.sliceBounds,Instr.sliceBound,asIntOf,h2]
 ·simp[Instr.sliceBounds,Instr.sliceBound,asIntOf,h1]
 ·simp[Instr.sliceBounds,Instr.sliceBound,asIntOf,h1,h2]
theorem c2a {xs:List D} {sz k:Nat} (h:∀x∈xs,x.cells.length=sz):E9 (xs.take k)=(E9 xs).take (k*sz):=by
 have h0:E9 xs=E9 (xs.take k)++E9 (xs.drop k):=by
  unfold E9
  rw[←List.flatMap_append,List.take_append_drop]
 by_cases hk:k≤xs.length
 ·have hl:(E9 (xs.take k)).length=k*sz:=by
   rw[E8 (fun x hx=>h x (List.mem_of_mem_take hx)),List.length_take,Nat.min_eq_left hk]
  rw[h0, ←hl,List.take_left]
 ·have hk:xs.length≤k:=by omega
  rw[List.take_of_length_le hk,List.take_of_length_le]
  rw[E8 h];exact Nat.mul_le_mul_right _ hk
theorem c2b {xs:List D} {sz k:Nat} (h:∀x∈xs,x.cells.length=sz):E9 (xs.drop k)=(E9 xs).drop (k*sz):=by
 have h0:E9 xs=E9 (xs.take k)++E9 (xs.drop k):=by
  unfold E9
  rw[←List.flatMap_append,List.take_append_drop]
 by_cases hk:k≤xs.length
 ·have hl:(E9 (xs.take k)).length=k*sz:=by
   rw[E8 (fun x hx=>h x (List.mem_of_mem_take hx)),List.length_take,Nat.min_eq_left hk]
  rw[h0, ←hl,List.drop_left]
 ·have hk:xs.length≤k:=by omega
  rw[List.drop_of_length_le hk,List.drop_of_length_le]
  ·rfl
  ·rw[E8 h];exact Nat.mul_le_mul_right _ hk
theorem d6i (hH:K7 w g H) {t:TypeId} {x v:V} {vx:Value} {lo hi:Option V} {vlo vhi:Option Value} (h:W4 C H t x lo hi=some v) (hx:D9 w g H x vx)
  (hlo:(lo=none∧vlo=none)∨∃a b,lo=some a∧vlo=some b∧D9 w g H a b) (hhi:(hi=none∧vhi=none)∨∃a b,hi=some a∧vhi=some b∧D9 w g H a b) :
  ∃u,(Instr.sliceAt t vx vlo vhi none).run C.P w= .ok u w∧D9 w g H v u:=by
 have conv:∀{x:Option V} {vx:Option Value} {d k:Nat},((x=none∧vx=none)∨∃a b,x=some a∧vx=some b∧D9 w g H a b)→a3q d x=some k→(vx=none∧k=d)∨∃q,vx=some (.int q (k:Int)):=by
  intro x vx d k hx hk
  rcases hx with ⟨rfl,rfl⟩|⟨a,b,rfl,rfl,hr⟩
  ·rcases d2n hk with ⟨_,rfl⟩|⟨q,h⟩
   ·exact .inl ⟨rfl,rfl⟩
   ·cases h
  ·rcases d2n hk with ⟨h,_⟩|⟨q,h⟩
   ·cases h
   ·cases h;cases hr.lit_inv;exact .inr ⟨q,rfl⟩
 unfold W4 F1 at h
 split at h
 ·rename_i s hu
  cases hx.lit_inv
  split at h
  ·rename_i l k hl hk
   by_cases h1:l≤k
   ·by_cases h2:k≤s.size
    ·simp[h1,h2] at h;subst h
     refine ⟨_, ?_,b8w⟩
     simp[Instr.sliceAt,F0 _ w hu,Instr.slice,a4v (conv hlo hl) (conv hhi hk) h1 h2]
    ·simp[h1,h2] at h
   ·simp[h1] at h
  ·simp at h
 ·rename_i e hu _
  have hu:= ‹C.P.underlying t=some _›
  split at h
  ·rename_i nil sz xs z hs hz
   obtain ⟨ti,hti,rfl⟩:=G8 hz
   split at h
   ·rename_i l k hl hk
    by_cases h1:l≤k
    ·by_cases h2:k≤xs.length
     ·simp only[h1,h2,if_true] at h
      cases hc:(sz==ti.size||nil) with
      | false=>simp[hc] at h
      | true =>
       simp only[hc,cond_true,Option.some.injEq] at h
       subst h
       rcases s6 (a8d hH hs hx) with ⟨rfl,rfl,rfl⟩|⟨rfl,⟨b,o,sp⟩,cap,vs,rfl,hc',hd,hf,hh,hsz⟩
       ·simp at h2;subst h2;simp at h1;subst h1
        refine ⟨.slice none 0 0, ?_,by simpa using D9.d .nils⟩
        simp[Instr.sliceAt,F0 _ w hu,Instr.slice,a4v (len:=0) (cap:=0) (conv hlo hl) (conv hhi hk) (Nat.le_refl _) (Nat.le_refl _),L1 _ w hti]
       ·obtain rfl:sz=ti.size:=by simpa using hc
        by_cases hxe:xs= []
        ·subst hxe
         obtain rfl:k=0:=by simpa using h2
         obtain rfl:l=0:=by simpa using h1
         refine ⟨.slice (some ⟨b,o,sp⟩) 0 cap, ?_, .d (.slice (vs:=[]) .nil (by simp) (fun h=>absurd rfl h) (by simp) rfl (by omega))⟩
         simp[Instr.sliceAt,F0 _ w hu,Instr.slice,a4v (isS:=true) (len:=0) (cap:=cap) (conv hlo hl) (conv hhi hk) (Nat.le_refl _) (Nat.zero_le _),L1 _ w hti,Addr.add]
        have hh:=hh hxe
        obtain rfl:sp=none:=hh.1
        have hadd:∀(b o k:Nat),(⟨b,o,none⟩:Addr).add k=⟨b,o+k,none⟩:=fun b o k=>by unfold Addr.add;split<;>simp_all
        refine ⟨.slice (some (if cap=l then ⟨b,o,none⟩ else ⟨b,o+l*ti.size,none⟩)) (k-l) (cap-l), ?_, ?_⟩
        ·by_cases hcl:cap=l
         ·subst hcl
          simp[Instr.sliceAt,F0 _ w hu,Instr.slice,a4v (isS:=true) (len:=xs.length) (conv hlo hl) (conv hhi hk) h1 (Nat.le_trans h2 hc'),L1 _ w hti]
         ·simp[Instr.sliceAt,F0 _ w hu,Instr.slice,a4v (isS:=true) (len:=xs.length) (conv hlo hl) (conv hhi hk) h1 (Nat.le_trans h2 hc'),L1 _ w hti,hcl,hadd]
        ·have hsz':∀x∈(xs.take k).drop l,x.cells.length=ti.size:=fun x hx=>hsz x (List.mem_of_mem_take (List.mem_of_mem_drop hx))
         have hfl:E9 ((xs.take k).drop l)=((E9 xs).take (k*ti.size)).drop (l*ti.size):=by
          rw[c2b (fun x hx=>hsz x (List.mem_of_mem_take hx)),c2a hsz]
         refine .d (.slice (vs:=(vs.take (k*ti.size)).drop (l*ti.size)) (by rw[hfl];exact (hd.take _).drop _) (fun v hv=>hf v (List.mem_of_mem_take (List.mem_of_mem_drop hv))) (fun _=>?_) hsz' (by simp;omega) (by omega))
         by_cases hcl:cap=l
         ·subst hcl
          have:xs.length=cap:=by omega
          have hvl:vs.length=xs.length*ti.size:=by rw[←hd.length,E8 hsz]
          refine ⟨by simp,fun i v hv=>?_⟩
          have:=(List.getElem?_eq_some_iff.1 hv).1
          simp at this
          exfalso
          have h3:vs.length≤cap*ti.size:=by rw[hvl, ‹xs.length=cap›];exact Nat.le_refl _
          omega
         ·simp only[hcl,if_false]
          exact (hh.take _).drop _
     ·simp[h1,h2] at h
    ·simp[h1] at h
   ·simp at h
  ·simp at h
 ·simp at h
theorem c2d {lim:Nat→Nat} {k:Value} {u:TypeDesc} (hk:U4 u k=true):∀{es:List (D×D)} {ms:List MapEntry} {r:Option D} (i:Nat),b4i k es=some r→
  E5 w lim (es.map (·.1)) (ms.map (·.key))→E5 w lim (es.map (·.2)) (ms.map (·.val))→
  ∃q,Instr.findNow u k ms i=some q∧((r=none∧q=none)∨∃d j v,r=some d∧q=some (j,v)∧N7 w lim d v)
 | [],ms,r,i,h,h1,h2=>by
  simp[b4i] at h;subst h
  cases ms with
  | nil=>exact ⟨none,rfl, .inl ⟨rfl,rfl⟩⟩
  | cons m ms=>simp at h1;cases h1
 | (x,y)::es,ms,r,i,h,h1,h2=>by
  cases ms with
  | nil=>simp at h1;cases h1
  | cons m ms =>
   simp only[List.map_cons] at h1 h2
   cases h1 with
   | cons a1 t1 =>
    cases h2 with
    | cons a2 t2 =>
     simp only[b4i] at h
     cases hs:b3r k x with
     | none=>simp[hs] at h
     | some b =>
      have hn:Instr.sameNow u k m.key=some b:=by
       unfold b3r at hs
       split at hs
       ·split at hs
        ·rename_i hk';subst hk';have:=a1.lit_inv;rw[this]
         cases u<;>simp[U4] at hk
         simpa [Instr.sameNow] using hs
        ·simp at hs
       ·have:=a1.lit_inv;rw[this]
        cases u<;>simp[U4] at hk
        simpa [Instr.sameNow] using hs
       ·have:=a1.lit_inv;rw[this]
        cases u<;>simp[U4] at hk
        simpa [Instr.sameNow] using hs
       ·simp at hs
      cases b with
      | true=>simp[hs] at h;subst h;exact ⟨some (i,m.val),by simp[Instr.findNow,hn], .inr ⟨_,_,_,rfl,rfl,a2⟩⟩
      | false =>
       simp only[hs] at h
       obtain ⟨q,hq,hr⟩:=c2d hk (i+1) h t1 t2
       exact ⟨q,by simp[Instr.findNow,hn,hq],hr⟩
theorem c7s (hH:K7 w g H) {x:V} {es:List (D×D)} {v:Value} (h:a2p H x=some es) (hr:D9 w g H x v) :
  ∃r ms c,v= .map (some r)∧w.heap[r]?=some (.map ms c)∧E5 w g.lim (es.map (·.1)) (ms.toList.map (·.key))∧E5 w g.lim (es.map (·.2)) (ms.toList.map (·.val)):=by
 unfold a2p at h
 split at h
 ·simp at h;subst h
  cases hr with
  | d hr=>cases hr with|map a b c d e=>exact ⟨_,_,_,rfl,b,c,d⟩
 ·rename_i n
  split at h
  ·rename_i es' hb
   simp at h;subst h
   cases hr
   obtain ⟨r,ms,c,h1,h2,h3,h4,_⟩:=hH.box n _ hb
   exact ⟨r,ms,c,h1,h2,h3,h4⟩
  ·simp at h
 ·simp at h
theorem a7h {u:TypeDesc} {kt:TypeId} {k:Value} {e:Bool} (hu:C.P.underlying kt=some u) (hk:U4 u k=true):(Instr.checkKey e 10000 kt k).run C.P w= .ok () w:=by
 show (Instr.checkKey e (9999+1) kt k).run C.P w=_
 generalize 9999=n
 cases u<;>cases k<;>simp[U4] at hk<;>simp[Instr.checkKey,F0 _ w hu]
theorem d3b (hH:K7 w g H) {t:TypeId} {m k v:V} {ok:Bool} {vm vk:Value} (h:o0 C H t m k ok=some v) (hm:D9 w g H m vm) (hk:D9 w g H k vk) :
  ∃u,(Instr.lookup t vm vk ok).run C.P w= .ok u w∧D9 w g H v u:=by
 unfold o0 F1 at h
 split at h
 ·rename_i kt et kv es hu he
  obtain rfl:=hk.lit_inv
  split at h
  ·rename_i u r z hku hf hz
   cases hkf:U4 u vk with
   | false=>simp[hkf] at h
   | true =>
    simp only[hkf,cond_true] at h
    obtain ⟨q,ms,c,rfl,hw,h3,h4⟩:=c7s hH he hm
    obtain ⟨p,hp,hr⟩:=c2d hkf 0 hf h3 h4
    obtain ⟨ti,zv,hti,hzv,hfine,rfl⟩:=b7z hz
    have hg:(getObj q).run C.P w= .ok (.map ms c) w:=by simp[getObj,Sem.run,hw]
    rcases hr with ⟨rfl,rfl⟩|⟨d,j,vv,rfl,rfl,hd⟩
    ·simp at h
     have C4:(Instr.lookup t (.map (some q)) vk ok).run C.P w= .ok (if ok then .tuple #[zv, .bool false] else zv) w:=by
      simp[Instr.lookup,F0 _ w hu,hg,a7h hku hkf,Instr.findKey,F0 _ w hku,hp,b3t _ w hti hzv]
     refine ⟨_,C4, ?_⟩
     cases ok with
     | true=>simp at h;subst h;exact .d (.tup (.cons (a4n hfine) (.cons (.lit (by simp)) .nil)))
     | false=>simp at h;subst h;exact .d (a4n hfine)
    ·simp at h
     have C4:(Instr.lookup t (.map (some q)) vk ok).run C.P w= .ok (if ok then .tuple #[vv, .bool true] else vv) w:=by
      simp[Instr.lookup,F0 _ w hu,hg,a7h hku hkf,Instr.findKey,F0 _ w hku,hp]
     refine ⟨_,C4, ?_⟩
     cases ok with
     | true=>simp at h;subst h;exact .d (.tup (.cons hd (.cons (.lit (by simp)) .nil)))
     | false=>simp at h;subst h;exact .d hd
  ·simp at h
 ·simp at h
end
end Go.Ev
end
section
namespace Go.Ev
theorem b9z (off:Nat):∀(l:List Value) (k:Nat) (cs:Array Value),
  ((l.zipIdx k).foldl (fun (cs:Array Value) (p:Value×Nat)=>cs.setIfInBounds (off+p.2) p.1) cs).size=cs.size∧
  (off+k+l.length≤cs.size→((l.zipIdx k).foldl (fun (cs:Array Value) (p:Value×Nat)=>cs.setIfInBounds (off+p.2) p.1) cs).toList=cs.toList.take (off+k)++(l++cs.toList.drop (off+k+l.length)))
 | [],k,cs=>by simp
 | v::l,k,cs=>by
  obtain ⟨h1,h2⟩:=b9z off l (k+1) (cs.setIfInBounds (off+k) v)
  simp only[List.zipIdx_cons,List.foldl_cons]
  refine ⟨by rw[h1];simp,fun h=>?_⟩
  simp only[List.length_cons] at h
  rw[h2 (by simp;omega)]
  simp only[Array.toList_setIfInBounds]
  have e1:(cs.toList.set (off+k) v).take (off+(k+1))=cs.toList.take (off+k)++ [v]:=by
   apply List.ext_getElem?
   intro i
   simp only[List.getElem?_take,List.getElem?_append,List.getElem?_set,List.length_take,Array.length_toList]
   by_cases h3:i<off+k
   ·have h4:i<off+(k+1):=by omega
    have h5:off+k≠i:=by omega
    have h6:i<min (off+k) cs.size:=by omega
    simp[h3,h4,h5,h6]
   ·by_cases h4:i=off+k
    ·subst h4
     have h6:¬(off+k<min (off+k) cs.size):=by omega
     have h7:off+k<off+(k+1):=by omega
     have h8:off+k<cs.size:=by omega
     have h9:off+k-min (off+k) cs.size=0:=by omega
     simp[h6,h7,h8,h9]
    ·have h5:¬i<off+(k+1):=by omega
     have h6:¬(i<min (off+k) cs.size):=by omega
     have h7:i-min (off+k) cs.size≠0:=by omega
     simp[h5,h6]
     omega
  have e2:(cs.toList.set (off+k) v).drop (off+(k+1)+l.length)=cs.toList.drop (off+k+(l.length+1)):=by
   rw[List.drop_set_of_lt (by omega)]
   congr 1;omega
  rw[e1,e2]
  simp
theorem c4a {w:World} {g:G} {H:B4} {cs:List V} {vs:List V} {ca va:List Value} (off:Nat) (h1:E0 w g H cs ca) (h2:E0 w g H vs va) :
  E0 w g H (b4x cs off vs) (ca.take off++(va++ca.drop (off+va.length))):=by
 unfold b4x
 rw[h2.length]
 exact (h1.take off).append (h2.append (h1.drop _))
section
variable {C : Cx} {w : World} {g : G} {H : B4}
theorem b2q {s:St} {a:Act} (R:Rel C g s a w):∀{l:List (Nat×Operand)} {ps:List (Nat×V)},M9 C s.F l=some ps→
  ps.map (·.1)=l.map (·.1)∧E0 w g s.H (ps.map (·.2)) (l.map fun p=>a.eval p.2)
 | [],_,h=>by simp[M9] at h;subst h;exact ⟨rfl, .nil⟩
 | (i,x)::l,_,h=>by
  simp only[M9] at h
  cases hx:F3 C s.F x with
  | none=>simp[hx] at h
  | some v =>
   cases hl:M9 C s.F l with
   | none=>simp[hx,hl] at h
   | some us =>
    simp[hx,hl] at h;subst h
    obtain ⟨h1,h2⟩:=b2q R hl
    exact ⟨by simp[h1], .cons (F8 R hx) h2⟩
theorem c2e (hH:K7 w g H) {place:Nat→Option (Nat×Nat)}:∀{ps:List (Nat×V)} {vs:List (Nat×Value)} {cs out:List V} {ca:Array Value},b6t place cs ps=some out→
  E0 w g H cs ca.toList→(∀v∈ca.toList,K6 v)→ps.map (·.1)=vs.map (·.1)→E0 w g H (ps.map (·.2)) (vs.map (·.2))→
  ∃ra,Instr.fill place ca vs=some ra∧E0 w g H out ra.toList∧(∀v∈ra.toList,K6 v)
 | [],vs,cs,out,ca,h,h1,h2,h3,h4=>by
  simp[b6t] at h;subst h
  cases vs with
  | nil=>exact ⟨ca,rfl,h1,h2⟩
  | cons p vs=>simp at h3
 | (i,v)::ps,vs,cs,out,ca,h,h1,h2,h3,h4=>by
  cases vs with
  | nil=>simp at h3
  | cons p vs =>
   obtain ⟨j,u⟩:=p
   simp at h3
   obtain ⟨rfl,h3⟩:=h3
   simp only[List.map_cons] at h4
   cases h4 with
   | cons hv ht =>
    simp only[b6t] at h
    cases hp:place i with
    | none=>simp[hp] at h
    | some q =>
     obtain ⟨off,k⟩:=q
     simp only[hp] at h
     cases hc:(W5 v&&v.cells.length==k&&Nat.ble (off+k) cs.length) with
     | false=>simp[hc] at h
     | true =>
      simp only[hc,cond_true] at h
      simp only[Bool.and_eq_true,beq_iff_eq] at hc
      obtain ⟨⟨c1,rfl⟩,c3⟩:=hc
      have c3:=Nat.le_of_ble_eq_true c3
      obtain ⟨r1,r2⟩:=hv.cells hH c1
      have hl:v.cells.length=u.cells.size:=by rw[r1.length];simp
      have hcl:cs.length=ca.size:=by rw[h1.length];simp
      obtain ⟨s1,s2⟩:=b9z off u.cells.toList 0 ca
      have s2:=s2 (by simp;omega)
      simp only[Nat.add_zero] at s2
      have hsp:=c4a off h1 r1
      rw[←s2] at hsp
      obtain ⟨ra,e1,e2,e3⟩:=c2e hH (vs:=vs) h hsp (by
       rw[s2];intro z hz
       simp only[List.mem_append] at hz
       rcases hz with hz|hz|hz
       ·exact h2 z (List.mem_of_mem_take hz)
       ·exact r2 z hz
       ·exact h2 z (List.mem_of_mem_drop hz)) h3 ht
      refine ⟨ra, ?_,e2,e3⟩
      have h5:(decide (u.cells.size≠v.cells.length)||decide (off+u.cells.size>ca.size))=false:=by
       rw[decide_eq_false (by omega),decide_eq_false (by omega)];rfl
      simp only[Instr.fill,hp]
      rw[←e1]
      simp only[←Array.foldl_toList,Array.toList_zipIdx]
      rw[if_neg (by rw[h5];simp)]
theorem b6h:∀{fs:List Field} {ps:List (Nat×Nat)},a4k C fs=some ps→fs.mapM (fun f=>(C.P.info? f.type).map fun i=>(f.offset,i.size))=some ps
 | [],_,h=>by simp[a4k] at h;subst h;simp
 | f::fs,_,h=>by
  simp only[a4k] at h
  cases hk:K8 C f.type with
  | none=>simp[hk] at h
  | some k =>
   cases hl:a4k C fs with
   | none=>simp[hk,hl] at h
   | some l =>
    simp[hk,hl] at h;subst h
    obtain ⟨ti,hti,rfl⟩:=G8 hk
    simp[List.mapM_cons,hti,b6h hl]
theorem p9 {t:TypeId} {z:D} (h:a6c C t=some z) (hc:J0 z=true):∃i v,C.P.info? t=some i∧i.zero=some v∧E5 w g.lim z.cells v.cells.toList∧∀u∈v.cells.toList,K6 u:=by
 obtain ⟨i,v,h1,h2,h3,rfl⟩:=b7z h
 exact ⟨i,v,h1,h2,(a4n h3).cells hc⟩
theorem d6q (hH:K7 w g H) {t:TypeId} {ps:List (Nat×V)} {vs:Array (Nat×Value)} {v:V} (h:a9u C t ps=some v) (h3:ps.map (·.1)=vs.toList.map (·.1))
  (h4:E0 w g H (ps.map (·.2)) (vs.toList.map (·.2))):∃u,(Instr.build t vs).run C.P w= .ok u w∧D9 w g H v u:=by
 unfold a9u F1 at h
 split at h
 ·rename_i fs z hu hz
  cases hcz:J0 z with
  | false=>simp[hcz] at h
  | true =>
   obtain ⟨ti,zv,hti,hzv,hr,hfl⟩:=p9 (w:=w) (g:=g) hz hcz
   cases hp:a4k C fs.toList with
   | none=>simp[hp,hcz] at h
   | some places =>
    simp only[hp,hcz,cond_true] at h
    cases hf:b6t (fun i=>places[i]?) (z.cells.map .d) ps with
    | none=>simp[hf] at h
    | some cs =>
     simp[hf] at h;subst h
     obtain ⟨ra,e1,e2,e3⟩:=c2e hH hf (.of_ds hr) hfl h3 h4
     refine ⟨.agg ra,run_build w t vs ra ?_,b9j e2 e3⟩
     simp[Program.built,hti,hu,hzv,b6h hp,e1]
 ·rename_i n e z hu hz
  cases hcz:J0 z with
  | false=>simp[hcz] at h
  | true =>
   obtain ⟨ti,zv,hti,hzv,hr,hfl⟩:=p9 (w:=w) (g:=g) hz hcz
   cases hk:K8 C e with
   | none=>simp[hk,hcz] at h
   | some k =>
    obtain ⟨te,hte,rfl⟩:=G8 hk
    simp only[hk,hcz,cond_true] at h
    cases hf:b6t (fun i=>some (i*te.size,te.size)) (z.cells.map .d) ps with
    | none=>simp[hf] at h
    | some cs =>
     simp[hf] at h;subst h
     obtain ⟨ra,e1,e2,e3⟩:=c2e hH hf (.of_ds hr) hfl h3 h4
     refine ⟨.agg ra,run_build w t vs ra ?_,b9j e2 e3⟩
     simp[Program.built,hti,hu,hzv,hte,e1]
 ·simp at h
end
end Go.Ev
end
section
namespace Go.Ev
def z8 (H:B4) (g:G) (H':B4) (g':G):Prop:=∀m k,kd H (0::m)=some k→kd H' (0::m)=some k∧g'.val (0::m)=g.val (0::m)
theorem z8.of_names {H H':B4} {g g':G} (h:J9 H g H' g'):z8 H g H' g':=fun m k hk=>h _ k hk
theorem z8.refl (H:B4) (g:G):z8 H g H g:=fun _ _ h=>⟨h,rfl⟩
theorem z8.trans {H H' H'':B4} {g g' g'':G} (h:z8 H g H' g') (k:z8 H' g' H'' g''):z8 H g H'' g'' :=
 fun n i hi=>let ⟨a,b⟩:=h n i hi;let ⟨c,d⟩:=k n i a;⟨c,d.trans b⟩
def Y8 (C:Cx) (g:G) (H:B4) (w:World) (s':St) (a':Act) (w':World):Prop:=∃g',Rel C g' s' a' w'∧j7 w g w' g'∧z8 H g s'.H g'
section
variable {C : Cx} {w w' : World} {g g' : G} {H H' : B4} {s s' : St} {a : Act}
def Box.owns:Box→Bool
 | .arr false _ _ _ _ _=>false
 | .junk=>false
 | _=>true
theorem f5.mono {n:B2} {b:Box} (hb:H n=some b) (h:f5 w g H n b) (hg:Q9 w g.lim w' g'.lim) (hn:J9 H g H' g')
  (ho:b.owns=true→∀k,g.owner k=some n→w'.heap[k]?=w.heap[k]?∧g'.owner k=some n∧g'.lim k=g.lim k):f5 w' g' H' n b:=by
 have hv:g'.val n=g.val n:=(hn n b.kind (by simp[kd,hb])).2
 cases b with
 | cells t cs =>
  obtain ⟨b,c,h1,h2,h3,h4,h5,h6⟩:=h
  obtain ⟨k1,k2,k3⟩:=ho rfl b h6
  exact ⟨b,c,hv.trans h1,k1.trans h2,h3.mono hg hn,h4,k3.trans h5,k2⟩
 | arr live nil t sz xs ys =>
  obtain ⟨vs,us,h1,h2,h3,h4,h5,h6,h7,h8⟩:=h
  refine ⟨vs,us,h1.mono hg,h2.mono hg,h3,h4,by rw[hv];exact h5,h6,fun hl=>?_,fun hl=>?_⟩
  ·obtain ⟨k1,k2⟩:=h7 hl
   rw[hv]
   refine ⟨⟨k1.1, ?_⟩,fun b hb=>?_⟩
   ·rcases k1.2 with hnil|⟨q,cap,cur,hq,h0,hh,rest⟩
    ·exact .inl hnil
    ·refine .inr ⟨q,cap,cur,hq,h0, ?_,rest⟩
     rw[(ho (by rw[hl];rfl) q (k2 q (by rw[hq];rfl)).1).1];exact hh
   ·obtain ⟨j1,j2⟩:=k2 b hb
    obtain ⟨i1,i2,i3⟩:=ho (by rw[hl];rfl) b j1
    exact ⟨i2,i3.trans j2⟩
  ·obtain ⟨k1,k2⟩:=h8 hl
   refine ⟨k1, ?_⟩
   rcases k2 with k2|⟨q,cap,hq,hc,hh⟩
   ·exact .inl k2
   ·exact .inr ⟨q,cap,hv.trans hq,hc,hh.mono hg⟩
 | map es =>
  obtain ⟨r,ms,c,h1,h2,h3,h4,h5,h6,h7⟩:=h
  obtain ⟨k1,k2,k3⟩:=ho rfl r h6
  exact ⟨r,ms,c,hv.trans h1,k1.trans h2,h3.mono hg,h4.mono hg,k3.trans h5,k2,h7⟩
 | junk =>
  show K6 (g'.val n)
  rw[hv];exact h
 | bools t k =>
  obtain ⟨b,c,h1,h2,h3,h4,h5,h6⟩:=h
  obtain ⟨k1,k2,k3⟩:=ho rfl b h6
  exact ⟨b,c,hv.trans h1,k1.trans h2,h3,h4,k3.trans h5,k2⟩
 | blob t k lo hi =>
  obtain ⟨b,c,h1,h2,h3,h4,h5,h6⟩:=h
  obtain ⟨k1,k2,k3⟩:=ho rfl b h6
  exact ⟨b,c,hv.trans h1,k1.trans h2,h3,h4,k3.trans h5,k2⟩
theorem K7.upd {n0:B2} (hH:K7 w g H) (hg:Q9 w g.lim w' g'.lim) (hn:J9 H g H' g')
  (ho:∀n k,n≠n0→(∀b,H n=some b→b.owns=true)→g.owner k=some n→w'.heap[k]?=w.heap[k]?∧g'.owner k=some n∧g'.lim k=g.lim k)
  (he:∀n,n≠n0→H' n=H n) (h0:∀b,H' n0=some b→f5 w' g' H' n0 b) (hf:∀b,w'.heap.size≤b→g'.lim b=0∧g'.owner b=none):K7 w' g' H':=by
 refine ⟨fun n b hb=>?_,hf⟩
 by_cases hnn:n=n0
 ·subst hnn;exact h0 b hb
 ·rw[he n hnn] at hb
  exact (hH.box n b hb).mono hb hg hn (fun hw k hk=>ho n k hnn (fun b' hb'=>by rw[hb] at hb';cases hb';exact hw) hk)
structure Ext (w w':World):Prop where
 os:w'.os=w.os
 tape:w'.tape=w.tape
 output:w'.output=w.output
 size:w.heap.size≤w'.heap.size
 block:∀b,b<w.heap.size→w'.heap[b]?=w.heap[b]?
theorem Ext.refl (w:World):Ext w w:=⟨rfl,rfl,rfl,Nat.le_refl _,fun _ _=>rfl⟩
theorem Ext.alloc (w:World) (o:Obj):Ext w (w.alloc o):=⟨rfl,rfl,rfl,by simp,fun b hb=>by rw[heap_alloc_old w o hb]⟩
theorem Ext.drew (w:World) (o:Obj):Ext w (w.drew.alloc o):=⟨rfl,rfl,rfl,by simp,fun b hb=>by rw[heap_alloc_old w.drew o hb];rfl⟩
theorem Ext.cell (h:Ext w w') {b o:Nat} (hb:b<w.heap.size):w'.cell? ⟨b,o,none⟩=w.cell? ⟨b,o,none⟩:=by simp[World.cell?,h.block b hb]
theorem Ext.grow (h:Ext w w') (hf:∀b,w.heap.size≤b→g.lim b=0∧g.owner b=none) (hl:∀b,g.lim b≤g'.lim b):Q9 w g.lim w' g'.lim:=by
 have lt:∀b,0<g.lim b→b<w.heap.size:=fun b hb=>by
  rcases Nat.lt_or_ge b w.heap.size with h1|h1
  ·exact h1
  ·have:=(hf b h1).1;omega
 exact ⟨hl,fun b o ho=>h.cell (lt b (by omega)),fun b ms c hb hw=>by rw[h.block b (lt b hb)];exact hw,fun b c t m hb hw=>⟨c,m,by rw[h.block b (lt b hb)];exact hw,rfl⟩⟩
theorem Ext.step (h:Ext w w') (hf:∀b,w.heap.size≤b→g.lim b=0∧g.owner b=none) (hl:∀b,b<w.heap.size→g'.lim b=g.lim b∧g'.owner b=g.owner b):j7 w g w' g' :=
 ⟨h.os,h.tape,h.output,h.size,fun b hb ho=>⟨h.block b hb,(hl b hb).1,(hl b hb).2.trans ho⟩,h.grow hf fun b=>by
  rcases Nat.lt_or_ge b w.heap.size with h1|h1
  ·exact Nat.le_of_eq (hl b h1).1.symm
  ·rw[(hf b h1).1];exact Nat.zero_le _⟩
def G.add (g:G) (n:B2) (v:Value) (b l:Nat) (o:Option B2):G :=
 ⟨fun m=>if m=n then v else g.val m,fun k=>if k=b then l else g.lim k,fun k=>if k=b then o else g.owner k⟩
theorem F2 (H:B4) (n:B2) (b:Box):H.set n b n=some b:=by simp[B4.set]
theorem D3 (H:B4) {n m:B2} (b:Box) (h:m≠n):H.set n b m=H m:=by
 have:(m==n)=false:=by simpa using h
 simp[B4.set,this]
theorem X8 {dst:Option Nat} {v:V} {x:Value} (R:Rel C g s a w) (h:s.put dst v=some s') (hv:D9 w g s.H v x):Rel C g s' (a.put dst x) w∧s'.H=s.H:=by
 cases dst with
 | none=>simp[St.put] at h;subst h;exact ⟨R,rfl⟩
 | some d =>
  simp only[St.put] at h
  cases hd:Nat.blt d s.N with
  | false=>simp[hd] at h
  | true =>
   simp[hd] at h;subst h
   have hd:d<s.N:=Nat.le_of_ble_eq_true hd
   refine ⟨⟨by simp[Act.put,R.size],fun t=>?_,R.heap,R.globs,R.defers⟩,rfl⟩
   by_cases ht:t=d
   ·subst ht
    have:t<a.tmps.size:=by rw[R.size];exact hd
    simp[Act.put,this,upd];exact hv
   ·have hb:(t==d)=false:=by simpa using ht
    simp only[upd,hb,cond_false,Act.put]
    have:(a.tmps.setIfInBounds d x).getD t undef=a.tmps.getD t undef:=by
     simp[Array.getD_eq_getD_getElem?,Array.getElem?_setIfInBounds,Ne.symm ht]
    rw[this];exact R.slots t
theorem e6d {v:V} {d:Option Nat} (h:s.put d v=some s'):s'.N=s.N:=by
 cases d with
 | none=>simp[St.put] at h;subst h;rfl
 | some d =>
  simp only[St.put] at h
  cases hd:Nat.blt d s.N with
  | false=>simp[hd] at h
  | true=>simp[hd] at h;subst h;rfl
theorem Rel.later (R:Rel C g s a w) (hg:Q9 w g.lim w' g'.lim) (hn:J9 s.H g H' g') (hH:K7 w' g' H'):Rel C g' (s.with H') a w' :=
 ⟨R.size,fun t=>(R.slots t).mono hg hn,hH,R.globs.mono hg,R.defers⟩
theorem S1 {dst:Option Nat} {v:V} {x:Value} (R:Rel C g s a w) (h:s.put dst v=some s') (hv:D9 w g s.H v x):Y8 C g s.H w s' (a.put dst x) w :=
 let ⟨r,e⟩:=X8 R h hv
 ⟨g,r, .refl _ _,by rw[e];exact .refl _ _⟩
theorem P5 {dst:Option Nat} {r:Option V} {x:Value} (R:Rel C g s a w) (h:asV r s dst=some s') (hv:∀v,r=some v→D9 w g s.H v x):Y8 C g s.H w s' (a.put dst x) w:=by
 unfold asV at h
 cases r with
 | none=>simp at h
 | some v=>exact S1 R h (hv v rfl)
theorem a9j {dst : Option Nat} {b : Box} {vf : B2 → V} {x val : Value} {l : Nat} {own : Bool} (R : Rel C g s a w) (h : s.make dst b vf = some s') (hE : Ext w w') (hs : w.heap.size < w'.heap.size)
  (hb : ∀ n, s.H n = none → let g' := g.add n val w.heap.size l (if own then some n else none)
   J9 s.H g (s.H.set n b) g' → Q9 w g.lim w' g'.lim → f5 w' g' (s.H.set n b) n b ∧ D9 w' g' (s.H.set n b) (vf n) x) : Y8 C g s.H w s' (a.put dst x) w' := by
 cases dst with
 | none => simp [St.make] at h
 | some d =>
  simp only [St.make] at h
  cases hn0 : s.H [d + 2] with
  | some b' => simp [hn0] at h
  | none =>
   simp only [hn0] at h
   have hb := hb [d + 2] hn0
   simp only at hb
   have hnm : J9 s.H g (s.H.set [d + 2] b) (g.add [d + 2] val w.heap.size l (if own then some [d + 2] else none)) := by
    intro n k hk
    have hne : n ≠ [d + 2] := fun e => by subst e; simp [kd, hn0] at hk
    simp only [kd, D3 _ _ hne, G.add, hne, if_false]
    exact ⟨hk, trivial⟩
   have hf := R.heap.fresh
   have hgr : Q9 w g.lim w' (g.add [d + 2] val w.heap.size l (if own then some [d + 2] else none)).lim := hE.grow hf fun k => by
    by_cases hk : k = w.heap.size
    ·subst hk; rw [(hf _ (Nat.le_refl _)).1]; exact Nat.zero_le _
    ·simp [G.add, hk]
   obtain ⟨hb, hx⟩ := hb hnm hgr
   have hH' : K7 w' (g.add [d + 2] val w.heap.size l (if own then some [d + 2] else none)) (s.H.set [d + 2] b) := by
    refine R.heap.upd (n0 := [d + 2]) hgr hnm (fun n k hne _ hk => ?_) (fun n hne => D3 _ _ hne) (fun b' hb' => ?_) (fun k hk => ?_)
    ·have hlt : k < w.heap.size := by
      rcases Nat.lt_or_ge k w.heap.size with h1 | h1
      ·exact h1
      ·rw [(hf k h1).2] at hk; cases hk
     have hne' : k ≠ w.heap.size := by omega
     exact ⟨hE.block k hlt, by simp [G.add, hne', hk], by simp [G.add, hne']⟩
    ·rw [F2] at hb'; cases hb'; exact hb
    ·have hne : k ≠ w.heap.size := by omega
     have := hf k (by omega)
     simp [G.add, hne, this]
   obtain ⟨r, e⟩ := X8 (R.later hgr hnm hH') h hx
   refine ⟨_, r, hE.step hf fun k hk => ?_, ?_⟩
   ·have hne : k ≠ w.heap.size := by omega
    simp [G.add, hne]
   ·rw [e]; exact .of_names hnm
theorem M7 (w:World) (o:Obj):w.heap.size<(w.alloc o).heap.size:=by simp
theorem b9o {dst:Option Nat} {t:TypeId} {cs:List V} {c:Array Value} (R:Rel C g s a w) (h:s.make dst (.cells t cs) (.ptr · 0)=some s')
  (hc:E0 w g s.H cs c.toList) (hf:∀v∈c.toList,K6 v):Y8 C g s.H w s' (a.put dst (.pointer (some ⟨w.heap.size,0,none⟩))) (w.alloc (.cells c t)):=by
 refine a9j (own:=true) (l:=0) (val:=.pointer (some ⟨w.heap.size,0,none⟩)) R h (.alloc _ _) (M7 _ _) fun n hn=>?_
 intro g' hnm hgr
 refine ⟨⟨w.heap.size,c,by simp[g',G.add],heap_alloc_new w _,hc.mono hgr hnm,hf,by simp[g',G.add],by simp[g',G.add]⟩, ?_⟩
 have:D9 (w.alloc (.cells c t)) g' (s.H.set n (.cells t cs)) (.ptr n 0) (a2w (g'.val n) 0):=.ptr (by simp[kd,F2,Box.kind])
 simpa [g',G.add,a2w] using this
theorem b7j {lo hi:Nat}:∀{l:List V} {off i:Nat} {x:V},a7r lo hi off l=true→l[i]?=some x→lo≤off+i→off+i<hi→o7 x=true
 | [],off,i,x,_,h,_,_=>by simp at h
 | c::r,off,0,x,h,hx,h1,h2=>by
  simp at hx;subst hx
  simp only[a7r,Bool.and_eq_true] at h
  have e:(Nat.ble lo off&&Nat.blt off hi)=true:=by
   simp only[Bool.and_eq_true,Nat.ble_eq,Nat.blt_eq];omega
  rw[e] at h
  exact h.1
 | c::r,off,i+1,x,h,hx,h1,h2=>by
  simp only[a7r,Bool.and_eq_true] at h
  exact b7j h.2 (by simpa using hx) (by omega) (by omega)
theorem b5w {g:G} {H:B4} {x:V} {v:Value} (h:o7 x=true) (hx:D9 w g H x v):∃b,v= .bool b:=by
 unfold o7 at h
 split at h
 ·exact ⟨_,hx.lit_inv'⟩
 ·cases hx with|d hx=>cases hx;exact ⟨_,rfl⟩
 ·cases h
theorem E0.at {g:G} {H:B4}:∀{xs:List V} {vs:List Value} {i:Nat} {v:Value},E0 w g H xs vs→vs[i]?=some v→∃x,xs[i]?=some x∧D9 w g H x v
 | _,_,_,_, .nil,h=>by simp at h
 | _,_,0,_, .cons h t,k=>by simp at k;subst k;exact ⟨_,rfl,h⟩
 | _,_,i+1,_, .cons h t,k=>by simpa using E0.at t (by simpa using k)
theorem e3n {dst:Option Nat} {t:TypeId} {cs:List V} {c:Array Value} {k lo hi:Nat} (R:Rel C g s a w) (h:s.make dst (.blob t k lo hi) (.ptr · 0)=some s')
  (hc:E0 w g s.H cs c.toList) (hf:∀v∈c.toList,K6 v) (hk:cs.length=k) (hb:a7r lo hi 0 cs=true) (hh:hi≤k):Y8 C g s.H w s' (a.put dst (.pointer (some ⟨w.heap.size,0,none⟩))) (w.alloc (.cells c t)):=by
 refine a9j (own:=true) (l:=0) (val:=.pointer (some ⟨w.heap.size,0,none⟩)) R h (.alloc _ _) (M7 _ _) fun n hn=>?_
 intro g' hnm hgr
 have hl:=hc.length
 simp at hl
 refine ⟨⟨w.heap.size,c,by simp[g',G.add],heap_alloc_new w _,by omega,⟨hf,fun i h1 h2=>?_⟩,by simp[g',G.add],by simp[g',G.add]⟩, ?_⟩
 ·have hlt:i<c.toList.length:=by simp;omega
  obtain ⟨x,hx,hr⟩:=E0.at hc (List.getElem?_eq_getElem hlt)
  obtain ⟨b,hb⟩:=b5w (b7j hb hx (by omega) (by omega)) hr
  exact ⟨b,by rw[List.getElem?_eq_getElem hlt,hb]⟩
 ·have:D9 (w.alloc (.cells c t)) g' (s.H.set n (.blob t k lo hi)) (.ptr n 0) (a2w (g'.val n) 0):=.ptr (by simp[kd,F2,Box.kind])
  simpa [g',G.add,a2w] using this
theorem c9v {dst:Option Nat} (R:Rel C g s a w) (h:s.make dst (.map []) .ref=some s') :
  Y8 C g s.H w s' (a.put dst (.map (some w.heap.size))) (w.alloc (.map #[] 0)):=by
 refine a9j (own:=true) (l:=0) (val:=.map (some w.heap.size)) R h (.alloc _ _) (M7 _ _) fun n hn=>?_
 intro g' hnm hgr
 refine ⟨⟨w.heap.size, #[],0,by simp[g',G.add],heap_alloc_new w _, .nil, .nil,by simp[g',G.add],by simp[g',G.add],⟨fun e he=>by simp at he,by simp⟩⟩, ?_⟩
 have:D9 (w.alloc (.map #[] 0)) g' (s.H.set n (.map [])) (.ref n) (g'.val n):=.ref (k:=1) (by simp[kd,F2,Box.kind])
 simpa [g',G.add] using this
theorem a8r {dst:Option Nat} {o:Obj} {e:TypeId} {sz:Nat} {xs ys:List D} {vs us:List Value} {c:Array Value} {cap:Nat} (R:Rel C g s a w) (h:s.make dst (.arr true false e sz xs ys) .ref=some s')
  (hE:Ext w w') (hs:w.heap.size<w'.heap.size) (hw:w'.heap[w.heap.size]?=some (.cells c e (0,0)))
  (h1:E5 w g.lim (E9 xs) vs) (h2:E5 w g.lim (E9 ys) us) (hf:∀v∈vs++us,K6 v) (hsz:∀x∈xs++ys,x.cells.length=sz)
  (hn:xs.length+ys.length≤cap) (hm:cap≤maxLen) (hcs:c.size=cap*sz) (ht:c.toList.take ((xs.length+ys.length)*sz)=vs++us) :
  Y8 C g s.H w s' (a.put dst (.slice (some ⟨w.heap.size,0,none⟩) (xs.length+ys.length) cap)) w':=by
 refine a9j (own:=true) (l:=xs.length*sz) (val:=.slice (some ⟨w.heap.size,0,none⟩) (xs.length+ys.length) cap) R h hE hs fun n hn0=>?_
 intro g' hnm hgr
 have hl:(vs++us).length=(xs.length+ys.length)*sz:=by
  rw[List.length_append, ←h1.length, ←h2.length,E8 (fun x hx=>hsz x (by simp[hx])),E8 (fun x hx=>hsz x (by simp[hx])),Nat.add_mul]
 refine ⟨⟨vs,us,h1.mono hgr,h2.mono hgr,hf,hsz,by simp[g',G.add],by simp,fun _=>⟨⟨hl, .inr ⟨w.heap.size,cap,c,by simp[g',G.add],Nat.zero_le _,hw,hn,hm,hcs,ht⟩⟩,fun b hb=>?_⟩,by simp⟩, ?_⟩
 ·simp[g',G.add,Value.ownBlock] at hb;subst hb;simp[g',G.add]
 ·have:D9 w' g' (s.H.set n (.arr true false e sz xs ys)) (.ref n) (g'.val n):=.ref (k:=0) (by simp[kd,F2,Box.kind])
  simpa [g',G.add] using this
end
end Go.Ev
end
section
namespace Go.Ev
theorem W9 {v:Value} (h:K6 v):v.oneCell'=true:=by
 cases v with
 | agg a=>exact absurd rfl (h.1 a)
 | tuple a=>exact absurd rfl (h.2 a)
 | _=>rfl
section
variable {C : Cx} {w w' : World} {g g' : G} {H H' : B4} {s s' : St} {a : Act}
def G.fix (g:G) (b l:Nat):G:=⟨g.val,fun k=>if k=b then l else g.lim k,g.owner⟩
theorem f4m (l:Nat) (R:Rel C g s a w) (hE:Ext w w') (hs:w.heap.size<w'.heap.size) :
  Rel C (g.fix w.heap.size l) s a w'∧j7 w g w' (g.fix w.heap.size l)∧J9 s.H g s.H (g.fix w.heap.size l)∧Q9 w g.lim w' (g.fix w.heap.size l).lim:=by
 have hf:=R.heap.fresh
 have hgr:Q9 w g.lim w' (g.fix w.heap.size l).lim:=hE.grow hf fun k=>by
  by_cases hk:k=w.heap.size
  ·subst hk;rw[(hf _ (Nat.le_refl _)).1];exact Nat.zero_le _
  ·simp[G.fix,hk]
 have hnm:J9 s.H g s.H (g.fix w.heap.size l):=fun n k hk=>⟨hk,rfl⟩
 have hH:K7 w' (g.fix w.heap.size l) s.H:=by
  refine ⟨fun n b hb=>(R.heap.box n b hb).mono hb hgr hnm fun _ k hk=>?_,fun k hk=>?_⟩
  ·have hlt:k<w.heap.size:=by
    rcases Nat.lt_or_ge k w.heap.size with h1|h1
    ·exact h1
    ·rw[(hf k h1).2] at hk;cases hk
   have hne':k≠w.heap.size:=by omega
   exact ⟨hE.block k hlt,by simp[G.fix,hk],by simp[G.fix,hne']⟩
  ·have hne:k≠w.heap.size:=by omega
   have:=hf k (by omega)
   simp[G.fix,hne,this]
 refine ⟨R.later hgr hnm hH,hE.step hf fun k hk=>?_,hnm,hgr⟩
 have hne:k≠w.heap.size:=by omega
 simp[G.fix,hne]
theorem d2s {dst:Option Nat} {v:V} {x:Value} (l:Nat) (R:Rel C g s a w) (hE:Ext w w') (hs:w.heap.size<w'.heap.size) (h:s.put dst v=some s')
  (hv:Q9 w g.lim w' (g.fix w.heap.size l).lim→D9 w' (g.fix w.heap.size l) s.H v x):Y8 C g s.H w s' (a.put dst x) w':=by
 obtain ⟨r,st,hn,hg⟩:=f4m l R hE hs
 obtain ⟨r2,e⟩:=X8 r h (hv hg)
 exact ⟨_,r2,st,by rw[e];exact .of_names hn⟩
theorem c9e {b:Nat} {c c':Array Value} {t:TypeId} {lim':Nat→Nat} (hw:w.heap[b]?=some (.cells c t (0,0))) (hl:∀k,g.lim k≤lim' k) (hc:∀o,o<g.lim b→c'[o]?=c[o]?) (hcs:c'.size=c.size) :
  Q9 w g.lim (w.setRow b c') lim':=by
 refine ⟨hl,fun k o ho=>?_,fun k ms cl hk hm=>?_,fun k c2 t2 m2 hk hm=>?_⟩
 ·by_cases hkb:k=b
  ·subst hkb
   rw[U1 (setRow_heap w k c c' t (0,0) hw),U1 hw];exact hc o ho
  ·simp only[World.cell?];rw[setRow_other w b k c' hkb]
 ·by_cases hkb:k=b
  ·subst hkb;rw[hw] at hm;cases hm
  ·rw[setRow_other w b k c' hkb];exact hm
 ·by_cases hkb:k=b
  ·subst hkb
   rw[hw] at hm;cases hm
   exact ⟨c',_,setRow_heap w k c c' t (0,0) hw,hcs⟩
  ·exact ⟨c2,_,by rw[setRow_other w b k c' hkb];exact hm,rfl⟩
theorem b3v {n:B2} {b:Nat} {c c':Array Value} {t:TypeId} {bx:Box} {l:Nat} (R:Rel C g s a w) (hw:w.heap[b]?=some (.cells c t (0,0))) (ho:g.owner b=some n) (hk:kd s.H n=some bx.kind)
  (hl:g.lim b≤l) (hc:∀o,o<g.lim b→c'[o]?=c[o]?) (hcs:c'.size=c.size)
  (hb:Q9 w g.lim (w.setRow b c') (g.fix b l).lim→J9 s.H g (s.H.set n bx) (g.fix b l)→f5 (w.setRow b c') (g.fix b l) (s.H.set n bx) n bx) :
  Rel C (g.fix b l) (s.with (s.H.set n bx)) a (w.setRow b c')∧j7 w g (w.setRow b c') (g.fix b l)∧J9 s.H g (s.H.set n bx) (g.fix b l):=by
 have hlim:∀k,g.lim k≤(g.fix b l).lim k:=fun k=>by
  by_cases hk:k=b
  ·subst hk;simpa [G.fix] using hl
  ·simp[G.fix,hk]
 have hgr:=c9e (g:=g) (lim':=(g.fix b l).lim) hw hlim hc hcs
 have hnm:J9 s.H g (s.H.set n bx) (g.fix b l):=fun m k hm=>by
  refine ⟨?_,rfl⟩
  by_cases hmn:m=n
  ·subst hmn;rw[hk] at hm;cases hm;simp[kd,F2]
  ·simpa [kd,D3 _ _ hmn] using hm
 have hlt:b<w.heap.size:=(Array.getElem?_eq_some_iff.1 hw).1
 have hH:K7 (w.setRow b c') (g.fix b l) (s.H.set n bx):=by
  refine R.heap.upd (n0:=n) hgr hnm (fun m k hne _ hm=>?_) (fun m hne=>D3 _ _ hne) (fun b' hb'=>?_) (fun k hk=>?_)
  ·have hkb:k≠b:=fun e=>by subst e;rw[ho] at hm;cases hm;exact hne rfl
   exact ⟨setRow_other w b k c' hkb,by simp[G.fix,hm],by simp[G.fix,hkb]⟩
  ·rw[F2] at hb';cases hb';exact hb hgr hnm
  ·simp at hk
   have hkb:k≠b:=by omega
   have:=R.heap.fresh k hk
   simp[G.fix,hkb,this]
 refine ⟨R.later hgr hnm hH,⟨rfl,rfl,rfl,by simp,fun k hk hn=>?_,hgr⟩,hnm⟩
 have hkb:k≠b:=fun e=>by subst e;rw[ho] at hn;cases hn
 exact ⟨setRow_other w b k c' hkb,by simp[G.fix,hkb],by simp[G.fix,hn]⟩
theorem d8j {l vs:List Value} {off o:Nat} (h:o<off):(l.take off++(vs++l.drop (off+vs.length)))[o]?=if o<l.length then l[o]? else (vs++l.drop (off+vs.length))[o-l.length]?:=by
 rw[List.getElem?_append]
 by_cases hl:o<l.length
 ·have h3:o<min off l.length:=by omega
  rw[if_pos (by simpa using h3),if_pos hl,List.getElem?_take,if_pos h]
 ·have:¬o<min off l.length:=by omega
  have h2:min off l.length=l.length:=by omega
  simp[hl,h2]
theorem c5b {ys:List D} {x:D} {sz j:Nat} (h:∀y∈ys,y.cells.length=sz) (hj:j<ys.length) :
  E9 (ys.set j x)=(E9 ys).take (j*sz)++(x.cells++(E9 ys).drop (j*sz+sz)):=by
 have e:ys.set j x=ys.take j++x::ys.drop (j+1):=List.set_eq_take_append_cons_drop .. |>.trans (by simp[hj])
 rw[e]
 have:E9 (ys.take j++x::ys.drop (j+1))=E9 (ys.take j)++(x.cells++E9 (ys.drop (j+1))):=by simp[E9]
 rw[this,c2a h,c2b h,Nat.add_mul,Nat.one_mul]
theorem c8u {l m:List Value} {off lo hi:Nat} (hl:∀i:Nat,lo≤i→i<hi→∃x:Bool,l[i]?=some (.bool x)) (hm:∀(i:Nat) (x:Value),m[i]?=some x→lo≤off+i→off+i<hi→∃b:Bool,x= .bool b) (hlen:off+m.length≤l.length) :
  ∀i:Nat,lo≤i→i<hi→∃x:Bool,(l.take off++m++l.drop (off+m.length))[i]?=some (.bool x):=fun i h1 h2=>by
 by_cases c1:i<off
 ·rw[List.append_assoc,List.getElem?_append_left (by simp;omega),List.getElem?_take_of_lt c1]
  exact hl i h1 h2
 ·by_cases c2:i<off+m.length
  ·have e:min off l.length=off:=by omega
   rw[List.append_assoc,List.getElem?_append_right (by simp;omega),List.length_take,e,List.getElem?_append_left (by omega)]
   have hlt:i-off<m.length:=by omega
   obtain ⟨b,hb⟩:=hm (i-off) _ (List.getElem?_eq_getElem hlt) (by omega) (by omega)
   exact ⟨b,by rw[List.getElem?_eq_getElem hlt,hb]⟩
  ·have e:(l.take off++m).length=off+m.length:=by simp;omega
   rw[List.getElem?_append_right (by omega),e,List.getElem?_drop,show off+m.length+(i-(off+m.length))=i by omega]
   exact hl i h1 h2
theorem b8g {t:TypeId} {x v:V} {vx vv:Value} (R:Rel C g s a w) (h:Q3 C s.H t x v=some H') (hx:D9 w g s.H x vx) (hv:D9 w g s.H v vv) :
  ∃w',(Instr.storeAt t vx vv).run C.P w= .ok () w'∧∃g',Rel C g' (s.with H') a w'∧j7 w g w' g'∧J9 s.H g H' g':=by
 unfold Q3 at h
 split at h
 ·rename_i n off
  split at h
  ·rename_i u cs k hb hk
   obtain ⟨ti,hti,rfl⟩:=G8 hk
   cases hc:(W5 v&&v.cells.length==ti.size&&Nat.ble (off+ti.size) cs.length) with
   | false=>simp[hc] at h
   | true =>
    simp only[hc,cond_true,Option.some.injEq] at h
    subst h
    simp only[Bool.and_eq_true,beq_iff_eq] at hc
    obtain ⟨⟨c1,c2⟩,c3⟩:=hc
    have c3:=Nat.le_of_ble_eq_true c3
    obtain ⟨r1,r2⟩:=hv.cells R.heap c1
    obtain ⟨b,c,hval,hw,hcs,hfl,hlim,how⟩:=R.heap.box n _ hb
    have hvl:vv.cells.size=ti.size:=by rw[←c2,r1.length];simp
    have hcl:cs.length=c.size:=by rw[hcs.length];simp
    cases hx with
    | ptr hkd =>
     have hrun:=run_storeCells_at (P:=C.P) b off u vv.cells.toList 0 c w hw (by simp;omega) (fun z hz=>W9 (r2 z hz))
     simp only[Nat.add_zero] at hrun
     refine ⟨w.setRow b (c.toList.take off++vv.cells.toList++c.toList.drop (off+vv.cells.toList.length)).toArray, ?_, ?_⟩
     ·simp only[hval,a2w,Instr.storeAt,Instr.sureAddr,storeVar,Sem.run_bind,Sem.run_pure,Result.andThen_ok,L1 _ w hti,hvl,ne_eq,not_true_eq_false,if_false,Nat.zero_add]
      exact hrun
     ·have hpost:=b3v (C:=C) (s:=s) (a:=a) (c':=(c.toList.take off++vv.cells.toList++c.toList.drop (off+vv.cells.toList.length)).toArray) (bx:=.cells u (b4x cs off v.cells)) (l:=g.lim b)
       R hw how (by simp[kd,hb,Box.kind]) (Nat.le_refl _) (fun o ho=>by omega) (by have:=hvl;simp only[List.size_toArray,List.length_append,List.length_take,List.length_drop,Array.length_toList];omega) (fun hgr hnm=>by
        refine ⟨b,_,by simpa [G.fix] using hval,setRow_heap w b c _ u (0,0) hw, ?_, ?_,by simpa [G.fix] using hlim,by simpa [G.fix] using how⟩
        ·have:=(c4a off hcs r1).mono hgr hnm
         simpa [List.append_assoc] using this
        ·intro z hz
         simp at hz
         rcases hz with hz|hz|hz
         ·exact hfl z (List.mem_of_mem_take hz)
         ·exact r2 z (by simpa using hz)
         ·exact hfl z (List.mem_of_mem_drop hz))
      exact ⟨_,hpost⟩
  ·rename_i u kk k hb hk
   obtain ⟨ti,hti,rfl⟩:=G8 hk
   cases hc:(o7 v&&ti.size==1&&Nat.blt off kk) with
   | false=>simp[hc] at h
   | true =>
    simp only[hc,cond_true,Option.some.injEq] at h
    subst h
    simp only[Bool.and_eq_true,beq_iff_eq] at hc
    obtain ⟨⟨c1,c2⟩,c3⟩:=hc
    have c3:off<kk:=Nat.le_of_ble_eq_true c3
    have hvb:∃x,vv= .bool x:=by
     unfold o7 at c1
     split at c1
     ·exact ⟨_,hv.lit_inv'⟩
     ·cases hv with|d hv=>cases hv;exact ⟨_,rfl⟩
     ·cases c1
    obtain ⟨x0,rfl⟩:=hvb
    obtain ⟨b,c,hval,hw,hsz,hbl,hlim,how⟩:=R.heap.box n _ hb
    cases hx with
    | ptr hkd =>
     have hcells:(Value.bool x0).cells.toList= [.bool x0]:=rfl
     have hcs:(Value.bool x0).cells.size=1:=rfl
     have hrun:=run_storeCells_at (P:=C.P) b off u (Value.bool x0).cells.toList 0 c w hw (by rw[hcells];simp;omega) (fun z hz=>by rw[hcells] at hz;simp at hz;subst hz;exact W9 ⟨by simp,by simp⟩)
     simp only[Nat.add_zero] at hrun
     refine ⟨w.setRow b (c.toList.take off++(Value.bool x0).cells.toList++c.toList.drop (off+(Value.bool x0).cells.toList.length)).toArray, ?_, ?_⟩
     ·simp only[hval,a2w,Instr.storeAt,Instr.sureAddr,storeVar,Sem.run_bind,Sem.run_pure,Result.andThen_ok,L1 _ w hti,hcs,c2,ne_eq,not_true_eq_false,if_false,Nat.zero_add]
      exact hrun
     ·have hpost:=b3v (C:=C) (s:=s) (a:=a) (c':=(c.toList.take off++(Value.bool x0).cells.toList++c.toList.drop (off+(Value.bool x0).cells.toList.length)).toArray) (bx:=.bools u kk) (l:=g.lim b)
       R hw how (by simp[kd,hb,Box.kind]) (Nat.le_refl _) (fun o ho=>by omega) (by rw[hcells];simp only[List.size_toArray,List.length_append,List.length_take,List.length_drop,Array.length_toList,List.length_cons,List.length_nil];omega) (fun hgr hnm=>by
        refine ⟨b,_,by simpa [G.fix] using hval,setRow_heap w b c _ u (0,0) hw, ?_, ?_,by simpa [G.fix] using hlim,by simpa [G.fix] using how⟩
        ·rw[hcells];simp;omega
        ·intro z hz
         rw[hcells] at hz
         simp at hz
         rcases hz with hz|hz|hz
         ·exact hbl z (List.mem_of_mem_take hz)
         ·exact ⟨_,hz⟩
         ·exact hbl z (List.mem_of_mem_drop hz))
      exact ⟨_,hpost⟩
  ·rename_i u kk lo hi k hb hk
   obtain ⟨ti,hti,rfl⟩:=G8 hk
   cases hc:(W5 v&&v.cells.length==ti.size&&Nat.ble (off+ti.size) kk&&a7r lo hi off v.cells) with
   | false=>simp[hc] at h
   | true =>
    simp only[hc,cond_true,Option.some.injEq] at h
    subst h
    simp only[Bool.and_eq_true,beq_iff_eq] at hc
    obtain ⟨⟨⟨c1,c2⟩,c3⟩,c4⟩:=hc
    have c3:=Nat.le_of_ble_eq_true c3
    obtain ⟨r1,r2⟩:=hv.cells R.heap c1
    obtain ⟨b,c,hval,hw,hsz,⟨hfl,hbl⟩,hlim,how⟩:=R.heap.box n _ hb
    have hvl:vv.cells.size=ti.size:=by rw[←c2,r1.length];simp
    cases hx with
    | ptr hkd =>
     have hrun:=run_storeCells_at (P:=C.P) b off u vv.cells.toList 0 c w hw (by simp;omega) (fun z hz=>W9 (r2 z hz))
     simp only[Nat.add_zero] at hrun
     refine ⟨w.setRow b (c.toList.take off++vv.cells.toList++c.toList.drop (off+vv.cells.toList.length)).toArray, ?_, ?_⟩
     ·simp only[hval,a2w,Instr.storeAt,Instr.sureAddr,storeVar,Sem.run_bind,Sem.run_pure,Result.andThen_ok,L1 _ w hti,hvl,ne_eq,not_true_eq_false,if_false,Nat.zero_add]
      exact hrun
     ·have hpost:=b3v (C:=C) (s:=s) (a:=a) (c':=(c.toList.take off++vv.cells.toList++c.toList.drop (off+vv.cells.toList.length)).toArray) (bx:=.blob u kk lo hi) (l:=g.lim b)
       R hw how (by simp[kd,hb,Box.kind]) (Nat.le_refl _) (fun o ho=>by omega) (by have:=hvl;simp only[List.size_toArray,List.length_append,List.length_take,List.length_drop,Array.length_toList];omega) (fun hgr hnm=>by
        refine ⟨b,_,by simpa [G.fix] using hval,setRow_heap w b c _ u (0,0) hw, ?_,⟨?_, ?_⟩,by simpa [G.fix] using hlim,by simpa [G.fix] using how⟩
        ·have:=hvl;simp only[List.size_toArray,List.length_append,List.length_take,List.length_drop,Array.length_toList];omega
        ·intro z hz
         simp at hz
         rcases hz with hz|hz|hz
         ·exact hfl z (List.mem_of_mem_take hz)
         ·exact r2 z (by simpa using hz)
         ·exact hfl z (List.mem_of_mem_drop hz)
        ·have:=c8u (l:=c.toList) (m:=vv.cells.toList) (off:=off) hbl (fun i x hx h1 h2=>by
          obtain ⟨y,hy,hr⟩:=E0.at r1 hx
          exact b5w (b7j c4 hy h1 h2) hr) (by have:=hvl;simp only[Array.length_toList];omega)
         simpa using this)
      exact ⟨_,hpost⟩
  ·simp at h
 ·rename_i n i z
  split at h
  ·rename_i live nil u sz xs ys k x hb hk hx'
   obtain ⟨ti,hti,rfl⟩:=G8 hk
   cases hc:(J0 x&&ti.size==sz&&z==sz&&x.cells.length==sz&&Nat.ble xs.length i&&Nat.blt i (xs.length+ys.length)) with
   | false=>simp[hc] at h
   | true =>
    simp only[hc,cond_true,Option.some.injEq] at h
    subst h
    simp only[Bool.and_eq_true,beq_iff_eq] at hc
    obtain ⟨⟨⟨⟨⟨c1,rfl⟩,rfl⟩,c4⟩,c5⟩,c6⟩:=hc
    have c5:=Nat.le_of_ble_eq_true c5
    have c6:i<xs.length+ys.length:=Nat.le_of_ble_eq_true c6
    have hxr:=b4u R.heap hx' hv
    obtain ⟨r1,r2⟩:=hxr.cells c1
    obtain ⟨vs,us,g1,g2,g3,g4,g5,g6,g7,g8⟩:=R.heap.box n _ hb
    have hlive:live=true:=by
     cases live with
     | true=>rfl
     | false=>have:=(g8 rfl).1;subst this;simp at c6;omega
    subst hlive
    obtain ⟨g7a,g7b⟩:=g7 rfl
    have hvl:vv.cells.size=ti.size:=by rw[←c4,r1.length];simp
    rcases g7a.2 with ⟨hnil,_⟩|⟨b,cap,cur,hval,_,hw,hn,hm,hcs,ht⟩
    ·have:=g6 (g5.2 hnil);rw[this.1,this.2] at c6;simp at c6
    ·obtain ⟨how,hlim⟩:=g7b b (by rw[hval];rfl)
     have hlx:(E9 xs).length=xs.length*ti.size:=E8 fun y hy=>g4 y (by simp[hy])
     have hly:(E9 ys).length=ys.length*ti.size:=E8 fun y hy=>g4 y (by simp[hy])
     have hvs:vs.length=xs.length*ti.size:=by rw[←g1.length,hlx]
     have hus:us.length=ys.length*ti.size:=by rw[←g2.length,hly]
     have hfit:i*ti.size+ti.size≤cur.size:=by
      rw[hcs, ←Nat.succ_mul];exact Nat.mul_le_mul_right _ (by omega)
     have hrun:=run_storeCells_at (P:=C.P) b (i*ti.size) u vv.cells.toList 0 cur w hw (by simp;omega) (fun z hz=>W9 (r2 z hz))
     simp only[Nat.add_zero] at hrun
     have hik:xs.length*ti.size≤i*ti.size:=Nat.mul_le_mul_right _ c5
     obtain ⟨j,rfl⟩:∃j,i=xs.length+j:=⟨i-xs.length,by omega⟩
     have hj:j<ys.length:=by omega
     cases hx with
     | hp hkd =>
      refine ⟨w.setRow b (cur.toList.take ((xs.length+j)*ti.size)++vv.cells.toList++cur.toList.drop ((xs.length+j)*ti.size+vv.cells.toList.length)).toArray, ?_, ?_⟩
      ·simp only[hval,c7t,Instr.storeAt,Instr.sureAddr,storeVar,Sem.run_bind,Sem.run_pure,Result.andThen_ok,L1 _ w hti,hvl,ne_eq,not_true_eq_false,if_false,Nat.zero_add]
       exact hrun
      ·have hpost:=b3v (C:=C) (s:=s) (a:=a) (c':=(cur.toList.take ((xs.length+j)*ti.size)++vv.cells.toList++cur.toList.drop ((xs.length+j)*ti.size+vv.cells.toList.length)).toArray)
        (bx:=.arr true nil u ti.size xs (ys.set (xs.length+j-xs.length) x)) (l:=g.lim b)
        R hw how (by simp[kd,hb,Box.kind]) (Nat.le_refl _) (fun o ho=>by
         rw[hlim] at ho
         have ho':o<(xs.length+j)*ti.size:=by omega
         have:o<cur.toList.length:=by simp;omega
         simp only[List.append_assoc,List.getElem?_toArray]
         rw[d8j ho',if_pos this];simp) (by
         have hvv:vv.cells.toList.length=ti.size:=by simpa using hvl
         simp only[List.size_toArray,List.length_append,List.length_take,List.length_drop,Array.length_toList];omega) (fun hgr hnm=>by
         have ej:xs.length+j-xs.length=j:=by omega
         rw[ej]
         have hvv:vv.cells.toList.length=ti.size:=by simpa using hvl
         have hjs:j*ti.size+ti.size≤us.length:=by rw[hus, ←Nat.succ_mul];exact Nat.mul_le_mul_right _ hj
         have hN:(xs.length+ys.length)*ti.size=(vs++us).length:=by rw[List.length_append,hvs,hus,Nat.add_mul]
         obtain ⟨rest,hrest⟩:∃rest,cur.toList=vs++(us++rest):=⟨cur.toList.drop ((xs.length+ys.length)*ti.size),by
          rw[←List.append_assoc, ←ht,List.take_append_drop]⟩
         have ec:cur.toList.take ((xs.length+j)*ti.size)++vv.cells.toList++cur.toList.drop ((xs.length+j)*ti.size+vv.cells.toList.length) =
           vs++((us.take (j*ti.size)++(vv.cells.toList++us.drop (j*ti.size+ti.size)))++rest):=by
          have e1:(xs.length+j)*ti.size=vs.length+j*ti.size:=by rw[hvs,Nat.add_mul]
          rw[hrest,e1,hvv,List.take_append,List.take_of_length_le (by omega),List.drop_append,List.drop_of_length_le (by omega)]
          have e2:vs.length+j*ti.size-vs.length=j*ti.size:=by omega
          have e3:vs.length+j*ti.size+ti.size-vs.length=j*ti.size+ti.size:=by omega
          rw[e2,e3,List.take_append_of_le_length (by omega),List.drop_append_of_le_length (by omega)]
          simp[List.append_assoc]
         have hu':(us.take (j*ti.size)++(vv.cells.toList++us.drop (j*ti.size+ti.size))).length=us.length:=by
          simp only[List.length_append,List.length_take,List.length_drop,hvv];omega
         refine ⟨vs,us.take (j*ti.size)++(vv.cells.toList++us.drop (j*ti.size+ti.size)),g1.mono hgr, ?_, ?_, ?_,by simpa [G.fix] using g5,by simp_all,fun _=>⟨⟨?_, .inr ⟨b,cap,_,by simpa [G.fix] using hval,Nat.zero_le _,setRow_heap w b cur _ u (0,0) hw,by simpa using hn,hm, ?_, ?_⟩⟩, ?_⟩,by simp⟩
         ·rw[c5b (fun y hy=>g4 y (by simp[hy])) hj]
          exact ((g2.take _).append (r1.append (g2.drop _))).mono hgr
         ·intro z hz
          simp only[List.mem_append] at hz
          rcases hz with hz|hz|hz|hz
          ·exact g3 z (by simp[hz])
          ·exact g3 z (by simp[List.mem_of_mem_take hz])
          ·exact r2 z (by simpa using hz)
          ·exact g3 z (by simp[List.mem_of_mem_drop hz])
         ·intro y hy
          simp only[List.mem_append] at hy
          rcases hy with hy|hy
          ·exact g4 y (by simp[hy])
          ·rcases List.mem_or_eq_of_mem_set hy with hy|hy
           ·exact g4 y (by simp[hy])
           ·rw[hy];exact c4
         ·rw[List.length_append,hu',List.length_set,hN,List.length_append]
         ·rw[ec]
          have:cur.size=vs.length+(us.length+rest.length):=by
           rw[←Array.length_toList,hrest];simp
          simp only[List.size_toArray,List.length_append (as:=vs),List.length_append (bs:=rest),hu']
          omega
         ·rw[ec,List.length_set,hN,List.length_append, ←List.append_assoc]
          have:vs.length+us.length=(vs++(us.take (j*ti.size)++(vv.cells.toList++us.drop (j*ti.size+ti.size)))).length:=by rw[List.length_append,hu']
          rw[this]
          simp only[List.toList_toArray]
          exact List.take_left
         ·intro q hq
          have:(g.fix b (g.lim b)).val n=g.val n:=rfl
          rw[this] at hq
          obtain ⟨k1,k2⟩:=g7b q hq
          refine ⟨k1, ?_⟩
          by_cases hqb:q=b
          ·subst hqb;simpa [G.fix] using k2
          ·simpa [G.fix,hqb] using k2)
       exact ⟨_,hpost⟩
  ·simp at h
 ·simp at h
end
end Go.Ev
end
