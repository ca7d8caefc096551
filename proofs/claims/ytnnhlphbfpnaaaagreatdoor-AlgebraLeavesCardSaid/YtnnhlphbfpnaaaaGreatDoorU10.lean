/- What the proofs of the lexer's laws share, part 10 of 14. -/
import Derived.Test.YtnnhlphbfpnaaaaGreatDoorU9
import Derived.Test.YtnnhlphbfpnaaaaGreatDoorU6
import Derived.Test.YtnnhlphbfpnaaaaGreatDoorU5
import Derived.Test.YtnnhlphbfpnaaaaGreatDoorU4
set_option linter.unusedVariables false
set_option linter.unusedSimpArgs false
section
namespace Go.Ev.R2
open Go Go.Ev Go.Proofs
set_option maxRecDepth 100000
theorem w98 (y:D) (p:V→Prop):(B7 (Cn f6v) f6v D4 0 C5 B1 98 [V.d (eV y)] B4.empty fun v H=>p (B5 H v)) =
 (bif bif A1 (A0 y 0)==6 then true else A1 (A0 y 0)==12 then
 (bif A1 (A0 y 0)==7 then
 p
 (V.d
 (D.agg
 [oD (bif
 bif
 bif
 bif
 bif bif A1 (A0 y 0)==2 then true else A1 (A0 y 0)==3 then true
 else A1 (A0 y 0)==5 then
 true
 else A1 (A0 y 0)==8 then
 true
 else A1 (A0 y 0)==10 then
 true
 else A1 (A0 y 0)==11 then
 true
 else A1 (A0 y 0)==12),
 oD (bif bif A1 (A0 y 0)==3 then true else A1 (A0 y 0)==8 then true
 else A1 (A0 y 0)==12),
 oD (bif A1 (A0 y 0)==4 then true else A1 (A0 y 0)==9),
 oD (bif
 bif
 bif
 bif
 bif
 bif bif A1 (A0 y 0)==2 then true else A1 (A0 y 0)==3 then true
 else A1 (A0 y 0)==5 then
 true
 else A1 (A0 y 0)==8 then
 true
 else A1 (A0 y 0)==10 then
 true
 else A1 (A0 y 0)==11 then
 true
 else A1 (A0 y 0)==12 then
 true
 else bif A1 (A0 y 0)==4 then true else A1 (A0 y 0)==9),
 oD (bif
 bif A1 (A0 y 0)==1 then true
 else bif A1 (A0 y 0)==2 then decide (A1 (A0 y 1)≥10) else false then
 true
 else
 bif A1 (A0 y 0)==6 then
 bif bif A1 (A0 y 1)==6 then true else A1 (A0 y 1)==7 then true
 else A1 (A0 y 1)==9
 else false),
 oD (bif
 bif
 bif bif A1 (A0 y 0)==3 then true else A1 (A0 y 0)==5 then true
 else A1 (A0 y 0)==6 then
 true
 else A1 (A0 y 0)==7 then
 true
 else A1 (A0 y 0)==4),
 oD (bif
 bif bif A1 (A0 y 0)==3 then true else A1 (A0 y 0)==5 then true
 else A1 (A0 y 0)==6 then
 true
 else A1 (A0 y 0)==7),
 oD (A1 (A0 y 0)==7),
 oD (bif
 bif
 bif bif A1 (A0 y 0)==3 then A1 (A0 y 1)==3 else false then true
 else A1 (A0 y 0)==5 then
 true
 else bif A1 (A0 y 0)==6 then A1 (A0 y 1)==8 else false then
 true
 else A1 (A0 y 0)==13),
 iD 2])) else
 p
 (V.d
 (D.agg
 [oD (bif
 bif
 bif
 bif
 bif bif A1 (A0 y 0)==2 then true else A1 (A0 y 0)==3 then true
 else A1 (A0 y 0)==5 then
 true
 else A1 (A0 y 0)==8 then
 true
 else A1 (A0 y 0)==10 then
 true
 else A1 (A0 y 0)==11 then
 true
 else A1 (A0 y 0)==12),
 oD (bif bif A1 (A0 y 0)==3 then true else A1 (A0 y 0)==8 then true
 else A1 (A0 y 0)==12),
 oD (bif A1 (A0 y 0)==4 then true else A1 (A0 y 0)==9),
 oD (bif
 bif
 bif
 bif
 bif
 bif bif A1 (A0 y 0)==2 then true else A1 (A0 y 0)==3 then true
 else A1 (A0 y 0)==5 then
 true
 else A1 (A0 y 0)==8 then
 true
 else A1 (A0 y 0)==10 then
 true
 else A1 (A0 y 0)==11 then
 true
 else A1 (A0 y 0)==12 then
 true
 else bif A1 (A0 y 0)==4 then true else A1 (A0 y 0)==9),
 oD (bif
 bif A1 (A0 y 0)==1 then true
 else bif A1 (A0 y 0)==2 then decide (A1 (A0 y 1)≥10) else false then
 true
 else
 bif A1 (A0 y 0)==6 then
 bif bif A1 (A0 y 1)==6 then true else A1 (A0 y 1)==7 then true
 else A1 (A0 y 1)==9
 else false),
 oD (bif
 bif
 bif bif A1 (A0 y 0)==3 then true else A1 (A0 y 0)==5 then true
 else A1 (A0 y 0)==6 then
 true
 else A1 (A0 y 0)==7 then
 true
 else A1 (A0 y 0)==4),
 oD (bif
 bif bif A1 (A0 y 0)==3 then true else A1 (A0 y 0)==5 then true
 else A1 (A0 y 0)==6 then
 true
 else A1 (A0 y 0)==7),
 oD (A1 (A0 y 0)==7),
 oD (bif
 bif
 bif bif A1 (A0 y 0)==3 then A1 (A0 y 1)==3 else false then true
 else A1 (A0 y 0)==5 then
 true
 else bif A1 (A0 y 0)==6 then A1 (A0 y 1)==8 else false then
 true
 else A1 (A0 y 0)==13),
 iD 1]))) else
 (bif A1 (A0 y 0)==7 then
 p
 (V.d
 (D.agg
 [oD (bif
 bif
 bif
 bif
 bif bif A1 (A0 y 0)==2 then true else A1 (A0 y 0)==3 then true
 else A1 (A0 y 0)==5 then
 true
 else A1 (A0 y 0)==8 then
 true
 else A1 (A0 y 0)==10 then
 true
 else A1 (A0 y 0)==11 then
 true
 else A1 (A0 y 0)==12),
 oD (bif bif A1 (A0 y 0)==3 then true else A1 (A0 y 0)==8 then true
 else A1 (A0 y 0)==12),
 oD (bif A1 (A0 y 0)==4 then true else A1 (A0 y 0)==9),
 oD (bif
 bif
 bif
 bif
 bif
 bif bif A1 (A0 y 0)==2 then true else A1 (A0 y 0)==3 then true
 else A1 (A0 y 0)==5 then
 true
 else A1 (A0 y 0)==8 then
 true
 else A1 (A0 y 0)==10 then
 true
 else A1 (A0 y 0)==11 then
 true
 else A1 (A0 y 0)==12 then
 true
 else bif A1 (A0 y 0)==4 then true else A1 (A0 y 0)==9),
 oD (bif
 bif A1 (A0 y 0)==1 then true
 else bif A1 (A0 y 0)==2 then decide (A1 (A0 y 1)≥10) else false then
 true
 else
 bif A1 (A0 y 0)==6 then
 bif bif A1 (A0 y 1)==6 then true else A1 (A0 y 1)==7 then true
 else A1 (A0 y 1)==9
 else false),
 oD (bif
 bif
 bif bif A1 (A0 y 0)==3 then true else A1 (A0 y 0)==5 then true
 else A1 (A0 y 0)==6 then
 true
 else A1 (A0 y 0)==7 then
 true
 else A1 (A0 y 0)==4),
 oD (bif
 bif bif A1 (A0 y 0)==3 then true else A1 (A0 y 0)==5 then true
 else A1 (A0 y 0)==6 then
 true
 else A1 (A0 y 0)==7),
 oD (A1 (A0 y 0)==7),
 oD (bif
 bif
 bif bif A1 (A0 y 0)==3 then A1 (A0 y 1)==3 else false then true
 else A1 (A0 y 0)==5 then
 true
 else bif A1 (A0 y 0)==6 then A1 (A0 y 1)==8 else false then
 true
 else A1 (A0 y 0)==13),
 iD 2])) else
 p
 (V.d
 (D.agg
 [oD (bif
 bif
 bif
 bif
 bif bif A1 (A0 y 0)==2 then true else A1 (A0 y 0)==3 then true
 else A1 (A0 y 0)==5 then
 true
 else A1 (A0 y 0)==8 then
 true
 else A1 (A0 y 0)==10 then
 true
 else A1 (A0 y 0)==11 then
 true
 else A1 (A0 y 0)==12),
 oD (bif bif A1 (A0 y 0)==3 then true else A1 (A0 y 0)==8 then true
 else A1 (A0 y 0)==12),
 oD (bif A1 (A0 y 0)==4 then true else A1 (A0 y 0)==9),
 oD (bif
 bif
 bif
 bif
 bif
 bif bif A1 (A0 y 0)==2 then true else A1 (A0 y 0)==3 then true
 else A1 (A0 y 0)==5 then
 true
 else A1 (A0 y 0)==8 then
 true
 else A1 (A0 y 0)==10 then
 true
 else A1 (A0 y 0)==11 then
 true
 else A1 (A0 y 0)==12 then
 true
 else bif A1 (A0 y 0)==4 then true else A1 (A0 y 0)==9),
 oD (bif
 bif A1 (A0 y 0)==1 then true
 else bif A1 (A0 y 0)==2 then decide (A1 (A0 y 1)≥10) else false then
 true
 else
 bif A1 (A0 y 0)==6 then
 bif bif A1 (A0 y 1)==6 then true else A1 (A0 y 1)==7 then true
 else A1 (A0 y 1)==9
 else false),
 oD (bif
 bif
 bif bif A1 (A0 y 0)==3 then true else A1 (A0 y 0)==5 then true
 else A1 (A0 y 0)==6 then
 true
 else A1 (A0 y 0)==7 then
 true
 else A1 (A0 y 0)==4),
 oD (bif
 bif bif A1 (A0 y 0)==3 then true else A1 (A0 y 0)==5 then true
 else A1 (A0 y 0)==6 then
 true
 else A1 (A0 y 0)==7),
 oD (A1 (A0 y 0)==7),
 oD (bif
 bif
 bif bif A1 (A0 y 0)==3 then A1 (A0 y 1)==3 else false then true
 else A1 (A0 y 0)==5 then
 true
 else bif A1 (A0 y 0)==6 then A1 (A0 y 1)==8 else false then
 true
 else A1 (A0 y 0)==13),
 iD 0])))):=by kernel_rfl
noncomputable def c98:Ct:=⟨fun | [x]=>D0 x|_=>False,fun | [x]=>some (.agg [bD (hM (A1 (A0 x 0))),bD (hS (A1 (A0 x 0))),bD (hP (A1 (A0 x 0))),bD (hW (A1 (A0 x 0))),bD (hN (A1 (A0 x 0)) (A1 (A0 x 1))),bD (hNm (A1 (A0 x 0))),bD (hWo (A1 (A0 x 0))),bD (A1 (A0 x 0)==7),bD (hT (A1 (A0 x 0)) (A1 (A0 x 1))),ntD (hA (A1 (A0 x 0)))])|_=>none⟩
noncomputable def T98:Tab:=f6v.add 98 c98
theorem h7d (k:Int) (p:V→Prop):(B7 (Cn T98) T98 D4 0 C5 B1 100 [A3 k] B4.empty fun v H=>p (B5 H v)) =
 (bif k==2 then
 p
 (V.d
 (D.slice false 1
 [zD (bA []),
 zD (bA [108,97,115,116]),
 zD (bA [99,111,117,110,116]),
 zD (bA [115,117,109]),
 zD (bA [109,105,110]),
 zD (bA [109,97,120]),
 zD (bA [97,118,103]),
 zD (bA [100,101,108,116,97]),
 zD (bA [105,110,99,114,101,97,115,101]),
 zD (bA [114,97,116,101]),
 zD (bA [113,117,97,110,116,105,108,101]),
 zD (bA [104,105,115,116,113,117,97,110,116,105,108,101])])) else
 (bif k==3 then
 p
 (V.d
 (D.slice false 1
 [zD (bA []),
 zD (bA [108,105,110,101,115]),
 zD (bA [98,121,116,101,115]),
 zD (bA [117,110,119,114,97,112])])) else
 (bif k==6 then
 p
 (V.d
 (D.slice false 1
 [zD (bA []),
 zD (bA [115,117,109]),
 zD (bA [99,111,117,110,116]),
 zD (bA [109,105,110]),
 zD (bA [109,97,120]),
 zD (bA [97,118,103]),
 zD (bA [113,117,97,110,116,105,108,101]),
 zD (bA [116,111,112]),
 zD (bA [100,105,115,116,105,110,99,116]),
 zD (bA [115,107,101,116,99,104])])) else
 (bif k==7 then
 p
 (V.d
 (D.slice false 1
 [zD (bA []),zD (bA [43]),
 zD (bA [45]),zD (bA [42]),
 zD (bA [47]),zD (bA [61,61]),
 zD (bA [33,61]),zD (bA [60]),
 zD (bA [60,61]),zD (bA [62]),
 zD (bA [62,61])])) else
 p (V.d (D.slice false 1 [])))))):=by kernel_rfl
abbrev sB (l:List UInt8):D:=.lit (.string (ByteArray.mk (Array.mk l)))
def n9 (k:Int):List D:=bif k==2 then [sB [],sB [108,97,115,116],sB [99,111,117,110,116],sB [115,117,109],sB [109,105,110],sB [109,97,120],sB [97,118,103],sB [100,101,108,116,97],sB [105,110,99,114,101,97,115,101],sB [114,97,116,101],sB [113,117,97,110,116,105,108,101],sB [104,105,115,116,113,117,97,110,116,105,108,101]] else bif k==3 then [sB [],sB [108,105,110,101,115],sB [98,121,116,101,115],sB [117,110,119,114,97,112]] else bif k==6 then [sB [],sB [115,117,109],sB [99,111,117,110,116],sB [109,105,110],sB [109,97,120],sB [97,118,103],sB [113,117,97,110,116,105,108,101],sB [116,111,112],sB [100,105,115,116,105,110,99,116],sB [115,107,101,116,99,104]] else bif k==7 then [sB [],sB [43],sB [45],sB [42],sB [47],sB [61,61],sB [33,61],sB [60],sB [60,61],sB [62],sB [62,61]] else []
noncomputable def h2k:Ct:=⟨fun _=>True,fun | [.lit (.int .i64 k)]=>some (.slice false 1 (n9 k))|_=>none⟩
noncomputable def f7f:Tab:=T98.add 100 h2k
theorem h6p (y:D) (p:V→Prop):(B7 (Cn f7f) f7f D4 0 C5 B1 138 [V.d (eV y)] B4.empty fun v H=>p (B5 H v)) =
 (D0 (eV y)∧
 (True∧
 (bif bif
 bif
 bif bif (↑(n9 (A1 (A0 y 0))).length:Int)==0 then A1 (A0 y 1) !=0 else false then true
 else
 bif !hM (A1 (iD (A1 (A0 y 0)))) then
 decide ((↑(A2 (A0 y 2)).length:Int)>0)
 else false then
 true
 else
 bif !hS (A1 (iD (A1 (A0 y 0)))) then
 decide ((↑(A2 (A0 y 10)).length:Int)>0)
 else false then
 true
 else
 bif !hW (A1 (iD (A1 (A0 y 0)))) then
 bif A1 (A0 y 3) !=0 then true else A1 (A0 y 4) !=0
 else false then
 p (A9 true) else
 (bif bif
 bif
 bif !hP (A1 (iD (A1 (A0 y 0)))) then
 bif A1 (A0 y 11) !=0 then true
 else
 decide (IntKind.i64.wrap ((↑(A2 (A0 y 12)).length:Int)+(↑(A2 (A0 y 13)).length:Int))>0)
 else false then
 true
 else
 bif
 !hN (A1 (iD (A1 (A0 y 0))))
 (A1 (iD (A1 (A0 y 1)))) then
 !(A1 (A0 y 5)==0&&(A1 (A0 y 6)==0&&true))
 else false then
 true
 else
 bif !hNm (A1 (iD (A1 (A0 y 0)))) then
 decide ((↑(A2 (A0 y 7)).length:Int)>0)
 else false then
 p (A9 true) else
 p
 (A9 (bif
 bif
 bif
 bif !hWo (A1 (iD (A1 (A0 y 0)))) then Z8 (A0 y 8)
 else false then
 true
 else
 bif !A1 (iD (A1 (A0 y 0)))==7 then A1 (A0 y 9) !=0
 else false then
 true
 else
 bif
 !hT (A1 (iD (A1 (A0 y 0))))
 (A1 (iD (A1 (A0 y 1)))) then
 !(A5 (A0 y 14)).toList==(ByteArray.mk #[]).toList
 else false then
 true
 else (↑(A2 (A0 y 15)).length:Int) !=hA (A1 (iD (A1 (A0 y 0)))))))))):=by kernel_rfl
noncomputable def a4s (y:D):Bool :=
 (bif bif
 bif
 bif bif (↑(n9 (A1 (A0 y 0))).length:Int)==0 then A1 (A0 y 1) !=0 else false then true
 else
 bif !hM (A1 (D.lit (Value.int IntKind.i64 (A1 (A0 y 0))))) then
 decide ((↑(A2 (A0 y 2)).length:Int)>0)
 else false then
 true
 else
 bif !hS (A1 (D.lit (Value.int IntKind.i64 (A1 (A0 y 0))))) then
 decide ((↑(A2 (A0 y 10)).length:Int)>0)
 else false then
 true
 else
 bif !hW (A1 (D.lit (Value.int IntKind.i64 (A1 (A0 y 0))))) then
 bif A1 (A0 y 3) !=0 then true else A1 (A0 y 4) !=0
 else false then
 true else
 (bif bif
 bif
 bif !hP (A1 (D.lit (Value.int IntKind.i64 (A1 (A0 y 0))))) then
 bif A1 (A0 y 11) !=0 then true
 else
 decide (IntKind.i64.wrap ((↑(A2 (A0 y 12)).length:Int)+(↑(A2 (A0 y 13)).length:Int))>0)
 else false then
 true
 else
 bif
 !hN (A1 (D.lit (Value.int IntKind.i64 (A1 (A0 y 0)))))
 (A1 (D.lit (Value.int IntKind.i64 (A1 (A0 y 1))))) then
 !(A1 (A0 y 5)==0&&(A1 (A0 y 6)==0&&true))
 else false then
 true
 else
 bif !hNm (A1 (D.lit (Value.int IntKind.i64 (A1 (A0 y 0))))) then
 decide ((↑(A2 (A0 y 7)).length:Int)>0)
 else false then
 true else
 (bif
 bif
 bif
 bif !hWo (A1 (D.lit (Value.int IntKind.i64 (A1 (A0 y 0))))) then Z8 (A0 y 8)
 else false then
 true
 else
 bif !A1 (D.lit (Value.int IntKind.i64 (A1 (A0 y 0))))==7 then A1 (A0 y 9) !=0
 else false then
 true
 else
 bif
 !hT (A1 (D.lit (Value.int IntKind.i64 (A1 (A0 y 0)))))
 (A1 (D.lit (Value.int IntKind.i64 (A1 (A0 y 1))))) then
 !(A5 (A0 y 14)).toList==(ByteArray.mk #[]).toList
 else false then
 true
 else (↑(A2 (A0 y 15)).length:Int) !=hA (A1 (D.lit (Value.int IntKind.i64 (A1 (A0 y 0))))))))
noncomputable def g9z:Ct:=⟨fun | [x]=>D0 x|_=>False,fun | [x]=>some (.lit (.bool (a4s x)))|_=>none⟩
noncomputable def f6w:Tab:=f7f.add 138 g9z
theorem w73 (y:D) (p:V→Prop):(B7 (Cn f6w) f6w D4 0 C5 B1 73 [V.d (eV y)] B4.empty fun v H=>p (B5 H v)) =
 (bif bif decide (A1 (A0 y 0)<1) then true else decide (A1 (A0 y 0)>13) then
 p (A3 8) else
 (True∧
 (bif bif decide ((↑(n9 (A1 (A0 y 0))).length:Int)>0) then
 bif decide (A1 (A0 y 1)<1) then true
 else decide (A1 (A0 y 1)≥(↑(n9 (A1 (A0 y 0))).length:Int))
 else false then
 p (A3 8) else
 (D0 (eV y)∧
 (bif a4s (eV y) then
 p (A3 1) else
 (D0 (eV y)∧
 ((3=3∧∀(y_1:D),y_1∈A2 (A0 y 2)→a2a y_1∧Bd y_1)∧
 (bif F6 (A2 (A0 y 2)) !=0 then
 p (A3 (F6 (A2 (A0 y 2)))) else
 (bif bif hW (A1 (iD (A1 (A0 y 0)))) then
 bif
 bif bif decide (A1 (A0 y 3)<1) then true else decide (A1 (A0 y 3)>1099511627776) then true
 else decide (A1 (A0 y 4)<0) then
 true
 else decide (A1 (A0 y 4)>1099511627776)
 else false then
 p (A3 2) else
 (D0 (eV y)∧
 (bif bif
 hN (A1 (iD (A1 (A0 y 0))))
 (A1 (iD (A1 (A0 y 1)))) then
 N9 (eV y) !=0
 else false then
 p (A3 (N9 (eV y))) else
 ((D0 (eV y)∧Bd (eV y))∧
 (bif M6 (A2 (D.slice (K3 (A0 y 7)) 1 (A2 (A0 y 7))))
 (A1 (iD (A1 (A0 y 0)))==4) !=
 0 then
 p
 (A3 (M6 (A2 (D.slice (K3 (A0 y 7)) 1 (A2 (A0 y 7))))
 (A1 (iD (A1 (A0 y 0)))==4))) else
 (bif bif decide (A1 (A0 y 9)<0) then true else decide (A1 (A0 y 9)>2) then
 p (A3 8) else
 ((4=4∧∀(y_1:D),y_1∈A2 (A0 y 10)→a2e y_1∧Bd y_1)∧
 (bif S0 (A2 (A0 y 10)) !=0 then
 p (A3 (S0 (A2 (A0 y 10)))) else
 ((G7 (paV y)∧Bd (paV y))∧
 (bif bif hP (A1 (iD (A1 (A0 y 0)))) then M5 (paV y) !=0 else false then
 p (A3 (M5 (paV y))) else
 (bif hT (A1 (iD (A1 (A0 y 0))))
 (A1 (iD (A1 (A0 y 1)))) then
 ((D0 (eV y)∧Bd (eV y))∧
 p (A3 (b6a (eV y)))) else
 p (A3 0)))))))))))))))))))):=by kernel_rfl
noncomputable def f2s (y:D):Int :=
 (bif bif decide (A1 (A0 y 0)<1) then true else decide (A1 (A0 y 0)>13) then
 8 else
 (bif bif decide ((↑(n9 (A1 (A0 y 0))).length:Int)>0) then
 bif decide (A1 (A0 y 1)<1) then true
 else decide (A1 (A0 y 1)≥(↑(n9 (A1 (A0 y 0))).length:Int))
 else false then
 8 else
 (bif a4s (eV y) then
 1 else
 (bif F6 (A2 (A0 y 2)) !=0 then
 (F6 (A2 (A0 y 2))) else
 (bif bif hW (A1 (D.lit (Value.int IntKind.i64 (A1 (A0 y 0))))) then
 bif
 bif bif decide (A1 (A0 y 3)<1) then true else decide (A1 (A0 y 3)>1099511627776) then true
 else decide (A1 (A0 y 4)<0) then
 true
 else decide (A1 (A0 y 4)>1099511627776)
 else false then
 2 else
 (bif bif
 hN (A1 (D.lit (Value.int IntKind.i64 (A1 (A0 y 0)))))
 (A1 (D.lit (Value.int IntKind.i64 (A1 (A0 y 1))))) then
 N9 (eV y) !=0
 else false then
 (N9 (eV y)) else
 (bif M6 (A2 (D.slice (K3 (A0 y 7)) 1 (A2 (A0 y 7))))
 (A1 (D.lit (Value.int IntKind.i64 (A1 (A0 y 0))))==4) !=
 0 then
 (M6 (A2 (D.slice (K3 (A0 y 7)) 1 (A2 (A0 y 7))))
 (A1 (D.lit (Value.int IntKind.i64 (A1 (A0 y 0))))==4)) else
 (bif bif decide (A1 (A0 y 9)<0) then true else decide (A1 (A0 y 9)>2) then
 8 else
 (bif S0 (A2 (A0 y 10)) !=0 then
 (S0 (A2 (A0 y 10))) else
 (bif bif hP (A1 (D.lit (Value.int IntKind.i64 (A1 (A0 y 0))))) then M5 (paV y) !=0 else false then
 (M5 (paV y)) else
 (bif hT (A1 (D.lit (Value.int IntKind.i64 (A1 (A0 y 0)))))
 (A1 (D.lit (Value.int IntKind.i64 (A1 (A0 y 1))))) then
 (b6a (eV y)) else
 0)))))))))))
noncomputable def c73:Ct:=⟨fun | [x]=>D0 x∧Bd x|_=>False,fun | [x]=>some (.lit (.int .i64 (a3r x)))|_=>none⟩
noncomputable def T73:Tab:=f6w.add 73 c73
theorem d2v (y:D):a3r y=c3n (A1 (A0 y 0)) (A1 (A0 y 1)) (eV y):=rfl
noncomputable def g3r (k f:Int) (y:D):Int :=
 bif ob (decide (k<1)) (decide (k>13)) then 8 else
 bif ab (decide (((n9 k).length:Int)>0)) (ob (decide (f<1)) (decide (f≥((n9 k).length:Int)))) then 8 else
 bif a4s y then 1 else
 bif F6 (A2 (A0 y 2)) !=0 then F6 (A2 (A0 y 2)) else
 bif ab (hW k) (ob (ob (ob (decide (A1 (A0 y 3)<1)) (decide (A1 (A0 y 3)>1099511627776))) (decide (A1 (A0 y 4)<0))) (decide (A1 (A0 y 4)>1099511627776))) then 2 else
 bif ab (hN k f) (N9 y !=0) then N9 y else
 bif M6 (A2 (A0 y 7)) (k==4) !=0 then M6 (A2 (A0 y 7)) (k==4) else
 bif ob (decide (A1 (A0 y 9)<0)) (decide (A1 (A0 y 9)>2)) then 8 else
 bif S0 (A2 (A0 y 10)) !=0 then S0 (A2 (A0 y 10)) else
 bif ab (hP k) (M5 (paV y) !=0) then M5 (paV y) else
 bif hT k f then b6a y else 0
theorem f2q (y:D):f2s y=g3r (A1 (A0 y 0)) (A1 (A0 y 1)) (eV y):=by
 unfold f2s
 kernel_rfl
def f5j (k f:Int) (y:D):Bool :=
 ob (ob (ob (ob (ob (ob (ob (ob (ob (ob (ab (!hF k) (H5 y 0)) (ab (!hM k) (H5 y 4))) (ab (!hS k) (H5 y 6))) (ab (!hW k) (H5 y 7))) (ab (!hP k) (H5 y 5))) (ab (!hN k f) (H5 y 2))) (ab (!hNm k) (H5 y 8))) (ab (!hWo k) (H5 y 9))) (ab (!(k==7)) (H5 y 1))) (ab (!hT k f) (H5 y 3))) ((↑(A2 (A0 y 15)).length:Int) !=hA k)
theorem c7i (k:Int):decide (((n9 k).length:Int)>0)=hF k∧(hF k=true→((n9 k).length:Int)=nF k+1):=by
 unfold n9 hF nF
 by_cases h2:k=2
 ·subst h2;exact ⟨rfl,fun _=>rfl⟩
 by_cases h3:k=3
 ·subst h3;exact ⟨rfl,fun _=>rfl⟩
 by_cases h6:k=6
 ·subst h6;exact ⟨rfl,fun _=>rfl⟩
 by_cases h7:k=7
 ·subst h7;exact ⟨rfl,fun _=>rfl⟩
 have e2:(k==2)=false:=by simpa using h2
 have e3:(k==3)=false:=by simpa using h3
 have e6:(k==6)=false:=by simpa using h6
 have e7:(k==7)=false:=by simpa using h7
 rw[e2,e3,e6,e7]
 exact ⟨rfl,fun h=>by cases h⟩
theorem d6g (y:D) (hs:G6 (E3 y 12)∧G6 (E3 y 13)):a4s y=f5j (A1 (A0 y 0)) (A1 (A0 y 1)) y:=by
 unfold a4s f5j
 have e0:(((n9 (A1 (A0 y 0))).length:Int)==0)= !hF (A1 (A0 y 0)):=by
  rw[←(c7i _).1]
  cases n9 (A1 (A0 y 0)) with
  | nil=>rfl
  | cons a l =>
   have h1:(((a::l).length:Int)==0)=false:=by simp only[List.length_cons,beq_eq_false_iff_ne,ne_eq];omega
   have h2:decide (((a::l).length:Int)>0)=true:=by simp only[List.length_cons,decide_eq_true_eq];omega
   rw[h1,h2];rfl
 have e1:(bif A1 (A0 y 11) !=0 then true else decide (IntKind.i64.wrap ((↑(A2 (A0 y 12)).length:Int)+(↑(A2 (A0 y 13)).length:Int))>0))=H5 y 5:=by
  have h1:(A2 (A0 y 12)).length≤1152921504606846976:=hs.1
  have h2:(A2 (A0 y 13)).length≤1152921504606846976:=hs.2
  rw[wr (by omega) (by omega)]
  show _=u5 y
  unfold u5 E3
  rw[a4x]
  have:decide ((↑(A2 (A0 y 12)).length:Int)+(↑(A2 (A0 y 13)).length:Int)>0)=(decide (0<(A2 (A0 y 12)).length)||decide (0<(A2 (A0 y 13)).length)):=by
   rw[←Bool.decide_or];exact decide_eq_decide.2 (by omega)
  rw[this]
  congr 1
  cases h:(A1 (A0 y 11) !=0) with
  | true=>have:=e8u h;simp[this]
  | false=>have:=d9w h;simp[this]
 rw[e0]
 show (bif ob (ob (ob (ab (!hF (A1 (A0 y 0))) (H5 y 0)) (ab (!hM (A1 (A0 y 0))) (H5 y 4))) (ab (!hS (A1 (A0 y 0))) (H5 y 6))) (ab (!hW (A1 (A0 y 0))) (H5 y 7)) then true else
  bif ob (ob (ab (!hP (A1 (A0 y 0))) (bif A1 (A0 y 11) !=0 then true else decide (IntKind.i64.wrap ((↑(A2 (A0 y 12)).length:Int)+(↑(A2 (A0 y 13)).length:Int))>0))) (ab (!hN (A1 (A0 y 0)) (A1 (A0 y 1))) (H5 y 2))) (ab (!hNm (A1 (A0 y 0))) (H5 y 8)) then true else
  ob (ob (ob (ab (!hWo (A1 (A0 y 0))) (H5 y 9)) (ab (!(A1 (A0 y 0)==7)) (H5 y 1))) (ab (!hT (A1 (A0 y 0)) (A1 (A0 y 1))) (H5 y 3))) ((↑(A2 (A0 y 15)).length:Int) !=hA (A1 (A0 y 0))))=_
 rw[e1]
 simp only[ob,ab,a4x,Bool.or_assoc]
theorem f5f:∀x0 x1 x2 x3 x4 x5 x6 x7 x8 x9 c:Bool,ob (!(x0==false&&(x1==false&&(x2==false&&(x3==false&&(x4==false&&(x5==false&&(x6==false&&(x7==false&&(x8==false&&(x9==false&&true))))))))))) c =
 ob (ob (ob (ob (ob (ob (ob (ob (ob (ob x0 x4) x6) x7) x5) x2) x8) x9) x1) x3) c:=by decide +kernel
theorem g4h (p h:Bool):o5 p h=ab (!h) p:=by cases p<;>cases h<;>rfl
theorem g4p {k f:Int} {y:D} (h1:gN k f=hN k f) (h2:gT k f=hT k f):c8e k f y=f5j k f y:=by
 unfold c8e f5j
 rw[h1,h2,f5f]
 simp only[g4h]
theorem f8s (k f:Int):gT k f=hT k f:=by
 unfold gT c3w hT
 by_cases h2:k=2
 ·subst h2;rfl
 by_cases h3:k=3
 ·subst h3
  show (f==3)=ob (ob (ob (f==3) false) false) false
  cases (f==3)<;>rfl
 by_cases h6:k=6
 ·subst h6
  show (f==8)=ob (ob (ob false false) (f==8)) false
  cases (f==8)<;>rfl
 have e2:(k==2)=false:=by simpa using h2
 have e3:(k==3)=false:=by simpa using h3
 have e6:(k==6)=false:=by simpa using h6
 rw[e2,e3,e6]
 cases (k==5)<;>cases (k==13)<;>rfl
theorem f8t {k f:Int} (h:ab (hF k) (ob (decide (f<1)) (decide (f>nF k)))=false):gN k f=hN k f:=by
 unfold gN e3e hN
 by_cases h2:k=2
 ·subst h2
  have h:ob (decide (f<1)) (decide (f>11))=false:=h
  have:=(a2x h).2
  simp only[decide_eq_false_iff_not] at this
  show (ob (f==10) (f==11))=ob (ob false (decide (f≥10))) false
  by_cases h10:f≥10
  ·have:f=10∨f=11:=by omega
   rcases this with rfl|rfl<;>rfl
  ·have d:decide (f≥10)=false:=by simpa using h10
   have e1:(f==10)=false:=by simp;omega
   have e2:(f==11)=false:=by simp;omega
   rw[d,e1,e2];rfl
 by_cases h3:k=3
 ·subst h3;rfl
 by_cases h6:k=6
 ·subst h6;rfl
 have e2:(k==2)=false:=by simpa using h2
 have e3:(k==3)=false:=by simpa using h3
 have e6:(k==6)=false:=by simpa using h6
 rw[e2,e3,e6]
 cases (k==1)<;>rfl
theorem g8g (k f:Int):ab (decide (((n9 k).length:Int)>0)) (ob (decide (f<1)) (decide (f≥((n9 k).length:Int))))=ab (hF k) (ob (decide (f<1)) (decide (f>nF k))):=by
 obtain ⟨h1,h2⟩:=c7i k
 rw[h1]
 cases h:hF k with
 | false=>rfl
 | true =>
  have:=h2 h
  have e:decide (f≥((n9 k).length:Int))=decide (f>nF k):=decide_eq_decide.2 (by omega)
  rw[e]
theorem b8o {β:Type} {f:Nat→Option β}:∀{n i:Nat} {b:β},rounds (fun i _=>Q1 (f i)) n i ()= .inr b→∃j,f j=some b
 | 0,i,b,h=>by cases h
 | n+1,i,b,h=>by
  unfold rounds at h
  cases hf:f i with
  | none=>rw[hf] at h;exact b8o h
  | some c=>rw[hf] at h;exact ⟨i,by rw[hf];simp only[Q1] at h;cases h;rfl⟩
theorem c8z {β:Type} {f:Nat→Option β} {n:Nat} {b:β} (h:C0 f n=some b):∃j,f j=some b:=by
 unfold C0 at h
 split at h
 ·rename_i c hc
  cases h
  exact b8o hc
 ·cases h
theorem e9o (s:ByteArray):(bif !a7v s then (5:Int) else 0)=(bif (bif decide ((s.size:Int)<1) then true else decide ((s.size:Int)>60)) then 5 else (match C0 (U5 (G9 s)) (G9 s).length with|some e=>e|none=>0)):=by
 unfold a7v
 have e1:decide ((s.size:Int)>0)= !decide ((s.size:Int)<1):=by rw[←decide_not];exact decide_eq_decide.2 (by omega)
 have e2:decide ((s.size:Int)≤60)= !decide ((s.size:Int)>60):=by rw[←decide_not];exact decide_eq_decide.2 (by omega)
 rw[e1,e2]
 cases h:C0 (U5 (G9 s)) (G9 s).length with
 | none=>cases decide ((s.size:Int)<1)<;>cases decide ((s.size:Int)>60)<;>rfl
 | some e =>
  obtain ⟨j,hj⟩:=c8z h
  unfold U5 at hj
  have:e=5:=by
   cases hb:(bif A1 ((G9 s).getD j .any) !=95 then (bif decide (A1 ((G9 s).getD j .any)<97) then true else decide (A1 ((G9 s).getD j .any)>122)) else false) with
   | true=>rw[hb] at hj;cases hj;rfl
   | false=>rw[hb] at hj;cases hj
  subst this
  cases decide ((s.size:Int)<1)<;>cases decide ((s.size:Int)>60)<;>rfl
theorem e9v {y:D} (h:hT (A1 (A0 y 0)) (A1 (A0 y 1))=true):b6a y=b3h y:=by
 unfold b6a b3h
 generalize hk:A1 (A0 y 0)=k at h ⊢
 have hcase:k=3∨k=5∨k=6∨k=13:=by
  by_cases h3:k=3
  ·exact .inl h3
  by_cases h5:k=5
  ·exact .inr (.inl h5)
  by_cases h6:k=6
  ·exact .inr (.inr (.inl h6))
  by_cases h13:k=13
  ·exact .inr (.inr (.inr h13))
  exfalso
  unfold hT at h
  have e3:(k==3)=false:=by simpa using h3
  have e5:(k==5)=false:=by simpa using h5
  have e6:(k==6)=false:=by simpa using h6
  have e13:(k==13)=false:=by simpa using h13
  rw[e3,e5,e6,e13] at h
  cases h
 rcases hcase with rfl|rfl|rfl|rfl
 ·show (bif !G4 (A5 (A0 y 14)) then (5:Int) else 0)=_
  rfl
 ·show (bif decide ((↑(A5 (A0 y 14)).size:Int)>60) then (4:Int) else 0)=_
  rfl
 ·show (bif !G4 (A5 (A0 y 14)) then (5:Int) else 0)=_
  rfl
 ·show (bif (bif !a7v (A5 (A0 y 14)) then true else false) then (5:Int) else 0)=_
  have:(bif !a7v (A5 (A0 y 14)) then true else false)= !a7v (A5 (A0 y 14)):=by cases a7v (A5 (A0 y 14))<;>rfl
  rw[this,e9o]
  rfl
theorem g3q {y:D} (hs:G6 (E3 y 12)∧G6 (E3 y 13)):g3r (A1 (A0 y 0)) (A1 (A0 y 1)) y=c3n (A1 (A0 y 0)) (A1 (A0 y 1)) y:=by
 unfold g3r c3n
 rw[g8g]
 cases h1:ob (decide (A1 (A0 y 0)<1)) (decide (A1 (A0 y 0)>13)) with
 | true=>rfl
 | false =>
 cases h2:ab (hF (A1 (A0 y 0))) (ob (decide (A1 (A0 y 1)<1)) (decide (A1 (A0 y 1)>nF (A1 (A0 y 0))))) with
 | true=>rfl
 | false =>
 have hgN:=f8t h2
 rw[d6g y hs, ←g4p hgN (f8s _ _)]
 cases h3:c8e (A1 (A0 y 0)) (A1 (A0 y 1)) y with
 | true=>rfl
 | false =>
 simp only[cond_false]
 rw[hgN]
 unfold b8u
 rw[f8s]
 have hM0:hM (A1 (A0 y 0))=false→F6 (A2 (A0 y 2))=0:=fun hm=>by
  have h4:H5 y 4=false:=by
   unfold c8e at h3
   have h3:=(a2x h3).1
   simp only[Bool.not_eq_false',Bool.and_eq_true,beq_iff_eq] at h3
   have:=h3.2.2.2.2.1
   unfold o5 at this
   rw[hm] at this
   cases hp:H5 y 4 with
   | true=>rw[hp] at this;cases this
   | false=>rfl
  rw[c6u h4];rfl
 have e1:∀R:Int,(bif F6 (A2 (A0 y 2)) !=0 then F6 (A2 (A0 y 2)) else R)=(bif ab (hM (A1 (A0 y 0))) (F6 (A2 (A0 y 2)) !=0) then F6 (A2 (A0 y 2)) else R):=fun R=>by
  cases hm:hM (A1 (A0 y 0)) with
  | true=>rfl
  | false=>rw[hM0 hm];rfl
 rw[e1]
 have e2:∀(g N R:Int) (b:Bool),(bif ab b (N !=0) then N else R)=(bif b then (bif N !=0 then N else R) else R):=fun g N R b=>by cases b<;>rfl
 rw[e2 0 (N9 y) _ (hN (A1 (A0 y 0)) (A1 (A0 y 1)))]
 have e3:(bif hT (A1 (A0 y 0)) (A1 (A0 y 1)) then b6a y else 0)=(bif hT (A1 (A0 y 0)) (A1 (A0 y 1)) then b3h y else 0):=by
  cases ht:hT (A1 (A0 y 0)) (A1 (A0 y 1)) with
  | true=>rw[e9v ht]
  | false=>rfl
 rw[e3]
theorem f9y {y:D} (hv:eV y=y) (hs:G6 (E3 y 12)∧G6 (E3 y 13)):f2s y=a3r y:=by
 rw[f2q,d2v,hv,g3q hs]
theorem k98:C2 B T98:=by
 refine C3 C4 h9n (fn:=Tryz.f98) (cd:=A7 Tryz.f98) (sp:=C5) (hn:=B1) Tryz.func98 (by kernel_rfl) (by kernel_rfl) A8 fun ds r hp hr=>?_
 unfold c98 at hp hr
 simp only[] at hr hp
 split at hr
 ·rename_i x
  cases hr
  rw[W1 (D0.v hp)]
  refine keep (w98 x fun v=>v=_) ?_
  refine A4 (fun g=>?_) (fun g=>?_)
  ·have g':ob (A1 (A0 x 0)==6) (A1 (A0 x 0)==12)=true:=g
   refine A4 (fun g=>?_) (fun g=>?_)
   ·have e:hA (A1 (A0 x 0))=2:=by unfold hA;rw[g];rfl
    rw[e];rfl
   ·have e:hA (A1 (A0 x 0))=1:=by unfold hA;rw[g,g'];rfl
    rw[e];rfl
  ·have g':ob (A1 (A0 x 0)==6) (A1 (A0 x 0)==12)=false:=g
   refine A4 (fun g=>?_) (fun g=>?_)
   ·have e:hA (A1 (A0 x 0))=2:=by unfold hA;rw[g];rfl
    rw[e];rfl
   ·have e:hA (A1 (A0 x 0))=0:=by unfold hA;rw[g,g'];rfl
    rw[e];rfl
 ·cases hr
theorem h9z:C2 B f7f:=by
 refine C3 C4 k98 (fn:=Tryz.f100) (cd:=A7 Tryz.f100) (sp:=C5) (hn:=B1) Tryz.func100 (by kernel_rfl) (by kernel_rfl) A8 fun ds r hp hr=>?_
 unfold h2k at hr
 simp only[] at hr
 split at hr
 ·rename_i k
  cases hr
  have hw:=h7d k fun v=>v= .d (.slice false 1 (n9 k))
  refine keep hw ?_
  clear hw
  unfold n9
  refine A4 (fun g=>?_) (fun g=>?_)
  ·rw[g];show _=_;kernel_rfl
  rw[g]
  refine A4 (fun g=>?_) (fun g=>?_)
  ·rw[g];show _=_;kernel_rfl
  rw[g]
  refine A4 (fun g=>?_) (fun g=>?_)
  ·rw[g];show _=_;kernel_rfl
  rw[g]
  refine A4 (fun g=>?_) (fun g=>?_)
  ·rw[g];show _=_;kernel_rfl
  rw[g];show _=_;kernel_rfl
 ·cases hr
theorem h9o:C2 B f6w:=by
 refine C3 C4 h9z (fn:=Tryz.f138) (cd:=A7 Tryz.f138) (sp:=C5) (hn:=B1) Tryz.func138 (by kernel_rfl) (by kernel_rfl) A8 fun ds r hp hr=>?_
 unfold g9z at hp hr
 simp only[] at hr hp
 split at hr
 ·rename_i x
  cases hr
  rw[W1 (D0.v hp)]
  refine keep (h6p x fun v=>v=_) ?_
  unfold a4s
  rw[D0.v hp]
  (repeat' (first|with_reducible rfl | (refine A4 (fun hcw=>?_) (fun hcw=>?_)<;>simp only[hcw,cond_true,cond_false])|refine S4 ?_ ?_))
  all_goals first|trivial|exact hp
 ·cases hr
theorem k73:C2 B T73:=by
 refine C3 C4 h9o (fn:=Tryz.f73) (cd:=A7 Tryz.f73) (sp:=C5) (hn:=B1) Tryz.func73 (by kernel_rfl) (by kernel_rfl) A8 fun ds r hp hr=>?_
 unfold c73 at hp hr
 simp only[] at hr hp
 split at hr
 ·rename_i x
  cases hr
  obtain ⟨hx,hb⟩:=hp
  rw[W1 hx.v, ←f9y hx.v ⟨hx.p.l.1,hx.p.l.2⟩]
  refine keep (w73 x fun v=>v=_) ?_
  unfold f2s
  rw[hx.v]
  have h2:∀y∈A2 (A0 x 2),a2a y∧Bd y:=fun y hy=>⟨hx.m y hy,hb.sub hy⟩
  have h10:∀y∈A2 (A0 x 10),a2e y∧Bd y:=fun y hy=>⟨hx.s y hy,hb.sub hy⟩
  have hpp:G7 (paV x):=hx.p
  have b12:Bd (lC x 12 4):=show BdL _ from a9d fun a ha=>hb.sub ha
  have b13:Bd (lC x 13 3):=show BdL _ from a9d fun a ha=>hb.sub ha
  (repeat' (first|with_reducible rfl | (refine A4 (fun hcw=>?_) (fun hcw=>?_)<;>simp only[hcw,cond_true,cond_false])|refine S4 ?_ ?_))
  all_goals first|trivial|assumption
 ·cases hr
noncomputable def c46:Ct:=⟨fun | [x]=>D0 x∧Bd x|_=>False,fun | [x]=>some (.lit (.int .i64 (H9 x)))|_=>none⟩
noncomputable def U46 (κ:Nat):Tab:=T73.add 46 (c46.below μ1 κ)
noncomputable def T46:Tab:=T73.add 46 c46
noncomputable def l46:Code:=D6 (C6 (A7 Tryz.f46) 10)
theorem b46 (κ:Nat) (y:D) (i:Int) (R:X→List V→List Box→Prop):(D7 (Cn (U46 κ)) (U46 κ) D4 0 C5 B1 l46 27 [1,4] [[5000]] [] [([5000], [5000])] [2] []
 [V.ptr [5000] 0,A3 i] [G5 y] R) =
 (bif decide (i<(↑(A2 (A0 y 15)).length:Int)) then
 ((((0:Int)≤i)∧(i.toNat<(A2 (A0 y 15)).length∧eV ((A2 (A0 y 15)).getD i.toNat D.any)=(A2 (A0 y 15)).getD i.toNat D.any))∧
 (((D0 (eV ((A2 (A0 y 15)).getD i.toNat D.any))∧Bd (eV ((A2 (A0 y 15)).getD i.toNat D.any)))∧μ1 [eV ((A2 (A0 y 15)).getD i.toNat D.any)]<κ)∧
 (bif H9 (eV ((A2 (A0 y 15)).getD i.toNat D.any)) !=0 then
 (27=27∧
 R X.ret [A3 (H9 (eV ((A2 (A0 y 15)).getD i.toNat D.any)))] []) else
 (27=27∧
 R X.normal [V.ptr [5000] 0,A3 (IntKind.i64.wrap (i+1))]
 [G5 y])))) else
 (27=27∧
 R (X.exit 0) [V.any] [])):=by kernel_rfl
noncomputable def S46 (rec:D→Int) (κ:Nat):Ev.Spec:={L:=[1,4],ns:=[([5000],[3])],L':=[2],nm':=[],G:=fun N vals bs k=>match vals,bs with
 | [.ptr [5000] 0, .d (.lit (.int .i64 i))], [.cells 33 [a0,a1,a2,a3,a4,a5,a6,a7,a8,a9,a10,a11,a12,a13,a14, .d (.slice b 16 xs)]]=>(IsE [a0,a1,a2,a3,a4,a5,a6,a7,a8,a9,a10,a11,a12,a13,a14, .d (.slice b 16 xs)]∧N=27∧rec=H9∧i=0∧G6 xs∧∀y∈xs,(D0 y∧Bd y)∧dsz y<κ)∧P7 (C0 (C7 rec xs) xs.length) (k (.exit 0) [.any] []) (fun e=>k .ret [A3 e] [])
 | _,_=>False }
theorem w46 (rec:D→Int) (κ:Nat) (y:D) (p:V→Prop):(B7 (Cn (U46 κ)) (U46 κ) D4 0 (spL [(10,S46 rec κ)]) B1 46 [V.d (eV y)] B4.empty fun v H=>p (B5 H v)) =
 ((D0 (eV y)∧Bd (eV y))∧
 (bif a3r (eV y) !=0 then
 p (A3 (a3r (eV y))) else
 ((IsE (N5 y)∧(27=27∧(rec=H9∧(((0:Int)=0)∧(G6 (A2 (A0 y 15))∧∀(y_1:D),y_1∈A2 (A0 y 15)→(D0 y_1∧Bd y_1)∧dsz y_1<κ)))))∧
 (match C0 (C7 rec (A2 (A0 y 15))) (A2 (A0 y 15)).length with
 | some y0 =>
 p (A3 y0)
 | none=>p (A3 0))))):=by kernel_rfl
noncomputable def U45 (κ:Nat):Tab:=T46.add 45 (c43.below μ1 κ)
noncomputable def T45:Tab:=T46.add 45 c43
noncomputable def l45:Code:=D6 (C6 (A7 Tryz.f45) 6)
theorem b45 (κ:Nat) (y:D) (i:Int) (m:Int) (R:X→List V→List Box→Prop):(D7 (Cn (U45 κ)) (U45 κ) D4 0 C5 B1 l45 22 [1,3,4] [[5000]] [] [([5000], [5000])] [3] []
 [V.ptr [5000] 0,A3 m,A3 i] [G5 y] R) =
 (bif decide (i<(↑(A2 (A0 y 15)).length:Int)) then
 ((((0:Int)≤i)∧(i.toNat<(A2 (A0 y 15)).length∧eV ((A2 (A0 y 15)).getD i.toNat D.any)=(A2 (A0 y 15)).getD i.toNat D.any))∧
 (((D0 (eV ((A2 (A0 y 15)).getD i.toNat D.any))∧G1 (eV ((A2 (A0 y 15)).getD i.toNat D.any))≤100)∧μ1 [eV ((A2 (A0 y 15)).getD i.toNat D.any)]<κ)∧
 (22=22∧
 R X.normal
 [V.ptr [5000] 0,
 A3 (bif true then
 if (↑(Q6 (eV ((A2 (A0 y 15)).getD i.toNat D.any))):Int)>m then
 (↑(Q6 (eV ((A2 (A0 y 15)).getD i.toNat D.any))):Int)
 else m
 else
 if (↑(Q6 (eV ((A2 (A0 y 15)).getD i.toNat D.any))):Int)<m then
 (↑(Q6 (eV ((A2 (A0 y 15)).getD i.toNat D.any))):Int)
 else m),
 A3 (IntKind.i64.wrap (i+1))]
 [G5 y]))) else
 (22=22∧
 R (X.exit 0) [A3 m] [])):=by kernel_rfl
noncomputable def S45 (κ:Nat):Ev.Spec:={L:=[1,3,4],ns:=[([5000],[3])],L':=[3],nm':=[],G:=fun N vals bs k=>match vals,bs with
 | [.ptr [5000] 0, .d (.lit (.int .i64 m)), .d (.lit (.int .i64 i))], [.cells 33 [a0,a1,a2,a3,a4,a5,a6,a7,a8,a9,a10,a11,a12,a13,a14, .d (.slice b 16 xs)]]=>(IsE [a0,a1,a2,a3,a4,a5,a6,a7,a8,a9,a10,a11,a12,a13,a14, .d (.slice b 16 xs)]∧N=22∧i=0∧m=0∧xs.length≤100∧∀y∈xs,(D0 y∧G1 y≤100)∧dsz y<κ)∧k (.exit 0) [A3 (Q2 (xs.map Q6):Nat)] []
 | _,_=>False }
theorem w45 (κ:Nat) (y:D) (p:V→Prop):(B7 (Cn (U45 κ)) (U45 κ) D4 0 (spL [(6,S45 κ)]) B1 45 [V.d (eV y)] B4.empty fun v H=>p (B5 H v)) =
 ((IsE (N5 y)∧(22=22∧(((0:Int)=0)∧(((0:Int)=0)∧((A2 (A0 y 15)).length≤100∧∀(y_1:D),y_1∈A2 (A0 y 15)→(D0 y_1∧G1 y_1≤100)∧dsz y_1<κ)))))∧
 p (A3 (IntKind.i64.wrap ((↑(Q2 (List.map Q6 (A2 (A0 y 15)))):Int)+1)))):=by kernel_rfl
theorem w18 (y:D) (p:V→Prop):(B7 (Cn T45) T45 D4 0 C5 B1 18 [V.d (eV y)] B4.empty fun v H=>p (B5 H v)) =
 (D0 (eV y)∧
 (bif decide
 ((bif false then if 101>L9 (eV y) 0 then 101 else L9 (eV y) 0
 else if 101<L9 (eV y) 0 then 101 else L9 (eV y) 0) >
 100) then
 p (A3 4) else
 ((D0 (eV y)∧G1 (eV y)≤100)∧
 (bif decide ((↑(Q6 (eV y)):Int)>12) then
 p (A3 30) else
 ((D0 (eV y)∧Bd (eV y))∧
 p (A3 (H9 (eV y)))))))):=by kernel_rfl
noncomputable def c18:Ct:=⟨fun | [x]=>D0 x∧Bd x|_=>False,fun | [x]=>some (.lit (.int .i64 (E2 x)))|_=>none⟩
noncomputable def T18:Tab:=T45.add 18 c18
theorem h7y {κ:Nat} (hk:C2 B (U46 κ)):OkS (Cn (U46 κ)) 0 (.loop l46) (S46 H9 κ):=by
 refine D2 fun N vals bs K h=>?_
 simp only[S46] at h
 split at h
 case h_2=>exact h.elim
 rename_i i a0 a1 a2 a3 a4 a5 a6 a7 a8 a9 a10 a11 a12 a13 a14 b xs
 obtain ⟨⟨⟨y,hy⟩,rfl,_,rfl,hsh,hall⟩,h⟩:=h
 have hxs:xs=A2 (A0 y 15):=by
  have:=congrArg (fun l:List V=>l.getD 15 .any) hy
  simp at this
  exact this.2
 rw[hy]
 subst hxs
 have hs:(A2 (A0 y 15)).length≤1152921504606846976:=hsh
 refine F5 (D1 C4 hk B9) C1 A8 (hn:=B1) (adsI:=[]) (nsI:=[([5000],[5000])]) (nsX:=[]) rfl rfl (A2 (A0 y 15)).length
  (fun i=>[.ptr [5000] 0,A3 i]) (fun _=>[G5 y]) (C7 H9 (A2 (A0 y 15))) (fun e=>(.ret, [A3 e], [])) (by simp) (.exit 0) [.any] [] (by simp) ?_ ?_ h
 ·intro i R hi hR
  refine keep (b46 κ y i R) ?_
  have e1:decide ((i:Int)<(A2 (A0 y 15)).length)=true:=by simp;omega
  have e2:IntKind.i64.wrap ((i:Int)+1)=((i+1:Nat):Int):=by rw[Go.IntWalk.i64_in _ (by omega)];omega
  obtain ⟨hv,hlt⟩:=hall _ (E1 hi)
  rw[e1]
  simp only[Int.toNat_natCast,e2,cond_true,hv.1.v]
  refine ⟨⟨by omega,hi,(by trivial)⟩,⟨hv,hlt⟩,A4 (fun h1=>⟨(by trivial), ?_⟩) (fun h1=>⟨(by trivial), ?_⟩)⟩<;>(simp only[C7,h1,cond_true,cond_false,P7] at hR;exact hR)
 ·intro R hR
  refine keep (b46 κ y (A2 (A0 y 15)).length R) ?_
  have e1:decide (((A2 (A0 y 15)).length:Int)<(A2 (A0 y 15)).length)=false:=by simp
  rw[e1]
  exact ⟨(by trivial),hR⟩
theorem k46:C2 B T46:=by
 refine P9 C4 k73 μ1 (fn:=Tryz.f46) (cd:=A7 Tryz.f46) (sp:=fun n=>spL [(10,S46 H9 n)]) (hn:=B1) Tryz.func46 (by kernel_rfl) (by kernel_rfl) (fun n hk=>B8 (c:=.loop l46) (by kernel_rfl) (h7y hk) C8) fun κ ds r hp hm hr=>?_
 unfold c46 at hp hr
 simp only[] at hr hp
 split at hr
 ·rename_i x
  cases hr
  rw[W1 hp.1.v]
  refine keep (w46 H9 κ x fun v=>v=_) ?_
  rw[b5f]
  unfold a8g
  rw[hp.1.v]
  have ha:∀y∈A2 (A0 x 15),(D0 y∧Bd y)∧dsz y<κ:=fun y hy=>⟨⟨hp.1.a y hy,hp.2.sub hy⟩,hm▸G3 hy⟩
  have hE:IsE (N5 x):=⟨x,rfl⟩
  have hs:G6 (A2 (A0 x 15)):=hp.1.l.2.2
  generalize C0 (C7 H9 (A2 (A0 x 15))) (A2 (A0 x 15)).length=o2
  refine ⟨hp,A4 (fun g=>?_) (fun g=>?_)⟩
  ·simp only[g,cond_true]
  ·simp only[g,cond_false]
   refine ⟨⟨hE,(by trivial),(by trivial),(by trivial),hs,ha⟩, ?_⟩
   cases o2<;>rfl
 ·cases hr
theorem h7z {κ:Nat} (hk:C2 B (U45 κ)):OkS (Cn (U45 κ)) 0 (.loop l45) (S45 κ):=by
 refine D2 fun N vals bs K h=>?_
 simp only[S45] at h
 split at h
 case h_2=>exact h.elim
 rename_i m i a0 a1 a2 a3 a4 a5 a6 a7 a8 a9 a10 a11 a12 a13 a14 b xs
 obtain ⟨⟨⟨y,hy⟩,rfl,rfl,rfl,hl,hx⟩,h⟩:=h
 have hxs:xs=A2 (A0 y 15):=by
  have:=congrArg (fun l:List V=>l.getD 15 .any) hy
  simp at this
  exact this.2
 rw[hy]
 subst hxs
 have main:∀k i,i+k=(A2 (A0 y 15)).length→J5 (Cn (U45 κ)) 0 l45 22 [1,3,4] [[5000]] [3] [] [.ptr [5000] 0,A3 (Q2 (((A2 (A0 y 15)).take i).map Q6):Nat),A3 i] [G5 y] K:=by
  intro k
  induction k with
  | zero =>
   intro i hi
   have:i=(A2 (A0 y 15)).length:=by omega
   subst this
   refine B6 (D1 C4 hk B9) C1 A8 (hn:=B1) (adsI:=[]) (nsI:=[([5000],[5000])]) (nsX:=[]) rfl rfl (keep (b45 κ y (A2 (A0 y 15)).length _ _) ?_)
   have e1:decide (((A2 (A0 y 15)).length:Int)<(A2 (A0 y 15)).length)=false:=by simp
   rw[e1,List.take_length]
   exact ⟨(by trivial),h⟩
  | succ k ih =>
   intro i hi
   refine B6 (D1 C4 hk B9) C1 A8 (hn:=B1) (adsI:=[]) (nsI:=[([5000],[5000])]) (nsX:=[]) rfl rfl (keep (b45 κ y i _ _) ?_)
   have e1:decide ((i:Int)<(A2 (A0 y 15)).length)=true:=by simp;omega
   obtain ⟨hf,hlt⟩:=hx _ (E1 (xs:=A2 (A0 y 15)) (i:=i) (by omega))
   have hv:=hf.1.v
   rw[e1]
   simp only[Int.toNat_natCast,cond_true,hv]
   refine ⟨⟨by omega,by omega,(by trivial)⟩,⟨hf,hlt⟩,(by trivial), ?_⟩
   have:=ih (i+1) (by omega)
   rw[Go.IntWalk.i64_in _ (by omega)]
   rw[t8 (by omega)] at this
   rw[show (if (Q6 ((A2 (A0 y 15)).getD i .any):Int)>(Q2 (((A2 (A0 y 15)).take i).map Q6):Nat) then (Q6 ((A2 (A0 y 15)).getD i .any):Int) else (Q2 (((A2 (A0 y 15)).take i).map Q6):Nat))=(max (Q2 (((A2 (A0 y 15)).take i).map Q6)) (Q6 ((A2 (A0 y 15)).getD i .any)):Nat) by split<;>omega]
   exact this
 exact main (A2 (A0 y 15)).length 0 (by omega)
theorem k45:C2 B T45:=by
 refine P9 C4 k46 μ1 (fn:=Tryz.f45) (cd:=A7 Tryz.f45) (sp:=fun n=>spL [(6,S45 n)]) (hn:=B1) Tryz.func45 (by kernel_rfl) (by kernel_rfl) (fun n hk=>B8 (c:=.loop l45) (by kernel_rfl) (h7z hk) C8) fun κ ds r hp hm hr=>?_
 unfold c43 at hp hr
 simp only[] at hr hp
 split at hr
 ·rename_i x
  cases hr
  obtain ⟨hf,h1⟩:=hp
  rw[W1 hf.v]
  refine keep (w45 κ x fun v=>v=_) ?_
  have e1:=p6 x
  have e2:=b4o x
  have e3:=d9o _ x (Nat.le_refl _)
  have e4:=a4o (xs:=E3 x 15)
  refine ⟨⟨⟨x,rfl⟩,(by trivial),(by trivial),(by trivial),by unfold E3 at *;omega,fun y hy=>⟨⟨hf.a y hy, ?_⟩, ?_⟩⟩, ?_⟩
  ·have:=a2j (f:=G1) (xs:=E3 x 15) hy;omega
  ·rw[←hm];exact G3 hy
  ·unfold E3 at *
   rw[Go.IntWalk.i64_in _ (by omega),show ((Q2 (List.map Q6 (A2 (A0 x 15))):Nat):Int)+1=(Q6 x:Nat) by omega]
 ·cases hr
theorem e6m (y:D) (hs:G6 (E3 y 12)∧G6 (E3 y 13)):(bif A1 (A0 y 11) !=0 then true else decide (IntKind.i64.wrap ((↑(A2 (A0 y 12)).length:Int)+(↑(A2 (A0 y 13)).length:Int))>0))=u5 y:=by
 have h1:(A2 (A0 y 12)).length≤1152921504606846976:=hs.1
 have h2:(A2 (A0 y 13)).length≤1152921504606846976:=hs.2
 rw[wr (by omega) (by omega)]
 unfold u5 E3
 rw[a4x]
 have:decide ((↑(A2 (A0 y 12)).length:Int)+(↑(A2 (A0 y 13)).length:Int)>0)=(decide (0<(A2 (A0 y 12)).length)||decide (0<(A2 (A0 y 13)).length)):=by
  rw[←Bool.decide_or];exact decide_eq_decide.2 (by omega)
 rw[this]
 congr 1
 cases h:(A1 (A0 y 11) !=0) with
 | true=>have:=e8u h;simp[this]
 | false=>have:=d9w h;simp[this]
theorem d9s:∀(κ:Nat) (y:D),dsz y<κ→D0 y→∀n:Int,0≤n→n≤100→n≤L9 y n∧min (L9 y n) 101=min (n+(G1 y:Nat)) 101
 | 0,_,h,_,_,_,_=>absurd h (Nat.not_lt_zero _)
 | κ+1,y,h,hf,n,h0,h1=>by
  rw[d9t,p6]
  unfold d3x
  rw[e6m y ⟨hf.p.l.1,hf.p.l.2⟩]
  have hrec:∀a∈A2 (A0 y 15),∀n:Int,0≤n→n≤100→n≤L9 a n∧min (L9 a n) 101=min (n+(G1 a:Nat)) 101:=fun a ha=>d9s κ a (by have:=G3 (y:=y) (i:=15) ha;omega) (hf.a a ha)
  unfold E3
  by_cases hl:(A2 (A0 y 10)).length>100
  ·have d:decide ((↑(A2 (A0 y 10)).length:Int)>100)=true:=by simp;omega
   rw[d]
   simp only[cond_true]
   constructor
   ·omega
   ·have:min (A2 (A0 y 10)).length 100=100:=by omega
    rw[this]
    cases u5 y<;>simp only[cond_true,cond_false]<;>omega
  ·have d:decide ((↑(A2 (A0 y 10)).length:Int)>100)=false:=by simp;omega
   have em:min (A2 (A0 y 10)).length 100=(A2 (A0 y 10)).length:=by omega
   rw[d,em,wr (x:=n+1) (by omega) (by omega),wr (x:=n+1+(↑(A2 (A0 y 10)).length:Int)) (by omega) (by omega)]
   simp only[cond_false]
   cases hp:u5 y with
   | false =>
    simp only[cond_false]
    obtain ⟨p1,p2⟩:=a8w (rec:=L9) (f:=G1) (xs:=A2 (A0 y 15)) (m:=n+1+(↑(A2 (A0 y 10)).length:Int)) (by omega) hrec
    omega
   | true =>
    simp only[cond_true]
    by_cases hm:n+1+(↑(A2 (A0 y 10)).length:Int)≤100
    ·have d2:decide (n+1+(↑(A2 (A0 y 10)).length:Int)≤100)=true:=by simpa using hm
     rw[d2]
     simp only[cond_true]
     obtain ⟨q1,q2⟩:=c7y _ (paV y) (Nat.lt_succ_self _) (n+1+(↑(A2 (A0 y 10)).length:Int)) (by omega) hm
     obtain ⟨p1,p2⟩:=a8w (rec:=L9) (f:=G1) (xs:=A2 (A0 y 15)) (m:=a3x (paV y) (n+1+(↑(A2 (A0 y 10)).length:Int))) (by omega) hrec
     omega
    ·have d2:decide (n+1+(↑(A2 (A0 y 10)).length:Int)≤100)=false:=by simpa using hm
     rw[d2]
     simp only[cond_false]
     obtain ⟨p1,p2⟩:=a8w (rec:=L9) (f:=G1) (xs:=A2 (A0 y 15)) (m:=n+1+(↑(A2 (A0 y 10)).length:Int)) (by omega) hrec
     omega
theorem e9z {x:D} (h:D0 x):(bif false then if 101>L9 x 0 then 101 else L9 x 0 else if 101<L9 x 0 then 101 else L9 x 0)=((cap (G1 x):Nat):Int):=by
 have:=(d9s _ x (Nat.lt_succ_self _) h 0 (by omega) (by omega)).2
 simp only[cond_false]
 unfold cap
 split<;>omega
theorem k18:C2 B T18:=by
 refine C3 C4 k45 (fn:=Tryz.f18) (cd:=A7 Tryz.f18) (sp:=C5) (hn:=B1) Tryz.func18 (by kernel_rfl) (by kernel_rfl) A8 fun ds r hp hr=>?_
 unfold c18 at hp hr
 simp only[] at hr hp
 split at hr
 ·rename_i x
  cases hr
  rw[W1 hp.1.v]
  refine keep (w18 x fun v=>v=_) ?_
  unfold E2
  rw[hp.1.v,e9z hp.1]
  refine ⟨hp.1,A4 (fun g=>?_) (fun g=>?_)⟩
  ·simp only[g,cond_true]
  ·simp only[g,cond_false]
   simp only[decide_eq_false_iff_not] at g
   refine ⟨⟨hp.1,by unfold cap at g;omega⟩,A4 (fun g=>?_) (fun g=>?_)⟩
   ·simp only[g,cond_true]
   ·simp only[g,cond_false];exact ⟨hp,(by trivial)⟩
 ·cases hr
abbrev bD8 (c:Int):D:=.lit (.int .u8 c)
def qB (c:Int):List D:=bif (bif c==92 then true else c==34) then [bD8 92,bD8 c] else bif c==10 then [bD8 92,bD8 110] else [bD8 c]
def qL (s:ByteArray):Nat→Nat→List D
 | 0,_=>[]
 | n+1,i=>qB (A6 s i)++qL s n (i+1)
def b8y (s:ByteArray):List D:=[bD8 34]++qL s s.size 0++ [bD8 34]
noncomputable def m4 (s:ByteArray):ByteArray:=c3i (b8y s)
theorem d5m {s:ByteArray}:∀{n i:Nat},(qL s n i).length≤2*n
 | 0,_=>by simp[qL]
 | n+1,i=>by
  have:=d5m (s:=s) (n:=n) (i:=i+1)
  have hq:(qB (A6 s i)).length≤2:=by
   unfold qB
   cases (bif A6 s i==92 then true else A6 s i==34)<;>cases (A6 s i==10)<;>simp
  simp only[qL,List.length_append];omega
theorem e6b {s:ByteArray}:∀{n i:Nat},d4w (qL s n i)
 | 0,_=>fun d h=>by simp[qL] at h
 | n+1,i=>fun d h=>by
  simp only[qL,List.mem_append] at h
  have hb:=j6 s i
  rcases h with h|h
  ·unfold qB at h
   have h8:∀c:Int,0≤c∧c<256→b2m (bD8 c)=true:=fun c hc=>by
    simp[b2m];omega
   cases g1:(bif A6 s i==92 then true else A6 s i==34) with
   | true =>
    rw[g1] at h
    simp only[cond_true,List.mem_cons,List.not_mem_nil,or_false] at h
    rcases h with rfl|rfl
    ·exact h8 _ (by decide)
    ·exact h8 _ hb
   | false =>
    rw[g1] at h
    simp only[cond_false] at h
    cases g2:A6 s i==10 with
    | true =>
     rw[g2] at h
     simp only[cond_true,List.mem_cons,List.not_mem_nil,or_false] at h
     rcases h with rfl|rfl<;>exact h8 _ (by decide)
    | false =>
     rw[g2] at h
     simp only[cond_false,List.mem_cons,List.not_mem_nil,or_false] at h
     subst h
     exact h8 _ hb
  ·exact e6b d h
theorem e2x (s:ByteArray):d4w (b8y s):=fun d h=>by
 unfold b8y at h
 simp only[List.mem_append,List.mem_cons,List.not_mem_nil,or_false] at h
 rcases h with (rfl|h)|rfl
 ·rfl
 ·exact e6b d h
 ·rfl
theorem Y6 (a b:ByteArray):(a++b).size=a.size+b.size:=by simp
def b4p:Nat→Nat→List UInt8
 | 0,_=>[]
 | k+1,n=>bif decide (n<10) then [UInt8.ofNat (48+n)] else b4p k (n / 10)++ [UInt8.ofNat (48+n % 10)]
def W0 (n:Int):ByteArray:=⟨(b4p 20 n.toNat).toArray⟩
def μN:List D→Nat
 | [.lit (.int _ n)]=>n.toNat
 | _=>0
noncomputable def g4f:Ct:=⟨fun | [.lit (.int .i64 n)]=>0≤n∧n<9223372036854775808|_=>False,fun | [.lit (.int .i64 n)]=>some (.lit (.string (W0 n)))|_=>none⟩
noncomputable def h3y (κ:Nat):Tab:=T18.add 165 (g4f.below μN κ)
noncomputable def d4q:Tab:=T18.add 165 g4f
theorem h5y (κ:Nat) (n:Int) (p:V→Prop):(B7 (Cn (h3y κ)) (h3y κ) D4 0 C5 B1 165 [A3 n] B4.empty fun v H=>p (B5 H v)) =
 (bif decide (n<10) then
 (d4w [D.lit (Value.int IntKind.u8 (IntKind.u8.wrap (IntKind.i64.wrap (48+n))))]∧
 p (C9 (c3i [D.lit (Value.int IntKind.u8 (IntKind.u8.wrap (IntKind.i64.wrap (48+n))))]))) else
 ((IntKind.i64=IntKind.i64∧(10:Int)≠0)∧
 (((((0:Int)≤IntKind.i64.wrap (n.tdiv 10))∧((IntKind.i64.wrap (n.tdiv 10):Int)<9223372036854775808))∧μN [iD (IntKind.i64.wrap (n.tdiv 10))]<κ)∧
 ((IntKind.i64=IntKind.i64∧(10:Int)≠0)∧
 (d4w [D.lit (Value.int IntKind.u8 (IntKind.u8.wrap (IntKind.i64.wrap (48+n.tmod 10))))]∧
 ((W0 (IntKind.i64.wrap (n.tdiv 10))).size+1≤9223372036854775807∧
 p
 (C9 (W0 (IntKind.i64.wrap (n.tdiv 10)) ++
 c3i [D.lit (Value.int IntKind.u8 (IntKind.u8.wrap (IntKind.i64.wrap (48+n.tmod 10))))])))))))):=by kernel_rfl
noncomputable def f3x:Code:=D6 (C6 (A7 Tryz.f104) 6)
theorem h3u (xs:List D) (b:Bool) (a:ByteArray) (i:Int) (R:X→List V→List Box→Prop):(D7 (Cn d4q) d4q D4 0 C5 B1 f3x 23 [0,3,4] [] [] [] [3] [] [V.d (D.slice b 1 xs),C9 a,A3 i] [] R) =
 (bif decide (i<(↑xs.length:Int)) then
 (bif decide (i>0) then
 (a.size+1≤9223372036854775807∧
 ((((0:Int)≤i)∧(i.toNat<xs.length∧zD (A5 (xs.getD i.toNat D.any))=xs.getD i.toNat D.any))∧
 ((a++bA [32]).size+(A5 (xs.getD i.toNat D.any)).size≤9223372036854775807∧
 (23=23∧
 R X.normal
 [V.d (D.slice b 1 xs),
 C9 (a++bA [32]++A5 (xs.getD i.toNat D.any)),
 A3 (IntKind.i64.wrap (i+1))]
 [])))) else
 ((((0:Int)≤i)∧(i.toNat<xs.length∧zD (A5 (xs.getD i.toNat D.any))=xs.getD i.toNat D.any))∧
 (a.size+(A5 (xs.getD i.toNat D.any)).size≤9223372036854775807∧
 (23=23∧
 R X.normal
 [V.d (D.slice b 1 xs),C9 (a++A5 (xs.getD i.toNat D.any)),
 A3 (IntKind.i64.wrap (i+1))]
 [])))) else
 (23=23∧
 R (X.exit 0) [C9 a] [])):=by kernel_rfl
def a5j:Bool→ByteArray→List D→ByteArray
 | _,a, []=>a
 | f,a,x::r=>a5j false (bif f then a++A5 x else a++ByteArray.mk (Array.mk [32])++A5 x) r
def N4 (l:List D):ByteArray:=a5j true (ByteArray.mk (Array.mk [40])) l++ByteArray.mk (Array.mk [41])
noncomputable def P4 (l:List D):ByteArray:=a5j true (ByteArray.mk (Array.mk [40])) l
def Y2 (xs:List D):Prop:=∀y∈xs,a2d y
noncomputable def f8i:Ev.Spec:={L:=[0,3,4],ns:=[],L':=[3],nm':=[],G:=fun N vals bs k=>match vals,bs with
 | [.d (.slice b 1 xs), .d (.lit (.string a)), .d (.lit (.int .i64 i))], []=>(N=23∧i=0∧a=ByteArray.mk (Array.mk [40])∧Y2 xs∧(P4 xs).size≤9223372036854775806∧xs.length≤1152921504606846976)∧k (.exit 0) [C9 (P4 xs)] []
 | _,_=>False }
theorem h6z (xs:List D) (b:Bool) (p:V→Prop):(B7 (Cn d4q) d4q D4 0 (spL [(6,f8i)]) B1 104 [V.d (D.slice b 1 xs)] B4.empty fun v H=>p (B5 H v)) =
 ((23=23∧(((0:Int)=0)∧(bA [40]=bA [40]∧(Y2 xs∧((P4 xs).size≤9223372036854775806∧xs.length≤1152921504606846976)))))∧
 ((P4 xs).size+1≤9223372036854775807∧
 p (C9 (P4 xs++bA [41])))):=by kernel_rfl
noncomputable def h2i:Ct:=⟨fun | [.slice _ z xs]=>z=1∧Y2 xs∧(P4 xs).size≤9223372036854775806∧xs.length≤1152921504606846976|_=>False,fun | [.slice _ _ xs]=>some (.lit (.string (N4 xs)))|_=>none⟩
noncomputable def d4s:Tab:=d4q.add 104 h2i
noncomputable def f3u:Code:=D6 (C6 (A7 Tryz.f109) 6)
def e7n:Nat→Option o9:=fun id=>match id with
 | 7=>some {cut:=[([0,3,4,5], [([5000],[30])])] }
 | _=>none
theorem h3r (s : ByteArray) (xs : List D) (i : Int) (R : X → List V → List Box → Prop) : (D7 (Cn d4s) d4s D4 0 C5 e7n f3u 39 [0, 3, 4] [[5000]] [] [([5000], [36])] [3] [([5000], [5000])]
  [C9 s, V.ref [5000], A3 i] [Box.arr true false 5 1 xs []] R) =
  (bif decide (i < (↑s.size : Int)) then
   ((((0 : Int) ≤ i) ∧ i.toNat < s.size) ∧
   (bif bif bif A6 s i.toNat == 92 then true else A6 s i.toNat == 34 then true else A6 s i.toNat == 10 then
    (bif ((xs.length + 1) * 1).ble 70368744177664 then
     (bif A6 s i.toNat == 10 then
      (bif (((xs ++ [D.lit (Value.int IntKind.u8 92)]).length + 1) * 1).ble 70368744177664 then
       (39 = 39 ∧
       R X.normal [C9 s, V.ref [5000], A3 (IntKind.i64.wrap (i + 1))]
  [Box.arr true false 5 1 (xs ++ [D.lit (Value.int IntKind.u8 92)] ++ [D.lit (Value.int IntKind.u8 110)]) []]) else
       False) else
      (bif (((xs ++ [D.lit (Value.int IntKind.u8 92)]).length + 1) * 1).ble 70368744177664 then
       (39 = 39 ∧
       R X.normal [C9 s, V.ref [5000], A3 (IntKind.i64.wrap (i + 1))]
  [Box.arr true false 5 1 (xs ++ [D.lit (Value.int IntKind.u8 92)] ++ [D.lit (Value.int IntKind.u8 (A6 s i.toNat))])
      []]) else
       False)) else
     False) else
    (bif A6 s i.toNat == 10 then
     (bif ((xs.length + 1) * 1).ble 70368744177664 then
      (39 = 39 ∧
      R X.normal [C9 s, V.ref [5000], A3 (IntKind.i64.wrap (i + 1))]
  [Box.arr true false 5 1 (xs ++ [D.lit (Value.int IntKind.u8 110)]) []]) else
      False) else
     (bif ((xs.length + 1) * 1).ble 70368744177664 then
      (39 = 39 ∧
      R X.normal [C9 s, V.ref [5000], A3 (IntKind.i64.wrap (i + 1))]
  [Box.arr true false 5 1 (xs ++ [D.lit (Value.int IntKind.u8 (A6 s i.toNat))]) []]) else
      False)))) else
   (39 = 39 ∧
   R (X.exit 0) [V.ref [5000]] [Box.arr true false 5 1 xs []])) := by kernel_rfl
noncomputable def c4j (s:ByteArray):List D:=[D.lit (Value.int IntKind.u8 34)]++qL s s.size 0
noncomputable def f8f:Ev.Spec:={L:=[0,3,4],ns:=[([5000],[8])],L':=[3],nm':=[[5000]],G:=fun N vals bs k=>match vals,bs with
 | [.d (.lit (.string s)), .ref [5000], .d (.lit (.int .i64 i))], [.arr true false 5 1 xs []]=>(N=39∧i=0∧xs= [D.lit (Value.int IntKind.u8 34)]∧s.size≤17592186044400)∧k (.exit 0) [.ref [5000]] [.arr true false 5 1 (c4j s) []]
 | _,_=>False }
theorem h6u (s:ByteArray) (p:V→Prop):(B7 (Cn d4s) d4s D4 0 (spL [(6,f8f)]) e7n 109 [C9 s] B4.empty fun v H=>p (B5 H v)) =
 ((39=39∧(((0:Int)=0)∧([D.lit (Value.int IntKind.u8 34)]= [D.lit (Value.int IntKind.u8 34)]∧s.size≤17592186044400)))∧
 (bif (((c4j s).length+1)*1).ble 70368744177664 then
 (d4w (c4j s++ [D.lit (Value.int IntKind.u8 34)])∧
 p (C9 (c3i (c4j s++ [D.lit (Value.int IntKind.u8 34)])))) else
 False)):=by kernel_rfl
noncomputable def h2d:Ct:=⟨fun | [.lit (.string s)]=>s.size≤17592186044400|_=>False,fun | [.lit (.string s)]=>some (.lit (.string (m4 s)))|_=>none⟩
noncomputable def f7a:Tab:=d4s.add 109 h2d
theorem c5m:∀(k n:Nat),n<10 ^ (k+1)→b4p (k+2) n=b4p (k+1) n
 | 0,n,h=>by
  have h:n<10:=by simpa using h
  unfold b4p;rw[decide_eq_true h];rfl
 | k+1,n,h=>by
  have ih:=c5m k (n / 10) (by rw[Nat.pow_succ] at h;omega)
  show (bif decide (n<10) then _ else b4p (k+2) (n / 10)++_)=(bif decide (n<10) then _ else b4p (k+1) (n / 10)++_)
  rw[ih]
theorem g4m (a b:List UInt8):ByteArray.mk (a++b).toArray=ByteArray.mk a.toArray++ByteArray.mk b.toArray:=ByteArray.ext (by simp[ByteArray.data_append])
theorem f4u {m:Nat} (h:m<10):W0 m=c3i [bD8 (48+m)]:=by
 unfold W0 c3i
 simp only[Int.toNat_natCast]
 unfold b4p
 rw[decide_eq_true h]
 rfl
theorem f4v {m:Nat} (h:10≤m) (h2:m<9223372036854775808):W0 m=W0 (m / 10:Nat)++c3i [bD8 (48+(m % 10:Nat))]:=by
 unfold W0 c3i
 simp only[Int.toNat_natCast]
 have e:b4p 20 m=b4p 20 (m / 10)++ [UInt8.ofNat (48+m % 10)]:=by
  rw[c5m 18 (m / 10) (by omega)]
  show (bif decide (m<10) then _ else b4p 19 (m / 10)++_)=_
  rw[decide_eq_false (by omega)]
  rfl
 rw[e]
 exact g4m _ _
theorem d3w:∀(k n:Nat),(b4p k n).length≤k
 | 0,n=>by simp[b4p]
 | k+1,n=>by
  have:=d3w k (n / 10)
  unfold b4p
  cases decide (n<10)<;>simp<;>omega
theorem a3g (n:Int):(W0 n).size≤20:=by
 have:=d3w 20 n.toNat
 exact this
theorem c9p {c:Int} (h:0≤c∧c<256):d4w [bD8 c]:=fun d hd=>by
 simp only[List.mem_cons,List.not_mem_nil,or_false] at hd
 subst hd
 simp[b2m];omega
theorem g3c:C2 B d4q:=by
 refine P9 C4 k18 μN (fn:=Tryz.f165) (cd:=A7 Tryz.f165) (sp:=fun _=>C5) (hn:=B1) Tryz.func165 (by kernel_rfl) (by kernel_rfl) (fun _ _=>A8) fun κ ds r hp hm hr=>?_
 unfold g4f at hp hr
 simp only[] at hr hp
 split at hr
 ·rename_i n
  cases hr
  obtain ⟨h0,h1⟩:=hp
  refine keep (h5y κ n fun v=>v=_) ?_
  obtain ⟨m,rfl⟩:=Int.eq_ofNat_of_zero_le h0
  by_cases h:m<10
  ·have e:IntKind.u8.wrap (IntKind.i64.wrap (48+(m:Int)))=48+m:=by rw[Go.IntWalk.i64_in _ (by omega),Go.IntWalk.u8_in _ (by omega)]
   rw[show decide ((m:Int)<10)=true by simp;omega,e,f4u h]
   exact ⟨c9p (by omega),rfl⟩
  ·have e:IntKind.u8.wrap (IntKind.i64.wrap (48+(m:Int).tmod 10))=48+(m % 10:Nat):=by
    rw[show (m:Int).tmod 10=(m % 10:Nat) by rw[Int.tmod_eq_emod_of_nonneg (by omega)];rfl,Go.IntWalk.i64_in _ (by omega),Go.IntWalk.u8_in _ (by omega)]
   have e2:IntKind.i64.wrap ((m:Int).tdiv 10)=(m / 10:Nat):=by
    rw[show (m:Int).tdiv 10=(m / 10:Nat) by rw[Int.tdiv_eq_ediv_of_nonneg (by omega)];rfl,Go.IntWalk.i64_in _ (by omega)]
   rw[show decide ((m:Int)<10)=false by simp;omega,e,e2,f4v (by omega) (by omega)]
   have hl:=a3g (m / 10:Nat)
   refine ⟨⟨rfl,by decide⟩,⟨⟨by omega,by omega⟩, ?_⟩,⟨rfl,by decide⟩,c9p (by omega), ?_,rfl⟩
   ·rw[←hm];show ((m / 10:Nat):Int).toNat<((m:Nat):Int).toNat;omega
   ·show (W0 _).size+1≤9223372036854775807;omega
 ·cases hr
theorem e4t {xs:List D} {i:Nat} (h:i<xs.length):xs.drop i=xs.getD i .any::xs.drop (i+1):=by
 rw[List.drop_eq_getElem_cons h,List.getD_eq_getElem?_getD,List.getElem?_eq_getElem h];rfl
theorem b2t:∀{l:List D} {f:Bool} {a:ByteArray},a.size≤(a5j f a l).size
 | [],f,a=>Nat.le_refl _
 | x::r,f,a=>by
  unfold a5j
  refine Nat.le_trans ?_ b2t
  cases f<;>simp only[cond_true,cond_false,Y6]<;>omega
theorem g7n:OkS (Cn d4q) 0 (.loop f3x) f8i:=by
 refine D2 fun N vals bs K h=>?_
 simp only[f8i] at h
 split at h
 case h_2=>exact h.elim
 rename_i b xs a i
 obtain ⟨⟨rfl,rfl,rfl,hall,hr,hn⟩,h⟩:=h
 have key:∀(n i:Nat) (a:ByteArray),i+n=xs.length→(a5j (i==0) a (xs.drop i)).size≤9223372036854775806→K (.exit 0) [C9 (a5j (i==0) a (xs.drop i))] []→
   J5 (Cn d4q) 0 f3x 23 [0,3,4] [] [3] [] [.d (.slice b 1 xs),C9 a,A3 i] [] K:=by
  intro n
  induction n with
  | zero =>
   intro i a hi hs h
   refine B6 (D1 C4 g3c B9) C1 A8 (hn:=B1) (adsI:=[]) (nsI:=[]) (nsX:=[]) rfl rfl (keep (h3u xs b a i _) ?_)
   rw[show decide ((i:Int)<(xs.length:Int))=false by simp;omega]
   rw[List.drop_of_length_le (by omega)] at h
   exact ⟨(by trivial),h⟩
  | succ n ih =>
   intro i a hi hs h
   refine B6 (D1 C4 g3c B9) C1 A8 (hn:=B1) (adsI:=[]) (nsI:=[]) (nsX:=[]) rfl rfl (keep (h3u xs b a i _) ?_)
   rw[e4t (by omega)] at h hs
   unfold a5j at h hs
   have e2:IntKind.i64.wrap ((i:Int)+1)=((i+1:Nat):Int):=by rw[Go.IntWalk.i64_in _ (by omega)];omega
   have hv:=hall _ (E1 (xs:=xs) (i:=i) (by omega))
   have hlt:i<xs.length:=by omega
   simp only[show decide ((i:Int)<(xs.length:Int))=true by simp;omega,cond_true,Int.toNat_natCast,e2]
   have hz:=b2t (l:=xs.drop (i+1)) (f:=false) (a:=bif i==0 then a++A5 (xs.getD i .any) else a++ByteArray.mk (Array.mk [32])++A5 (xs.getD i .any))
   have hnext:=ih (i+1) (bif i==0 then a++A5 (xs.getD i .any) else a++ByteArray.mk (Array.mk [32])++A5 (xs.getD i .any)) (by omega) hs h
   cases hi0:i==0 with
   | true =>
    have:i=0:=by simpa using hi0
    rw[hi0] at hz hnext hs
    simp only[cond_true,Y6] at hz hnext hs
    rw[show decide ((i:Int)>0)=false by simp;omega]
    exact ⟨⟨by omega,hlt,hv⟩,by omega,(by trivial),hnext⟩
   | false =>
    have:i≠0:=by simpa using hi0
    rw[hi0] at hz hnext hs
    simp only[cond_false,Y6] at hz hnext hs
    have h1:(bA [32]).size=1:=rfl
    rw[show decide ((i:Int)>0)=true by simp;omega]
    refine ⟨by omega,⟨by omega,hlt,hv⟩, ?_,(by trivial),hnext⟩
    rw[Y6];omega
 exact key xs.length 0 _ (by omega) hr h
theorem g3e:C2 B d4s:=by
 refine C3 C4 g3c (fn:=Tryz.f104) (cd:=A7 Tryz.f104) (sp:=spL [(6,f8i)]) (hn:=B1) Tryz.func104 (by kernel_rfl) (by kernel_rfl) (B8 (c:=.loop f3x) (by kernel_rfl) g7n C8) fun ds r hp hr=>?_
 unfold h2i at hp hr
 simp only[] at hr hp
 split at hr
 ·rename_i b z xs
  cases hr
  obtain ⟨rfl,hall,hs,hn⟩:=hp
  refine keep (h6z xs b fun v=>v=_) ?_
  exact ⟨⟨(by trivial),(by trivial),rfl,hall,hs,hn⟩,by omega,rfl⟩
 ·cases hr
theorem g7j:OkS (Cn d4s) 0 (.loop f3u) f8f:=by
 refine D2 fun N vals bs K h=>?_
 simp only[f8f] at h
 split at h
 case h_2=>exact h.elim
 rename_i s i xs
 obtain ⟨⟨rfl,rfl,rfl,hr⟩,h⟩:=h
 have key:∀(n i:Nat) (xs:List D),i+n=s.size→xs.length+2*n≤70368744177600→K (.exit 0) [.ref [5000]] [.arr true false 5 1 (xs++qL s n i) []]→
   J5 (Cn d4s) 0 f3u 39 [0,3,4] [[5000]] [3] [[5000]] [C9 s, .ref [5000],A3 i] [.arr true false 5 1 xs []] K:=by
  intro n
  induction n with
  | zero =>
   intro i xs hi hx h
   refine B6 (D1 C4 g3e B9) C1 A8 (hn:=e7n) (adsI:=[]) (nsI:=[([5000],[36])]) (nsX:=[([5000],[5000])]) rfl rfl (keep (h3r s xs i _) ?_)
   rw[show decide ((i:Int)<(s.size:Int))=false by simp;omega]
   simp only[qL,List.append_nil] at h
   exact ⟨(by trivial),h⟩
  | succ n ih =>
   intro i xs hi hx h
   refine B6 (D1 C4 g3e B9) C1 A8 (hn:=e7n) (adsI:=[]) (nsI:=[([5000],[36])]) (nsX:=[([5000],[5000])]) rfl rfl (keep (h3r s xs i _) ?_)
   have e2:IntKind.i64.wrap ((i:Int)+1)=((i+1:Nat):Int):=by rw[Go.IntWalk.i64_in _ (by omega)];omega
   have p1:((xs.length+1)*1).ble 70368744177664=true:=by rw[Nat.ble_eq];omega
   have p2:(((xs++ [D.lit (Value.int IntKind.u8 92)]).length+1)*1).ble 70368744177664=true:=by rw[Nat.ble_eq];simp;omega
   unfold qL qB at h
   simp only[show decide ((i:Int)<(s.size:Int))=true by simp;omega,Int.toNat_natCast,e2,cond_true,p1,p2]
   refine ⟨⟨by omega,by omega⟩, ?_⟩
   cases g1:(bif A6 s i==92 then true else A6 s i==34) with
   | true =>
    rw[g1] at h
    simp only[cond_true] at h ⊢
    have g2:(A6 s i==10)=false:=by
     cases g3:A6 s i==10 with
     | false=>rfl
     | true =>
      have:A6 s i=10:=by simpa using g3
      rw[this] at g1
      exact absurd g1 (by decide)
    rw[g2]
    refine ⟨(by trivial),ih (i+1) _ (by omega) (by simp;omega) ?_⟩
    simpa [List.append_assoc] using h
   | false =>
    rw[g1] at h
    simp only[cond_false] at h ⊢
    refine A4 (fun g=>?_) (fun g=>?_)
    ·rw[g] at h ⊢
     simp only[cond_true] at h ⊢
     refine ⟨(by trivial),ih (i+1) _ (by omega) (by simp;omega) ?_⟩
     simpa [List.append_assoc] using h
    ·rw[g] at h ⊢
     simp only[cond_false] at h ⊢
     refine ⟨(by trivial),ih (i+1) _ (by omega) (by simp;omega) ?_⟩
     simpa [List.append_assoc] using h
 exact key s.size 0 _ (by omega) (by simp;omega) h
theorem h9s:C2 B f7a:=by
 refine C3 C4 g3e (fn:=Tryz.f109) (cd:=A7 Tryz.f109) (sp:=spL [(6,f8f)]) (hn:=e7n) Tryz.func109 (by kernel_rfl) (by kernel_rfl) (B8 (c:=.loop f3u) (by kernel_rfl) g7j C8) fun ds r hp hr=>?_
 unfold h2d at hp hr
 simp only[] at hr hp
 split at hr
 ·rename_i s
  cases hr
  have hp:s.size≤17592186044400:=hp
  refine keep (h6u s fun v=>v=_) ?_
  have hl:=d5m (s:=s) (n:=s.size) (i:=0)
  have p1:(((c4j s).length+1)*1).ble 70368744177664=true:=by rw[Nat.ble_eq];unfold c4j;simp only[List.length_append,List.length_cons,List.length_nil];omega
  rw[p1]
  exact ⟨⟨(by trivial),(by trivial),rfl,hp⟩,e2x s,rfl⟩
 ·cases hr
theorem h7c (n:Int) (d:Int) (p:V→Prop):(B7 (Cn f7a) f7a D4 0 C5 B1 101 [V.d (rV n d)] B4.empty fun v H=>p (B5 H v)) =
 (True∧
 (bif m3 n d !=0 then
 p (C9 (bA [])) else
 ((((-4611686018427387904:Int)≤n)∧((n:Int)≤4611686018427387904))∧
 ((((0:Int)≤(↑n.natAbs:Int))∧(((↑n.natAbs:Int):Int)<9223372036854775808))∧
 (bif decide (n<0) then
 (1+(W0 (↑n.natAbs:Int)).size≤9223372036854775807∧
 (bif decide (d>1) then
 ((bA [45]++W0 (↑n.natAbs:Int)).size+1≤9223372036854775807∧
 ((((0:Int)≤d)∧((d:Int)<9223372036854775808))∧
 ((bA [45]++W0 (↑n.natAbs:Int)++bA [47]).size+(W0 d).size≤
 9223372036854775807∧
 p
 (C9 (bA [45]++W0 (↑n.natAbs:Int)++bA [47]++W0 d))))) else
 p (C9 (bA [45]++W0 (↑n.natAbs:Int))))) else
 (bif decide (d>1) then
 ((W0 (↑n.natAbs:Int)).size+1≤9223372036854775807∧
 ((((0:Int)≤d)∧((d:Int)<9223372036854775808))∧
 ((W0 (↑n.natAbs:Int)++bA [47]).size+(W0 d).size≤9223372036854775807∧
 p (C9 (W0 (↑n.natAbs:Int)++bA [47]++W0 d))))) else
 p (C9 (W0 (↑n.natAbs:Int))))))))):=by kernel_rfl
noncomputable def c7j (n d:Int):ByteArray:=bif m3 n d !=0 then ByteArray.mk (Array.mk []) else bif decide (n<0) then (bif decide (d>1) then ByteArray.mk (Array.mk [45])++W0 (n.natAbs:Nat)++ByteArray.mk (Array.mk [47])++W0 d else ByteArray.mk (Array.mk [45])++W0 (n.natAbs:Nat)) else (bif decide (d>1) then W0 (n.natAbs:Nat)++ByteArray.mk (Array.mk [47])++W0 d else W0 (n.natAbs:Nat))
noncomputable def h2j:Ct:=⟨fun _=>True,fun | [.agg [.lit (.int .i64 n), .lit (.int .i64 d)]]=>some (.lit (.string (c7j n d)))|_=>none⟩
noncomputable def f7e:Tab:=f7a.add 101 h2j
theorem h6w (n:Int) (p:V→Prop):(B7 (Cn f7e) f7e D4 0 C5 B1 107 [A3 n] B4.empty fun v H=>p (B5 H v)) =
 (True∧
 p (C9 (c7j n 1))):=by kernel_rfl
noncomputable def h2f:Ct:=⟨fun | [.lit (.int .i64 n)]=>0≤n∧n≤1152921504606846976|_=>False,fun | [.lit (.int .i64 n)]=>some (.lit (.string (W0 n)))|_=>none⟩
noncomputable def f7b:Tab:=f7e.add 107 h2f
def cLr (l:List D):Ct:=⟨fun _=>True,fun | []=>some (.slice false 1 l)|_=>none⟩
noncomputable def opR:List D:=([[], [61], [33,61], [61,126], [33,126], [60], [62]]:List (List UInt8)).map sB
noncomputable def S7:List D:=([[], [99,111,110,116,97,105,110,115], [110,111,116,99,111,110,116,97,105,110,115], [114,101,103,101,120], [112,97,114,115,101], [102,105,101,108,100], [107,101,101,112], [100,114,111,112], [108,97,98,101,108]]:List (List UInt8)).map sB
noncomputable def a5s:List D:=([[], [115,112,97,110], [99,104,105,108,100], [100,101,115,99,101,110,100,97,110,116], [115,105,98,108,105,110,103], [102,111,108,108,111,119,115], [108,105,110,107,101,100], [97,110,100], [111,114], [110,111,116]]:List (List UInt8)).map sB
noncomputable def a8q:List D:=([[111,110,101], [109,97,110,121,116,111,111,110,101], [111,110,101,116,111,109,97,110,121]]:List (List UInt8)).map sB
noncomputable def Z3:List D:=([[], [110,117,109,98,101,114], [119,105,110,100,111,119], [108,111,103,99,111,117,110,116], [116,114,97,99,101,99,111,117,110,116], [102,108,97,109,101,119,101,105,103,104,116], [97,103,103,114,101,103,97,116,101], [98,105,110,97,114,121], [108,111,103,115], [116,114,97,99,101,115], [102,108,97,109,101], [101,120,101,109,112,108,97,114,116,114,97,99,101,115], [108,111,103,115,111,102], [118,105,101,119]]:List (List UInt8)).map sB
noncomputable def f6h:Tab:=f7b.add 168 (cLr opR)
noncomputable def f6g:Tab:=f6h.add 169 (cLr S7)
noncomputable def f6i:Tab:=f6g.add 167 (cLr a5s)
noncomputable def f7d:Tab:=f6i.add 102 (cLr a8q)
noncomputable def T99:Tab:=f7d.add 99 (cLr Z3)
def MTx (y:D):Prop:=a2a y∧1≤A1 (A0 y 0)∧(A1 (A0 y 0)).toNat<opR.length∧(A5 (A0 y 1)).size≤4096∧(A5 (A0 y 2)).size≤4096
def b7e (xs:List D):Prop:=xs.length≤128∧∀y∈xs,MTx y
noncomputable def f3w:Code:=D6 (C6 (A7 Tryz.f105) 6)
theorem h3t (xs:List D) (ts:List D) (b:Bool) (i:Int) (R:X→List V→List Box→Prop):(D7 (Cn T99) T99 D4 0 C5 B1 f3w 37 [0,3,4] [[5000]] [] [([5000], [37])] [3] [([5000], [5000])]
 [V.d (D.slice b 3 xs),V.ref [5000],A3 i] [Box.arr true false 9 1 ts []] R) =
 (bif decide (i<(↑xs.length:Int)) then
 (True∧
 ((((0:Int)≤i)∧(i.toNat<xs.length∧mV (xs.getD i.toNat D.any)=xs.getD i.toNat D.any))∧
 ((((0:Int)≤A1 (A0 (xs.getD i.toNat D.any) 0))∧((A1 (A0 (xs.getD i.toNat D.any) 0)).toNat<opR.length∧zD (A5 (opR.getD (A1 (A0 (xs.getD i.toNat D.any) 0)).toNat D.any)) =
 opR.getD (A1 (A0 (xs.getD i.toNat D.any) 0)).toNat D.any))∧
 ((((0:Int)≤i)∧(i.toNat<xs.length∧mV (xs.getD i.toNat D.any)=xs.getD i.toNat D.any))∧
 ((((0:Int)≤i)∧(i.toNat<xs.length∧mV (xs.getD i.toNat D.any)=xs.getD i.toNat D.any))∧
 ((A5 (A0 (xs.getD i.toNat D.any) 2)).size.le 17592186044400∧
 ((1=1∧(Y2
 [zD (A5 (opR.getD (A1 (A0 (xs.getD i.toNat D.any) 0)).toNat D.any)),
 zD (A5 (A0 (xs.getD i.toNat D.any) 1)),
 zD (m4 (A5 (A0 (xs.getD i.toNat D.any) 2)))]∧((P4
 [zD (A5 (opR.getD (A1 (A0 (xs.getD i.toNat D.any) 0)).toNat D.any)),
 zD (A5 (A0 (xs.getD i.toNat D.any) 1)),
 zD (m4 (A5 (A0 (xs.getD i.toNat D.any) 2)))]).size≤
 9223372036854775806∧3≤1152921504606846976)))∧
 (bif ((ts.length+1)*16).ble 70368744177664 then
 (37=37∧
 R X.normal [V.d (D.slice b 3 xs),V.ref [5000],A3 (IntKind.i64.wrap (i+1))]
 [Box.arr true false 9 1
 (ts ++
 [zD (N4
 [zD (A5 (opR.getD (A1 (A0 (xs.getD i.toNat D.any) 0)).toNat D.any)),
 zD (A5 (A0 (xs.getD i.toNat D.any) 1)),
 zD (m4 (A5 (A0 (xs.getD i.toNat D.any) 2)))])])
 []]) else
 False)))))))) else
 (37=37∧
 R (X.exit 0) [V.ref [5000]] [Box.arr true false 9 1 ts []])):=by kernel_rfl
def wdD (l:List D) (k:Int):D:=.lit (.string (A5 (l.getD k.toNat .any)))
def sDD (y:D) (i:Nat):D:=.lit (.string (A5 (A0 y i)))
noncomputable def qDD (y:D) (i:Nat):D:=.lit (.string (m4 (A5 (A0 y i))))
noncomputable def a2c (y:D):D:=.lit (.string (N4 [wdD opR (A1 (A0 y 0)),sDD y 1,qDD y 2]))
noncomputable def f8h:Ev.Spec:={L:=[0,3,4],ns:=[([5000],[7])],L':=[3],nm':=[[5000]],G:=fun N vals bs k=>match vals,bs with
 | [.d (.slice b 3 xs), .ref [5000], .d (.lit (.int .i64 i))], [.arr true false 9 1 ts []]=>(N=37∧i=0∧ts= []∧b7e xs)∧k (.exit 0) [.ref [5000]] [.arr true false 9 1 (xs.map a2c) []]
 | _,_=>False }
theorem h6y (xs:List D) (b:Bool) (p:V→Prop):(B7 (Cn T99) T99 D4 0 (spL [(6,f8h)]) B1 105 [V.d (D.slice b 3 xs)] B4.empty fun v H=>p (B5 H v)) =
 ((37=37∧(((0:Int)=0)∧(([]:List D)= []∧b7e xs)))∧
 p (V.d (D.slice false 1 (List.map a2c xs)))):=by kernel_rfl
noncomputable def h2h:Ct:=⟨fun | [.slice _ z xs]=>z=3∧b7e xs|_=>False,fun | [.slice _ _ xs]=>some (.slice false 1 (xs.map a2c))|_=>none⟩
noncomputable def d4r:Tab:=T99.add 105 h2h
def d7u (xs:List D):Prop:=xs.length≤128∧∀y∈xs,a2d y∧(A5 y).size≤4096
def STx (y:D):Prop:=a2e y∧1≤A1 (A0 y 0)∧(A1 (A0 y 0)).toNat<S7.length∧(A5 (A0 y 1)).size≤4096∧b7e (A2 (A0 y 2))∧d7u (A2 (A0 y 3))
def d7t (xs:List D):Prop:=xs.length≤128∧∀y∈xs,STx y
noncomputable def f3v:Code:=D6 (C6 (A7 Tryz.f106) 6)
theorem h3s (xs:List D) (ts:List D) (b:Bool) (i:Int) (R:X→List V→List Box→Prop):(D7 (Cn d4r) d4r D4 0 C5 B1 f3v 58 [0,3,4] [[5000]] [] [([5000], [57])] [3] [([5000], [5000])]
 [V.d (D.slice b 4 xs),V.ref [5000],A3 i] [Box.arr true false 9 1 ts []] R) =
 (bif decide (i<(↑xs.length:Int)) then
 (True∧
 ((((0:Int)≤i)∧(i.toNat<xs.length∧gV (xs.getD i.toNat D.any)=xs.getD i.toNat D.any))∧
 ((((0:Int)≤A1 (A0 (xs.getD i.toNat D.any) 0))∧((A1 (A0 (xs.getD i.toNat D.any) 0)).toNat<S7.length∧zD (A5 (S7.getD (A1 (A0 (xs.getD i.toNat D.any) 0)).toNat D.any)) =
 S7.getD (A1 (A0 (xs.getD i.toNat D.any) 0)).toNat D.any))∧
 ((((0:Int)≤i)∧(i.toNat<xs.length∧gV (xs.getD i.toNat D.any)=xs.getD i.toNat D.any))∧
 (bif decide (A1 (A0 (xs.getD i.toNat D.any) 0)≤3) then
 ((((0:Int)≤i)∧(i.toNat<xs.length∧gV (xs.getD i.toNat D.any)=xs.getD i.toNat D.any))∧
 ((A5 (A0 (xs.getD i.toNat D.any) 1)).size.le 17592186044400∧
 ((((0:Int)≤i)∧(i.toNat<xs.length∧gV (xs.getD i.toNat D.any)=xs.getD i.toNat D.any))∧
 ((3=3∧b7e (A2 (A0 (xs.getD i.toNat D.any) 2)))∧
 (bif ((2+((List.map a2c (A2 (A0 (xs.getD i.toNat D.any) 2))).length+0))*16).ble 70368744177664 then
 ((((0:Int)≤i)∧(i.toNat<xs.length∧gV (xs.getD i.toNat D.any)=xs.getD i.toNat D.any))∧
 (bif ((([zD (A5 (S7.getD (A1 (A0 (xs.getD i.toNat D.any) 0)).toNat D.any)),
 zD (m4 (A5 (A0 (xs.getD i.toNat D.any) 1)))] ++
 List.map a2c (A2 (A0 (xs.getD i.toNat D.any) 2))).length +
 ((A2 (A0 (xs.getD i.toNat D.any) 3)).length+0)) *
 16).ble
 70368744177664 then
 ((1=1∧(Y2
 ([zD (A5 (S7.getD (A1 (A0 (xs.getD i.toNat D.any) 0)).toNat D.any)),
 zD (m4 (A5 (A0 (xs.getD i.toNat D.any) 1)))] ++
 List.map a2c (A2 (A0 (xs.getD i.toNat D.any) 2)) ++
 A2 (A0 (xs.getD i.toNat D.any) 3))∧((P4
 ([zD (A5 (S7.getD (A1 (A0 (xs.getD i.toNat D.any) 0)).toNat D.any)),
 zD (m4 (A5 (A0 (xs.getD i.toNat D.any) 1)))] ++
 List.map a2c (A2 (A0 (xs.getD i.toNat D.any) 2)) ++
 A2 (A0 (xs.getD i.toNat D.any) 3))).size≤
 9223372036854775806∧([zD (A5 (S7.getD (A1 (A0 (xs.getD i.toNat D.any) 0)).toNat D.any)),
 zD (m4 (A5 (A0 (xs.getD i.toNat D.any) 1)))] ++
 List.map a2c (A2 (A0 (xs.getD i.toNat D.any) 2)) ++
 A2 (A0 (xs.getD i.toNat D.any) 3)).length≤
 1152921504606846976)))∧
 (bif ((ts.length+1)*16).ble 70368744177664 then
 (58=58∧
 R X.normal [V.d (D.slice b 4 xs),V.ref [5000],A3 (IntKind.i64.wrap (i+1))]
 [Box.arr true false 9 1
 (ts ++
 [zD (N4
 ([zD (A5 (S7.getD (A1 (A0 (xs.getD i.toNat D.any) 0)).toNat D.any)),
 zD (m4 (A5 (A0 (xs.getD i.toNat D.any) 1)))] ++
 List.map a2c (A2 (A0 (xs.getD i.toNat D.any) 2)) ++
 A2 (A0 (xs.getD i.toNat D.any) 3)))])
 []]) else
 False)) else
 False)) else
 False))))) else
 ((((0:Int)≤i)∧(i.toNat<xs.length∧gV (xs.getD i.toNat D.any)=xs.getD i.toNat D.any))∧
 ((3=3∧b7e (A2 (A0 (xs.getD i.toNat D.any) 2)))∧
 (bif ((1+((List.map a2c (A2 (A0 (xs.getD i.toNat D.any) 2))).length+0))*16).ble 70368744177664 then
 ((((0:Int)≤i)∧(i.toNat<xs.length∧gV (xs.getD i.toNat D.any)=xs.getD i.toNat D.any))∧
 (bif ((([zD (A5 (S7.getD (A1 (A0 (xs.getD i.toNat D.any) 0)).toNat D.any))] ++
 List.map a2c (A2 (A0 (xs.getD i.toNat D.any) 2))).length +
 ((A2 (A0 (xs.getD i.toNat D.any) 3)).length+0)) *
 16).ble
 70368744177664 then
 ((1=1∧(Y2
 ([zD (A5 (S7.getD (A1 (A0 (xs.getD i.toNat D.any) 0)).toNat D.any))] ++
 List.map a2c (A2 (A0 (xs.getD i.toNat D.any) 2)) ++
 A2 (A0 (xs.getD i.toNat D.any) 3))∧((P4
 ([zD (A5 (S7.getD (A1 (A0 (xs.getD i.toNat D.any) 0)).toNat D.any))] ++
 List.map a2c (A2 (A0 (xs.getD i.toNat D.any) 2)) ++
 A2 (A0 (xs.getD i.toNat D.any) 3))).size≤
 9223372036854775806∧([zD (A5 (S7.getD (A1 (A0 (xs.getD i.toNat D.any) 0)).toNat D.any))] ++
 List.map a2c (A2 (A0 (xs.getD i.toNat D.any) 2)) ++
 A2 (A0 (xs.getD i.toNat D.any) 3)).length≤
 1152921504606846976)))∧
 (bif ((ts.length+1)*16).ble 70368744177664 then
 (58=58∧
 R X.normal [V.d (D.slice b 4 xs),V.ref [5000],A3 (IntKind.i64.wrap (i+1))]
 [Box.arr true false 9 1
 (ts ++
 [zD (N4
 ([zD (A5 (S7.getD (A1 (A0 (xs.getD i.toNat D.any) 0)).toNat D.any))] ++
 List.map a2c (A2 (A0 (xs.getD i.toNat D.any) 2)) ++
 A2 (A0 (xs.getD i.toNat D.any) 3)))])
 []]) else
 False)) else
 False)) else
 False)))))))) else
 (58=58∧
 R (X.exit 0) [V.ref [5000]] [Box.arr true false 9 1 ts []])):=by kernel_rfl
noncomputable def d8k (y:D):List D:=(bif decide (A1 (A0 y 0)≤3) then [wdD S7 (A1 (A0 y 0)),qDD y 1] else [wdD S7 (A1 (A0 y 0))])++(A2 (A0 y 2)).map a2c++A2 (A0 y 3)
noncomputable def b3s (y:D):D:=.lit (.string (N4 (d8k y)))
noncomputable def f8g:Ev.Spec:={L:=[0,3,4],ns:=[([5000],[8])],L':=[3],nm':=[[5000]],G:=fun N vals bs k=>match vals,bs with
 | [.d (.slice b 4 xs), .ref [5000], .d (.lit (.int .i64 i))], [.arr true false 9 1 ts []]=>(N=58∧i=0∧ts= []∧d7t xs)∧k (.exit 0) [.ref [5000]] [.arr true false 9 1 (xs.map b3s) []]
 | _,_=>False }
theorem h6x (xs:List D) (b:Bool) (p:V→Prop):(B7 (Cn d4r) d4r D4 0 (spL [(6,f8g)]) B1 106 [V.d (D.slice b 4 xs)] B4.empty fun v H=>p (B5 H v)) =
 ((58=58∧(((0:Int)=0)∧(([]:List D)= []∧d7t xs)))∧
 ((1=1∧(Y2 (List.map b3s xs)∧((P4 (List.map b3s xs)).size≤9223372036854775806∧(List.map b3s xs).length≤1152921504606846976)))∧
 p (C9 (N4 (List.map b3s xs))))):=by kernel_rfl
noncomputable def h2g:Ct:=⟨fun | [.slice _ z xs]=>z=4∧d7t xs|_=>False,fun | [.slice _ _ xs]=>some (.lit (.string (N4 (xs.map b3s))))|_=>none⟩
noncomputable def g5e:Tab:=d4r.add 106 h2g
def Lim (M:Nat) (l:List D):Prop:=∀y∈l,a2d y∧(A5 y).size≤M
theorem Lim.str {M:Nat} {l:List D} (h:Lim M l):Y2 l:=fun y hy=>(h y hy).1
theorem Lim.nil {M:Nat}:Lim M []:=fun y hy=>by simp at hy
theorem Lim.cons {M:Nat} {l:List D} {s:ByteArray} (hs:s.size≤M) (h:Lim M l):Lim M (.lit (.string s)::l):=fun y hy=>by
 rcases List.mem_cons.1 hy with rfl|hy
 ·exact ⟨rfl,hs⟩
 ·exact h y hy
theorem Lim.app {M:Nat} {l m:List D} (h:Lim M l) (h':Lim M m):Lim M (l++m):=fun y hy=>by
 rcases List.mem_append.1 hy with hy|hy
 ·exact h y hy
 ·exact h' y hy
theorem Lim.map {M:Nat} {f:D→ByteArray} {l:List D} (h:∀y∈l,(f y).size≤M):Lim M (l.map fun y=>.lit (.string (f y))):=fun y hy=>by
 obtain ⟨a,ha,rfl⟩:=List.mem_map.1 hy
 exact ⟨rfl,h a ha⟩
theorem Lim.mono {M M':Nat} {l:List D} (h:Lim M l) (hm:M≤M'):Lim M' l:=fun y hy=>⟨(h y hy).1,Nat.le_trans (h y hy).2 hm⟩
theorem d2j {M:Nat}:∀{l:List D} {f:Bool} {a:ByteArray},Lim M l→(a5j f a l).size≤a.size+l.length*(M+1)
 | [],f,a,_=>by simp[a5j]
 | x::r,f,a,h=>by
  unfold a5j
  refine Nat.le_trans (d2j fun y hy=>h y (List.mem_cons_of_mem _ hy)) ?_
  have hx:=(h x (by simp)).2
  have h1:(ByteArray.mk (Array.mk [32])).size=1:=rfl
  rw[List.length_cons,Nat.add_mul]
  cases f<;>simp only[cond_true,cond_false,Y6]<;>omega
theorem i7 {l:List D} {M n b:Nat} (h:Lim M l) (hc:l.length≤n) (hb:n*(M+1)+2≤b):(P4 l).size<b∧(N4 l).size≤b:=by
 have h1:=d2j (f:=true) (a:=ByteArray.mk (Array.mk [40])) h
 have h2:l.length*(M+1)≤n*(M+1):=Nat.mul_le_mul_right _ hc
 have h3:(ByteArray.mk (Array.mk [40])).size=1:=rfl
 have h4:(ByteArray.mk (Array.mk [41])).size=1:=rfl
 unfold P4 N4
 rw[Y6]
 omega
theorem a8e (s:ByteArray):(m4 s).size≤2*s.size+2:=by
 show ((b8y s).map _).length≤_
 have:=d5m (s:=s) (n:=s.size) (i:=0)
 unfold b8y
 simp only[List.length_map,List.length_append,List.length_cons,List.length_nil]
 omega
theorem a6i {l:List (List UInt8)} (h:l.all (fun b=>b.length.ble 16)=true):Lim 16 (l.map sB):=fun y hy=>by
 obtain ⟨a,ha,rfl⟩:=List.mem_map.1 hy
 exact ⟨rfl,Nat.le_of_ble_eq_true (List.all_eq_true.1 h a ha)⟩
theorem a9i:Lim 16 opR:=a6i rfl
theorem b8i:Lim 16 S7:=a6i rfl
theorem c9n:Lim 16 a5s:=a6i rfl
theorem b9n:Lim 16 a8q:=a6i rfl
theorem c4v:Lim 16 Z3:=a6i rfl
theorem a3m {l:List D} {k:Int} (h:Lim 16 l) (hk:k.toNat<l.length):wdD l k=l.getD k.toNat .any∧(A5 (l.getD k.toNat .any)).size≤16 :=
 h _ (E1 hk)
theorem e2w {n d:Int} (h:(m3 n d !=0)=false):(1≤d∧d≤1152921504606846976)∧ -1152921504606846976≤n∧n≤1152921504606846976:=by
 have two:∀{a b:Prop} [Decidable a] [Decidable b],(bif decide a then true else decide b)=false→¬a∧¬b:=by
  intro a b _ _ h
  by_cases ha:a
  ·rw[decide_eq_true ha] at h;cases h
  ·rw[decide_eq_false ha] at h
   exact ⟨ha,of_decide_eq_false h⟩
 unfold m3 at h
 cases h1:(bif decide (d<1) then true else decide (d>1152921504606846976)) with
 | true=>rw[h1,cond_true] at h;exact absurd h (by decide)
 | false =>
  rw[h1] at h
  simp only[cond_false] at h
  cases h2:(bif decide (n< -1152921504606846976) then true else decide (n>1152921504606846976)) with
  | true=>rw[h2,cond_true] at h;exact absurd h (by decide)
  | false =>
   have a:=two h1
   have b:=two h2
   omega
theorem f4k {n:Int} (h0:0≤n) (h1:n≤1152921504606846976):c7j n 1=W0 n:=by
 have e:m3 n 1=0:=by
  unfold m3
  rw[show decide ((1:Int)<1)=false by decide,show decide ((1:Int)>1152921504606846976)=false by decide,decide_eq_false (show ¬n< -1152921504606846976 by omega),decide_eq_false (show ¬n>1152921504606846976 by omega),show IntKind.u64.wrap 1=1 from rfl]
  simp
 unfold c7j
 rw[e,decide_eq_false (show ¬n<0 by omega),show decide ((1:Int)>1)=false by decide,show ((n.natAbs:Nat):Int)=n by omega]
 rfl
theorem h9y:C2 B f7e:=by
 refine C3 C4 h9s (fn:=Tryz.f101) (cd:=A7 Tryz.f101) (sp:=C5) (hn:=B1) Tryz.func101 (by kernel_rfl) (by kernel_rfl) A8 fun ds r hp hr=>?_
 unfold h2j at hp hr
 simp only[] at hr hp
 split at hr
 ·rename_i n d
  cases hr
  refine keep (h7c n d fun v=>v=_) ?_
  have l1:=a3g (n.natAbs:Nat)
  have l2:=a3g d
  have l3:(bA [47]).size=1:=rfl
  have l4:(bA [45]).size=1:=rfl
  unfold c7j
  refine ⟨(by trivial),A4 (fun g=>?_) (fun g=>?_)⟩
  ·simp only[g,cond_true]
  ·simp only[g,cond_false]
   have hr:=e2w g
   refine ⟨⟨by omega,by omega⟩,⟨by omega,by omega⟩,A4 (fun g=>?_) (fun g=>?_)⟩
   ·simp only[g,cond_true]
    refine ⟨by omega,A4 (fun g=>?_) (fun g=>?_)⟩
    ·simp only[g,cond_true]
     exact ⟨by rw[Y6];omega,⟨by omega,by omega⟩,by simp only[Y6];omega,(by trivial)⟩
    ·simp only[g,cond_false]
   ·simp only[g,cond_false]
    refine A4 (fun g=>?_) (fun g=>?_)
    ·simp only[g,cond_true]
     exact ⟨by omega,⟨by omega,by omega⟩,by simp only[Y6];omega,(by trivial)⟩
    ·simp only[g,cond_false]
 ·cases hr
theorem h9u:C2 B f7b:=by
 refine C3 C4 h9y (fn:=Tryz.f107) (cd:=A7 Tryz.f107) (sp:=C5) (hn:=B1) Tryz.func107 (by kernel_rfl) (by kernel_rfl) A8 fun ds r hp hr=>?_
 unfold h2f at hp hr
 simp only[] at hr hp
 split at hr
 ·rename_i n
  cases hr
  obtain ⟨h0,h1⟩:=hp
  refine keep (h6w n fun v=>v=_) ?_
  rw[f4k h0 h1]
  exact ⟨(by trivial),rfl⟩
 ·cases hr
theorem h5v (p:V→Prop):(B7 (Cn f7b) f7b D4 0 C5 B1 168 [] B4.empty fun v H=>p (B5 H v))=p (.d (.slice false 1 opR)):=by kernel_rfl
theorem h9b:C2 B f6h:=by
 refine C3 C4 h9u (fn:=Tryz.f168) (cd:=A7 Tryz.f168) (sp:=C5) (hn:=B1) Tryz.func168 (by kernel_rfl) (by kernel_rfl) A8 fun ds r hp hr=>?_
 unfold cLr at hr
 simp only[] at hr
 split at hr
 ·cases hr
  exact keep (h5v fun v=>v=_) rfl
 ·cases hr
theorem h5u (p:V→Prop):(B7 (Cn f6h) f6h D4 0 C5 B1 169 [] B4.empty fun v H=>p (B5 H v))=p (.d (.slice false 1 S7)):=by kernel_rfl
theorem h9a:C2 B f6g:=by
 refine C3 C4 h9b (fn:=Tryz.f169) (cd:=A7 Tryz.f169) (sp:=C5) (hn:=B1) Tryz.func169 (by kernel_rfl) (by kernel_rfl) A8 fun ds r hp hr=>?_
 unfold cLr at hr
 simp only[] at hr
 split at hr
 ·cases hr
  exact keep (h5u fun v=>v=_) rfl
 ·cases hr
theorem h5w (p:V→Prop):(B7 (Cn f6g) f6g D4 0 C5 B1 167 [] B4.empty fun v H=>p (B5 H v))=p (.d (.slice false 1 a5s)):=by kernel_rfl
theorem h9c:C2 B f6i:=by
 refine C3 C4 h9a (fn:=Tryz.f167) (cd:=A7 Tryz.f167) (sp:=C5) (hn:=B1) Tryz.func167 (by kernel_rfl) (by kernel_rfl) A8 fun ds r hp hr=>?_
 unfold cLr at hr
 simp only[] at hr
 split at hr
 ·cases hr
  exact keep (h5w fun v=>v=_) rfl
 ·cases hr
theorem h7b (p:V→Prop):(B7 (Cn f6i) f6i D4 0 C5 B1 102 [] B4.empty fun v H=>p (B5 H v))=p (.d (.slice false 1 a8q)):=by kernel_rfl
theorem h9x:C2 B f7d:=by
 refine C3 C4 h9c (fn:=Tryz.f102) (cd:=A7 Tryz.f102) (sp:=C5) (hn:=B1) Tryz.func102 (by kernel_rfl) (by kernel_rfl) A8 fun ds r hp hr=>?_
 unfold cLr at hr
 simp only[] at hr
 split at hr
 ·cases hr
  exact keep (h7b fun v=>v=_) rfl
 ·cases hr
theorem w99 (p:V→Prop):(B7 (Cn f7d) f7d D4 0 C5 B1 99 [] B4.empty fun v H=>p (B5 H v))=p (.d (.slice false 1 Z3)):=by kernel_rfl
theorem k99:C2 B T99:=by
 refine C3 C4 h9x (fn:=Tryz.f99) (cd:=A7 Tryz.f99) (sp:=C5) (hn:=B1) Tryz.func99 (by kernel_rfl) (by kernel_rfl) A8 fun ds r hp hr=>?_
 unfold cLr at hr
 simp only[] at hr
 split at hr
 ·cases hr
  exact keep (w99 fun v=>v=_) rfl
 ·cases hr
theorem c6t {y:D} (h:MTx y):(N4 [wdD opR (A1 (A0 y 0)),sDD y 1,qDD y 2]).size≤32768:=by
 obtain ⟨_,h0,h1,h2,h3⟩:=h
 have hq:=a8e (A5 (A0 y 2))
 refine (i7 (M:=8194) (n:=3) (b:=32768) (.cons ?_ (.cons ?_ (.cons ?_ .nil))) (by simp) (by decide)).2
 ·exact Nat.le_trans (a3m a9i h1).2 (by decide)
 ·exact Nat.le_trans h2 (by decide)
 ·exact Nat.le_trans hq (by omega)
theorem a7w {f:D→D} {xs:List D} {i:Nat} (h:i<xs.length):(xs.take i).map f++ [f (xs.getD i .any)]=(xs.take (i+1)).map f:=by
 rw[List.take_add_one,List.map_append,List.getElem?_eq_getElem h,List.getD_eq_getElem?_getD,List.getElem?_eq_getElem h];rfl
theorem g7m:OkS (Cn T99) 0 (.loop f3w) f8h:=by
 refine D2 fun N vals bs K h=>?_
 simp only[f8h] at h
 split at h
 case h_2=>exact h.elim
 rename_i b xs i ts
 obtain ⟨⟨rfl,rfl,rfl,hn,hall⟩,h⟩:=h
 have main:∀k i ts,i+k=xs.length→ts=(xs.take i).map a2c→J5 (Cn T99) 0 f3w 37 [0,3,4] [[5000]] [3] [[5000]] [.d (.slice b 3 xs), .ref [5000],A3 i] [.arr true false 9 1 ts []] K:=by
  intro k
  induction k with
  | zero =>
   intro i ts hi hts
   rw[List.take_of_length_le (by omega)] at hts
   subst hts
   refine B6 (D1 C4 k99 B9) C1 A8 (hn:=B1) (adsI:=[]) (nsI:=[([5000],[37])]) (nsX:=[([5000],[5000])]) rfl rfl (keep (h3t xs _ b i _) ?_)
   rw[show decide ((i:Int)<(xs.length:Int))=false by simp;omega]
   exact ⟨(by trivial),h⟩
  | succ k ih =>
   intro i ts hi hts
   refine B6 (D1 C4 k99 B9) C1 A8 (hn:=B1) (adsI:=[]) (nsI:=[([5000],[37])]) (nsX:=[([5000],[5000])]) rfl rfl (keep (h3t xs ts b i _) ?_)
   have e2:IntKind.i64.wrap ((i:Int)+1)=((i+1:Nat):Int):=by rw[Go.IntWalk.i64_in _ (by omega)];omega
   have hm:=hall _ (E1 (xs:=xs) (i:=i) (by omega))
   have hlt:i<xs.length:=by omega
   have hl:ts.length=i:=by rw[hts,List.length_map,List.length_take];omega
   have e3:((ts.length+1)*16).ble 70368744177664=true:=by rw[hl,Nat.ble_eq];omega
   simp only[show decide ((i:Int)<(xs.length:Int))=true by simp;omega,cond_true,Int.toNat_natCast,e2,e3]
   obtain ⟨hv,h0,h1,h2,h3⟩:=hm
   have hq:=a8e (A5 (A0 (xs.getD i .any) 2))
   have hlim:Lim 8194 [wdD opR (A1 (A0 (xs.getD i .any) 0)),sDD (xs.getD i .any) 1,qDD (xs.getD i .any) 2]:=.cons (Nat.le_trans (a3m a9i h1).2 (by decide)) (.cons (Nat.le_trans h2 (by decide)) (.cons (Nat.le_trans hq (by omega)) .nil))
   have hi0:(0:Int)≤i∧i<xs.length∧mV (xs.getD i .any)=xs.getD i .any:=⟨by omega,hlt,hv⟩
   refine ⟨(by trivial),hi0,⟨Int.le_trans (by decide) h0,h1,(a3m a9i h1).1⟩,hi0,hi0, ?_,⟨(by trivial),hlim.str, ?_,by decide⟩,(by trivial),ih (i+1) _ (by omega) ?_⟩
   ·exact Nat.le_trans h3 (by decide)
   ·have:=(i7 (n:=3) (b:=32768) hlim (by simp) (by decide)).1
    refine Nat.le_trans (Nat.le_of_lt this) (by decide)
   ·rw[hts];exact a7w hlt
 exact main xs.length 0 [] (by omega) (by simp)
theorem g3d:C2 B d4r:=by
 refine C3 C4 k99 (fn:=Tryz.f105) (cd:=A7 Tryz.f105) (sp:=spL [(6,f8h)]) (hn:=B1) Tryz.func105 (by kernel_rfl) (by kernel_rfl) (B8 (c:=.loop f3w) (by kernel_rfl) g7m C8) fun ds r hp hr=>?_
 unfold h2h at hp hr
 simp only[] at hr hp
 split at hr
 ·rename_i b z xs
  cases hr
  obtain ⟨rfl,hall⟩:=hp
  exact keep (h6y xs b fun v=>v=_) ⟨⟨(by trivial),(by trivial),rfl,hall⟩,rfl⟩
 ·cases hr
theorem e5o {y:D} (h:STx y) {hd:List D} (hh:Lim 32768 hd) (hl:hd.length≤2):Lim 32768 (hd++(A2 (A0 y 2)).map a2c++A2 (A0 y 3))∧(hd++(A2 (A0 y 2)).map a2c++A2 (A0 y 3)).length≤258:=by
 obtain ⟨_,_,_,_,⟨hm,hma⟩,hn,hna⟩:=h
 refine ⟨(hh.app (Lim.map fun a ha=>c6t (hma a ha))).app fun a ha=>⟨(hna a ha).1,Nat.le_trans (hna a ha).2 (by decide)⟩, ?_⟩
 simp only[List.length_append,List.length_map];omega
theorem b5b {y:D} (h:STx y):Lim 32768 (d8k y)∧(d8k y).length≤258:=by
 have hw:(A5 (S7.getD (A1 (A0 y 0)).toNat .any)).size≤32768:=Nat.le_trans (a3m b8i h.2.2.1).2 (by decide)
 have hq:(m4 (A5 (A0 y 1))).size≤32768:=Nat.le_trans (a8e _) (by have:=h.2.2.2.1;omega)
 refine e5o h ?_ ?_
 ·cases decide (A1 (A0 y 0)≤3)
  ·exact .cons hw .nil
  ·exact .cons hw (.cons hq .nil)
 ·cases decide (A1 (A0 y 0)≤3)<;>simp
theorem g7k:OkS (Cn d4r) 0 (.loop f3v) f8g:=by
 refine D2 fun N vals bs K h=>?_
 simp only[f8g] at h
 split at h
 case h_2=>exact h.elim
 rename_i b xs i ts
 obtain ⟨⟨rfl,rfl,rfl,hn,hall⟩,h⟩:=h
 have main:∀k i ts,i+k=xs.length→ts=(xs.take i).map b3s→J5 (Cn d4r) 0 f3v 58 [0,3,4] [[5000]] [3] [[5000]] [.d (.slice b 4 xs), .ref [5000],A3 i] [.arr true false 9 1 ts []] K:=by
  intro k
  induction k with
  | zero =>
   intro i ts hi hts
   rw[List.take_of_length_le (by omega)] at hts
   subst hts
   refine B6 (D1 C4 g3d B9) C1 A8 (hn:=B1) (adsI:=[]) (nsI:=[([5000],[57])]) (nsX:=[([5000],[5000])]) rfl rfl (keep (h3s xs _ b i _) ?_)
   rw[show decide ((i:Int)<(xs.length:Int))=false by simp;omega]
   exact ⟨(by trivial),h⟩
  | succ k ih =>
   intro i ts hi hts
   refine B6 (D1 C4 g3d B9) C1 A8 (hn:=B1) (adsI:=[]) (nsI:=[([5000],[57])]) (nsX:=[([5000],[5000])]) rfl rfl (keep (h3s xs ts b i _) ?_)
   have e2:IntKind.i64.wrap ((i:Int)+1)=((i+1:Nat):Int):=by rw[Go.IntWalk.i64_in _ (by omega)];omega
   have hm:=hall _ (E1 (xs:=xs) (i:=i) (by omega))
   have hlt:i<xs.length:=by omega
   have hl:ts.length=i:=by rw[hts,List.length_map,List.length_take];omega
   have e3:((ts.length+1)*16).ble 70368744177664=true:=by rw[hl,Nat.ble_eq];omega
   have hlim:=b5b hm
   have hnext:=ih (i+1) (ts++ [b3s (xs.getD i .any)]) (by omega) (by rw[hts];exact a7w hlt)
   have hsz:=i7 (n:=258) (b:=16777216) hlim.1 hlim.2 (by decide)
   have hi0:(0:Int)≤i∧i<xs.length∧gV (xs.getD i .any)=xs.getD i .any:=⟨by omega,hlt,hm.1.v⟩
   simp only[show decide ((i:Int)<(xs.length:Int))=true by simp;omega,cond_true,Int.toNat_natCast,e2,e3]
   obtain ⟨hv,h0,h1,h2,hma,hna⟩:=hm
   have hma1:=hma.1
   have hna1:=hna.1
   refine ⟨(by trivial),hi0,⟨Int.le_trans (by decide) h0,h1,(a3m b8i h1).1⟩,hi0, ?_⟩
   unfold b3s at hnext
   unfold d8k at hnext hlim hsz
   cases hk:decide (A1 (A0 (xs.getD i .any) 0)≤3) with
   | true =>
    rw[hk] at hnext hlim hsz
    simp only[cond_true] at hnext hlim hsz ⊢
    have r1:((2+(((A2 (A0 (xs.getD i .any) 2)).map a2c).length+0))*16).ble 70368744177664=true:=by rw[Nat.ble_eq,List.length_map];omega
    have r2:∀z:List D,z.length≤4098→((z.length+((A2 (A0 (xs.getD i .any) 3)).length+0))*16).ble 70368744177664=true:=fun z hz=>by rw[Nat.ble_eq];omega
    rw[r1,r2 _ (by simp only[List.length_append,List.length_map,List.length_cons,List.length_nil];omega)]
    exact ⟨hi0,Nat.le_trans h2 (by decide),hi0,⟨(by trivial),hma⟩,hi0,⟨(by trivial),hlim.1.str,Nat.le_trans (Nat.le_of_lt hsz.1) (by decide),Nat.le_trans hlim.2 (by decide)⟩,(by trivial),hnext⟩
   | false =>
    rw[hk] at hnext hlim hsz
    simp only[cond_false] at hnext hlim hsz ⊢
    have r1:((1+(((A2 (A0 (xs.getD i .any) 2)).map a2c).length+0))*16).ble 70368744177664=true:=by rw[Nat.ble_eq,List.length_map];omega
    have r2:∀z:List D,z.length≤4098→((z.length+((A2 (A0 (xs.getD i .any) 3)).length+0))*16).ble 70368744177664=true:=fun z hz=>by rw[Nat.ble_eq];omega
    rw[r1,r2 _ (by simp only[List.length_append,List.length_map,List.length_cons,List.length_nil];omega)]
    exact ⟨hi0,⟨(by trivial),hma⟩,hi0,⟨(by trivial),hlim.1.str,Nat.le_trans (Nat.le_of_lt hsz.1) (by decide),Nat.le_trans hlim.2 (by decide)⟩,(by trivial),hnext⟩
 exact main xs.length 0 [] (by omega) (by simp)
theorem h9v:C2 B g5e:=by
 refine C3 C4 g3d (fn:=Tryz.f106) (cd:=A7 Tryz.f106) (sp:=spL [(6,f8g)]) (hn:=B1) Tryz.func106 (by kernel_rfl) (by kernel_rfl) (B8 (c:=.loop f3v) (by kernel_rfl) g7k C8) fun ds r hp hr=>?_
 unfold h2g at hp hr
 simp only[] at hr hp
 split at hr
 ·rename_i b z xs
  cases hr
  obtain ⟨rfl,hall⟩:=hp
  have hl:Lim 16777216 (xs.map b3s):=Lim.map fun y hy=>by
   have hlim:=b5b (hall.2 y hy)
   exact (i7 (n:=258) (b:=16777216) hlim.1 hlim.2 (by decide)).2
  have hsz:=i7 (n:=128) (b:=4294967296) hl (by rw[List.length_map];exact hall.1) (by decide)
  have hn:=hall.1
  refine keep (h6x xs b fun v=>v=_) ⟨⟨(by trivial),(by trivial),rfl,hall⟩,⟨rfl,hl.str,Nat.le_trans (Nat.le_of_lt hsz.1) (by decide), ?_⟩,rfl⟩
  show (xs.map b3s).length≤_
  rw[List.length_map];omega
 ·cases hr
def CTx (y:D):Prop:=a4z y∧1≤A1 (A0 y 1)∧(A1 (A0 y 1)).toNat<opR.length∧(A5 (A0 y 0)).size≤4096∧(A5 (A0 y 2)).size≤4096∧(L7 (A5 (A0 y 0))=true→0≤A1 (A0 y 3)∧A1 (A0 y 3)≤1152921504606846976)
noncomputable def a8x (y:D):D:=.lit (.string (N4 [wdD opR (A1 (A0 y 1)),sDD y 0,bif L7 (A5 (A0 y 0)) then .lit (.string (W0 (A1 (A0 y 3)))) else qDD y 2]))
def e9n (xs:List D):Prop:=xs.length≤128∧∀y∈xs,CTx y
def g5g:Nat→D→Prop
 | 0,_=>True
 | n+1,y=>(G7 y∧1≤A1 (A0 y 0)∧(A1 (A0 y 0)).toNat<a5s.length∧e9n (A2 (A0 y 1))∧M4 y≤100)∧∀a∈E3 y 2,g5g n a
structure PTx (y:D):Prop where
 h:∀n,g5g n y
noncomputable def f2k (rec:D→ByteArray) (y:D):ByteArray:=N4 ([wdD a5s (A1 (A0 y 0))]++(A2 (A0 y 1)).map a8x++(E3 y 2).map fun a=>.lit (.string (rec a)))
noncomputable def d5r (y:D):ByteArray:=b2x f2k (ByteArray.mk (Array.mk [])) (dsz y+1) y
noncomputable def pD (y:D):D:=.lit (.string (d5r y))
def h4c (κ:Nat) (xs:List D):Prop:=xs.length≤4096∧∀y∈xs,PTx y∧dsz y<κ
noncomputable def g4g:Ct:=⟨fun | [x]=>PTx x|_=>False,fun | [x]=>some (pD x)|_=>none⟩
noncomputable def b7d (κ:Nat):Tab:=g5e.add 103 (g4g.below μ1 κ)
noncomputable def f7c:Tab:=g5e.add 103 g4g
noncomputable def d9e:Code:=D6 (C6 (A7 Tryz.f103) 6)
noncomputable def d9d:Code:=D6 (C6 (A7 Tryz.f103) 22)
abbrev nmP:List (B2×B2):=[([5000],[5000]),([5001],[5001])]
theorem f9i (κ:Nat) (q:Int) (cs:List D) (xs:List D) (ts:List D) (b1:Bool) (b2:Bool) (i:Int) (R:X→List V→List Box→Prop):(D7 (Cn (b7d κ)) (b7d κ) D4 0 C5 B1 d9e 66 [1,3,4] [[5000], [5001]] [] [([5000], [5000]),([5001], [49])]
 [1,3] nmP [V.ptr [5000] 0,V.ref [5001],A3 i] [r5 q b1 cs b2 xs,Box.arr true false 9 1 ts []] R) =
 (bif decide (i<(↑cs.length:Int)) then
 ((((0:Int)≤i)∧(i.toNat<cs.length∧cV (cs.getD i.toNat D.any)=cs.getD i.toNat D.any))∧
 ((A5 (A0 (cs.getD i.toNat D.any) 2)).size.le 17592186044400∧
 (True∧
 (bif L7 (A5 (A0 (cs.getD i.toNat D.any) 0)) then
 ((((0:Int)≤A1 (A0 (cs.getD i.toNat D.any) 3))∧((A1 (A0 (cs.getD i.toNat D.any) 3):Int)≤1152921504606846976))∧
 (True∧
 ((((0:Int)≤A1 (A0 (cs.getD i.toNat D.any) 1))∧((A1 (A0 (cs.getD i.toNat D.any) 1)).toNat<7∧zD (A5 (opR.getD (A1 (A0 (cs.getD i.toNat D.any) 1)).toNat D.any)) =
 opR.getD (A1 (A0 (cs.getD i.toNat D.any) 1)).toNat D.any))∧
 ((1=1∧(Y2
 [zD (A5 (opR.getD (A1 (A0 (cs.getD i.toNat D.any) 1)).toNat D.any)),
 zD (A5 (A0 (cs.getD i.toNat D.any) 0)),
 zD (W0 (A1 (A0 (cs.getD i.toNat D.any) 3)))]∧((P4
 [zD (A5 (opR.getD (A1 (A0 (cs.getD i.toNat D.any) 1)).toNat D.any)),
 zD (A5 (A0 (cs.getD i.toNat D.any) 0)),
 zD (W0 (A1 (A0 (cs.getD i.toNat D.any) 3)))]).size≤
 9223372036854775806∧3≤1152921504606846976)))∧
 (bif ((ts.length+1)*16).ble 70368744177664 then
 (66=66∧
 R X.normal [V.ptr [5000] 0,V.ref [5001],A3 (IntKind.i64.wrap (i+1))]
 [Box.cells 30 [A3 q,V.d (D.slice b1 4 cs),V.d (D.slice b2 3 xs)],
 Box.arr true false 9 1
 (ts ++
 [zD (N4
 [zD (A5 (opR.getD (A1 (A0 (cs.getD i.toNat D.any) 1)).toNat D.any)),
 zD (A5 (A0 (cs.getD i.toNat D.any) 0)),
 zD (W0 (A1 (A0 (cs.getD i.toNat D.any) 3)))])])
 []]) else
 False))))) else
 (True∧
 ((((0:Int)≤A1 (A0 (cs.getD i.toNat D.any) 1))∧((A1 (A0 (cs.getD i.toNat D.any) 1)).toNat<7∧zD (A5 (opR.getD (A1 (A0 (cs.getD i.toNat D.any) 1)).toNat D.any)) =
 opR.getD (A1 (A0 (cs.getD i.toNat D.any) 1)).toNat D.any))∧
 ((1=1∧(Y2
 [zD (A5 (opR.getD (A1 (A0 (cs.getD i.toNat D.any) 1)).toNat D.any)),
 zD (A5 (A0 (cs.getD i.toNat D.any) 0)),
 zD (m4 (A5 (A0 (cs.getD i.toNat D.any) 2)))]∧((P4
 [zD (A5 (opR.getD (A1 (A0 (cs.getD i.toNat D.any) 1)).toNat D.any)),
 zD (A5 (A0 (cs.getD i.toNat D.any) 0)),
 zD (m4 (A5 (A0 (cs.getD i.toNat D.any) 2)))]).size≤
 9223372036854775806∧3≤1152921504606846976)))∧
 (bif ((ts.length+1)*16).ble 70368744177664 then
 (66=66∧
 R X.normal [V.ptr [5000] 0,V.ref [5001],A3 (IntKind.i64.wrap (i+1))]
 [Box.cells 30 [A3 q,V.d (D.slice b1 4 cs),V.d (D.slice b2 3 xs)],
 Box.arr true false 9 1
 (ts ++
 [zD (N4
 [zD (A5 (opR.getD (A1 (A0 (cs.getD i.toNat D.any) 1)).toNat D.any)),
 zD (A5 (A0 (cs.getD i.toNat D.any) 0)),
 zD (m4 (A5 (A0 (cs.getD i.toNat D.any) 2)))])])
 []]) else
 False)))))))) else
 (66=66∧
 R (X.exit 0) [V.ptr [5000] 0,V.ref [5001]]
 [Box.cells 30 [A3 q,V.d (D.slice b1 4 cs),V.d (D.slice b2 3 xs)],
 Box.arr true false 9 1 ts []])):=by kernel_rfl
theorem f9h (κ:Nat) (q:Int) (cs:List D) (xs:List D) (ts:List D) (b1:Bool) (b2:Bool) (i:Int) (R:X→List V→List Box→Prop):(D7 (Cn (b7d κ)) (b7d κ) D4 0 C5 B1 d9d 66 [1,3,7] [[5000], [5001]] [] [([5000], [5000]),([5001], [65])]
 [3] [([5001], [5001])] [V.ptr [5000] 0,V.ref [5001],A3 i] [r5 q b1 cs b2 xs,Box.arr true false 9 1 ts []] R) =
 (bif decide (i<(↑xs.length:Int)) then
 ((((0:Int)≤i)∧(i.toNat<xs.length∧pV (xs.getD i.toNat D.any)=xs.getD i.toNat D.any))∧
 ((PTx (pV (xs.getD i.toNat D.any))∧μ1 [pV (xs.getD i.toNat D.any)]<κ)∧
 (bif ((ts.length+1)*16).ble 70368744177664 then
 (66=66∧
 R X.normal [V.ptr [5000] 0,V.ref [5001],A3 (IntKind.i64.wrap (i+1))]
 [Box.cells 30 [A3 q,V.d (D.slice b1 4 cs),V.d (D.slice b2 3 xs)],
 Box.arr true false 9 1 (ts++ [zD (d5r (pV (xs.getD i.toNat D.any)))]) []]) else
 False))) else
 (66=66∧
 R (X.exit 2) [V.ref [5001]] [Box.arr true false 9 1 ts []])):=by kernel_rfl
noncomputable def e2h:Ev.Spec:={L:=[1,3,4],ns:=[([5000],[3]),([5001],[15])],L':=[1,3],nm':=[[5000],[5001]],G:=fun N vals bs k=>match vals,bs with
 | [.ptr [5000] 0, .ref [5001], .d (.lit (.int .i64 i))], [.cells 30 [.d (.lit (.int .i64 q)), .d (.slice b1 4 cs), .d (.slice b2 3 xs)], .arr true false 9 1 ts []]=>(N=66∧i=0∧ts.length≤1∧e9n cs)∧k (.exit 0) [.ptr [5000] 0, .ref [5001]] [r5 q b1 cs b2 xs, .arr true false 9 1 (ts++cs.map a8x) []]
 | _,_=>False }
noncomputable def e2g (κ:Nat):Ev.Spec:={L:=[1,3,7],ns:=[([5000],[5000]),([5001],[5001])],L':=[3],nm':=[[5001]],G:=fun N vals bs k=>match vals,bs with
 | [.ptr [5000] 0, .ref [5001], .d (.lit (.int .i64 i))], [.cells 30 [.d (.lit (.int .i64 q)), .d (.slice b1 4 cs), .d (.slice b2 3 xs)], .arr true false 9 1 ts []]=>(N=66∧i=0∧ts.length≤4097∧h4c κ xs)∧k (.exit 2) [.ref [5001]] [.arr true false 9 1 (ts++xs.map pD) []]
 | _,_=>False }
theorem h7a (κ:Nat) (y:D) (p:V→Prop):(B7 (Cn (b7d κ)) (b7d κ) D4 0 (spL [(6,e2h),(22,e2g κ)]) B1 103 [V.d (pV y)] B4.empty fun v H =>
 p (B5 H v)) =
 (True∧
 ((((0:Int)≤A1 (A0 y 0))∧((A1 (A0 y 0)).toNat<10∧zD (A5 (a5s.getD (A1 (A0 y 0)).toNat D.any))=a5s.getD (A1 (A0 y 0)).toNat D.any))∧
 ((66=66∧(((0:Int)=0)∧(1≤1∧e9n (A2 (A0 y 1)))))∧
 ((66=66∧(((0:Int)=0)∧(([zD (A5 (a5s.getD (A1 (A0 y 0)).toNat D.any))] ++
 List.map a8x (A2 (A0 y 1))).length≤
 4097∧h4c κ (A2 (A0 y 2)))))∧
 ((1=1∧(Y2
 ([zD (A5 (a5s.getD (A1 (A0 y 0)).toNat D.any))]++List.map a8x (A2 (A0 y 1)) ++
 List.map pD (A2 (A0 y 2)))∧((P4
 ([zD (A5 (a5s.getD (A1 (A0 y 0)).toNat D.any))] ++
 List.map a8x (A2 (A0 y 1)) ++
 List.map pD (A2 (A0 y 2)))).size≤
 9223372036854775806∧([zD (A5 (a5s.getD (A1 (A0 y 0)).toNat D.any))]++List.map a8x (A2 (A0 y 1)) ++
 List.map pD (A2 (A0 y 2))).length≤
 1152921504606846976)))∧
 p
 (C9 (N4
 ([zD (A5 (a5s.getD (A1 (A0 y 0)).toNat D.any))] ++
 List.map a8x (A2 (A0 y 1)) ++
 List.map pD (A2 (A0 y 2)))))))))):=by kernel_rfl
theorem PTx.l {y:D} (h:PTx y):G7 y∧1≤A1 (A0 y 0)∧(A1 (A0 y 0)).toNat<a5s.length∧e9n (A2 (A0 y 1))∧M4 y≤100:=(h.h 1).1
theorem PTx.a {y:D} (h:PTx y) {a:D} (ha:a∈E3 y 2):PTx a:=⟨fun n=>(h.h (n+1)).2 a ha⟩
theorem d5q (r r':D→ByteArray) (y:D) (h:∀a∈E3 y 2,r a=r' a):f2k r y=f2k r' y:=by
 unfold f2k
 rw[show (E3 y 2).map (fun a=>D.lit (.string (r a)))=(E3 y 2).map (fun a=>D.lit (.string (r' a))) from List.map_congr_left fun a ha=>by rw[h a ha]]
theorem c6n (y:D):d5r y=N4 ([wdD a5s (A1 (A0 y 0))]++(A2 (A0 y 1)).map a8x++(A2 (A0 y 2)).map pD):=X7 d5q y
def tot (l:List D):Nat:=(l.map fun y=>(A5 y).size+1).sum
theorem c5z (l m:List D):tot (l++m)=tot l+tot m:=by simp[tot]
theorem d8c {M:Nat} {l:List D} (h:Lim M l):tot l≤l.length*(M+1):=by
 induction l with
 | nil=>simp[tot]
 | cons x r ih =>
  have h1:=(h x (by simp)).2
  have h2:=ih fun y hy=>h y (List.mem_cons_of_mem _ hy)
  simp only[tot,List.map_cons,List.sum_cons,List.length_cons,Nat.add_mul] at h2 ⊢
  omega
theorem c4x:∀{l:List D} {f:Bool} {a:ByteArray},(a5j f a l).size≤a.size+tot l
 | [],f,a=>by simp[a5j,tot]
 | x::r,f,a=>by
  unfold a5j
  refine Nat.le_trans c4x ?_
  have h1:(ByteArray.mk (Array.mk [32])).size=1:=rfl
  simp only[tot,List.map_cons,List.sum_cons]
  cases f<;>simp only[cond_true,cond_false,Y6]<;>omega
theorem d2d (l:List D):(P4 l).size≤tot l+1∧(N4 l).size≤tot l+2:=by
 have h1:=c4x (l:=l) (f:=true) (a:=ByteArray.mk (Array.mk [40]))
 have h3:(ByteArray.mk (Array.mk [40])).size=1:=rfl
 have h4:(ByteArray.mk (Array.mk [41])).size=1:=rfl
 unfold P4 N4
 rw[Y6]
 omega
theorem d3z {y:D} (h:CTx y):Lim 8194 [wdD opR (A1 (A0 y 1)),sDD y 0,bif L7 (A5 (A0 y 0)) then .lit (.string (W0 (A1 (A0 y 3)))) else qDD y 2]:=by
 obtain ⟨_,h0,h1,h2,h3,_⟩:=h
 have hq:=a8e (A5 (A0 y 2))
 refine .cons (Nat.le_trans (a3m a9i h1).2 (by decide)) (.cons (Nat.le_trans h2 (by decide)) ?_)
 cases L7 (A5 (A0 y 0))
 ·exact .cons (Nat.le_trans hq (by omega)) .nil
 ·exact .cons (Nat.le_trans (a3g _) (by decide)) .nil
theorem d4a {l:List D} (h:e9n l):Lim 32768 (l.map a8x):=Lim.map fun y hy=>(i7 (n:=3) (b:=32768) (d3z (h.2 y hy)) (by simp) (by decide)).2
theorem f8o:∀{n:Nat} {y:D},PTx y→dsz y<n→(d5r y).size+1≤M4 y*8388608:=by
 intro n
 induction n with
 | zero=>intro y _ h;omega
 | succ n ih =>
  intro y h hn
  have key:∀l:List D,(∀a∈l,a∈E3 y 2)→tot (l.map pD)≤(l.map M4).sum*8388608:=by
   intro l hl
   induction l with
   | nil=>simp[tot]
   | cons x r ih2 =>
    have hx:=hl x (by simp)
    have h1:=ih (h.a hx) (by have:=G3 hx;omega)
    have h2:=ih2 fun a ha=>hl a (List.mem_cons_of_mem _ ha)
    simp only[tot,List.map_cons,List.sum_cons,Nat.add_mul] at h2 ⊢
    have h3:(A5 (pD x)).size=(d5r x).size:=rfl
    omega
  have h1:=key (E3 y 2) fun a ha=>ha
  have h2:=d8c (d4a h.l.2.2.2.1)
  have h3:(A2 (A0 y 1)).length≤128:=h.l.2.2.2.1.1
  rw[List.length_map] at h2
  have h4:(A2 (A0 y 1)).length*(32768+1)≤128*(32768+1):=Nat.mul_le_mul_right _ h3
  have h5:=(a3m c9n h.l.2.2.1).2
  have h6:=(d2d ([wdD a5s (A1 (A0 y 0))]++(A2 (A0 y 1)).map a8x++(A2 (A0 y 2)).map pD)).2
  have h7:tot [wdD a5s (A1 (A0 y 0))]≤17:=by
   show (A5 (a5s.getD (A1 (A0 y 0)).toNat .any)).size+1+0≤17
   omega
  rw[c6n,a3u,Nat.add_mul]
  rw[c5z,c5z] at h6
  unfold E3 at h1
  unfold E3
  omega
theorem g2i {κ:Nat} (hk:C2 B (b7d κ)):OkS (Cn (b7d κ)) 0 (.loop d9e) e2h:=by
 refine D2 fun N vals bs K h=>?_
 simp only[e2h] at h
 split at h
 case h_2=>exact h.elim
 rename_i i q b1 cs b2 xs t0
 obtain ⟨⟨rfl,rfl,ht0,hn,hall⟩,h⟩:=h
 have main:∀k i ts,i+k=cs.length→ts=t0++(cs.take i).map a8x→J5 (Cn (b7d κ)) 0 d9e 66 [1,3,4] [[5000],[5001]] [1,3] [[5000],[5001]] [.ptr [5000] 0, .ref [5001],A3 i] [r5 q b1 cs b2 xs, .arr true false 9 1 ts []] K:=by
  intro k
  induction k with
  | zero =>
   intro i ts hi hts
   rw[List.take_of_length_le (by omega)] at hts
   subst hts
   refine B6 (D1 C4 hk B9) C1 A8 (hn:=B1) (adsI:=[]) (nsI:=[([5000],[5000]),([5001],[49])]) (nsX:=nmP) rfl rfl (keep (f9i κ q cs xs _ b1 b2 i _) ?_)
   rw[show decide ((i:Int)<(cs.length:Int))=false by simp;omega]
   exact ⟨(by trivial),h⟩
  | succ k ih =>
   intro i ts hi hts
   refine B6 (D1 C4 hk B9) C1 A8 (hn:=B1) (adsI:=[]) (nsI:=[([5000],[5000]),([5001],[49])]) (nsX:=nmP) rfl rfl (keep (f9i κ q cs xs ts b1 b2 i _) ?_)
   have e2:IntKind.i64.wrap ((i:Int)+1)=((i+1:Nat):Int):=by rw[Go.IntWalk.i64_in _ (by omega)];omega
   have hm:=hall _ (E1 (xs:=cs) (i:=i) (by omega))
   have hlt:i<cs.length:=by omega
   have hl:ts.length≤i+1:=by rw[hts,List.length_append,List.length_map,List.length_take];omega
   have e3:((ts.length+1)*16).ble 70368744177664=true:=by rw[Nat.ble_eq];omega
   have hnext:=ih (i+1) (ts++ [a8x (cs.getD i .any)]) (by omega) (by rw[hts,List.append_assoc,a7w hlt])
   have hlim:=d3z hm
   have hi0:(0:Int)≤i∧i<cs.length∧cV (cs.getD i .any)=cs.getD i .any:=⟨by omega,hlt,hm.1⟩
   have hsz:=(i7 (n:=3) (b:=32768) hlim (by simp) (by decide)).1
   simp only[show decide ((i:Int)<(cs.length:Int))=true by simp;omega,cond_true,Int.toNat_natCast,e2,e3]
   obtain ⟨hv,h0,h1,h2,h3,h4⟩:=hm
   unfold a8x at hnext
   refine ⟨hi0,Nat.le_trans h3 (by decide),(by trivial), ?_⟩
   cases hk:L7 (A5 (A0 (cs.getD i .any) 0)) with
   | true =>
    rw[hk] at hnext hlim hsz
    exact ⟨h4 hk,(by trivial),⟨Int.le_trans (by decide) h0,h1,(a3m a9i h1).1⟩,⟨(by trivial),hlim.str,Nat.le_trans (Nat.le_of_lt hsz) (by decide),by decide⟩,(by trivial),hnext⟩
   | false =>
    rw[hk] at hnext hlim hsz
    exact ⟨(by trivial),⟨Int.le_trans (by decide) h0,h1,(a3m a9i h1).1⟩,⟨(by trivial),hlim.str,Nat.le_trans (Nat.le_of_lt hsz) (by decide),by decide⟩,(by trivial),hnext⟩
 exact main cs.length 0 t0 (by omega) (by simp)
theorem g2h {κ:Nat} (hk:C2 B (b7d κ)):OkS (Cn (b7d κ)) 0 (.loop d9d) (e2g κ):=by
 refine D2 fun N vals bs K h=>?_
 simp only[e2g] at h
 split at h
 case h_2=>exact h.elim
 rename_i i q b1 cs b2 xs t0
 obtain ⟨⟨rfl,rfl,ht0,hn,hall⟩,h⟩:=h
 have main:∀k i ts,i+k=xs.length→ts=t0++(xs.take i).map pD→J5 (Cn (b7d κ)) 0 d9d 66 [1,3,7] [[5000],[5001]] [3] [[5001]] [.ptr [5000] 0, .ref [5001],A3 i] [r5 q b1 cs b2 xs, .arr true false 9 1 ts []] K:=by
  intro k
  induction k with
  | zero =>
   intro i ts hi hts
   rw[List.take_of_length_le (by omega)] at hts
   subst hts
   refine B6 (D1 C4 hk B9) C1 A8 (hn:=B1) (adsI:=[]) (nsI:=[([5000],[5000]),([5001],[65])]) (nsX:=[([5001],[5001])]) rfl rfl (keep (f9h κ q cs xs _ b1 b2 i _) ?_)
   rw[show decide ((i:Int)<(xs.length:Int))=false by simp;omega]
   exact ⟨(by trivial),h⟩
  | succ k ih =>
   intro i ts hi hts
   refine B6 (D1 C4 hk B9) C1 A8 (hn:=B1) (adsI:=[]) (nsI:=[([5000],[5000]),([5001],[65])]) (nsX:=[([5001],[5001])]) rfl rfl (keep (f9h κ q cs xs ts b1 b2 i _) ?_)
   have e2:IntKind.i64.wrap ((i:Int)+1)=((i+1:Nat):Int):=by rw[Go.IntWalk.i64_in _ (by omega)];omega
   have hlt:i<xs.length:=by omega
   obtain ⟨hm,hs⟩:=hall _ (E1 (xs:=xs) (i:=i) hlt)
   have hv:pV (xs.getD i .any)=xs.getD i .any:=G7.v hm.l.1
   have hl:ts.length≤i+4097:=by rw[hts,List.length_append,List.length_map,List.length_take];omega
   have e3:((ts.length+1)*16).ble 70368744177664=true:=by rw[Nat.ble_eq];omega
   have hnext:=ih (i+1) (ts++ [pD (xs.getD i .any)]) (by omega) (by rw[hts,List.append_assoc,a7w hlt])
   simp only[show decide ((i:Int)<(xs.length:Int))=true by simp;omega,cond_true,Int.toNat_natCast,e2,e3,hv]
   exact ⟨⟨by omega,hlt,(by trivial)⟩,⟨hm,hs⟩,(by trivial),hnext⟩
 exact main xs.length 0 t0 (by omega) (by simp)
theorem h9w:C2 B f7c:=by
 refine P9 C4 h9v μ1 (fn:=Tryz.f103) (cd:=A7 Tryz.f103) (sp:=fun κ=>spL [(6,e2h),(22,e2g κ)]) (hn:=B1) Tryz.func103 (by kernel_rfl) (by kernel_rfl) (fun κ hk=>B8 (c:=.loop d9e) (by kernel_rfl) (g2i hk) (B8 (c:=.loop d9d) (by kernel_rfl) (g2h hk) C8)) fun κ ds r hp hm hr=>?_
 unfold g4g at hp hr
 simp only[] at hr hp
 split at hr
 ·rename_i y
  cases hr
  rw[show [y].map V.d= [V.d (pV y)] by rw[G7.v hp.l.1];rfl]
  refine keep (h7a κ y fun v=>v=_) ?_
  obtain ⟨hf,h0,h1,hc,ht⟩:=hp.l
  have hlen:=f8o hp (Nat.lt_succ_self _)
  have ha:(A2 (A0 y 2)).length≤100:=by
   have:=a3u y
   have:=b9r (xs:=E3 y 2)
   unfold E3 at *
   omega
  have hc1:=hc.1
  have hw:=a3m c9n h1
  have hstr:Y2 ([wdD a5s (A1 (A0 y 0))]++(A2 (A0 y 1)).map a8x++(A2 (A0 y 2)).map pD):=fun a ha=>by
   rcases List.mem_append.1 ha with ha|ha
   ·rcases List.mem_append.1 ha with ha|ha
    ·simp only[List.mem_cons,List.not_mem_nil,or_false] at ha
     subst ha;rfl
    ·exact (d4a hc).str a ha
   ·obtain ⟨x,_,rfl⟩:=List.mem_map.1 ha
    rfl
  have hjq:=(b2t (l:=[]) (f:=true) (a:=ByteArray.mk (Array.mk [])))
  refine ⟨(by trivial),⟨Int.le_trans (by decide) h0,h1,hw.1⟩,⟨(by trivial),(by trivial),by decide,hc⟩,⟨(by trivial),(by trivial), ?_,by omega,fun a ha=>⟨hp.a ha,hm▸G3 ha⟩⟩,⟨(by trivial),hstr, ?_, ?_⟩, ?_⟩
  ·simp only[List.length_append,List.length_map,List.length_cons,List.length_nil];omega
  ·rw[c6n] at hlen
   have h9:(N4 ([wdD a5s (A1 (A0 y 0))]++(A2 (A0 y 1)).map a8x++(A2 (A0 y 2)).map pD)).size=(P4 ([wdD a5s (A1 (A0 y 0))]++(A2 (A0 y 1)).map a8x++(A2 (A0 y 2)).map pD)).size+1:=by
    unfold N4 P4;rw[Y6];rfl
   have:M4 y*8388608≤100*8388608:=Nat.mul_le_mul_right _ ht
   show (P4 ([wdD a5s (A1 (A0 y 0))]++(A2 (A0 y 1)).map a8x++(A2 (A0 y 2)).map pD)).size≤_
   omega
  ·simp only[List.length_append,List.length_map,List.length_cons,List.length_nil];omega
  ·unfold pD;rw[c6n];rfl
 ·cases hr
end Go.Ev.R2
end
section
namespace Go.Ev
def q9 (C:Cx) (tb:Tab) (cs:CS) (k:Nat) (sp:Nat→Option Spec) (hn:Nat→Option o9) (il:Bool) (c:Code) (N:Nat) (L:List Nat) (nm:List B2) (adsI:List Ad) (L':List Nat) (nsX:List (B2×B2)) (vals:List V) (bs:List Box) (R:X→List V→List Box→Prop):Prop :=
 P1 C tb cs k sp hn il c (stN N L nm vals bs) fun x s=>s.N=N∧go (r8 adsI s) fun s=>go (w6 k L' nsX s) fun p=>R x p.1 p.2
theorem c4n {C:Cx} {tb:Tab} {cs:CS} {k:Nat} (F:a9y C cs.call) (hE:Has C tb) {sp:Nat→Option Spec} {hn:Nat→Option o9} {il:Bool} {c:Code} {S:Spec} {adsI:List Ad} {nsX:List (B2×B2)}
  (ok:o8 C k sp (H8 il c)) (hX:Q8 nsX=S.nm')
  (h:∀N vals bs K,S.G N vals bs K→a5c (q9 C tb cs k sp hn il c N S.L (Q8 S.ns) adsI S.L' nsX vals bs K)):OkS C k c S:=fun N vals bs K hg=>by
 refine b3e (a4c F hE c il _ _ ok (h N vals bs K hg).h) ?_
 intro x s' ⟨hN,hx⟩
 obtain ⟨s1,h1,hx⟩:=F4 hx
 obtain ⟨⟨vs,bs'⟩,h2,h3⟩:=F4 hx
 have hw:a3z C k s' _:=(S5 (k:=k) h1).trans (Z7 h2)
 have hN1:s1.N=N:=(c3e h1).trans hN
 rw[hN1,hX] at hw
 exact ⟨_,hw,vs,bs',rfl,h3⟩
end Go.Ev
end
section
namespace Go.Ev.R2
open Go Go.Ev Go.Proofs
set_option maxRecDepth 100000
theorem h6v (y:D) (p:V→Prop):(B7 (Cn f7c) f7c D4 0 C5 B1 108 [V.d (eV y)] B4.empty fun v H=>p (B5 H v)) =
 (bif Z8 (A0 y 8) then
 (bif ((1+((A2 (A0 y 7)).length+0))*16).ble 70368744177664 then
 ((1=1∧(Y2 ([zD (bA [119,105,116,104,111,117,116])]++A2 (A0 y 7))∧((P4
 ([zD (bA [119,105,116,104,111,117,116])] ++
 A2 (A0 y 7))).size≤
 9223372036854775806∧([zD (bA [119,105,116,104,111,117,116])]++A2 (A0 y 7)).length≤
 1152921504606846976)))∧
 p
 (C9 (N4
 ([zD (bA [119,105,116,104,111,117,116])] ++
 A2 (A0 y 7))))) else
 False) else
 (bif ((1+((A2 (A0 y 7)).length+0))*16).ble 70368744177664 then
 ((1=1∧(Y2 ([zD (bA [98,121])]++A2 (A0 y 7))∧((P4 ([zD (bA [98,121])]++A2 (A0 y 7))).size≤9223372036854775806∧([zD (bA [98,121])]++A2 (A0 y 7)).length≤1152921504606846976)))∧
 p (C9 (N4 ([zD (bA [98,121])]++A2 (A0 y 7))))) else
 False)):=by kernel_rfl
def e3u (y:D):ByteArray:=bif Z8 (A0 y 8) then N4 ([sB [119,105,116,104,111,117,116]]++A2 (A0 y 7)) else N4 ([sB [98,121]]++A2 (A0 y 7))
noncomputable def h2e:Ct:=⟨fun | [x]=>D0 x∧d7u (A2 (A0 x 7))|_=>False,fun | [x]=>some (.lit (.string (e3u x)))|_=>none⟩
noncomputable def g5d:Tab:=f7c.add 108 h2e
def h62:Nat→Option o9:=fun id =>
 let c (n:Nat):Option o9:=some {cut:=[([1,3,4], [([5000],[5000]),([5001],[5001]),([5002],[n])])] }
 match id with
 | 5=>c 30 | 7=>c 38 | 9=>c 50 | 11=>c 60 | 13=>c 68 | 15=>c 77 | 17=>c 85 | 19=>c 96 | 21=>c 103 | 23=>c 112|_=>none
abbrev hBx (h0 h1 h2 h3 h4 h5 h6 h7 h8:Bool) (n:Int):Box:=.cells 126 [A9 h0,A9 h1,A9 h2,A9 h3,A9 h4,A9 h5,A9 h6,A9 h7,A9 h8,A3 n]
abbrev W2:List (B2×B2):=[([5000],[5000]),([5001],[5001]),([5002],[5002])]
def yOf (cs:List V):D:=.agg (cs.map fun v=>match v with | .d d=>d|_=>.any)
def IsH (hs:List V):Prop:=∃h0 h1 h2 h3 h4 h5 h6 h7 h8 n,hs= [A9 h0,A9 h1,A9 h2,A9 h3,A9 h4,A9 h5,A9 h6,A9 h7,A9 h8,A3 n]
abbrev kd (y:D):Int:=A1 (A0 y 0)
abbrev fc (y:D):Int:=A1 (A0 y 1)
def J3 (i:Nat) (y:D):Bool:=match i with
 | 11=>decide (((n9 (kd y)).length:Int)>0) | 15=>hN (kd y) (fc y) | 19=>ab (hT (kd y) (fc y)) (kd y !=5) | 23=>kd y==7 | 27=>hP (kd y)
 | 31=>hM (kd y) | 35=>hS (kd y) | 39=>hW (kd y) | 43=>hNm (kd y)|_=>kd y==5
noncomputable def n5 (i:Nat) (y:D):List D:=match i with
 | 11=>[wdD (n9 (kd y)) (fc y)] | 15=>[.lit (.string (c7j (A1 (A0 y 5)) (A1 (A0 y 6))))] | 19=>[sDD y 14] | 23=>[wdD a8q (A1 (A0 y 9))] | 27=>[pD (paV y)]
 | 31=>[.lit (.string (N4 ((A2 (A0 y 2)).map a2c)))] | 35=>[.lit (.string (N4 ((A2 (A0 y 10)).map b3s)))] | 39=>[.lit (.string (W0 (A1 (A0 y 3)))), .lit (.string (W0 (A1 (A0 y 4))))] | 43=>[.lit (.string (e3u y))]|_=>[qDD y 14]
noncomputable def E4 (i:Nat) (y:D):List D:=bif J3 i y then n5 i y else []
def a3o (i:Nat) (y:D):Prop:=match i with
 | 11=>1≤fc y∧(fc y).toNat<(n9 (kd y)).length | 23=>0≤A1 (A0 y 9)∧(A1 (A0 y 9)).toNat<a8q.length | 27=>PTx (paV y)
 | 31=>b7e (A2 (A0 y 2)) | 35=>d7t (A2 (A0 y 10)) | 39=>(0≤A1 (A0 y 3)∧A1 (A0 y 3)≤1152921504606846976)∧(0≤A1 (A0 y 4)∧A1 (A0 y 4)≤1152921504606846976)
 | 43=>D0 y∧d7u (A2 (A0 y 7)) | 15=>m3 (A1 (A0 y 5)) (A1 (A0 y 6))=0 | 19=>True|_=>(A5 (A0 y 14)).size≤4096
def S62 (i:Nat) (L:List Nat) (ns:List (B2×B2)) (fs:Bool):Ev.Spec:={L:=L,ns:=ns,L':=[1,3,4],nm':=[[5000],[5001],[5002]],G:=fun N vals bs k=>match vals,bs with
 | .ptr [5000] 0:: .ptr [5001] 0:: .ref [5002]::more, [.cells 33 cs, .cells 126 hs, .arr true false 9 1 ts []]=>(N=129∧ts.length≤20∧IsE cs∧IsH hs∧more=(bif fs then [.d (.slice false 1 (n9 (kd (yOf cs))))] else [])++ [A9 (J3 i (yOf cs))]∧(J3 i (yOf cs)=true→a3o i (yOf cs)))∧k .normal [.ptr [5000] 0, .ptr [5001] 0, .ref [5002]] [.cells 33 cs, .cells 126 hs, .arr true false 9 1 (ts++E4 i (yOf cs)) []]
 | _,_=>False }
def g5i:Nat→D→Prop
 | 0,_=>True
 | n+1,y=>(D0 y∧(1≤kd y∧(kd y).toNat<Z3.length)∧G1 y≤100∧(A5 (A0 y 14)).size≤4096∧∀i,J3 i y=true→a3o i y)∧∀a∈E3 y 15,g5i n a
abbrev hCl (y:D):List V:=[A9 (hM (kd y)),A9 (hS (kd y)),A9 (hP (kd y)),A9 (hW (kd y)),A9 (hN (kd y) (fc y)),A9 (hNm (kd y)),A9 (hWo (kd y)),A9 (kd y==7),A9 (hT (kd y) (fc y)),A3 (hA (kd y))]
structure ETx (y:D):Prop where
 h:∀n,g5i n y
noncomputable def a5n (y:D):List D:=[wdD Z3 (kd y)]++E4 11 y++E4 15 y++E4 19 y++E4 23 y++E4 27 y++E4 31 y++E4 35 y++E4 39 y++E4 43 y++E4 47 y
noncomputable def e9s (rec:D→ByteArray) (y:D):ByteArray:=N4 (a5n y++(E3 y 15).map fun a=>.lit (.string (rec a)))
noncomputable def d6t (y:D):ByteArray:=b2x e9s (ByteArray.mk (Array.mk [])) (dsz y+1) y
noncomputable def eD (y:D):D:=.lit (.string (d6t y))
def h4d (κ:Nat) (xs:List D):Prop:=xs.length≤4096∧∀y∈xs,ETx y∧dsz y<κ
noncomputable def c62:Ct:=⟨fun | [x]=>ETx x|_=>False,fun | [x]=>some (eD x)|_=>none⟩
noncomputable def U62 (κ:Nat):Tab:=g5d.add 62 (c62.below μ1 κ)
noncomputable def T62:Tab:=g5d.add 62 c62
noncomputable def l62:Code:=D6 (C6 (A7 Tryz.f62) 50)
abbrev g2j:List (B2×B2):=[([5000],[3]),([5001],[5]),([5002],[16])]
theorem p11 (κ:Nat) (y:D) (h0:Bool) (h1:Bool) (h2:Bool) (h3:Bool) (h4:Bool) (h5:Bool) (h6:Bool) (h7:Bool) (h8:Bool) (n:Int) (ts:List D) (fs:List D) (c:Bool) (R:X→List V→List Box→Prop):(q9 (Cn (U62 κ)) (U62 κ) D4 0 C5 h62 false (C6 (A7 Tryz.f62) 11) 129 [1,3,4,5,20]
 [[5000], [5001], [5002]] [] [1,3,4] W2
 [V.ptr [5000] 0,V.ptr [5001] 0,V.ref [5002],V.d (D.slice false 1 fs),A9 c]
 [G5 y,hBx h0 h1 h2 h3 h4 h5 h6 h7 h8 n,Box.arr true false 9 1 ts []] R) =
 (bif c then
 ((((0:Int)≤A1 (A0 y 1))∧((A1 (A0 y 1)).toNat<fs.length∧zD (A5 (fs.getD (A1 (A0 y 1)).toNat D.any))=fs.getD (A1 (A0 y 1)).toNat D.any))∧
 (bif ((ts.length+1)*16).ble 70368744177664 then
 (129=129∧
 R X.normal [V.ptr [5000] 0,V.ptr [5001] 0,V.ref [5002]]
 [G5 y,
 hBx h0 h1 h2 h3 h4 h5 h6 h7 h8 n,
 Box.arr true false 9 1 (ts++ [zD (A5 (fs.getD (A1 (A0 y 1)).toNat D.any))]) []]) else
 False)) else
 (129=129∧
 R X.normal [V.ptr [5000] 0,V.ptr [5001] 0,V.ref [5002]]
 [G5 y,
 hBx h0 h1 h2 h3 h4 h5 h6 h7 h8 n,
 Box.arr true false 9 1 ts []])):=by kernel_rfl
theorem p15 (κ:Nat) (y:D) (h0:Bool) (h1:Bool) (h2:Bool) (h3:Bool) (h4:Bool) (h5:Bool) (h6:Bool) (h7:Bool) (h8:Bool) (n:Int) (ts:List D) (c:Bool) (R:X→List V→List Box→Prop):(q9 (Cn (U62 κ)) (U62 κ) D4 0 C5 h62 false (C6 (A7 Tryz.f62) 15) 129 [1,3,4,30]
 [[5000], [5001], [5002]] [] [1,3,4] W2 [V.ptr [5000] 0,V.ptr [5001] 0,V.ref [5002],A9 c]
 [G5 y,hBx h0 h1 h2 h3 h4 h5 h6 h7 h8 n,Box.arr true false 9 1 ts []] R) =
 (bif c then
 (True∧
 (bif ((ts.length+1)*16).ble 70368744177664 then
 (129=129∧
 R X.normal [V.ptr [5000] 0,V.ptr [5001] 0,V.ref [5002]]
 [G5 y,
 hBx h0 h1 h2 h3 h4 h5 h6 h7 h8 n,
 Box.arr true false 9 1 (ts++ [zD (c7j (A1 (A0 y 5)) (A1 (A0 y 6)))]) []]) else
 False)) else
 (129=129∧
 R X.normal [V.ptr [5000] 0,V.ptr [5001] 0,V.ref [5002]]
 [G5 y,
 hBx h0 h1 h2 h3 h4 h5 h6 h7 h8 n,
 Box.arr true false 9 1 ts []])):=by kernel_rfl
theorem p19 (κ:Nat) (y:D) (h0:Bool) (h1:Bool) (h2:Bool) (h3:Bool) (h4:Bool) (h5:Bool) (h6:Bool) (h7:Bool) (h8:Bool) (n:Int) (ts:List D) (c:Bool) (R:X→List V→List Box→Prop):(q9 (Cn (U62 κ)) (U62 κ) D4 0 C5 h62 false (C6 (A7 Tryz.f62) 19) 129 [1,3,4,43]
 [[5000], [5001], [5002]] [] [1,3,4] W2 [V.ptr [5000] 0,V.ptr [5001] 0,V.ref [5002],A9 c]
 [G5 y,hBx h0 h1 h2 h3 h4 h5 h6 h7 h8 n,Box.arr true false 9 1 ts []] R) =
 (bif c then
 (bif ((ts.length+1)*16).ble 70368744177664 then
 (129=129∧
 R X.normal [V.ptr [5000] 0,V.ptr [5001] 0,V.ref [5002]]
 [G5 y,
 hBx h0 h1 h2 h3 h4 h5 h6 h7 h8 n,
 Box.arr true false 9 1 (ts++ [zD (A5 (A0 y 14))]) []]) else
 False) else
 (129=129∧
 R X.normal [V.ptr [5000] 0,V.ptr [5001] 0,V.ref [5002]]
 [G5 y,
 hBx h0 h1 h2 h3 h4 h5 h6 h7 h8 n,
 Box.arr true false 9 1 ts []])):=by kernel_rfl
theorem p23 (κ:Nat) (y:D) (h0:Bool) (h1:Bool) (h2:Bool) (h3:Bool) (h4:Bool) (h5:Bool) (h6:Bool) (h7:Bool) (h8:Bool) (n:Int) (ts:List D) (c:Bool) (R:X→List V→List Box→Prop):(q9 (Cn (U62 κ)) (U62 κ) D4 0 C5 h62 false (C6 (A7 Tryz.f62) 23) 129 [1,3,4,50]
 [[5000], [5001], [5002]] [] [1,3,4] W2 [V.ptr [5000] 0,V.ptr [5001] 0,V.ref [5002],A9 c]
 [G5 y,hBx h0 h1 h2 h3 h4 h5 h6 h7 h8 n,Box.arr true false 9 1 ts []] R) =
 (bif c then
 (True∧
 ((((0:Int)≤A1 (A0 y 9))∧((A1 (A0 y 9)).toNat<3∧zD (A5 (a8q.getD (A1 (A0 y 9)).toNat D.any)) =
 a8q.getD (A1 (A0 y 9)).toNat D.any))∧
 (bif ((ts.length+1)*16).ble 70368744177664 then
 (129=129∧
 R X.normal [V.ptr [5000] 0,V.ptr [5001] 0,V.ref [5002]]
 [G5 y,
 hBx h0 h1 h2 h3 h4 h5 h6 h7 h8 n,
 Box.arr true false 9 1 (ts++ [zD (A5 (a8q.getD (A1 (A0 y 9)).toNat D.any))]) []]) else
 False))) else
 (129=129∧
 R X.normal [V.ptr [5000] 0,V.ptr [5001] 0,V.ref [5002]]
 [G5 y,
 hBx h0 h1 h2 h3 h4 h5 h6 h7 h8 n,
 Box.arr true false 9 1 ts []])):=by kernel_rfl
theorem p27 (κ:Nat) (y:D) (h0:Bool) (h1:Bool) (h2:Bool) (h3:Bool) (h4:Bool) (h5:Bool) (h6:Bool) (h7:Bool) (h8:Bool) (n:Int) (ts:List D) (c:Bool) (R:X→List V→List Box→Prop):(q9 (Cn (U62 κ)) (U62 κ) D4 0 C5 h62 false (C6 (A7 Tryz.f62) 27) 129 [1,3,4,60]
 [[5000], [5001], [5002]] [] [1,3,4] W2 [V.ptr [5000] 0,V.ptr [5001] 0,V.ref [5002],A9 c]
 [G5 y,hBx h0 h1 h2 h3 h4 h5 h6 h7 h8 n,Box.arr true false 9 1 ts []] R) =
 (bif c then
 (PTx (paV y)∧
 (bif ((ts.length+1)*16).ble 70368744177664 then
 (129=129∧
 R X.normal [V.ptr [5000] 0,V.ptr [5001] 0,V.ref [5002]]
 [G5 y,
 hBx h0 h1 h2 h3 h4 h5 h6 h7 h8 n,
 Box.arr true false 9 1 (ts++ [zD (d5r (paV y))]) []]) else
 False)) else
 (129=129∧
 R X.normal [V.ptr [5000] 0,V.ptr [5001] 0,V.ref [5002]]
 [G5 y,
 hBx h0 h1 h2 h3 h4 h5 h6 h7 h8 n,
 Box.arr true false 9 1 ts []])):=by kernel_rfl
theorem p31 (κ:Nat) (y:D) (h0:Bool) (h1:Bool) (h2:Bool) (h3:Bool) (h4:Bool) (h5:Bool) (h6:Bool) (h7:Bool) (h8:Bool) (n:Int) (ts:List D) (c:Bool) (R:X→List V→List Box→Prop):(q9 (Cn (U62 κ)) (U62 κ) D4 0 C5 h62 false (C6 (A7 Tryz.f62) 31) 129 [1,3,4,68]
 [[5000], [5001], [5002]] [] [1,3,4] W2 [V.ptr [5000] 0,V.ptr [5001] 0,V.ref [5002],A9 c]
 [G5 y,hBx h0 h1 h2 h3 h4 h5 h6 h7 h8 n,Box.arr true false 9 1 ts []] R) =
 (bif c then
 ((3=3∧b7e (A2 (A0 y 2)))∧
 ((1=1∧(Y2 (List.map a2c (A2 (A0 y 2)))∧((P4 (List.map a2c (A2 (A0 y 2)))).size≤9223372036854775806∧(List.map a2c (A2 (A0 y 2))).length≤1152921504606846976)))∧
 (bif ((ts.length+1)*16).ble 70368744177664 then
 (129=129∧
 R X.normal [V.ptr [5000] 0,V.ptr [5001] 0,V.ref [5002]]
 [G5 y,
 hBx h0 h1 h2 h3 h4 h5 h6 h7 h8 n,
 Box.arr true false 9 1 (ts++ [zD (N4 (List.map a2c (A2 (A0 y 2))))]) []]) else
 False))) else
 (129=129∧
 R X.normal [V.ptr [5000] 0,V.ptr [5001] 0,V.ref [5002]]
 [G5 y,
 hBx h0 h1 h2 h3 h4 h5 h6 h7 h8 n,
 Box.arr true false 9 1 ts []])):=by kernel_rfl
theorem p35 (κ:Nat) (y:D) (h0:Bool) (h1:Bool) (h2:Bool) (h3:Bool) (h4:Bool) (h5:Bool) (h6:Bool) (h7:Bool) (h8:Bool) (n:Int) (ts:List D) (c:Bool) (R:X→List V→List Box→Prop):(q9 (Cn (U62 κ)) (U62 κ) D4 0 C5 h62 false (C6 (A7 Tryz.f62) 35) 129 [1,3,4,77]
 [[5000], [5001], [5002]] [] [1,3,4] W2 [V.ptr [5000] 0,V.ptr [5001] 0,V.ref [5002],A9 c]
 [G5 y,hBx h0 h1 h2 h3 h4 h5 h6 h7 h8 n,Box.arr true false 9 1 ts []] R) =
 (bif c then
 ((4=4∧d7t (A2 (A0 y 10)))∧
 (bif ((ts.length+1)*16).ble 70368744177664 then
 (129=129∧
 R X.normal [V.ptr [5000] 0,V.ptr [5001] 0,V.ref [5002]]
 [G5 y,
 hBx h0 h1 h2 h3 h4 h5 h6 h7 h8 n,
 Box.arr true false 9 1 (ts++ [zD (N4 (List.map b3s (A2 (A0 y 10))))]) []]) else
 False)) else
 (129=129∧
 R X.normal [V.ptr [5000] 0,V.ptr [5001] 0,V.ref [5002]]
 [G5 y,
 hBx h0 h1 h2 h3 h4 h5 h6 h7 h8 n,
 Box.arr true false 9 1 ts []])):=by kernel_rfl
theorem p39 (κ:Nat) (y:D) (h0:Bool) (h1:Bool) (h2:Bool) (h3:Bool) (h4:Bool) (h5:Bool) (h6:Bool) (h7:Bool) (h8:Bool) (n:Int) (ts:List D) (c:Bool) (R:X→List V→List Box→Prop):(q9 (Cn (U62 κ)) (U62 κ) D4 0 C5 h62 false (C6 (A7 Tryz.f62) 39) 129 [1,3,4,85]
 [[5000], [5001], [5002]] [] [1,3,4] W2 [V.ptr [5000] 0,V.ptr [5001] 0,V.ref [5002],A9 c]
 [G5 y,hBx h0 h1 h2 h3 h4 h5 h6 h7 h8 n,Box.arr true false 9 1 ts []] R) =
 (bif c then
 ((((0:Int)≤A1 (A0 y 3))∧((A1 (A0 y 3):Int)≤1152921504606846976))∧
 ((((0:Int)≤A1 (A0 y 4))∧((A1 (A0 y 4):Int)≤1152921504606846976))∧
 (bif ((ts.length+2)*16).ble 70368744177664 then
 (129=129∧
 R X.normal [V.ptr [5000] 0,V.ptr [5001] 0,V.ref [5002]]
 [G5 y,
 hBx h0 h1 h2 h3 h4 h5 h6 h7 h8 n,
 Box.arr true false 9 1
 (ts++ [zD (W0 (A1 (A0 y 3))),zD (W0 (A1 (A0 y 4)))]) []]) else
 False))) else
 (129=129∧
 R X.normal [V.ptr [5000] 0,V.ptr [5001] 0,V.ref [5002]]
 [G5 y,
 hBx h0 h1 h2 h3 h4 h5 h6 h7 h8 n,
 Box.arr true false 9 1 ts []])):=by kernel_rfl
theorem p43 (κ:Nat) (y:D) (h0:Bool) (h1:Bool) (h2:Bool) (h3:Bool) (h4:Bool) (h5:Bool) (h6:Bool) (h7:Bool) (h8:Bool) (n:Int) (ts:List D) (c:Bool) (R:X→List V→List Box→Prop):(q9 (Cn (U62 κ)) (U62 κ) D4 0 C5 h62 false (C6 (A7 Tryz.f62) 43) 129 [1,3,4,96]
 [[5000], [5001], [5002]] [] [1,3,4] W2 [V.ptr [5000] 0,V.ptr [5001] 0,V.ref [5002],A9 c]
 [G5 y,hBx h0 h1 h2 h3 h4 h5 h6 h7 h8 n,Box.arr true false 9 1 ts []] R) =
 (bif c then
 ((D0 (eV y)∧d7u (A2 (D.slice (K3 (A0 y 7)) 1 (A2 (A0 y 7)))))∧
 (bif ((ts.length+1)*16).ble 70368744177664 then
 (129=129∧
 R X.normal [V.ptr [5000] 0,V.ptr [5001] 0,V.ref [5002]]
 [G5 y,
 hBx h0 h1 h2 h3 h4 h5 h6 h7 h8 n,
 Box.arr true false 9 1 (ts++ [zD (e3u (eV y))]) []]) else
 False)) else
 (129=129∧
 R X.normal [V.ptr [5000] 0,V.ptr [5001] 0,V.ref [5002]]
 [G5 y,
 hBx h0 h1 h2 h3 h4 h5 h6 h7 h8 n,
 Box.arr true false 9 1 ts []])):=by kernel_rfl
theorem p47 (κ:Nat) (y:D) (h0:Bool) (h1:Bool) (h2:Bool) (h3:Bool) (h4:Bool) (h5:Bool) (h6:Bool) (h7:Bool) (h8:Bool) (n:Int) (ts:List D) (c:Bool) (R:X→List V→List Box→Prop):(q9 (Cn (U62 κ)) (U62 κ) D4 0 C5 h62 false (C6 (A7 Tryz.f62) 47) 129 [1,3,4,104]
 [[5000], [5001], [5002]] [] [1,3,4] W2 [V.ptr [5000] 0,V.ptr [5001] 0,V.ref [5002],A9 c]
 [G5 y,hBx h0 h1 h2 h3 h4 h5 h6 h7 h8 n,Box.arr true false 9 1 ts []] R) =
 (bif c then
 ((A5 (A0 y 14)).size.le 17592186044400∧
 (bif ((ts.length+1)*16).ble 70368744177664 then
 (129=129∧
 R X.normal [V.ptr [5000] 0,V.ptr [5001] 0,V.ref [5002]]
 [G5 y,
 hBx h0 h1 h2 h3 h4 h5 h6 h7 h8 n,
 Box.arr true false 9 1 (ts++ [zD (m4 (A5 (A0 y 14)))]) []]) else
 False)) else
 (129=129∧
 R X.normal [V.ptr [5000] 0,V.ptr [5001] 0,V.ref [5002]]
 [G5 y,
 hBx h0 h1 h2 h3 h4 h5 h6 h7 h8 n,
 Box.arr true false 9 1 ts []])):=by kernel_rfl
theorem b62 (κ:Nat) (y:D) (ts:List D) (i:Int) (R:X→List V→List Box→Prop):(D7 (Cn (U62 κ)) (U62 κ) D4 0 C5 B1 l62 129 [1,4,6] [[5000], [5001]] [] [([5000], [5000]),([5001], [128])]
 [4] [([5001], [5001])] [V.ptr [5000] 0,V.ref [5001],A3 i] [G5 y,Box.arr true false 9 1 ts []] R) =
 (bif decide (i<(↑(A2 (A0 y 15)).length:Int)) then
 ((((0:Int)≤i)∧(i.toNat<(A2 (A0 y 15)).length∧eV ((A2 (A0 y 15)).getD i.toNat D.any)=(A2 (A0 y 15)).getD i.toNat D.any))∧
 ((ETx (eV ((A2 (A0 y 15)).getD i.toNat D.any))∧μ1 [eV ((A2 (A0 y 15)).getD i.toNat D.any)]<κ)∧
 (bif ((ts.length+1)*16).ble 70368744177664 then
 (129=129∧
 R X.normal [V.ptr [5000] 0,V.ref [5001],A3 (IntKind.i64.wrap (i+1))]
 [G5 y,
 Box.arr true false 9 1 (ts++ [zD (d6t (eV ((A2 (A0 y 15)).getD i.toNat D.any)))]) []]) else
 False))) else
 (129=129∧
 R (X.exit 0) [V.ref [5001]] [Box.arr true false 9 1 ts []])):=by kernel_rfl
noncomputable def L62 (κ:Nat):Ev.Spec:={L:=[1,4,6],ns:=[([5000],[5000]),([5001],[5002])],L':=[4],nm':=[[5001]],G:=fun N vals bs k=>match vals,bs with
 | [.ptr [5000] 0, .ref [5001], .d (.lit (.int .i64 i))], [.cells 33 cs, .arr true false 9 1 ts []]=>(N=129∧i=0∧ts.length≤20∧IsE cs∧h4d κ (A2 (A0 (yOf cs) 15)))∧k (.exit 0) [.ref [5001]] [.arr true false 9 1 (ts++(A2 (A0 (yOf cs) 15)).map eD) []]
 | _,_=>False }
theorem w62 (κ:Nat) (y:D) (p:V→Prop):(B7 (Cn (U62 κ)) (U62 κ) D4 0
 (spL
 [(11,S62 11 [1,3,4,5,20] g2j true),(15,S62 15 [1,3,4,30] W2 false),
 (19,S62 19 [1,3,4,43] W2 false),(23,S62 23 [1,3,4,50] W2 false),
 (27,S62 27 [1,3,4,60] W2 false),(31,S62 31 [1,3,4,68] W2 false),
 (35,S62 35 [1,3,4,77] W2 false),(39,S62 39 [1,3,4,85] W2 false),
 (43,S62 43 [1,3,4,96] W2 false),(47,S62 47 [1,3,4,104] W2 false),(50,L62 κ)])
 B1 62 [V.d (eV y)] B4.empty fun v H=>p (B5 H v)) =
 (D0 (eV y)∧
 (True∧
 ((((0:Int)≤A1 (A0 y 0))∧((A1 (A0 y 0)).toNat<14∧zD (A5 (Z3.getD (A1 (A0 y 0)).toNat D.any))=Z3.getD (A1 (A0 y 0)).toNat D.any))∧
 (True∧
 ((129=129∧(1≤20∧(IsE
 (N5 y)∧(IsH
 (hCl y)∧([V.d (D.slice false 1 (n9 (A1 (A0 y 0)))),
 A9 (decide ((↑(n9 (A1 (A0 y 0))).length:Int)>0))] =
 [V.d (D.slice false 1 (n9 (kd (eV y)))),A9 (J3 11 (eV y))]∧(J3 11 (eV y)=true→a3o 11 (eV y)))))))∧
 ((129=129∧(([zD (A5 (Z3.getD (A1 (A0 y 0)).toNat D.any))]++E4 11 (eV y)).length≤20∧(IsE
 (N5 y)∧(IsH
 (hCl y)∧([A9 (hN (A1 (iD (A1 (A0 y 0))))
 (A1 (iD (A1 (A0 y 1)))))] =
 [A9 (J3 15 (eV y))]∧(J3 15 (eV y)=true→a3o 15 (eV y)))))))∧
 ((129=129∧(([zD (A5 (Z3.getD (A1 (A0 y 0)).toNat D.any))]++E4 11 (eV y) ++
 E4 15 (eV y)).length≤
 20∧(IsE
 (N5 y)∧(IsH
 (hCl y)∧([A9 (bif
 hT (A1 (iD (A1 (A0 y 0))))
 (A1 (iD (A1 (A0 y 1)))) then
 A1 (A0 y 0) !=5
 else false)] =
 [A9 (J3 19 (eV y))]∧(J3 19 (eV y)=true→a3o 19 (eV y)))))))∧
 ((129=129∧(([zD (A5 (Z3.getD (A1 (A0 y 0)).toNat D.any))]++E4 11 (eV y)++E4 15 (eV y) ++
 E4 19 (eV y)).length≤
 20∧(IsE
 (N5 y)∧(IsH
 (hCl y)∧([A9 (A1 (iD (A1 (A0 y 0)))==7)] =
 [A9 (J3 23 (eV y))]∧(J3 23 (eV y)=true→a3o 23 (eV y)))))))∧
 ((129=129∧(([zD (A5 (Z3.getD (A1 (A0 y 0)).toNat D.any))]++E4 11 (eV y)++E4 15 (eV y) ++
 E4 19 (eV y) ++
 E4 23 (eV y)).length≤
 20∧(IsE
 (N5 y)∧(IsH
 (hCl y)∧([A9 (hP (A1 (iD (A1 (A0 y 0)))))] =
 [A9 (J3 27 (eV y))]∧(J3 27 (eV y)=true→a3o 27 (eV y)))))))∧
 ((129=129∧(([zD (A5 (Z3.getD (A1 (A0 y 0)).toNat D.any))]++E4 11 (eV y)++E4 15 (eV y) ++
 E4 19 (eV y) ++
 E4 23 (eV y) ++
 E4 27 (eV y)).length≤
 20∧(IsE
 (N5 y)∧(IsH
 (hCl y)∧([A9 (hM (A1 (iD (A1 (A0 y 0)))))] =
 [A9 (J3 31 (eV y))]∧(J3 31 (eV y)=true→a3o 31 (eV y)))))))∧
 ((129=129∧(([zD (A5 (Z3.getD (A1 (A0 y 0)).toNat D.any))]++E4 11 (eV y)++E4 15 (eV y) ++
 E4 19 (eV y) ++
 E4 23 (eV y) ++
 E4 27 (eV y) ++
 E4 31 (eV y)).length≤
 20∧(IsE
 (N5 y)∧(IsH
 (hCl y)∧([A9 (hS (A1 (iD (A1 (A0 y 0)))))] =
 [A9 (J3 35 (eV y))]∧(J3 35 (eV y)=true→a3o 35 (eV y)))))))∧
 ((129=129∧(([zD (A5 (Z3.getD (A1 (A0 y 0)).toNat D.any))]++E4 11 (eV y)++E4 15 (eV y) ++
 E4 19 (eV y) ++
 E4 23 (eV y) ++
 E4 27 (eV y) ++
 E4 31 (eV y) ++
 E4 35 (eV y)).length≤
 20∧(IsE
 (N5 y)∧(IsH
 (hCl y)∧([A9 (hW (A1 (iD (A1 (A0 y 0)))))] =
 [A9 (J3 39 (eV y))]∧(J3 39 (eV y)=true→a3o 39 (eV y)))))))∧
 ((129=129∧(([zD (A5 (Z3.getD (A1 (A0 y 0)).toNat D.any))]++E4 11 (eV y)++E4 15 (eV y) ++
 E4 19 (eV y) ++
 E4 23 (eV y) ++
 E4 27 (eV y) ++
 E4 31 (eV y) ++
 E4 35 (eV y) ++
 E4 39 (eV y)).length≤
 20∧(IsE
 (N5 y)∧(IsH
 (hCl y)∧([A9 (hNm (A1 (iD (A1 (A0 y 0)))))] =
 [A9 (J3 43 (eV y))]∧(J3 43 (eV y)=true→a3o 43 (eV y)))))))∧
 ((129=129∧(([zD (A5 (Z3.getD (A1 (A0 y 0)).toNat D.any))]++E4 11 (eV y)++E4 15 (eV y) ++
 E4 19 (eV y) ++
 E4 23 (eV y) ++
 E4 27 (eV y) ++
 E4 31 (eV y) ++
 E4 35 (eV y) ++
 E4 39 (eV y) ++
 E4 43 (eV y)).length≤
 20∧(IsE
 (N5 y)∧(IsH
 (hCl y)∧([A9 (A1 (A0 y 0)==5)]= [A9 (J3 47 (eV y))]∧(J3 47 (eV y)=true→a3o 47 (eV y)))))))∧
 ((129=129∧(((0:Int)=0)∧(([zD (A5 (Z3.getD (A1 (A0 y 0)).toNat D.any))]++E4 11 (eV y)++E4 15 (eV y) ++
 E4 19 (eV y) ++
 E4 23 (eV y) ++
 E4 27 (eV y) ++
 E4 31 (eV y) ++
 E4 35 (eV y) ++
 E4 39 (eV y) ++
 E4 43 (eV y) ++
 E4 47 (eV y)).length≤
 20∧(IsE
 (N5 y)∧h4d κ (A2 (D.slice (K3 (A0 y 15)) 16 (A2 (A0 y 15))))))))∧
 ((1=1∧(Y2
 ([zD (A5 (Z3.getD (A1 (A0 y 0)).toNat D.any))]++E4 11 (eV y)++E4 15 (eV y) ++
 E4 19 (eV y) ++
 E4 23 (eV y) ++
 E4 27 (eV y) ++
 E4 31 (eV y) ++
 E4 35 (eV y) ++
 E4 39 (eV y) ++
 E4 43 (eV y) ++
 E4 47 (eV y) ++
 List.map eD (A2 (D.slice (K3 (A0 y 15)) 16 (A2 (A0 y 15)))))∧((P4
 ([zD (A5 (Z3.getD (A1 (A0 y 0)).toNat D.any))]++E4 11 (eV y) ++
 E4 15 (eV y) ++
 E4 19 (eV y) ++
 E4 23 (eV y) ++
 E4 27 (eV y) ++
 E4 31 (eV y) ++
 E4 35 (eV y) ++
 E4 39 (eV y) ++
 E4 43 (eV y) ++
 E4 47 (eV y) ++
 List.map eD (A2 (D.slice (K3 (A0 y 15)) 16 (A2 (A0 y 15)))))).size≤
 9223372036854775806∧([zD (A5 (Z3.getD (A1 (A0 y 0)).toNat D.any))]++E4 11 (eV y)++E4 15 (eV y) ++
 E4 19 (eV y) ++
 E4 23 (eV y) ++
 E4 27 (eV y) ++
 E4 31 (eV y) ++
 E4 35 (eV y) ++
 E4 39 (eV y) ++
 E4 43 (eV y) ++
 E4 47 (eV y) ++
 List.map eD (A2 (D.slice (K3 (A0 y 15)) 16 (A2 (A0 y 15))))).length≤
 1152921504606846976)))∧
 p
 (C9 (N4
 ([zD (A5 (Z3.getD (A1 (A0 y 0)).toNat D.any))]++E4 11 (eV y) ++
 E4 15 (eV y) ++
 E4 19 (eV y) ++
 E4 23 (eV y) ++
 E4 27 (eV y) ++
 E4 31 (eV y) ++
 E4 35 (eV y) ++
 E4 39 (eV y) ++
 E4 43 (eV y) ++
 E4 47 (eV y) ++
 List.map eD (A2 (D.slice (K3 (A0 y 15)) 16 (A2 (A0 y 15))))))))))))))))))))))):=by kernel_rfl
theorem h9t:C2 B g5d:=by
 refine C3 C4 h9w (fn:=Tryz.f108) (cd:=A7 Tryz.f108) (sp:=C5) (hn:=B1) Tryz.func108 (by kernel_rfl) (by kernel_rfl) A8 fun ds r hp hr=>?_
 unfold h2e at hp hr
 simp only[] at hr hp
 split at hr
 ·rename_i y
  cases hr
  obtain ⟨hf,hn,hall⟩:=hp
  rw[W1 hf.v]
  refine keep (h6v y fun v=>v=_) ?_
  have hl:∀b:List UInt8,b.length≤7→Lim 4096 ([sB b]++A2 (A0 y 7)):=fun b hb=>Lim.app (.cons (Nat.le_trans hb (by decide)) .nil) hall
  have hr1:((1+((A2 (A0 y 7)).length+0))*16).ble 70368744177664=true:=by rw[Nat.ble_eq];omega
  have hc:∀b:List UInt8,([sB b]++A2 (A0 y 7)).length≤129:=fun b=>by simp only[List.length_append,List.length_cons,List.length_nil];omega
  have key:∀b:List UInt8,b.length≤7→Y2 ([sB b]++A2 (A0 y 7))∧(P4 ([sB b]++A2 (A0 y 7))).size≤9223372036854775806∧([sB b]++A2 (A0 y 7)).length≤1152921504606846976:=fun b hb =>
   ⟨(hl b hb).str,Nat.le_trans (Nat.le_of_lt (i7 (n:=129) (b:=528515) (hl b hb) (hc b) (by decide)).1) (by decide),Nat.le_trans (hc b) (by decide)⟩
  rw[hr1]
  unfold e3u
  cases Z8 (A0 y 8)
  ·exact ⟨⟨(by trivial),key [98,121] (by decide)⟩,rfl⟩
  ·exact ⟨⟨(by trivial),key [119,105,116,104,111,117,116] (by decide)⟩,rfl⟩
 ·cases hr
abbrev g2k (i:Nat) (fs:Bool) (y:D):List V:=(bif fs then [.d (.slice false 1 (n9 (kd y)))] else [])++ [A9 (J3 i y)]
theorem okP {κ:Nat} (hk:C2 B (U62 κ)) {i:Nat} {L:List Nat} {ns:List (B2×B2)} {fs:Bool} {c:Code}
  (hp:∀(y:D) (h0 h1 h2 h3 h4 h5 h6 h7 h8:Bool) (n:Int) (ts:List D) (R:X→List V→List Box→Prop),(J3 i y=true→a3o i y)→ts.length≤20→R .normal [.ptr [5000] 0, .ptr [5001] 0, .ref [5002]] [G5 y,hBx h0 h1 h2 h3 h4 h5 h6 h7 h8 n, .arr true false 9 1 (ts++E4 i y) []]→a5c (q9 (Cn (U62 κ)) (U62 κ) D4 0 C5 h62 false c 129 L (Q8 ns) [] [1,3,4] W2 (.ptr [5000] 0:: .ptr [5001] 0:: .ref [5002]::g2k i fs y) [G5 y,hBx h0 h1 h2 h3 h4 h5 h6 h7 h8 n, .arr true false 9 1 ts []] R)):OkS (Cn (U62 κ)) 0 c (S62 i L ns fs):=by
 refine c4n (D1 C4 hk B9) C1 (sp:=C5) (hn:=h62) (il:=false) A8 (adsI:=[]) (nsX:=W2) rfl fun N vals bs K h=>?_
 simp only[S62] at h
 split at h
 case h_2=>exact h.elim
 obtain ⟨⟨rfl,ht,⟨y,rfl⟩,⟨h0,h1,h2,h3,h4,h5,h6,h7,h8,n,rfl⟩,rfl,hpre⟩,h⟩:=h
 exact hp (eV y) h0 h1 h2 h3 h4 h5 h6 h7 h8 n _ K hpre ht h
theorem a5q {ts:List D} {k:Nat} (h:ts.length≤20) (hk:k≤20):((ts.length+k)*16).ble 70368744177664=true:=by rw[Nat.ble_eq];omega
theorem f3b {κ:Nat} (hk:C2 B (U62 κ)):OkS (Cn (U62 κ)) 0 (C6 (A7 Tryz.f62) 15) (S62 15 [1,3,4,30] W2 false):=okP hk fun y h0 h1 h2 h3 h4 h5 h6 h7 h8 n ts R hpre ht hR=>by
 refine keep (p15 κ y h0 h1 h2 h3 h4 h5 h6 h7 h8 n ts (J3 15 y) R) ?_
 rw[a5q ht (k:=1) (by decide)]
 unfold E4 at hR
 cases hc:J3 15 y with
 | false=>rw[hc] at hR;rw[show (bif false then n5 15 y else [])= [] from rfl,List.append_nil] at hR;exact ⟨(by trivial),hR⟩
 | true =>
  rw[hc] at hR
  have hrr:129=129∧R .normal [.ptr [5000] 0, .ptr [5001] 0, .ref [5002]] [G5 y,hBx h0 h1 h2 h3 h4 h5 h6 h7 h8 n, .arr true false 9 1 (ts++n5 15 y) []]:=⟨rfl,hR⟩
  exact ⟨(by trivial),hrr⟩
theorem f3a {κ:Nat} (hk:C2 B (U62 κ)):OkS (Cn (U62 κ)) 0 (C6 (A7 Tryz.f62) 19) (S62 19 [1,3,4,43] W2 false):=okP hk fun y h0 h1 h2 h3 h4 h5 h6 h7 h8 n ts R hpre ht hR=>by
 refine keep (p19 κ y h0 h1 h2 h3 h4 h5 h6 h7 h8 n ts (J3 19 y) R) ?_
 rw[a5q ht (k:=1) (by decide)]
 unfold E4 at hR
 cases hc:J3 19 y with
 | false=>rw[hc] at hR;rw[show (bif false then n5 19 y else [])= [] from rfl,List.append_nil] at hR;exact ⟨(by trivial),hR⟩
 | true =>
  rw[hc] at hR
  have hrr:129=129∧R .normal [.ptr [5000] 0, .ptr [5001] 0, .ref [5002]] [G5 y,hBx h0 h1 h2 h3 h4 h5 h6 h7 h8 n, .arr true false 9 1 (ts++n5 19 y) []]:=⟨rfl,hR⟩
  exact hrr
theorem f2z {κ:Nat} (hk:C2 B (U62 κ)):OkS (Cn (U62 κ)) 0 (C6 (A7 Tryz.f62) 23) (S62 23 [1,3,4,50] W2 false):=okP hk fun y h0 h1 h2 h3 h4 h5 h6 h7 h8 n ts R hpre ht hR=>by
 refine keep (p23 κ y h0 h1 h2 h3 h4 h5 h6 h7 h8 n ts (J3 23 y) R) ?_
 rw[a5q ht (k:=1) (by decide)]
 unfold E4 at hR
 cases hc:J3 23 y with
 | false=>rw[hc] at hR;rw[show (bif false then n5 23 y else [])= [] from rfl,List.append_nil] at hR;exact ⟨(by trivial),hR⟩
 | true =>
  rw[hc] at hR
  have hrr:129=129∧R .normal [.ptr [5000] 0, .ptr [5001] 0, .ref [5002]] [G5 y,hBx h0 h1 h2 h3 h4 h5 h6 h7 h8 n, .arr true false 9 1 (ts++n5 23 y) []]:=⟨rfl,hR⟩
  exact ⟨(by trivial),⟨(hpre hc).1,(hpre hc).2,(a3m b9n (hpre hc).2).1⟩,hrr⟩
theorem f2y {κ:Nat} (hk:C2 B (U62 κ)):OkS (Cn (U62 κ)) 0 (C6 (A7 Tryz.f62) 27) (S62 27 [1,3,4,60] W2 false):=okP hk fun y h0 h1 h2 h3 h4 h5 h6 h7 h8 n ts R hpre ht hR=>by
 refine keep (p27 κ y h0 h1 h2 h3 h4 h5 h6 h7 h8 n ts (J3 27 y) R) ?_
 rw[a5q ht (k:=1) (by decide)]
 unfold E4 at hR
 cases hc:J3 27 y with
 | false=>rw[hc] at hR;rw[show (bif false then n5 27 y else [])= [] from rfl,List.append_nil] at hR;exact ⟨(by trivial),hR⟩
 | true =>
  rw[hc] at hR
  have hrr:129=129∧R .normal [.ptr [5000] 0, .ptr [5001] 0, .ref [5002]] [G5 y,hBx h0 h1 h2 h3 h4 h5 h6 h7 h8 n, .arr true false 9 1 (ts++n5 27 y) []]:=⟨rfl,hR⟩
  exact ⟨hpre hc,hrr⟩
theorem f2w {κ:Nat} (hk:C2 B (U62 κ)):OkS (Cn (U62 κ)) 0 (C6 (A7 Tryz.f62) 35) (S62 35 [1,3,4,77] W2 false):=okP hk fun y h0 h1 h2 h3 h4 h5 h6 h7 h8 n ts R hpre ht hR=>by
 refine keep (p35 κ y h0 h1 h2 h3 h4 h5 h6 h7 h8 n ts (J3 35 y) R) ?_
 rw[a5q ht (k:=1) (by decide)]
 unfold E4 at hR
 cases hc:J3 35 y with
 | false=>rw[hc] at hR;rw[show (bif false then n5 35 y else [])= [] from rfl,List.append_nil] at hR;exact ⟨(by trivial),hR⟩
 | true =>
  rw[hc] at hR
  have hrr:129=129∧R .normal [.ptr [5000] 0, .ptr [5001] 0, .ref [5002]] [G5 y,hBx h0 h1 h2 h3 h4 h5 h6 h7 h8 n, .arr true false 9 1 (ts++n5 35 y) []]:=⟨rfl,hR⟩
  exact ⟨⟨(by trivial),hpre hc⟩,hrr⟩
theorem f2v {κ:Nat} (hk:C2 B (U62 κ)):OkS (Cn (U62 κ)) 0 (C6 (A7 Tryz.f62) 39) (S62 39 [1,3,4,85] W2 false):=okP hk fun y h0 h1 h2 h3 h4 h5 h6 h7 h8 n ts R hpre ht hR=>by
 refine keep (p39 κ y h0 h1 h2 h3 h4 h5 h6 h7 h8 n ts (J3 39 y) R) ?_
 rw[a5q ht (k:=2) (by decide)]
 unfold E4 at hR
 cases hc:J3 39 y with
 | false=>rw[hc] at hR;rw[show (bif false then n5 39 y else [])= [] from rfl,List.append_nil] at hR;exact ⟨(by trivial),hR⟩
 | true =>
  rw[hc] at hR
  have hrr:129=129∧R .normal [.ptr [5000] 0, .ptr [5001] 0, .ref [5002]] [G5 y,hBx h0 h1 h2 h3 h4 h5 h6 h7 h8 n, .arr true false 9 1 (ts++n5 39 y) []]:=⟨rfl,hR⟩
  exact ⟨(hpre hc).1,(hpre hc).2,hrr⟩
theorem f2u {κ:Nat} (hk:C2 B (U62 κ)):OkS (Cn (U62 κ)) 0 (C6 (A7 Tryz.f62) 43) (S62 43 [1,3,4,96] W2 false):=okP hk fun y h0 h1 h2 h3 h4 h5 h6 h7 h8 n ts R hpre ht hR=>by
 refine keep (p43 κ y h0 h1 h2 h3 h4 h5 h6 h7 h8 n ts (J3 43 y) R) ?_
 rw[a5q ht (k:=1) (by decide)]
 unfold E4 at hR
 cases hc:J3 43 y with
 | false=>rw[hc] at hR;rw[show (bif false then n5 43 y else [])= [] from rfl,List.append_nil] at hR;exact ⟨(by trivial),hR⟩
 | true =>
  rw[hc] at hR
  have hrr:129=129∧R .normal [.ptr [5000] 0, .ptr [5001] 0, .ref [5002]] [G5 y,hBx h0 h1 h2 h3 h4 h5 h6 h7 h8 n, .arr true false 9 1 (ts++n5 43 y) []]:=⟨rfl,hR⟩
  exact ⟨⟨by have:=(hpre hc).1.v;rw[this];exact (hpre hc).1,(hpre hc).2⟩,hrr⟩
theorem f2t {κ:Nat} (hk:C2 B (U62 κ)):OkS (Cn (U62 κ)) 0 (C6 (A7 Tryz.f62) 47) (S62 47 [1,3,4,104] W2 false):=okP hk fun y h0 h1 h2 h3 h4 h5 h6 h7 h8 n ts R hpre ht hR=>by
 refine keep (p47 κ y h0 h1 h2 h3 h4 h5 h6 h7 h8 n ts (J3 47 y) R) ?_
 rw[a5q ht (k:=1) (by decide)]
 unfold E4 at hR
 cases hc:J3 47 y with
 | false=>rw[hc] at hR;rw[show (bif false then n5 47 y else [])= [] from rfl,List.append_nil] at hR;exact ⟨(by trivial),hR⟩
 | true =>
  rw[hc] at hR
  have hrr:129=129∧R .normal [.ptr [5000] 0, .ptr [5001] 0, .ref [5002]] [G5 y,hBx h0 h1 h2 h3 h4 h5 h6 h7 h8 n, .arr true false 9 1 (ts++n5 47 y) []]:=⟨rfl,hR⟩
  exact ⟨Nat.le_trans (hpre hc) (by decide),hrr⟩
theorem d9g (k:Int):Lim 16 (n9 k):=by
 unfold n9
 cases k==2<;>simp only[cond_true,cond_false]
 ·cases k==3<;>simp only[cond_true,cond_false]
  ·cases k==6<;>simp only[cond_true,cond_false]
   ·cases k==7<;>simp only[cond_true,cond_false]
    ·exact .nil
    ·repeat first|exact .nil|refine .cons (by decide) ?_
   ·repeat first|exact .nil|refine .cons (by decide) ?_
  ·repeat first|exact .nil|refine .cons (by decide) ?_
 ·repeat first|exact .nil|refine .cons (by decide) ?_
theorem f3c {κ:Nat} (hk:C2 B (U62 κ)):OkS (Cn (U62 κ)) 0 (C6 (A7 Tryz.f62) 11) (S62 11 [1,3,4,5,20] g2j true):=okP hk fun y h0 h1 h2 h3 h4 h5 h6 h7 h8 n ts R hpre ht hR=>by
 refine keep (p11 κ y h0 h1 h2 h3 h4 h5 h6 h7 h8 n ts (n9 (kd y)) (J3 11 y) R) ?_
 rw[a5q ht (k:=1) (by decide)]
 unfold E4 at hR
 cases hc:J3 11 y with
 | false=>rw[hc] at hR;rw[show (bif false then n5 11 y else [])= [] from rfl,List.append_nil] at hR;exact ⟨(by trivial),hR⟩
 | true =>
  rw[hc] at hR
  exact ⟨⟨Int.le_trans (by decide) (hpre hc).1,(hpre hc).2,(a3m (d9g _) (hpre hc).2).1⟩,rfl,hR⟩
theorem f2x {κ:Nat} (hk:C2 B (U62 κ)):OkS (Cn (U62 κ)) 0 (C6 (A7 Tryz.f62) 31) (S62 31 [1,3,4,68] W2 false):=okP hk fun y h0 h1 h2 h3 h4 h5 h6 h7 h8 n ts R hpre ht hR=>by
 refine keep (p31 κ y h0 h1 h2 h3 h4 h5 h6 h7 h8 n ts (J3 31 y) R) ?_
 rw[a5q ht (k:=1) (by decide)]
 unfold E4 at hR
 cases hc:J3 31 y with
 | false=>rw[hc] at hR;rw[show (bif false then n5 31 y else [])= [] from rfl,List.append_nil] at hR;exact ⟨(by trivial),hR⟩
 | true =>
  rw[hc] at hR
  have hm:b7e (A2 (A0 y 2)):=hpre hc
  have hl:Lim 32768 ((A2 (A0 y 2)).map a2c):=Lim.map fun a ha=>c6t (hm.2 a ha)
  have h9:=i7 (n:=128) (b:=4194434) hl (by rw[List.length_map];exact hm.1) (by decide)
  exact ⟨⟨(by trivial),hm⟩,⟨(by trivial),hl.str,Nat.le_trans (Nat.le_of_lt h9.1) (by decide),by rw[List.length_map];exact Nat.le_trans hm.1 (by decide)⟩,rfl,hR⟩
theorem g6g {κ:Nat} (hk:C2 B (U62 κ)):OkS (Cn (U62 κ)) 0 (.loop l62) (L62 κ):=by
 refine D2 fun N vals bs K h=>?_
 simp only[L62] at h
 split at h
 case h_2=>exact h.elim
 rename_i i cs t0
 obtain ⟨⟨rfl,rfl,ht0,⟨y,rfl⟩,hn,hall⟩,h⟩:=h
 have hn:(A2 (A0 y 15)).length≤4096:=hn
 have hall:∀a∈A2 (A0 y 15),ETx a∧dsz a<κ:=hall
 have h:K (.exit 0) [.ref [5001]] [.arr true false 9 1 (t0++(A2 (A0 y 15)).map eD) []]:=h
 have main:∀k i ts,i+k=(A2 (A0 y 15)).length→ts=t0++((A2 (A0 y 15)).take i).map eD→J5 (Cn (U62 κ)) 0 l62 129 [1,4,6] [[5000],[5001]] [4] [[5001]] [.ptr [5000] 0, .ref [5001],A3 i] [G5 y, .arr true false 9 1 ts []] K:=by
  intro k
  induction k with
  | zero =>
   intro i ts hi hts
   rw[List.take_of_length_le (by omega)] at hts
   subst hts
   refine B6 (D1 C4 hk B9) C1 A8 (hn:=B1) (adsI:=[]) (nsI:=[([5000],[5000]),([5001],[128])]) (nsX:=[([5001],[5001])]) rfl rfl (keep (b62 κ y _ i _) ?_)
   rw[show decide ((i:Int)<((A2 (A0 y 15)).length:Int))=false by simp;omega]
   exact ⟨(by trivial),h⟩
  | succ k ih =>
   intro i ts hi hts
   refine B6 (D1 C4 hk B9) C1 A8 (hn:=B1) (adsI:=[]) (nsI:=[([5000],[5000]),([5001],[128])]) (nsX:=[([5001],[5001])]) rfl rfl (keep (b62 κ y ts i _) ?_)
   have e2:IntKind.i64.wrap ((i:Int)+1)=((i+1:Nat):Int):=by rw[Go.IntWalk.i64_in _ (by omega)];omega
   have hlt:i<(A2 (A0 y 15)).length:=by omega
   obtain ⟨hm,hs⟩:=hall _ (E1 (xs:=A2 (A0 y 15)) (i:=i) hlt)
   have hv:eV ((A2 (A0 y 15)).getD i .any)=(A2 (A0 y 15)).getD i .any:=(hm.h 1).1.1.v
   have hl:ts.length≤i+20:=by rw[hts,List.length_append,List.length_map,List.length_take];omega
   have e3:((ts.length+1)*16).ble 70368744177664=true:=by rw[Nat.ble_eq];omega
   have hnext:=ih (i+1) (ts++ [eD ((A2 (A0 y 15)).getD i .any)]) (by omega) (by rw[hts,List.append_assoc,a7w hlt])
   simp only[show decide ((i:Int)<((A2 (A0 y 15)).length:Int))=true by simp;omega,cond_true,Int.toNat_natCast,e2,e3,hv]
   exact ⟨⟨by omega,hlt,(by trivial)⟩,⟨hm,hs⟩,(by trivial),hnext⟩
 exact main (A2 (A0 y 15)).length 0 t0 (by omega) (by simp)
theorem ETx.l {y:D} (h:ETx y):D0 y∧(1≤kd y∧(kd y).toNat<Z3.length)∧G1 y≤100∧(A5 (A0 y 14)).size≤4096∧∀i,J3 i y=true→a3o i y:=(h.h 1).1
theorem ETx.a {y:D} (h:ETx y) {a:D} (ha:a∈E3 y 15):ETx a:=⟨fun n=>(h.h (n+1)).2 a ha⟩
theorem d4x (r r':D→ByteArray) (y:D) (h:∀a∈E3 y 15,r a=r' a):e9s r y=e9s r' y:=by
 unfold e9s
 rw[show (E3 y 15).map (fun a=>D.lit (.string (r a)))=(E3 y 15).map (fun a=>D.lit (.string (r' a))) from List.map_congr_left fun a ha=>by rw[h a ha]]
theorem c7u (y:D):d6t y=N4 (a5n y++(A2 (A0 y 15)).map eD):=X7 d4x y
theorem V1 {i n:Nat} {y:D} (h:(n5 i y).length≤n):(E4 i y).length≤n:=by
 unfold E4;cases J3 i y
 ·exact Nat.zero_le _
 ·exact h
theorem a5v {i M:Nat} {y:D} (h:J3 i y=true→Lim M (n5 i y)):Lim M (E4 i y):=by
 unfold E4;cases hc:J3 i y
 ·exact .nil
 ·exact h hc
theorem c5u (y:D):(a5n y).length≤12:=by
 have l11:(E4 11 y).length≤1:=V1 (Nat.le_refl _)
 have l15:(E4 15 y).length≤1:=V1 (Nat.le_refl _)
 have l19:(E4 19 y).length≤1:=V1 (Nat.le_refl _)
 have l23:(E4 23 y).length≤1:=V1 (Nat.le_refl _)
 have l27:(E4 27 y).length≤1:=V1 (Nat.le_refl _)
 have l31:(E4 31 y).length≤1:=V1 (Nat.le_refl _)
 have l35:(E4 35 y).length≤1:=V1 (Nat.le_refl _)
 have l39:(E4 39 y).length≤2:=V1 (Nat.le_refl _)
 have l43:(E4 43 y).length≤1:=V1 (Nat.le_refl _)
 have l47:(E4 47 y).length≤1:=V1 (Nat.le_refl _)
 unfold a5n
 simp only[List.length_append,List.length_cons,List.length_nil]
 omega
theorem a3e (y:D):1+((E3 y 15).map G1).sum≤G1 y:=by
 rw[p6 y];omega
theorem e7s (n d:Int):(c7j n d).size≤4096:=by
 have l1:=a3g (n.natAbs:Nat)
 have l2:=a3g d
 have l3:(ByteArray.mk (Array.mk [47])).size=1:=rfl
 have l4:(ByteArray.mk (Array.mk [45])).size=1:=rfl
 have l5:(ByteArray.mk (Array.mk [])).size=0:=rfl
 unfold c7j
 cases m3 n d !=0<;>cases decide (n<0)<;>cases decide (d>1)<;>simp only[cond_true,cond_false,Y6]<;>omega
theorem d9y {y:D} (h:ETx y):Lim 4294967296 (a5n y):=by
 obtain ⟨hf,⟨k0,k1⟩,ht,hx,hp⟩:=h.l
 have w:∀{s:ByteArray} {M:Nat},s.size≤M→M≤4294967296→Lim 4294967296 [.lit (.string s)]:=fun h1 h2=>.cons (Nat.le_trans h1 h2) .nil
 unfold a5n
 refine ((((((((((Lim.app ?_ ?_).app ?_).app ?_).app ?_).app ?_).app ?_).app ?_).app ?_).app ?_).app ?_)
 ·exact w (a3m c4v k1).2 (by decide)
 ·exact a5v fun hc=>w (a3m (d9g _) (hp 11 hc).2).2 (by decide)
 ·exact a5v fun _=>w (e7s _ _) (by decide)
 ·exact a5v fun _=>w hx (by decide)
 ·exact a5v fun hc=>w (a3m b9n (hp 23 hc).2).2 (by decide)
 ·refine a5v fun hc=>w (s:=d5r (paV y)) (M:=838860800) ?_ (by decide)
  have hq:PTx (paV y):=hp 27 hc
  have h1:=f8o hq (Nat.lt_succ_self _)
  have h2:M4 (paV y)*8388608≤100*8388608:=Nat.mul_le_mul_right _ hq.l.2.2.2.2
  omega
 ·refine a5v fun hc=>w (M:=4194434) ?_ (by decide)
  have hm:b7e (A2 (A0 y 2)):=hp 31 hc
  have hl:Lim 32768 ((A2 (A0 y 2)).map a2c):=Lim.map fun a ha=>c6t (hm.2 a ha)
  exact (i7 (n:=128) (b:=4194434) hl (by rw[List.length_map];exact hm.1) (by decide)).2
 ·refine a5v fun hc=>w (M:=2147483778) ?_ (by decide)
  have hm:d7t (A2 (A0 y 10)):=hp 35 hc
  have hl:Lim 16777216 ((A2 (A0 y 10)).map b3s):=Lim.map fun a ha=>by
   have hlim:=b5b (hm.2 a ha)
   exact (i7 (n:=258) (b:=16777216) hlim.1 hlim.2 (by decide)).2
  exact (i7 (n:=128) (b:=2147483778) hl (by rw[List.length_map];exact hm.1) (by decide)).2
 ·exact a5v fun _=>.cons (Nat.le_trans (a3g _) (by decide)) (.cons (Nat.le_trans (a3g _) (by decide)) .nil)
 ·refine a5v fun hc=>w (s:=e3u y) (M:=528515) ?_ (by decide)
  have hm:d7u (A2 (A0 y 7)):=(hp 43 hc).2
  have hl:∀b:List UInt8,b.length≤7→(N4 ([sB b]++A2 (A0 y 7))).size≤528515:=fun b hb =>
   (i7 (n:=129) (b:=528515) (Lim.app (.cons (Nat.le_trans hb (by decide)) .nil) hm.2) (by have:=hm.1;simp only[List.length_append,List.length_cons,List.length_nil];omega) (by decide)).2
  unfold e3u
  cases Z8 (A0 y 8)
  ·exact hl [98,121] (by decide)
  ·exact hl [119,105,116,104,111,117,116] (by decide)
 ·exact a5v fun _=>w (Nat.le_trans (a8e _) (show 2*(A5 (A0 y 14)).size+2≤8194 by omega)) (by decide)
theorem g8p:∀{n:Nat} {y:D},ETx y→dsz y<n→(d6t y).size+1≤G1 y*68719476736:=by
 intro n
 induction n with
 | zero=>intro y _ h;omega
 | succ n ih =>
  intro y h hn
  have key:∀l:List D,(∀a∈l,a∈E3 y 15)→tot (l.map eD)≤(l.map G1).sum*68719476736:=by
   intro l hl
   induction l with
   | nil=>simp[tot]
   | cons x r ih2 =>
    have hx:=hl x (by simp)
    have h1:=ih (h.a hx) (by have:=G3 hx;omega)
    have h2:=ih2 fun a ha=>hl a (List.mem_cons_of_mem _ ha)
    simp only[tot,List.map_cons,List.sum_cons,Nat.add_mul] at h2 ⊢
    have h3:(A5 (eD x)).size=(d6t x).size:=rfl
    omega
  have h1:=key (E3 y 15) fun a ha=>ha
  have h2:=d8c (d9y h)
  have h3:(a5n y).length≤12:=c5u y
  have h4:(a5n y).length*(4294967296+1)≤12*(4294967296+1):=Nat.mul_le_mul_right _ h3
  have h6:=(d2d (a5n y++(A2 (A0 y 15)).map eD)).2
  have h7:=a3e y
  have h8:(1+((E3 y 15).map G1).sum)*68719476736≤G1 y*68719476736:=Nat.mul_le_mul_right _ h7
  rw[Nat.add_mul] at h8
  rw[c7u]
  rw[c5z] at h6
  unfold E3 at h1 h8
  omega
theorem k62:C2 B T62:=by
 refine P9 C4 h9t μ1 (fn:=Tryz.f62) (cd:=A7 Tryz.f62) (sp:=fun κ=>spL [(11,S62 11 [1,3,4,5,20] g2j true),(15,S62 15 [1,3,4,30] W2 false),(19,S62 19 [1,3,4,43] W2 false),(23,S62 23 [1,3,4,50] W2 false),(27,S62 27 [1,3,4,60] W2 false),(31,S62 31 [1,3,4,68] W2 false),(35,S62 35 [1,3,4,77] W2 false),(39,S62 39 [1,3,4,85] W2 false),(43,S62 43 [1,3,4,96] W2 false),(47,S62 47 [1,3,4,104] W2 false),(50,L62 κ)]) (hn:=B1) Tryz.func62 (by kernel_rfl) (by kernel_rfl) (fun κ hk=>B8 (c:=C6 (A7 Tryz.f62) 11) (by kernel_rfl) (f3c hk) (B8 (c:=C6 (A7 Tryz.f62) 15) (by kernel_rfl) (f3b hk) (B8 (c:=C6 (A7 Tryz.f62) 19) (by kernel_rfl) (f3a hk) (B8 (c:=C6 (A7 Tryz.f62) 23) (by kernel_rfl) (f2z hk) (B8 (c:=C6 (A7 Tryz.f62) 27) (by kernel_rfl) (f2y hk) (B8 (c:=C6 (A7 Tryz.f62) 31) (by kernel_rfl) (f2x hk) (B8 (c:=C6 (A7 Tryz.f62) 35) (by kernel_rfl) (f2w hk) (B8 (c:=C6 (A7 Tryz.f62) 39) (by kernel_rfl) (f2v hk) (B8 (c:=C6 (A7 Tryz.f62) 43) (by kernel_rfl) (f2u hk) (B8 (c:=C6 (A7 Tryz.f62) 47) (by kernel_rfl) (f2t hk) (B8 (c:=.loop l62) (by kernel_rfl) (g6g hk) C8))))))))))) fun κ ds r hp hm hr=>?_
 unfold c62 at hp hr
 simp only[] at hr hp
 split at hr
 ·rename_i y
  cases hr
  have hp:ETx y:=hp
  obtain ⟨hf,⟨k0,k1⟩,ht,hx,hpp⟩:=hp.l
  rw[W1 hf.v]
  refine keep (w62 κ y fun v=>v=_) ?_
  rw[hf.v]
  have hH:IsH (hCl y):=⟨_,_,_,_,_,_,_,_,_,_,rfl⟩
  have l11:(E4 11 y).length≤1:=V1 (Nat.le_refl _)
  have l15:(E4 15 y).length≤1:=V1 (Nat.le_refl _)
  have l19:(E4 19 y).length≤1:=V1 (Nat.le_refl _)
  have l23:(E4 23 y).length≤1:=V1 (Nat.le_refl _)
  have l27:(E4 27 y).length≤1:=V1 (Nat.le_refl _)
  have l31:(E4 31 y).length≤1:=V1 (Nat.le_refl _)
  have l35:(E4 35 y).length≤1:=V1 (Nat.le_refl _)
  have l39:(E4 39 y).length≤2:=V1 (Nat.le_refl _)
  have l43:(E4 43 y).length≤1:=V1 (Nat.le_refl _)
  have l47:(E4 47 y).length≤1:=V1 (Nat.le_refl _)
  have hlen:=g8p hp (Nat.lt_succ_self _)
  have ha:(A2 (A0 y 15)).length≤100:=by
   have:=a3e y
   have:=a4o (xs:=E3 y 15)
   unfold E3 at *
   omega
  have hal:=c5u y
  have hstr:Y2 (a5n y++(A2 (A0 y 15)).map eD):=fun a ha=>by
   rcases List.mem_append.1 ha with ha|ha
   ·exact (d9y hp).str a ha
   ·obtain ⟨x,_,rfl⟩:=List.mem_map.1 ha
    rfl
  have hsz:(P4 (a5n y++(A2 (A0 y 15)).map eD)).size≤9223372036854775806:=by
   rw[c7u] at hlen
   have h9:(N4 (a5n y++(A2 (A0 y 15)).map eD)).size=(P4 (a5n y++(A2 (A0 y 15)).map eD)).size+1:=by
    unfold N4 P4;rw[Y6];rfl
   have:G1 y*68719476736≤100*68719476736:=Nat.mul_le_mul_right _ ht
   omega
  refine ⟨hf,(by trivial),⟨Int.le_trans (by decide) k0,k1,(a3m c4v k1).1⟩,(by trivial),⟨(by trivial),(by decide),⟨y,rfl⟩,hH,rfl,hpp 11⟩,⟨(by trivial), ?_,⟨y,rfl⟩,hH,rfl,hpp 15⟩,⟨(by trivial), ?_,⟨y,rfl⟩,hH,rfl,hpp 19⟩,⟨(by trivial), ?_,⟨y,rfl⟩,hH,rfl,hpp 23⟩,⟨(by trivial), ?_,⟨y,rfl⟩,hH,rfl,hpp 27⟩,⟨(by trivial), ?_,⟨y,rfl⟩,hH,rfl,hpp 31⟩,⟨(by trivial), ?_,⟨y,rfl⟩,hH,rfl,hpp 35⟩,⟨(by trivial), ?_,⟨y,rfl⟩,hH,rfl,hpp 39⟩,⟨(by trivial), ?_,⟨y,rfl⟩,hH,rfl,hpp 43⟩,⟨(by trivial), ?_,⟨y,rfl⟩,hH,rfl,hpp 47⟩,⟨(by trivial),(by trivial), ?_,⟨y,rfl⟩,by show (A2 (A0 y 15)).length≤4096;omega,fun a ha=>⟨hp.a ha,hm▸G3 ha⟩⟩,⟨(by trivial),hstr,hsz, ?_⟩, ?_⟩
  all_goals first
   | (simp only[List.length_append,List.length_cons,List.length_nil];omega)
   | (show (a5n y++(A2 (A0 y 15)).map eD).length≤_;simp only[List.length_append,List.length_map];omega)
   | (unfold eD;rw[c7u];rfl)
 ·cases hr
theorem w28 (y:D) (p:V→Prop):(B7 (Cn T62) T62 D4 0 C5 B1 28 [V.d (eV y)] B4.empty fun v H=>p (B5 H v)) =
 ((D0 (eV y)∧Bd (eV y))∧
 (bif E2 (eV y) !=0 then
 p (V.d (D.tup [zD (bA []),iD (E2 (eV y))])) else
 (ETx (eV y)∧
 p (V.d (D.tup [zD (d6t (eV y)),iD 0]))))):=by kernel_rfl
noncomputable def prS (y:D):ByteArray:=bif E2 y !=0 then ByteArray.mk (Array.mk []) else d6t y
structure c3g (y:D):Prop where
 f:D0 y
 b:Bd y
 t:E2 y=0→ETx y
noncomputable def c28:Ct:=⟨fun | [x]=>c3g x|_=>False,fun | [x]=>some (.tup [.lit (.string (prS x)),n8 (E2 x)])|_=>none⟩
noncomputable def T28:Tab:=T62.add 28 c28
theorem w33 (x:D) (y:D) (p:V→Prop):(B7 (Cn T28) T28 D4 0 C5 B1 33 [V.d (eV x),V.d (eV y)] B4.empty fun v H=>p (B5 H v)) =
 (c3g (eV x)∧
 (c3g (eV y)∧
 p
 (A9 (bif bif E2 (eV x)==0 then E2 (eV y)==0 else false then
 (prS
 (D.agg
 [iC x 0,iC x 1,lC x 2 3,iC x 3,iC x 4,iC x 5,iC x 6,lC x 7 1,bC x 8,iC x 9,lC x 10 4,
 iC x 11,lC x 12 4,lC x 13 3,sC x 14,lC x 15 16])).toList ==
 (prS
 (D.agg
 [iC y 0,iC y 1,lC y 2 3,iC y 3,iC y 4,iC y 5,iC y 6,lC y 7 1,bC y 8,iC y 9,lC y 10 4,
 iC y 11,lC y 12 4,lC y 13 3,sC y 14,lC y 15 16])).toList
 else false)))):=by kernel_rfl
noncomputable def eqB (x y:D):Bool:=bif bif E2 x==0 then E2 y==0 else false then (prS x).toList==(prS y).toList else false
noncomputable def g8u:Ct:=⟨fun | [x,y]=>c3g x∧c3g y|_=>False,fun | [x,y]=>some (.lit (.bool (eqB x y)))|_=>none⟩
noncomputable def T33:Tab:=T28.add 33 g8u
noncomputable def l31:Code:=D6 (C6 (A7 Tryz.f31) 8)
theorem b31 (xs:List D) (ys:List D) (b1:Bool) (b2:Bool) (i:Int) (R:X→List V→List Box→Prop):(D7 (Cn T33) T33 D4 0 C5 B1 l31 27 [0,1,5] [] [] [] [4] []
 [V.d (D.slice b1 16 xs),V.d (D.slice b2 16 ys),A3 i] [] R) =
 (bif decide (i<(↑xs.length:Int)) then
 ((((0:Int)≤i)∧(i.toNat<xs.length∧eV (xs.getD i.toNat D.any)=xs.getD i.toNat D.any))∧
 ((((0:Int)≤i)∧(i.toNat<ys.length∧eV (ys.getD i.toNat D.any)=ys.getD i.toNat D.any))∧
 ((c3g (eV (xs.getD i.toNat D.any))∧c3g (eV (ys.getD i.toNat D.any)))∧
 (bif !eqB (eV (xs.getD i.toNat D.any)) (eV (ys.getD i.toNat D.any)) then
 (27=27∧
 R X.ret [A9 false] []) else
 (27=27∧
 R X.normal
 [V.d (D.slice b1 16 xs),V.d (D.slice b2 16 ys),A3 (IntKind.i64.wrap (i+1))] []))))) else
 (27=27∧
 R (X.exit 0) [V.any] [])):=by kernel_rfl
noncomputable def c9q (xs ys:List D) (i:Nat):Option Bool:=bif !(eqB (xs.getD i .any) (ys.getD i .any)) then some false else none
def c3h (xs:List D):Prop:=xs.length≤1152921504606846976∧∀y∈xs,c3g y
noncomputable def S31:Ev.Spec:={L:=[0,1,5],ns:=[],L':=[4],nm':=[],G:=fun N vals bs k=>match vals,bs with
 | [.d (.slice b1 16 xs), .d (.slice b2 16 ys), .d (.lit (.int .i64 i))], []=>(N=27∧i=0∧xs.length=ys.length∧c3h xs∧c3h ys)∧P7 (C0 (c9q xs ys) xs.length) (k (.exit 0) [.any] []) (fun e=>k .ret [A9 e] [])
 | _,_=>False }
theorem w31 (xs:List D) (ys:List D) (b1:Bool) (b2:Bool) (p:V→Prop):(B7 (Cn T33) T33 D4 0 (spL [(8,S31)]) B1 31 [V.d (D.slice b1 16 xs),V.d (D.slice b2 16 ys)] B4.empty
 fun v H=>p (B5 H v)) =
 (bif (↑xs.length:Int) !=(↑ys.length:Int) then
 p (A9 false) else
 ((27=27∧(((0:Int)=0)∧(xs.length=ys.length∧(c3h xs∧c3h ys))))∧
 (match C0 (c9q xs ys) xs.length with
 | some y0 =>
 p (A9 y0)
 | none=>p (A9 true)))):=by kernel_rfl
noncomputable def b8p (xs ys:List D):Bool:=bif ((xs.length:Int) !=(ys.length:Int)) then false else match C0 (c9q xs ys) xs.length with|some e=>e|none=>true
noncomputable def c31:Ct:=⟨fun | [.slice _ z xs, .slice _ z' ys]=>z=16∧z'=16∧c3h xs∧c3h ys|_=>False,fun | [.slice _ _ xs, .slice _ _ ys]=>some (.lit (.bool (b8p xs ys)))|_=>none⟩
noncomputable def T31:Tab:=T33.add 31 c31
theorem k28:C2 B T28:=by
 refine C3 C4 k62 (fn:=Tryz.f28) (cd:=A7 Tryz.f28) (sp:=C5) (hn:=B1) Tryz.func28 (by kernel_rfl) (by kernel_rfl) A8 fun ds r hp hr=>?_
 unfold c28 at hp hr
 simp only[] at hr hp
 split at hr
 ·rename_i y
  cases hr
  rw[W1 hp.f.v]
  refine keep (w28 y fun v=>v=_) ?_
  rw[hp.f.v]
  unfold prS
  refine ⟨⟨hp.f,hp.b⟩,A4 (fun g=>?_) (fun g=>?_)⟩
  ·simp only[g,cond_true]
  ·have g0:E2 y=0:=by simpa using g
   simp only[g0]
   exact ⟨hp.t g0,rfl⟩
 ·cases hr
theorem k33:C2 B T33:=by
 refine C3 C4 k28 (fn:=Tryz.f33) (cd:=A7 Tryz.f33) (sp:=C5) (hn:=B1) Tryz.func33 (by kernel_rfl) (by kernel_rfl) A8 fun ds r hp hr=>?_
 unfold g8u at hp hr
 simp only[] at hr hp
 split at hr
 ·rename_i x y
  cases hr
  obtain ⟨hx,hy⟩:=hp
  rw[show [x,y].map V.d= [V.d (eV x),V.d (eV y)] by rw[hx.f.v,hy.f.v];rfl]
  refine keep (w33 x y fun v=>v=_) ?_
  show c3g (eV x)∧c3g (eV y)∧V.d (D.lit (.bool (bif bif E2 (eV x)==0 then E2 (eV y)==0 else false then (prS (eV x)).toList==(prS (eV y)).toList else false)))=_
  rw[hx.f.v,hy.f.v]
  exact ⟨hx,hy,rfl⟩
 ·cases hr
theorem h8e:OkS (Cn T33) 0 (.loop l31) S31:=by
 refine D2 fun N vals bs K h=>?_
 simp only[S31] at h
 split at h
 case h_2=>exact h.elim
 rename_i b1 xs b2 ys i
 obtain ⟨⟨rfl,rfl,hl,⟨hs,hx⟩,hy⟩,h⟩:=h
 refine F5 (D1 C4 k33 B9) C1 A8 (hn:=B1) (adsI:=[]) (nsI:=[]) (nsX:=[]) rfl rfl xs.length
  (fun i=>[.d (.slice b1 16 xs), .d (.slice b2 16 ys),A3 i]) (fun _=>[]) (c9q xs ys) (fun e=>(.ret, [A9 e], [])) (by simp) (.exit 0) [.any] [] (by simp) ?_ ?_ h
 ·intro i R hi hR
  refine keep (b31 xs ys b1 b2 i R) ?_
  have e1:decide ((i:Int)<xs.length)=true:=by simp;omega
  have e2:IntKind.i64.wrap ((i:Int)+1)=((i+1:Nat):Int):=by rw[Go.IntWalk.i64_in _ (by omega)];omega
  have hix:=hx _ (E1 (xs:=xs) hi)
  have hiy:=hy.2 _ (E1 (xs:=ys) (i:=i) (by omega))
  rw[e1]
  simp only[Int.toNat_natCast,e2,cond_true,hix.f.v,hiy.f.v]
  refine ⟨⟨by omega,hi,(by trivial)⟩,⟨by omega,by omega,(by trivial)⟩,⟨hix,hiy⟩,A4 (fun h1=>⟨trivial, ?_⟩) (fun h1=>⟨trivial, ?_⟩)⟩<;>(simp only[c9q,h1,cond_true,cond_false,P7] at hR;exact hR)
 ·intro R hR
  refine keep (b31 xs ys b1 b2 xs.length R) ?_
  have e1:decide ((xs.length:Int)<xs.length)=false:=by simp
  rw[e1]
  exact ⟨rfl,hR⟩
theorem k31:C2 B T31:=by
 refine C3 C4 k33 (fn:=Tryz.f31) (cd:=A7 Tryz.f31) (sp:=spL [(8,S31)]) (hn:=B1) Tryz.func31 (by kernel_rfl) (by kernel_rfl) (B8 (c:=.loop l31) (by kernel_rfl) h8e C8) fun ds r hp hr=>?_
 unfold c31 at hp hr
 simp only[] at hr hp
 split at hr
 ·rename_i b1 z1 xs b2 z2 ys
  cases hr
  obtain ⟨rfl,rfl,hx,hy⟩:=hp
  refine keep (w31 xs ys b1 b2 fun v=>v=_) ?_
  unfold b8p
  refine A4 (fun g=>?_) (fun g=>?_)
  ·simp only[g,cond_true]
  ·have hl:xs.length=ys.length:=by
    have:(xs.length:Int)=ys.length:=by simpa using g
    omega
   simp only[g,cond_false]
   refine ⟨⟨(by trivial),(by trivial),hl,hx,hy⟩, ?_⟩
   cases C0 (c9q xs ys) xs.length<;>rfl
 ·cases hr
end Go.Ev.R2
end
