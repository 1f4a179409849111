/- Normal forms of the program's -/
import Derived.Test.YtoleelddkocpkaaGreatEngineD
set_option linter.unusedVariables false
set_option linter.unusedSimpArgs false
set_option maxRecDepth 1000000
set_option maxHeartbeats 0
namespace Go.Vs
open Go.Proofs
theorem agF{F:FT}{J:JT H7}{x:Q29}:bN 13 H7 Tryz.f13 F J x =(F 37035 lV (x.1,())).bind fun(y1:Q4) =>some ((y1.1.1,()),()):=by kernel_rfl
theorem agG{F:FT}{J:JT L6}{x:aa0}:bN 20 L6 Tryz.f20 F J x =(F 47 L8 (((1:Int),()),())).bind fun(y1:Q3) =>(F 29 L7 (y1.1,((OS,((0:Int),(([]:List (List bP)),()))),()))).bind fun(y2:Q28) =>(F 31 L9 (((1:Int),()),(y2.2.1,()))).bind fun(y3:Q9) =>cond (y2.1.1==1) (cond (y2.1.2.1==0) (cond (y3.1.1==0) (cond (y3.2.1.2.1==1) ((F 32 Cb ((),(y3.2.1,()))).bind fun(y5:Q9) =>some (((y5.1.1==1),()),())) (some ((false,()),()))) (some ((false,()),()))) (some ((false,()),()))) (some ((false,()),())):=by kernel_rfl
theorem agH{F:FT}{J:JT L7}{x:(((List bP)×Unit)×(fb×Unit))}:bN 29 L7 Tryz.f29 F J x =(F 59 JN (x.1,())).bind fun(y1:Q2) =>cond (y1.1.1 != 0) (some (((0:Int),y1.1),(x.2.1,()))) (cond (decide ((lI x.2.1.2.2.1)≥64)) (some (((0:Int),((20:Int),())),(x.2.1,()))) (cond ((aq (List.length x.2.1.2.2.1) (0:Int) (lI x.2.1.2.2.1))&&(decide ((lI x.2.1.2.2.1)=(lI x.2.1.2.2.1)))) ((F 60 Mc (x.1,())).bind fun(y2:Q3) =>cond (aR (List.length (cut x.2.1.2.2.1 (0:Int) (lI x.2.1.2.2.1))) (List.length (y2.1.1::([]:List (List bP))))) ((F 32 Cb ((),((x.2.1.1,(x.2.1.2.1,(((cut x.2.1.2.2.1 (0:Int) (lI x.2.1.2.2.1))++(y2.1.1::([]:List (List bP)))),()))),()))).bind fun(y3:Q9) =>some ((y3.1.1,((0:Int),())),(y3.2.1,()))) (none)) (none))):=by kernel_rfl
theorem agI{F:FT}{J:JT L8}{x:Q2}:bN 47 L8 Tryz.f47 F J x = some (((((1:Int),(((1:Int),x.1.1),(OI,(OI,(OC,(OC,(false,(OB,(0:Int)))))))))::([]:List bP)),()),()):=by kernel_rfl
theorem agJ{F:FT}{J:JT L9}{x:Q9}:bN 31 L9 Tryz.f31 F J x =(F 61 Ma (x.1,(x.2.1,()))).bind fun(y1:Q36) =>cond (y1.1.2.1==0) (cond (aq (List.length y1.2.1.2.2.1) (wI (x.1.1-y1.2.1.2.1)) (lI y1.2.1.2.2.1)) (some (y1.1.2,((y1.1.1,(x.1.1,((cut y1.2.1.2.2.1 (wI (x.1.1-y1.2.1.2.1)) (lI y1.2.1.2.2.1)),()))),()))) (none)) (some (y1.1.2,(y1.2.1,()))):=by kernel_rfl
theorem agK{F:FT}{J:JT Cb}{x:Q32}:bN 32 Cb Tryz.f32 F J x = some (((wI (x.2.1.2.1+(lI x.2.1.2.2.1))),()),(x.2.1,())):=by kernel_rfl
theorem agL{F:FT}{J:JT Ma}{x:Q9}:bN 61 Ma Tryz.f61 F J x = cond (decide (x.1.1<x.2.1.2.1)) (some ((OS,((26:Int),())),(x.2.1,()))) ((F 32 Cb ((),(x.2.1,()))).bind fun(y1:Q9) =>cond (decide (x.1.1>y1.1.1)) (some ((OS,((26:Int),())),(y1.2.1,()))) (cond (aq (List.length y1.2.1.2.2.1) (0:Int) (wI (x.1.1-y1.2.1.2.1))) ((F 13 H7 ((y1.2.1.1,((cut y1.2.1.2.2.1 (0:Int) (wI (x.1.1-y1.2.1.2.1))),())),())).bind fun(y2:Q4) =>some ((y2.1.1,((0:Int),())),(y1.2.1,()))) (none))):=by kernel_rfl
end Go.Vs
set_option maxRecDepth 1000000
set_option maxHeartbeats 0
namespace Go.Vs
open Go.Proofs
theorem agM{F:FT}{J:JT Mb}{x:Q16}:bN 36 Mb Tryz.f36 F J x = some ((),()):=by kernel_rfl
theorem agN{F:FT}{J:JT Mc}{x:Q3}:bN 60 Mc Tryz.f60 F J x = cond (List.isEmpty x.1.1) (tF 2 fun(j1:Nat) =>cond ((j1==0)==true) (some ((([]:List bP),()),())) (cond (aR (List.length ([]:List bP)) (List.length x.1.1)) (some (((([]:List bP)++x.1.1),()),())) (none))) (cond (aR (List.length ([]:List bP)) (List.length x.1.1)) (some (((([]:List bP)++x.1.1),()),())) (none)):=by kernel_rfl
theorem agO{F:FT}{J:JT Md}{x:((aj×Unit)×Unit)}:bN 137 Md Tryz.f137 F J x = some ((x.1.1.1,()),()):=by kernel_rfl
theorem Wl{F:FT}{J:JT lV}{x:Q29}:bN 37035 lV Tryz.f35 F J x =(F 62 LK ((x.1.1,(([]:List bP),())),())).bind fun(y1:Q4) =>J n6 (aE Tryz.prog 35 0) ((x.1.2.1,((lI x.1.2.1),((0:Int),()))),((OW,((y1.1.1,()),())),())):=by kernel_rfl
theorem Fa{F:FT}{J:JT lV}{x:(((List (List bP))×aab)×((aV×((StateT×Unit)×Unit))×Unit))}:dS 37035 0 lV Tryz.f35 n6 F J x = cond (decide (x.1.2.2.1<x.1.2.1)) (((aP x.1.1 x.1.2.2.1)).bind fun(y2:Q8) =>(F 36 Mb ((x.2.1.2.1.1,(y2,())),())).bind fun(y3:(Unit×Unit)) =>(F 62 LK ((x.2.1.2.1.1,(y2,())),())).bind fun(y4:Q4) =>J n6 (aE Tryz.prog 35 0) ((x.1.1,(x.1.2.1,((wI (x.1.2.2.1+1)),()))),((x.2.1.1,((y4.1.1,()),())),()))) (some ((x.2.1.2.1.1,()),())):=by kernel_rfl
end Go.Vs
