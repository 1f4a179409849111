/- Normal forms of the program's -/
import Derived.Test.YtoleelddkocpkaaGreatEngineD
set_option linter.unusedVariables false
set_option linter.unusedSimpArgs false
set_option maxRecDepth 1000000
set_option maxHeartbeats 0
namespace Go.Vs
open Go.Proofs
theorem adX{F:FT}{J:JT J3}{x:aaK}:bJ 9 J3 Tryz.f9 F J x =(F 34 CB (((1:Int),()),())).bind fun(y1:Q3) =>(F 34 CB (((1:Int),()),())).bind fun(y2:Q3) =>(F 500015 rW ((OS,()),((y1.1.1::(y2.1.1::([]:List (List bg)))),()))).bind fun(y3:Q37) =>cond ((lI y3.1.1)==2) (cond ((decide ((0:Int)≤0))&&(decide ((0:Int)<(lI y3.1.1)))) (((y3.1.1)[(Int.toNat (0:Int))]?).bind fun(y4:Bool) =>cond y4 (cond ((decide ((0:Int)≤1))&&(decide ((1:Int)<(lI y3.1.1)))) (((y3.1.1)[(Int.toNat (1:Int))]?).bind fun(y5:Bool) =>cond (not y5) ((F 34 CB (((1:Int),()),())).bind fun(y6:Q3) =>(F 500013 rU ((OS,()),((y6.1.1::([]:List (List bg))),()))).bind fun(y7:Q23) =>some ((((lI y7.1.1.1.1)==1),()),())) (some ((false,()),()))) (none)) (some ((false,()),()))) (none)) (some ((false,()),())):=by kernel_rfl
theorem adY{F:FT}{J:JT uE}{x:Q17}:bJ 11 uE Tryz.f11 F J x = J qm (aM Tryz.prog 11 0) ((x.1.1,((0:Int),())),((),(([]:List (List bg)),()))):=by kernel_rfl
theorem HE{F:FT}{J:JT uE}{x:(((List (List bg))×aaa)×(Unit×((List (List bg))×Unit)))}:ed 11 0 uE Tryz.f11 qm F J x = cond (decide (x.1.2.1<(lI x.1.1))) (cond (decide (x.1.2.1<30)) (((aW x.1.1 x.1.2.1)).bind fun(y1:Q8) =>cond (decide ((lI y1)>8)) (cond (bp (List.length y1) (0:Int) (8:Int)) (cond (aL (List.length x.2.2.1) (List.length ((cut y1 (0:Int) (8:Int))::([]:List (List bg))))) (J qm (aM Tryz.prog 11 0) ((x.1.1,((wI (x.1.2.1+1)),())),((),((x.2.2.1++((cut y1 (0:Int) (8:Int))::([]:List (List bg)))),())))) (none)) (none)) (cond (aL (List.length x.2.2.1) (List.length (y1::([]:List (List bg))))) (J qm (aM Tryz.prog 11 0) ((x.1.1,((wI (x.1.2.1+1)),())),((),((x.2.2.1++(y1::([]:List (List bg)))),())))) (none))) (some (x.2.2,()))) (some (x.2.2,())):=by kernel_rfl
theorem adZ{F:FT}{J:JT wH}{x:Q29}:bJ 10 wH Tryz.f10 F J x = J wV (aM Tryz.prog 10 0) ((x.1.2.1,((0:Int),())),(((x.1.1,()),(OW,())),())):=by kernel_rfl
theorem NX{F:FT}{J:JT wH}{x:(((List (List bg))×aaa)×((aaD×aaM)×Unit))}:ed 10 0 wH Tryz.f10 wV F J x = cond (decide (x.1.2.1<(lI x.1.1))) (((aW x.1.1 x.1.2.1)).bind fun(y1:Q8) =>(F 26 SX ((x.2.1.1.1,(y1,())),())).bind fun(y2:Q4) =>J wV (aM Tryz.prog 10 0) ((x.1.1,((wI (x.1.2.1+1)),())),(((y2.1.1,()),(x.2.1.2.1,())),()))) (some ((x.2.1.1.1,()),())):=by kernel_rfl
end Go.Vs
set_option maxRecDepth 1000000
set_option maxHeartbeats 0
namespace Go.Vs
open Go.Proofs
theorem ad0{F:FT}{J:JT CB}{x:Q2}:bJ 34 CB Tryz.f34 F J x = some (((((1:Int),(((1:Int),x.1.1),(OI,(OI,(OC,(OC,(false,(OB,(0:Int)))))))))::([]:List bg)),()),()):=by kernel_rfl
theorem ad1{F:FT}{J:JT J4}{x:Q16}:bJ 36 J4 Tryz.f36 F J x = some ((),()):=by kernel_rfl
theorem ad2{F:FT}{J:JT J5}{x:((StateT×((List bg)×Unit))×(((List Bool)×Unit)×Unit))}:bJ 39 J5 Tryz.f39 F J x =(F 40 Md (x.1,())).bind fun(y1:Q1) =>cond (aL (List.length x.2.1.1) (List.length ((y1.1.2.1==0)::([]:List Bool)))) (some ((),(((x.2.1.1++((y1.1.2.1==0)::([]:List Bool))),()),()))) (none):=by kernel_rfl
theorem ad3{F:FT}{J:JT J6}{x:((aj×Unit)×Unit)}:bJ 137 J6 Tryz.f137 F J x = some ((x.1.1.1,()),()):=by kernel_rfl
theorem T3{F:FT}{J:JT rU}{x:Q23}:bJ 500013 rU Tryz.f13 F J x =(F 537035 k0 ((x.1.1,()),x.2)).bind fun(y1:Q23) =>some ((y1.1.1,()),y1.2):=by kernel_rfl
theorem T4{F:FT}{J:JT rW}{x:Q23}:bJ 500015 rW Tryz.f15 F J x =(F 540035 k9 ((x.1.1,()),(x.2.1,((([]:List Bool),()),())))).bind fun(y1:((StateT×Unit)×((List (List bg))×(((List Bool)×Unit)×Unit)))) =>some (y1.2.2.1,(y1.2.1,())):=by kernel_rfl
theorem T5{F:FT}{J:JT k0}{x:Q23}:bJ 537035 k0 Tryz.f35 F J x =(F 62 EC ((x.1.1,(([]:List bg),())),())).bind fun(y1:Q4) =>J mK (aM Tryz.prog 35 0) (((lI x.2.1),((0:Int),())),((OW,((y1.1.1,()),())),x.2)):=by kernel_rfl
theorem C5{F:FT}{J:JT k0}{x:(aal×((aV×(aaD×Unit))×((List (List bg))×Unit)))}:ed 537035 0 k0 Tryz.f35 mK F J x = cond (decide (x.1.2.1<x.1.1)) (cond ((decide ((0:Int)≤x.1.2.1))&&(decide (x.1.2.1<(lI x.2.2.1)))) (((x.2.2.1)[(Int.toNat x.1.2.1)]?).bind fun(y2:Q8) =>(F 36 J4 ((x.2.1.2.1.1,(y2,())),())).bind fun(y3:(Unit×Unit)) =>(F 62 EC ((x.2.1.2.1.1,(y2,())),())).bind fun(y4:Q4) =>J mK (aM Tryz.prog 35 0) ((x.1.1,((wI (x.1.2.1+1)),())),((x.2.1.1,((y4.1.1,()),())),x.2.2))) (none)) (some ((x.2.1.2.1.1,()),x.2.2)):=by kernel_rfl
theorem T6{F:FT}{J:JT k9}{x:(aaD×((List (List bg))×(((List Bool)×Unit)×Unit)))}:bJ 540035 k9 Tryz.f35 F J x =(F 62 EC ((x.1.1,(([]:List bg),())),())).bind fun(y1:Q4) =>J mL (aM Tryz.prog 35 0) (((lI x.2.1),((0:Int),())),((x.2.2.1,(OW,((y1.1.1,()),()))),(x.2.1,()))):=by kernel_rfl
theorem C6{F:FT}{J:JT k9}{x:(aal×((((List Bool)×Unit)×(aV×(aaD×Unit)))×((List (List bg))×Unit)))}:ed 540035 0 k9 Tryz.f35 mL F J x = cond (decide (x.1.2.1<x.1.1)) (cond ((decide ((0:Int)≤x.1.2.1))&&(decide (x.1.2.1<(lI x.2.2.1)))) (((x.2.2.1)[(Int.toNat x.1.2.1)]?).bind fun(y2:Q8) =>(F 39 J5 ((x.2.1.2.2.1.1,(y2,())),(x.2.1.1,()))).bind fun(y3:(Unit×(((List Bool)×Unit)×Unit))) =>(F 62 EC ((x.2.1.2.2.1.1,(y2,())),())).bind fun(y4:Q4) =>J mL (aM Tryz.prog 35 0) ((x.1.1,((wI (x.1.2.1+1)),())),((y3.2.1,(x.2.1.2.1,((y4.1.1,()),()))),x.2.2))) (none)) (some ((x.2.1.2.2.1.1,()),(x.2.2.1,(x.2.1.1,())))):=by kernel_rfl
end Go.Vs
