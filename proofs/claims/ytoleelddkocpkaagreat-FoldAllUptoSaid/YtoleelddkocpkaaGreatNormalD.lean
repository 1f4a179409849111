/- Normal forms of the program's -/
import Derived.Test.YtoleelddkocpkaaGreatEngineD
set_option linter.unusedVariables false
set_option linter.unusedSimpArgs false
set_option maxRecDepth 1000000
set_option maxHeartbeats 0
namespace Go.Vs
open Go.Proofs
theorem ae4{F:FT}{J:JT KS}{x:aaJ}:bC 9 KS Tryz.f9 F J x =(F 34 Di (((1:Int),()),())).bind fun(y1:Q3) =>(F 34 Di (((1:Int),()),())).bind fun(y2:Q3) =>(F 500015 sB ((OS,()),((y1.1.1::(y2.1.1::([]:List (List bj)))),()))).bind fun(y3:Q37) =>cond ((lI y3.1.1)==2) (cond ((decide ((0:Int)≤0))&&(decide ((0:Int)<(lI y3.1.1)))) (((y3.1.1)[(Int.toNat (0:Int))]?).bind fun(y4:Bool) =>cond y4 (cond ((decide ((0:Int)≤1))&&(decide ((1:Int)<(lI y3.1.1)))) (((y3.1.1)[(Int.toNat (1:Int))]?).bind fun(y5:Bool) =>cond (not y5) ((F 34 Di (((1:Int),()),())).bind fun(y6:Q3) =>(F 500013 sy ((OS,()),((y6.1.1::([]:List (List bj))),()))).bind fun(y7:Q23) =>some ((((lI y7.1.1.1.1)==1),()),())) (some ((false,()),()))) (none)) (some ((false,()),()))) (none)) (some ((false,()),())):=by kernel_rfl
theorem ae5{F:FT}{J:JT xh}{x:Q17}:bC 11 xh Tryz.f11 F J x = J qI (aF Tryz.prog 11 0) ((x.1.1,((0:Int),())),((),(([]:List (List bj)),()))):=by kernel_rfl
theorem IC{F:FT}{J:JT xh}{x:(((List (List bj))×aab)×(Unit×abb))}:db 11 0 xh Tryz.f11 qI F J x = cond (decide (x.1.2.1<(lI x.1.1))) (cond (decide (x.1.2.1<30)) (((aR x.1.1 x.1.2.1)).bind fun(y1:Q8) =>cond (decide ((lI y1)>8)) (cond (bg (List.length y1) (0:Int) (8:Int)) (cond (aK (List.length x.2.2.1) (List.length ((cut y1 (0:Int) (8:Int))::([]:List (List bj))))) (J qI (aF Tryz.prog 11 0) ((x.1.1,((wI (x.1.2.1+1)),())),((),((x.2.2.1++((cut y1 (0:Int) (8:Int))::([]:List (List bj)))),())))) (none)) (none)) (cond (aK (List.length x.2.2.1) (List.length (y1::([]:List (List bj))))) (J qI (aF Tryz.prog 11 0) ((x.1.1,((wI (x.1.2.1+1)),())),((),((x.2.2.1++(y1::([]:List (List bj)))),())))) (none))) (some (x.2.2,()))) (some (x.2.2,())):=by kernel_rfl
theorem ae6{F:FT}{J:JT KT}{x:Q29}:bC 13 KT Tryz.f13 F J x =(F 37035 lj (x.1,())).bind fun(y1:Q4) =>some ((y1.1.1,()),()):=by kernel_rfl
theorem ae7{F:FT}{J:JT KU}{x:Q29}:bC 15 KU Tryz.f15 F J x =(F 40035 lk (x.1,((([]:List Bool),()),()))).bind fun(y1:((StateT×Unit)×(((List Bool)×Unit)×Unit))) =>some (y1.2.1,()):=by kernel_rfl
theorem ae8{F:FT}{J:JT AL}{x:Q29}:bC 10 AL Tryz.f10 F J x = J xz (aF Tryz.prog 10 0) ((x.1.2.1,((0:Int),())),(((x.1.1,()),(OW,())),())):=by kernel_rfl
theorem OV{F:FT}{J:JT AL}{x:(((List (List bj))×aab)×((aao×aaK)×Unit))}:db 10 0 AL Tryz.f10 xz F J x = cond (decide (x.1.2.1<(lI x.1.1))) (((aR x.1.1 x.1.2.1)).bind fun(y1:Q8) =>(F 26 QZ ((x.2.1.1.1,(y1,())),())).bind fun(y2:Q4) =>J xz (aF Tryz.prog 10 0) ((x.1.1,((wI (x.1.2.1+1)),())),(((y2.1.1,()),(x.2.1.2.1,())),()))) (some ((x.2.1.1.1,()),())):=by kernel_rfl
end Go.Vs
set_option maxRecDepth 1000000
set_option maxHeartbeats 0
namespace Go.Vs
open Go.Proofs
theorem ae9{F:FT}{J:JT Di}{x:Q2}:bC 34 Di Tryz.f34 F J x = some (((((1:Int),(((1:Int),x.1.1),(OI,(OI,(OC,(OC,(false,(OB,(0:Int)))))))))::([]:List bj)),()),()):=by kernel_rfl
theorem afa{F:FT}{J:JT GN}{x:Q16}:bC 36 GN Tryz.f36 F J x = some ((),()):=by kernel_rfl
theorem afb{F:FT}{J:JT GO}{x:((StateT×((List bj)×Unit))×(aa9×Unit))}:bC 39 GO Tryz.f39 F J x =(F 40 MY (x.1,())).bind fun(y1:Q1) =>cond (aK (List.length x.2.1.1) (List.length ((y1.1.2.1==0)::([]:List Bool)))) (some ((),(((x.2.1.1++((y1.1.2.1==0)::([]:List Bool))),()),()))) (none):=by kernel_rfl
theorem afc{F:FT}{J:JT KW}{x:((ak×Unit)×Unit)}:bC 137 KW Tryz.f137 F J x = some ((x.1.1.1,()),()):=by kernel_rfl
theorem UZ{F:FT}{J:JT lj}{x:Q29}:bC 37035 lj Tryz.f35 F J x =(F 62 w7 ((x.1.1,(([]:List bj),())),())).bind fun(y1:Q4) =>J mT (aF Tryz.prog 35 0) ((x.1.2.1,((lI x.1.2.1),((0:Int),()))),((OW,((y1.1.1,()),())),())):=by kernel_rfl
theorem DS{F:FT}{J:JT lj}{x:(((List (List bj))×aaf)×((aW×(aao×Unit))×Unit))}:db 37035 0 lj Tryz.f35 mT F J x = cond (decide (x.1.2.2.1<x.1.2.1)) (((aR x.1.1 x.1.2.2.1)).bind fun(y2:Q8) =>(F 36 GN ((x.2.1.2.1.1,(y2,())),())).bind fun(y3:(Unit×Unit)) =>(F 62 w7 ((x.2.1.2.1.1,(y2,())),())).bind fun(y4:Q4) =>J mT (aF Tryz.prog 35 0) ((x.1.1,(x.1.2.1,((wI (x.1.2.2.1+1)),()))),((x.2.1.1,((y4.1.1,()),())),()))) (some ((x.2.1.2.1.1,()),())):=by kernel_rfl
theorem U3{F:FT}{J:JT lk}{x:((StateT×abb)×(aa9×Unit))}:bC 40035 lk Tryz.f35 F J x =(F 62 w7 ((x.1.1,(([]:List bj),())),())).bind fun(y1:Q4) =>J mU (aF Tryz.prog 35 0) ((x.1.2.1,((lI x.1.2.1),((0:Int),()))),((x.2.1,(OW,((y1.1.1,()),()))),())):=by kernel_rfl
theorem DT{F:FT}{J:JT lk}{x:(((List (List bj))×aaf)×((aa9×(aW×(aao×Unit)))×Unit))}:db 40035 0 lk Tryz.f35 mU F J x = cond (decide (x.1.2.2.1<x.1.2.1)) (((aR x.1.1 x.1.2.2.1)).bind fun(y2:Q8) =>(F 39 GO ((x.2.1.2.2.1.1,(y2,())),(x.2.1.1,()))).bind fun(y3:(Unit×(((List Bool)×Unit)×Unit))) =>(F 62 w7 ((x.2.1.2.2.1.1,(y2,())),())).bind fun(y4:Q4) =>J mU (aF Tryz.prog 35 0) ((x.1.1,(x.1.2.1,((wI (x.1.2.2.1+1)),()))),((y3.2.1,(x.2.1.2.1,((y4.1.1,()),()))),()))) (some ((x.2.1.2.2.1.1,()),(x.2.1.1,()))):=by kernel_rfl
theorem U4{F:FT}{J:JT sy}{x:Q23}:bC 500013 sy Tryz.f13 F J x =(F 537035 ll ((x.1.1,()),x.2)).bind fun(y1:Q23) =>some ((y1.1.1,()),y1.2):=by kernel_rfl
theorem U5{F:FT}{J:JT sB}{x:Q23}:bC 500015 sB Tryz.f15 F J x =(F 540035 ln ((x.1.1,()),(x.2.1,((([]:List Bool),()),())))).bind fun(y1:((StateT×Unit)×((List (List bj))×(((List Bool)×Unit)×Unit)))) =>some (y1.2.2.1,(y1.2.1,())):=by kernel_rfl
theorem U6{F:FT}{J:JT ll}{x:Q23}:bC 537035 ll Tryz.f35 F J x =(F 62 w7 ((x.1.1,(([]:List bj),())),())).bind fun(y1:Q4) =>J mV (aF Tryz.prog 35 0) (((lI x.2.1),((0:Int),())),((OW,((y1.1.1,()),())),x.2)):=by kernel_rfl
theorem DU{F:FT}{J:JT ll}{x:(aaf×((aW×(aao×Unit))×abb))}:db 537035 0 ll Tryz.f35 mV F J x = cond (decide (x.1.2.1<x.1.1)) (cond ((decide ((0:Int)≤x.1.2.1))&&(decide (x.1.2.1<(lI x.2.2.1)))) (((x.2.2.1)[(Int.toNat x.1.2.1)]?).bind fun(y2:Q8) =>(F 36 GN ((x.2.1.2.1.1,(y2,())),())).bind fun(y3:(Unit×Unit)) =>(F 62 w7 ((x.2.1.2.1.1,(y2,())),())).bind fun(y4:Q4) =>J mV (aF Tryz.prog 35 0) ((x.1.1,((wI (x.1.2.1+1)),())),((x.2.1.1,((y4.1.1,()),())),x.2.2))) (none)) (some ((x.2.1.2.1.1,()),x.2.2)):=by kernel_rfl
theorem U7{F:FT}{J:JT ln}{x:(aao×((List (List bj))×(aa9×Unit)))}:bC 540035 ln Tryz.f35 F J x =(F 62 w7 ((x.1.1,(([]:List bj),())),())).bind fun(y1:Q4) =>J mW (aF Tryz.prog 35 0) (((lI x.2.1),((0:Int),())),((x.2.2.1,(OW,((y1.1.1,()),()))),(x.2.1,()))):=by kernel_rfl
theorem DV{F:FT}{J:JT ln}{x:(aaf×((aa9×(aW×(aao×Unit)))×abb))}:db 540035 0 ln Tryz.f35 mW F J x = cond (decide (x.1.2.1<x.1.1)) (cond ((decide ((0:Int)≤x.1.2.1))&&(decide (x.1.2.1<(lI x.2.2.1)))) (((x.2.2.1)[(Int.toNat x.1.2.1)]?).bind fun(y2:Q8) =>(F 39 GO ((x.2.1.2.2.1.1,(y2,())),(x.2.1.1,()))).bind fun(y3:(Unit×(((List Bool)×Unit)×Unit))) =>(F 62 w7 ((x.2.1.2.2.1.1,(y2,())),())).bind fun(y4:Q4) =>J mW (aF Tryz.prog 35 0) ((x.1.1,((wI (x.1.2.1+1)),())),((y3.2.1,(x.2.1.2.1,((y4.1.1,()),()))),x.2.2))) (none)) (some ((x.2.1.2.2.1.1,()),(x.2.2.1,(x.2.1.1,())))):=by kernel_rfl
end Go.Vs
