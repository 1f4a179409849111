/- Normal forms of the program's -/
import Derived.Test.YtoleelddkocpkaaGreatEngineD
set_option linter.unusedVariables false
set_option linter.unusedSimpArgs false
set_option maxRecDepth 1000000
set_option maxHeartbeats 0
namespace Go.Vs
open Go.Proofs
theorem afs{F:FT}{J:JT G1}{x:Q29}:bH 13 G1 Tryz.f13 F J x =(F 37035 lH (x.1,())).bind fun(y1:Q4) =>some ((y1.1.1,()),()):=by kernel_rfl
theorem aft{F:FT}{J:JT K3}{x:aaz}:bH 20 K3 Tryz.f20 F J x =(F 47 K5 (((1:Int),()),())).bind fun(y1:Q3) =>(F 29 K4 (y1.1,((OS,((0:Int),(([]:List (List br)),()))),()))).bind fun(y2:Q28) =>(F 31 K6 (((1:Int),()),(y2.2.1,()))).bind fun(y3:Q9) =>cond (y2.1.1==1) (cond (y2.1.2.1==0) (cond (y3.1.1==0) (cond (y3.2.1.2.1==1) ((F 32 A2 ((),(y3.2.1,()))).bind fun(y5:Q9) =>some (((y5.1.1==1),()),())) (some ((false,()),()))) (some ((false,()),()))) (some ((false,()),()))) (some ((false,()),())):=by kernel_rfl
theorem afu{F:FT}{J:JT K4}{x:(((List br)×Unit)×(eU×Unit))}:bH 29 K4 Tryz.f29 F J x =(F 59 IB (x.1,())).bind fun(y1:Q2) =>cond (y1.1.1 != 0) (some (((0:Int),y1.1),(x.2.1,()))) (cond (decide ((lI x.2.1.2.2.1)≥64)) (some (((0:Int),((20:Int),())),(x.2.1,()))) (cond ((az (List.length x.2.1.2.2.1) (0:Int) (lI x.2.1.2.2.1))&&(decide ((lI x.2.1.2.2.1)=(lI x.2.1.2.2.1)))) ((F 60 K9 (x.1,())).bind fun(y2:Q3) =>cond (aI (List.length (cut x.2.1.2.2.1 (0:Int) (lI x.2.1.2.2.1))) (List.length (y2.1.1::([]:List (List br))))) ((F 32 A2 ((),((x.2.1.1,(x.2.1.2.1,(((cut x.2.1.2.2.1 (0:Int) (lI x.2.1.2.2.1))++(y2.1.1::([]:List (List br)))),()))),()))).bind fun(y3:Q9) =>some ((y3.1.1,((0:Int),())),(y3.2.1,()))) (none)) (none))):=by kernel_rfl
theorem afv{F:FT}{J:JT K5}{x:Q2}:bH 47 K5 Tryz.f47 F J x = some (((((1:Int),(((1:Int),x.1.1),(OI,(OI,(OC,(OC,(false,(OB,(0:Int)))))))))::([]:List br)),()),()):=by kernel_rfl
theorem afw{F:FT}{J:JT K6}{x:Q9}:bH 31 K6 Tryz.f31 F J x =(F 61 K7 (x.1,(x.2.1,()))).bind fun(y1:Q36) =>cond (y1.1.2.1==0) (cond (az (List.length y1.2.1.2.2.1) (wI (x.1.1-y1.2.1.2.1)) (lI y1.2.1.2.2.1)) (some (y1.1.2,((y1.1.1,(x.1.1,((cut y1.2.1.2.2.1 (wI (x.1.1-y1.2.1.2.1)) (lI y1.2.1.2.2.1)),()))),()))) (none)) (some (y1.1.2,(y1.2.1,()))):=by kernel_rfl
theorem afx{F:FT}{J:JT A2}{x:Q32}:bH 32 A2 Tryz.f32 F J x = some (((wI (x.2.1.2.1+(lI x.2.1.2.2.1))),()),(x.2.1,())):=by kernel_rfl
theorem afy{F:FT}{J:JT G2}{x:Q3}:bH 27 G2 Tryz.f27 F J x = cond (decide ((lI x.1.1)>8)) (cond (az (List.length x.1.1) (0:Int) (8:Int)) (some (((cut x.1.1 (0:Int) (8:Int)),()),())) (none)) (some (x.1,())):=by kernel_rfl
theorem afz{F:FT}{J:JT K7}{x:Q9}:bH 61 K7 Tryz.f61 F J x = cond (decide (x.1.1<x.2.1.2.1)) (some ((OS,((26:Int),())),(x.2.1,()))) ((F 32 A2 ((),(x.2.1,()))).bind fun(y1:Q9) =>cond (decide (x.1.1>y1.1.1)) (some ((OS,((26:Int),())),(y1.2.1,()))) (cond (az (List.length y1.2.1.2.2.1) (0:Int) (wI (x.1.1-y1.2.1.2.1))) ((F 13 G1 ((y1.2.1.1,((cut y1.2.1.2.2.1 (0:Int) (wI (x.1.1-y1.2.1.2.1))),())),())).bind fun(y2:Q4) =>some ((y2.1.1,((0:Int),())),(y1.2.1,()))) (none))):=by kernel_rfl
end Go.Vs
set_option maxRecDepth 1000000
set_option maxHeartbeats 0
namespace Go.Vs
open Go.Proofs
theorem afA{F:FT}{J:JT K8}{x:Q16}:bH 36 K8 Tryz.f36 F J x = some ((),()):=by kernel_rfl
theorem afB{F:FT}{J:JT K9}{x:Q3}:bH 60 K9 Tryz.f60 F J x = cond (List.isEmpty x.1.1) (sI 2 fun(j1:Nat) =>cond ((j1==0)==true) (some ((([]:List br),()),())) (cond (aI (List.length ([]:List br)) (List.length x.1.1)) (some (((([]:List br)++x.1.1),()),())) (none))) (cond (aI (List.length ([]:List br)) (List.length x.1.1)) (some (((([]:List br)++x.1.1),()),())) (none)):=by kernel_rfl
theorem afC{F:FT}{J:JT La}{x:((ag×Unit)×Unit)}:bH 137 La Tryz.f137 F J x = some ((x.1.1.1,()),()):=by kernel_rfl
theorem Vt{F:FT}{J:JT lH}{x:Q29}:bH 37035 lH Tryz.f35 F J x =(F 62 KD ((x.1.1,(([]:List br),())),())).bind fun(y1:Q4) =>J nu (aK Tryz.prog 35 0) ((x.1.2.1,((lI x.1.2.1),((0:Int),()))),((OW,((y1.1.1,()),())),())):=by kernel_rfl
theorem D3{F:FT}{J:JT lH}{x:(((List (List br))×aah)×((aX×(aaK×Unit))×Unit))}:eI 37035 0 lH Tryz.f35 nu F J x = cond (decide (x.1.2.2.1<x.1.2.1)) (((aU x.1.1 x.1.2.2.1)).bind fun(y2:Q8) =>(F 36 K8 ((x.2.1.2.1.1,(y2,())),())).bind fun(y3:(Unit×Unit)) =>(F 62 KD ((x.2.1.2.1.1,(y2,())),())).bind fun(y4:Q4) =>J nu (aK Tryz.prog 35 0) ((x.1.1,(x.1.2.1,((wI (x.1.2.2.1+1)),()))),((x.2.1.1,((y4.1.1,()),())),()))) (some ((x.2.1.2.1.1,()),())):=by kernel_rfl
end Go.Vs
