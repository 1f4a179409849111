/- Normal forms of the program's -/
import Derived.Test.YtoleelddkocpkaaGreatEngineD
set_option linter.unusedVariables false
set_option linter.unusedSimpArgs false
set_option maxRecDepth 1000000
set_option maxHeartbeats 0
namespace Go.Vs
open Go.Proofs
theorem afd{F:FT}{J:JT Dn}{x:Q29}:bF 13 Dn Tryz.f13 F J x =(F 37035 lC (x.1,())).bind fun(y1:Q4) =>some ((y1.1.1,()),()):=by kernel_rfl
theorem afe{F:FT}{J:JT xm}{x:Q29}:bF 10 xm Tryz.f10 F J x = J xI (aK Tryz.prog 10 0) ((x.1.2.1,((0:Int),())),(((x.1.1,()),(OW,())),())):=by kernel_rfl
theorem O2{F:FT}{J:JT xm}{x:(((List (List bq))×aaa)×((aaK×aaJ)×Unit))}:eC 10 0 xm Tryz.f10 xI F J x = cond (decide (x.1.2.1<(lI x.1.1))) (((aS x.1.1 x.1.2.1)).bind fun(y1:Q8) =>(F 26 T7 ((x.2.1.1.1,(y1,())),())).bind fun(y2:Q4) =>J xI (aK Tryz.prog 10 0) ((x.1.1,((wI (x.1.2.1+1)),())),(((y2.1.1,()),(x.2.1.2.1,())),()))) (some ((x.2.1.1.1,()),())):=by kernel_rfl
theorem aff{F:FT}{J:JT KJ}{x:aaz}:bF 20 KJ Tryz.f20 F J x =(F 47 KK (((1:Int),()),())).bind fun(y1:Q3) =>(F 29 GJ (y1.1,((OS,((0:Int),(([]:List (List bq)),()))),()))).bind fun(y2:Q28) =>(F 31 Dp (((1:Int),()),(y2.2.1,()))).bind fun(y3:Q9) =>cond (y2.1.1==1) (cond (y2.1.2.1==0) (cond (y3.1.1==0) (cond (y3.2.1.2.1==1) ((F 32 gH ((),(y3.2.1,()))).bind fun(y5:Q9) =>some (((y5.1.1==1),()),())) (some ((false,()),()))) (some ((false,()),()))) (some ((false,()),()))) (some ((false,()),())):=by kernel_rfl
theorem afg{F:FT}{J:JT GJ}{x:(((List bq)×Unit)×(dL×Unit))}:bF 29 GJ Tryz.f29 F J x =(F 59 Ij (x.1,())).bind fun(y1:Q2) =>cond (y1.1.1 != 0) (some (((0:Int),y1.1),(x.2.1,()))) (cond (decide ((lI x.2.1.2.2.1)≥64)) (some (((0:Int),((20:Int),())),(x.2.1,()))) (cond ((aB (List.length x.2.1.2.2.1) (0:Int) (lI x.2.1.2.2.1))&&(decide ((lI x.2.1.2.2.1)=(lI x.2.1.2.2.1)))) ((F 60 KO (x.1,())).bind fun(y2:Q3) =>cond (aL (List.length (cut x.2.1.2.2.1 (0:Int) (lI x.2.1.2.2.1))) (List.length (y2.1.1::([]:List (List bq))))) ((F 32 gH ((),((x.2.1.1,(x.2.1.2.1,(((cut x.2.1.2.2.1 (0:Int) (lI x.2.1.2.2.1))++(y2.1.1::([]:List (List bq)))),()))),()))).bind fun(y3:Q9) =>some ((y3.1.1,((0:Int),())),(y3.2.1,()))) (none)) (none))):=by kernel_rfl
theorem afh{F:FT}{J:JT KK}{x:Q2}:bF 47 KK Tryz.f47 F J x = some (((((1:Int),(((1:Int),x.1.1),(OI,(OI,(OC,(OC,(false,(OB,(0:Int)))))))))::([]:List bq)),()),()):=by kernel_rfl
theorem afi{F:FT}{J:JT Dp}{x:Q9}:bF 31 Dp Tryz.f31 F J x =(F 61 KM (x.1,(x.2.1,()))).bind fun(y1:Q36) =>cond (y1.1.2.1==0) (cond (aB (List.length y1.2.1.2.2.1) (wI (x.1.1-y1.2.1.2.1)) (lI y1.2.1.2.2.1)) (some (y1.1.2,((y1.1.1,(x.1.1,((cut y1.2.1.2.2.1 (wI (x.1.1-y1.2.1.2.1)) (lI y1.2.1.2.2.1)),()))),()))) (none)) (some (y1.1.2,(y1.2.1,()))):=by kernel_rfl
theorem afj{F:FT}{J:JT gH}{x:Q32}:bF 32 gH Tryz.f32 F J x = some (((wI (x.2.1.2.1+(lI x.2.1.2.2.1))),()),(x.2.1,())):=by kernel_rfl
theorem afk{F:FT}{J:JT GK}{x:Q3}:bF 27 GK Tryz.f27 F J x = cond (decide ((lI x.1.1)>8)) (cond (aB (List.length x.1.1) (0:Int) (8:Int)) (some (((cut x.1.1 (0:Int) (8:Int)),()),())) (none)) (some (x.1,())):=by kernel_rfl
theorem afl{F:FT}{J:JT KM}{x:Q9}:bF 61 KM Tryz.f61 F J x = cond (decide (x.1.1<x.2.1.2.1)) (some ((OS,((26:Int),())),(x.2.1,()))) ((F 32 gH ((),(x.2.1,()))).bind fun(y1:Q9) =>cond (decide (x.1.1>y1.1.1)) (some ((OS,((26:Int),())),(y1.2.1,()))) (cond (aB (List.length y1.2.1.2.2.1) (0:Int) (wI (x.1.1-y1.2.1.2.1))) ((F 13 Dn ((y1.2.1.1,((cut y1.2.1.2.2.1 (0:Int) (wI (x.1.1-y1.2.1.2.1))),())),())).bind fun(y2:Q4) =>some ((y2.1.1,((0:Int),())),(y1.2.1,()))) (none))):=by kernel_rfl
theorem afm{F:FT}{J:JT vn}{x:Q32}:bF 30 vn Tryz.f30 F J x =(F 13 Dn ((x.2.1.1,x.2.1.2.2),())).bind fun(y1:Q4) =>some ((y1.1.1,()),(x.2.1,())):=by kernel_rfl
end Go.Vs
set_option maxRecDepth 1000000
set_option maxHeartbeats 0
namespace Go.Vs
open Go.Proofs
theorem afn{F:FT}{J:JT KN}{x:Q16}:bF 36 KN Tryz.f36 F J x = some ((),()):=by kernel_rfl
theorem afo{F:FT}{J:JT KO}{x:Q3}:bF 60 KO Tryz.f60 F J x = cond (List.isEmpty x.1.1) (su 2 fun(j1:Nat) =>cond ((j1==0)==true) (some ((([]:List bq),()),())) (cond (aL (List.length ([]:List bq)) (List.length x.1.1)) (some (((([]:List bq)++x.1.1),()),())) (none))) (cond (aL (List.length ([]:List bq)) (List.length x.1.1)) (some (((([]:List bq)++x.1.1),()),())) (none)):=by kernel_rfl
theorem afp{F:FT}{J:JT KP}{x:((ag×Unit)×Unit)}:bF 137 KP Tryz.f137 F J x = some ((x.1.1.1,()),()):=by kernel_rfl
theorem U8{F:FT}{J:JT lC}{x:Q29}:bF 37035 lC Tryz.f35 F J x =(F 62 Kk ((x.1.1,(([]:List bq),())),())).bind fun(y1:Q4) =>J nk (aK Tryz.prog 35 0) ((x.1.2.1,((lI x.1.2.1),((0:Int),()))),((OW,((y1.1.1,()),())),())):=by kernel_rfl
theorem DW{F:FT}{J:JT lC}{x:(((List (List bq))×aak)×((aW×(aaK×Unit))×Unit))}:eC 37035 0 lC Tryz.f35 nk F J x = cond (decide (x.1.2.2.1<x.1.2.1)) (((aS x.1.1 x.1.2.2.1)).bind fun(y2:Q8) =>(F 36 KN ((x.2.1.2.1.1,(y2,())),())).bind fun(y3:(Unit×Unit)) =>(F 62 Kk ((x.2.1.2.1.1,(y2,())),())).bind fun(y4:Q4) =>J nk (aK Tryz.prog 35 0) ((x.1.1,(x.1.2.1,((wI (x.1.2.2.1+1)),()))),((x.2.1.1,((y4.1.1,()),())),()))) (some ((x.2.1.2.1.1,()),())):=by kernel_rfl
end Go.Vs
