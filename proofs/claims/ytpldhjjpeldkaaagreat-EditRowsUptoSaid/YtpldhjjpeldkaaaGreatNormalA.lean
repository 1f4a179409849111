/- Normal forms of the program's functions, the first part. -/
import Derived.Test.YtpldhjjpeldkaaaGreatEngineD
import Derived.KernelRfl
set_option linter.unusedVariables false
set_option maxRecDepth 1000000
set_option maxHeartbeats 0
namespace Go.Vs
open Go.Proofs
end Go.Vs
set_option maxRecDepth 1000000
set_option maxHeartbeats 0
namespace Go.Vs
open Go.Proofs
theorem nf9(F:FT)(J:JT Q2)(x:(((List (List bB))×Unit)×Unit)):bY 9 Q2 Tryz.f9 F J x =
 (F 12 Nz ((),())).bind fun (y1:((Bool×Unit)×Unit)) =>
 (F 33 Ik ((),())).bind fun (y2:((StateT×Unit)×Unit)) =>
 J F4 (aP Tryz.prog 9 0) ((x.1.1,(y1.1.1,((0:Int),()))),((((y2.1.1.1,y2.1.1.2),()),((((([]:List ah),([]:List af)),([]:List ak)),()),())),())):=by kernel_rfl
theorem SL(F:FT)(J:JT Q2)(x:(((List (List bB))×(Bool×(Int×Unit)))×(((StateT×Unit)×((StateT×Unit)×Unit))×Unit))):fV 9 0 Q2 Tryz.f9 F4 F J x =
  cond (decide (x.1.2.2.1<(((List.length x.1.1):Nat):Int)))
   (cond (decide (x.1.2.2.1<(30:Int)))
    (((aV x.1.1 x.1.2.2.1)).bind fun (y3:(List bB)) =>
    (F 34 BH ((y3,()),())).bind fun (y4:(((List bB)×Unit)×Unit)) =>
    (F 30 Ft (((x.2.1.1.1.1,x.2.1.1.1.2),y4.1),())).bind fun (y5:((StateT×(Int×Unit))×Unit)) =>
    ((aV x.1.1 x.1.2.2.1)).bind fun (y6:(List bB)) =>
    (F 34 BH ((y6,()),())).bind fun (y7:(((List bB)×Unit)×Unit)) =>
    (F 35 DO (((x.2.1.2.1.1.1,x.2.1.2.1.1.2),y7.1),())).bind fun (y8:((StateT×(Int×Unit))×Unit)) =>
    (F 16 K7 (((y5.1.1.1,y5.1.1.2),((y8.1.1.1,y8.1.1.2),())),())).bind fun (y9:((Bool×Unit)×Unit)) =>
    cond (not y9.1.1)
     (some ((false,()),()))
     (cond (y5.1.2.1 != y8.1.2.1)
      (some ((false,()),()))
      (((aV x.1.1 x.1.2.2.1)).bind fun (oq:(List bB)) =>
      (F 34 BH ((oq,()),())).bind fun (kz:(((List bB)×Unit)×Unit)) =>
      (F 36 NB (((x.2.1.1.1.1,x.2.1.1.1.2),kz.1),())).bind fun (lM:((StateT×Unit)×Unit)) =>
      ((aV x.1.1 x.1.2.2.1)).bind fun (kA:(List bB)) =>
      (F 34 BH ((kA,()),())).bind fun (Bl:(((List bB)×Unit)×Unit)) =>
      (F 37 NC (((x.2.1.2.1.1.1,x.2.1.2.1.1.2),Bl.1),())).bind fun (p7:((StateT×Unit)×Unit)) =>
      (F 16 K7 (((lM.1.1.1,lM.1.1.2),((p7.1.1.1,p7.1.1.2),())),())).bind fun (Qk:((Bool×Unit)×Unit)) =>
      cond (not Qk.1.1)
       (some ((false,()),()))
       (J F4 (aP Tryz.prog 9 0) ((x.1.1,(x.1.2.1,((IntKind.wrap .i64 (x.1.2.2.1+(1:Int))),()))),((((lM.1.1.1,lM.1.1.2),()),(((p7.1.1.1,p7.1.1.2),()),())),()))))))
    (some ((x.1.2.1,()),())))
   (some ((x.1.2.1,()),())):=by kernel_rfl
theorem abU(F:FT)(J:JT Nz)(x:(Unit×Unit)):bY 12 Nz Tryz.f12 F J x =
  (F 33 Ik ((),())).bind fun (y1:((StateT×Unit)×Unit)) =>
  (F 42 ND (((1:Int),()),())).bind fun (y2:(((List bB)×Unit)×Unit)) =>
  (F 30 Ft (((y1.1.1.1,y1.1.1.2),y2.1),())).bind fun (y3:((StateT×(Int×Unit))×Unit)) =>
  (F 14 K6 (((y3.1.1.1,y3.1.1.2),(((2:Int),(((1:Int),(1:Int)),(((0:Int),(0:Int)),(((0:Int),(0:Int)),((((0:Int),(0:Int)),(((0:Int),(0:Int)),(0:Int))),((((0:Int),(0:Int)),(((0:Int),(0:Int)),(0:Int))),(false,((⟨#[]⟩:ByteArray),(0:Int))))))))),())),())).bind fun (y4:((StateT×(Int×Unit))×Unit)) =>
  cond ((((List.length y3.1.1.1.1):Nat):Int)==(1:Int))
   (cond (y3.1.2.1==(0:Int))
    (cond ((((List.length y4.1.1.1.1):Nat):Int)==(0:Int))
     (some (((y4.1.2.1==(0:Int)),()),()))
     (some ((false,()),())))
    (some ((false,()),())))
   (some ((false,()),())):=by kernel_rfl
theorem abV(F:FT)(J:JT K6)(x:((StateT×(bB×Unit))×Unit)):bY 14 K6 Tryz.f14 F J x =
  (F 43 BJ (((x.1.2.1.1,(x.1.2.1.2.1,(x.1.2.1.2.2.1,(x.1.2.1.2.2.2.1,((x.1.2.1.2.2.2.2.1.1,(x.1.2.1.2.2.2.2.1.2.1,x.1.2.1.2.2.2.2.1.2.2)),((x.1.2.1.2.2.2.2.2.1.1,(x.1.2.1.2.2.2.2.2.1.2.1,x.1.2.1.2.2.2.2.2.1.2.2)),(x.1.2.1.2.2.2.2.2.2.1,x.1.2.1.2.2.2.2.2.2.2))))))),()),())).bind fun (y1:((Int×Unit)×Unit)) =>
  cond (y1.1.1 != (0:Int))
   (some ((((([]:List ah),([]:List af)),([]:List ak)),y1.1),()))
   ((F 44 BL (((x.1.1.1,x.1.1.2),(((x.1.2.1.1,(x.1.2.1.2.1,(x.1.2.1.2.2.1,(x.1.2.1.2.2.2.1,((x.1.2.1.2.2.2.2.1.1,(x.1.2.1.2.2.2.2.1.2.1,x.1.2.1.2.2.2.2.1.2.2)),((x.1.2.1.2.2.2.2.2.1.1,(x.1.2.1.2.2.2.2.2.1.2.1,x.1.2.1.2.2.2.2.2.1.2.2)),(x.1.2.1.2.2.2.2.2.2.1,x.1.2.1.2.2.2.2.2.2.2)))))))::([]:List bB)),())),())).bind fun (y2:((StateT×(Int×Unit))×Unit)) =>
   some (((y2.1.1.1,y2.1.1.2),y2.1.2),())):=by kernel_rfl
end Go.Vs
