/- Normal forms of the program's functions, the first part. -/
import Derived.Test.YtpldhjjpeldkaaaGreatEngineD
import Derived.KernelRfl
set_option linter.unusedVariables false
set_option maxRecDepth 1000000
set_option maxHeartbeats 0
namespace Go.Vs
open Go.Proofs
end Go.Vs
set_option maxRecDepth 1000000
set_option maxHeartbeats 0
namespace Go.Vs
open Go.Proofs
theorem ab2(F:FT)(J:JT DW)(x:(((List (List bw))×((List bw)×Unit))×Unit)):bZ 11 DW Tryz.f11 F J x =
 (F 12 NL ((),())).bind fun (y1:((Bool×Unit)×Unit)) =>
 (F 17 FE ((x.1.1,()),())).bind fun (y2:((StateT×Unit)×Unit)) =>
 (F 34 FJ (x.1.2,())).bind fun (y3:(((List bw)×Unit)×Unit)) =>
 (F 30 FG (((y2.1.1.1,y2.1.1.2),y3.1),())).bind fun (y4:((StateT×(Int×Unit))×Unit)) =>
 (F 41 DZ (y3.1,())).bind fun (y5:((Int×Unit)×Unit)) =>
 J zY (aP Tryz.prog 11 0) ((y1.1.1,(y4.1.2.1,(y5.1.1,((0:Int),())))),((y3.1,(((y2.1.1.1,y2.1.1.2),()),(((y4.1.1.1,y4.1.1.2),()),(((y2.1.1.1,y2.1.1.2),()),())))),())):=by kernel_rfl
theorem D6(F:FT)(J:JT DW)(x:((Bool×(Int×(Int×(Int×Unit))))×((((List bw)×Unit)×((StateT×Unit)×((StateT×Unit)×((StateT×Unit)×Unit))))×Unit))):fR 11 0 DW Tryz.f11 zY F J x =
  cond (decide (x.1.2.2.2.1<(((List.length x.2.1.1.1):Nat):Int)))
   (cond (x.1.2.2.1==(0:Int))
    (((aZ x.2.1.1.1 x.1.2.2.2.1)).bind fun (y6:bw) =>
    (F 14 DX (((x.2.1.2.2.2.1.1.1,x.2.1.2.2.2.1.1.2),((y6.1,(y6.2.1,(y6.2.2.1,(y6.2.2.2.1,((y6.2.2.2.2.1.1,(y6.2.2.2.2.1.2.1,y6.2.2.2.2.1.2.2)),((y6.2.2.2.2.2.1.1,(y6.2.2.2.2.2.1.2.1,y6.2.2.2.2.2.1.2.2)),(y6.2.2.2.2.2.2.1,y6.2.2.2.2.2.2.2))))))),())),())).bind fun (y7:((StateT×(Int×Unit))×Unit)) =>
    J zY (aP Tryz.prog 11 0) ((x.1.1,(x.1.2.1,(y7.1.2.1,((IntKind.wrap .i64 (x.1.2.2.2.1+(1:Int))),())))),((x.2.1.1,(((x.2.1.2.1.1.1,x.2.1.2.1.1.2),()),(((x.2.1.2.2.1.1.1,x.2.1.2.2.1.1.2),()),(((y7.1.1.1,y7.1.1.2),()),())))),())))
    ((F 36 Lm (((x.2.1.2.1.1.1,x.2.1.2.1.1.2),x.2.1.1),())).bind fun (y8:((StateT×Unit)×Unit)) =>
    cond (x.1.2.2.1 != (0:Int))
     ((F 16 BN (((y8.1.1.1,y8.1.1.2),((x.2.1.2.1.1.1,x.2.1.2.1.1.2),())),())).bind fun (y9:((Bool×Unit)×Unit)) =>
     cond x.1.1
      (cond (x.1.2.1==x.1.2.2.1)
       (cond y9.1.1
        (cond ((((List.length x.2.1.2.2.1.1.1.1):Nat):Int)==(0:Int))
         (some ((((((List.length x.2.1.2.2.1.1.2):Nat):Int)==(0:Int)),()),()))
         (some ((false,()),())))
        (some ((false,()),())))
       (some ((false,()),())))
      (some ((false,()),())))
     ((F 16 BN (((x.2.1.2.2.1.1.1,x.2.1.2.2.1.1.2),((x.2.1.2.2.2.1.1.1,x.2.1.2.2.2.1.1.2),())),())).bind fun (ou:((Bool×Unit)×Unit)) =>
     (F 16 BN (((y8.1.1.1,y8.1.1.2),((x.2.1.2.2.2.1.1.1,x.2.1.2.2.2.1.1.2),())),())).bind fun (kC:((Bool×Unit)×Unit)) =>
     cond x.1.1
      (cond (x.1.2.1==(0:Int))
       (cond ou.1.1
        (some (kC.1,()))
        (some ((false,()),())))
       (some ((false,()),())))
      (some ((false,()),())))))
   ((F 36 Lm (((x.2.1.2.1.1.1,x.2.1.2.1.1.2),x.2.1.1),())).bind fun (lP:((StateT×Unit)×Unit)) =>
   cond (x.1.2.2.1 != (0:Int))
    ((F 16 BN (((lP.1.1.1,lP.1.1.2),((x.2.1.2.1.1.1,x.2.1.2.1.1.2),())),())).bind fun (kD:((Bool×Unit)×Unit)) =>
    cond x.1.1
     (cond (x.1.2.1==x.1.2.2.1)
      (cond kD.1.1
       (cond ((((List.length x.2.1.2.2.1.1.1.1):Nat):Int)==(0:Int))
        (some ((((((List.length x.2.1.2.2.1.1.2):Nat):Int)==(0:Int)),()),()))
        (some ((false,()),())))
       (some ((false,()),())))
      (some ((false,()),())))
     (some ((false,()),())))
    ((F 16 BN (((x.2.1.2.2.1.1.1,x.2.1.2.2.1.1.2),((x.2.1.2.2.2.1.1.1,x.2.1.2.2.2.1.1.2),())),())).bind fun (Bq:((Bool×Unit)×Unit)) =>
    (F 16 BN (((lP.1.1.1,lP.1.1.2),((x.2.1.2.2.2.1.1.1,x.2.1.2.2.2.1.1.2),())),())).bind fun (rT:((Bool×Unit)×Unit)) =>
    cond x.1.1
     (cond (x.1.2.1==(0:Int))
      (cond Bq.1.1
       (some (rT.1,()))
       (some ((false,()),())))
      (some ((false,()),())))
     (some ((false,()),())))):=by kernel_rfl
theorem ab3(F:FT)(J:JT NL)(x:(Unit×Unit)):bZ 12 NL Tryz.f12 F J x =
  (F 33 NO ((),())).bind fun (y1:((StateT×Unit)×Unit)) =>
  (F 42 NQ (((1:Int),()),())).bind fun (y2:(((List bw)×Unit)×Unit)) =>
  (F 30 FG (((y1.1.1.1,y1.1.1.2),y2.1),())).bind fun (y3:((StateT×(Int×Unit))×Unit)) =>
  (F 14 DX (((y3.1.1.1,y3.1.1.2),(((2:Int),(((1:Int),(1:Int)),(((0:Int),(0:Int)),(((0:Int),(0:Int)),((((0:Int),(0:Int)),(((0:Int),(0:Int)),(0:Int))),((((0:Int),(0:Int)),(((0:Int),(0:Int)),(0:Int))),(false,((⟨#[]⟩:ByteArray),(0:Int))))))))),())),())).bind fun (y4:((StateT×(Int×Unit))×Unit)) =>
  cond ((((List.length y3.1.1.1.1):Nat):Int)==(1:Int))
   (cond (y3.1.2.1==(0:Int))
    (cond ((((List.length y4.1.1.1.1):Nat):Int)==(0:Int))
     (some (((y4.1.2.1==(0:Int)),()),()))
     (some ((false,()),())))
    (some ((false,()),())))
   (some ((false,()),())):=by kernel_rfl
theorem Xe(F:FT)(J:JT DX)(x:((StateT×(bw×Unit))×Unit)):bZ 14 DX Tryz.f14 F J x =
  (F 43 BQ (((x.1.2.1.1,(x.1.2.1.2.1,(x.1.2.1.2.2.1,(x.1.2.1.2.2.2.1,((x.1.2.1.2.2.2.2.1.1,(x.1.2.1.2.2.2.2.1.2.1,x.1.2.1.2.2.2.2.1.2.2)),((x.1.2.1.2.2.2.2.2.1.1,(x.1.2.1.2.2.2.2.2.1.2.1,x.1.2.1.2.2.2.2.2.1.2.2)),(x.1.2.1.2.2.2.2.2.2.1,x.1.2.1.2.2.2.2.2.2.2))))))),()),())).bind fun (y1:((Int×Unit)×Unit)) =>
  cond (y1.1.1 != (0:Int))
   (some ((((([]:List ah),([]:List af)),([]:List ak)),y1.1),()))
   ((F 44 BR (((x.1.1.1,x.1.1.2),(((x.1.2.1.1,(x.1.2.1.2.1,(x.1.2.1.2.2.1,(x.1.2.1.2.2.2.1,((x.1.2.1.2.2.2.2.1.1,(x.1.2.1.2.2.2.2.1.2.1,x.1.2.1.2.2.2.2.1.2.2)),((x.1.2.1.2.2.2.2.2.1.1,(x.1.2.1.2.2.2.2.2.1.2.1,x.1.2.1.2.2.2.2.2.1.2.2)),(x.1.2.1.2.2.2.2.2.2.1,x.1.2.1.2.2.2.2.2.2.2)))))))::([]:List bw)),())),())).bind fun (y2:((StateT×(Int×Unit))×Unit)) =>
   some (((y2.1.1.1,y2.1.1.2),y2.1.2),())):=by kernel_rfl
end Go.Vs
