/- Normal forms of the program's functions, the fourth part. -/
import Derived.Test.YtpkfpbpbkabkdaaGreatEngineD
import Derived.KernelRfl
set_option linter.unusedVariables false
set_option maxRecDepth 1000000
set_option maxHeartbeats 0
namespace Go.Vs
open Go.Proofs
theorem Ve(F:FT)(J:JT iM)(x:(aac×Unit)):dr 3 iM Tryz.f3 F J x =
 (F 15 Eo ((),())).bind fun(y1:((Bool×Unit)×Unit)) =>
 J lN (bA Tryz.prog 3 0) ((x.1.1,(y1.1.1,((0:Int),()))),((),(([]:List (List aO)),()))):=by kernel_rfl
theorem Il(F:FT)(J:JT iM)(x:(((List (List aO))×(Bool×aaf))×(Unit×aac))):nT 3 0 iM Tryz.f3 lN F J x =
  (F 16 rq ((x.1.1,()),())).bind fun(y2:(((List (List aO))×Unit)×Unit)) =>
  cond (decide (x.1.2.2.1<(((List.length y2.1.1):Nat):Int)))
   ((F 16 rq ((x.1.1,()),())).bind fun(y3:(((List (List aO))×Unit)×Unit)) =>
   ((cQ y3.1.1 x.1.2.2.1)).bind fun(y4:(List aO)) =>
   (F 17 tz ((y4,()),())).bind fun(y5:(((List ID)×Unit)×Unit)) =>
   J lO (bA Tryz.prog 3 1) ((x.1.1,(x.1.2.1,(x.1.2.2.1,((decide ((((List.length y5.1.1):Nat):Int)>(0:Int))),((0:Int),()))))),(((y4,()),()),x.2.2)))
   ((F 500018 kT ((((([]:List aj),([]:List an)),([]:List aG)),()),x.2.2)).bind fun(y6:((StateT×Unit)×((List (List aO))×Unit))) =>
   (F 500018 kT (((y6.1.1.1,y6.1.1.2),()),y6.2)).bind fun(y7:((StateT×Unit)×((List (List aO))×Unit))) =>
   (F 500019 kU ((((([]:List aj),([]:List an)),([]:List aG)),()),y7.2)).bind fun(y8:(((List Bool)×Unit)×((List (List aO))×Unit))) =>
   (F 500019 kU (((y6.1.1.1,y6.1.1.2),()),y8.2)).bind fun(y9:(((List Bool)×Unit)×((List (List aO))×Unit))) =>
   J qw (bA Tryz.prog 3 2) ((x.1.2.1,((0:Int),())),((((y6.1.1.1,y6.1.1.2),()),(((y7.1.1.1,y7.1.1.2),()),())),(y9.2.1,(y8.1.1,y9.1))))):=by kernel_rfl
theorem Im(F:FT)(J:JT iM)(x:(((List (List aO))×(Bool×(Int×(Bool×aaf))))×((aai×Unit)×aac))):nT 3 1 iM Tryz.f3 lO F J x =
  cond (decide (x.1.2.2.2.2.1<(((List.length x.2.1.1.1):Nat):Int)))
   (cond x.1.2.2.2.1
    (((cQ x.2.1.1.1 x.1.2.2.2.2.1)).bind fun(rr:aO) =>
    cond (rr.1==(1:Int))
     (J lO (bA Tryz.prog 3 1) ((x.1.1,(x.1.2.1,(x.1.2.2.1,(true,((IntKind.wrap .i64 (x.1.2.2.2.2.1+(1:Int))),()))))),((x.2.1.1,()),x.2.2)))
     (((cQ x.2.1.1.1 x.1.2.2.2.2.1)).bind fun(mq:aO) =>
     J lO (bA Tryz.prog 3 1) ((x.1.1,(x.1.2.1,(x.1.2.2.1,((mq.1==(3:Int)),((IntKind.wrap .i64 (x.1.2.2.2.2.1+(1:Int))),()))))),((x.2.1.1,()),x.2.2))))
    (J lO (bA Tryz.prog 3 1) ((x.1.1,(x.1.2.1,(x.1.2.2.1,(false,((IntKind.wrap .i64 (x.1.2.2.2.2.1+(1:Int))),()))))),((x.2.1.1,()),x.2.2))))
   (cond x.1.2.2.2.1
    (cond (bL (List.length x.2.2.1) (List.length (x.2.1.1.1::([]:List (List aO)))))
     (J lN (bA Tryz.prog 3 0) ((x.1.1,(x.1.2.1,((IntKind.wrap .i64 (x.1.2.2.1+(1:Int))),()))),((),((x.2.2.1++(x.2.1.1.1::([]:List (List aO)))),()))))
     (none))
    (J lN (bA Tryz.prog 3 0) ((x.1.1,(x.1.2.1,((IntKind.wrap .i64 (x.1.2.2.1+(1:Int))),()))),((),x.2.2)))):=by kernel_rfl
theorem Io(F:FT)(J:JT iM)(x:((Bool×aaf)×((aan×(aan×Unit))×((List (List aO))×((List Bool)×((List Bool)×Unit)))))):nT 3 2 iM Tryz.f3 qw F J x =
  cond (decide (x.1.2.1<(((List.length x.2.2.1):Nat):Int)))
   (cond (decide (x.1.2.1≥(((List.length x.2.2.2.1):Nat):Int)))
    (some ((false,()),()))
    (cond (decide (x.1.2.1≥(((List.length x.2.2.2.2.1):Nat):Int)))
     (some ((false,()),()))
     (cond ((decide ((0:Int)≤x.1.2.1))&&(decide (x.1.2.1<(((List.length x.2.2.2.1):Nat):Int))))
      (((x.2.2.2.1)[(Int.toNat x.1.2.1)]?).bind fun(pO:Bool) =>
      cond pO
       (cond ((decide ((0:Int)≤x.1.2.1))&&(decide (x.1.2.1<(((List.length x.2.2.2.2.1):Nat):Int))))
        (((x.2.2.2.2.1)[(Int.toNat x.1.2.1)]?).bind fun(ly:Bool) =>
        cond ly
         (some ((false,()),()))
         (J qw (bA Tryz.prog 3 2) ((x.1.1,((IntKind.wrap .i64 (x.1.2.1+(1:Int))),())),((((x.2.1.1.1.1,x.2.1.1.1.2),()),(((x.2.1.2.1.1.1,x.2.1.2.1.1.2),()),())),(x.2.2.1,(x.2.2.2.1,x.2.2.2.2))))))
        (none))
       (J qw (bA Tryz.prog 3 2) ((x.1.1,((IntKind.wrap .i64 (x.1.2.1+(1:Int))),())),((((x.2.1.1.1.1,x.2.1.1.1.2),()),(((x.2.1.2.1.1.1,x.2.1.2.1.1.2),()),())),(x.2.2.1,(x.2.2.2.1,x.2.2.2.2))))))
      (none))))
   (cond x.1.1
    (cond (decide ((((List.length x.2.1.2.1.1.1.1):Nat):Int)≥(((List.length x.2.1.1.1.1.1):Nat):Int)))
     (some (((decide ((((List.length x.2.1.2.1.1.1.2):Nat):Int)≥(((List.length x.2.1.1.1.1.2):Nat):Int))),()),()))
     (some ((false,()),())))
    (some ((false,()),()))):=by kernel_rfl
theorem Vf(F:FT)(J:JT Eo)(x:(Unit×Unit)):dr 15 Eo Tryz.f15 F J x =
  (F 59 yJ (((1:Int),()),())).bind fun(y1:(((List aO)×Unit)×Unit)) =>
  (F 59 yJ (((1:Int),()),())).bind fun(y2:(((List aO)×Unit)×Unit)) =>
  (F 500019 kU ((((([]:List aj),([]:List an)),([]:List aG)),()),((y1.1.1::(y2.1.1::([]:List (List aO)))),()))).bind fun(y3:(((List Bool)×Unit)×((List (List aO))×Unit))) =>
  cond ((((List.length y3.1.1):Nat):Int)==(2:Int))
   (cond ((decide ((0:Int)≤(0:Int)))&&(decide ((0:Int)<(((List.length y3.1.1):Nat):Int))))
    (((y3.1.1)[(Int.toNat (0:Int))]?).bind fun(y4:Bool) =>
    cond y4
     (cond ((decide ((0:Int)≤(1:Int)))&&(decide ((1:Int)<(((List.length y3.1.1):Nat):Int))))
      (((y3.1.1)[(Int.toNat (1:Int))]?).bind fun(y5:Bool) =>
      cond (not y5)
       ((F 59 yJ (((1:Int),()),())).bind fun(y6:(((List aO)×Unit)×Unit)) =>
       (F 500018 kT ((((([]:List aj),([]:List an)),([]:List aG)),()),((y6.1.1::([]:List (List aO))),()))).bind fun(y7:((StateT×Unit)×((List (List aO))×Unit))) =>
       some ((((((List.length y7.1.1.1.1):Nat):Int)==(1:Int)),()),()))
       (some ((false,()),())))
      (none))
     (some ((false,()),())))
    (none))
   (some ((false,()),())):=by kernel_rfl
theorem Vg(F:FT)(J:JT rq)(x:(aac×Unit)):dr 16 rq Tryz.f16 F J x =
 J nS (bA Tryz.prog 16 0) ((x.1.1,((0:Int),())),((),(([]:List (List aO)),()))):=by kernel_rfl
theorem CG(F:FT)(J:JT rq)(x:(((List (List aO))×aaf)×(Unit×aac))):nT 16 0 rq Tryz.f16 nS F J x =
  cond (decide (x.1.2.1<(((List.length x.1.1):Nat):Int)))
   (cond (decide (x.1.2.1<(30:Int)))
    (((cQ x.1.1 x.1.2.1)).bind fun(y1:(List aO)) =>
    cond (decide ((((List.length y1):Nat):Int)>(8:Int)))
     (cond (aR (List.length y1) (0:Int) (8:Int))
      (cond (bL (List.length x.2.2.1) (List.length ((cut y1 (0:Int) (8:Int))::([]:List (List aO)))))
       (J nS (bA Tryz.prog 16 0) ((x.1.1,((IntKind.wrap .i64 (x.1.2.1+(1:Int))),())),((),((x.2.2.1++((cut y1 (0:Int) (8:Int))::([]:List (List aO)))),()))))
       (none))
      (none))
     (cond (bL (List.length x.2.2.1) (List.length (y1::([]:List (List aO)))))
      (J nS (bA Tryz.prog 16 0) ((x.1.1,((IntKind.wrap .i64 (x.1.2.1+(1:Int))),())),((),((x.2.2.1++(y1::([]:List (List aO)))),()))))
      (none)))
    (some (x.2.2,())))
   (some (x.2.2,())):=by kernel_rfl
theorem Vh(F:FT)(J:JT tz)(x:(aai×Unit)):dr 17 tz Tryz.f17 F J x =
 J iA (bA Tryz.prog 17 0) (((0:Int),()),((x.1,()),(([]:List ID),()))):=by kernel_rfl
theorem Ip(F:FT)(J:JT tz)(x:(aaf×((aai×Unit)×((List ID)×Unit)))):nT 17 0 tz Tryz.f17 iA F J x =
  cond (decide (x.1.1<(((List.length x.2.1.1.1):Nat):Int)))
   (((cQ x.2.1.1.1 x.1.1)).bind fun(y1:aO) =>
   cond (y1.1==(1:Int))
    (cond (bL (List.length x.2.2.1) (List.length (y1.2.1::([]:List ID))))
     (cond (y1.1==(5:Int))
      (cond (bL (List.length (x.2.2.1++(y1.2.1::([]:List ID)))) (List.length (y1.2.2.1::(y1.2.2.2.1::([]:List ID)))))
       (J iA (bA Tryz.prog 17 0) (((IntKind.wrap .i64 (x.1.1+(1:Int))),()),((x.2.1.1,()),(((x.2.2.1++(y1.2.1::([]:List ID)))++(y1.2.2.1::(y1.2.2.2.1::([]:List ID)))),()))))
       (none))
      (J iA (bA Tryz.prog 17 0) (((IntKind.wrap .i64 (x.1.1+(1:Int))),()),((x.2.1.1,()),((x.2.2.1++(y1.2.1::([]:List ID))),())))))
     (none))
    (cond (y1.1==(3:Int))
     (cond (bL (List.length x.2.2.1) (List.length (y1.2.1::([]:List ID))))
      (cond (y1.1==(5:Int))
       (cond (bL (List.length (x.2.2.1++(y1.2.1::([]:List ID)))) (List.length (y1.2.2.1::(y1.2.2.2.1::([]:List ID)))))
        (J iA (bA Tryz.prog 17 0) (((IntKind.wrap .i64 (x.1.1+(1:Int))),()),((x.2.1.1,()),(((x.2.2.1++(y1.2.1::([]:List ID)))++(y1.2.2.1::(y1.2.2.2.1::([]:List ID)))),()))))
        (none))
       (J iA (bA Tryz.prog 17 0) (((IntKind.wrap .i64 (x.1.1+(1:Int))),()),((x.2.1.1,()),((x.2.2.1++(y1.2.1::([]:List ID))),())))))
      (none))
     (cond (y1.1==(5:Int))
      (cond (bL (List.length x.2.2.1) (List.length (y1.2.2.1::(y1.2.2.2.1::([]:List ID)))))
       (J iA (bA Tryz.prog 17 0) (((IntKind.wrap .i64 (x.1.1+(1:Int))),()),((x.2.1.1,()),((x.2.2.1++(y1.2.2.1::(y1.2.2.2.1::([]:List ID)))),()))))
       (none))
      (J iA (bA Tryz.prog 17 0) (((IntKind.wrap .i64 (x.1.1+(1:Int))),()),((x.2.1.1,()),x.2.2))))))
   (some (x.2.2,())):=by kernel_rfl
end Go.Vs
set_option maxRecDepth 1000000
set_option maxHeartbeats 0
namespace Go.Vs
open Go.Proofs
theorem Vi(F:FT)(J:JT yJ)(x:(aaf×Unit)):dr 59 yJ Tryz.f59 F J x =
 some (((((1:Int),(((1:Int),x.1.1),(((0:Int),(0:Int)),(((0:Int),(0:Int)),((((0:Int),(0:Int)),(((0:Int),(0:Int)),(0:Int))),((((0:Int),(0:Int)),(((0:Int),(0:Int)),(0:Int))),(false,((⟨#[]⟩:ByteArray),(0:Int)))))))))::([]:List aO)),()),()):=by kernel_rfl
theorem Vj(F:FT)(J:JT Ep)(x:aaC):dr 61 Ep Tryz.f61 F J x =
 some ((),()):=by kernel_rfl
theorem Vk(F:FT)(J:JT Er)(x:((StateT×aai)×(((List Bool)×Unit)×Unit))):dr 62 Er Tryz.f62 F J x =
  (F 63 GG (((x.1.1.1,x.1.1.2),x.1.2),())).bind fun(y1:((StateT×(Int×Unit))×Unit)) =>
  cond (bL (List.length x.2.1.1) (List.length ((y1.1.2.1==(0:Int))::([]:List Bool))))
   (some ((),(((x.2.1.1++((y1.1.2.1==(0:Int))::([]:List Bool))),()),())))
   (none):=by kernel_rfl
theorem Mn(F:FT)(J:JT kT)(x:(aan×aac)):dr 500018 kT Tryz.f18 F J x =
 (F 562060 jM (((x.1.1.1,x.1.1.2),()),x.2)).bind fun(y1:((StateT×Unit)×((List (List aO))×Unit))) =>
 some (((y1.1.1.1,y1.1.1.2),()),y1.2):=by kernel_rfl
theorem Mo(F:FT)(J:JT kU)(x:(aan×aac)):dr 500019 kU Tryz.f19 F J x =
 (F 563060 jN (((x.1.1.1,x.1.1.2),()),(x.2.1,((([]:List Bool),()),())))).bind fun(y1:((StateT×Unit)×((List (List aO))×(((List Bool)×Unit)×Unit)))) =>
 some (y1.2.2.1,(y1.2.1,())):=by kernel_rfl
theorem Mp(F:FT)(J:JT jM)(x:(aan×aac)):dr 562060 jM Tryz.f60 F J x =
 (F 102 AA (((x.1.1.1,x.1.1.2),(([]:List aO),())),())).bind fun(y1:((StateT×Unit)×Unit)) =>
 J kX (bA Tryz.prog 60 0) (((((List.length x.2.1):Nat):Int),((0:Int),())),(((([]:List aj),(([]:List an),(([]:List aG),()))),(((y1.1.1.1,y1.1.1.2),()),())),x.2)):=by kernel_rfl
theorem yU(F:FT)(J:JT jM)(x:(aaa×((az×(aan×Unit))×aac))):nT 562060 0 jM Tryz.f60 kX F J x =
  cond (decide (x.1.2.1<x.1.1))
   (cond ((decide ((0:Int)≤x.1.2.1))&&(decide (x.1.2.1<(((List.length x.2.2.1):Nat):Int))))
    (((x.2.2.1)[(Int.toNat x.1.2.1)]?).bind fun(y2:(List aO)) =>
    (F 61 Ep (((x.2.1.2.1.1.1,x.2.1.2.1.1.2),(y2,())),())).bind fun(y3:(Unit×Unit)) =>
    (F 102 AA (((x.2.1.2.1.1.1,x.2.1.2.1.1.2),(y2,())),())).bind fun(y4:((StateT×Unit)×Unit)) =>
    J kX (bA Tryz.prog 60 0) ((x.1.1,((IntKind.wrap .i64 (x.1.2.1+(1:Int))),())),(((x.2.1.1.1,(x.2.1.1.2.1,x.2.1.1.2.2)),(((y4.1.1.1,y4.1.1.2),()),())),x.2.2)))
    (none))
   (some (((x.2.1.2.1.1.1,x.2.1.2.1.1.2),()),x.2.2)):=by kernel_rfl
theorem Mq(F:FT)(J:JT jN)(x:(aan×((List (List aO))×(((List Bool)×Unit)×Unit)))):dr 563060 jN Tryz.f60 F J x =
 (F 102 AA (((x.1.1.1,x.1.1.2),(([]:List aO),())),())).bind fun(y1:((StateT×Unit)×Unit)) =>
 J kY (bA Tryz.prog 60 0) (((((List.length x.2.1):Nat):Int),((0:Int),())),((x.2.2.1,((([]:List aj),(([]:List an),(([]:List aG),()))),(((y1.1.1.1,y1.1.1.2),()),()))),(x.2.1,()))):=by kernel_rfl
theorem yV(F:FT)(J:JT jN)(x:(aaa×((((List Bool)×Unit)×(az×(aan×Unit)))×aac))):nT 563060 0 jN Tryz.f60 kY F J x =
  cond (decide (x.1.2.1<x.1.1))
   (cond ((decide ((0:Int)≤x.1.2.1))&&(decide (x.1.2.1<(((List.length x.2.2.1):Nat):Int))))
    (((x.2.2.1)[(Int.toNat x.1.2.1)]?).bind fun(y2:(List aO)) =>
    (F 62 Er (((x.2.1.2.2.1.1.1,x.2.1.2.2.1.1.2),(y2,())),(x.2.1.1,()))).bind fun(y3:(Unit×(((List Bool)×Unit)×Unit))) =>
    (F 102 AA (((x.2.1.2.2.1.1.1,x.2.1.2.2.1.1.2),(y2,())),())).bind fun(y4:((StateT×Unit)×Unit)) =>
    J kY (bA Tryz.prog 60 0) ((x.1.1,((IntKind.wrap .i64 (x.1.2.1+(1:Int))),())),((y3.2.1,((x.2.1.2.1.1,(x.2.1.2.1.2.1,x.2.1.2.1.2.2)),(((y4.1.1.1,y4.1.1.2),()),()))),x.2.2)))
    (none))
   (some (((x.2.1.2.2.1.1.1,x.2.1.2.2.1.1.2),()),(x.2.2.1,(x.2.1.1,())))):=by kernel_rfl
end Go.Vs
