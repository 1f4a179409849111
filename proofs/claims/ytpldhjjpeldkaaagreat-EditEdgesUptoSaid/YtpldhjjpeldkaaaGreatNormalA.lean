/- Normal forms of the program's functions, the first part. -/
import Derived.Test.YtpldhjjpeldkaaaGreatEngineD
import Derived.KernelRfl
set_option linter.unusedVariables false
set_option maxRecDepth 1000000
set_option maxHeartbeats 0
namespace Go.Vs
open Go.Proofs
theorem nf5(F:FT)(J:JT YD)(x:(((List (List bL))×(ab×aaO))×Unit)):cp 5 YD Tryz.f5 F J x =
  (F 12 PV ((),())).bind fun(y1:((Bool×Unit)×Unit)) =>
  (F 17 HB ((x.1.1,()),())).bind fun(y2:((StateT×Unit)×Unit)) =>
  (F 20 rj ((y2.1.1.1,((x.1.2.1.1,x.1.2.1.2),())),())).bind fun(y3:((ID×(Bool×Unit))×Unit)) =>
  (F 20 rj ((y2.1.1.1,((x.1.2.2.1.1,x.1.2.2.1.2),())),())).bind fun(y4:((ID×(Bool×Unit))×Unit)) =>
  (F 21 xg ((y2.1.1.1,(((8:Int),(1048576:Int)),())),())).bind fun(y5:((ah×(Bool×Unit))×Unit)) =>
  cond (not y3.1.2.1)
   (some (y1.1,()))
   (cond (not y4.1.2.1)
    (some (y1.1,()))
    (cond y5.1.2.1
     (some (y1.1,()))
     (cond (((x.1.2.1.1.1==x.1.2.2.1.1.1)&&(x.1.2.1.1.2==x.1.2.2.1.1.2))&&(x.1.2.1.2==x.1.2.2.1.2))
      (some (y1.1,()))
      (cond (decide ((((List.length y2.1.1.1.2):Nat):Int)≥(40:Int)))
       (some (y1.1,()))
       ((F 14 zo (((y2.1.1.1,y2.1.1.2),(((3:Int),(((8:Int),(1048576:Int)),(((0:Int),(0:Int)),(((0:Int),(0:Int)),((y3.1.1,(x.1.2.1.1,x.1.2.1.2)),((y4.1.1,(x.1.2.2.1.1,x.1.2.2.1.2)),(false,((⟨#[]⟩:ByteArray),(0:Int))))))))),())),())).bind fun(y6:((StateT×(Int×Unit))×Unit)) =>
       (F 23 zp (((x.1.2.1.1,x.1.2.1.2),()),())).bind fun(y7:((ab×Unit)×Unit)) =>
       (F 22 Dt ((y2.1.1.1,((y7.1.1.1,y7.1.1.2),())),())).bind fun(y8:(((List ab)×Unit)×Unit)) =>
       (F 23 zp (((x.1.2.2.1.1,x.1.2.2.1.2),()),())).bind fun(y9:((ab×Unit)×Unit)) =>
       (F 24 qB ((y8.1.1,((y9.1.1.1,y9.1.1.2),())),())).bind fun(pW:((Int×Unit)×Unit)) =>
       (F 25 PX ((y2.1.1.1,(y3.1.1,(y4.1.1,()))),())).bind fun(lF:((Bool×Unit)×Unit)) =>
       cond (not (decide (pW.1.1≥(0:Int))))
        (cond lF.1.1
         (cond y1.1.1
          (some (((y6.1.2.1==(15:Int)),()),()))
          (some ((false,()),())))
         (cond (y6.1.2.1 != (0:Int))
          (some ((false,()),()))
          ((F 18 kQ ((y6.1.1.1,(y3.1.1,())),())).bind fun(nk:((ag×(Bool×Unit))×Unit)) =>
          (F 18 kQ ((y6.1.1.1,(y4.1.1,())),())).bind fun(ln:((ag×(Bool×Unit))×Unit)) =>
          (F 26 zq ((nk.1.1.2.1,((((8:Int),(1048576:Int)),(0:Int)),())),())).bind fun(wF:((ab×(Bool×Unit))×Unit)) =>
          (F 26 zq ((ln.1.1.2.1,((((8:Int),(1048576:Int)),(1:Int)),())),())).bind fun(qu:((ab×(Bool×Unit))×Unit)) =>
          (F 14 zo (((y6.1.1.1,y6.1.1.2),(((4:Int),(((8:Int),(1048576:Int)),(((0:Int),(0:Int)),(((0:Int),(0:Int)),((((0:Int),(0:Int)),(((0:Int),(0:Int)),(0:Int))),((((0:Int),(0:Int)),(((0:Int),(0:Int)),(0:Int))),(false,((⟨#[]⟩:ByteArray),(0:Int))))))))),())),())).bind fun(Lu:((StateT×(Int×Unit))×Unit)) =>
          (F 27 xh ((Lu.1.1.1,(y2.1.1.1,())),())).bind fun(Nw:((Bool×Unit)×Unit)) =>
          cond y1.1.1
           (cond (((wF.1.1.1.1==x.1.2.1.1.1)&&(wF.1.1.1.2==x.1.2.1.1.2))&&(wF.1.1.2==x.1.2.1.2))
            (cond (((qu.1.1.1.1==x.1.2.2.1.1.1)&&(qu.1.1.1.2==x.1.2.2.1.1.2))&&(qu.1.1.2==x.1.2.2.1.2))
             (cond (Lu.1.2.1==(0:Int))
              (some (Nw.1,()))
              (some ((false,()),())))
             (some ((false,()),())))
            (some ((false,()),())))
           (some ((false,()),())))))
        (cond (y6.1.2.1 != (0:Int))
         (some ((false,()),()))
         ((F 18 kQ ((y6.1.1.1,(y3.1.1,())),())).bind fun(VB:((ag×(Bool×Unit))×Unit)) =>
         (F 18 kQ ((y6.1.1.1,(y4.1.1,())),())).bind fun(SY:((ag×(Bool×Unit))×Unit)) =>
         (F 26 zq ((VB.1.1.2.1,((((8:Int),(1048576:Int)),(0:Int)),())),())).bind fun(Dz:((ab×(Bool×Unit))×Unit)) =>
         (F 26 zq ((SY.1.1.2.1,((((8:Int),(1048576:Int)),(1:Int)),())),())).bind fun(TU:((ab×(Bool×Unit))×Unit)) =>
         (F 14 zo (((y6.1.1.1,y6.1.1.2),(((4:Int),(((8:Int),(1048576:Int)),(((0:Int),(0:Int)),(((0:Int),(0:Int)),((((0:Int),(0:Int)),(((0:Int),(0:Int)),(0:Int))),((((0:Int),(0:Int)),(((0:Int),(0:Int)),(0:Int))),(false,((⟨#[]⟩:ByteArray),(0:Int))))))))),())),())).bind fun(VC:((StateT×(Int×Unit))×Unit)) =>
         (F 27 xh ((VC.1.1.1,(y2.1.1.1,())),())).bind fun(y23:((Bool×Unit)×Unit)) =>
         cond y1.1.1
          (cond (((Dz.1.1.1.1==x.1.2.1.1.1)&&(Dz.1.1.1.2==x.1.2.1.1.2))&&(Dz.1.1.2==x.1.2.1.2))
           (cond (((TU.1.1.1.1==x.1.2.2.1.1.1)&&(TU.1.1.1.2==x.1.2.2.1.1.2))&&(TU.1.1.2==x.1.2.2.1.2))
            (cond (VC.1.2.1==(0:Int))
             (some (y23.1,()))
             (some ((false,()),())))
            (some ((false,()),())))
           (some ((false,()),())))
          (some ((false,()),()))))))))):=by kernel_rfl
end Go.Vs
set_option maxRecDepth 1000000
set_option maxHeartbeats 0
namespace Go.Vs
open Go.Proofs
theorem aeP(F:FT)(J:JT PV)(x:aca):cp 12 PV Tryz.f12 F J x =
  (F 33 PZ ((),())).bind fun(y1:((StateT×Unit)×Unit)) =>
  (F 42 P2 (((1:Int),()),())).bind fun(y2:(((List bL)×Unit)×Unit)) =>
  (F 30 PY (((y1.1.1.1,y1.1.1.2),y2.1),())).bind fun(y3:((StateT×(Int×Unit))×Unit)) =>
  (F 14 zo (((y3.1.1.1,y3.1.1.2),(((2:Int),(((1:Int),(1:Int)),(((0:Int),(0:Int)),(((0:Int),(0:Int)),((((0:Int),(0:Int)),(((0:Int),(0:Int)),(0:Int))),((((0:Int),(0:Int)),(((0:Int),(0:Int)),(0:Int))),(false,((⟨#[]⟩:ByteArray),(0:Int))))))))),())),())).bind fun(y4:((StateT×(Int×Unit))×Unit)) =>
  cond ((((List.length y3.1.1.1.1):Nat):Int)==(1:Int))
   (cond (y3.1.2.1==(0:Int))
    (cond ((((List.length y4.1.1.1.1):Nat):Int)==(0:Int))
     (some (((y4.1.2.1==(0:Int)),()),()))
     (some ((false,()),())))
    (some ((false,()),())))
   (some ((false,()),())):=by kernel_rfl
theorem ZJ(F:FT)(J:JT zo)(x:ab3):cp 14 zo Tryz.f14 F J x =
  (F 43 Dv (((x.1.2.1.1,(x.1.2.1.2.1,(x.1.2.1.2.2.1,(x.1.2.1.2.2.2.1,((x.1.2.1.2.2.2.2.1.1,(x.1.2.1.2.2.2.2.1.2.1,x.1.2.1.2.2.2.2.1.2.2)),((x.1.2.1.2.2.2.2.2.1.1,(x.1.2.1.2.2.2.2.2.1.2.1,x.1.2.1.2.2.2.2.2.1.2.2)),(x.1.2.1.2.2.2.2.2.2.1,x.1.2.1.2.2.2.2.2.2.2))))))),()),())).bind fun(y1:((Int×Unit)×Unit)) =>
  cond (y1.1.1 != (0:Int))
   (some ((((([]:List ag),([]:List ah)),([]:List aq)),y1.1),()))
   ((F 44 HH (((x.1.1.1,x.1.1.2),(((x.1.2.1.1,(x.1.2.1.2.1,(x.1.2.1.2.2.1,(x.1.2.1.2.2.2.1,((x.1.2.1.2.2.2.2.1.1,(x.1.2.1.2.2.2.2.1.2.1,x.1.2.1.2.2.2.2.1.2.2)),((x.1.2.1.2.2.2.2.2.1.1,(x.1.2.1.2.2.2.2.2.1.2.1,x.1.2.1.2.2.2.2.2.1.2.2)),(x.1.2.1.2.2.2.2.2.2.1,x.1.2.1.2.2.2.2.2.2.2)))))))::([]:List bL)),())),())).bind fun(y2:((StateT×(Int×Unit))×Unit)) =>
   some (((y2.1.1.1,y2.1.1.2),y2.1.2),())):=by kernel_rfl
end Go.Vs
