/- Normal forms of the program's functions, the first part. -/
import Derived.Test.YtpldhjjpeldkaaaGreatEngineD
import Derived.KernelRfl
set_option linter.unusedVariables false
set_option maxRecDepth 1000000
set_option maxHeartbeats 0
namespace Go.Vs
open Go.Proofs
end Go.Vs
set_option maxRecDepth 1000000
set_option maxHeartbeats 0
namespace Go.Vs
open Go.Proofs
theorem adu(F:FT)(J:JT Oy)(x:(Unit×Unit)):cC 12 Oy Tryz.f12 F J x =
  (F 33 I2 ((),())).bind fun (y1:((StateT×Unit)×Unit)) =>
  (F 42 OC (((1:Int),()),())).bind fun (y2:(((List bW)×Unit)×Unit)) =>
  (F 30 Gk (((y1.1.1.1,y1.1.1.2),y2.1),())).bind fun (y3:((StateT×(Int×Unit))×Unit)) =>
  (F 14 L9 (((y3.1.1.1,y3.1.1.2),(((2:Int),(((1:Int),(1:Int)),(((0:Int),(0:Int)),(((0:Int),(0:Int)),((((0:Int),(0:Int)),(((0:Int),(0:Int)),(0:Int))),((((0:Int),(0:Int)),(((0:Int),(0:Int)),(0:Int))),(false,((⟨#[]⟩:ByteArray),(0:Int))))))))),())),())).bind fun (y4:((StateT×(Int×Unit))×Unit)) =>
  cond ((((List.length y3.1.1.1.1):Nat):Int)==(1:Int))
   (cond (y3.1.2.1==(0:Int))
    (cond ((((List.length y4.1.1.1.1):Nat):Int)==(0:Int))
     (some (((y4.1.2.1==(0:Int)),()),()))
     (some ((false,()),())))
    (some ((false,()),())))
   (some ((false,()),())):=by kernel_rfl
theorem adv(F:FT)(J:JT L9)(x:((StateT×(bW×Unit))×Unit)):cC 14 L9 Tryz.f14 F J x =
  (F 43 Cp (((x.1.2.1.1,(x.1.2.1.2.1,(x.1.2.1.2.2.1,(x.1.2.1.2.2.2.1,((x.1.2.1.2.2.2.2.1.1,(x.1.2.1.2.2.2.2.1.2.1,x.1.2.1.2.2.2.2.1.2.2)),((x.1.2.1.2.2.2.2.2.1.1,(x.1.2.1.2.2.2.2.2.1.2.1,x.1.2.1.2.2.2.2.2.1.2.2)),(x.1.2.1.2.2.2.2.2.2.1,x.1.2.1.2.2.2.2.2.2.2))))))),()),())).bind fun (y1:((Int×Unit)×Unit)) =>
  cond (y1.1.1 != (0:Int))
   (some ((((([]:List aj),([]:List au)),([]:List aM)),y1.1),()))
   ((F 44 Cq (((x.1.1.1,x.1.1.2),(((x.1.2.1.1,(x.1.2.1.2.1,(x.1.2.1.2.2.1,(x.1.2.1.2.2.2.1,((x.1.2.1.2.2.2.2.1.1,(x.1.2.1.2.2.2.2.1.2.1,x.1.2.1.2.2.2.2.1.2.2)),((x.1.2.1.2.2.2.2.2.1.1,(x.1.2.1.2.2.2.2.2.1.2.1,x.1.2.1.2.2.2.2.2.1.2.2)),(x.1.2.1.2.2.2.2.2.2.1,x.1.2.1.2.2.2.2.2.2.2)))))))::([]:List bW)),())),())).bind fun (y2:((StateT×(Int×Unit))×Unit)) =>
   some (((y2.1.1.1,y2.1.1.2),y2.1.2),())):=by kernel_rfl
end Go.Vs
