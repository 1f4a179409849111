/- Normal forms of the program's functions, the first part. -/
import Derived.Test.YtpldhjjpeldkaaaGreatEngineD
import Derived.KernelRfl
set_option linter.unusedVariables false
set_option maxRecDepth 1000000
set_option maxHeartbeats 0
namespace Go.Vs
open Go.Proofs
theorem nf3(F:FT)(J:JT Wm)(x:((StateT×(bY×Unit))×Unit)):bW 3 Wm Tryz.f3 F J x =
  (F 12 NZ ((),())).bind fun (y1:((Bool×Unit)×Unit)) =>
  (F 13 D9 (((x.1.1.1,x.1.1.2),()),())).bind fun (y2:((Bool×Unit)×Unit)) =>
  cond (not y2.1.1)
   (some (y1.1,()))
   ((F 14 Ea (((x.1.1.1,x.1.1.2),((x.1.2.1.1,(x.1.2.1.2.1,(x.1.2.1.2.2.1,(x.1.2.1.2.2.2.1,((x.1.2.1.2.2.2.2.1.1,(x.1.2.1.2.2.2.2.1.2.1,x.1.2.1.2.2.2.2.1.2.2)),((x.1.2.1.2.2.2.2.2.1.1,(x.1.2.1.2.2.2.2.2.1.2.1,x.1.2.1.2.2.2.2.2.1.2.2)),(x.1.2.1.2.2.2.2.2.2.1,x.1.2.1.2.2.2.2.2.2.2))))))),())),())).bind fun (y3:((StateT×(Int×Unit))×Unit)) =>
   (F 15 N0 (((x.1.1.1,x.1.1.2),((x.1.2.1.1,(x.1.2.1.2.1,(x.1.2.1.2.2.1,(x.1.2.1.2.2.2.1,((x.1.2.1.2.2.2.2.1.1,(x.1.2.1.2.2.2.2.1.2.1,x.1.2.1.2.2.2.2.1.2.2)),((x.1.2.1.2.2.2.2.2.1.1,(x.1.2.1.2.2.2.2.2.1.2.1,x.1.2.1.2.2.2.2.2.1.2.2)),(x.1.2.1.2.2.2.2.2.2.1,x.1.2.1.2.2.2.2.2.2.2))))))),())),())).bind fun (y4:((StateT×(Int×Unit))×Unit)) =>
   (F 16 N1 (((y3.1.1.1,y3.1.1.2),((y4.1.1.1,y4.1.1.2),())),())).bind fun (y5:((Bool×Unit)×Unit)) =>
   cond y1.1.1
    (cond y5.1.1
     (some (((y3.1.2.1==y4.1.2.1),()),()))
     (some ((false,()),())))
    (some ((false,()),()))):=by kernel_rfl
end Go.Vs
set_option maxRecDepth 1000000
set_option maxHeartbeats 0
namespace Go.Vs
open Go.Proofs
theorem acs(F:FT)(J:JT NZ)(x:(Unit×Unit)):bW 12 NZ Tryz.f12 F J x =
  (F 33 N3 ((),())).bind fun (y1:((StateT×Unit)×Unit)) =>
  (F 42 N4 (((1:Int),()),())).bind fun (y2:(((List bY)×Unit)×Unit)) =>
  (F 30 N2 (((y1.1.1.1,y1.1.1.2),y2.1),())).bind fun (y3:((StateT×(Int×Unit))×Unit)) =>
  (F 14 Ea (((y3.1.1.1,y3.1.1.2),(((2:Int),(((1:Int),(1:Int)),(((0:Int),(0:Int)),(((0:Int),(0:Int)),((((0:Int),(0:Int)),(((0:Int),(0:Int)),(0:Int))),((((0:Int),(0:Int)),(((0:Int),(0:Int)),(0:Int))),(false,((⟨#[]⟩:ByteArray),(0:Int))))))))),())),())).bind fun (y4:((StateT×(Int×Unit))×Unit)) =>
  cond ((((List.length y3.1.1.1.1):Nat):Int)==(1:Int))
   (cond (y3.1.2.1==(0:Int))
    (cond ((((List.length y4.1.1.1.1):Nat):Int)==(0:Int))
     (some (((y4.1.2.1==(0:Int)),()),()))
     (some ((false,()),())))
    (some ((false,()),())))
   (some ((false,()),())):=by kernel_rfl
theorem acu(F:FT)(J:JT D9)(x:((StateT×Unit)×Unit)):bW 13 D9 Tryz.f13 F J x =
  (F 39 B5 ((x.1.1.2,()),())).bind fun (y1:((Bool×Unit)×Unit)) =>
  cond y1.1.1
   ((F 40 Eb ((x.1.1.1,()),())).bind fun (y2:((Int×Unit)×Unit)) =>
   some (((y2.1.1==(0:Int)),()),()))
   (some ((false,()),())):=by kernel_rfl
theorem XB(F:FT)(J:JT Ea)(x:((StateT×(bY×Unit))×Unit)):bW 14 Ea Tryz.f14 F J x =
  (F 43 B6 (((x.1.2.1.1,(x.1.2.1.2.1,(x.1.2.1.2.2.1,(x.1.2.1.2.2.2.1,((x.1.2.1.2.2.2.2.1.1,(x.1.2.1.2.2.2.2.1.2.1,x.1.2.1.2.2.2.2.1.2.2)),((x.1.2.1.2.2.2.2.2.1.1,(x.1.2.1.2.2.2.2.2.1.2.1,x.1.2.1.2.2.2.2.2.1.2.2)),(x.1.2.1.2.2.2.2.2.2.1,x.1.2.1.2.2.2.2.2.2.2))))))),()),())).bind fun (y1:((Int×Unit)×Unit)) =>
  cond (y1.1.1 != (0:Int))
   (some ((((([]:List ai),([]:List ah)),([]:List an)),y1.1),()))
   ((F 44 FZ (((x.1.1.1,x.1.1.2),(((x.1.2.1.1,(x.1.2.1.2.1,(x.1.2.1.2.2.1,(x.1.2.1.2.2.2.1,((x.1.2.1.2.2.2.2.1.1,(x.1.2.1.2.2.2.2.1.2.1,x.1.2.1.2.2.2.2.1.2.2)),((x.1.2.1.2.2.2.2.2.1.1,(x.1.2.1.2.2.2.2.2.1.2.1,x.1.2.1.2.2.2.2.2.1.2.2)),(x.1.2.1.2.2.2.2.2.2.1,x.1.2.1.2.2.2.2.2.2.2)))))))::([]:List bY)),())),())).bind fun (y2:((StateT×(Int×Unit))×Unit)) =>
   some (((y2.1.1.1,y2.1.1.2),y2.1.2),())):=by kernel_rfl
end Go.Vs
