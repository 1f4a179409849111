/- Normal forms of the program's functions, the third part. -/
import Derived.Test.YtpldhjjpeldkaaaGreatEngineD
import Derived.KernelRfl
set_option linter.unusedVariables false
set_option maxRecDepth 1000000
set_option maxHeartbeats 0
namespace Go.Vs
open Go.Proofs
theorem Pd(F:FT)(J:JT kD)(x:((Int×Unit)×(((ai×Unit)×Unit)×Unit))):gQ 84 2 kD Tryz.f84 v7 F J x =
  cond (decide (x.1.1<(((List.length x.2.1.1.1.2):Nat):Int)))
   (J ti (aX Tryz.prog 84 3) ((x.1.1,((0:Int),())),(((x.2.1.1.1,()),()),())))
   (some ((true,()),())):=by kernel_rfl
theorem Pe(F:FT)(J:JT kD)(x:((Int×(Int×Unit))×(((ai×Unit)×Unit)×Unit))):gQ 84 3 kD Tryz.f84 ti F J x =
  cond (decide (x.1.2.1<(2:Int)))
   (((bh x.2.1.1.1.2 x.1.1)).bind fun (y8:au) =>
   (F 105 nw ((x.2.1.1.1,((y8.1,x.1.2.1),())),())).bind fun (y9:((Int×Unit)×Unit)) =>
   cond (y9.1.1 != (1:Int))
    (some ((false,()),()))
    (J ti (aX Tryz.prog 84 3) ((x.1.1,((IntKind.wrap .i64 (x.1.2.1+(1:Int))),())),(((x.2.1.1.1,()),()),()))))
   (J v7 (aX Tryz.prog 84 2) (((IntKind.wrap .i64 (x.1.1+(1:Int))),()),(((x.2.1.1.1,()),()),()))):=by kernel_rfl
theorem ad9(F:FT)(J:JT Gq)(x:((ai×Unit)×Unit)):cC 85 Gq Tryz.f85 F J x =
 (F 31 Gl ((x.1.1,()),())).bind fun (y1:(((List (List ae))×Unit)×Unit)) =>
 J wa (aX Tryz.prog 85 0) (((((List.length y1.1.1):Nat):Int),((0:Int),())),(((x.1.1,()),()),())):=by kernel_rfl
theorem Pf(F:FT)(J:JT Gq)(x:((Int×(Int×Unit))×(((ai×Unit)×Unit)×Unit))):gQ 85 0 Gq Tryz.f85 wa F J x =
  cond (decide (x.1.2.1<(((List.length x.2.1.1.1.1):Nat):Int)))
   (((bh x.2.1.1.1.1 x.1.2.1)).bind fun (y2:aj) =>
   cond ((((List.length y2.2.1):Nat):Int)==(0:Int))
    (J wa (aX Tryz.prog 85 0) (((IntKind.wrap .i64 (x.1.1+(1:Int))),((IntKind.wrap .i64 (x.1.2.1+(1:Int))),())),(((x.2.1.1.1,()),()),())))
    (J wa (aX Tryz.prog 85 0) ((x.1.1,((IntKind.wrap .i64 (x.1.2.1+(1:Int))),())),(((x.2.1.1.1,()),()),()))))
   ((F 32 Gm ((x.2.1.1.1,()),())).bind fun (y3:((Int×Unit)×Unit)) =>
   some (((((List.length x.2.1.1.1.1):Nat):Int),((((List.length x.2.1.1.1.2):Nat):Int),(x.1.1,y3.1))),())):=by kernel_rfl
theorem aea(F:FT)(J:JT qo)(x:((ID×Unit)×Unit)):cC 86 qo Tryz.f86 F J x =
  cond (decide (x.1.1.1≥(1:Int)))
   (cond (decide (x.1.1.1≤(8:Int)))
    (cond (decide (x.1.1.2≥(1:Int)))
     (some (((decide (x.1.1.2≤(1048576:Int))),()),()))
     (some ((false,()),())))
    (some ((false,()),())))
   (some ((false,()),())):=by kernel_rfl
theorem aeb(F:FT)(J:JT Cs)(x:((vf×Unit)×Unit)):cC 87 Cs Tryz.f87 F J x =
  (F 86 qo ((x.1.1.1,()),())).bind fun (y1:((Bool×Unit)×Unit)) =>
  cond y1.1.1
   (cond (((x.1.1.2.1.1==(0:Int))&&(x.1.1.2.1.2==(0:Int)))&&(x.1.1.2.2==(0:Int)))
    (some ((true,()),()))
    ((F 106 Gu (((x.1.1.2.1,x.1.1.2.2),()),())).bind fun (y2:((Bool×Unit)×Unit)) =>
    some (y2.1,())))
   (some ((false,()),())):=by kernel_rfl
theorem aec(F:FT)(J:JT vR)(x:((ByteArray×Unit)×Unit)):cC 88 vR Tryz.f88 F J x =
 J wb (aX Tryz.prog 88 0) (x.1,((),((x.1.1,0),()))):=by kernel_rfl
theorem Pg(F:FT)(J:JT vR)(x:((ByteArray×Unit)×(Unit×((ByteArray×Nat)×Unit)))):gQ 88 0 vR Tryz.f88 wb F J x =
  cond (decide (x.2.2.1.2<(ByteArray.size x.2.2.1.1)))
   (cond (decide ((n3 x.2.2.1.1 x.2.2.1.2)<(32:Int)))
    (some ((false,()),()))
    (cond (decide ((n3 x.2.2.1.1 x.2.2.1.2) > (126:Int)))
     (some ((false,()),()))
     (J wb (aX Tryz.prog 88 0) (x.1,((),((x.2.2.1.1,(x.2.2.1.2+(zd x.2.2.1.1 x.2.2.1.2))),()))))))
   (some (((decide ((((ByteArray.size x.1.1):Nat):Int)≤(16:Int))),()),())):=by kernel_rfl
theorem aed(F:FT)(J:JT Gr)(x:((Int×Unit)×Unit)):cC 89 Gr Tryz.f89 F J x =
  cond (decide (x.1.1≥(-1099511627776:Int)))
   (some (((decide (x.1.1≤(1099511627776:Int))),()),()))
   (some ((false,()),())):=by kernel_rfl
theorem aee(F:FT)(J:JT Gs)(x:((aj×Unit)×(aG×Unit))):cC 90 Gs Tryz.f90 F J x =
  (F 107 py ((x.1.1.1,()),((x.2.1.1,(x.2.1.2.1,x.2.1.2.2)),()))).bind fun (y1:((Int×(Bool×Unit))×(aG×Unit))) =>
  cond y1.1.2.1
   (some (((12:Int),()),((y1.2.1.1,(y1.2.1.2.1,y1.2.1.2.2)),())))
   (cond (decide ((((List.length y1.2.1.1):Nat):Int)≥(24:Int)))
    (some (((3:Int),()),((y1.2.1.1,(y1.2.1.2.1,y1.2.1.2.2)),())))
    (cond (pX y1.2.1.1 y1.1.1 ((x.1.1.1,(x.1.1.2.1,x.1.1.2.2))::([]:List aj)))
     (some (((0:Int),()),(((fL y1.2.1.1 y1.1.1 ((x.1.1.1,(x.1.1.2.1,x.1.1.2.2))::([]:List aj))),(y1.2.1.2.1,y1.2.1.2.2)),())))
     (none))):=by kernel_rfl
theorem aef(F:FT)(J:JT OF)(x:((bW×Unit)×(aG×Unit))):cC 91 OF Tryz.f91 F J x =
  (F 107 py ((x.1.1.2.1,()),((x.2.1.1,(x.2.1.2.1,x.2.1.2.2)),()))).bind fun (y1:((Int×(Bool×Unit))×(aG×Unit))) =>
  cond (not y1.1.2.1)
   (some (((13:Int),()),((y1.2.1.1,(y1.2.1.2.1,y1.2.1.2.2)),())))
   (cond ((decide ((0:Int)≤y1.1.1))&&(decide (y1.1.1<(((List.length y1.2.1.1):Nat):Int))))
    (((y1.2.1.1)[(Int.toNat y1.1.1)]?).bind fun (y2:aj) =>
    cond (decide ((((List.length y2.2.1):Nat):Int) > (0:Int)))
     (some (((14:Int),()),((y1.2.1.1,(y1.2.1.2.1,y1.2.1.2.2)),())))
     (cond (jo y1.2.1.1 y1.1.1 (IntKind.wrap .i64 (y1.1.1+(1:Int))))
      (some (((0:Int),()),(((dg y1.2.1.1 y1.1.1 (IntKind.wrap .i64 (y1.1.1+(1:Int)))),(y1.2.1.2.1,y1.2.1.2.2)),())))
      (none)))
    (none)):=by kernel_rfl
theorem Vm(F:FT)(J:JT oJ)(x:((bW×Unit)×(aG×Unit))):cC 92 oJ Tryz.f92 F J x =
  cond (oI x.2.1.1 x.2.1.2.1)
   ((F 110 xG ((x.1.1.2.1,()),((x.2.1.1,(x.2.1.2.1,x.2.1.2.2)),()))).bind fun (y1:((Int×Unit)×(aG×Unit))) =>
   cond (y1.1.1 != (0:Int))
    (some (y1.1,((y1.2.1.1,(y1.2.1.2.1,y1.2.1.2.2)),())))
    ((F 111 Aw ((x.1.1.2.1,()),())).bind fun (y2:((ae×(ae×Unit))×Unit)) =>
    J ly (aX Tryz.prog 92 0) (((((List.length ((x.1.1.2.2.2.2.1.1,(x.1.1.2.2.2.2.1.2.1,x.1.1.2.2.2.2.1.2.2))::((x.1.1.2.2.2.2.2.1.1,(x.1.1.2.2.2.2.2.1.2.1,x.1.1.2.2.2.2.2.1.2.2))::([]:List vf)))):Nat):Int),((0:Int),())),(((y1.2.1.1,(y1.2.1.2.1,y1.2.1.2.2)),((((x.2.1.1,x.2.1.2.1),x.2.1.2.2.1),()),(((y2.1.1.1,y2.1.1.2),()),()))),(((y2.1.1.1,y2.1.1.2)::((y2.1.2.1.1,y2.1.2.1.2)::([]:List ae))),(((x.1.1.2.2.2.2.1.1,(x.1.1.2.2.2.2.1.2.1,x.1.1.2.2.2.2.1.2.2))::((x.1.1.2.2.2.2.2.1.1,(x.1.1.2.2.2.2.2.1.2.1,x.1.1.2.2.2.2.2.1.2.2))::([]:List vf))),()))))))
   (none):=by kernel_rfl
theorem we(F:FT)(J:JT oJ)(x:((Int×(Int×Unit))×((aG×((StateT×Unit)×((ae×Unit)×Unit)))×((List ae)×((List vf)×Unit))))):gQ 92 0 oJ Tryz.f92 ly F J x =
  cond (decide (x.1.2.1<x.1.1))
   (cond ((decide ((0:Int)≤x.1.2.1))&&(decide (x.1.2.1<(((List.length x.2.2.2.1):Nat):Int))))
    (((x.2.2.2.1)[(Int.toNat x.1.2.1)]?).bind fun (y3:vf) =>
    (F 112 Gv (((x.2.1.2.1.1.1,x.2.1.2.1.1.2),((y3.1,(y3.2.1,y3.2.2)),())),())).bind fun (y4:((vf×(Int×Unit))×Unit)) =>
    cond (y4.1.2.1 != (0:Int))
     (some (y4.1.2,((x.2.1.1.1,(x.2.1.1.2.1,x.2.1.1.2.2)),())))
     (cond (x.1.2.1==(1:Int))
      (cond (((y3.2.1.1==x.2.1.2.2.1.1.1.1)&&(y3.2.1.2==x.2.1.2.2.1.1.1.2))&&(y3.2.2==x.2.1.2.2.1.1.2))
       ((F 107 py ((y3.1,()),((x.2.1.1.1,(x.2.1.1.2.1,x.2.1.1.2.2)),()))).bind fun (y5:((Int×(Bool×Unit))×(aG×Unit))) =>
       cond ((decide ((0:Int)≤y5.1.1))&&(decide (y5.1.1<(((List.length y5.2.1.1):Nat):Int))))
        (((y5.2.1.1)[(Int.toNat y5.1.1)]?).bind fun (y6:aj) =>
        cond ((decide ((0:Int)≤x.1.2.1))&&(decide (x.1.2.1<(((List.length x.2.2.1):Nat):Int))))
         (((x.2.2.1)[(Int.toNat x.1.2.1)]?).bind fun (y7:ae) =>
         (F 113 Ax ((y6.2.1,((y3.2.1,y3.2.2),((y7.1,y7.2),()))),())).bind fun (y8:(((List ae)×Unit)×Unit)) =>
         ((y5.2.1.1)[(Int.toNat y5.1.1)]?).bind fun (y9:aj) =>
         J ly (aX Tryz.prog 92 0) ((x.1.1,((IntKind.wrap .i64 (x.1.2.1+(1:Int))),())),((((List.set y5.2.1.1 (Int.toNat y5.1.1) (y9.1,(y8.1.1,y9.2.2))),(y5.2.1.2.1,y5.2.1.2.2)),(((x.2.1.2.1.1.1,x.2.1.2.1.1.2),()),(((x.2.1.2.2.1.1.1,x.2.1.2.2.1.1.2),()),()))),(x.2.2.1,x.2.2.2))))
         (none))
        (none))
       ((F 107 py ((y4.1.1.1,()),((x.2.1.1.1,(x.2.1.1.2.1,x.2.1.1.2.2)),()))).bind fun (pQ:((Int×(Bool×Unit))×(aG×Unit))) =>
       cond ((decide ((0:Int)≤pQ.1.1))&&(decide (pQ.1.1<(((List.length pQ.2.1.1):Nat):Int))))
        (((pQ.2.1.1)[(Int.toNat pQ.1.1)]?).bind fun (mn:aj) =>
        cond ((decide ((0:Int)≤x.1.2.1))&&(decide (x.1.2.1<(((List.length x.2.2.1):Nat):Int))))
         (((x.2.2.1)[(Int.toNat x.1.2.1)]?).bind fun (pz:ae) =>
         (F 113 Ax ((mn.2.1,((y4.1.1.2.1,y4.1.1.2.2),((pz.1,pz.2),()))),())).bind fun (lA:(((List ae)×Unit)×Unit)) =>
         ((pQ.2.1.1)[(Int.toNat pQ.1.1)]?).bind fun (Dd:aj) =>
         J ly (aX Tryz.prog 92 0) ((x.1.1,((IntKind.wrap .i64 (x.1.2.1+(1:Int))),())),((((List.set pQ.2.1.1 (Int.toNat pQ.1.1) (Dd.1,(lA.1.1,Dd.2.2))),(pQ.2.1.2.1,pQ.2.1.2.2)),(((x.2.1.2.1.1.1,x.2.1.2.1.1.2),()),(((x.2.1.2.2.1.1.1,x.2.1.2.2.1.1.2),()),()))),(x.2.2.1,x.2.2.2))))
         (none))
        (none)))
      ((F 107 py ((y4.1.1.1,()),((x.2.1.1.1,(x.2.1.1.2.1,x.2.1.1.2.2)),()))).bind fun (uJ:((Int×(Bool×Unit))×(aG×Unit))) =>
      cond ((decide ((0:Int)≤uJ.1.1))&&(decide (uJ.1.1<(((List.length uJ.2.1.1):Nat):Int))))
       (((uJ.2.1.1)[(Int.toNat uJ.1.1)]?).bind fun (TT:aj) =>
       cond ((decide ((0:Int)≤x.1.2.1))&&(decide (x.1.2.1<(((List.length x.2.2.1):Nat):Int))))
        (((x.2.2.1)[(Int.toNat x.1.2.1)]?).bind fun (Vl:ae) =>
        (F 113 Ax ((TT.2.1,((y4.1.1.2.1,y4.1.1.2.2),((Vl.1,Vl.2),()))),())).bind fun (W9:(((List ae)×Unit)×Unit)) =>
        ((uJ.2.1.1)[(Int.toNat uJ.1.1)]?).bind fun (TU:aj) =>
        J ly (aX Tryz.prog 92 0) ((x.1.1,((IntKind.wrap .i64 (x.1.2.1+(1:Int))),())),((((List.set uJ.2.1.1 (Int.toNat uJ.1.1) (TU.1,(W9.1.1,TU.2.2))),(uJ.2.1.2.1,uJ.2.1.2.2)),(((x.2.1.2.1.1.1,x.2.1.2.1.1.2),()),(((x.2.1.2.2.1.1.1,x.2.1.2.2.1.1.2),()),()))),(x.2.2.1,x.2.2.2))))
        (none))
       (none))))
    (none))
   ((F 114 Ay (((x.2.1.1.1,x.2.1.1.2.1),()),())).bind fun (GL:((Bool×Unit)×Unit)) =>
   cond (not GL.1.1)
    (some (((15:Int),()),((x.2.1.1.1,(x.2.1.1.2.1,x.2.1.1.2.2)),())))
    (some (((0:Int),()),((x.2.1.1.1,(x.2.1.1.2.1,x.2.1.1.2.2)),())))):=by kernel_rfl
theorem Ys(F:FT)(J:JT Av)(x:((bW×Unit)×(aG×Unit))):cC 93 Av Tryz.f93 F J x =
  (F 115 ml ((x.1.1.2.1,()),((x.2.1.1,(x.2.1.2.1,x.2.1.2.2)),()))).bind fun (y1:((Int×(Bool×Unit))×(aG×Unit))) =>
  cond (not y1.1.2.1)
   (some (((13:Int),()),((y1.2.1.1,(y1.2.1.2.1,y1.2.1.2.2)),())))
   ((F 111 Aw ((x.1.1.2.1,()),())).bind fun (y2:((ae×(ae×Unit))×Unit)) =>
   J EC (aX Tryz.prog 93 0) ((y1.1.1,((((List.length ((y2.1.1.1,y2.1.1.2)::((y2.1.2.1.1,y2.1.2.1.2)::([]:List ae)))):Nat):Int),((0:Int),()))),(((y1.2.1.1,(y1.2.1.2.1,y1.2.1.2.2)),(((y2.1.1.1,y2.1.1.2),()),(((y2.1.2.1.1,y2.1.2.1.2),()),()))),(((y2.1.1.1,y2.1.1.2)::((y2.1.2.1.1,y2.1.2.1.2)::([]:List ae))),())))):=by kernel_rfl
theorem I5(F:FT)(J:JT Av)(x:((Int×(Int×(Int×Unit)))×((aG×((ae×Unit)×((ae×Unit)×Unit)))×((List ae)×Unit)))):gQ 93 0 Av Tryz.f93 EC F J x =
  cond (decide (x.1.2.2.1<x.1.2.1))
   (cond ((decide ((0:Int)≤x.1.2.2.1))&&(decide (x.1.2.2.1<(((List.length x.2.2.1):Nat):Int))))
    (((x.2.2.1)[(Int.toNat x.1.2.2.1)]?).bind fun (y3:ae) =>
    (F 117 AA (((y3.1,y3.2),()),((x.2.1.1.1,(x.2.1.1.2.1,x.2.1.1.2.2)),()))).bind fun (y4:((ae×Unit)×(aG×Unit))) =>
    (F 116 Az (((y3.1,y3.2),((y4.1.1.1,y4.1.1.2),())),((y4.2.1.1,(y4.2.1.2.1,y4.2.1.2.2)),()))).bind fun (y5:(Unit×(aG×Unit))) =>
    J EC (aX Tryz.prog 93 0) ((x.1.1,(x.1.2.1,((IntKind.wrap .i64 (x.1.2.2.1+(1:Int))),()))),(((y5.2.1.1,(y5.2.1.2.1,y5.2.1.2.2)),(((x.2.1.2.1.1.1,x.2.1.2.1.1.2),()),(((x.2.1.2.2.1.1.1,x.2.1.2.2.1.1.2),()),()))),x.2.2)))
    (none))
   (J wc (aX Tryz.prog 93 1) ((x.1.1,((((List.length ((x.2.1.2.1.1.1,x.2.1.2.1.1.2)::((x.2.1.2.2.1.1.1,x.2.1.2.2.1.1.2)::([]:List ae)))):Nat):Int),((0:Int),()))),(((x.2.1.1.1,(x.2.1.1.2.1,x.2.1.1.2.2)),()),(((x.2.1.2.1.1.1,x.2.1.2.1.1.2)::((x.2.1.2.2.1.1.1,x.2.1.2.2.1.1.2)::([]:List ae))),())))):=by kernel_rfl
theorem I6(F:FT)(J:JT Av)(x:((Int×(Int×(Int×Unit)))×((aG×Unit)×((List ae)×Unit)))):gQ 93 1 Av Tryz.f93 wc F J x =
  cond (decide (x.1.2.2.1<x.1.2.1))
   (cond ((decide ((0:Int)≤x.1.2.2.1))&&(decide (x.1.2.2.1<(((List.length x.2.2.1):Nat):Int))))
    (((x.2.2.1)[(Int.toNat x.1.2.2.1)]?).bind fun (y6:ae) =>
    (F 118 lu (((y6.1,y6.2),()),((x.2.1.1.1,(x.2.1.1.2.1,x.2.1.1.2.2)),()))).bind fun (y7:(((Option ((Fin 1)×Nat))×Unit)×(aG×Unit))) =>
    pW y7.1.1
     (none) fun (p8:((Fin 1)×Nat)) =>
    cond (p8.1.val==0)
     (((y7.2.1.1)[p8.2]?).bind fun (y9:aj) =>
     (F 119 Gx ((y9.2.1,((y6.1,y6.2),())),())).bind fun (pQ:(((List ae)×Unit)×Unit)) =>
     ((y7.2.1.1)[p8.2]?).bind fun (mn:aj) =>
     J wc (aX Tryz.prog 93 1) ((x.1.1,(x.1.2.1,((IntKind.wrap .i64 (x.1.2.2.1+(1:Int))),()))),((((List.set y7.2.1.1 p8.2 (mn.1,(pQ.1.1,mn.2.2))),(y7.2.1.2.1,y7.2.1.2.2)),()),x.2.2)))
     (none))
    (none))
   (cond (jo x.2.1.1.2.1 x.1.1 (IntKind.wrap .i64 (x.1.1+(1:Int))))
    (some (((0:Int),()),((x.2.1.1.1,((dg x.2.1.1.2.1 x.1.1 (IntKind.wrap .i64 (x.1.1+(1:Int)))),x.2.1.1.2.2)),())))
    (none)):=by kernel_rfl
theorem R8(F:FT)(J:JT yk)(x:((bW×Unit)×(aG×Unit))):cC 94 yk Tryz.f94 F J x =
  (F 115 ml ((x.1.1.2.1,()),((x.2.1.1,(x.2.1.2.1,x.2.1.2.2)),()))).bind fun (y1:((Int×(Bool×Unit))×(aG×Unit))) =>
  (F 107 py ((x.1.1.2.2.1,()),((y1.2.1.1,(y1.2.1.2.1,y1.2.1.2.2)),()))).bind fun (y2:((Int×(Bool×Unit))×(aG×Unit))) =>
  (F 115 ml ((x.1.1.2.2.2.1,()),((y2.2.1.1,(y2.2.1.2.1,y2.2.1.2.2)),()))).bind fun (y3:((Int×(Bool×Unit))×(aG×Unit))) =>
  cond (not y1.1.2.1)
   (some (((13:Int),()),((y3.2.1.1,(y3.2.1.2.1,y3.2.1.2.2)),())))
   (cond y2.1.2.1
    (some (((12:Int),()),((y3.2.1.1,(y3.2.1.2.1,y3.2.1.2.2)),())))
    (cond y3.1.2.1
     (some (((12:Int),()),((y3.2.1.1,(y3.2.1.2.1,y3.2.1.2.2)),())))
     (cond (decide ((1:Int)<(0:Int)))
      (none)
      ((F 118 lu (((x.1.1.2.1,(eI .xor .i64 (1:Int) (eI .and .i64 x.1.1.2.2.2.2.2.2.2.2 (1:Int)))),()),((y3.2.1.1,(y3.2.1.2.1,y3.2.1.2.2)),()))).bind fun (y4:(((Option ((Fin 1)×Nat))×Unit)×(aG×Unit))) =>
      pW y4.1.1
       (none) fun (p5:((Fin 1)×Nat)) =>
      cond (p5.1.val==0)
       (((y4.2.1.1)[p5.2]?).bind fun (y6:aj) =>
       (F 122 nC (((x.1.1.2.2.2.1,(kA .i64 x.1.1.2.2.2.2.2.2.2.2 (1:Int))),()),())).bind fun (y7:((ae×Unit)×Unit)) =>
       (F 121 ss ((y6.2.1,((x.1.1.2.1,(eI .xor .i64 (1:Int) (eI .and .i64 x.1.1.2.2.2.2.2.2.2.2 (1:Int)))),((y7.1.1.1,y7.1.1.2),()))),())).bind fun (y8:(((List ae)×Unit)×Unit)) =>
       ((y4.2.1.1)[p5.2]?).bind fun (y9:aj) =>
       (F 123 qq ((((x.1.1.2.1,(eI .xor .i64 (1:Int) (eI .and .i64 x.1.1.2.2.2.2.2.2.2.2 (1:Int))))::((x.1.1.2.2.2.1,(kA .i64 x.1.1.2.2.2.2.2.2.2.2 (1:Int)))::([]:List ae))),()),())).bind fun (pQ:(((List ae)×Unit)×Unit)) =>
       (F 90 Gs (((x.1.1.2.2.1,(pQ.1.1,((⟨#[]⟩:ByteArray),(0:Int)))),()),(((List.set y4.2.1.1 p5.2 (y9.1,(y8.1.1,y9.2.2))),(y4.2.1.2.1,y4.2.1.2.2)),()))).bind fun (mn:((Int×Unit)×(aG×Unit))) =>
       cond (mn.1.1 != (0:Int))
        (some (mn.1,((mn.2.1.1,(mn.2.1.2.1,mn.2.1.2.2)),())))
        ((F 110 xG ((x.1.1.2.2.2.1,()),((mn.2.1.1,(mn.2.1.2.1,mn.2.1.2.2)),()))).bind fun (pz:((Int×Unit)×(aG×Unit))) =>
        some (pz.1,((pz.2.1.1,(pz.2.1.2.1,pz.2.1.2.2)),()))))
       (none))))):=by kernel_rfl
theorem Yt(F:FT)(J:JT qp)(x:((bW×Unit)×(aG×Unit))):cC 95 qp Tryz.f95 F J x =
  (F 107 py ((x.1.1.2.1,()),((x.2.1.1,(x.2.1.2.1,x.2.1.2.2)),()))).bind fun (y1:((Int×(Bool×Unit))×(aG×Unit))) =>
  cond (not y1.1.2.1)
   (some (((13:Int),()),((y1.2.1.1,(y1.2.1.2.1,y1.2.1.2.2)),())))
   (cond ((decide ((0:Int)≤y1.1.1))&&(decide (y1.1.1<(((List.length y1.2.1.1):Nat):Int))))
    (((y1.2.1.1)[(Int.toNat y1.1.1)]?).bind fun (y2:aj) =>
    cond ((((List.length y2.2.1):Nat):Int) != (2:Int))
     (some (((14:Int),()),((y1.2.1.1,(y1.2.1.2.1,y1.2.1.2.2)),())))
     (((bh y2.2.1 (0:Int))).bind fun (y3:ae) =>
     ((bh y2.2.1 (1:Int))).bind fun (y4:ae) =>
     cond ((y3.1.1==y4.1.1)&&(y3.1.2==y4.1.2))
      (some (((14:Int),()),((y1.2.1.1,(y1.2.1.2.1,y1.2.1.2.2)),())))
      (((bh y2.2.1 (0:Int))).bind fun (y5:ae) =>
      ((bh y2.2.1 (1:Int))).bind fun (y6:ae) =>
      cond ((y5.1.1==x.1.1.2.2.2.1.1)&&(y5.1.2==x.1.1.2.2.2.1.2))
       (cond (not ((y5.1.1==x.1.1.2.2.2.1.1)&&(y5.1.2==x.1.1.2.2.2.1.2)))
        (some (((14:Int),()),((y1.2.1.1,(y1.2.1.2.1,y1.2.1.2.2)),())))
        ((F 122 nC (((y5.1,y5.2),()),())).bind fun (y7:((ae×Unit)×Unit)) =>
        cond (jo y1.2.1.1 y1.1.1 (IntKind.wrap .i64 (y1.1.1+(1:Int))))
         ((F 118 lu (((y7.1.1.1,y7.1.1.2),()),(((dg y1.2.1.1 y1.1.1 (IntKind.wrap .i64 (y1.1.1+(1:Int)))),(y1.2.1.2.1,y1.2.1.2.2)),()))).bind fun (y8:(((Option ((Fin 1)×Nat))×Unit)×(aG×Unit))) =>
         pW y8.1.1
          (none) fun (p9:((Fin 1)×Nat)) =>
         cond (p9.1.val==0)
          (((y8.2.1.1)[p9.2]?).bind fun (pQ:aj) =>
          (F 121 ss ((pQ.2.1,((y7.1.1.1,y7.1.1.2),((y6.1,y6.2),()))),())).bind fun (mn:(((List ae)×Unit)×Unit)) =>
          ((y8.2.1.1)[p9.2]?).bind fun (pz:aj) =>
          (F 115 ml ((y5.1,()),(((List.set y8.2.1.1 p9.2 (pz.1,(mn.1.1,pz.2.2))),(y8.2.1.2.1,y8.2.1.2.2)),()))).bind fun (lA:((Int×(Bool×Unit))×(aG×Unit))) =>
          cond (jo lA.2.1.2.1 lA.1.1 (IntKind.wrap .i64 (lA.1.1+(1:Int))))
           (J mQ (aX Tryz.prog 95 0) (((0:Int),()),(((lA.2.1.1,((dg lA.2.1.2.1 lA.1.1 (IntKind.wrap .i64 (lA.1.1+(1:Int)))),lA.2.1.2.2)),(((y6.1,y6.2),()),(((y5.1,y5.2),()),(((y7.1.1.1,y7.1.1.2),()),())))),())))
           (none))
          (none))
         (none)))
       (cond (not ((y6.1.1==x.1.1.2.2.2.1.1)&&(y6.1.2==x.1.1.2.2.2.1.2)))
        (some (((14:Int),()),((y1.2.1.1,(y1.2.1.2.1,y1.2.1.2.2)),())))
        ((F 122 nC (((y6.1,y6.2),()),())).bind fun (Dd:((ae×Unit)×Unit)) =>
        cond (jo y1.2.1.1 y1.1.1 (IntKind.wrap .i64 (y1.1.1+(1:Int))))
         ((F 118 lu (((Dd.1.1.1,Dd.1.1.2),()),(((dg y1.2.1.1 y1.1.1 (IntKind.wrap .i64 (y1.1.1+(1:Int)))),(y1.2.1.2.1,y1.2.1.2.2)),()))).bind fun (uJ:(((Option ((Fin 1)×Nat))×Unit)×(aG×Unit))) =>
         pW uJ.1.1
          (none) fun (p16:((Fin 1)×Nat)) =>
         cond (p16.1.val==0)
          (((uJ.2.1.1)[p16.2]?).bind fun (Vl:aj) =>
          (F 121 ss ((Vl.2.1,((Dd.1.1.1,Dd.1.1.2),((y5.1,y5.2),()))),())).bind fun (W9:(((List ae)×Unit)×Unit)) =>
          ((uJ.2.1.1)[p16.2]?).bind fun (TU:aj) =>
          (F 115 ml ((y6.1,()),(((List.set uJ.2.1.1 p16.2 (TU.1,(W9.1.1,TU.2.2))),(uJ.2.1.2.1,uJ.2.1.2.2)),()))).bind fun (GL:((Int×(Bool×Unit))×(aG×Unit))) =>
          cond (jo GL.2.1.2.1 GL.1.1 (IntKind.wrap .i64 (GL.1.1+(1:Int))))
           (J mQ (aX Tryz.prog 95 0) (((0:Int),()),(((GL.2.1.1,((dg GL.2.1.2.1 GL.1.1 (IntKind.wrap .i64 (GL.1.1+(1:Int)))),GL.2.1.2.2)),(((y5.1,y5.2),()),(((y6.1,y6.2),()),(((Dd.1.1.1,Dd.1.1.2),()),())))),())))
           (none))
          (none))
         (none))))))
    (none)):=by kernel_rfl
theorem wg(F:FT)(J:JT qp)(x:((Int×Unit)×((aG×((ae×Unit)×((ae×Unit)×((ae×Unit)×Unit))))×Unit))):gQ 95 0 qp Tryz.f95 mQ F J x =
  cond (decide (x.1.1<(2:Int)))
   (cond (x.2.1.2.2.1.1.2==x.1.1)
    ((F 116 Az (((x.2.1.2.2.1.1.1,x.2.1.2.2.1.1.2),((((0:Int),(0:Int)),(0:Int)),())),((x.2.1.1.1,(x.2.1.1.2.1,x.2.1.1.2.2)),()))).bind fun (Yq:(Unit×(aG×Unit))) =>
    J mQ (aX Tryz.prog 95 0) (((IntKind.wrap .i64 (x.1.1+(1:Int))),()),(((Yq.2.1.1,(Yq.2.1.2.1,Yq.2.1.2.2)),(((x.2.1.2.1.1.1,x.2.1.2.1.1.2),()),(((x.2.1.2.2.1.1.1,x.2.1.2.2.1.1.2),()),(((x.2.1.2.2.2.1.1.1,x.2.1.2.2.2.1.1.2),()),())))),())))
    ((F 116 Az (((x.2.1.2.2.2.1.1.1,x.2.1.2.2.2.1.1.2),((x.2.1.2.1.1.1,x.2.1.2.1.1.2),())),((x.2.1.1.1,(x.2.1.1.2.1,x.2.1.1.2.2)),()))).bind fun (Yr:(Unit×(aG×Unit))) =>
    J mQ (aX Tryz.prog 95 0) (((IntKind.wrap .i64 (x.1.1+(1:Int))),()),(((Yr.2.1.1,(Yr.2.1.2.1,Yr.2.1.2.2)),(((x.2.1.2.1.1.1,x.2.1.2.1.1.2),()),(((x.2.1.2.2.1.1.1,x.2.1.2.2.1.1.2),()),(((x.2.1.2.2.2.1.1.1,x.2.1.2.2.2.1.1.2),()),())))),()))))
   (some (((0:Int),()),((x.2.1.1.1,(x.2.1.1.2.1,x.2.1.1.2.2)),()))):=by kernel_rfl
theorem aeg(F:FT)(J:JT OG)(x:((bW×Unit)×(aG×Unit))):cC 96 OG Tryz.f96 F J x =
  (F 124 Gy (((x.1.1.1,(x.1.1.2.1,(x.1.1.2.2.1,(x.1.1.2.2.2.1,((x.1.1.2.2.2.2.1.1,(x.1.1.2.2.2.2.1.2.1,x.1.1.2.2.2.2.1.2.2)),((x.1.1.2.2.2.2.2.1.1,(x.1.1.2.2.2.2.2.1.2.1,x.1.1.2.2.2.2.2.1.2.2)),(x.1.1.2.2.2.2.2.2.1,x.1.1.2.2.2.2.2.2.2))))))),()),((x.2.1.1,(x.2.1.2.1,x.2.1.2.2)),()))).bind fun (y1:(((Option ((Fin 2)×Nat))×((Option ((Fin 2)×Nat))×Unit))×(aG×Unit))) =>
  pW y1.1.1
   (pW y1.1.2.1
    (some (((13:Int),()),((y1.2.1.1,(y1.2.1.2.1,y1.2.1.2.2)),()))) fun (p2:((Fin 2)×Nat)) =>
   cond (p2.1.val==0)
    (some (((13:Int),()),((y1.2.1.1,(y1.2.1.2.1,y1.2.1.2.2)),())))
    (cond (p2.1.val==1)
    (some (((13:Int),()),((y1.2.1.1,(y1.2.1.2.1,y1.2.1.2.2)),())))
    (none))) fun (p3:((Fin 2)×Nat)) =>
  cond (p3.1.val==0)
   (pW y1.1.2.1
    (cond (x.1.1.1==(7:Int))
     (((y1.2.1.1)[p3.2]?).bind fun (pQ:aj) =>
     some (((0:Int),()),(((List.set y1.2.1.1 p3.2 (pQ.1,(pQ.2.1,(x.1.1.2.2.2.2.2.2.2.1,pQ.2.2.2)))),(y1.2.1.2.1,y1.2.1.2.2)),())))
     (none)) fun (Xa:((Fin 2)×Nat)) =>
   cond (Xa.1.val==0)
    (cond (x.1.1.1==(7:Int))
     (((y1.2.1.1)[p3.2]?).bind fun (Dd:aj) =>
     some (((0:Int),()),(((List.set y1.2.1.1 p3.2 (Dd.1,(Dd.2.1,(x.1.1.2.2.2.2.2.2.2.1,Dd.2.2.2)))),(y1.2.1.2.1,y1.2.1.2.2)),())))
     (((y1.2.1.1)[Xa.2]?).bind fun (uJ:aj) =>
     some (((0:Int),()),(((List.set y1.2.1.1 Xa.2 (uJ.1,(uJ.2.1,(uJ.2.2.1,x.1.1.2.2.2.2.2.2.2.2)))),(y1.2.1.2.1,y1.2.1.2.2)),()))))
    (cond (Xa.1.val==1)
    (cond (x.1.1.1==(7:Int))
     (((y1.2.1.1)[p3.2]?).bind fun (pz:aj) =>
     some (((0:Int),()),(((List.set y1.2.1.1 p3.2 (pz.1,(pz.2.1,(x.1.1.2.2.2.2.2.2.2.1,pz.2.2.2)))),(y1.2.1.2.1,y1.2.1.2.2)),())))
     (((y1.2.1.2.1)[Xa.2]?).bind fun (lA:au) =>
     some (((0:Int),()),((y1.2.1.1,((List.set y1.2.1.2.1 Xa.2 (lA.1,(lA.2.1,x.1.1.2.2.2.2.2.2.2.2))),y1.2.1.2.2)),()))))
    (none)))
   (cond (p3.1.val==1)
   (pW y1.1.2.1
    (cond (x.1.1.1==(7:Int))
     (((y1.2.1.2.1)[p3.2]?).bind fun (y4:au) =>
     some (((0:Int),()),((y1.2.1.1,((List.set y1.2.1.2.1 p3.2 (y4.1,(x.1.1.2.2.2.2.2.2.2.1,y4.2.2))),y1.2.1.2.2)),())))
     (none)) fun (p5:((Fin 2)×Nat)) =>
   cond (p5.1.val==0)
    (cond (x.1.1.1==(7:Int))
     (((y1.2.1.2.1)[p3.2]?).bind fun (y8:au) =>
     some (((0:Int),()),((y1.2.1.1,((List.set y1.2.1.2.1 p3.2 (y8.1,(x.1.1.2.2.2.2.2.2.2.1,y8.2.2))),y1.2.1.2.2)),())))
     (((y1.2.1.1)[p5.2]?).bind fun (y9:aj) =>
     some (((0:Int),()),(((List.set y1.2.1.1 p5.2 (y9.1,(y9.2.1,(y9.2.2.1,x.1.1.2.2.2.2.2.2.2.2)))),(y1.2.1.2.1,y1.2.1.2.2)),()))))
    (cond (p5.1.val==1)
    (cond (x.1.1.1==(7:Int))
     (((y1.2.1.2.1)[p3.2]?).bind fun (y6:au) =>
     some (((0:Int),()),((y1.2.1.1,((List.set y1.2.1.2.1 p3.2 (y6.1,(x.1.1.2.2.2.2.2.2.2.1,y6.2.2))),y1.2.1.2.2)),())))
     (((y1.2.1.2.1)[p5.2]?).bind fun (y7:au) =>
     some (((0:Int),()),((y1.2.1.1,((List.set y1.2.1.2.1 p5.2 (y7.1,(y7.2.1,x.1.1.2.2.2.2.2.2.2.2))),y1.2.1.2.2)),()))))
    (none)))
   (none)):=by kernel_rfl
theorem Yu(F:FT)(J:JT Gt)(x:(((List ae)×(ae×Unit))×Unit)):cC 104 Gt Tryz.f104 F J x =
  (F 24 Aq ((x.1.1,((x.1.2.1.1,x.1.2.1.2),())),())).bind fun (y1:((Int×Unit)×Unit)) =>
  cond (decide (y1.1.1<(0:Int)))
   (some (((((0:Int),(0:Int)),(0:Int)),(false,())),()))
   (cond ((((List.length x.1.1):Nat):Int)==(0:Int))
    (none)
    (((bh x.1.1 (Int.tmod (IntKind.wrap .i64 (y1.1.1+(1:Int))) (((List.length x.1.1):Nat):Int)))).bind fun (y2:ae) =>
    some (((y2.1,y2.2),(true,())),()))):=by kernel_rfl
theorem Yv(F:FT)(J:JT nw)(x:((ai×(ae×Unit))×Unit)):cC 105 nw Tryz.f105 F J x =
 J rf (aX Tryz.prog 105 0) (((0:Int),((0:Int),())),(((x.1.1,()),(((x.1.2.1.1,x.1.2.1.2),()),())),())):=by kernel_rfl
theorem Kk(F:FT)(J:JT nw)(x:((Int×(Int×Unit))×(((ai×Unit)×((ae×Unit)×Unit))×Unit))):gQ 105 0 nw Tryz.f105 rf F J x =
  cond (decide (x.1.2.1<(((List.length x.2.1.1.1.1):Nat):Int)))
   (J oK (aX Tryz.prog 105 1) ((x.1.1,(x.1.2.1,((0:Int),()))),(((x.2.1.1.1,()),(((x.2.1.2.1.1.1,x.2.1.2.1.1.2),()),())),())))
   (some ((x.1.1,()),())):=by kernel_rfl
theorem Kl(F:FT)(J:JT nw)(x:((Int×(Int×(Int×Unit)))×(((ai×Unit)×((ae×Unit)×Unit))×Unit))):gQ 105 1 nw Tryz.f105 oK F J x =
  ((bh x.2.1.1.1.1 x.1.2.1)).bind fun (y1:aj) =>
  cond (decide (x.1.2.2.1<(((List.length y1.2.1):Nat):Int)))
   (((bh x.2.1.1.1.1 x.1.2.1)).bind fun (y2:aj) =>
   ((bh y2.2.1 x.1.2.2.1)).bind fun (y3:ae) =>
   cond (((y3.1.1==x.2.1.2.1.1.1.1)&&(y3.1.2==x.2.1.2.1.1.1.2))&&(y3.2==x.2.1.2.1.1.2))
    (J oK (aX Tryz.prog 105 1) (((IntKind.wrap .i64 (x.1.1+(1:Int))),(x.1.2.1,((IntKind.wrap .i64 (x.1.2.2.1+(1:Int))),()))),(((x.2.1.1.1,()),(((x.2.1.2.1.1.1,x.2.1.2.1.1.2),()),())),())))
    (J oK (aX Tryz.prog 105 1) ((x.1.1,(x.1.2.1,((IntKind.wrap .i64 (x.1.2.2.1+(1:Int))),()))),(((x.2.1.1.1,()),(((x.2.1.2.1.1.1,x.2.1.2.1.1.2),()),())),()))))
   (J rf (aX Tryz.prog 105 0) ((x.1.1,((IntKind.wrap .i64 (x.1.2.1+(1:Int))),())),(((x.2.1.1.1,()),(((x.2.1.2.1.1.1,x.2.1.2.1.1.2),()),())),()))):=by kernel_rfl
theorem Yw(F:FT)(J:JT Gu)(x:((ae×Unit)×Unit)):cC 106 Gu Tryz.f106 F J x =
  (F 86 qo ((x.1.1.1,()),())).bind fun (y1:((Bool×Unit)×Unit)) =>
  cond y1.1.1
   (some ((((eI .andNot .i64 x.1.1.2 (1:Int))==(0:Int)),()),()))
   (some ((false,()),())):=by kernel_rfl
theorem Yx(F:FT)(J:JT py)(x:((ID×Unit)×(aG×Unit))):cC 107 py Tryz.f107 F J x =
 (F 127125 iW ((x.2.1.1,(x.1.1,())),())).bind fun (y1:((Int×(Bool×Unit))×Unit)) =>
 some ((y1.1.1,y1.1.2),((x.2.1.1,(x.2.1.2.1,x.2.1.2.2)),())):=by kernel_rfl
theorem Yy(F:FT)(J:JT xG)(x:((ID×Unit)×(aG×Unit))):cC 110 xG Tryz.f110 F J x =
  (F 115 ml ((x.1.1,()),((x.2.1.1,(x.2.1.2.1,x.2.1.2.2)),()))).bind fun (y1:((Int×(Bool×Unit))×(aG×Unit))) =>
  cond y1.1.2.1
   (some (((12:Int),()),((y1.2.1.1,(y1.2.1.2.1,y1.2.1.2.2)),())))
   (cond (decide ((((List.length y1.2.1.2.1):Nat):Int)≥(40:Int)))
    (some (((3:Int),()),((y1.2.1.1,(y1.2.1.2.1,y1.2.1.2.2)),())))
    (cond (pX y1.2.1.2.1 y1.1.1 ((x.1.1,((⟨#[]⟩:ByteArray),(0:Int)))::([]:List au)))
     (some (((0:Int),()),((y1.2.1.1,((fL y1.2.1.2.1 y1.1.1 ((x.1.1,((⟨#[]⟩:ByteArray),(0:Int)))::([]:List au))),y1.2.1.2.2)),())))
     (none))):=by kernel_rfl
theorem TV(F:FT)(J:JT Aw)(x:((ID×Unit)×Unit)):cC 111 Aw Tryz.f111 F J x =
 some (((x.1.1,(0:Int)),((x.1.1,(1:Int)),())),()):=by kernel_rfl
theorem Yz(F:FT)(J:JT Gv)(x:((StateT×(vf×Unit))×Unit)):cC 112 Gv Tryz.f112 F J x =
  (F 131 Gz ((x.1.1.1,(x.1.2.1.1,())),())).bind fun (y1:((aj×(Bool×Unit))×Unit)) =>
  cond (not y1.1.2.1)
   (some (((((0:Int),(0:Int)),(((0:Int),(0:Int)),(0:Int))),((13:Int),())),()))
   ((F 132 xH (((x.1.1.1,x.1.1.2),((x.1.2.1.2.1,x.1.2.1.2.2),())),())).bind fun (y2:((ae×Unit)×Unit)) =>
   (F 133 uq ((y1.1.1.2.1,((y2.1.1.1,y2.1.1.2),())),())).bind fun (y3:((Bool×Unit)×Unit)) =>
   cond (not y3.1.1)
    (some (((x.1.2.1.1,(((0:Int),(0:Int)),(0:Int))),((0:Int),())),()))
    (some (((x.1.2.1.1,(y2.1.1.1,y2.1.1.2)),((0:Int),())),()))):=by kernel_rfl
theorem YA(F:FT)(J:JT Ax)(x:(((List ae)×(ae×(ae×Unit)))×Unit)):cC 113 Ax Tryz.f113 F J x =
  (F 133 uq ((x.1.1,((x.1.2.2.1.1,x.1.2.2.1.2),())),())).bind fun (y1:((Bool×Unit)×Unit)) =>
  cond y1.1.1
   ((F 123 qq ((x.1.1,()),())).bind fun (y2:(((List ae)×Unit)×Unit)) =>
   some (y2.1,()))
   ((F 134 lx ((x.1.1,((x.1.2.1.1,x.1.2.1.2),())),())).bind fun (y3:((Int×Unit)×Unit)) =>
   cond (aT (List.length x.1.1) (0:Int) (min (IntKind.wrap .i64 ((max y3.1.1 (0:Int):Int)+(1:Int))) (((List.length x.1.1):Nat):Int):Int))
    (cond (aT (List.length x.1.1) (min (IntKind.wrap .i64 ((max y3.1.1 (0:Int):Int)+(1:Int))) (((List.length x.1.1):Nat):Int):Int) (((List.length x.1.1):Nat):Int))
     ((F 135 nD ((((cut x.1.1 (0:Int) (min (IntKind.wrap .i64 ((max y3.1.1 (0:Int):Int)+(1:Int))) (((List.length x.1.1):Nat):Int):Int))::(((x.1.2.2.1.1,x.1.2.2.1.2)::([]:List ae))::((cut x.1.1 (min (IntKind.wrap .i64 ((max y3.1.1 (0:Int):Int)+(1:Int))) (((List.length x.1.1):Nat):Int):Int) (((List.length x.1.1):Nat):Int))::([]:List (List ae))))),()),())).bind fun (y4:(((List ae)×Unit)×Unit)) =>
     some (y4.1,()))
     (none))
    (none)):=by kernel_rfl
theorem YB(F:FT)(J:JT Ay)(x:((ai×Unit)×Unit)):cC 114 Ay Tryz.f114 F J x =
 (F 136 GA ((x.1.1,()),())).bind fun (y1:((Int×Unit)×Unit)) =>
 some (((y1.1.1==(0:Int)),()),()):=by kernel_rfl
theorem YC(F:FT)(J:JT ml)(x:((ID×Unit)×(aG×Unit))):cC 115 ml Tryz.f115 F J x =
 (F 139137 iX ((x.2.1.2.1,(x.1.1,())),())).bind fun (y1:((Int×(Bool×Unit))×Unit)) =>
 some ((y1.1.1,y1.1.2),((x.2.1.1,(x.2.1.2.1,x.2.1.2.2)),())):=by kernel_rfl
theorem YD(F:FT)(J:JT Az)(x:((ae×(ae×Unit))×(aG×Unit))):cC 116 Az Tryz.f116 F J x =
 (F 139 GB ((x.2.1.2.2.1,(((x.1.1.1,x.1.1.2),(x.1.2.1.1,x.1.2.1.2)),())),())).bind fun (y1:(((List aM)×Unit)×Unit)) =>
 some ((),((x.2.1.1,(x.2.1.2.1,y1.1)),())):=by kernel_rfl
theorem YE(F:FT)(J:JT AA)(x:((ae×Unit)×(aG×Unit))):cC 117 AA Tryz.f117 F J x =
 J yK (aX Tryz.prog 117 0) (((0:Int),()),(((x.2.1.1,(x.2.1.2.1,x.2.1.2.2)),(((x.1.1.1,x.1.1.2),()),(((((0:Int),(0:Int)),(0:Int)),()),(((x.1.1.1,x.1.1.2),()),())))),())):=by kernel_rfl
theorem EG(F:FT)(J:JT AA)(x:((Int×Unit)×((aG×((ae×Unit)×((ae×Unit)×((ae×Unit)×Unit))))×Unit))):gQ 117 0 AA Tryz.f117 yK F J x =
  cond (decide (x.1.1<(2:Int)))
   ((F 118 lu (((x.2.1.2.1.1.1,x.2.1.2.1.1.2),()),((x.2.1.1.1,(x.2.1.1.2.1,x.2.1.1.2.2)),()))).bind fun (y1:(((Option ((Fin 1)×Nat))×Unit)×(aG×Unit))) =>
   pW y1.1.1
    (none) fun (p2:((Fin 1)×Nat)) =>
   cond (p2.1.val==0)
    (((y1.2.1.1)[p2.2]?).bind fun (y3:aj) =>
    (F 140 C9 ((y3.2.1,((x.2.1.2.2.2.1.1.1,x.2.1.2.2.2.1.1.2),())),())).bind fun (y4:((ae×(Bool×Unit))×Unit)) =>
    cond (not ((y4.1.1.1.1==x.2.1.2.1.1.1.1)&&(y4.1.1.1.2==x.2.1.2.1.1.1.2)))
     (some (((y4.1.1.1,y4.1.1.2),()),((y1.2.1.1,(y1.2.1.2.1,y1.2.1.2.2)),())))
     (J yK (aX Tryz.prog 117 0) (((IntKind.wrap .i64 (x.1.1+(1:Int))),()),(((y1.2.1.1,(y1.2.1.2.1,y1.2.1.2.2)),(((x.2.1.2.1.1.1,x.2.1.2.1.1.2),()),(((x.2.1.2.2.1.1.1,x.2.1.2.2.1.1.2),()),(((y4.1.1.1,y4.1.1.2),()),())))),()))))
    (none))
   (some (((((0:Int),(0:Int)),(0:Int)),()),((x.2.1.1.1,(x.2.1.1.2.1,x.2.1.1.2.2)),()))):=by kernel_rfl
theorem YF(F:FT)(J:JT lu)(x:((ae×Unit)×(aG×Unit))):cC 118 lu Tryz.f118 F J x =
 J uz (aX Tryz.prog 118 0) (((((List.length x.2.1.1):Nat):Int),((0:Int),())),(((x.2.1.1,(x.2.1.2.1,x.2.1.2.2)),(((x.1.1.1,x.1.1.2),()),())),())):=by kernel_rfl
theorem Km(F:FT)(J:JT lu)(x:((Int×(Int×Unit))×((aG×((ae×Unit)×Unit))×Unit))):gQ 118 0 lu Tryz.f118 uz F J x =
  cond (decide (x.1.2.1<x.1.1))
   (cond ((decide ((0:Int)≤x.1.2.1))&&(decide (x.1.2.1<(((List.length x.2.1.1.1):Nat):Int))))
    (((x.2.1.1.1)[(Int.toNat x.1.2.1)]?).bind fun (y1:aj) =>
    (F 133 uq ((y1.2.1,((x.2.1.2.1.1.1,x.2.1.2.1.1.2),())),())).bind fun (y2:((Bool×Unit)×Unit)) =>
    cond y2.1.1
     (some (((some ((⟨0,by decide⟩:(Fin 1)),(Int.toNat x.1.2.1))),()),((x.2.1.1.1,(x.2.1.1.2.1,x.2.1.1.2.2)),())))
     (J uz (aX Tryz.prog 118 0) ((x.1.1,((IntKind.wrap .i64 (x.1.2.1+(1:Int))),())),(((x.2.1.1.1,(x.2.1.1.2.1,x.2.1.1.2.2)),(((x.2.1.2.1.1.1,x.2.1.2.1.1.2),()),())),()))))
    (none))
   (some ((none,()),((x.2.1.1.1,(x.2.1.1.2.1,x.2.1.1.2.2)),()))):=by kernel_rfl
theorem YG(F:FT)(J:JT Gx)(x:(((List ae)×(ae×Unit))×Unit)):cC 119 Gx Tryz.f119 F J x =
  (F 134 lx ((x.1.1,((x.1.2.1.1,x.1.2.1.2),())),())).bind fun (y1:((Int×Unit)×Unit)) =>
  cond (decide (y1.1.1<(0:Int)))
   ((F 123 qq ((x.1.1,()),())).bind fun (y2:(((List ae)×Unit)×Unit)) =>
   some (y2.1,()))
   (cond (aT (List.length x.1.1) (0:Int) y1.1.1)
    (cond (aT (List.length x.1.1) (IntKind.wrap .i64 (y1.1.1+(1:Int))) (((List.length x.1.1):Nat):Int))
     ((F 135 nD ((((cut x.1.1 (0:Int) y1.1.1)::((cut x.1.1 (IntKind.wrap .i64 (y1.1.1+(1:Int))) (((List.length x.1.1):Nat):Int))::([]:List (List ae)))),()),())).bind fun (y3:(((List ae)×Unit)×Unit)) =>
     some (y3.1,()))
     (none))
    (none)):=by kernel_rfl
theorem YH(F:FT)(J:JT ss)(x:(((List ae)×(ae×(ae×Unit)))×Unit)):cC 121 ss Tryz.f121 F J x =
  (F 134 lx ((x.1.1,((x.1.2.1.1,x.1.2.1.2),())),())).bind fun (y1:((Int×Unit)×Unit)) =>
  cond (decide (y1.1.1<(0:Int)))
   ((F 123 qq ((x.1.1,()),())).bind fun (y2:(((List ae)×Unit)×Unit)) =>
   some (y2.1,()))
   ((F 133 uq ((x.1.1,((x.1.2.2.1.1,x.1.2.2.1.2),())),())).bind fun (y3:((Bool×Unit)×Unit)) =>
   cond y3.1.1
    ((F 123 qq ((x.1.1,()),())).bind fun (y4:(((List ae)×Unit)×Unit)) =>
    some (y4.1,()))
    (cond (aT (List.length x.1.1) (0:Int) y1.1.1)
     (cond (aT (List.length x.1.1) (IntKind.wrap .i64 (y1.1.1+(1:Int))) (((List.length x.1.1):Nat):Int))
      ((F 135 nD ((((cut x.1.1 (0:Int) y1.1.1)::(((x.1.2.2.1.1,x.1.2.2.1.2)::([]:List ae))::((cut x.1.1 (IntKind.wrap .i64 (y1.1.1+(1:Int))) (((List.length x.1.1):Nat):Int))::([]:List (List ae))))),()),())).bind fun (y5:(((List ae)×Unit)×Unit)) =>
      some (y5.1,()))
      (none))
     (none))):=by kernel_rfl
theorem YI(F:FT)(J:JT nC)(x:((ae×Unit)×Unit)):cC 122 nC Tryz.f122 F J x =
 some (((x.1.1.1,(eI .xor .i64 x.1.1.2 (1:Int))),()),()):=by kernel_rfl
theorem YJ(F:FT)(J:JT qq)(x:(((List ae)×Unit)×Unit)):cC 123 qq Tryz.f123 F J x =
  cond ((((List.length x.1.1):Nat):Int)==(0:Int))
   (some ((([]:List ae),()),()))
   ((F 143141 j8 (x.1,())).bind fun (y1:((ae×Unit)×Unit)) =>
   (F 134 lx ((x.1.1,((y1.1.1.1,y1.1.1.2),())),())).bind fun (y2:((Int×Unit)×Unit)) =>
   cond (aT (List.length x.1.1) y2.1.1 (((List.length x.1.1):Nat):Int))
    (cond (aT (List.length x.1.1) (0:Int) y2.1.1)
     ((F 143 nE ((((cut x.1.1 y2.1.1 (((List.length x.1.1):Nat):Int))::((cut x.1.1 (0:Int) y2.1.1)::([]:List (List ae)))),()),())).bind fun (y3:(((List ae)×Unit)×Unit)) =>
     some (y3.1,()))
     (none))
    (none)):=by kernel_rfl
theorem YK(F:FT)(J:JT Gy)(x:((bW×Unit)×(aG×Unit))):cC 124 Gy Tryz.f124 F J x =
  cond x.1.1.2.2.2.2.2.2.1
   ((F 115 ml ((x.1.1.2.1,()),((x.2.1.1,(x.2.1.2.1,x.2.1.2.2)),()))).bind fun (y1:((Int×(Bool×Unit))×(aG×Unit))) =>
   cond y1.1.2.1
    (cond ((decide ((0:Int)≤y1.1.1))&&(decide (y1.1.1<(((List.length y1.2.1.2.1):Nat):Int))))
     (cond ((decide ((0:Int)≤y1.1.1))&&(decide (y1.1.1<(((List.length y1.2.1.2.1):Nat):Int))))
      (some (((some ((⟨1,by decide⟩:(Fin 2)),(Int.toNat y1.1.1))),((some ((⟨1,by decide⟩:(Fin 2)),(Int.toNat y1.1.1))),())),((y1.2.1.1,(y1.2.1.2.1,y1.2.1.2.2)),())))
      (none))
     (none))
    (some ((none,(none,())),((y1.2.1.1,(y1.2.1.2.1,y1.2.1.2.2)),()))))
   ((F 107 py ((x.1.1.2.1,()),((x.2.1.1,(x.2.1.2.1,x.2.1.2.2)),()))).bind fun (y2:((Int×(Bool×Unit))×(aG×Unit))) =>
   cond y2.1.2.1
    (cond ((decide ((0:Int)≤y2.1.1))&&(decide (y2.1.1<(((List.length y2.2.1.1):Nat):Int))))
     (cond ((decide ((0:Int)≤y2.1.1))&&(decide (y2.1.1<(((List.length y2.2.1.1):Nat):Int))))
      (some (((some ((⟨0,by decide⟩:(Fin 2)),(Int.toNat y2.1.1))),((some ((⟨0,by decide⟩:(Fin 2)),(Int.toNat y2.1.1))),())),((y2.2.1.1,(y2.2.1.2.1,y2.2.1.2.2)),())))
      (none))
     (none))
    (some ((none,(none,())),((y2.2.1.1,(y2.2.1.2.1,y2.2.1.2.2)),())))):=by kernel_rfl
theorem YL(F:FT)(J:JT C7)(x:((aj×(ID×Unit))×Unit)):cC 126 C7 Tryz.f126 F J x =
 (F 127 AB ((x.1.1.1,(x.1.2.1,())),())).bind fun (y1:((Int×Unit)×Unit)) =>
 some (y1.1,()):=by kernel_rfl
theorem YM(F:FT)(J:JT AB)(x:((ID×(ID×Unit))×Unit)):cC 127 AB Tryz.f127 F J x =
  cond ((x.1.1.1==x.1.2.1.1)&&(x.1.1.2==x.1.2.1.2))
   (some (((0:Int),()),()))
   ((F 145 AD ((x.1.1.1,(x.1.2.1.1,())),())).bind fun (y1:((Int×Unit)×Unit)) =>
   (F 145 AD ((x.1.1.2,(x.1.2.1.2,())),())).bind fun (y2:((Int×Unit)×Unit)) =>
   (F 144 uu (((y1.1.1::(y2.1.1::([]:List Int))),()),())).bind fun (y3:((Int×Unit)×Unit)) =>
   some (y3.1,())):=by kernel_rfl
theorem YN(F:FT)(J:JT Gz)(x:((ai×(ID×Unit))×Unit)):cC 131 Gz Tryz.f131 F J x =
 (F 151149 j9 ((x.1.1.1,(x.1.2.1,())),())).bind fun (y1:((aj×(Bool×Unit))×Unit)) =>
 (F 81 yi ((y1.1.1.2.1,()),())).bind fun (y2:(((List ae)×Unit)×Unit)) =>
 some (((y1.1.1.1,(y2.1.1,y1.1.1.2.2)),y1.1.2),()):=by kernel_rfl
theorem YO(F:FT)(J:JT xH)(x:((StateT×(ae×Unit))×Unit)):cC 132 xH Tryz.f132 F J x =
 J uA (aX Tryz.prog 132 0) (((IntKind.wrap .i64 ((((List.length x.1.1.2):Nat):Int)+(1:Int))),((0:Int),())),((((x.1.1.1,x.1.1.2),()),(((x.1.2.1.1,x.1.2.1.2),()),(((((0:Int),(0:Int)),(0:Int)),()),()))),())):=by kernel_rfl
theorem Kn(F:FT)(J:JT xH)(x:((Int×(Int×Unit))×(((StateT×Unit)×((ae×Unit)×((ae×Unit)×Unit)))×Unit))):gQ 132 0 xH Tryz.f132 uA F J x =
  cond (decide (x.1.2.1<x.1.1))
   ((F 151 ux ((x.2.1.1.1.1,((x.2.1.2.1.1.1,x.2.1.2.1.1.2),())),())).bind fun (y1:((ID×(Bool×Unit))×Unit)) =>
   cond y1.1.2.1
    (some (((x.2.1.2.1.1.1,x.2.1.2.1.1.2),()),()))
    ((F 152 GD ((x.2.1.1.1.2,((x.2.1.2.1.1.1,x.2.1.2.1.1.2),())),())).bind fun (y2:((ae×(Bool×Unit))×Unit)) =>
    cond (not y2.1.2.1)
     (some (((((0:Int),(0:Int)),(0:Int)),()),()))
     (J uA (aX Tryz.prog 132 0) ((x.1.1,((IntKind.wrap .i64 (x.1.2.1+(1:Int))),())),((((x.2.1.1.1.1,x.2.1.1.1.2),()),(((y2.1.1.1,y2.1.1.2),()),(((x.2.1.2.2.1.1.1,x.2.1.2.2.1.1.2),()),()))),())))))
   (some (((((0:Int),(0:Int)),(0:Int)),()),())):=by kernel_rfl
theorem YP(F:FT)(J:JT uq)(x:(((List ae)×(ae×Unit))×Unit)):cC 133 uq Tryz.f133 F J x =
 (F 134 lx ((x.1.1,((x.1.2.1.1,x.1.2.1.2),())),())).bind fun (y1:((Int×Unit)×Unit)) =>
 some (((decide (y1.1.1≥(0:Int))),()),()):=by kernel_rfl
theorem YQ(F:FT)(J:JT lx)(x:(((List ae)×(ae×Unit))×Unit)):cC 134 lx Tryz.f134 F J x =
 J uB (aX Tryz.prog 134 0) ((x.1.1,((((List.length x.1.1):Nat):Int),((0:Int),()))),((((x.1.2.1.1,x.1.2.1.2),()),()),())):=by kernel_rfl
theorem Ko(F:FT)(J:JT lx)(x:(((List ae)×(Int×(Int×Unit)))×(((ae×Unit)×Unit)×Unit))):gQ 134 0 lx Tryz.f134 uB F J x =
  cond (decide (x.1.2.2.1<x.1.2.1))
   (((bh x.1.1 x.1.2.2.1)).bind fun (y1:ae) =>
   cond (((x.2.1.1.1.1.1==y1.1.1)&&(x.2.1.1.1.1.2==y1.1.2))&&(x.2.1.1.1.2==y1.2))
    (some (x.1.2.2,()))
    (J uB (aX Tryz.prog 134 0) ((x.1.1,(x.1.2.1,((IntKind.wrap .i64 (x.1.2.2.1+(1:Int))),()))),((((x.2.1.1.1.1,x.2.1.1.1.2),()),()),()))))
   (some (((-1:Int),()),())):=by kernel_rfl
theorem YR(F:FT)(J:JT nD)(x:(((List (List ae))×Unit)×Unit)):cC 135 nD Tryz.f135 F J x =
 (F 143 nE (x.1,())).bind fun (y1:(((List ae)×Unit)×Unit)) =>
 (F 123 qq (y1.1,())).bind fun (y2:(((List ae)×Unit)×Unit)) =>
 some (y2.1,()):=by kernel_rfl
theorem YS(F:FT)(J:JT GA)(x:((ai×Unit)×Unit)):cC 136 GA Tryz.f136 F J x =
  (F 153 GF ((x.1.1,()),())).bind fun (y1:((Int×(Int×(Int×(Int×Unit))))×Unit)) =>
  cond ((2:Int)==(0:Int))
   (none)
   (some (((IntKind.wrap .i64 (y1.1.2.2.2.1 - (IntKind.wrap .i64 (Int.tdiv (IntKind.wrap .i64 ((IntKind.wrap .i64 (y1.1.1 - y1.1.2.1))+y1.1.2.2.1)) (2:Int))))),()),())):=by kernel_rfl
theorem YT(F:FT)(J:JT C8)(x:((au×(ID×Unit))×Unit)):cC 138 C8 Tryz.f138 F J x =
 (F 127 AB ((x.1.1.1,(x.1.2.1,())),())).bind fun (y1:((Int×Unit)×Unit)) =>
 some (y1.1,()):=by kernel_rfl
theorem YU(F:FT)(J:JT GB)(x:(((List aM)×(aM×Unit))×Unit)):cC 139 GB Tryz.f139 F J x =
  (F 156154 iY ((x.1.1,((x.1.2.1.1.1,x.1.2.1.1.2),())),())).bind fun (y1:((Int×(Bool×Unit))×Unit)) =>
  (F 61 Gn ((x.1.1,()),())).bind fun (y2:(((List aM)×Unit)×Unit)) =>
  cond y1.1.2.1
   (cond ((decide ((0:Int)≤y1.1.1))&&(decide (y1.1.1<(((List.length y2.1.1):Nat):Int))))
    (((y2.1.1)[(Int.toNat y1.1.1)]?).bind fun (y3:aM) =>
    some (((List.set y2.1.1 (Int.toNat y1.1.1) ((x.1.2.1.1.1,x.1.2.1.1.2),(x.1.2.1.2.1,x.1.2.1.2.2))),()),()))
    (none))
   (cond (decide ((((List.length x.1.1):Nat):Int)<(400:Int)))
    (cond (pX y2.1.1 y1.1.1 (((x.1.2.1.1.1,x.1.2.1.1.2),(x.1.2.1.2.1,x.1.2.1.2.2))::([]:List aM)))
     (some (((fL y2.1.1 y1.1.1 (((x.1.2.1.1.1,x.1.2.1.1.2),(x.1.2.1.2.1,x.1.2.1.2.2))::([]:List aM))),()),()))
     (none))
    (some (y2.1,()))):=by kernel_rfl
theorem YV(F:FT)(J:JT C9)(x:(((List ae)×(ae×Unit))×Unit)):cC 140 C9 Tryz.f140 F J x =
 (F 157 AE ((x.1.1,((x.1.2.1.1,x.1.2.1.2),((IntKind.wrap .i64 ((((List.length x.1.1):Nat):Int) - (1:Int))),()))),())).bind fun (y1:((ae×(Bool×Unit))×Unit)) =>
 some (((y1.1.1.1,y1.1.1.2),y1.1.2),()):=by kernel_rfl
theorem YW(F:FT)(J:JT Da)(x:((ae×(ae×Unit))×Unit)):cC 142 Da Tryz.f142 F J x =
 (F 127 AB ((x.1.1.1,(x.1.2.1.1,())),())).bind fun (y1:((Int×Unit)×Unit)) =>
 (F 145 AD ((x.1.1.2,(x.1.2.1.2,())),())).bind fun (y2:((Int×Unit)×Unit)) =>
 (F 144 uu (((y1.1.1::(y2.1.1::([]:List Int))),()),())).bind fun (y3:((Int×Unit)×Unit)) =>
 some (y3.1,()):=by kernel_rfl
theorem YX(F:FT)(J:JT nE)(x:(((List (List ae))×Unit)×Unit)):cC 143 nE Tryz.f143 F J x =
 J uC (aX Tryz.prog 143 0) ((x.1.1,((0:Int),(x.1.1,((((List.length x.1.1):Nat):Int),((0:Int),()))))),((),())):=by kernel_rfl
theorem Kp(F:FT)(J:JT nE)(x:(((List (List ae))×(Int×((List (List ae))×(Int×(Int×Unit)))))×(Unit×Unit))):gQ 143 0 nE Tryz.f143 uC F J x =
  cond (decide (x.1.2.2.2.2.1<x.1.2.2.2.1))
   (((bh x.1.2.2.1 x.1.2.2.2.2.1)).bind fun (y1:(List ae)) =>
   cond (decide ((IntKind.wrap .i64 (x.1.2.1+(((List.length y1):Nat):Int)))<(0:Int)))
    (none)
    (J uC (aX Tryz.prog 143 0) ((x.1.1,((IntKind.wrap .i64 (x.1.2.1+(((List.length y1):Nat):Int))),(x.1.2.2.1,(x.1.2.2.2.1,((IntKind.wrap .i64 (x.1.2.2.2.2.1+(1:Int))),()))))),((),()))))
   (cond (zi x.1.2.1)
    (J uD (aX Tryz.prog 143 1) ((x.1.1,((((List.length x.1.1):Nat):Int),((0:Int),()))),((),(([]:List ae),()))))
    (none)):=by kernel_rfl
theorem Kq(F:FT)(J:JT nE)(x:(((List (List ae))×(Int×(Int×Unit)))×(Unit×((List ae)×Unit)))):gQ 143 1 nE Tryz.f143 uD F J x =
  cond (decide (x.1.2.2.1<x.1.2.1))
   (((bh x.1.1 x.1.2.2.1)).bind fun (y2:(List ae)) =>
   cond (bq (List.length x.2.2.1) (List.length y2))
    (J uD (aX Tryz.prog 143 1) ((x.1.1,(x.1.2.1,((IntKind.wrap .i64 (x.1.2.2.1+(1:Int))),()))),((),((x.2.2.1++y2),()))))
    (none))
   (some (x.2.2,())):=by kernel_rfl
theorem YY(F:FT)(J:JT uu)(x:(((List Int)×Unit)×Unit)):cC 144 uu Tryz.f144 F J x =
 J yL (aX Tryz.prog 144 0) (((0:Int),(x.1.1,((((List.length x.1.1):Nat):Int),((0:Int),())))),((),())):=by kernel_rfl
theorem yM(F:FT)(J:JT uu)(x:((Int×((List Int)×(Int×(Int×Unit))))×(Unit×Unit))):gQ 144 0 uu Tryz.f144 yL F J x =
  cond (decide (x.1.2.2.2.1<x.1.2.2.1))
   (((bh x.1.2.1 x.1.2.2.2.1)).bind fun (y1:Int) =>
   cond (y1 != x.1.1)
    (some ((y1,()),()))
    (J yL (aX Tryz.prog 144 0) ((x.1.1,(x.1.2.1,(x.1.2.2.1,((IntKind.wrap .i64 (x.1.2.2.2.1+(1:Int))),())))),((),()))))
   (some ((x.1.1,()),())):=by kernel_rfl
theorem YZ(F:FT)(J:JT AD)(x:((Int×(Int×Unit))×Unit)):cC 145 AD Tryz.f145 F J x =
  (F 159 AF ((x.1.1,()),())).bind fun (y1:((Bool×Unit)×Unit)) =>
  (F 159 AF (x.1.2,())).bind fun (y2:((Bool×Unit)×Unit)) =>
  cond y1.1.1
   (cond y2.1.1
    (some (((0:Int),()),()))
    (some (((-1:Int),()),())))
   (cond y2.1.1
    (some (((1:Int),()),()))
    (cond (decide (x.1.1<x.1.2.1))
     (some (((-1:Int),()),()))
     (cond (decide (x.1.1 > x.1.2.1))
      (some (((1:Int),()),()))
      (some (((0:Int),()),()))))):=by kernel_rfl
theorem Y0(F:FT)(J:JT GC)(x:((aj×Unit)×Unit)):cC 150 GC Tryz.f150 F J x =
 some ((x.1.1.1,()),()):=by kernel_rfl
theorem Y1(F:FT)(J:JT ux)(x:((ai×(ae×Unit))×Unit)):cC 151 ux Tryz.f151 F J x =
 J uE (aX Tryz.prog 151 0) ((x.1.1.1,((((List.length x.1.1.1):Nat):Int),((0:Int),()))),((((x.1.2.1.1,x.1.2.1.2),()),((((0:Int),(0:Int)),()),())),())):=by kernel_rfl
theorem Kr(F:FT)(J:JT ux)(x:(((List aj)×(Int×(Int×Unit)))×(((ae×Unit)×((ID×Unit)×Unit))×Unit))):gQ 151 0 ux Tryz.f151 uE F J x =
  cond (decide (x.1.2.2.1<x.1.2.1))
   (((bh x.1.1 x.1.2.2.1)).bind fun (y1:aj) =>
   (F 133 uq ((y1.2.1,((x.2.1.1.1.1,x.2.1.1.1.2),())),())).bind fun (y2:((Bool×Unit)×Unit)) =>
   cond y2.1.1
    (some ((y1.1,(true,())),()))
    (J uE (aX Tryz.prog 151 0) ((x.1.1,(x.1.2.1,((IntKind.wrap .i64 (x.1.2.2.1+(1:Int))),()))),((((x.2.1.1.1.1,x.2.1.1.1.2),()),((x.2.1.2.1.1,()),())),()))))
   (some ((((0:Int),(0:Int)),(false,())),())):=by kernel_rfl
theorem Y2(F:FT)(J:JT GD)(x:(((List aM)×(ae×Unit))×Unit)):cC 152 GD Tryz.f152 F J x =
  (F 164162 iZ ((x.1.1,()),(((x.1.2.1.1,x.1.2.1.2),()),()))).bind fun (y1:((Int×Unit)×((ae×Unit)×Unit))) =>
  cond (decide (y1.1.1<(0:Int)))
   (some (((((0:Int),(0:Int)),(0:Int)),(false,())),()))
   (((bh x.1.1 y1.1.1)).bind fun (y2:aM) =>
   some (((y2.2.1,y2.2.2),(true,())),())):=by kernel_rfl
theorem Y3(F:FT)(J:JT GF)(x:((ai×Unit)×Unit)):cC 153 GF Tryz.f153 F J x =
 (F 166164 kb ((x.1.1.1,()),())).bind fun (y1:((Int×Unit)×Unit)) =>
 (F 166 xI ((x.1.1,()),())).bind fun (y2:(((List (List ae))×Unit)×Unit)) =>
 (F 167 xJ ((x.1.1,()),())).bind fun (y3:((Int×Unit)×Unit)) =>
 some (((((List.length x.1.1.1):Nat):Int),((((List.length x.1.1.2):Nat):Int),((IntKind.wrap .i64 ((((List.length y2.1.1):Nat):Int)+y1.1.1)),y3.1))),()):=by kernel_rfl
theorem Y4(F:FT)(J:JT Db)(x:((aM×(ae×Unit))×Unit)):cC 155 Db Tryz.f155 F J x =
 (F 142 Da (((x.1.1.1.1,x.1.1.1.2),((x.1.2.1.1,x.1.2.1.2),())),())).bind fun (y1:((Int×Unit)×Unit)) =>
 some (y1.1,()):=by kernel_rfl
end Go.Vs
set_option maxRecDepth 1000000
set_option maxHeartbeats 0
namespace Go.Vs
open Go.Proofs
theorem TW(F:FT)(J:JT AE)(x:(((List ae)×(ae×(Int×Unit)))×Unit)):cC 157 AE Tryz.f157 F J x =
  (F 134 lx ((x.1.1,((x.1.2.1.1,x.1.2.1.2),())),())).bind fun (y1:((Int×Unit)×Unit)) =>
  cond (decide (y1.1.1<(0:Int)))
   (some (((((0:Int),(0:Int)),(0:Int)),(false,())),()))
   (cond ((((List.length x.1.1):Nat):Int)==(0:Int))
    (none)
    (((bh x.1.1 (Int.tmod (IntKind.wrap .i64 (y1.1.1+x.1.2.2.1)) (((List.length x.1.1):Nat):Int)))).bind fun (y2:ae) =>
    some (((y2.1,y2.2),(true,())),()))):=by kernel_rfl
theorem Y5(F:FT)(J:JT AF)(x:((Int×Unit)×Unit)):cC 159 AF Tryz.f159 F J x =
 some (((x.1.1 != x.1.1),()),()):=by kernel_rfl
theorem Y6(F:FT)(J:JT GG)(x:((aM×Unit)×((Int×(Int×(Int×Unit)))×Unit))):cC 163 GG Tryz.f163 F J x =
 some (((((x.1.1.1.1.1==x.2.1.1)&&(x.1.1.1.1.2==x.2.1.2.1))&&(x.1.1.1.2==x.2.1.2.2.1)),()),((x.2.1.1,(x.2.1.2.1,x.2.1.2.2)),())):=by kernel_rfl
theorem Y7(F:FT)(J:JT GH)(x:((aj×Unit)×Unit)):cC 165 GH Tryz.f165 F J x =
 some ((((((List.length x.1.1.2.1):Nat):Int)==(0:Int)),()),()):=by kernel_rfl
theorem Y8(F:FT)(J:JT uy)(x:((ai×Unit)×Unit)):cC 171 uy Tryz.f171 F J x =
 J uF (aX Tryz.prog 171 0) ((x.1.1.2,((((List.length x.1.1.2):Nat):Int),((0:Int),()))),((),(([]:List ae),()))):=by kernel_rfl
theorem Ks(F:FT)(J:JT uy)(x:(((List au)×(Int×(Int×Unit)))×(Unit×((List ae)×Unit)))):gQ 171 0 uy Tryz.f171 uF F J x =
  cond (decide (x.1.2.2.1<x.1.2.1))
   (((bh x.1.1 x.1.2.2.1)).bind fun (y1:au) =>
   (F 122 nC (((y1.1,(0:Int)),()),())).bind fun (y2:((ae×Unit)×Unit)) =>
   cond (bq (List.length x.2.2.1) (List.length ((y1.1,(0:Int))::((y2.1.1.1,y2.1.1.2)::([]:List ae)))))
    (J uF (aX Tryz.prog 171 0) ((x.1.1,(x.1.2.1,((IntKind.wrap .i64 (x.1.2.2.1+(1:Int))),()))),((),((x.2.2.1++((y1.1,(0:Int))::((y2.1.1.1,y2.1.1.2)::([]:List ae)))),()))))
    (none))
   (some (x.2.2,())):=by kernel_rfl
theorem Y9(F:FT)(J:JT Dc)(x:((ai×(ae×Unit))×Unit)):cC 176 Dc Tryz.f176 F J x =
  (F 151 ux ((x.1.1,((x.1.2.1.1,x.1.2.1.2),())),())).bind fun (y1:((ID×(Bool×Unit))×Unit)) =>
  cond (not y1.1.2.1)
   (some (((((0:Int),(0:Int)),(0:Int)),(false,())),()))
   ((F 122 nC (((x.1.2.1.1,x.1.2.1.2),()),())).bind fun (y2:((ae×Unit)×Unit)) =>
   (F 179 xK ((x.1.1,((y2.1.1.1,y2.1.1.2),())),())).bind fun (y3:((ae×(Bool×Unit))×Unit)) =>
   some (((y3.1.1.1,y3.1.1.2),y3.1.2),())):=by kernel_rfl
theorem Za(F:FT)(J:JT gP)(x:((ai×Unit)×Unit)):cC 177 gP Tryz.f177 F J x =
 J rh (aX Tryz.prog 177 0) ((x.1.1.1,((((List.length x.1.1.1):Nat):Int),((0:Int),()))),((),(([]:List Int),(([]:List (ae×Int)),())))):=by kernel_rfl
theorem Kt(F:FT)(J:JT gP)(x:(((List aj)×(Int×(Int×Unit)))×(Unit×((List Int)×((List (ae×Int))×Unit))))):gQ 177 0 gP Tryz.f177 rh F J x =
  cond (decide (x.1.2.2.1<x.1.2.1))
   (((bh x.1.1 x.1.2.2.1)).bind fun (y1:aj) =>
   cond (bq (List.length x.2.2.1) (List.length (x.1.2.2.1::([]:List Int))))
    (J uG (aX Tryz.prog 177 1) ((x.1.2.2.1,(x.1.1,(x.1.2.1,(x.1.2.2.1,(y1.2.1,((((List.length y1.2.1):Nat):Int),((0:Int),()))))))),((),((x.2.2.1++(x.1.2.2.1::([]:List Int))),x.2.2.2))))
    (none))
   (J oL (aX Tryz.prog 177 2) (x.2.2.2,((),(x.2.2.1,((none,x.2.2.2.1),()))))):=by kernel_rfl
theorem Ku(F:FT)(J:JT gP)(x:((Int×((List aj)×(Int×(Int×((List ae)×(Int×(Int×Unit)))))))×(Unit×((List Int)×((List (ae×Int))×Unit))))):gQ 177 1 gP Tryz.f177 uG F J x =
  cond (decide (x.1.2.2.2.2.2.2.1<x.1.2.2.2.2.2.1))
   (((bh x.1.2.2.2.2.1 x.1.2.2.2.2.2.2.1)).bind fun (y2:ae) =>
   J uG (aX Tryz.prog 177 1) ((x.1.1,(x.1.2.1,(x.1.2.2.1,(x.1.2.2.2.1,(x.1.2.2.2.2.1,(x.1.2.2.2.2.2.1,((IntKind.wrap .i64 (x.1.2.2.2.2.2.2.1+(1:Int))),()))))))),((),(x.2.2.1,((lQ (.pair (.pair (.int .i64) (.int .i64)) (.int .i64)) (y2.1,y2.2) x.1.1 x.2.2.2.1),())))))
   (J rh (aX Tryz.prog 177 0) ((x.1.2.1,(x.1.2.2.1,((IntKind.wrap .i64 (x.1.2.2.2.1+(1:Int))),()))),((),(x.2.2.1,x.2.2.2)))):=by kernel_rfl
theorem Kv(F:FT)(J:JT gP)(x:(((List (ae×Int))×Unit)×(Unit×((List Int)×(((Option (ae×Int))×(List (ae×Int)))×Unit))))):gQ 177 2 gP Tryz.f177 oL F J x =
  cond (List.isEmpty x.2.2.2.1.2)
   (J uH (aX Tryz.prog 177 3) (((((List.length x.2.2.1):Nat):Int),((0:Int),())),((),(x.2.2.1,(([]:List Int),())))))
   (rK (List.length x.2.2.2.1.2) fun (j3:Nat) =>
   ((x.2.2.2.1.2)[j3]?).bind fun (y4:(ae×Int)) =>
   (F 122 nC (((y4.1.1,y4.1.2),()),())).bind fun (y5:((ae×Unit)×Unit)) =>
   cond (Option.isSome (iL (.pair (.pair (.int .i64) (.int .i64)) (.int .i64)) (y5.1.1.1,y5.1.1.2) x.1.1))
    ((F 180 GI ((y4.2,((Option.getD (iL (.pair (.pair (.int .i64) (.int .i64)) (.int .i64)) (y5.1.1.1,y5.1.1.2) x.1.1) (0:Int)),())),(x.2.2.1,()))).bind fun (y6:(Unit×((List Int)×Unit))) =>
    J oL (aX Tryz.prog 177 2) (x.1,((),(y6.2.1,(((some y4),(List.eraseIdx x.2.2.2.1.2 j3)),())))))
    (J oL (aX Tryz.prog 177 2) (x.1,((),(x.2.2.1,(((some y4),(List.eraseIdx x.2.2.2.1.2 j3)),())))))):=by kernel_rfl
theorem Kw(F:FT)(J:JT gP)(x:((Int×(Int×Unit))×(Unit×((List Int)×((List Int)×Unit))))):gQ 177 3 gP Tryz.f177 uH F J x =
  cond (decide (x.1.2.1<x.1.1))
   ((F 181 qu (x.1.2,(x.2.2.1,()))).bind fun (y7:((Int×Unit)×((List Int)×Unit))) =>
   cond (bq (List.length x.2.2.2.1) (List.length (y7.1.1::([]:List Int))))
    (J uH (aX Tryz.prog 177 3) ((x.1.1,((IntKind.wrap .i64 (x.1.2.1+(1:Int))),())),((),(y7.2.1,((x.2.2.2.1++(y7.1.1::([]:List Int))),())))))
    (none))
   (some (x.2.2.2,())):=by kernel_rfl
theorem Zb(F:FT)(J:JT xK)(x:((ai×(ae×Unit))×Unit)):cC 179 xK Tryz.f179 F J x =
 J uI (aX Tryz.prog 179 0) ((x.1.1.1,((((List.length x.1.1.1):Nat):Int),((0:Int),()))),((((x.1.2.1.1,x.1.2.1.2),()),(((((0:Int),(0:Int)),(0:Int)),()),())),())):=by kernel_rfl
theorem Kx(F:FT)(J:JT xK)(x:(((List aj)×(Int×(Int×Unit)))×(((ae×Unit)×((ae×Unit)×Unit))×Unit))):gQ 179 0 xK Tryz.f179 uI F J x =
  cond (decide (x.1.2.2.1<x.1.2.1))
   (((bh x.1.1 x.1.2.2.1)).bind fun (y1:aj) =>
   (F 182 GJ ((y1.2.1,((x.2.1.1.1.1,x.2.1.1.1.2),())),())).bind fun (y2:((ae×(Bool×Unit))×Unit)) =>
   cond y2.1.2.1
    (some (((y2.1.1.1,y2.1.1.2),(true,())),()))
    (J uI (aX Tryz.prog 179 0) ((x.1.1,(x.1.2.1,((IntKind.wrap .i64 (x.1.2.2.1+(1:Int))),()))),((((x.2.1.1.1.1,x.2.1.1.1.2),()),(((x.2.1.2.1.1.1,x.2.1.2.1.1.2),()),())),()))))
   (some (((((0:Int),(0:Int)),(0:Int)),(false,())),())):=by kernel_rfl
theorem Zd(F:FT)(J:JT GI)(x:((Int×(Int×Unit))×((List Int)×Unit))):cC 180 GI Tryz.f180 F J x =
  (F 181 qu ((x.1.1,()),x.2)).bind fun (y1:((Int×Unit)×((List Int)×Unit))) =>
  (F 181 qu (x.1.2,y1.2)).bind fun (y2:((Int×Unit)×((List Int)×Unit))) =>
  cond ((decide ((0:Int)≤(max y1.1.1 y2.1.1:Int)))&&(decide ((max y1.1.1 y2.1.1:Int)<(((List.length y2.2.1):Nat):Int))))
   (((y2.2.1)[(Int.toNat (max y1.1.1 y2.1.1:Int))]?).bind fun (y3:Int) =>
   some ((),((List.set y2.2.1 (Int.toNat (max y1.1.1 y2.1.1:Int)) (min y1.1.1 y2.1.1:Int)),())))
   (none):=by kernel_rfl
theorem Ze(F:FT)(J:JT qu)(x:((Int×Unit)×((List Int)×Unit))):cC 181 qu Tryz.f181 F J x =
 J ri (aX Tryz.prog 181 0) (x.1,((),x.2)):=by kernel_rfl
theorem Ky(F:FT)(J:JT qu)(x:((Int×Unit)×(Unit×((List Int)×Unit)))):gQ 181 0 qu Tryz.f181 ri F J x =
  cond ((decide ((0:Int)≤x.1.1))&&(decide (x.1.1<(((List.length x.2.2.1):Nat):Int))))
   (((x.2.2.1)[(Int.toNat x.1.1)]?).bind fun (y1:Int) =>
   cond (y1 != x.1.1)
    (cond ((decide ((0:Int)≤x.1.1))&&(decide (x.1.1<(((List.length x.2.2.1):Nat):Int))))
     (((x.2.2.1)[(Int.toNat x.1.1)]?).bind fun (y2:Int) =>
     cond ((decide ((0:Int)≤y2))&&(decide (y2<(((List.length x.2.2.1):Nat):Int))))
      (((x.2.2.1)[(Int.toNat y2)]?).bind fun (y3:Int) =>
      cond ((decide ((0:Int)≤x.1.1))&&(decide (x.1.1<(((List.length x.2.2.1):Nat):Int))))
       (((x.2.2.1)[(Int.toNat x.1.1)]?).bind fun (y4:Int) =>
       cond ((decide ((0:Int)≤x.1.1))&&(decide (x.1.1<(((List.length (List.set x.2.2.1 (Int.toNat x.1.1) y3)):Nat):Int))))
        ((((List.set x.2.2.1 (Int.toNat x.1.1) y3))[(Int.toNat x.1.1)]?).bind fun (y5:Int) =>
        J ri (aX Tryz.prog 181 0) ((y5,()),((),((List.set x.2.2.1 (Int.toNat x.1.1) y3),()))))
        (none))
       (none))
      (none))
     (none))
    (some (x.1,x.2.2)))
   (none):=by kernel_rfl
theorem Zg(F:FT)(J:JT GJ)(x:(((List ae)×(ae×Unit))×Unit)):cC 182 GJ Tryz.f182 F J x =
 (F 157 AE ((x.1.1,((x.1.2.1.1,x.1.2.1.2),((1:Int),()))),())).bind fun (y1:((ae×(Bool×Unit))×Unit)) =>
 some (((y1.1.1.1,y1.1.1.2),y1.1.2),()):=by kernel_rfl
theorem Ph(F:FT)(J:JT iW)(x:(((List aj)×(ID×Unit))×Unit)):cC 127125 iW Tryz.f125 F J x =
 J ig (aX Tryz.prog 125 0) ((x.1.1,((((List.length x.1.1):Nat):Int),((0:Int),((((List.length x.1.1):Nat):Int),())))),(((x.1.2.1,()),()),())):=by kernel_rfl
theorem A3(F:FT)(J:JT iW)(x:(((List aj)×(Int×(Int×(Int×Unit))))×(((ID×Unit)×Unit)×Unit))):gQ 127125 0 iW Tryz.f125 ig F J x =
  cond (decide (x.1.2.2.1<x.1.2.2.2.1))
   (cond (decide ((1:Int)<(0:Int)))
    (none)
    (((bh x.1.1 (IntKind.wrap .i64 (kA .u64 (IntKind.wrap .u64 (IntKind.wrap .i64 (x.1.2.2.1+x.1.2.2.2.1))) (1:Int))))).bind fun (y1:aj) =>
    (F 126 C7 (((y1.1,(y1.2.1,y1.2.2)),(x.2.1.1.1,())),())).bind fun (y2:((Int×Unit)×Unit)) =>
    cond (decide (y2.1.1<(0:Int)))
     (J ig (aX Tryz.prog 125 0) ((x.1.1,(x.1.2.1,((IntKind.wrap .i64 ((IntKind.wrap .i64 (kA .u64 (IntKind.wrap .u64 (IntKind.wrap .i64 (x.1.2.2.1+x.1.2.2.2.1))) (1:Int)))+(1:Int))),x.1.2.2.2))),(((x.2.1.1.1,()),()),())))
     (J ig (aX Tryz.prog 125 0) ((x.1.1,(x.1.2.1,(x.1.2.2.1,((IntKind.wrap .i64 (kA .u64 (IntKind.wrap .u64 (IntKind.wrap .i64 (x.1.2.2.1+x.1.2.2.2.1))) (1:Int))),())))),(((x.2.1.1.1,()),()),())))))
   (cond (decide (x.1.2.2.1<x.1.2.1))
    (((bh x.1.1 x.1.2.2.1)).bind fun (y3:aj) =>
    (F 126 C7 (((y3.1,(y3.2.1,y3.2.2)),(x.2.1.1.1,())),())).bind fun (y4:((Int×Unit)×Unit)) =>
    some ((x.1.2.2.1,((y4.1.1==(0:Int)),())),()))
    (some ((x.1.2.2.1,(false,())),()))):=by kernel_rfl
theorem Pj(F:FT)(J:JT iX)(x:(((List au)×(ID×Unit))×Unit)):cC 139137 iX Tryz.f137 F J x =
 J ij (aX Tryz.prog 137 0) ((x.1.1,((((List.length x.1.1):Nat):Int),((0:Int),((((List.length x.1.1):Nat):Int),())))),(((x.1.2.1,()),()),())):=by kernel_rfl
theorem A4(F:FT)(J:JT iX)(x:(((List au)×(Int×(Int×(Int×Unit))))×(((ID×Unit)×Unit)×Unit))):gQ 139137 0 iX Tryz.f137 ij F J x =
  cond (decide (x.1.2.2.1<x.1.2.2.2.1))
   (cond (decide ((1:Int)<(0:Int)))
    (none)
    (((bh x.1.1 (IntKind.wrap .i64 (kA .u64 (IntKind.wrap .u64 (IntKind.wrap .i64 (x.1.2.2.1+x.1.2.2.2.1))) (1:Int))))).bind fun (y1:au) =>
    (F 138 C8 (((y1.1,y1.2),(x.2.1.1.1,())),())).bind fun (y2:((Int×Unit)×Unit)) =>
    cond (decide (y2.1.1<(0:Int)))
     (J ij (aX Tryz.prog 137 0) ((x.1.1,(x.1.2.1,((IntKind.wrap .i64 ((IntKind.wrap .i64 (kA .u64 (IntKind.wrap .u64 (IntKind.wrap .i64 (x.1.2.2.1+x.1.2.2.2.1))) (1:Int)))+(1:Int))),x.1.2.2.2))),(((x.2.1.1.1,()),()),())))
     (J ij (aX Tryz.prog 137 0) ((x.1.1,(x.1.2.1,(x.1.2.2.1,((IntKind.wrap .i64 (kA .u64 (IntKind.wrap .u64 (IntKind.wrap .i64 (x.1.2.2.1+x.1.2.2.2.1))) (1:Int))),())))),(((x.2.1.1.1,()),()),())))))
   (cond (decide (x.1.2.2.1<x.1.2.1))
    (((bh x.1.1 x.1.2.2.1)).bind fun (y3:au) =>
    (F 138 C8 (((y3.1,y3.2),(x.2.1.1.1,())),())).bind fun (y4:((Int×Unit)×Unit)) =>
    some ((x.1.2.2.1,((y4.1.1==(0:Int)),())),()))
    (some ((x.1.2.2.1,(false,())),()))):=by kernel_rfl
theorem Pk(F:FT)(J:JT j8)(x:(((List ae)×Unit)×Unit)):cC 143141 j8 Tryz.f141 F J x =
  cond (decide ((((List.length x.1.1):Nat):Int)<(1:Int)))
   (none)
   (((bh x.1.1 (0:Int))).bind fun (y1:ae) =>
   J jF (aX Tryz.prog 141 0) ((x.1.1,((1:Int),())),((((((0:Int),(0:Int)),(0:Int)),()),(((y1.1,y1.2),()),())),()))):=by kernel_rfl
theorem A5(F:FT)(J:JT j8)(x:(((List ae)×(Int×Unit))×(((ae×Unit)×((ae×Unit)×Unit))×Unit))):gQ 143141 0 j8 Tryz.f141 jF F J x =
  cond (decide (x.1.2.1<(((List.length x.1.1):Nat):Int)))
   (((bh x.1.1 x.1.2.1)).bind fun (y2:ae) =>
   (F 142 Da (((y2.1,y2.2),((x.2.1.2.1.1.1,x.2.1.2.1.1.2),())),())).bind fun (y3:((Int×Unit)×Unit)) =>
   cond (decide (y3.1.1<(0:Int)))
    (((bh x.1.1 x.1.2.1)).bind fun (y4:ae) =>
    J jF (aX Tryz.prog 141 0) ((x.1.1,((IntKind.wrap .i64 (x.1.2.1+(1:Int))),())),((((x.2.1.1.1.1,x.2.1.1.1.2),()),(((y4.1,y4.2),()),())),())))
    (J jF (aX Tryz.prog 141 0) ((x.1.1,((IntKind.wrap .i64 (x.1.2.1+(1:Int))),())),((((x.2.1.1.1.1,x.2.1.1.1.2),()),(((x.2.1.2.1.1.1,x.2.1.2.1.1.2),()),())),()))))
   (some (((x.2.1.2.1.1.1,x.2.1.2.1.1.2),()),())):=by kernel_rfl
theorem Pn(F:FT)(J:JT j9)(x:(((List aj)×(ID×Unit))×Unit)):cC 151149 j9 Tryz.f149 F J x =
 J lz (aX Tryz.prog 149 0) ((x.1.1,((((List.length x.1.1):Nat):Int),((0:Int),()))),(((x.1.2.1,()),(((0:Int),((0:Int),(([]:List ae),((⟨#[]⟩:ByteArray),((0:Int),()))))),())),())):=by kernel_rfl
theorem A6(F:FT)(J:JT j9)(x:(((List aj)×(Int×(Int×Unit)))×(((ID×Unit)×((Int×(Int×((List ae)×(ByteArray×(Int×Unit)))))×Unit))×Unit))):gQ 151149 0 j9 Tryz.f149 lz F J x =
  cond (decide (x.1.2.2.1<x.1.2.1))
   (((bh x.1.1 x.1.2.2.1)).bind fun (y1:aj) =>
   (F 150 GC (((y1.1,(y1.2.1,y1.2.2)),()),())).bind fun (y2:((ID×Unit)×Unit)) =>
   cond ((y2.1.1.1==x.2.1.1.1.1)&&(y2.1.1.2==x.2.1.1.1.2))
    (some (((y1.1,(y1.2.1,y1.2.2)),(true,())),()))
    (J lz (aX Tryz.prog 149 0) ((x.1.1,(x.1.2.1,((IntKind.wrap .i64 (x.1.2.2.1+(1:Int))),()))),(((x.2.1.1.1,()),((x.2.1.2.1.1,(x.2.1.2.1.2.1,(x.2.1.2.1.2.2.1,(x.2.1.2.1.2.2.2.1,x.2.1.2.1.2.2.2.2)))),())),()))))
   (some (((((0:Int),(0:Int)),(([]:List ae),((⟨#[]⟩:ByteArray),(0:Int)))),(false,())),())):=by kernel_rfl
theorem Po(F:FT)(J:JT iY)(x:(((List aM)×(ae×Unit))×Unit)):cC 156154 iY Tryz.f154 F J x =
 J il (aX Tryz.prog 154 0) ((x.1.1,((((List.length x.1.1):Nat):Int),((0:Int),((((List.length x.1.1):Nat):Int),())))),((((x.1.2.1.1,x.1.2.1.2),()),()),())):=by kernel_rfl
theorem A7(F:FT)(J:JT iY)(x:(((List aM)×(Int×(Int×(Int×Unit))))×(((ae×Unit)×Unit)×Unit))):gQ 156154 0 iY Tryz.f154 il F J x =
  cond (decide (x.1.2.2.1<x.1.2.2.2.1))
   (cond (decide ((1:Int)<(0:Int)))
    (none)
    (((bh x.1.1 (IntKind.wrap .i64 (kA .u64 (IntKind.wrap .u64 (IntKind.wrap .i64 (x.1.2.2.1+x.1.2.2.2.1))) (1:Int))))).bind fun (y1:aM) =>
    (F 155 Db ((((y1.1.1,y1.1.2),(y1.2.1,y1.2.2)),((x.2.1.1.1.1,x.2.1.1.1.2),())),())).bind fun (y2:((Int×Unit)×Unit)) =>
    cond (decide (y2.1.1<(0:Int)))
     (J il (aX Tryz.prog 154 0) ((x.1.1,(x.1.2.1,((IntKind.wrap .i64 ((IntKind.wrap .i64 (kA .u64 (IntKind.wrap .u64 (IntKind.wrap .i64 (x.1.2.2.1+x.1.2.2.2.1))) (1:Int)))+(1:Int))),x.1.2.2.2))),((((x.2.1.1.1.1,x.2.1.1.1.2),()),()),())))
     (J il (aX Tryz.prog 154 0) ((x.1.1,(x.1.2.1,(x.1.2.2.1,((IntKind.wrap .i64 (kA .u64 (IntKind.wrap .u64 (IntKind.wrap .i64 (x.1.2.2.1+x.1.2.2.2.1))) (1:Int))),())))),((((x.2.1.1.1.1,x.2.1.1.1.2),()),()),())))))
   (cond (decide (x.1.2.2.1<x.1.2.1))
    (((bh x.1.1 x.1.2.2.1)).bind fun (y3:aM) =>
    (F 155 Db ((((y3.1.1,y3.1.2),(y3.2.1,y3.2.2)),((x.2.1.1.1.1,x.2.1.1.1.2),())),())).bind fun (y4:((Int×Unit)×Unit)) =>
    some ((x.1.2.2.1,((y4.1.1==(0:Int)),())),()))
    (some ((x.1.2.2.1,(false,())),()))):=by kernel_rfl
theorem Pp(F:FT)(J:JT iZ)(x:(((List aM)×Unit)×((ae×Unit)×Unit))):cC 164162 iZ Tryz.f162 F J x =
 J jG (aX Tryz.prog 162 0) ((x.1.1,((((List.length x.1.1):Nat):Int),((0:Int),()))),((((x.2.1.1.1,x.2.1.1.2),()),()),())):=by kernel_rfl
theorem A8(F:FT)(J:JT iZ)(x:(((List aM)×(Int×(Int×Unit)))×(((ae×Unit)×Unit)×Unit))):gQ 164162 0 iZ Tryz.f162 jG F J x =
  cond (decide (x.1.2.2.1<x.1.2.1))
   (((bh x.1.1 x.1.2.2.1)).bind fun (y1:aM) =>
   (F 163 GG ((((y1.1.1,y1.1.2),(y1.2.1,y1.2.2)),()),((x.2.1.1.1.1.1,(x.2.1.1.1.1.2,(x.2.1.1.1.2,()))),()))).bind fun (y2:((Bool×Unit)×((Int×(Int×(Int×Unit)))×Unit))) =>
   cond y2.1.1
    (some (x.1.2.2,((((y2.2.1.1,y2.2.1.2.1),y2.2.1.2.2.1),()),())))
    (J jG (aX Tryz.prog 162 0) ((x.1.1,(x.1.2.1,((IntKind.wrap .i64 (x.1.2.2.1+(1:Int))),()))),(((((y2.2.1.1,y2.2.1.2.1),y2.2.1.2.2.1),()),()),()))))
   (some (((-1:Int),()),(((x.2.1.1.1.1,x.2.1.1.1.2),()),()))):=by kernel_rfl
theorem Pq(F:FT)(J:JT kb)(x:(((List aj)×Unit)×Unit)):cC 166164 kb Tryz.f164 F J x =
 J jH (aX Tryz.prog 164 0) (((0:Int),(x.1.1,((((List.length x.1.1):Nat):Int),((0:Int),())))),((),())):=by kernel_rfl
theorem A9(F:FT)(J:JT kb)(x:((Int×((List aj)×(Int×(Int×Unit))))×(Unit×Unit))):gQ 166164 0 kb Tryz.f164 jH F J x =
  cond (decide (x.1.2.2.2.1<x.1.2.2.1))
   (((bh x.1.2.1 x.1.2.2.2.1)).bind fun (y1:aj) =>
   (F 165 GH (((y1.1,(y1.2.1,y1.2.2)),()),())).bind fun (y2:((Bool×Unit)×Unit)) =>
   cond y2.1.1
    (J jH (aX Tryz.prog 164 0) (((IntKind.wrap .i64 (x.1.1+(1:Int))),(x.1.2.1,(x.1.2.2.1,((IntKind.wrap .i64 (x.1.2.2.2.1+(1:Int))),())))),((),())))
    (J jH (aX Tryz.prog 164 0) ((x.1.1,(x.1.2.1,(x.1.2.2.1,((IntKind.wrap .i64 (x.1.2.2.2.1+(1:Int))),())))),((),()))))
   (some ((x.1.1,()),())):=by kernel_rfl
end Go.Vs
