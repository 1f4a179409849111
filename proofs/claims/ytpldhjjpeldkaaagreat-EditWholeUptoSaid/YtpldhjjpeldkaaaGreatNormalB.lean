/- Normal forms of the program's functions, the second part. -/
import Derived.Test.YtpldhjjpeldkaaaGreatEngineD
import Derived.KernelRfl
set_option linter.unusedVariables false
set_option maxRecDepth 1000000
set_option maxHeartbeats 0
namespace Go.Vs
open Go.Proofs
theorem ab4(F:FT)(J:JT NM)(x:((StateT×(bw×Unit))×Unit)):bZ 15 NM Tryz.f15 F J x =
  (F 45 Ln (((x.1.2.1.1,(x.1.2.1.2.1,(x.1.2.1.2.2.1,(x.1.2.1.2.2.2.1,((x.1.2.1.2.2.2.2.1.1,(x.1.2.1.2.2.2.2.1.2.1,x.1.2.1.2.2.2.2.1.2.2)),((x.1.2.1.2.2.2.2.2.1.1,(x.1.2.1.2.2.2.2.2.1.2.1,x.1.2.1.2.2.2.2.2.1.2.2)),(x.1.2.1.2.2.2.2.2.2.1,x.1.2.1.2.2.2.2.2.2.2))))))),()),())).bind fun (y1:((Int×Unit)×Unit)) =>
  cond (y1.1.1 != (0:Int))
   (some ((((([]:List ah),([]:List af)),([]:List ak)),y1.1),()))
   ((F 18 oY ((x.1.1.1,(x.1.2.1.2.1,())),())).bind fun (y2:((ah×(Bool×Unit))×Unit)) =>
   cond (x.1.2.1.1==(1:Int))
    (cond y2.1.2.1
     (some ((((([]:List ah),([]:List af)),([]:List ak)),((12:Int),())),()))
     (cond (decide ((((List.length x.1.1.1.1):Nat):Int)≥(24:Int)))
      (some ((((([]:List ah),([]:List af)),([]:List ak)),((3:Int),())),()))
      ((F 46 D0 ((x.1.1.1,((x.1.2.1.2.1,(([]:List ab),((⟨#[]⟩:ByteArray),(0:Int)))),())),())).bind fun (y3:((ai×Unit)×Unit)) =>
      some (((y3.1.1,x.1.1.2),((0:Int),())),()))))
    (cond (x.1.2.1.1==(2:Int))
     (cond (not y2.1.2.1)
      (some ((((([]:List ah),([]:List af)),([]:List ak)),((13:Int),())),()))
      (cond (decide ((((List.length y2.1.1.2.1):Nat):Int) > (0:Int)))
       (some ((((([]:List ah),([]:List af)),([]:List ak)),((14:Int),())),()))
       ((F 47 oq ((x.1.1.1,(x.1.2.1.2.1,(((0:Int),(0:Int)),()))),())).bind fun (y4:((ai×Unit)×Unit)) =>
       some (((y4.1.1,x.1.1.2),((0:Int),())),()))))
     (cond (x.1.2.1.1==(3:Int))
      ((F 48 NR (((x.1.1.1,x.1.1.2),((x.1.2.1.1,(x.1.2.1.2.1,(x.1.2.1.2.2.1,(x.1.2.1.2.2.2.1,((x.1.2.1.2.2.2.2.1.1,(x.1.2.1.2.2.2.2.1.2.1,x.1.2.1.2.2.2.2.1.2.2)),((x.1.2.1.2.2.2.2.2.1.1,(x.1.2.1.2.2.2.2.2.1.2.1,x.1.2.1.2.2.2.2.2.1.2.2)),(x.1.2.1.2.2.2.2.2.2.1,x.1.2.1.2.2.2.2.2.2.2))))))),())),())).bind fun (y5:((StateT×(Int×Unit))×Unit)) =>
      some (((y5.1.1.1,y5.1.1.2),y5.1.2),()))
      (cond (x.1.2.1.1==(4:Int))
       ((F 49 NS (((x.1.1.1,x.1.1.2),((x.1.2.1.1,(x.1.2.1.2.1,(x.1.2.1.2.2.1,(x.1.2.1.2.2.2.1,((x.1.2.1.2.2.2.2.1.1,(x.1.2.1.2.2.2.2.1.2.1,x.1.2.1.2.2.2.2.1.2.2)),((x.1.2.1.2.2.2.2.2.1.1,(x.1.2.1.2.2.2.2.2.1.2.1,x.1.2.1.2.2.2.2.2.1.2.2)),(x.1.2.1.2.2.2.2.2.2.1,x.1.2.1.2.2.2.2.2.2.2))))))),())),())).bind fun (y6:((StateT×(Int×Unit))×Unit)) =>
       some (((y6.1.1.1,y6.1.1.2),y6.1.2),()))
       (cond (x.1.2.1.1==(5:Int))
        ((F 50 NT (((x.1.1.1,x.1.1.2),((x.1.2.1.1,(x.1.2.1.2.1,(x.1.2.1.2.2.1,(x.1.2.1.2.2.2.1,((x.1.2.1.2.2.2.2.1.1,(x.1.2.1.2.2.2.2.1.2.1,x.1.2.1.2.2.2.2.1.2.2)),((x.1.2.1.2.2.2.2.2.1.1,(x.1.2.1.2.2.2.2.2.1.2.1,x.1.2.1.2.2.2.2.2.1.2.2)),(x.1.2.1.2.2.2.2.2.2.1,x.1.2.1.2.2.2.2.2.2.2))))))),())),())).bind fun (y7:((StateT×(Int×Unit))×Unit)) =>
        some (((y7.1.1.1,y7.1.1.2),y7.1.2),()))
        (cond (x.1.2.1.1==(6:Int))
         ((F 51 xf (((x.1.1.1,x.1.1.2),((x.1.2.1.1,(x.1.2.1.2.1,(x.1.2.1.2.2.1,(x.1.2.1.2.2.2.1,((x.1.2.1.2.2.2.2.1.1,(x.1.2.1.2.2.2.2.1.2.1,x.1.2.1.2.2.2.2.1.2.2)),((x.1.2.1.2.2.2.2.2.1.1,(x.1.2.1.2.2.2.2.2.1.2.1,x.1.2.1.2.2.2.2.2.1.2.2)),(x.1.2.1.2.2.2.2.2.2.1,x.1.2.1.2.2.2.2.2.2.2))))))),())),())).bind fun (y8:((StateT×(Int×Unit))×Unit)) =>
         some (((y8.1.1.1,y8.1.1.2),y8.1.2),()))
         ((F 52 zK (((x.1.1.1,x.1.1.2),((x.1.2.1.1,(x.1.2.1.2.1,(x.1.2.1.2.2.1,(x.1.2.1.2.2.2.1,((x.1.2.1.2.2.2.2.1.1,(x.1.2.1.2.2.2.2.1.2.1,x.1.2.1.2.2.2.2.1.2.2)),((x.1.2.1.2.2.2.2.2.1.1,(x.1.2.1.2.2.2.2.2.1.2.1,x.1.2.1.2.2.2.2.2.1.2.2)),(x.1.2.1.2.2.2.2.2.2.1,x.1.2.1.2.2.2.2.2.2.2))))))),())),())).bind fun (y9:((StateT×(Int×Unit))×Unit)) =>
         some (((y9.1.1.1,y9.1.1.2),y9.1.2),())))))))):=by kernel_rfl
theorem ab5(F:FT)(J:JT BN)(x:((StateT×(StateT×Unit))×Unit)):bZ 16 BN Tryz.f16 F J x =
  (F 27 zJ ((x.1.1.1,(x.1.2.1.1,())),())).bind fun (y1:((Bool×Unit)×Unit)) =>
  (F 53 D1 ((x.1.1.2,(x.1.2.1.2,())),())).bind fun (y2:((Bool×Unit)×Unit)) =>
  cond y1.1.1
   (some (y2.1,()))
   (some ((false,()),())):=by kernel_rfl
theorem ab6(F:FT)(J:JT FE)(x:(((List (List bw))×Unit)×Unit)):bZ 17 FE Tryz.f17 F J x =
 J zZ (aP Tryz.prog 17 0) ((x.1.1,((0:Int),())),(((((([]:List ah),([]:List af)),([]:List ak)),()),((((([]:List ah),([]:List af)),([]:List ak)),()),())),())):=by kernel_rfl
theorem NZ(F:FT)(J:JT FE)(x:(((List (List bw))×(Int×Unit))×(((StateT×Unit)×((StateT×Unit)×Unit))×Unit))):fR 17 0 FE Tryz.f17 zZ F J x =
  cond (decide (x.1.2.1<(((List.length x.1.1):Nat):Int)))
   (cond (decide (x.1.2.1<(30:Int)))
    (((aZ x.1.1 x.1.2.1)).bind fun (y1:(List bw)) =>
    (F 34 FJ ((y1,()),())).bind fun (y2:(((List bw)×Unit)×Unit)) =>
    (F 37 NP (((x.2.1.2.1.1.1,x.2.1.2.1.1.2),y2.1),())).bind fun (y3:((StateT×Unit)×Unit)) =>
    J zZ (aP Tryz.prog 17 0) ((x.1.1,((IntKind.wrap .i64 (x.1.2.1+(1:Int))),())),((((x.2.1.1.1.1,x.2.1.1.1.2),()),(((y3.1.1.1,y3.1.1.2),()),())),())))
    (some (((x.2.1.2.1.1.1,x.2.1.2.1.1.2),()),())))
   (some (((x.2.1.2.1.1.1,x.2.1.2.1.1.2),()),())):=by kernel_rfl
theorem ab7(F:FT)(J:JT oY)(x:((ai×(ID×Unit))×Unit)):bZ 18 oY Tryz.f18 F J x =
 J z5 (aP Tryz.prog 18 0) (((0:Int),()),(((x.1.1,()),((x.1.2.1,()),(((0:Int),((0:Int),(([]:List ab),((⟨#[]⟩:ByteArray),((0:Int),()))))),()))),())):=by kernel_rfl
theorem N0(F:FT)(J:JT oY)(x:((Int×Unit)×(((ai×Unit)×((ID×Unit)×((Int×(Int×((List ab)×(ByteArray×(Int×Unit)))))×Unit)))×Unit))):fR 18 0 oY Tryz.f18 z5 F J x =
  cond (decide (x.1.1<(((List.length x.2.1.1.1.1):Nat):Int)))
   (((aZ x.2.1.1.1.1 x.1.1)).bind fun (y1:ah) =>
   cond ((y1.1.1==x.2.1.2.1.1.1)&&(y1.1.2==x.2.1.2.1.1.2))
    (((aZ x.2.1.1.1.1 x.1.1)).bind fun (y2:ah) =>
    some (((y2.1,(y2.2.1,y2.2.2)),(true,())),()))
    (J z5 (aP Tryz.prog 18 0) (((IntKind.wrap .i64 (x.1.1+(1:Int))),()),(((x.2.1.1.1,()),((x.2.1.2.1.1,()),((x.2.1.2.2.1.1,(x.2.1.2.2.1.2.1,(x.2.1.2.2.1.2.2.1,(x.2.1.2.2.1.2.2.2.1,x.2.1.2.2.1.2.2.2.2)))),()))),()))))
   (some (((((0:Int),(0:Int)),(([]:List ab),((⟨#[]⟩:ByteArray),(0:Int)))),(false,())),())):=by kernel_rfl
theorem ab8(F:FT)(J:JT zH)(x:((ID×Unit)×Unit)):bZ 19 zH Tryz.f19 F J x =
  cond (decide (x.1.1.1≥(1:Int)))
   (cond (decide (x.1.1.1≤(8:Int)))
    (cond (decide (x.1.1.2≥(1:Int)))
     (some (((decide (x.1.1.2≤(1048576:Int))),()),()))
     (some ((false,()),())))
    (some ((false,()),())))
   (some ((false,()),())):=by kernel_rfl
theorem ab9(F:FT)(J:JT sQ)(x:((ai×(ab×Unit))×Unit)):bZ 20 sQ Tryz.f20 F J x =
 J z6 (aP Tryz.prog 20 0) (((0:Int),()),(((x.1.1,()),(((x.1.2.1.1,x.1.2.1.2),()),((((0:Int),(0:Int)),()),()))),())):=by kernel_rfl
theorem N1(F:FT)(J:JT sQ)(x:((Int×Unit)×(((ai×Unit)×((ab×Unit)×((ID×Unit)×Unit)))×Unit))):fR 20 0 sQ Tryz.f20 z6 F J x =
  cond (decide (x.1.1<(((List.length x.2.1.1.1.1):Nat):Int)))
   (((aZ x.2.1.1.1.1 x.1.1)).bind fun (y1:ah) =>
   (F 24 pY ((y1.2.1,((x.2.1.2.1.1.1,x.2.1.2.1.1.2),())),())).bind fun (y2:((Int×Unit)×Unit)) =>
   cond (decide (y2.1.1≥(0:Int)))
    (((aZ x.2.1.1.1.1 x.1.1)).bind fun (y3:ah) =>
    some ((y3.1,(true,())),()))
    (J z6 (aP Tryz.prog 20 0) (((IntKind.wrap .i64 (x.1.1+(1:Int))),()),(((x.2.1.1.1,()),(((x.2.1.2.1.1.1,x.2.1.2.1.1.2),()),((x.2.1.2.2.1.1,()),()))),()))))
   (some ((((0:Int),(0:Int)),(false,())),())):=by kernel_rfl
theorem aca(F:FT)(J:JT xe)(x:((ai×(ID×Unit))×Unit)):bZ 21 xe Tryz.f21 F J x =
 J z7 (aP Tryz.prog 21 0) (((0:Int),()),(((x.1.1,()),((x.1.2.1,()),(((((0:Int),(0:Int)),((⟨#[]⟩:ByteArray),(0:Int))),()),()))),())):=by kernel_rfl
theorem N2(F:FT)(J:JT xe)(x:((Int×Unit)×(((ai×Unit)×((ID×Unit)×((af×Unit)×Unit)))×Unit))):fR 21 0 xe Tryz.f21 z7 F J x =
  cond (decide (x.1.1<(((List.length x.2.1.1.1.2):Nat):Int)))
   (((aZ x.2.1.1.1.2 x.1.1)).bind fun (y1:af) =>
   cond ((y1.1.1==x.2.1.2.1.1.1)&&(y1.1.2==x.2.1.2.1.1.2))
    (((aZ x.2.1.1.1.2 x.1.1)).bind fun (y2:af) =>
    some (((y2.1,y2.2),(true,())),()))
    (J z7 (aP Tryz.prog 21 0) (((IntKind.wrap .i64 (x.1.1+(1:Int))),()),(((x.2.1.1.1,()),((x.2.1.2.1.1,()),(((x.2.1.2.2.1.1.1,x.2.1.2.2.1.1.2),()),()))),()))))
   (some (((((0:Int),(0:Int)),((⟨#[]⟩:ByteArray),(0:Int))),(false,())),())):=by kernel_rfl
theorem acb(F:FT)(J:JT FF)(x:((ai×(ab×Unit))×Unit)):bZ 22 FF Tryz.f22 F J x =
  (F 54 Lo ((x.1.1,((x.1.2.1.1,x.1.2.1.2),())),())).bind fun (y1:((ab×(Bool×Unit))×Unit)) =>
  cond (not y1.1.2.1)
   (some ((([]:List ab),()),()))
   (cond (aM (List.length ([]:List ab)) (List.length ((x.1.2.1.1,x.1.2.1.2)::([]:List ab))))
    (J z8 (aP Tryz.prog 22 0) ((),(((x.1.1,()),(((x.1.2.1.1,x.1.2.1.2),()),(((y1.1.1.1,y1.1.1.2),()),()))),((([]:List ab)++((x.1.2.1.1,x.1.2.1.2)::([]:List ab))),()))))
    (none)):=by kernel_rfl
theorem N3(F:FT)(J:JT FF)(x:(Unit×(((ai×Unit)×((ab×Unit)×((ab×Unit)×Unit)))×((List ab)×Unit)))):fR 22 0 FF Tryz.f22 z8 F J x =
  cond (not (((x.2.1.2.2.1.1.1.1==x.2.1.2.1.1.1.1)&&(x.2.1.2.2.1.1.1.2==x.2.1.2.1.1.1.2))&&(x.2.1.2.2.1.1.2==x.2.1.2.1.1.2)))
   (cond (decide ((((List.length x.2.2.1):Nat):Int)<(82:Int)))
    (cond (aM (List.length x.2.2.1) (List.length ((x.2.1.2.2.1.1.1,x.2.1.2.2.1.1.2)::([]:List ab))))
     ((F 54 Lo ((x.2.1.1.1,((x.2.1.2.2.1.1.1,x.2.1.2.2.1.1.2),())),())).bind fun (y2:((ab×(Bool×Unit))×Unit)) =>
     J z8 (aP Tryz.prog 22 0) ((),(((x.2.1.1.1,()),(((x.2.1.2.1.1.1,x.2.1.2.1.1.2),()),(((y2.1.1.1,y2.1.1.2),()),()))),((x.2.2.1++((x.2.1.2.2.1.1.1,x.2.1.2.2.1.1.2)::([]:List ab))),()))))
     (none))
    (some (x.2.2,())))
   (some (x.2.2,())):=by kernel_rfl
theorem acd(F:FT)(J:JT BO)(x:((ab×Unit)×Unit)):bZ 23 BO Tryz.f23 F J x =
 some (((x.1.1.1,(IntKind.wrap .i64 ((1:Int) - x.1.1.2))),()),()):=by kernel_rfl
theorem ace(F:FT)(J:JT pY)(x:(((List ab)×(ab×Unit))×Unit)):bZ 24 pY Tryz.f24 F J x =
 J Aa (aP Tryz.prog 24 0) ((x.1.1,((0:Int),())),((((x.1.2.1.1,x.1.2.1.2),()),()),())):=by kernel_rfl
theorem N4(F:FT)(J:JT pY)(x:(((List ab)×(Int×Unit))×(((ab×Unit)×Unit)×Unit))):fR 24 0 pY Tryz.f24 Aa F J x =
  cond (decide (x.1.2.1<(((List.length x.1.1):Nat):Int)))
   (((aZ x.1.1 x.1.2.1)).bind fun (y1:ab) =>
   cond (((y1.1.1==x.2.1.1.1.1.1)&&(y1.1.2==x.2.1.1.1.1.2))&&(y1.2==x.2.1.1.1.2))
    (some (x.1.2,()))
    (J Aa (aP Tryz.prog 24 0) ((x.1.1,((IntKind.wrap .i64 (x.1.2.1+(1:Int))),())),((((x.2.1.1.1.1,x.2.1.1.1.2),()),()),()))))
   (some (((-1:Int),()),())):=by kernel_rfl
theorem acf(F:FT)(J:JT Lk)(x:(((List ab)×(ab×Unit))×Unit)):bZ 26 Lk Tryz.f26 F J x =
  (F 24 pY ((x.1.1,((x.1.2.1.1,x.1.2.1.2),())),())).bind fun (y1:((Int×Unit)×Unit)) =>
  cond (decide (y1.1.1<(0:Int)))
   (some (((((0:Int),(0:Int)),(0:Int)),(false,())),()))
   (cond ((((List.length x.1.1):Nat):Int)==(0:Int))
    (none)
    (((aZ x.1.1 (Int.tmod (IntKind.wrap .i64 ((IntKind.wrap .i64 (y1.1.1+(((List.length x.1.1):Nat):Int))) - (1:Int))) (((List.length x.1.1):Nat):Int)))).bind fun (y2:ab) =>
    some (((y2.1,y2.2),(true,())),()))):=by kernel_rfl
theorem acg(F:FT)(J:JT zJ)(x:((ai×(ai×Unit))×Unit)):bZ 27 zJ Tryz.f27 F J x =
  cond ((((List.length x.1.1.1):Nat):Int) != (((List.length x.1.2.1.1):Nat):Int))
   (some ((false,()),()))
   (cond ((((List.length x.1.1.2):Nat):Int) != (((List.length x.1.2.1.2):Nat):Int))
    (some ((false,()),()))
    (J Ab (aP Tryz.prog 27 0) (((0:Int),()),(((x.1.1,()),((x.1.2.1,()),())),())))):=by kernel_rfl
theorem N5(F:FT)(J:JT zJ)(x:((Int×Unit)×(((ai×Unit)×((ai×Unit)×Unit))×Unit))):fR 27 0 zJ Tryz.f27 Ab F J x =
  cond (decide (x.1.1<(((List.length x.2.1.1.1.1):Nat):Int)))
   (((aZ x.2.1.1.1.1 x.1.1)).bind fun (y1:ah) =>
   ((aZ x.2.1.2.1.1.1 x.1.1)).bind fun (y2:ah) =>
   (F 57 FL ((y1.2.1,(y2.2.1,())),())).bind fun (y3:((Bool×Unit)×Unit)) =>
   cond (not ((y1.1.1==y2.1.1)&&(y1.1.2==y2.1.2)))
    (some ((false,()),()))
    (cond (not (y1.2.2.1==y2.2.2.1))
     (some ((false,()),()))
     (cond (y1.2.2.2 != y2.2.2.2)
      (some ((false,()),()))
      (cond (not y3.1.1)
       (some ((false,()),()))
       (J Ab (aP Tryz.prog 27 0) (((IntKind.wrap .i64 (x.1.1+(1:Int))),()),(((x.2.1.1.1,()),((x.2.1.2.1.1,()),())),())))))))
   (J Ac (aP Tryz.prog 27 1) (((0:Int),()),(((x.2.1.1.1,()),((x.2.1.2.1.1,()),())),()))):=by kernel_rfl
theorem N6(F:FT)(J:JT zJ)(x:((Int×Unit)×(((ai×Unit)×((ai×Unit)×Unit))×Unit))):fR 27 1 zJ Tryz.f27 Ac F J x =
  cond (decide (x.1.1<(((List.length x.2.1.1.1.2):Nat):Int)))
   (((aZ x.2.1.1.1.2 x.1.1)).bind fun (y4:af) =>
   ((aZ x.2.1.2.1.1.2 x.1.1)).bind fun (y5:af) =>
   cond (not (((y4.1.1==y5.1.1)&&(y4.1.2==y5.1.2))&&((y4.2.1==y5.2.1)&&(y4.2.2==y5.2.2))))
    (some ((false,()),()))
    (J Ac (aP Tryz.prog 27 1) (((IntKind.wrap .i64 (x.1.1+(1:Int))),()),(((x.2.1.1.1,()),((x.2.1.2.1.1,()),())),()))))
   (some ((true,()),())):=by kernel_rfl
theorem ach(F:FT)(J:JT DY)(x:((ByteArray×Unit)×Unit)):bZ 28 DY Tryz.f28 F J x =
 J Ad (aP Tryz.prog 28 0) ((x.1.1,((0:Int),())),((),())):=by kernel_rfl
theorem N7(F:FT)(J:JT DY)(x:((ByteArray×(Int×Unit))×(Unit×Unit))):fR 28 0 DY Tryz.f28 Ad F J x =
  cond (decide (x.1.2.1<(((ByteArray.size x.1.1):Nat):Int)))
   (((if 0≤x.1.2.1 then (x.1.1)[Int.toNat x.1.2.1]? else none)).bind fun (y1:UInt8) =>
   cond (decide (((UInt8.toNat y1:Nat):Int)<(32:Int)))
    (some ((false,()),()))
    (((if 0≤x.1.2.1 then (x.1.1)[Int.toNat x.1.2.1]? else none)).bind fun (y2:UInt8) =>
    cond (decide (((UInt8.toNat y2:Nat):Int) > (126:Int)))
     (some ((false,()),()))
     (J Ad (aP Tryz.prog 28 0) ((x.1.1,((IntKind.wrap .i64 (x.1.2.1+(1:Int))),())),((),())))))
   (some (((decide ((((ByteArray.size x.1.1):Nat):Int)≤(16:Int))),()),())):=by kernel_rfl
theorem aci(F:FT)(J:JT Ll)(x:((Int×Unit)×Unit)):bZ 29 Ll Tryz.f29 F J x =
  cond (decide (x.1.1≥(-1099511627776:Int)))
   (some (((decide (x.1.1≤(1099511627776:Int))),()),()))
   (some ((false,()),())):=by kernel_rfl
theorem Xf(F:FT)(J:JT FG)(x:((StateT×((List bw)×Unit))×Unit)):bZ 30 FG Tryz.f30 F J x =
  (F 58 D2 (x.1.2,())).bind fun (y1:((Int×Unit)×Unit)) =>
  cond (y1.1.1 != (0:Int))
   (some ((((([]:List ah),([]:List af)),([]:List ak)),y1.1),()))
   ((F 44 BR (((x.1.1.1,x.1.1.2),x.1.2),())).bind fun (y2:((StateT×(Int×Unit))×Unit)) =>
   some (((y2.1.1.1,y2.1.1.2),y2.1.2),())):=by kernel_rfl
theorem acj(F:FT)(J:JT FH)(x:((ai×Unit)×Unit)):bZ 31 FH Tryz.f31 F J x =
 (F 59 D3 ((x.1.1,()),())).bind fun (y1:(((List ab)×Unit)×Unit)) =>
 J vq (aP Tryz.prog 31 0) (((0:Int),()),(((x.1.1,()),()),(([]:List (List ab)),(([]:List ab),y1.1)))):=by kernel_rfl
theorem N8(F:FT)(J:JT FH)(x:((Int×Unit)×(((ai×Unit)×Unit)×((List (List ab))×((List ab)×((List ab)×Unit)))))):fR 31 0 FH Tryz.f31 vq F J x =
  cond (decide (x.1.1<(((List.length x.2.2.2.2.1):Nat):Int)))
   (cond ((decide ((0:Int)≤x.1.1))&&(decide (x.1.1<(((List.length x.2.2.2.2.1):Nat):Int))))
    (((x.2.2.2.2.1)[(Int.toNat x.1.1)]?).bind fun (y2:ab) =>
    (F 24 pY ((x.2.2.2.1,((y2.1,y2.2),())),())).bind fun (y3:((Int×Unit)×Unit)) =>
    cond (decide (y3.1.1≥(0:Int)))
     (J vq (aP Tryz.prog 31 0) (((IntKind.wrap .i64 (x.1.1+(1:Int))),()),(((x.2.1.1.1,()),()),(x.2.2.1,(x.2.2.2.1,x.2.2.2.2)))))
     (cond ((decide ((0:Int)≤x.1.1))&&(decide (x.1.1<(((List.length x.2.2.2.2.1):Nat):Int))))
      (((x.2.2.2.2.1)[(Int.toNat x.1.1)]?).bind fun (y4:ab) =>
      (F 22 FF ((x.2.1.1.1,((y4.1,y4.2),())),())).bind fun (y5:(((List ab)×Unit)×Unit)) =>
      cond (aM (List.length x.2.2.1) (List.length (y5.1.1::([]:List (List ab)))))
       (cond (aM (List.length x.2.2.2.1) (List.length y5.1.1))
        (J vq (aP Tryz.prog 31 0) (((IntKind.wrap .i64 (x.1.1+(1:Int))),()),(((x.2.1.1.1,()),()),((x.2.2.1++(y5.1.1::([]:List (List ab)))),((x.2.2.2.1++y5.1.1),x.2.2.2.2)))))
        (none))
       (none))
      (none)))
    (none))
   (some ((x.2.2.1,()),())):=by kernel_rfl
theorem ack(F:FT)(J:JT FI)(x:((ai×Unit)×Unit)):bZ 32 FI Tryz.f32 F J x =
 (F 56 rq ((x.1.1,()),())).bind fun (y1:(((List Int)×Unit)×Unit)) =>
 J vt (aP Tryz.prog 32 0) (((0:Int),((0:Int),())),((),y1.1)):=by kernel_rfl
theorem N9(F:FT)(J:JT FI)(x:((Int×(Int×Unit))×(Unit×((List Int)×Unit)))):fR 32 0 FI Tryz.f32 vt F J x =
  cond (decide (x.1.2.1<(((List.length x.2.2.1):Nat):Int)))
   (cond ((decide ((0:Int)≤x.1.2.1))&&(decide (x.1.2.1<(((List.length x.2.2.1):Nat):Int))))
    (((x.2.2.1)[(Int.toNat x.1.2.1)]?).bind fun (y2:Int) =>
    cond (y2==x.1.2.1)
     (J vt (aP Tryz.prog 32 0) (((IntKind.wrap .i64 (x.1.1+(1:Int))),((IntKind.wrap .i64 (x.1.2.1+(1:Int))),())),((),x.2.2)))
     (J vt (aP Tryz.prog 32 0) ((x.1.1,((IntKind.wrap .i64 (x.1.2.1+(1:Int))),())),((),x.2.2))))
    (none))
   (some ((x.1.1,()),())):=by kernel_rfl
theorem acm(F:FT)(J:JT NO)(x:(Unit×Unit)):bZ 33 NO Tryz.f33 F J x =
 some ((((([]:List ah),([]:List af)),([]:List ak)),()),()):=by kernel_rfl
theorem acn(F:FT)(J:JT FJ)(x:(((List bw)×Unit)×Unit)):bZ 34 FJ Tryz.f34 F J x =
  cond (decide ((((List.length x.1.1):Nat):Int) > (8:Int)))
   (cond (aW (List.length x.1.1) (0:Int) (8:Int))
    (some (((cut x.1.1 (0:Int) (8:Int)),()),()))
    (none))
   (some (x.1,())):=by kernel_rfl
theorem aco(F:FT)(J:JT FK)(x:((StateT×((List bw)×Unit))×Unit)):bZ 35 FK Tryz.f35 F J x =
  (F 41 DZ (x.1.2,())).bind fun (y1:((Int×Unit)×Unit)) =>
  cond (y1.1.1 != (0:Int))
   (some ((((([]:List ah),([]:List af)),([]:List ak)),y1.1),()))
   (J Ae (aP Tryz.prog 35 0) (((0:Int),()),((((x.1.1.1,x.1.1.2),()),(x.1.2,((([]:List ah),(([]:List af),(([]:List ak),()))),()))),()))):=by kernel_rfl
theorem Oa(F:FT)(J:JT FK)(x:((Int×Unit)×(((StateT×Unit)×(((List bw)×Unit)×(aC×Unit)))×Unit))):fR 35 0 FK Tryz.f35 Ae F J x =
  cond (decide (x.1.1<(((List.length x.2.1.2.1.1):Nat):Int)))
   (((aZ x.2.1.2.1.1 x.1.1)).bind fun (y2:bw) =>
   (F 15 NM (((x.2.1.1.1.1,x.2.1.1.1.2),((y2.1,(y2.2.1,(y2.2.2.1,(y2.2.2.2.1,((y2.2.2.2.2.1.1,(y2.2.2.2.2.1.2.1,y2.2.2.2.2.1.2.2)),((y2.2.2.2.2.2.1.1,(y2.2.2.2.2.2.1.2.1,y2.2.2.2.2.2.1.2.2)),(y2.2.2.2.2.2.2.1,y2.2.2.2.2.2.2.2))))))),())),())).bind fun (y3:((StateT×(Int×Unit))×Unit)) =>
   cond (y3.1.2.1 != (0:Int))
    (some ((((([]:List ah),([]:List af)),([]:List ak)),y3.1.2),()))
    (J Ae (aP Tryz.prog 35 0) (((IntKind.wrap .i64 (x.1.1+(1:Int))),()),((((y3.1.1.1,y3.1.1.2),()),(x.2.1.2.1,((x.2.1.2.2.1.1,(x.2.1.2.2.1.2.1,x.2.1.2.2.1.2.2)),()))),()))))
   (some (((x.2.1.1.1.1,x.2.1.1.1.2),((0:Int),())),())):=by kernel_rfl
theorem acp(F:FT)(J:JT Lm)(x:((StateT×((List bw)×Unit))×Unit)):bZ 36 Lm Tryz.f36 F J x =
  (F 30 FG (((x.1.1.1,x.1.1.2),x.1.2),())).bind fun (y1:((StateT×(Int×Unit))×Unit)) =>
  cond (y1.1.2.1 != (0:Int))
   ((F 60 D4 ((x.1.1.1,()),())).bind fun (y2:((((List ah)×((List af)×Unit))×Unit)×Unit)) =>
   (F 61 FM ((x.1.1.2,()),())).bind fun (y3:(((List ak)×Unit)×Unit)) =>
   some ((((y2.1.1.1,y2.1.1.2.1),y3.1.1),()),()))
   (some (((y1.1.1.1,y1.1.1.2),()),())):=by kernel_rfl
theorem acq(F:FT)(J:JT NP)(x:((StateT×((List bw)×Unit))×Unit)):bZ 37 NP Tryz.f37 F J x =
  (F 35 FK (((x.1.1.1,x.1.1.2),x.1.2),())).bind fun (y1:((StateT×(Int×Unit))×Unit)) =>
  cond (y1.1.2.1 != (0:Int))
   (some (((x.1.1.1,x.1.1.2),()),()))
   (some (((y1.1.1.1,y1.1.1.2),()),())):=by kernel_rfl
theorem acr(F:FT)(J:JT BP)(x:((ai×Unit)×Unit)):bZ 38 BP Tryz.f38 F J x =
  cond (aM (List.length ([]:List af)) (List.length x.1.1.2))
   (J Af (aP Tryz.prog 38 0) (((0:Int),()),(((x.1.1,()),((([]:List ah),(([]:List af),())),((([]:List ah),((([]:List af)++x.1.1.2),())),()))),())))
   (none):=by kernel_rfl
theorem Oc(F:FT)(J:JT BP)(x:((Int×Unit)×(((ai×Unit)×(((List ah)×((List af)×Unit))×(((List ah)×((List af)×Unit))×Unit)))×Unit))):fR 38 0 BP Tryz.f38 Af F J x =
  cond (decide (x.1.1<(((List.length x.2.1.1.1.1):Nat):Int)))
   (((aZ x.2.1.1.1.1 x.1.1)).bind fun (y1:ah) =>
   cond (aM (List.length ([]:List ab)) (List.length y1.2.1))
    (cond (aM (List.length x.2.1.2.2.1.1) (List.length ((y1.1,((([]:List ab)++y1.2.1),y1.2.2))::([]:List ah))))
     (J Af (aP Tryz.prog 38 0) (((IntKind.wrap .i64 (x.1.1+(1:Int))),()),(((x.2.1.1.1,()),((x.2.1.2.1.1,x.2.1.2.1.2),(((x.2.1.2.2.1.1++((y1.1,((([]:List ab)++y1.2.1),y1.2.2))::([]:List ah))),x.2.1.2.2.1.2),()))),())))
     (none))
    (none))
   (some (((x.2.1.2.2.1.1,x.2.1.2.2.1.2),()),())):=by kernel_rfl
theorem acs(F:FT)(J:JT DZ)(x:(((List bw)×Unit)×Unit)):bZ 41 DZ Tryz.f41 F J x =
  cond (decide ((((List.length x.1.1):Nat):Int)<(1:Int)))
   (some (((3:Int),()),()))
   (cond (decide ((((List.length x.1.1):Nat):Int) > (6:Int)))
    (some (((3:Int),()),()))
    (J Ag (aP Tryz.prog 41 0) (((0:Int),()),((x.1,()),())))):=by kernel_rfl
theorem Od(F:FT)(J:JT DZ)(x:((Int×Unit)×((((List bw)×Unit)×Unit)×Unit))):fR 41 0 DZ Tryz.f41 Ag F J x =
  cond (decide (x.1.1<(((List.length x.2.1.1.1):Nat):Int)))
   (((aZ x.2.1.1.1 x.1.1)).bind fun (y1:bw) =>
   (F 45 Ln (((y1.1,(y1.2.1,(y1.2.2.1,(y1.2.2.2.1,((y1.2.2.2.2.1.1,(y1.2.2.2.2.1.2.1,y1.2.2.2.2.1.2.2)),((y1.2.2.2.2.2.1.1,(y1.2.2.2.2.2.1.2.1,y1.2.2.2.2.2.1.2.2)),(y1.2.2.2.2.2.2.1,y1.2.2.2.2.2.2.2))))))),()),())).bind fun (y2:((Int×Unit)×Unit)) =>
   cond (y2.1.1 != (0:Int))
    (some (y2.1,()))
    (J Ag (aP Tryz.prog 41 0) (((IntKind.wrap .i64 (x.1.1+(1:Int))),()),((x.2.1.1,()),()))))
   (some (((0:Int),()),())):=by kernel_rfl
theorem acu(F:FT)(J:JT NQ)(x:((Int×Unit)×Unit)):bZ 42 NQ Tryz.f42 F J x =
 some (((((1:Int),(((1:Int),x.1.1),(((0:Int),(0:Int)),(((0:Int),(0:Int)),((((0:Int),(0:Int)),(((0:Int),(0:Int)),(0:Int))),((((0:Int),(0:Int)),(((0:Int),(0:Int)),(0:Int))),(false,((⟨#[]⟩:ByteArray),(0:Int)))))))))::([]:List bw)),()),()):=by kernel_rfl
theorem Xg(F:FT)(J:JT BQ)(x:((bw×Unit)×Unit)):bZ 43 BQ Tryz.f43 F J x =
  (F 65 FO (((x.1.1.1,(x.1.1.2.1,(x.1.1.2.2.1,(x.1.1.2.2.2.1,((x.1.1.2.2.2.2.1.1,(x.1.1.2.2.2.2.1.2.1,x.1.1.2.2.2.2.1.2.2)),((x.1.1.2.2.2.2.2.1.1,(x.1.1.2.2.2.2.2.1.2.1,x.1.1.2.2.2.2.2.1.2.2)),(x.1.1.2.2.2.2.2.2.1,x.1.1.2.2.2.2.2.2.2))))))),()),())).bind fun (y1:((bw×(Int×Unit))×Unit)) =>
  cond (not ((y1.1.1.1==x.1.1.1)&&(((y1.1.1.2.1.1==x.1.1.2.1.1)&&(y1.1.1.2.1.2==x.1.1.2.1.2))&&(((y1.1.1.2.2.1.1==x.1.1.2.2.1.1)&&(y1.1.1.2.2.1.2==x.1.1.2.2.1.2))&&(((y1.1.1.2.2.2.1.1==x.1.1.2.2.2.1.1)&&(y1.1.1.2.2.2.1.2==x.1.1.2.2.2.1.2))&&((((y1.1.1.2.2.2.2.1.1.1==x.1.1.2.2.2.2.1.1.1)&&(y1.1.1.2.2.2.2.1.1.2==x.1.1.2.2.2.2.1.1.2))&&(((y1.1.1.2.2.2.2.1.2.1.1==x.1.1.2.2.2.2.1.2.1.1)&&(y1.1.1.2.2.2.2.1.2.1.2==x.1.1.2.2.2.2.1.2.1.2))&&(y1.1.1.2.2.2.2.1.2.2==x.1.1.2.2.2.2.1.2.2)))&&((((y1.1.1.2.2.2.2.2.1.1.1==x.1.1.2.2.2.2.2.1.1.1)&&(y1.1.1.2.2.2.2.2.1.1.2==x.1.1.2.2.2.2.2.1.1.2))&&(((y1.1.1.2.2.2.2.2.1.2.1.1==x.1.1.2.2.2.2.2.1.2.1.1)&&(y1.1.1.2.2.2.2.2.1.2.1.2==x.1.1.2.2.2.2.2.1.2.1.2))&&(y1.1.1.2.2.2.2.2.1.2.2==x.1.1.2.2.2.2.2.1.2.2)))&&((y1.1.1.2.2.2.2.2.2.1==x.1.1.2.2.2.2.2.2.1)&&((y1.1.1.2.2.2.2.2.2.2.1==x.1.1.2.2.2.2.2.2.2.1)&&(y1.1.1.2.2.2.2.2.2.2.2==x.1.1.2.2.2.2.2.2.2.2))))))))))
   (some (((1:Int),()),()))
   (some (y1.1.2,())):=by kernel_rfl
theorem Xh(F:FT)(J:JT BR)(x:((StateT×((List bw)×Unit))×Unit)):bZ 44 BR Tryz.f44 F J x =
 (F 60 D4 ((x.1.1.1,()),())).bind fun (y1:((((List ah)×((List af)×Unit))×Unit)×Unit)) =>
 (F 61 FM ((x.1.1.2,()),())).bind fun (y2:(((List ak)×Unit)×Unit)) =>
 J Ah (aP Tryz.prog 44 0) ((x.1.2.1,((((List.length x.1.2.1):Nat):Int),((0:Int),()))),(((([]:List ah),(([]:List af),(([]:List ak),()))),((y1.1.1.1,(y1.1.1.2.1,y2.1)),())),())):=by kernel_rfl
theorem D7(F:FT)(J:JT BR)(x:(((List bw)×(Int×(Int×Unit)))×((aC×(aC×Unit))×Unit))):fR 44 0 BR Tryz.f44 Ah F J x =
  cond (decide (x.1.2.2.1<x.1.2.1))
   (((aZ x.1.1 x.1.2.2.1)).bind fun (y3:bw) =>
   (F 66 xg (((y3.1,(y3.2.1,(y3.2.2.1,(y3.2.2.2.1,((y3.2.2.2.2.1.1,(y3.2.2.2.2.1.2.1,y3.2.2.2.2.1.2.2)),((y3.2.2.2.2.2.1.1,(y3.2.2.2.2.2.1.2.1,y3.2.2.2.2.2.1.2.2)),(y3.2.2.2.2.2.2.1,y3.2.2.2.2.2.2.2))))))),()),((x.2.1.2.1.1,(x.2.1.2.1.2.1,x.2.1.2.1.2.2)),()))).bind fun (y4:((Int×Unit)×(aC×Unit))) =>
   cond (y4.1.1 != (0:Int))
    (some ((((([]:List ah),([]:List af)),([]:List ak)),y4.1),()))
    (J Ah (aP Tryz.prog 44 0) ((x.1.1,(x.1.2.1,((IntKind.wrap .i64 (x.1.2.2.1+(1:Int))),()))),(((x.2.1.1.1,(x.2.1.1.2.1,x.2.1.1.2.2)),((y4.2.1.1,(y4.2.1.2.1,y4.2.1.2.2)),())),()))))
   (some ((((x.2.1.2.1.1,x.2.1.2.1.2.1),x.2.1.2.1.2.2.1),((0:Int),())),())):=by kernel_rfl
theorem acv(F:FT)(J:JT Ln)(x:((bw×Unit)×Unit)):bZ 45 Ln Tryz.f45 F J x =
  (F 19 zH ((x.1.1.2.1,()),())).bind fun (y1:((Bool×Unit)×Unit)) =>
  cond (decide (x.1.1.1<(1:Int)))
   (some (((1:Int),()),()))
   (cond (decide (x.1.1.1 > (8:Int)))
    (some (((1:Int),()),()))
    (cond (not y1.1.1)
     (some (((1:Int),()),()))
     ((F 67 Lr (((x.1.1.1,(x.1.1.2.1,(x.1.1.2.2.1,(x.1.1.2.2.2.1,((x.1.1.2.2.2.2.1.1,(x.1.1.2.2.2.2.1.2.1,x.1.1.2.2.2.2.1.2.2)),((x.1.1.2.2.2.2.2.1.1,(x.1.1.2.2.2.2.2.1.2.1,x.1.1.2.2.2.2.2.1.2.2)),(x.1.1.2.2.2.2.2.2.1,x.1.1.2.2.2.2.2.2.2))))))),()),())).bind fun (y2:((bw×Unit)×Unit)) =>
     cond (not ((y2.1.1.1==(0:Int))&&(((y2.1.1.2.1.1==(0:Int))&&(y2.1.1.2.1.2==(0:Int)))&&(((y2.1.1.2.2.1.1==(0:Int))&&(y2.1.1.2.2.1.2==(0:Int)))&&(((y2.1.1.2.2.2.1.1==(0:Int))&&(y2.1.1.2.2.2.1.2==(0:Int)))&&((((y2.1.1.2.2.2.2.1.1.1==(0:Int))&&(y2.1.1.2.2.2.2.1.1.2==(0:Int)))&&(((y2.1.1.2.2.2.2.1.2.1.1==(0:Int))&&(y2.1.1.2.2.2.2.1.2.1.2==(0:Int)))&&(y2.1.1.2.2.2.2.1.2.2==(0:Int))))&&((((y2.1.1.2.2.2.2.2.1.1.1==(0:Int))&&(y2.1.1.2.2.2.2.2.1.1.2==(0:Int)))&&(((y2.1.1.2.2.2.2.2.1.2.1.1==(0:Int))&&(y2.1.1.2.2.2.2.2.1.2.1.2==(0:Int)))&&(y2.1.1.2.2.2.2.2.1.2.2==(0:Int))))&&((y2.1.1.2.2.2.2.2.2.1==false)&&((y2.1.1.2.2.2.2.2.2.2.1==(⟨#[]⟩:ByteArray))&&(y2.1.1.2.2.2.2.2.2.2.2==(0:Int)))))))))))
      (some (((1:Int),()),()))
      (cond (x.1.1.1==(3:Int))
       ((F 68 Ls (((x.1.1.2.2.2.2.1.1,(x.1.1.2.2.2.2.1.2.1,x.1.1.2.2.2.2.1.2.2)),()),())).bind fun (y3:((Bool×Unit)×Unit)) =>
       (F 68 Ls (((x.1.1.2.2.2.2.2.1.1,(x.1.1.2.2.2.2.2.1.2.1,x.1.1.2.2.2.2.2.1.2.2)),()),())).bind fun (y4:((Bool×Unit)×Unit)) =>
       cond (not y3.1.1)
        (some (((1:Int),()),()))
        (cond (not y4.1.1)
         (some (((1:Int),()),()))
         (some (((0:Int),()),()))))
       (cond (x.1.1.1==(5:Int))
        ((F 19 zH ((x.1.1.2.2.1,()),())).bind fun (y5:((Bool×Unit)×Unit)) =>
        (F 19 zH ((x.1.1.2.2.2.1,()),())).bind fun (y6:((Bool×Unit)×Unit)) =>
        cond (not y5.1.1)
         (some (((1:Int),()),()))
         (cond (not y6.1.1)
          (some (((1:Int),()),()))
          (cond (decide (x.1.1.2.2.2.2.2.2.2.2<(0:Int)))
           (some (((1:Int),()),()))
           (cond (decide (x.1.1.2.2.2.2.2.2.2.2 > (3:Int)))
            (some (((1:Int),()),()))
            (some (((0:Int),()),()))))))
        (cond (x.1.1.1==(6:Int))
         ((F 19 zH ((x.1.1.2.2.2.1,()),())).bind fun (y7:((Bool×Unit)×Unit)) =>
         cond (not y7.1.1)
          (some (((1:Int),()),()))
          (some (((0:Int),()),())))
         (cond (x.1.1.1==(8:Int))
          ((F 29 Ll ((x.1.1.2.2.2.2.2.2.2.2,()),())).bind fun (y8:((Bool×Unit)×Unit)) =>
          cond (not y8.1.1)
           (some (((1:Int),()),()))
           (some (((0:Int),()),())))
          (cond (x.1.1.1==(7:Int))
           ((F 28 DY ((x.1.1.2.2.2.2.2.2.2.1,()),())).bind fun (y9:((Bool×Unit)×Unit)) =>
           cond (not y9.1.1)
            (some (((4:Int),()),()))
            (some (((0:Int),()),())))
           (some (((0:Int),()),())))))))))):=by kernel_rfl
theorem acw(F:FT)(J:JT D0)(x:((ai×(ah×Unit))×Unit)):bZ 46 D0 Tryz.f46 F J x =
 J sR (aP Tryz.prog 46 0) ((false,((0:Int),())),(((x.1.1,()),(((x.1.2.1.1,(x.1.2.1.2.1,x.1.2.1.2.2)),()),((([]:List ah),(([]:List af),())),((([]:List ah),(x.1.1.2,())),())))),())):=by kernel_rfl
theorem Oe(F:FT)(J:JT D0)(x:((Bool×(Int×Unit))×(((ai×Unit)×((ah×Unit)×(((List ah)×((List af)×Unit))×(((List ah)×((List af)×Unit))×Unit))))×Unit))):fR 46 0 D0 Tryz.f46 sR F J x =
  cond (decide (x.1.2.1<(((List.length x.2.1.1.1.1):Nat):Int)))
   (cond (not x.1.1)
    (((aZ x.2.1.1.1.1 x.1.2.1)).bind fun (y1:ah) =>
    (F 69 FP ((x.2.1.2.1.1.1,(y1.1,())),())).bind fun (y2:((Int×Unit)×Unit)) =>
    cond (decide (y2.1.1<(0:Int)))
     (cond (aM (List.length x.2.1.2.2.2.1.1) (List.length ((x.2.1.2.1.1.1,(x.2.1.2.1.1.2.1,x.2.1.2.1.1.2.2))::([]:List ah))))
      (((aZ x.2.1.1.1.1 x.1.2.1)).bind fun (y3:ah) =>
      cond (aM (List.length (x.2.1.2.2.2.1.1++((x.2.1.2.1.1.1,(x.2.1.2.1.1.2.1,x.2.1.2.1.1.2.2))::([]:List ah)))) (List.length ((y3.1,(y3.2.1,y3.2.2))::([]:List ah))))
       (J sR (aP Tryz.prog 46 0) ((true,((IntKind.wrap .i64 (x.1.2.1+(1:Int))),())),(((x.2.1.1.1,()),(((x.2.1.2.1.1.1,(x.2.1.2.1.1.2.1,x.2.1.2.1.1.2.2)),()),((x.2.1.2.2.1.1,x.2.1.2.2.1.2),((((x.2.1.2.2.2.1.1++((x.2.1.2.1.1.1,(x.2.1.2.1.1.2.1,x.2.1.2.1.1.2.2))::([]:List ah)))++((y3.1,(y3.2.1,y3.2.2))::([]:List ah))),x.2.1.2.2.2.1.2),())))),())))
       (none))
      (none))
     (((aZ x.2.1.1.1.1 x.1.2.1)).bind fun (y4:ah) =>
     cond (aM (List.length x.2.1.2.2.2.1.1) (List.length ((y4.1,(y4.2.1,y4.2.2))::([]:List ah))))
      (J sR (aP Tryz.prog 46 0) ((x.1.1,((IntKind.wrap .i64 (x.1.2.1+(1:Int))),())),(((x.2.1.1.1,()),(((x.2.1.2.1.1.1,(x.2.1.2.1.1.2.1,x.2.1.2.1.1.2.2)),()),((x.2.1.2.2.1.1,x.2.1.2.2.1.2),(((x.2.1.2.2.2.1.1++((y4.1,(y4.2.1,y4.2.2))::([]:List ah))),x.2.1.2.2.2.1.2),())))),())))
      (none)))
    (((aZ x.2.1.1.1.1 x.1.2.1)).bind fun (y5:ah) =>
    cond (aM (List.length x.2.1.2.2.2.1.1) (List.length ((y5.1,(y5.2.1,y5.2.2))::([]:List ah))))
     (J sR (aP Tryz.prog 46 0) ((x.1.1,((IntKind.wrap .i64 (x.1.2.1+(1:Int))),())),(((x.2.1.1.1,()),(((x.2.1.2.1.1.1,(x.2.1.2.1.1.2.1,x.2.1.2.1.1.2.2)),()),((x.2.1.2.2.1.1,x.2.1.2.2.1.2),(((x.2.1.2.2.2.1.1++((y5.1,(y5.2.1,y5.2.2))::([]:List ah))),x.2.1.2.2.2.1.2),())))),())))
     (none)))
   (cond (not x.1.1)
    (cond (aM (List.length x.2.1.2.2.2.1.1) (List.length ((x.2.1.2.1.1.1,(x.2.1.2.1.1.2.1,x.2.1.2.1.1.2.2))::([]:List ah))))
     (some ((((x.2.1.2.2.2.1.1++((x.2.1.2.1.1.1,(x.2.1.2.1.1.2.1,x.2.1.2.1.1.2.2))::([]:List ah))),x.2.1.2.2.2.1.2.1),()),()))
     (none))
    (some (((x.2.1.2.2.2.1.1,x.2.1.2.2.2.1.2.1),()),()))):=by kernel_rfl
theorem acx(F:FT)(J:JT oq)(x:((ai×(ID×(ID×Unit)))×Unit)):bZ 47 oq Tryz.f47 F J x =
 J vu (aP Tryz.prog 47 0) (((0:Int),()),(((x.1.1,()),((x.1.2.1,()),((x.1.2.2.1,()),((([]:List ah),(([]:List af),())),((([]:List ah),(([]:List af),())),()))))),())):=by kernel_rfl
theorem Og(F:FT)(J:JT oq)(x:((Int×Unit)×(((ai×Unit)×((ID×Unit)×((ID×Unit)×(((List ah)×((List af)×Unit))×(((List ah)×((List af)×Unit))×Unit)))))×Unit))):fR 47 0 oq Tryz.f47 vu F J x =
  cond (decide (x.1.1<(((List.length x.2.1.1.1.1):Nat):Int)))
   (((aZ x.2.1.1.1.1 x.1.1)).bind fun (y1:ah) =>
   cond (not ((y1.1.1==x.2.1.2.1.1.1)&&(y1.1.2==x.2.1.2.1.1.2)))
    (((aZ x.2.1.1.1.1 x.1.1)).bind fun (y2:ah) =>
    cond (aM (List.length x.2.1.2.2.2.2.1.1) (List.length ((y2.1,(y2.2.1,y2.2.2))::([]:List ah))))
     (J vu (aP Tryz.prog 47 0) (((IntKind.wrap .i64 (x.1.1+(1:Int))),()),(((x.2.1.1.1,()),((x.2.1.2.1.1,()),((x.2.1.2.2.1.1,()),((x.2.1.2.2.2.1.1,x.2.1.2.2.2.1.2),(((x.2.1.2.2.2.2.1.1++((y2.1,(y2.2.1,y2.2.2))::([]:List ah))),x.2.1.2.2.2.2.1.2),()))))),())))
     (none))
    (J vu (aP Tryz.prog 47 0) (((IntKind.wrap .i64 (x.1.1+(1:Int))),()),(((x.2.1.1.1,()),((x.2.1.2.1.1,()),((x.2.1.2.2.1.1,()),((x.2.1.2.2.2.1.1,x.2.1.2.2.2.1.2),((x.2.1.2.2.2.2.1.1,x.2.1.2.2.2.2.1.2),()))))),()))))
   (J vv (aP Tryz.prog 47 1) (((0:Int),()),(((x.2.1.1.1,()),((x.2.1.2.2.1.1,()),((x.2.1.2.2.2.1.1,x.2.1.2.2.2.1.2),((x.2.1.2.2.2.2.1.1,x.2.1.2.2.2.2.1.2),())))),()))):=by kernel_rfl
theorem Oh(F:FT)(J:JT oq)(x:((Int×Unit)×(((ai×Unit)×((ID×Unit)×(((List ah)×((List af)×Unit))×(((List ah)×((List af)×Unit))×Unit))))×Unit))):fR 47 1 oq Tryz.f47 vv F J x =
  cond (decide (x.1.1<(((List.length x.2.1.1.1.2):Nat):Int)))
   (((aZ x.2.1.1.1.2 x.1.1)).bind fun (y3:af) =>
   cond (not ((y3.1.1==x.2.1.2.1.1.1)&&(y3.1.2==x.2.1.2.1.1.2)))
    (((aZ x.2.1.1.1.2 x.1.1)).bind fun (y4:af) =>
    cond (aM (List.length x.2.1.2.2.2.1.2.1) (List.length ((y4.1,y4.2)::([]:List af))))
     (J vv (aP Tryz.prog 47 1) (((IntKind.wrap .i64 (x.1.1+(1:Int))),()),(((x.2.1.1.1,()),((x.2.1.2.1.1,()),((x.2.1.2.2.1.1,x.2.1.2.2.1.2),((x.2.1.2.2.2.1.1,((x.2.1.2.2.2.1.2.1++((y4.1,y4.2)::([]:List af))),())),())))),())))
     (none))
    (J vv (aP Tryz.prog 47 1) (((IntKind.wrap .i64 (x.1.1+(1:Int))),()),(((x.2.1.1.1,()),((x.2.1.2.1.1,()),((x.2.1.2.2.1.1,x.2.1.2.2.1.2),((x.2.1.2.2.2.1.1,x.2.1.2.2.2.1.2),())))),()))))
   (some (((x.2.1.2.2.2.1.1,x.2.1.2.2.2.1.2.1),()),())):=by kernel_rfl
theorem acy(F:FT)(J:JT NR)(x:((StateT×(bw×Unit))×Unit)):bZ 48 NR Tryz.f48 F J x =
  (F 21 xe ((x.1.1.1,(x.1.2.1.2.1,())),())).bind fun (y1:((af×(Bool×Unit))×Unit)) =>
  cond y1.1.2.1
   (some ((((([]:List ah),([]:List af)),([]:List ak)),((12:Int),())),()))
   (cond (decide ((((List.length x.1.1.1.2):Nat):Int)≥(40:Int)))
    (some ((((([]:List ah),([]:List af)),([]:List ak)),((3:Int),())),()))
    ((F 70 Lt (((x.1.1.1,x.1.1.2),((x.1.2.1.2.2.2.2.1.1,(x.1.2.1.2.2.2.2.1.2.1,x.1.2.1.2.2.2.2.1.2.2)),())),())).bind fun (y2:((oX×(Int×Unit))×Unit)) =>
    (F 70 Lt (((x.1.1.1,x.1.1.2),((x.1.2.1.2.2.2.2.2.1.1,(x.1.2.1.2.2.2.2.2.1.2.1,x.1.2.1.2.2.2.2.2.1.2.2)),())),())).bind fun (y3:((oX×(Int×Unit))×Unit)) =>
    (F 18 oY ((x.1.1.1,(x.1.2.1.2.2.2.2.2.1.1,())),())).bind fun (y4:((ah×(Bool×Unit))×Unit)) =>
    cond y4.1.2.1
     (cond (((x.1.2.1.2.2.2.2.2.1.2.1.1==x.1.2.1.2.1.1)&&(x.1.2.1.2.2.2.2.2.1.2.1.2==x.1.2.1.2.1.2))&&(x.1.2.1.2.2.2.2.2.1.2.2==(0:Int)))
      (cond (y2.1.2.1 != (0:Int))
       (some ((((([]:List ah),([]:List af)),([]:List ak)),((13:Int),())),()))
       (cond (y3.1.2.1 != (0:Int))
        (some ((((([]:List ah),([]:List af)),([]:List ak)),((13:Int),())),()))
        ((F 71 xh ((x.1.1.1,((x.1.2.1.2.1,((⟨#[]⟩:ByteArray),(0:Int))),())),())).bind fun (y5:((ai×Unit)×Unit)) =>
        (F 72 xi ((y5.1.1,((y2.1.1.1,(y2.1.1.2.1,y2.1.1.2.2)),((x.1.2.1.2.1,(0:Int)),()))),())).bind fun (y6:((ai×Unit)×Unit)) =>
        (F 72 xi ((y6.1.1,((x.1.2.1.2.2.2.2.2.1.1,(x.1.2.1.2.2.2.2.2.1.2.1,x.1.2.1.2.2.2.2.2.1.2.2)),((x.1.2.1.2.1,(1:Int)),()))),())).bind fun (y7:((ai×Unit)×Unit)) =>
        (F 64 FN ((y7.1.1,()),())).bind fun (y8:((Int×Unit)×Unit)) =>
        cond (y8.1.1 != (0:Int))
         (some ((((([]:List ah),([]:List af)),([]:List ak)),((15:Int),())),()))
         (some (((y7.1.1,x.1.1.2),((0:Int),())),())))))
      (cond (y2.1.2.1 != (0:Int))
       (some ((((([]:List ah),([]:List af)),([]:List ak)),((13:Int),())),()))
       (cond (y3.1.2.1 != (0:Int))
        (some ((((([]:List ah),([]:List af)),([]:List ak)),((13:Int),())),()))
        ((F 71 xh ((x.1.1.1,((x.1.2.1.2.1,((⟨#[]⟩:ByteArray),(0:Int))),())),())).bind fun (y9:((ai×Unit)×Unit)) =>
        (F 72 xi ((y9.1.1,((y2.1.1.1,(y2.1.1.2.1,y2.1.1.2.2)),((x.1.2.1.2.1,(0:Int)),()))),())).bind fun (ou:((ai×Unit)×Unit)) =>
        (F 72 xi ((ou.1.1,((y3.1.1.1,(y3.1.1.2.1,y3.1.1.2.2)),((x.1.2.1.2.1,(1:Int)),()))),())).bind fun (kC:((ai×Unit)×Unit)) =>
        (F 64 FN ((kC.1.1,()),())).bind fun (lP:((Int×Unit)×Unit)) =>
        cond (lP.1.1 != (0:Int))
         (some ((((([]:List ah),([]:List af)),([]:List ak)),((15:Int),())),()))
         (some (((kC.1.1,x.1.1.2),((0:Int),())),()))))))
     (cond (y2.1.2.1 != (0:Int))
      (some ((((([]:List ah),([]:List af)),([]:List ak)),((13:Int),())),()))
      (cond (y3.1.2.1 != (0:Int))
       (some ((((([]:List ah),([]:List af)),([]:List ak)),((13:Int),())),()))
       ((F 71 xh ((x.1.1.1,((x.1.2.1.2.1,((⟨#[]⟩:ByteArray),(0:Int))),())),())).bind fun (kD:((ai×Unit)×Unit)) =>
       (F 72 xi ((kD.1.1,((y2.1.1.1,(y2.1.1.2.1,y2.1.1.2.2)),((x.1.2.1.2.1,(0:Int)),()))),())).bind fun (Bq:((ai×Unit)×Unit)) =>
       (F 72 xi ((Bq.1.1,((y3.1.1.1,(y3.1.1.2.1,y3.1.1.2.2)),((x.1.2.1.2.1,(1:Int)),()))),())).bind fun (rT:((ai×Unit)×Unit)) =>
       (F 64 FN ((rT.1.1,()),())).bind fun (SW:((Int×Unit)×Unit)) =>
       cond (SW.1.1 != (0:Int))
        (some ((((([]:List ah),([]:List af)),([]:List ak)),((15:Int),())),()))
        (some (((rT.1.1,x.1.1.2),((0:Int),())),()))))))):=by kernel_rfl
theorem acz(F:FT)(J:JT NS)(x:((StateT×(bw×Unit))×Unit)):bZ 49 NS Tryz.f49 F J x =
  (F 21 xe ((x.1.1.1,(x.1.2.1.2.1,())),())).bind fun (y1:((af×(Bool×Unit))×Unit)) =>
  cond (not y1.1.2.1)
   (some ((((([]:List ah),([]:List af)),([]:List ak)),((13:Int),())),()))
   ((F 74 Lu ((x.1.1.1,((x.1.2.1.2.1,(0:Int)),())),())).bind fun (y2:((ab×Unit)×Unit)) =>
   (F 73 xj ((x.1.1.2,(((x.1.2.1.2.1,(0:Int)),(y2.1.1.1,y2.1.1.2)),())),())).bind fun (y3:(((List ak)×Unit)×Unit)) =>
   (F 74 Lu ((x.1.1.1,((x.1.2.1.2.1,(1:Int)),())),())).bind fun (y4:((ab×Unit)×Unit)) =>
   (F 73 xj ((y3.1.1,(((x.1.2.1.2.1,(1:Int)),(y4.1.1.1,y4.1.1.2)),())),())).bind fun (y5:(((List ak)×Unit)×Unit)) =>
   (F 75 Lv ((x.1.1.1,((x.1.2.1.2.1,(0:Int)),())),())).bind fun (y6:((ai×Unit)×Unit)) =>
   (F 75 Lv ((y6.1.1,((x.1.2.1.2.1,(1:Int)),())),())).bind fun (y7:((ai×Unit)×Unit)) =>
   (F 47 oq ((y7.1.1,(((0:Int),(0:Int)),(x.1.2.1.2.1,()))),())).bind fun (y8:((ai×Unit)×Unit)) =>
   some (((y8.1.1,y5.1.1),((0:Int),())),())):=by kernel_rfl
theorem acA(F:FT)(J:JT NT)(x:((StateT×(bw×Unit))×Unit)):bZ 50 NT Tryz.f50 F J x =
  (F 21 xe ((x.1.1.1,(x.1.2.1.2.1,())),())).bind fun (y1:((af×(Bool×Unit))×Unit)) =>
  cond (not y1.1.2.1)
   (some ((((([]:List ah),([]:List af)),([]:List ak)),((13:Int),())),()))
   ((F 18 oY ((x.1.1.1,(x.1.2.1.2.2.1,())),())).bind fun (y2:((ah×(Bool×Unit))×Unit)) =>
   (F 21 xe ((x.1.1.1,(x.1.2.1.2.2.2.1,())),())).bind fun (y3:((af×(Bool×Unit))×Unit)) =>
   cond y2.1.2.1
    (some ((((([]:List ah),([]:List af)),([]:List ak)),((12:Int),())),()))
    (cond y3.1.2.1
     (some ((((([]:List ah),([]:List af)),([]:List ak)),((12:Int),())),()))
     (cond (decide ((((List.length x.1.1.1.1):Nat):Int)≥(24:Int)))
      (some ((((([]:List ah),([]:List af)),([]:List ak)),((3:Int),())),()))
      (cond (decide ((((List.length x.1.1.1.2):Nat):Int)≥(40:Int)))
       (some ((((([]:List ah),([]:List af)),([]:List ak)),((3:Int),())),()))
       (cond ((2:Int)==(0:Int))
        (none)
        (cond ((2:Int)==(0:Int))
         (none)
         ((F 23 BO (((x.1.2.1.2.2.2.1,(IntKind.wrap .i64 (Int.tdiv x.1.2.1.2.2.2.2.2.2.2.2 (2:Int)))),()),())).bind fun (y4:((ab×Unit)×Unit)) =>
         (F 76 FQ ((x.1.1.1,((x.1.2.1.2.1,(IntKind.wrap .i64 ((1:Int) - (Int.tmod x.1.2.1.2.2.2.2.2.2.2.2 (2:Int))))),((y4.1.1.1,y4.1.1.2),()))),())).bind fun (y5:((ai×Unit)×Unit)) =>
         (F 71 xh ((y5.1.1,((x.1.2.1.2.2.2.1,((⟨#[]⟩:ByteArray),(0:Int))),())),())).bind fun (y6:((ai×Unit)×Unit)) =>
         (F 77 oZ ((((x.1.2.1.2.1,(IntKind.wrap .i64 ((1:Int) - (Int.tmod x.1.2.1.2.2.2.2.2.2.2.2 (2:Int)))))::((x.1.2.1.2.2.2.1,(IntKind.wrap .i64 (Int.tdiv x.1.2.1.2.2.2.2.2.2.2.2 (2:Int))))::([]:List ab))),()),())).bind fun (y7:(((List ab)×Unit)×Unit)) =>
         (F 46 D0 ((y6.1.1,((x.1.2.1.2.2.1,(y7.1.1,((⟨#[]⟩:ByteArray),(0:Int)))),())),())).bind fun (y8:((ai×Unit)×Unit)) =>
         some (((y8.1.1,x.1.1.2),((0:Int),())),())))))))):=by kernel_rfl
theorem acB(F:FT)(J:JT xf)(x:((StateT×(bw×Unit))×Unit)):bZ 51 xf Tryz.f51 F J x =
  (F 18 oY ((x.1.1.1,(x.1.2.1.2.1,())),())).bind fun (y1:((ah×(Bool×Unit))×Unit)) =>
  cond (not y1.1.2.1)
   (some ((((([]:List ah),([]:List af)),([]:List ak)),((13:Int),())),()))
   (cond ((((List.length y1.1.1.2.1):Nat):Int) != (2:Int))
    (some ((((([]:List ah),([]:List af)),([]:List ak)),((14:Int),())),()))
    (((aZ y1.1.1.2.1 (0:Int))).bind fun (y2:ab) =>
    ((aZ y1.1.1.2.1 (1:Int))).bind fun (y3:ab) =>
    cond ((y2.1.1==y3.1.1)&&(y2.1.2==y3.1.2))
     (some ((((([]:List ah),([]:List af)),([]:List ak)),((14:Int),())),()))
     (((aZ y1.1.1.2.1 (0:Int))).bind fun (y4:ab) =>
     ((aZ y1.1.1.2.1 (1:Int))).bind fun (y5:ab) =>
     cond ((y4.1.1==x.1.2.1.2.2.2.1.1)&&(y4.1.2==x.1.2.1.2.2.2.1.2))
      (((aZ y1.1.1.2.1 (1:Int))).bind fun (y6:ab) =>
      ((aZ y1.1.1.2.1 (0:Int))).bind fun (y7:ab) =>
      cond (not ((y7.1.1==x.1.2.1.2.2.2.1.1)&&(y7.1.2==x.1.2.1.2.2.2.1.2)))
       (some ((((([]:List ah),([]:List af)),([]:List ak)),((14:Int),())),()))
       ((F 23 BO (((y7.1,y7.2),()),())).bind fun (y8:((ab×Unit)×Unit)) =>
       (F 47 oq ((x.1.1.1,(x.1.2.1.2.1,(((0:Int),(0:Int)),()))),())).bind fun (y9:((ai×Unit)×Unit)) =>
       (F 76 FQ ((y9.1.1,((y8.1.1.1,y8.1.1.2),((y6.1,y6.2),()))),())).bind fun (ou:((ai×Unit)×Unit)) =>
       (F 47 oq ((ou.1.1,(((0:Int),(0:Int)),(y7.1,()))),())).bind fun (kC:((ai×Unit)×Unit)) =>
       J lz (aP Tryz.prog 51 0) ((x.1.1.2,((0:Int),())),(((([]:List ah),(([]:List af),(([]:List ak),()))),(((y6.1,y6.2),()),(((y7.1,y7.2),()),(((y8.1.1.1,y8.1.1.2),()),((kC.1.1,()),()))))),()))))
      (cond (not ((y5.1.1==x.1.2.1.2.2.2.1.1)&&(y5.1.2==x.1.2.1.2.2.2.1.2)))
       (some ((((([]:List ah),([]:List af)),([]:List ak)),((14:Int),())),()))
       ((F 23 BO (((y5.1,y5.2),()),())).bind fun (lP:((ab×Unit)×Unit)) =>
       (F 47 oq ((x.1.1.1,(x.1.2.1.2.1,(((0:Int),(0:Int)),()))),())).bind fun (kD:((ai×Unit)×Unit)) =>
       (F 76 FQ ((kD.1.1,((lP.1.1.1,lP.1.1.2),((y4.1,y4.2),()))),())).bind fun (Bq:((ai×Unit)×Unit)) =>
       (F 47 oq ((Bq.1.1,(((0:Int),(0:Int)),(y5.1,()))),())).bind fun (rT:((ai×Unit)×Unit)) =>
       J lz (aP Tryz.prog 51 0) ((x.1.1.2,((0:Int),())),(((([]:List ah),(([]:List af),(([]:List ak),()))),(((y4.1,y4.2),()),(((y5.1,y5.2),()),(((lP.1.1.1,lP.1.1.2),()),((rT.1.1,()),()))))),()))))))):=by kernel_rfl
theorem Oi(F:FT)(J:JT xf)(x:(((List ak)×(Int×Unit))×((aC×((ab×Unit)×((ab×Unit)×((ab×Unit)×((ai×Unit)×Unit)))))×Unit))):fR 51 0 xf Tryz.f51 lz F J x =
  cond (decide (x.1.2.1<(2:Int)))
   (cond (((x.2.1.2.2.1.1.1.1==x.2.1.2.2.2.1.1.1.1)&&(x.2.1.2.2.1.1.1.2==x.2.1.2.2.2.1.1.1.2))&&(x.1.2.1==x.2.1.2.2.2.1.1.2))
    ((F 73 xj ((x.1.1,(((x.2.1.2.2.1.1.1,x.1.2.1),(x.2.1.2.1.1.1,x.2.1.2.1.1.2)),())),())).bind fun (SW:(((List ak)×Unit)×Unit)) =>
    J lz (aP Tryz.prog 51 0) ((SW.1.1,((IntKind.wrap .i64 (x.1.2.1+(1:Int))),())),(((x.2.1.1.1,(x.2.1.1.2.1,x.2.1.1.2.2)),(((x.2.1.2.1.1.1,x.2.1.2.1.1.2),()),(((x.2.1.2.2.1.1.1,x.2.1.2.2.1.1.2),()),(((x.2.1.2.2.2.1.1.1,x.2.1.2.2.2.1.1.2),()),((x.2.1.2.2.2.2.1.1,()),()))))),())))
    ((F 73 xj ((x.1.1,(((x.2.1.2.2.1.1.1,x.1.2.1),(((0:Int),(0:Int)),(0:Int))),())),())).bind fun (Ri:(((List ak)×Unit)×Unit)) =>
    J lz (aP Tryz.prog 51 0) ((Ri.1.1,((IntKind.wrap .i64 (x.1.2.1+(1:Int))),())),(((x.2.1.1.1,(x.2.1.1.2.1,x.2.1.1.2.2)),(((x.2.1.2.1.1.1,x.2.1.2.1.1.2),()),(((x.2.1.2.2.1.1.1,x.2.1.2.2.1.1.2),()),(((x.2.1.2.2.2.1.1.1,x.2.1.2.2.2.1.1.2),()),((x.2.1.2.2.2.2.1.1,()),()))))),()))))
   (some (((x.2.1.2.2.2.2.1.1,x.1.1),((0:Int),())),())):=by kernel_rfl
theorem acC(F:FT)(J:JT zK)(x:((StateT×(bw×Unit))×Unit)):bZ 52 zK Tryz.f52 F J x =
 (F 38 BP ((x.1.1.1,()),())).bind fun (y1:((((List ah)×((List af)×Unit))×Unit)×Unit)) =>
 J qa (aP Tryz.prog 52 0) ((false,((0:Int),())),((((x.1.1.1,x.1.1.2),()),(((x.1.2.1.1,(x.1.2.1.2.1,(x.1.2.1.2.2.1,(x.1.2.1.2.2.2.1,((x.1.2.1.2.2.2.2.1.1,(x.1.2.1.2.2.2.2.1.2.1,x.1.2.1.2.2.2.2.1.2.2)),((x.1.2.1.2.2.2.2.2.1.1,(x.1.2.1.2.2.2.2.2.1.2.1,x.1.2.1.2.2.2.2.2.1.2.2)),(x.1.2.1.2.2.2.2.2.2.1,x.1.2.1.2.2.2.2.2.2.2))))))),()),((([]:List ah),(([]:List af),(([]:List ak),()))),((y1.1.1.1,y1.1.1.2),())))),())):=by kernel_rfl
theorem Oj(F:FT)(J:JT zK)(x:((Bool×(Int×Unit))×(((StateT×Unit)×((bw×Unit)×(aC×(((List ah)×((List af)×Unit))×Unit))))×Unit))):fR 52 0 zK Tryz.f52 qa F J x =
  cond (decide (x.1.2.1<(((List.length x.2.1.2.2.2.1.1):Nat):Int)))
   (cond (not x.2.1.2.1.1.2.2.2.2.2.2.1)
    (cond ((decide ((0:Int)≤x.1.2.1))&&(decide (x.1.2.1<(((List.length x.2.1.2.2.2.1.1):Nat):Int))))
     (((x.2.1.2.2.2.1.1)[(Int.toNat x.1.2.1)]?).bind fun (y2:ah) =>
     cond ((y2.1.1==x.2.1.2.1.1.2.1.1)&&(y2.1.2==x.2.1.2.1.1.2.1.2))
      (cond (x.2.1.2.1.1.1==(7:Int))
       (cond ((decide ((0:Int)≤x.1.2.1))&&(decide (x.1.2.1<(((List.length x.2.1.2.2.2.1.1):Nat):Int))))
        (((x.2.1.2.2.2.1.1)[(Int.toNat x.1.2.1)]?).bind fun (y3:ah) =>
        J qa (aP Tryz.prog 52 0) ((true,((IntKind.wrap .i64 (x.1.2.1+(1:Int))),())),((((x.2.1.1.1.1,x.2.1.1.1.2),()),(((x.2.1.2.1.1.1,(x.2.1.2.1.1.2.1,(x.2.1.2.1.1.2.2.1,(x.2.1.2.1.1.2.2.2.1,((x.2.1.2.1.1.2.2.2.2.1.1,(x.2.1.2.1.1.2.2.2.2.1.2.1,x.2.1.2.1.1.2.2.2.2.1.2.2)),((x.2.1.2.1.1.2.2.2.2.2.1.1,(x.2.1.2.1.1.2.2.2.2.2.1.2.1,x.2.1.2.1.1.2.2.2.2.2.1.2.2)),(x.2.1.2.1.1.2.2.2.2.2.2.1,x.2.1.2.1.1.2.2.2.2.2.2.2))))))),()),((x.2.1.2.2.1.1,(x.2.1.2.2.1.2.1,x.2.1.2.2.1.2.2)),(((List.set x.2.1.2.2.2.1.1 (Int.toNat x.1.2.1) (y3.1,(y3.2.1,(x.2.1.2.1.1.2.2.2.2.2.2.2.1,y3.2.2.2)))),x.2.1.2.2.2.1.2),())))),())))
        (none))
       (cond ((decide ((0:Int)≤x.1.2.1))&&(decide (x.1.2.1<(((List.length x.2.1.2.2.2.1.1):Nat):Int))))
        (((x.2.1.2.2.2.1.1)[(Int.toNat x.1.2.1)]?).bind fun (y4:ah) =>
        J qa (aP Tryz.prog 52 0) ((true,((IntKind.wrap .i64 (x.1.2.1+(1:Int))),())),((((x.2.1.1.1.1,x.2.1.1.1.2),()),(((x.2.1.2.1.1.1,(x.2.1.2.1.1.2.1,(x.2.1.2.1.1.2.2.1,(x.2.1.2.1.1.2.2.2.1,((x.2.1.2.1.1.2.2.2.2.1.1,(x.2.1.2.1.1.2.2.2.2.1.2.1,x.2.1.2.1.1.2.2.2.2.1.2.2)),((x.2.1.2.1.1.2.2.2.2.2.1.1,(x.2.1.2.1.1.2.2.2.2.2.1.2.1,x.2.1.2.1.1.2.2.2.2.2.1.2.2)),(x.2.1.2.1.1.2.2.2.2.2.2.1,x.2.1.2.1.1.2.2.2.2.2.2.2))))))),()),((x.2.1.2.2.1.1,(x.2.1.2.2.1.2.1,x.2.1.2.2.1.2.2)),(((List.set x.2.1.2.2.2.1.1 (Int.toNat x.1.2.1) (y4.1,(y4.2.1,(y4.2.2.1,x.2.1.2.1.1.2.2.2.2.2.2.2.2)))),x.2.1.2.2.2.1.2),())))),())))
        (none)))
      (J qa (aP Tryz.prog 52 0) ((x.1.1,((IntKind.wrap .i64 (x.1.2.1+(1:Int))),())),((((x.2.1.1.1.1,x.2.1.1.1.2),()),(((x.2.1.2.1.1.1,(x.2.1.2.1.1.2.1,(x.2.1.2.1.1.2.2.1,(x.2.1.2.1.1.2.2.2.1,((x.2.1.2.1.1.2.2.2.2.1.1,(x.2.1.2.1.1.2.2.2.2.1.2.1,x.2.1.2.1.1.2.2.2.2.1.2.2)),((x.2.1.2.1.1.2.2.2.2.2.1.1,(x.2.1.2.1.1.2.2.2.2.2.1.2.1,x.2.1.2.1.1.2.2.2.2.2.1.2.2)),(x.2.1.2.1.1.2.2.2.2.2.2.1,x.2.1.2.1.1.2.2.2.2.2.2.2))))))),()),((x.2.1.2.2.1.1,(x.2.1.2.2.1.2.1,x.2.1.2.2.1.2.2)),((x.2.1.2.2.2.1.1,x.2.1.2.2.2.1.2),())))),()))))
     (none))
    (J qa (aP Tryz.prog 52 0) ((x.1.1,((IntKind.wrap .i64 (x.1.2.1+(1:Int))),())),((((x.2.1.1.1.1,x.2.1.1.1.2),()),(((x.2.1.2.1.1.1,(x.2.1.2.1.1.2.1,(x.2.1.2.1.1.2.2.1,(x.2.1.2.1.1.2.2.2.1,((x.2.1.2.1.1.2.2.2.2.1.1,(x.2.1.2.1.1.2.2.2.2.1.2.1,x.2.1.2.1.1.2.2.2.2.1.2.2)),((x.2.1.2.1.1.2.2.2.2.2.1.1,(x.2.1.2.1.1.2.2.2.2.2.1.2.1,x.2.1.2.1.1.2.2.2.2.2.1.2.2)),(x.2.1.2.1.1.2.2.2.2.2.2.1,x.2.1.2.1.1.2.2.2.2.2.2.2))))))),()),((x.2.1.2.2.1.1,(x.2.1.2.2.1.2.1,x.2.1.2.2.1.2.2)),((x.2.1.2.2.2.1.1,x.2.1.2.2.2.1.2),())))),()))))
   (J qb (aP Tryz.prog 52 1) ((x.1.1,((0:Int),())),((((x.2.1.1.1.1,x.2.1.1.1.2),()),(((x.2.1.2.1.1.1,(x.2.1.2.1.1.2.1,(x.2.1.2.1.1.2.2.1,(x.2.1.2.1.1.2.2.2.1,((x.2.1.2.1.1.2.2.2.2.1.1,(x.2.1.2.1.1.2.2.2.2.1.2.1,x.2.1.2.1.1.2.2.2.2.1.2.2)),((x.2.1.2.1.1.2.2.2.2.2.1.1,(x.2.1.2.1.1.2.2.2.2.2.1.2.1,x.2.1.2.1.1.2.2.2.2.2.1.2.2)),(x.2.1.2.1.1.2.2.2.2.2.2.1,x.2.1.2.1.1.2.2.2.2.2.2.2))))))),()),((x.2.1.2.2.1.1,(x.2.1.2.2.1.2.1,x.2.1.2.2.1.2.2)),((x.2.1.2.2.2.1.1,x.2.1.2.2.2.1.2),())))),()))):=by kernel_rfl
theorem Ol(F:FT)(J:JT zK)(x:((Bool×(Int×Unit))×(((StateT×Unit)×((bw×Unit)×(aC×(((List ah)×((List af)×Unit))×Unit))))×Unit))):fR 52 1 zK Tryz.f52 qb F J x =
  cond (decide (x.1.2.1<(((List.length x.2.1.2.2.2.1.2.1):Nat):Int)))
   (cond x.2.1.2.1.1.2.2.2.2.2.2.1
    (cond ((decide ((0:Int)≤x.1.2.1))&&(decide (x.1.2.1<(((List.length x.2.1.2.2.2.1.2.1):Nat):Int))))
     (((x.2.1.2.2.2.1.2.1)[(Int.toNat x.1.2.1)]?).bind fun (y5:af) =>
     cond ((y5.1.1==x.2.1.2.1.1.2.1.1)&&(y5.1.2==x.2.1.2.1.1.2.1.2))
      (cond (x.2.1.2.1.1.1==(7:Int))
       (cond ((decide ((0:Int)≤x.1.2.1))&&(decide (x.1.2.1<(((List.length x.2.1.2.2.2.1.2.1):Nat):Int))))
        (((x.2.1.2.2.2.1.2.1)[(Int.toNat x.1.2.1)]?).bind fun (y6:af) =>
        J qb (aP Tryz.prog 52 1) ((true,((IntKind.wrap .i64 (x.1.2.1+(1:Int))),())),((((x.2.1.1.1.1,x.2.1.1.1.2),()),(((x.2.1.2.1.1.1,(x.2.1.2.1.1.2.1,(x.2.1.2.1.1.2.2.1,(x.2.1.2.1.1.2.2.2.1,((x.2.1.2.1.1.2.2.2.2.1.1,(x.2.1.2.1.1.2.2.2.2.1.2.1,x.2.1.2.1.1.2.2.2.2.1.2.2)),((x.2.1.2.1.1.2.2.2.2.2.1.1,(x.2.1.2.1.1.2.2.2.2.2.1.2.1,x.2.1.2.1.1.2.2.2.2.2.1.2.2)),(x.2.1.2.1.1.2.2.2.2.2.2.1,x.2.1.2.1.1.2.2.2.2.2.2.2))))))),()),((x.2.1.2.2.1.1,(x.2.1.2.2.1.2.1,x.2.1.2.2.1.2.2)),((x.2.1.2.2.2.1.1,((List.set x.2.1.2.2.2.1.2.1 (Int.toNat x.1.2.1) (y6.1,(x.2.1.2.1.1.2.2.2.2.2.2.2.1,y6.2.2))),())),())))),())))
        (none))
       (cond ((decide ((0:Int)≤x.1.2.1))&&(decide (x.1.2.1<(((List.length x.2.1.2.2.2.1.2.1):Nat):Int))))
        (((x.2.1.2.2.2.1.2.1)[(Int.toNat x.1.2.1)]?).bind fun (y7:af) =>
        J qb (aP Tryz.prog 52 1) ((true,((IntKind.wrap .i64 (x.1.2.1+(1:Int))),())),((((x.2.1.1.1.1,x.2.1.1.1.2),()),(((x.2.1.2.1.1.1,(x.2.1.2.1.1.2.1,(x.2.1.2.1.1.2.2.1,(x.2.1.2.1.1.2.2.2.1,((x.2.1.2.1.1.2.2.2.2.1.1,(x.2.1.2.1.1.2.2.2.2.1.2.1,x.2.1.2.1.1.2.2.2.2.1.2.2)),((x.2.1.2.1.1.2.2.2.2.2.1.1,(x.2.1.2.1.1.2.2.2.2.2.1.2.1,x.2.1.2.1.1.2.2.2.2.2.1.2.2)),(x.2.1.2.1.1.2.2.2.2.2.2.1,x.2.1.2.1.1.2.2.2.2.2.2.2))))))),()),((x.2.1.2.2.1.1,(x.2.1.2.2.1.2.1,x.2.1.2.2.1.2.2)),((x.2.1.2.2.2.1.1,((List.set x.2.1.2.2.2.1.2.1 (Int.toNat x.1.2.1) (y7.1,(y7.2.1,x.2.1.2.1.1.2.2.2.2.2.2.2.2))),())),())))),())))
        (none)))
      (J qb (aP Tryz.prog 52 1) ((x.1.1,((IntKind.wrap .i64 (x.1.2.1+(1:Int))),())),((((x.2.1.1.1.1,x.2.1.1.1.2),()),(((x.2.1.2.1.1.1,(x.2.1.2.1.1.2.1,(x.2.1.2.1.1.2.2.1,(x.2.1.2.1.1.2.2.2.1,((x.2.1.2.1.1.2.2.2.2.1.1,(x.2.1.2.1.1.2.2.2.2.1.2.1,x.2.1.2.1.1.2.2.2.2.1.2.2)),((x.2.1.2.1.1.2.2.2.2.2.1.1,(x.2.1.2.1.1.2.2.2.2.2.1.2.1,x.2.1.2.1.1.2.2.2.2.2.1.2.2)),(x.2.1.2.1.1.2.2.2.2.2.2.1,x.2.1.2.1.1.2.2.2.2.2.2.2))))))),()),((x.2.1.2.2.1.1,(x.2.1.2.2.1.2.1,x.2.1.2.2.1.2.2)),((x.2.1.2.2.2.1.1,x.2.1.2.2.2.1.2),())))),()))))
     (none))
    (J qb (aP Tryz.prog 52 1) ((x.1.1,((IntKind.wrap .i64 (x.1.2.1+(1:Int))),())),((((x.2.1.1.1.1,x.2.1.1.1.2),()),(((x.2.1.2.1.1.1,(x.2.1.2.1.1.2.1,(x.2.1.2.1.1.2.2.1,(x.2.1.2.1.1.2.2.2.1,((x.2.1.2.1.1.2.2.2.2.1.1,(x.2.1.2.1.1.2.2.2.2.1.2.1,x.2.1.2.1.1.2.2.2.2.1.2.2)),((x.2.1.2.1.1.2.2.2.2.2.1.1,(x.2.1.2.1.1.2.2.2.2.2.1.2.1,x.2.1.2.1.1.2.2.2.2.2.1.2.2)),(x.2.1.2.1.1.2.2.2.2.2.2.1,x.2.1.2.1.1.2.2.2.2.2.2.2))))))),()),((x.2.1.2.2.1.1,(x.2.1.2.2.1.2.1,x.2.1.2.2.1.2.2)),((x.2.1.2.2.2.1.1,x.2.1.2.2.2.1.2),())))),()))))
   (cond (not x.1.1)
    (some ((((([]:List ah),([]:List af)),([]:List ak)),((13:Int),())),()))
    (some ((((x.2.1.2.2.2.1.1,x.2.1.2.2.2.1.2.1),x.2.1.1.1.2),((0:Int),())),()))):=by kernel_rfl
theorem acD(F:FT)(J:JT D1)(x:(((List ak)×((List ak)×Unit))×Unit)):bZ 53 D1 Tryz.f53 F J x =
  cond ((((List.length x.1.1):Nat):Int) != (((List.length x.1.2.1):Nat):Int))
   (some ((false,()),()))
   (J Ai (aP Tryz.prog 53 0) ((x.1.1,(x.1.2.1,((0:Int),()))),((),()))):=by kernel_rfl
theorem Om(F:FT)(J:JT D1)(x:(((List ak)×((List ak)×(Int×Unit)))×(Unit×Unit))):fR 53 0 D1 Tryz.f53 Ai F J x =
  cond (decide (x.1.2.2.1<(((List.length x.1.1):Nat):Int)))
   (((aZ x.1.1 x.1.2.2.1)).bind fun (y1:ak) =>
   ((aZ x.1.2.1 x.1.2.2.1)).bind fun (y2:ak) =>
   cond (not ((((y1.1.1.1==y2.1.1.1)&&(y1.1.1.2==y2.1.1.2))&&(y1.1.2==y2.1.2))&&(((y1.2.1.1==y2.2.1.1)&&(y1.2.1.2==y2.2.1.2))&&(y1.2.2==y2.2.2))))
    (some ((false,()),()))
    (J Ai (aP Tryz.prog 53 0) ((x.1.1,(x.1.2.1,((IntKind.wrap .i64 (x.1.2.2.1+(1:Int))),()))),((),()))))
   (some ((true,()),())):=by kernel_rfl
end Go.Vs
set_option maxRecDepth 1000000
set_option maxHeartbeats 0
namespace Go.Vs
open Go.Proofs
theorem acE(F:FT)(J:JT Lo)(x:((ai×(ab×Unit))×Unit)):bZ 54 Lo Tryz.f54 F J x =
  (F 20 sQ ((x.1.1,((x.1.2.1.1,x.1.2.1.2),())),())).bind fun (y1:((ID×(Bool×Unit))×Unit)) =>
  cond (not y1.1.2.1)
   (some (((((0:Int),(0:Int)),(0:Int)),(false,())),()))
   ((F 23 BO (((x.1.2.1.1,x.1.2.1.2),()),())).bind fun (y2:((ab×Unit)×Unit)) =>
   (F 78 NU ((x.1.1,((y2.1.1.1,y2.1.1.2),())),())).bind fun (y3:((ab×(Bool×Unit))×Unit)) =>
   some (((y3.1.1.1,y3.1.1.2),y3.1.2),())):=by kernel_rfl
theorem acF(F:FT)(J:JT BS)(x:((ai×(ID×Unit))×Unit)):bZ 55 BS Tryz.f55 F J x =
 J Aj (aP Tryz.prog 55 0) (((0:Int),()),(((x.1.1,()),((x.1.2.1,()),())),())):=by kernel_rfl
theorem On(F:FT)(J:JT BS)(x:((Int×Unit)×(((ai×Unit)×((ID×Unit)×Unit))×Unit))):fR 55 0 BS Tryz.f55 Aj F J x =
  cond (decide (x.1.1<(((List.length x.2.1.1.1.1):Nat):Int)))
   (((aZ x.2.1.1.1.1 x.1.1)).bind fun (y1:ah) =>
   cond ((y1.1.1==x.2.1.2.1.1.1)&&(y1.1.2==x.2.1.2.1.1.2))
    (some (x.1,()))
    (J Aj (aP Tryz.prog 55 0) (((IntKind.wrap .i64 (x.1.1+(1:Int))),()),(((x.2.1.1.1,()),((x.2.1.2.1.1,()),())),()))))
   (some (((-1:Int),()),())):=by kernel_rfl
theorem acG(F:FT)(J:JT rq)(x:((ai×Unit)×Unit)):bZ 56 rq Tryz.f56 F J x =
 J Ak (aP Tryz.prog 56 0) (((0:Int),()),(((x.1.1,()),()),(([]:List Int),()))):=by kernel_rfl
theorem Oo(F:FT)(J:JT rq)(x:((Int×Unit)×(((ai×Unit)×Unit)×((List Int)×Unit)))):fR 56 0 rq Tryz.f56 Ak F J x =
  cond (decide (x.1.1<(((List.length x.2.1.1.1.1):Nat):Int)))
   (cond (aM (List.length x.2.2.1) (List.length (x.1.1::([]:List Int))))
    (J Ak (aP Tryz.prog 56 0) (((IntKind.wrap .i64 (x.1.1+(1:Int))),()),(((x.2.1.1.1,()),()),((x.2.2.1++(x.1.1::([]:List Int))),()))))
    (none))
   (J vw (aP Tryz.prog 56 1) (((0:Int),()),(((x.2.1.1.1,()),()),x.2.2))):=by kernel_rfl
theorem Oq(F:FT)(J:JT rq)(x:((Int×Unit)×(((ai×Unit)×Unit)×((List Int)×Unit)))):fR 56 1 rq Tryz.f56 vw F J x =
  cond (decide (x.1.1<(((List.length x.2.1.1.1.1):Nat):Int)))
   (J qc (aP Tryz.prog 56 2) ((x.1.1,((0:Int),())),(((x.2.1.1.1,()),()),x.2.2)))
   (some (x.2.2,())):=by kernel_rfl
theorem Ot(F:FT)(J:JT rq)(x:((Int×(Int×Unit))×(((ai×Unit)×Unit)×((List Int)×Unit)))):fR 56 2 rq Tryz.f56 qc F J x =
  cond (decide (x.1.2.1<(((List.length x.2.1.1.1.2):Nat):Int)))
   (((aZ x.2.1.1.1.2 x.1.2.1)).bind fun (y1:af) =>
   (F 20 sQ ((x.2.1.1.1,((y1.1,(0:Int)),())),())).bind fun (y2:((ID×(Bool×Unit))×Unit)) =>
   ((aZ x.2.1.1.1.2 x.1.2.1)).bind fun (y3:af) =>
   (F 20 sQ ((x.2.1.1.1,((y3.1,(1:Int)),())),())).bind fun (y4:((ID×(Bool×Unit))×Unit)) =>
   (F 55 BS ((x.2.1.1.1,(y2.1.1,())),())).bind fun (y5:((Int×Unit)×Unit)) =>
   (F 55 BS ((x.2.1.1.1,(y4.1.1,())),())).bind fun (y6:((Int×Unit)×Unit)) =>
   cond (decide (y5.1.1≥(0:Int)))
    (cond (decide (y6.1.1≥(0:Int)))
     (cond ((decide ((0:Int)≤y5.1.1))&&(decide (y5.1.1<(((List.length x.2.2.1):Nat):Int))))
      (((x.2.2.1)[(Int.toNat y5.1.1)]?).bind fun (y7:Int) =>
      cond ((decide ((0:Int)≤y6.1.1))&&(decide (y6.1.1<(((List.length x.2.2.1):Nat):Int))))
       (((x.2.2.1)[(Int.toNat y6.1.1)]?).bind fun (y8:Int) =>
       cond ((decide ((0:Int)≤y5.1.1))&&(decide (y5.1.1<(((List.length x.2.2.1):Nat):Int))))
        (((x.2.2.1)[(Int.toNat y5.1.1)]?).bind fun (y9:Int) =>
        cond ((decide ((0:Int)≤y6.1.1))&&(decide (y6.1.1<(((List.length (List.set x.2.2.1 (Int.toNat y5.1.1) (min y7 y8:Int))):Nat):Int))))
         ((((List.set x.2.2.1 (Int.toNat y5.1.1) (min y7 y8:Int)))[(Int.toNat y6.1.1)]?).bind fun (ou:Int) =>
         J qc (aP Tryz.prog 56 2) ((x.1.1,((IntKind.wrap .i64 (x.1.2.1+(1:Int))),())),(((x.2.1.1.1,()),()),((List.set (List.set x.2.2.1 (Int.toNat y5.1.1) (min y7 y8:Int)) (Int.toNat y6.1.1) (min y7 y8:Int)),()))))
         (none))
        (none))
       (none))
      (none))
     (J qc (aP Tryz.prog 56 2) ((x.1.1,((IntKind.wrap .i64 (x.1.2.1+(1:Int))),())),(((x.2.1.1.1,()),()),x.2.2))))
    (J qc (aP Tryz.prog 56 2) ((x.1.1,((IntKind.wrap .i64 (x.1.2.1+(1:Int))),())),(((x.2.1.1.1,()),()),x.2.2))))
   (J vw (aP Tryz.prog 56 1) (((IntKind.wrap .i64 (x.1.1+(1:Int))),()),(((x.2.1.1.1,()),()),x.2.2))):=by kernel_rfl
theorem acH(F:FT)(J:JT FL)(x:(((List ab)×((List ab)×Unit))×Unit)):bZ 57 FL Tryz.f57 F J x =
  cond ((((List.length x.1.1):Nat):Int) != (((List.length x.1.2.1):Nat):Int))
   (some ((false,()),()))
   (J Al (aP Tryz.prog 57 0) ((x.1.1,(x.1.2.1,((0:Int),()))),((),()))):=by kernel_rfl
theorem Ou(F:FT)(J:JT FL)(x:(((List ab)×((List ab)×(Int×Unit)))×(Unit×Unit))):fR 57 0 FL Tryz.f57 Al F J x =
  cond (decide (x.1.2.2.1<(((List.length x.1.1):Nat):Int)))
   (((aZ x.1.1 x.1.2.2.1)).bind fun (y1:ab) =>
   ((aZ x.1.2.1 x.1.2.2.1)).bind fun (y2:ab) =>
   cond (not (((y1.1.1==y2.1.1)&&(y1.1.2==y2.1.2))&&(y1.2==y2.2)))
    (some ((false,()),()))
    (J Al (aP Tryz.prog 57 0) ((x.1.1,(x.1.2.1,((IntKind.wrap .i64 (x.1.2.2.1+(1:Int))),()))),((),()))))
   (some ((true,()),())):=by kernel_rfl
theorem Xi(F:FT)(J:JT D2)(x:(((List bw)×Unit)×Unit)):bZ 58 D2 Tryz.f58 F J x =
  cond ((((List.length x.1.1):Nat):Int)==(0:Int))
   (some (((3:Int),()),()))
   (cond (decide ((((List.length x.1.1):Nat):Int) > (6:Int)))
    (some (((3:Int),()),()))
    (J Am (aP Tryz.prog 58 0) ((x.1.1,((((List.length x.1.1):Nat):Int),((0:Int),()))),((),())))):=by kernel_rfl
theorem D8(F:FT)(J:JT D2)(x:(((List bw)×(Int×(Int×Unit)))×(Unit×Unit))):fR 58 0 D2 Tryz.f58 Am F J x =
  cond (decide (x.1.2.2.1<x.1.2.1))
   (((aZ x.1.1 x.1.2.2.1)).bind fun (y1:bw) =>
   (F 43 BQ (((y1.1,(y1.2.1,(y1.2.2.1,(y1.2.2.2.1,((y1.2.2.2.2.1.1,(y1.2.2.2.2.1.2.1,y1.2.2.2.2.1.2.2)),((y1.2.2.2.2.2.1.1,(y1.2.2.2.2.2.1.2.1,y1.2.2.2.2.2.1.2.2)),(y1.2.2.2.2.2.2.1,y1.2.2.2.2.2.2.2))))))),()),())).bind fun (y2:((Int×Unit)×Unit)) =>
   cond (y2.1.1 != (0:Int))
    (some (y2.1,()))
    (J Am (aP Tryz.prog 58 0) ((x.1.1,(x.1.2.1,((IntKind.wrap .i64 (x.1.2.2.1+(1:Int))),()))),((),()))))
   (some (((0:Int),()),())):=by kernel_rfl
theorem acI(F:FT)(J:JT D3)(x:((ai×Unit)×Unit)):bZ 59 D3 Tryz.f59 F J x =
 J Ao (aP Tryz.prog 59 0) (((0:Int),()),(((x.1.1,()),()),(([]:List ab),()))):=by kernel_rfl
theorem Ov(F:FT)(J:JT D3)(x:((Int×Unit)×(((ai×Unit)×Unit)×((List ab)×Unit)))):fR 59 0 D3 Tryz.f59 Ao F J x =
  cond (decide (x.1.1<(((List.length x.2.1.1.1.2):Nat):Int)))
   (((aZ x.2.1.1.1.2 x.1.1)).bind fun (y1:af) =>
   ((aZ x.2.1.1.1.2 x.1.1)).bind fun (y2:af) =>
   cond (aM (List.length x.2.2.1) (List.length ((y1.1,(0:Int))::((y2.1,(1:Int))::([]:List ab)))))
    (J Ao (aP Tryz.prog 59 0) (((IntKind.wrap .i64 (x.1.1+(1:Int))),()),(((x.2.1.1.1,()),()),((x.2.2.1++((y1.1,(0:Int))::((y2.1,(1:Int))::([]:List ab)))),()))))
    (none))
   (some (x.2.2,())):=by kernel_rfl
theorem acJ(F:FT)(J:JT D4)(x:((ai×Unit)×Unit)):bZ 60 D4 Tryz.f60 F J x =
 (F 79 Lw ((x.1.1.1,()),())).bind fun (y1:(((List ah)×Unit)×Unit)) =>
 (F 80 Lx ((x.1.1.2,()),())).bind fun (y2:(((List af)×Unit)×Unit)) =>
 J Ap (aP Tryz.prog 60 0) (((((List.length y1.1.1):Nat):Int),((0:Int),())),(((([]:List ah),(([]:List af),())),((y1.1.1,y2.1),())),())):=by kernel_rfl
theorem Ow(F:FT)(J:JT D4)(x:((Int×(Int×Unit))×((((List ah)×((List af)×Unit))×(((List ah)×((List af)×Unit))×Unit))×Unit))):fR 60 0 D4 Tryz.f60 Ap F J x =
  cond (decide (x.1.2.1<x.1.1))
   (cond ((decide ((0:Int)≤x.1.2.1))&&(decide (x.1.2.1<(((List.length x.2.1.2.1.1):Nat):Int))))
    (((x.2.1.2.1.1)[(Int.toNat x.1.2.1)]?).bind fun (y3:ah) =>
    (F 81 xk ((y3.2.1,()),())).bind fun (y4:(((List ab)×Unit)×Unit)) =>
    cond ((decide ((0:Int)≤x.1.2.1))&&(decide (x.1.2.1<(((List.length x.2.1.2.1.1):Nat):Int))))
     (((x.2.1.2.1.1)[(Int.toNat x.1.2.1)]?).bind fun (y5:ah) =>
     J Ap (aP Tryz.prog 60 0) ((x.1.1,((IntKind.wrap .i64 (x.1.2.1+(1:Int))),())),(((x.2.1.1.1,x.2.1.1.2),(((List.set x.2.1.2.1.1 (Int.toNat x.1.2.1) (y5.1,(y4.1.1,y5.2.2))),x.2.1.2.1.2),())),())))
     (none))
    (none))
   (some (((x.2.1.2.1.1,x.2.1.2.1.2),()),())):=by kernel_rfl
theorem acK(F:FT)(J:JT FM)(x:(((List ak)×Unit)×Unit)):bZ 61 FM Tryz.f61 F J x =
  cond (List.isEmpty x.1.1)
   (rl 2 fun (j1:Nat) =>
   cond ((j1==0)==true)
    (some ((([]:List ak),()),()))
    (cond (aM (List.length ([]:List ak)) (List.length x.1.1))
     (some (((([]:List ak)++x.1.1),()),()))
     (none)))
   (cond (aM (List.length ([]:List ak)) (List.length x.1.1))
    (some (((([]:List ak)++x.1.1),()),()))
    (none)):=by kernel_rfl
theorem acL(F:FT)(J:JT Lq)(x:((ab×(ab×Unit))×Unit)):bZ 62 Lq Tryz.f62 F J x =
  (F 69 FP ((x.1.1.1,(x.1.2.1.1,())),())).bind fun (y1:((Int×Unit)×Unit)) =>
  cond (y1.1.1 != (0:Int))
   (some (y1.1,()))
   (cond (decide (x.1.1.2<x.1.2.1.2))
    (some (((-1:Int),()),()))
    (cond (decide (x.1.1.2 > x.1.2.1.2))
     (some (((1:Int),()),()))
     (some (((0:Int),()),())))):=by kernel_rfl
theorem acM(F:FT)(J:JT FN)(x:((ai×Unit)×Unit)):bZ 64 FN Tryz.f64 F J x =
  (F 85 FR ((x.1.1,()),())).bind fun (y1:((Int×(Int×(Int×(Int×Unit))))×Unit)) =>
  cond ((2:Int)==(0:Int))
   (none)
   (some (((IntKind.wrap .i64 (Int.tdiv (IntKind.wrap .i64 ((IntKind.wrap .i64 ((IntKind.wrap .i64 ((IntKind.wrap .i64 ((2:Int) * y1.1.2.2.2.1)) - y1.1.1))+y1.1.2.1)) - y1.1.2.2.1)) (2:Int))),()),())):=by kernel_rfl
theorem Up(F:FT)(J:JT FO)(x:((bw×Unit)×Unit)):bZ 65 FO Tryz.f65 F J x =
  (F 86 pZ ((x.1.1.2.1,()),())).bind fun (y1:((Bool×Unit)×Unit)) =>
  cond (x.1.1.1==(1:Int))
   (cond (x.1.1.1==(1:Int))
    (cond (not y1.1.1)
     (some (((x.1.1.1,(x.1.1.2.1,(((0:Int),(0:Int)),(((0:Int),(0:Int)),((((0:Int),(0:Int)),(((0:Int),(0:Int)),(0:Int))),((((0:Int),(0:Int)),(((0:Int),(0:Int)),(0:Int))),(false,((⟨#[]⟩:ByteArray),(0:Int))))))))),((1:Int),())),()))
     (some (((x.1.1.1,(x.1.1.2.1,(((0:Int),(0:Int)),(((0:Int),(0:Int)),((((0:Int),(0:Int)),(((0:Int),(0:Int)),(0:Int))),((((0:Int),(0:Int)),(((0:Int),(0:Int)),(0:Int))),(false,((⟨#[]⟩:ByteArray),(0:Int))))))))),((0:Int),())),())))
    (cond (x.1.1.1==(6:Int))
     (cond y1.1.1
      ((F 86 pZ ((x.1.1.2.2.2.1,()),())).bind fun (y2:((Bool×Unit)×Unit)) =>
      cond (not y2.1.1)
       (some (((x.1.1.1,(x.1.1.2.1,(((0:Int),(0:Int)),(x.1.1.2.2.2.1,((((0:Int),(0:Int)),(((0:Int),(0:Int)),(0:Int))),((((0:Int),(0:Int)),(((0:Int),(0:Int)),(0:Int))),(false,((⟨#[]⟩:ByteArray),(0:Int))))))))),((1:Int),())),()))
       (some (((x.1.1.1,(x.1.1.2.1,(((0:Int),(0:Int)),(x.1.1.2.2.2.1,((((0:Int),(0:Int)),(((0:Int),(0:Int)),(0:Int))),((((0:Int),(0:Int)),(((0:Int),(0:Int)),(0:Int))),(false,((⟨#[]⟩:ByteArray),(0:Int))))))))),((0:Int),())),())))
      (some (((x.1.1.1,(x.1.1.2.1,(((0:Int),(0:Int)),(x.1.1.2.2.2.1,((((0:Int),(0:Int)),(((0:Int),(0:Int)),(0:Int))),((((0:Int),(0:Int)),(((0:Int),(0:Int)),(0:Int))),(false,((⟨#[]⟩:ByteArray),(0:Int))))))))),((1:Int),())),())))
     (cond (x.1.1.1==(3:Int))
      (cond y1.1.1
       ((F 87 BT (((x.1.1.2.2.2.2.1.1,(x.1.1.2.2.2.2.1.2.1,x.1.1.2.2.2.2.1.2.2)),()),())).bind fun (y3:((Bool×Unit)×Unit)) =>
       cond y3.1.1
        ((F 87 BT (((x.1.1.2.2.2.2.2.1.1,(x.1.1.2.2.2.2.2.1.2.1,x.1.1.2.2.2.2.2.1.2.2)),()),())).bind fun (y4:((Bool×Unit)×Unit)) =>
        cond (not y4.1.1)
         (some (((x.1.1.1,(x.1.1.2.1,(((0:Int),(0:Int)),(((0:Int),(0:Int)),((x.1.1.2.2.2.2.1.1,(x.1.1.2.2.2.2.1.2.1,x.1.1.2.2.2.2.1.2.2)),((x.1.1.2.2.2.2.2.1.1,(x.1.1.2.2.2.2.2.1.2.1,x.1.1.2.2.2.2.2.1.2.2)),(false,((⟨#[]⟩:ByteArray),(0:Int))))))))),((1:Int),())),()))
         (some (((x.1.1.1,(x.1.1.2.1,(((0:Int),(0:Int)),(((0:Int),(0:Int)),((x.1.1.2.2.2.2.1.1,(x.1.1.2.2.2.2.1.2.1,x.1.1.2.2.2.2.1.2.2)),((x.1.1.2.2.2.2.2.1.1,(x.1.1.2.2.2.2.2.1.2.1,x.1.1.2.2.2.2.2.1.2.2)),(false,((⟨#[]⟩:ByteArray),(0:Int))))))))),((0:Int),())),())))
        (some (((x.1.1.1,(x.1.1.2.1,(((0:Int),(0:Int)),(((0:Int),(0:Int)),((x.1.1.2.2.2.2.1.1,(x.1.1.2.2.2.2.1.2.1,x.1.1.2.2.2.2.1.2.2)),((x.1.1.2.2.2.2.2.1.1,(x.1.1.2.2.2.2.2.1.2.1,x.1.1.2.2.2.2.2.1.2.2)),(false,((⟨#[]⟩:ByteArray),(0:Int))))))))),((1:Int),())),())))
       (some (((x.1.1.1,(x.1.1.2.1,(((0:Int),(0:Int)),(((0:Int),(0:Int)),((x.1.1.2.2.2.2.1.1,(x.1.1.2.2.2.2.1.2.1,x.1.1.2.2.2.2.1.2.2)),((x.1.1.2.2.2.2.2.1.1,(x.1.1.2.2.2.2.2.1.2.1,x.1.1.2.2.2.2.2.1.2.2)),(false,((⟨#[]⟩:ByteArray),(0:Int))))))))),((1:Int),())),())))
      (cond (x.1.1.1==(5:Int))
       (cond y1.1.1
        ((F 86 pZ ((x.1.1.2.2.1,()),())).bind fun (y5:((Bool×Unit)×Unit)) =>
        cond y5.1.1
         ((F 86 pZ ((x.1.1.2.2.2.1,()),())).bind fun (y6:((Bool×Unit)×Unit)) =>
         cond y6.1.1
          (cond (not ((eC .andNot .i64 x.1.1.2.2.2.2.2.2.2.2 (3:Int))==(0:Int)))
           (some (((x.1.1.1,(x.1.1.2.1,(x.1.1.2.2.1,(x.1.1.2.2.2.1,((((0:Int),(0:Int)),(((0:Int),(0:Int)),(0:Int))),((((0:Int),(0:Int)),(((0:Int),(0:Int)),(0:Int))),(false,((⟨#[]⟩:ByteArray),x.1.1.2.2.2.2.2.2.2.2)))))))),((1:Int),())),()))
           (some (((x.1.1.1,(x.1.1.2.1,(x.1.1.2.2.1,(x.1.1.2.2.2.1,((((0:Int),(0:Int)),(((0:Int),(0:Int)),(0:Int))),((((0:Int),(0:Int)),(((0:Int),(0:Int)),(0:Int))),(false,((⟨#[]⟩:ByteArray),x.1.1.2.2.2.2.2.2.2.2)))))))),((0:Int),())),())))
          (some (((x.1.1.1,(x.1.1.2.1,(x.1.1.2.2.1,(x.1.1.2.2.2.1,((((0:Int),(0:Int)),(((0:Int),(0:Int)),(0:Int))),((((0:Int),(0:Int)),(((0:Int),(0:Int)),(0:Int))),(false,((⟨#[]⟩:ByteArray),x.1.1.2.2.2.2.2.2.2.2)))))))),((1:Int),())),())))
         (some (((x.1.1.1,(x.1.1.2.1,(x.1.1.2.2.1,(x.1.1.2.2.2.1,((((0:Int),(0:Int)),(((0:Int),(0:Int)),(0:Int))),((((0:Int),(0:Int)),(((0:Int),(0:Int)),(0:Int))),(false,((⟨#[]⟩:ByteArray),x.1.1.2.2.2.2.2.2.2.2)))))))),((1:Int),())),())))
        (some (((x.1.1.1,(x.1.1.2.1,(x.1.1.2.2.1,(x.1.1.2.2.2.1,((((0:Int),(0:Int)),(((0:Int),(0:Int)),(0:Int))),((((0:Int),(0:Int)),(((0:Int),(0:Int)),(0:Int))),(false,((⟨#[]⟩:ByteArray),x.1.1.2.2.2.2.2.2.2.2)))))))),((1:Int),())),())))
       (cond (x.1.1.1==(7:Int))
        ((F 88 vp ((x.1.1.2.2.2.2.2.2.2.1,()),())).bind fun (y7:((Bool×Unit)×Unit)) =>
        cond (not y7.1.1)
         (cond (not y1.1.1)
          (some (((x.1.1.1,(x.1.1.2.1,(((0:Int),(0:Int)),(((0:Int),(0:Int)),((((0:Int),(0:Int)),(((0:Int),(0:Int)),(0:Int))),((((0:Int),(0:Int)),(((0:Int),(0:Int)),(0:Int))),(x.1.1.2.2.2.2.2.2.1,(x.1.1.2.2.2.2.2.2.2.1,(0:Int))))))))),((1:Int),())),()))
          (some (((x.1.1.1,(x.1.1.2.1,(((0:Int),(0:Int)),(((0:Int),(0:Int)),((((0:Int),(0:Int)),(((0:Int),(0:Int)),(0:Int))),((((0:Int),(0:Int)),(((0:Int),(0:Int)),(0:Int))),(x.1.1.2.2.2.2.2.2.1,(x.1.1.2.2.2.2.2.2.2.1,(0:Int))))))))),((4:Int),())),())))
         (cond (not y1.1.1)
          (some (((x.1.1.1,(x.1.1.2.1,(((0:Int),(0:Int)),(((0:Int),(0:Int)),((((0:Int),(0:Int)),(((0:Int),(0:Int)),(0:Int))),((((0:Int),(0:Int)),(((0:Int),(0:Int)),(0:Int))),(x.1.1.2.2.2.2.2.2.1,(x.1.1.2.2.2.2.2.2.2.1,(0:Int))))))))),((1:Int),())),()))
          (some (((x.1.1.1,(x.1.1.2.1,(((0:Int),(0:Int)),(((0:Int),(0:Int)),((((0:Int),(0:Int)),(((0:Int),(0:Int)),(0:Int))),((((0:Int),(0:Int)),(((0:Int),(0:Int)),(0:Int))),(x.1.1.2.2.2.2.2.2.1,(x.1.1.2.2.2.2.2.2.2.1,(0:Int))))))))),((0:Int),())),()))))
        (cond (x.1.1.1==(8:Int))
         (cond y1.1.1
          ((F 89 FU ((x.1.1.2.2.2.2.2.2.2.2,()),())).bind fun (y8:((Bool×Unit)×Unit)) =>
          cond (not y8.1.1)
           (some (((x.1.1.1,(x.1.1.2.1,(((0:Int),(0:Int)),(((0:Int),(0:Int)),((((0:Int),(0:Int)),(((0:Int),(0:Int)),(0:Int))),((((0:Int),(0:Int)),(((0:Int),(0:Int)),(0:Int))),(x.1.1.2.2.2.2.2.2.1,((⟨#[]⟩:ByteArray),x.1.1.2.2.2.2.2.2.2.2)))))))),((1:Int),())),()))
           (some (((x.1.1.1,(x.1.1.2.1,(((0:Int),(0:Int)),(((0:Int),(0:Int)),((((0:Int),(0:Int)),(((0:Int),(0:Int)),(0:Int))),((((0:Int),(0:Int)),(((0:Int),(0:Int)),(0:Int))),(x.1.1.2.2.2.2.2.2.1,((⟨#[]⟩:ByteArray),x.1.1.2.2.2.2.2.2.2.2)))))))),((0:Int),())),())))
          (some (((x.1.1.1,(x.1.1.2.1,(((0:Int),(0:Int)),(((0:Int),(0:Int)),((((0:Int),(0:Int)),(((0:Int),(0:Int)),(0:Int))),((((0:Int),(0:Int)),(((0:Int),(0:Int)),(0:Int))),(x.1.1.2.2.2.2.2.2.1,((⟨#[]⟩:ByteArray),x.1.1.2.2.2.2.2.2.2.2)))))))),((1:Int),())),())))
         (some (((x.1.1.1,(x.1.1.2.1,(((0:Int),(0:Int)),(((0:Int),(0:Int)),((((0:Int),(0:Int)),(((0:Int),(0:Int)),(0:Int))),((((0:Int),(0:Int)),(((0:Int),(0:Int)),(0:Int))),(false,((⟨#[]⟩:ByteArray),(0:Int))))))))),((1:Int),())),()))))))))
   (cond (x.1.1.1==(2:Int))
    (cond (x.1.1.1==(2:Int))
     (cond (not y1.1.1)
      (some (((x.1.1.1,(x.1.1.2.1,(((0:Int),(0:Int)),(((0:Int),(0:Int)),((((0:Int),(0:Int)),(((0:Int),(0:Int)),(0:Int))),((((0:Int),(0:Int)),(((0:Int),(0:Int)),(0:Int))),(false,((⟨#[]⟩:ByteArray),(0:Int))))))))),((1:Int),())),()))
      (some (((x.1.1.1,(x.1.1.2.1,(((0:Int),(0:Int)),(((0:Int),(0:Int)),((((0:Int),(0:Int)),(((0:Int),(0:Int)),(0:Int))),((((0:Int),(0:Int)),(((0:Int),(0:Int)),(0:Int))),(false,((⟨#[]⟩:ByteArray),(0:Int))))))))),((0:Int),())),())))
     (cond (x.1.1.1==(6:Int))
      (cond y1.1.1
       ((F 86 pZ ((x.1.1.2.2.2.1,()),())).bind fun (y9:((Bool×Unit)×Unit)) =>
       cond (not y9.1.1)
        (some (((x.1.1.1,(x.1.1.2.1,(((0:Int),(0:Int)),(x.1.1.2.2.2.1,((((0:Int),(0:Int)),(((0:Int),(0:Int)),(0:Int))),((((0:Int),(0:Int)),(((0:Int),(0:Int)),(0:Int))),(false,((⟨#[]⟩:ByteArray),(0:Int))))))))),((1:Int),())),()))
        (some (((x.1.1.1,(x.1.1.2.1,(((0:Int),(0:Int)),(x.1.1.2.2.2.1,((((0:Int),(0:Int)),(((0:Int),(0:Int)),(0:Int))),((((0:Int),(0:Int)),(((0:Int),(0:Int)),(0:Int))),(false,((⟨#[]⟩:ByteArray),(0:Int))))))))),((0:Int),())),())))
       (some (((x.1.1.1,(x.1.1.2.1,(((0:Int),(0:Int)),(x.1.1.2.2.2.1,((((0:Int),(0:Int)),(((0:Int),(0:Int)),(0:Int))),((((0:Int),(0:Int)),(((0:Int),(0:Int)),(0:Int))),(false,((⟨#[]⟩:ByteArray),(0:Int))))))))),((1:Int),())),())))
      (cond (x.1.1.1==(3:Int))
       (cond y1.1.1
        ((F 87 BT (((x.1.1.2.2.2.2.1.1,(x.1.1.2.2.2.2.1.2.1,x.1.1.2.2.2.2.1.2.2)),()),())).bind fun (ou:((Bool×Unit)×Unit)) =>
        cond ou.1.1
         ((F 87 BT (((x.1.1.2.2.2.2.2.1.1,(x.1.1.2.2.2.2.2.1.2.1,x.1.1.2.2.2.2.2.1.2.2)),()),())).bind fun (kC:((Bool×Unit)×Unit)) =>
         cond (not kC.1.1)
          (some (((x.1.1.1,(x.1.1.2.1,(((0:Int),(0:Int)),(((0:Int),(0:Int)),((x.1.1.2.2.2.2.1.1,(x.1.1.2.2.2.2.1.2.1,x.1.1.2.2.2.2.1.2.2)),((x.1.1.2.2.2.2.2.1.1,(x.1.1.2.2.2.2.2.1.2.1,x.1.1.2.2.2.2.2.1.2.2)),(false,((⟨#[]⟩:ByteArray),(0:Int))))))))),((1:Int),())),()))
          (some (((x.1.1.1,(x.1.1.2.1,(((0:Int),(0:Int)),(((0:Int),(0:Int)),((x.1.1.2.2.2.2.1.1,(x.1.1.2.2.2.2.1.2.1,x.1.1.2.2.2.2.1.2.2)),((x.1.1.2.2.2.2.2.1.1,(x.1.1.2.2.2.2.2.1.2.1,x.1.1.2.2.2.2.2.1.2.2)),(false,((⟨#[]⟩:ByteArray),(0:Int))))))))),((0:Int),())),())))
         (some (((x.1.1.1,(x.1.1.2.1,(((0:Int),(0:Int)),(((0:Int),(0:Int)),((x.1.1.2.2.2.2.1.1,(x.1.1.2.2.2.2.1.2.1,x.1.1.2.2.2.2.1.2.2)),((x.1.1.2.2.2.2.2.1.1,(x.1.1.2.2.2.2.2.1.2.1,x.1.1.2.2.2.2.2.1.2.2)),(false,((⟨#[]⟩:ByteArray),(0:Int))))))))),((1:Int),())),())))
        (some (((x.1.1.1,(x.1.1.2.1,(((0:Int),(0:Int)),(((0:Int),(0:Int)),((x.1.1.2.2.2.2.1.1,(x.1.1.2.2.2.2.1.2.1,x.1.1.2.2.2.2.1.2.2)),((x.1.1.2.2.2.2.2.1.1,(x.1.1.2.2.2.2.2.1.2.1,x.1.1.2.2.2.2.2.1.2.2)),(false,((⟨#[]⟩:ByteArray),(0:Int))))))))),((1:Int),())),())))
       (cond (x.1.1.1==(5:Int))
        (cond y1.1.1
         ((F 86 pZ ((x.1.1.2.2.1,()),())).bind fun (lP:((Bool×Unit)×Unit)) =>
         cond lP.1.1
          ((F 86 pZ ((x.1.1.2.2.2.1,()),())).bind fun (kD:((Bool×Unit)×Unit)) =>
          cond kD.1.1
           (cond (not ((eC .andNot .i64 x.1.1.2.2.2.2.2.2.2.2 (3:Int))==(0:Int)))
            (some (((x.1.1.1,(x.1.1.2.1,(x.1.1.2.2.1,(x.1.1.2.2.2.1,((((0:Int),(0:Int)),(((0:Int),(0:Int)),(0:Int))),((((0:Int),(0:Int)),(((0:Int),(0:Int)),(0:Int))),(false,((⟨#[]⟩:ByteArray),x.1.1.2.2.2.2.2.2.2.2)))))))),((1:Int),())),()))
            (some (((x.1.1.1,(x.1.1.2.1,(x.1.1.2.2.1,(x.1.1.2.2.2.1,((((0:Int),(0:Int)),(((0:Int),(0:Int)),(0:Int))),((((0:Int),(0:Int)),(((0:Int),(0:Int)),(0:Int))),(false,((⟨#[]⟩:ByteArray),x.1.1.2.2.2.2.2.2.2.2)))))))),((0:Int),())),())))
           (some (((x.1.1.1,(x.1.1.2.1,(x.1.1.2.2.1,(x.1.1.2.2.2.1,((((0:Int),(0:Int)),(((0:Int),(0:Int)),(0:Int))),((((0:Int),(0:Int)),(((0:Int),(0:Int)),(0:Int))),(false,((⟨#[]⟩:ByteArray),x.1.1.2.2.2.2.2.2.2.2)))))))),((1:Int),())),())))
          (some (((x.1.1.1,(x.1.1.2.1,(x.1.1.2.2.1,(x.1.1.2.2.2.1,((((0:Int),(0:Int)),(((0:Int),(0:Int)),(0:Int))),((((0:Int),(0:Int)),(((0:Int),(0:Int)),(0:Int))),(false,((⟨#[]⟩:ByteArray),x.1.1.2.2.2.2.2.2.2.2)))))))),((1:Int),())),())))
         (some (((x.1.1.1,(x.1.1.2.1,(x.1.1.2.2.1,(x.1.1.2.2.2.1,((((0:Int),(0:Int)),(((0:Int),(0:Int)),(0:Int))),((((0:Int),(0:Int)),(((0:Int),(0:Int)),(0:Int))),(false,((⟨#[]⟩:ByteArray),x.1.1.2.2.2.2.2.2.2.2)))))))),((1:Int),())),())))
        (cond (x.1.1.1==(7:Int))
         ((F 88 vp ((x.1.1.2.2.2.2.2.2.2.1,()),())).bind fun (Bq:((Bool×Unit)×Unit)) =>
         cond (not Bq.1.1)
          (cond (not y1.1.1)
           (some (((x.1.1.1,(x.1.1.2.1,(((0:Int),(0:Int)),(((0:Int),(0:Int)),((((0:Int),(0:Int)),(((0:Int),(0:Int)),(0:Int))),((((0:Int),(0:Int)),(((0:Int),(0:Int)),(0:Int))),(x.1.1.2.2.2.2.2.2.1,(x.1.1.2.2.2.2.2.2.2.1,(0:Int))))))))),((1:Int),())),()))
           (some (((x.1.1.1,(x.1.1.2.1,(((0:Int),(0:Int)),(((0:Int),(0:Int)),((((0:Int),(0:Int)),(((0:Int),(0:Int)),(0:Int))),((((0:Int),(0:Int)),(((0:Int),(0:Int)),(0:Int))),(x.1.1.2.2.2.2.2.2.1,(x.1.1.2.2.2.2.2.2.2.1,(0:Int))))))))),((4:Int),())),())))
          (cond (not y1.1.1)
           (some (((x.1.1.1,(x.1.1.2.1,(((0:Int),(0:Int)),(((0:Int),(0:Int)),((((0:Int),(0:Int)),(((0:Int),(0:Int)),(0:Int))),((((0:Int),(0:Int)),(((0:Int),(0:Int)),(0:Int))),(x.1.1.2.2.2.2.2.2.1,(x.1.1.2.2.2.2.2.2.2.1,(0:Int))))))))),((1:Int),())),()))
           (some (((x.1.1.1,(x.1.1.2.1,(((0:Int),(0:Int)),(((0:Int),(0:Int)),((((0:Int),(0:Int)),(((0:Int),(0:Int)),(0:Int))),((((0:Int),(0:Int)),(((0:Int),(0:Int)),(0:Int))),(x.1.1.2.2.2.2.2.2.1,(x.1.1.2.2.2.2.2.2.2.1,(0:Int))))))))),((0:Int),())),()))))
         (cond (x.1.1.1==(8:Int))
          (cond y1.1.1
           ((F 89 FU ((x.1.1.2.2.2.2.2.2.2.2,()),())).bind fun (rT:((Bool×Unit)×Unit)) =>
           cond (not rT.1.1)
            (some (((x.1.1.1,(x.1.1.2.1,(((0:Int),(0:Int)),(((0:Int),(0:Int)),((((0:Int),(0:Int)),(((0:Int),(0:Int)),(0:Int))),((((0:Int),(0:Int)),(((0:Int),(0:Int)),(0:Int))),(x.1.1.2.2.2.2.2.2.1,((⟨#[]⟩:ByteArray),x.1.1.2.2.2.2.2.2.2.2)))))))),((1:Int),())),()))
            (some (((x.1.1.1,(x.1.1.2.1,(((0:Int),(0:Int)),(((0:Int),(0:Int)),((((0:Int),(0:Int)),(((0:Int),(0:Int)),(0:Int))),((((0:Int),(0:Int)),(((0:Int),(0:Int)),(0:Int))),(x.1.1.2.2.2.2.2.2.1,((⟨#[]⟩:ByteArray),x.1.1.2.2.2.2.2.2.2.2)))))))),((0:Int),())),())))
           (some (((x.1.1.1,(x.1.1.2.1,(((0:Int),(0:Int)),(((0:Int),(0:Int)),((((0:Int),(0:Int)),(((0:Int),(0:Int)),(0:Int))),((((0:Int),(0:Int)),(((0:Int),(0:Int)),(0:Int))),(x.1.1.2.2.2.2.2.2.1,((⟨#[]⟩:ByteArray),x.1.1.2.2.2.2.2.2.2.2)))))))),((1:Int),())),())))
          (some (((x.1.1.1,(x.1.1.2.1,(((0:Int),(0:Int)),(((0:Int),(0:Int)),((((0:Int),(0:Int)),(((0:Int),(0:Int)),(0:Int))),((((0:Int),(0:Int)),(((0:Int),(0:Int)),(0:Int))),(false,((⟨#[]⟩:ByteArray),(0:Int))))))))),((1:Int),())),()))))))))
    (cond (x.1.1.1==(4:Int))
     (cond (not y1.1.1)
      (some (((x.1.1.1,(x.1.1.2.1,(((0:Int),(0:Int)),(((0:Int),(0:Int)),((((0:Int),(0:Int)),(((0:Int),(0:Int)),(0:Int))),((((0:Int),(0:Int)),(((0:Int),(0:Int)),(0:Int))),(false,((⟨#[]⟩:ByteArray),(0:Int))))))))),((1:Int),())),()))
      (some (((x.1.1.1,(x.1.1.2.1,(((0:Int),(0:Int)),(((0:Int),(0:Int)),((((0:Int),(0:Int)),(((0:Int),(0:Int)),(0:Int))),((((0:Int),(0:Int)),(((0:Int),(0:Int)),(0:Int))),(false,((⟨#[]⟩:ByteArray),(0:Int))))))))),((0:Int),())),())))
     (cond (x.1.1.1==(6:Int))
      (cond y1.1.1
       ((F 86 pZ ((x.1.1.2.2.2.1,()),())).bind fun (SW:((Bool×Unit)×Unit)) =>
       cond (not SW.1.1)
        (some (((x.1.1.1,(x.1.1.2.1,(((0:Int),(0:Int)),(x.1.1.2.2.2.1,((((0:Int),(0:Int)),(((0:Int),(0:Int)),(0:Int))),((((0:Int),(0:Int)),(((0:Int),(0:Int)),(0:Int))),(false,((⟨#[]⟩:ByteArray),(0:Int))))))))),((1:Int),())),()))
        (some (((x.1.1.1,(x.1.1.2.1,(((0:Int),(0:Int)),(x.1.1.2.2.2.1,((((0:Int),(0:Int)),(((0:Int),(0:Int)),(0:Int))),((((0:Int),(0:Int)),(((0:Int),(0:Int)),(0:Int))),(false,((⟨#[]⟩:ByteArray),(0:Int))))))))),((0:Int),())),())))
       (some (((x.1.1.1,(x.1.1.2.1,(((0:Int),(0:Int)),(x.1.1.2.2.2.1,((((0:Int),(0:Int)),(((0:Int),(0:Int)),(0:Int))),((((0:Int),(0:Int)),(((0:Int),(0:Int)),(0:Int))),(false,((⟨#[]⟩:ByteArray),(0:Int))))))))),((1:Int),())),())))
      (cond (x.1.1.1==(3:Int))
       (cond y1.1.1
        ((F 87 BT (((x.1.1.2.2.2.2.1.1,(x.1.1.2.2.2.2.1.2.1,x.1.1.2.2.2.2.1.2.2)),()),())).bind fun (Ri:((Bool×Unit)×Unit)) =>
        cond Ri.1.1
         ((F 87 BT (((x.1.1.2.2.2.2.2.1.1,(x.1.1.2.2.2.2.2.1.2.1,x.1.1.2.2.2.2.2.1.2.2)),()),())).bind fun (VU:((Bool×Unit)×Unit)) =>
         cond (not VU.1.1)
          (some (((x.1.1.1,(x.1.1.2.1,(((0:Int),(0:Int)),(((0:Int),(0:Int)),((x.1.1.2.2.2.2.1.1,(x.1.1.2.2.2.2.1.2.1,x.1.1.2.2.2.2.1.2.2)),((x.1.1.2.2.2.2.2.1.1,(x.1.1.2.2.2.2.2.1.2.1,x.1.1.2.2.2.2.2.1.2.2)),(false,((⟨#[]⟩:ByteArray),(0:Int))))))))),((1:Int),())),()))
          (some (((x.1.1.1,(x.1.1.2.1,(((0:Int),(0:Int)),(((0:Int),(0:Int)),((x.1.1.2.2.2.2.1.1,(x.1.1.2.2.2.2.1.2.1,x.1.1.2.2.2.2.1.2.2)),((x.1.1.2.2.2.2.2.1.1,(x.1.1.2.2.2.2.2.1.2.1,x.1.1.2.2.2.2.2.1.2.2)),(false,((⟨#[]⟩:ByteArray),(0:Int))))))))),((0:Int),())),())))
         (some (((x.1.1.1,(x.1.1.2.1,(((0:Int),(0:Int)),(((0:Int),(0:Int)),((x.1.1.2.2.2.2.1.1,(x.1.1.2.2.2.2.1.2.1,x.1.1.2.2.2.2.1.2.2)),((x.1.1.2.2.2.2.2.1.1,(x.1.1.2.2.2.2.2.1.2.1,x.1.1.2.2.2.2.2.1.2.2)),(false,((⟨#[]⟩:ByteArray),(0:Int))))))))),((1:Int),())),())))
        (some (((x.1.1.1,(x.1.1.2.1,(((0:Int),(0:Int)),(((0:Int),(0:Int)),((x.1.1.2.2.2.2.1.1,(x.1.1.2.2.2.2.1.2.1,x.1.1.2.2.2.2.1.2.2)),((x.1.1.2.2.2.2.2.1.1,(x.1.1.2.2.2.2.2.1.2.1,x.1.1.2.2.2.2.2.1.2.2)),(false,((⟨#[]⟩:ByteArray),(0:Int))))))))),((1:Int),())),())))
       (cond (x.1.1.1==(5:Int))
        (cond y1.1.1
         ((F 86 pZ ((x.1.1.2.2.1,()),())).bind fun (SX:((Bool×Unit)×Unit)) =>
         cond SX.1.1
          ((F 86 pZ ((x.1.1.2.2.2.1,()),())).bind fun (Gi:((Bool×Unit)×Unit)) =>
          cond Gi.1.1
           (cond (not ((eC .andNot .i64 x.1.1.2.2.2.2.2.2.2.2 (3:Int))==(0:Int)))
            (some (((x.1.1.1,(x.1.1.2.1,(x.1.1.2.2.1,(x.1.1.2.2.2.1,((((0:Int),(0:Int)),(((0:Int),(0:Int)),(0:Int))),((((0:Int),(0:Int)),(((0:Int),(0:Int)),(0:Int))),(false,((⟨#[]⟩:ByteArray),x.1.1.2.2.2.2.2.2.2.2)))))))),((1:Int),())),()))
            (some (((x.1.1.1,(x.1.1.2.1,(x.1.1.2.2.1,(x.1.1.2.2.2.1,((((0:Int),(0:Int)),(((0:Int),(0:Int)),(0:Int))),((((0:Int),(0:Int)),(((0:Int),(0:Int)),(0:Int))),(false,((⟨#[]⟩:ByteArray),x.1.1.2.2.2.2.2.2.2.2)))))))),((0:Int),())),())))
           (some (((x.1.1.1,(x.1.1.2.1,(x.1.1.2.2.1,(x.1.1.2.2.2.1,((((0:Int),(0:Int)),(((0:Int),(0:Int)),(0:Int))),((((0:Int),(0:Int)),(((0:Int),(0:Int)),(0:Int))),(false,((⟨#[]⟩:ByteArray),x.1.1.2.2.2.2.2.2.2.2)))))))),((1:Int),())),())))
          (some (((x.1.1.1,(x.1.1.2.1,(x.1.1.2.2.1,(x.1.1.2.2.2.1,((((0:Int),(0:Int)),(((0:Int),(0:Int)),(0:Int))),((((0:Int),(0:Int)),(((0:Int),(0:Int)),(0:Int))),(false,((⟨#[]⟩:ByteArray),x.1.1.2.2.2.2.2.2.2.2)))))))),((1:Int),())),())))
         (some (((x.1.1.1,(x.1.1.2.1,(x.1.1.2.2.1,(x.1.1.2.2.2.1,((((0:Int),(0:Int)),(((0:Int),(0:Int)),(0:Int))),((((0:Int),(0:Int)),(((0:Int),(0:Int)),(0:Int))),(false,((⟨#[]⟩:ByteArray),x.1.1.2.2.2.2.2.2.2.2)))))))),((1:Int),())),())))
        (cond (x.1.1.1==(7:Int))
         ((F 88 vp ((x.1.1.2.2.2.2.2.2.2.1,()),())).bind fun (Xk:((Bool×Unit)×Unit)) =>
         cond (not Xk.1.1)
          (cond (not y1.1.1)
           (some (((x.1.1.1,(x.1.1.2.1,(((0:Int),(0:Int)),(((0:Int),(0:Int)),((((0:Int),(0:Int)),(((0:Int),(0:Int)),(0:Int))),((((0:Int),(0:Int)),(((0:Int),(0:Int)),(0:Int))),(x.1.1.2.2.2.2.2.2.1,(x.1.1.2.2.2.2.2.2.2.1,(0:Int))))))))),((1:Int),())),()))
           (some (((x.1.1.1,(x.1.1.2.1,(((0:Int),(0:Int)),(((0:Int),(0:Int)),((((0:Int),(0:Int)),(((0:Int),(0:Int)),(0:Int))),((((0:Int),(0:Int)),(((0:Int),(0:Int)),(0:Int))),(x.1.1.2.2.2.2.2.2.1,(x.1.1.2.2.2.2.2.2.2.1,(0:Int))))))))),((4:Int),())),())))
          (cond (not y1.1.1)
           (some (((x.1.1.1,(x.1.1.2.1,(((0:Int),(0:Int)),(((0:Int),(0:Int)),((((0:Int),(0:Int)),(((0:Int),(0:Int)),(0:Int))),((((0:Int),(0:Int)),(((0:Int),(0:Int)),(0:Int))),(x.1.1.2.2.2.2.2.2.1,(x.1.1.2.2.2.2.2.2.2.1,(0:Int))))))))),((1:Int),())),()))
           (some (((x.1.1.1,(x.1.1.2.1,(((0:Int),(0:Int)),(((0:Int),(0:Int)),((((0:Int),(0:Int)),(((0:Int),(0:Int)),(0:Int))),((((0:Int),(0:Int)),(((0:Int),(0:Int)),(0:Int))),(x.1.1.2.2.2.2.2.2.1,(x.1.1.2.2.2.2.2.2.2.1,(0:Int))))))))),((0:Int),())),()))))
         (cond (x.1.1.1==(8:Int))
          (cond y1.1.1
           ((F 89 FU ((x.1.1.2.2.2.2.2.2.2.2,()),())).bind fun (Xl:((Bool×Unit)×Unit)) =>
           cond (not Xl.1.1)
            (some (((x.1.1.1,(x.1.1.2.1,(((0:Int),(0:Int)),(((0:Int),(0:Int)),((((0:Int),(0:Int)),(((0:Int),(0:Int)),(0:Int))),((((0:Int),(0:Int)),(((0:Int),(0:Int)),(0:Int))),(x.1.1.2.2.2.2.2.2.1,((⟨#[]⟩:ByteArray),x.1.1.2.2.2.2.2.2.2.2)))))))),((1:Int),())),()))
            (some (((x.1.1.1,(x.1.1.2.1,(((0:Int),(0:Int)),(((0:Int),(0:Int)),((((0:Int),(0:Int)),(((0:Int),(0:Int)),(0:Int))),((((0:Int),(0:Int)),(((0:Int),(0:Int)),(0:Int))),(x.1.1.2.2.2.2.2.2.1,((⟨#[]⟩:ByteArray),x.1.1.2.2.2.2.2.2.2.2)))))))),((0:Int),())),())))
           (some (((x.1.1.1,(x.1.1.2.1,(((0:Int),(0:Int)),(((0:Int),(0:Int)),((((0:Int),(0:Int)),(((0:Int),(0:Int)),(0:Int))),((((0:Int),(0:Int)),(((0:Int),(0:Int)),(0:Int))),(x.1.1.2.2.2.2.2.2.1,((⟨#[]⟩:ByteArray),x.1.1.2.2.2.2.2.2.2.2)))))))),((1:Int),())),())))
          (some (((x.1.1.1,(x.1.1.2.1,(((0:Int),(0:Int)),(((0:Int),(0:Int)),((((0:Int),(0:Int)),(((0:Int),(0:Int)),(0:Int))),((((0:Int),(0:Int)),(((0:Int),(0:Int)),(0:Int))),(false,((⟨#[]⟩:ByteArray),(0:Int))))))))),((1:Int),())),()))))))))):=by kernel_rfl
theorem D9(F:FT)(J:JT xg)(x:((bw×Unit)×(aC×Unit))):bZ 66 xg Tryz.f66 F J x =
  cond (x.1.1.1==(1:Int))
   ((F 90 FV (((x.1.1.2.1,(([]:List ab),((⟨#[]⟩:ByteArray),(0:Int)))),()),((x.2.1.1,(x.2.1.2.1,x.2.1.2.2)),()))).bind fun (y1:((Int×Unit)×(aC×Unit))) =>
   some (y1.1,((y1.2.1.1,(y1.2.1.2.1,y1.2.1.2.2)),())))
   (cond (x.1.1.1==(2:Int))
    ((F 91 NV (((x.1.1.1,(x.1.1.2.1,(x.1.1.2.2.1,(x.1.1.2.2.2.1,((x.1.1.2.2.2.2.1.1,(x.1.1.2.2.2.2.1.2.1,x.1.1.2.2.2.2.1.2.2)),((x.1.1.2.2.2.2.2.1.1,(x.1.1.2.2.2.2.2.1.2.1,x.1.1.2.2.2.2.2.1.2.2)),(x.1.1.2.2.2.2.2.2.1,x.1.1.2.2.2.2.2.2.2))))))),()),((x.2.1.1,(x.2.1.2.1,x.2.1.2.2)),()))).bind fun (y2:((Int×Unit)×(aC×Unit))) =>
    some (y2.1,((y2.2.1.1,(y2.2.1.2.1,y2.2.1.2.2)),())))
    (cond (x.1.1.1==(3:Int))
     ((F 92 m8 (((x.1.1.1,(x.1.1.2.1,(x.1.1.2.2.1,(x.1.1.2.2.2.1,((x.1.1.2.2.2.2.1.1,(x.1.1.2.2.2.2.1.2.1,x.1.1.2.2.2.2.1.2.2)),((x.1.1.2.2.2.2.2.1.1,(x.1.1.2.2.2.2.2.1.2.1,x.1.1.2.2.2.2.2.1.2.2)),(x.1.1.2.2.2.2.2.2.1,x.1.1.2.2.2.2.2.2.2))))))),()),((x.2.1.1,(x.2.1.2.1,x.2.1.2.2)),()))).bind fun (y3:((Int×Unit)×(aC×Unit))) =>
     some (y3.1,((y3.2.1.1,(y3.2.1.2.1,y3.2.1.2.2)),())))
     (cond (x.1.1.1==(4:Int))
      ((F 93 zL (((x.1.1.1,(x.1.1.2.1,(x.1.1.2.2.1,(x.1.1.2.2.2.1,((x.1.1.2.2.2.2.1.1,(x.1.1.2.2.2.2.1.2.1,x.1.1.2.2.2.2.1.2.2)),((x.1.1.2.2.2.2.2.1.1,(x.1.1.2.2.2.2.2.1.2.1,x.1.1.2.2.2.2.2.1.2.2)),(x.1.1.2.2.2.2.2.2.1,x.1.1.2.2.2.2.2.2.2))))))),()),((x.2.1.1,(x.2.1.2.1,x.2.1.2.2)),()))).bind fun (y4:((Int×Unit)×(aC×Unit))) =>
      some (y4.1,((y4.2.1.1,(y4.2.1.2.1,y4.2.1.2.2)),())))
      (cond (x.1.1.1==(5:Int))
       ((F 94 xl (((x.1.1.1,(x.1.1.2.1,(x.1.1.2.2.1,(x.1.1.2.2.2.1,((x.1.1.2.2.2.2.1.1,(x.1.1.2.2.2.2.1.2.1,x.1.1.2.2.2.2.1.2.2)),((x.1.1.2.2.2.2.2.1.1,(x.1.1.2.2.2.2.2.1.2.1,x.1.1.2.2.2.2.2.1.2.2)),(x.1.1.2.2.2.2.2.2.1,x.1.1.2.2.2.2.2.2.2))))))),()),((x.2.1.1,(x.2.1.2.1,x.2.1.2.2)),()))).bind fun (y5:((Int×Unit)×(aC×Unit))) =>
       some (y5.1,((y5.2.1.1,(y5.2.1.2.1,y5.2.1.2.2)),())))
       (cond (x.1.1.1==(6:Int))
        ((F 95 p4 (((x.1.1.1,(x.1.1.2.1,(x.1.1.2.2.1,(x.1.1.2.2.2.1,((x.1.1.2.2.2.2.1.1,(x.1.1.2.2.2.2.1.2.1,x.1.1.2.2.2.2.1.2.2)),((x.1.1.2.2.2.2.2.1.1,(x.1.1.2.2.2.2.2.1.2.1,x.1.1.2.2.2.2.2.1.2.2)),(x.1.1.2.2.2.2.2.2.1,x.1.1.2.2.2.2.2.2.2))))))),()),((x.2.1.1,(x.2.1.2.1,x.2.1.2.2)),()))).bind fun (y6:((Int×Unit)×(aC×Unit))) =>
        some (y6.1,((y6.2.1.1,(y6.2.1.2.1,y6.2.1.2.2)),())))
        ((F 96 NW (((x.1.1.1,(x.1.1.2.1,(x.1.1.2.2.1,(x.1.1.2.2.2.1,((x.1.1.2.2.2.2.1.1,(x.1.1.2.2.2.2.1.2.1,x.1.1.2.2.2.2.1.2.2)),((x.1.1.2.2.2.2.2.1.1,(x.1.1.2.2.2.2.2.1.2.1,x.1.1.2.2.2.2.2.1.2.2)),(x.1.1.2.2.2.2.2.2.1,x.1.1.2.2.2.2.2.2.2))))))),()),((x.2.1.1,(x.2.1.2.1,x.2.1.2.2)),()))).bind fun (y7:((Int×Unit)×(aC×Unit))) =>
        some (y7.1,((y7.2.1.1,(y7.2.1.2.1,y7.2.1.2.2)),())))))))):=by kernel_rfl
theorem acN(F:FT)(J:JT Lr)(x:((bw×Unit)×Unit)):bZ 67 Lr Tryz.f67 F J x =
  cond (x.1.1.1==(3:Int))
   (some ((((0:Int),(((0:Int),(0:Int)),(x.1.1.2.2.1,(x.1.1.2.2.2.1,((((0:Int),(0:Int)),(((0:Int),(0:Int)),(0:Int))),((((0:Int),(0:Int)),(((0:Int),(0:Int)),(0:Int))),(x.1.1.2.2.2.2.2.2.1,x.1.1.2.2.2.2.2.2.2))))))),()),()))
   (cond (x.1.1.1==(5:Int))
    (some ((((0:Int),(((0:Int),(0:Int)),(((0:Int),(0:Int)),(((0:Int),(0:Int)),((x.1.1.2.2.2.2.1.1,(x.1.1.2.2.2.2.1.2.1,x.1.1.2.2.2.2.1.2.2)),((x.1.1.2.2.2.2.2.1.1,(x.1.1.2.2.2.2.2.1.2.1,x.1.1.2.2.2.2.2.1.2.2)),(x.1.1.2.2.2.2.2.2.1,(x.1.1.2.2.2.2.2.2.2.1,(0:Int))))))))),()),()))
    (cond (x.1.1.1==(6:Int))
     (some ((((0:Int),(((0:Int),(0:Int)),(x.1.1.2.2.1,(((0:Int),(0:Int)),((x.1.1.2.2.2.2.1.1,(x.1.1.2.2.2.2.1.2.1,x.1.1.2.2.2.2.1.2.2)),((x.1.1.2.2.2.2.2.1.1,(x.1.1.2.2.2.2.2.1.2.1,x.1.1.2.2.2.2.2.1.2.2)),(x.1.1.2.2.2.2.2.2.1,x.1.1.2.2.2.2.2.2.2))))))),()),()))
     (cond (x.1.1.1==(7:Int))
      (some ((((0:Int),(((0:Int),(0:Int)),(x.1.1.2.2.1,(x.1.1.2.2.2.1,((x.1.1.2.2.2.2.1.1,(x.1.1.2.2.2.2.1.2.1,x.1.1.2.2.2.2.1.2.2)),((x.1.1.2.2.2.2.2.1.1,(x.1.1.2.2.2.2.2.1.2.1,x.1.1.2.2.2.2.2.1.2.2)),(false,((⟨#[]⟩:ByteArray),x.1.1.2.2.2.2.2.2.2.2)))))))),()),()))
      (cond (x.1.1.1==(8:Int))
       (some ((((0:Int),(((0:Int),(0:Int)),(x.1.1.2.2.1,(x.1.1.2.2.2.1,((x.1.1.2.2.2.2.1.1,(x.1.1.2.2.2.2.1.2.1,x.1.1.2.2.2.2.1.2.2)),((x.1.1.2.2.2.2.2.1.1,(x.1.1.2.2.2.2.2.1.2.1,x.1.1.2.2.2.2.2.1.2.2)),(false,(x.1.1.2.2.2.2.2.2.2.1,(0:Int))))))))),()),()))
       (some ((((0:Int),(((0:Int),(0:Int)),(x.1.1.2.2.1,(x.1.1.2.2.2.1,((x.1.1.2.2.2.2.1.1,(x.1.1.2.2.2.2.1.2.1,x.1.1.2.2.2.2.1.2.2)),((x.1.1.2.2.2.2.2.1.1,(x.1.1.2.2.2.2.2.1.2.1,x.1.1.2.2.2.2.2.1.2.2)),(x.1.1.2.2.2.2.2.2.1,x.1.1.2.2.2.2.2.2.2))))))),()),())))))):=by kernel_rfl
theorem acO(F:FT)(J:JT Ls)(x:((oX×Unit)×Unit)):bZ 68 Ls Tryz.f68 F J x =
  (F 19 zH ((x.1.1.1,()),())).bind fun (y1:((Bool×Unit)×Unit)) =>
  (F 97 NX (((x.1.1.2.1,x.1.1.2.2),()),())).bind fun (y2:((Bool×Unit)×Unit)) =>
  cond y1.1.1
   (cond y2.1.1
    (some ((true,()),()))
    (some (((((x.1.1.2.1.1==(0:Int))&&(x.1.1.2.1.2==(0:Int)))&&(x.1.1.2.2==(0:Int))),()),())))
   (some ((false,()),())):=by kernel_rfl
theorem acP(F:FT)(J:JT FP)(x:((ID×(ID×Unit))×Unit)):bZ 69 FP Tryz.f69 F J x =
  cond ((x.1.1.1==x.1.2.1.1)&&(x.1.1.2==x.1.2.1.2))
   (some (((0:Int),()),()))
   (cond (decide (x.1.1.1<x.1.2.1.1))
    (some (((-1:Int),()),()))
    (cond (x.1.1.1==x.1.2.1.1)
     (cond (decide (x.1.1.2<x.1.2.1.2))
      (some (((-1:Int),()),()))
      (some (((1:Int),()),())))
     (some (((1:Int),()),())))):=by kernel_rfl
theorem acQ(F:FT)(J:JT Lt)(x:((StateT×(oX×Unit))×Unit)):bZ 70 Lt Tryz.f70 F J x =
  (F 18 oY ((x.1.1.1,(x.1.2.1.1,())),())).bind fun (y1:((ah×(Bool×Unit))×Unit)) =>
  cond (not y1.1.2.1)
   (some (((((0:Int),(0:Int)),(((0:Int),(0:Int)),(0:Int))),((13:Int),())),()))
   ((F 98 FY (((x.1.1.1,x.1.1.2),((x.1.2.1.2.1,x.1.2.1.2.2),())),())).bind fun (y2:((ab×Unit)×Unit)) =>
   (F 24 pY ((y1.1.1.2.1,((y2.1.1.1,y2.1.1.2),())),())).bind fun (y3:((Int×Unit)×Unit)) =>
   cond (decide (y3.1.1<(0:Int)))
    (some (((x.1.2.1.1,(((0:Int),(0:Int)),(0:Int))),((0:Int),())),()))
    (some (((x.1.2.1.1,(y2.1.1.1,y2.1.1.2)),((0:Int),())),()))):=by kernel_rfl
theorem acR(F:FT)(J:JT xh)(x:((ai×(af×Unit))×Unit)):bZ 71 xh Tryz.f71 F J x =
 J sS (aP Tryz.prog 71 0) ((false,((0:Int),())),(((x.1.1,()),(((x.1.2.1.1,x.1.2.1.2),()),((([]:List ah),(([]:List af),())),((x.1.1.1,(([]:List af),())),())))),())):=by kernel_rfl
theorem Ox(F:FT)(J:JT xh)(x:((Bool×(Int×Unit))×(((ai×Unit)×((af×Unit)×(((List ah)×((List af)×Unit))×(((List ah)×((List af)×Unit))×Unit))))×Unit))):fR 71 0 xh Tryz.f71 sS F J x =
  cond (decide (x.1.2.1<(((List.length x.2.1.1.1.2):Nat):Int)))
   (cond (not x.1.1)
    (((aZ x.2.1.1.1.2 x.1.2.1)).bind fun (y1:af) =>
    (F 69 FP ((x.2.1.2.1.1.1,(y1.1,())),())).bind fun (y2:((Int×Unit)×Unit)) =>
    cond (decide (y2.1.1<(0:Int)))
     (cond (aM (List.length x.2.1.2.2.2.1.2.1) (List.length ((x.2.1.2.1.1.1,x.2.1.2.1.1.2)::([]:List af))))
      (((aZ x.2.1.1.1.2 x.1.2.1)).bind fun (y3:af) =>
      cond (aM (List.length (x.2.1.2.2.2.1.2.1++((x.2.1.2.1.1.1,x.2.1.2.1.1.2)::([]:List af)))) (List.length ((y3.1,y3.2)::([]:List af))))
       (J sS (aP Tryz.prog 71 0) ((true,((IntKind.wrap .i64 (x.1.2.1+(1:Int))),())),(((x.2.1.1.1,()),(((x.2.1.2.1.1.1,x.2.1.2.1.1.2),()),((x.2.1.2.2.1.1,x.2.1.2.2.1.2),((x.2.1.2.2.2.1.1,(((x.2.1.2.2.2.1.2.1++((x.2.1.2.1.1.1,x.2.1.2.1.1.2)::([]:List af)))++((y3.1,y3.2)::([]:List af))),())),())))),())))
       (none))
      (none))
     (((aZ x.2.1.1.1.2 x.1.2.1)).bind fun (y4:af) =>
     cond (aM (List.length x.2.1.2.2.2.1.2.1) (List.length ((y4.1,y4.2)::([]:List af))))
      (J sS (aP Tryz.prog 71 0) ((x.1.1,((IntKind.wrap .i64 (x.1.2.1+(1:Int))),())),(((x.2.1.1.1,()),(((x.2.1.2.1.1.1,x.2.1.2.1.1.2),()),((x.2.1.2.2.1.1,x.2.1.2.2.1.2),((x.2.1.2.2.2.1.1,((x.2.1.2.2.2.1.2.1++((y4.1,y4.2)::([]:List af))),())),())))),())))
      (none)))
    (((aZ x.2.1.1.1.2 x.1.2.1)).bind fun (y5:af) =>
    cond (aM (List.length x.2.1.2.2.2.1.2.1) (List.length ((y5.1,y5.2)::([]:List af))))
     (J sS (aP Tryz.prog 71 0) ((x.1.1,((IntKind.wrap .i64 (x.1.2.1+(1:Int))),())),(((x.2.1.1.1,()),(((x.2.1.2.1.1.1,x.2.1.2.1.1.2),()),((x.2.1.2.2.1.1,x.2.1.2.2.1.2),((x.2.1.2.2.2.1.1,((x.2.1.2.2.2.1.2.1++((y5.1,y5.2)::([]:List af))),())),())))),())))
     (none)))
   (cond (not x.1.1)
    (cond (aM (List.length x.2.1.2.2.2.1.2.1) (List.length ((x.2.1.2.1.1.1,x.2.1.2.1.1.2)::([]:List af))))
     (some (((x.2.1.2.2.2.1.1,(x.2.1.2.2.2.1.2.1++((x.2.1.2.1.1.1,x.2.1.2.1.1.2)::([]:List af)))),()),()))
     (none))
    (some (((x.2.1.2.2.2.1.1,x.2.1.2.2.2.1.2.1),()),()))):=by kernel_rfl
theorem acS(F:FT)(J:JT xi)(x:((ai×(oX×(ab×Unit)))×Unit)):bZ 72 xi Tryz.f72 F J x =
 (F 18 oY ((x.1.1,(x.1.2.1.1,())),())).bind fun (y1:((ah×(Bool×Unit))×Unit)) =>
 (F 100 wN ((y1.1.1.2.1,((x.1.2.1.2.1,x.1.2.1.2.2),((x.1.2.2.1.1,x.1.2.2.1.2),()))),())).bind fun (y2:(((List ab)×Unit)×Unit)) =>
 (F 99 BU ((x.1.1,(x.1.2.1.1,y2.1)),())).bind fun (y3:((ai×Unit)×Unit)) =>
 some ((y3.1.1,()),()):=by kernel_rfl
theorem acT(F:FT)(J:JT xj)(x:(((List ak)×(ak×Unit))×Unit)):bZ 73 xj Tryz.f73 F J x =
  (F 101 rR ((x.1.1,((x.1.2.1.1.1,x.1.2.1.1.2),())),())).bind fun (y1:((ab×(Bool×Unit))×Unit)) =>
  cond (not y1.1.2.1)
   (cond (decide ((((List.length x.1.1):Nat):Int)≥(400:Int)))
    (some ((x.1.1,()),()))
    (J ki (aP Tryz.prog 73 0) ((x.1.1,(false,((0:Int),()))),(((((x.1.2.1.1.1,x.1.2.1.1.2),(x.1.2.1.2.1,x.1.2.1.2.2)),()),()),(([]:List ak),())))))
   (J ki (aP Tryz.prog 73 0) ((x.1.1,(false,((0:Int),()))),(((((x.1.2.1.1.1,x.1.2.1.1.2),(x.1.2.1.2.1,x.1.2.1.2.2)),()),()),(([]:List ak),())))):=by kernel_rfl
theorem Oy(F:FT)(J:JT xj)(x:(((List ak)×(Bool×(Int×Unit)))×(((ak×Unit)×Unit)×((List ak)×Unit)))):fR 73 0 xj Tryz.f73 ki F J x =
  cond (decide (x.1.2.2.1<(((List.length x.1.1):Nat):Int)))
   (cond (not x.1.2.1)
    (((aZ x.1.1 x.1.2.2.1)).bind fun (y2:ak) =>
    (F 62 Lq (((x.2.1.1.1.1.1,x.2.1.1.1.1.2),((y2.1.1,y2.1.2),())),())).bind fun (y3:((Int×Unit)×Unit)) =>
    cond (decide (y3.1.1≤(0:Int)))
     (cond (aM (List.length x.2.2.1) (List.length (((x.2.1.1.1.1.1,x.2.1.1.1.1.2),(x.2.1.1.1.2.1,x.2.1.1.1.2.2))::([]:List ak))))
      (((aZ x.1.1 x.1.2.2.1)).bind fun (y4:ak) =>
      cond (not (((y4.1.1.1==x.2.1.1.1.1.1.1)&&(y4.1.1.2==x.2.1.1.1.1.1.2))&&(y4.1.2==x.2.1.1.1.1.2)))
       (((aZ x.1.1 x.1.2.2.1)).bind fun (y5:ak) =>
       cond (aM (List.length (x.2.2.1++(((x.2.1.1.1.1.1,x.2.1.1.1.1.2),(x.2.1.1.1.2.1,x.2.1.1.1.2.2))::([]:List ak)))) (List.length (((y5.1.1,y5.1.2),(y5.2.1,y5.2.2))::([]:List ak))))
        (J ki (aP Tryz.prog 73 0) ((x.1.1,(true,((IntKind.wrap .i64 (x.1.2.2.1+(1:Int))),()))),(((((x.2.1.1.1.1.1,x.2.1.1.1.1.2),(x.2.1.1.1.2.1,x.2.1.1.1.2.2)),()),()),(((x.2.2.1++(((x.2.1.1.1.1.1,x.2.1.1.1.1.2),(x.2.1.1.1.2.1,x.2.1.1.1.2.2))::([]:List ak)))++(((y5.1.1,y5.1.2),(y5.2.1,y5.2.2))::([]:List ak))),()))))
        (none))
       (J ki (aP Tryz.prog 73 0) ((x.1.1,(true,((IntKind.wrap .i64 (x.1.2.2.1+(1:Int))),()))),(((((x.2.1.1.1.1.1,x.2.1.1.1.1.2),(x.2.1.1.1.2.1,x.2.1.1.1.2.2)),()),()),((x.2.2.1++(((x.2.1.1.1.1.1,x.2.1.1.1.1.2),(x.2.1.1.1.2.1,x.2.1.1.1.2.2))::([]:List ak))),())))))
      (none))
     (((aZ x.1.1 x.1.2.2.1)).bind fun (y6:ak) =>
     cond (not (((y6.1.1.1==x.2.1.1.1.1.1.1)&&(y6.1.1.2==x.2.1.1.1.1.1.2))&&(y6.1.2==x.2.1.1.1.1.2)))
      (((aZ x.1.1 x.1.2.2.1)).bind fun (y7:ak) =>
      cond (aM (List.length x.2.2.1) (List.length (((y7.1.1,y7.1.2),(y7.2.1,y7.2.2))::([]:List ak))))
       (J ki (aP Tryz.prog 73 0) ((x.1.1,(x.1.2.1,((IntKind.wrap .i64 (x.1.2.2.1+(1:Int))),()))),(((((x.2.1.1.1.1.1,x.2.1.1.1.1.2),(x.2.1.1.1.2.1,x.2.1.1.1.2.2)),()),()),((x.2.2.1++(((y7.1.1,y7.1.2),(y7.2.1,y7.2.2))::([]:List ak))),()))))
       (none))
      (J ki (aP Tryz.prog 73 0) ((x.1.1,(x.1.2.1,((IntKind.wrap .i64 (x.1.2.2.1+(1:Int))),()))),(((((x.2.1.1.1.1.1,x.2.1.1.1.1.2),(x.2.1.1.1.2.1,x.2.1.1.1.2.2)),()),()),x.2.2)))))
    (((aZ x.1.1 x.1.2.2.1)).bind fun (y8:ak) =>
    cond (not (((y8.1.1.1==x.2.1.1.1.1.1.1)&&(y8.1.1.2==x.2.1.1.1.1.1.2))&&(y8.1.2==x.2.1.1.1.1.2)))
     (((aZ x.1.1 x.1.2.2.1)).bind fun (y9:ak) =>
     cond (aM (List.length x.2.2.1) (List.length (((y9.1.1,y9.1.2),(y9.2.1,y9.2.2))::([]:List ak))))
      (J ki (aP Tryz.prog 73 0) ((x.1.1,(x.1.2.1,((IntKind.wrap .i64 (x.1.2.2.1+(1:Int))),()))),(((((x.2.1.1.1.1.1,x.2.1.1.1.1.2),(x.2.1.1.1.2.1,x.2.1.1.1.2.2)),()),()),((x.2.2.1++(((y9.1.1,y9.1.2),(y9.2.1,y9.2.2))::([]:List ak))),()))))
      (none))
     (J ki (aP Tryz.prog 73 0) ((x.1.1,(x.1.2.1,((IntKind.wrap .i64 (x.1.2.2.1+(1:Int))),()))),(((((x.2.1.1.1.1.1,x.2.1.1.1.1.2),(x.2.1.1.1.2.1,x.2.1.1.1.2.2)),()),()),x.2.2)))))
   (cond (not x.1.2.1)
    (cond (aM (List.length x.2.2.1) (List.length (((x.2.1.1.1.1.1,x.2.1.1.1.1.2),(x.2.1.1.1.2.1,x.2.1.1.1.2.2))::([]:List ak))))
     (some (((x.2.2.1++(((x.2.1.1.1.1.1,x.2.1.1.1.1.2),(x.2.1.1.1.2.1,x.2.1.1.1.2.2))::([]:List ak))),()),()))
     (none))
    (some (x.2.2,()))):=by kernel_rfl
theorem acU(F:FT)(J:JT Lu)(x:((ai×(ab×Unit))×Unit)):bZ 74 Lu Tryz.f74 F J x =
  (F 20 sQ ((x.1.1,((x.1.2.1.1,x.1.2.1.2),())),())).bind fun (y1:((ID×(Bool×Unit))×Unit)) =>
  (F 18 oY ((x.1.1,(y1.1.1,())),())).bind fun (y2:((ah×(Bool×Unit))×Unit)) =>
  (F 26 Lk ((y2.1.1.2.1,((x.1.2.1.1,x.1.2.1.2),())),())).bind fun (y3:((ab×(Bool×Unit))×Unit)) =>
  cond ((y3.1.1.1.1==x.1.2.1.1.1)&&(y3.1.1.1.2==x.1.2.1.1.2))
   ((F 26 Lk ((y2.1.1.2.1,((y3.1.1.1,y3.1.1.2),())),())).bind fun (y4:((ab×(Bool×Unit))×Unit)) =>
   cond ((y4.1.1.1.1==x.1.2.1.1.1)&&(y4.1.1.1.2==x.1.2.1.1.2))
    (some (((((0:Int),(0:Int)),(0:Int)),()),()))
    (some (((y4.1.1.1,y4.1.1.2),()),())))
   (cond ((y3.1.1.1.1==x.1.2.1.1.1)&&(y3.1.1.1.2==x.1.2.1.1.2))
    (some (((((0:Int),(0:Int)),(0:Int)),()),()))
    (some (((y3.1.1.1,y3.1.1.2),()),()))):=by kernel_rfl
theorem acV(F:FT)(J:JT Lv)(x:((ai×(ab×Unit))×Unit)):bZ 75 Lv Tryz.f75 F J x =
 (F 20 sQ ((x.1.1,((x.1.2.1.1,x.1.2.1.2),())),())).bind fun (y1:((ID×(Bool×Unit))×Unit)) =>
 (F 18 oY ((x.1.1,(y1.1.1,())),())).bind fun (y2:((ah×(Bool×Unit))×Unit)) =>
 (F 102 wO ((y2.1.1.2.1,((x.1.2.1.1,x.1.2.1.2),())),())).bind fun (y3:(((List ab)×Unit)×Unit)) =>
 (F 99 BU ((x.1.1,(y1.1.1,y3.1)),())).bind fun (y4:((ai×Unit)×Unit)) =>
 some ((y4.1.1,()),()):=by kernel_rfl
theorem acW(F:FT)(J:JT FQ)(x:((ai×(ab×(ab×Unit)))×Unit)):bZ 76 FQ Tryz.f76 F J x =
 (F 20 sQ ((x.1.1,((x.1.2.1.1,x.1.2.1.2),())),())).bind fun (y1:((ID×(Bool×Unit))×Unit)) =>
 (F 18 oY ((x.1.1,(y1.1.1,())),())).bind fun (y2:((ah×(Bool×Unit))×Unit)) =>
 (F 103 FZ ((y2.1.1.2.1,((x.1.2.1.1,x.1.2.1.2),((x.1.2.2.1.1,x.1.2.2.1.2),()))),())).bind fun (y3:(((List ab)×Unit)×Unit)) =>
 (F 99 BU ((x.1.1,(y1.1.1,y3.1)),())).bind fun (y4:((ai×Unit)×Unit)) =>
 some ((y4.1.1,()),()):=by kernel_rfl
theorem acX(F:FT)(J:JT oZ)(x:(((List ab)×Unit)×Unit)):bZ 77 oZ Tryz.f77 F J x =
 J vx (aP Tryz.prog 77 0) ((x.1.1,((0:Int),((0:Int),()))),((),())):=by kernel_rfl
theorem Oz(F:FT)(J:JT oZ)(x:(((List ab)×(Int×(Int×Unit)))×(Unit×Unit))):fR 77 0 oZ Tryz.f77 vx F J x =
  cond (decide (x.1.2.2.1<(((List.length x.1.1):Nat):Int)))
   (((aZ x.1.1 x.1.2.2.1)).bind fun (y1:ab) =>
   ((aZ x.1.1 x.1.2.1)).bind fun (y2:ab) =>
   (F 62 Lq (((y1.1,y1.2),((y2.1,y2.2),())),())).bind fun (y3:((Int×Unit)×Unit)) =>
   cond (decide (y3.1.1<(0:Int)))
    (J vx (aP Tryz.prog 77 0) ((x.1.1,(x.1.2.2.1,((IntKind.wrap .i64 (x.1.2.2.1+(1:Int))),()))),((),())))
    (J vx (aP Tryz.prog 77 0) ((x.1.1,(x.1.2.1,((IntKind.wrap .i64 (x.1.2.2.1+(1:Int))),()))),((),()))))
   (J Aq (aP Tryz.prog 77 1) ((x.1.1,(x.1.2.1,((0:Int),()))),((),(([]:List ab),())))):=by kernel_rfl
theorem OC(F:FT)(J:JT oZ)(x:(((List ab)×(Int×(Int×Unit)))×(Unit×((List ab)×Unit)))):fR 77 1 oZ Tryz.f77 Aq F J x =
  cond (decide (x.1.2.2.1<(((List.length x.1.1):Nat):Int)))
   (cond ((((List.length x.1.1):Nat):Int)==(0:Int))
    (none)
    (((aZ x.1.1 (Int.tmod (IntKind.wrap .i64 (x.1.2.1+x.1.2.2.1)) (((List.length x.1.1):Nat):Int)))).bind fun (y4:ab) =>
    cond (aM (List.length x.2.2.1) (List.length ((y4.1,y4.2)::([]:List ab))))
     (J Aq (aP Tryz.prog 77 1) ((x.1.1,(x.1.2.1,((IntKind.wrap .i64 (x.1.2.2.1+(1:Int))),()))),((),((x.2.2.1++((y4.1,y4.2)::([]:List ab))),()))))
     (none)))
   (some (x.2.2,())):=by kernel_rfl
theorem acY(F:FT)(J:JT NU)(x:((ai×(ab×Unit))×Unit)):bZ 78 NU Tryz.f78 F J x =
  (F 20 sQ ((x.1.1,((x.1.2.1.1,x.1.2.1.2),())),())).bind fun (y1:((ID×(Bool×Unit))×Unit)) =>
  cond (not y1.1.2.1)
   (some (((((0:Int),(0:Int)),(0:Int)),(false,())),()))
   ((F 18 oY ((x.1.1,(y1.1.1,())),())).bind fun (y2:((ah×(Bool×Unit))×Unit)) =>
   (F 104 F2 ((y2.1.1.2.1,((x.1.2.1.1,x.1.2.1.2),())),())).bind fun (y3:((ab×(Bool×Unit))×Unit)) =>
   some (((y3.1.1.1,y3.1.1.2),y3.1.2),())):=by kernel_rfl
theorem acZ(F:FT)(J:JT Lw)(x:(((List ah)×Unit)×Unit)):bZ 79 Lw Tryz.f79 F J x =
  cond (List.isEmpty x.1.1)
   (rl 2 fun (j1:Nat) =>
   cond ((j1==0)==true)
    (some ((([]:List ah),()),()))
    (cond (aM (List.length ([]:List ah)) (List.length x.1.1))
     (some (((([]:List ah)++x.1.1),()),()))
     (none)))
   (cond (aM (List.length ([]:List ah)) (List.length x.1.1))
    (some (((([]:List ah)++x.1.1),()),()))
    (none)):=by kernel_rfl
theorem ac0(F:FT)(J:JT Lx)(x:(((List af)×Unit)×Unit)):bZ 80 Lx Tryz.f80 F J x =
  cond (List.isEmpty x.1.1)
   (rl 2 fun (j1:Nat) =>
   cond ((j1==0)==true)
    (some ((([]:List af),()),()))
    (cond (aM (List.length ([]:List af)) (List.length x.1.1))
     (some (((([]:List af)++x.1.1),()),()))
     (none)))
   (cond (aM (List.length ([]:List af)) (List.length x.1.1))
    (some (((([]:List af)++x.1.1),()),()))
    (none)):=by kernel_rfl
theorem ac1(F:FT)(J:JT xk)(x:(((List ab)×Unit)×Unit)):bZ 81 xk Tryz.f81 F J x =
  cond (List.isEmpty x.1.1)
   (rl 2 fun (j1:Nat) =>
   cond ((j1==0)==true)
    (some ((([]:List ab),()),()))
    (cond (aM (List.length ([]:List ab)) (List.length x.1.1))
     (some (((([]:List ab)++x.1.1),()),()))
     (none)))
   (cond (aM (List.length ([]:List ab)) (List.length x.1.1))
    (some (((([]:List ab)++x.1.1),()),()))
    (none)):=by kernel_rfl
end Go.Vs
