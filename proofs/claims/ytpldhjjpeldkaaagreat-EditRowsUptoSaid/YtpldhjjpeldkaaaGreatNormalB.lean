/- Normal forms of the program's functions, the second part. -/
import Derived.Test.YtpldhjjpeldkaaaGreatEngineD
import Derived.KernelRfl
set_option linter.unusedVariables false
set_option maxRecDepth 1000000
set_option maxHeartbeats 0
namespace Go.Vs
open Go.Proofs
theorem abW(F:FT)(J:JT NA)(x:((StateT×(bB×Unit))×Unit)):bY 15 NA Tryz.f15 F J x =
  (F 45 La (((x.1.2.1.1,(x.1.2.1.2.1,(x.1.2.1.2.2.1,(x.1.2.1.2.2.2.1,((x.1.2.1.2.2.2.2.1.1,(x.1.2.1.2.2.2.2.1.2.1,x.1.2.1.2.2.2.2.1.2.2)),((x.1.2.1.2.2.2.2.2.1.1,(x.1.2.1.2.2.2.2.2.1.2.1,x.1.2.1.2.2.2.2.2.1.2.2)),(x.1.2.1.2.2.2.2.2.2.1,x.1.2.1.2.2.2.2.2.2.2))))))),()),())).bind fun (y1:((Int×Unit)×Unit)) =>
  cond (y1.1.1 != (0:Int))
   (some ((((([]:List ah),([]:List af)),([]:List ak)),y1.1),()))
   ((F 18 oV ((x.1.1.1,(x.1.2.1.2.1,())),())).bind fun (y2:((ah×(Bool×Unit))×Unit)) =>
   cond (x.1.2.1.1==(1:Int))
    (cond y2.1.2.1
     (some ((((([]:List ah),([]:List af)),([]:List ak)),((12:Int),())),()))
     (cond (decide ((((List.length x.1.1.1.1):Nat):Int)≥(24:Int)))
      (some ((((([]:List ah),([]:List af)),([]:List ak)),((3:Int),())),()))
      ((F 46 DP ((x.1.1.1,((x.1.2.1.2.1,(([]:List ab),((⟨#[]⟩:ByteArray),(0:Int)))),())),())).bind fun (y3:((ai×Unit)×Unit)) =>
      some (((y3.1.1,x.1.1.2),((0:Int),())),()))))
    (cond (x.1.2.1.1==(2:Int))
     (cond (not y2.1.2.1)
      (some ((((([]:List ah),([]:List af)),([]:List ak)),((13:Int),())),()))
      (cond (decide ((((List.length y2.1.1.2.1):Nat):Int) > (0:Int)))
       (some ((((([]:List ah),([]:List af)),([]:List ak)),((14:Int),())),()))
       ((F 47 oi ((x.1.1.1,(x.1.2.1.2.1,(((0:Int),(0:Int)),()))),())).bind fun (y4:((ai×Unit)×Unit)) =>
       some (((y4.1.1,x.1.1.2),((0:Int),())),()))))
     (cond (x.1.2.1.1==(3:Int))
      ((F 48 NF (((x.1.1.1,x.1.1.2),((x.1.2.1.1,(x.1.2.1.2.1,(x.1.2.1.2.2.1,(x.1.2.1.2.2.2.1,((x.1.2.1.2.2.2.2.1.1,(x.1.2.1.2.2.2.2.1.2.1,x.1.2.1.2.2.2.2.1.2.2)),((x.1.2.1.2.2.2.2.2.1.1,(x.1.2.1.2.2.2.2.2.1.2.1,x.1.2.1.2.2.2.2.2.1.2.2)),(x.1.2.1.2.2.2.2.2.2.1,x.1.2.1.2.2.2.2.2.2.2))))))),())),())).bind fun (y5:((StateT×(Int×Unit))×Unit)) =>
      some (((y5.1.1.1,y5.1.1.2),y5.1.2),()))
      (cond (x.1.2.1.1==(4:Int))
       ((F 49 NG (((x.1.1.1,x.1.1.2),((x.1.2.1.1,(x.1.2.1.2.1,(x.1.2.1.2.2.1,(x.1.2.1.2.2.2.1,((x.1.2.1.2.2.2.2.1.1,(x.1.2.1.2.2.2.2.1.2.1,x.1.2.1.2.2.2.2.1.2.2)),((x.1.2.1.2.2.2.2.2.1.1,(x.1.2.1.2.2.2.2.2.1.2.1,x.1.2.1.2.2.2.2.2.1.2.2)),(x.1.2.1.2.2.2.2.2.2.1,x.1.2.1.2.2.2.2.2.2.2))))))),())),())).bind fun (y6:((StateT×(Int×Unit))×Unit)) =>
       some (((y6.1.1.1,y6.1.1.2),y6.1.2),()))
       (cond (x.1.2.1.1==(5:Int))
        ((F 50 NH (((x.1.1.1,x.1.1.2),((x.1.2.1.1,(x.1.2.1.2.1,(x.1.2.1.2.2.1,(x.1.2.1.2.2.2.1,((x.1.2.1.2.2.2.2.1.1,(x.1.2.1.2.2.2.2.1.2.1,x.1.2.1.2.2.2.2.1.2.2)),((x.1.2.1.2.2.2.2.2.1.1,(x.1.2.1.2.2.2.2.2.1.2.1,x.1.2.1.2.2.2.2.2.1.2.2)),(x.1.2.1.2.2.2.2.2.2.1,x.1.2.1.2.2.2.2.2.2.2))))))),())),())).bind fun (y7:((StateT×(Int×Unit))×Unit)) =>
        some (((y7.1.1.1,y7.1.1.2),y7.1.2),()))
        (cond (x.1.2.1.1==(6:Int))
         ((F 51 xc (((x.1.1.1,x.1.1.2),((x.1.2.1.1,(x.1.2.1.2.1,(x.1.2.1.2.2.1,(x.1.2.1.2.2.2.1,((x.1.2.1.2.2.2.2.1.1,(x.1.2.1.2.2.2.2.1.2.1,x.1.2.1.2.2.2.2.1.2.2)),((x.1.2.1.2.2.2.2.2.1.1,(x.1.2.1.2.2.2.2.2.1.2.1,x.1.2.1.2.2.2.2.2.1.2.2)),(x.1.2.1.2.2.2.2.2.2.1,x.1.2.1.2.2.2.2.2.2.2))))))),())),())).bind fun (y8:((StateT×(Int×Unit))×Unit)) =>
         some (((y8.1.1.1,y8.1.1.2),y8.1.2),()))
         ((F 52 zB (((x.1.1.1,x.1.1.2),((x.1.2.1.1,(x.1.2.1.2.1,(x.1.2.1.2.2.1,(x.1.2.1.2.2.2.1,((x.1.2.1.2.2.2.2.1.1,(x.1.2.1.2.2.2.2.1.2.1,x.1.2.1.2.2.2.2.1.2.2)),((x.1.2.1.2.2.2.2.2.1.1,(x.1.2.1.2.2.2.2.2.1.2.1,x.1.2.1.2.2.2.2.2.1.2.2)),(x.1.2.1.2.2.2.2.2.2.1,x.1.2.1.2.2.2.2.2.2.2))))))),())),())).bind fun (y9:((StateT×(Int×Unit))×Unit)) =>
         some (((y9.1.1.1,y9.1.1.2),y9.1.2),())))))))):=by kernel_rfl
theorem abX(F:FT)(J:JT K7)(x:((StateT×(StateT×Unit))×Unit)):bY 16 K7 Tryz.f16 F J x =
  (F 27 zz ((x.1.1.1,(x.1.2.1.1,())),())).bind fun (y1:((Bool×Unit)×Unit)) =>
  (F 53 DQ ((x.1.1.2,(x.1.2.1.2,())),())).bind fun (y2:((Bool×Unit)×Unit)) =>
  cond y1.1.1
   (some (y2.1,()))
   (some ((false,()),())):=by kernel_rfl
theorem abY(F:FT)(J:JT oV)(x:((ai×(ID×Unit))×Unit)):bY 18 oV Tryz.f18 F J x =
 J zQ (aP Tryz.prog 18 0) (((0:Int),()),(((x.1.1,()),((x.1.2.1,()),(((0:Int),((0:Int),(([]:List ab),((⟨#[]⟩:ByteArray),((0:Int),()))))),()))),())):=by kernel_rfl
theorem NO(F:FT)(J:JT oV)(x:((Int×Unit)×(((ai×Unit)×((ID×Unit)×((Int×(Int×((List ab)×(ByteArray×(Int×Unit)))))×Unit)))×Unit))):fV 18 0 oV Tryz.f18 zQ F J x =
  cond (decide (x.1.1<(((List.length x.2.1.1.1.1):Nat):Int)))
   (((aV x.2.1.1.1.1 x.1.1)).bind fun (y1:ah) =>
   cond ((y1.1.1==x.2.1.2.1.1.1)&&(y1.1.2==x.2.1.2.1.1.2))
    (((aV x.2.1.1.1.1 x.1.1)).bind fun (y2:ah) =>
    some (((y2.1,(y2.2.1,y2.2.2)),(true,())),()))
    (J zQ (aP Tryz.prog 18 0) (((IntKind.wrap .i64 (x.1.1+(1:Int))),()),(((x.2.1.1.1,()),((x.2.1.2.1.1,()),((x.2.1.2.2.1.1,(x.2.1.2.2.1.2.1,(x.2.1.2.2.1.2.2.1,(x.2.1.2.2.1.2.2.2.1,x.2.1.2.2.1.2.2.2.2)))),()))),()))))
   (some (((((0:Int),(0:Int)),(([]:List ab),((⟨#[]⟩:ByteArray),(0:Int)))),(false,())),())):=by kernel_rfl
theorem abZ(F:FT)(J:JT zy)(x:((ID×Unit)×Unit)):bY 19 zy Tryz.f19 F J x =
  cond (decide (x.1.1.1≥(1:Int)))
   (cond (decide (x.1.1.1≤(8:Int)))
    (cond (decide (x.1.1.2≥(1:Int)))
     (some (((decide (x.1.1.2≤(1048576:Int))),()),()))
     (some ((false,()),())))
    (some ((false,()),())))
   (some ((false,()),())):=by kernel_rfl
theorem ab0(F:FT)(J:JT sM)(x:((ai×(ab×Unit))×Unit)):bY 20 sM Tryz.f20 F J x =
 J zR (aP Tryz.prog 20 0) (((0:Int),()),(((x.1.1,()),(((x.1.2.1.1,x.1.2.1.2),()),((((0:Int),(0:Int)),()),()))),())):=by kernel_rfl
theorem NP(F:FT)(J:JT sM)(x:((Int×Unit)×(((ai×Unit)×((ab×Unit)×((ID×Unit)×Unit)))×Unit))):fV 20 0 sM Tryz.f20 zR F J x =
  cond (decide (x.1.1<(((List.length x.2.1.1.1.1):Nat):Int)))
   (((aV x.2.1.1.1.1 x.1.1)).bind fun (y1:ah) =>
   (F 24 pU ((y1.2.1,((x.2.1.2.1.1.1,x.2.1.2.1.1.2),())),())).bind fun (y2:((Int×Unit)×Unit)) =>
   cond (decide (y2.1.1≥(0:Int)))
    (((aV x.2.1.1.1.1 x.1.1)).bind fun (y3:ah) =>
    some ((y3.1,(true,())),()))
    (J zR (aP Tryz.prog 20 0) (((IntKind.wrap .i64 (x.1.1+(1:Int))),()),(((x.2.1.1.1,()),(((x.2.1.2.1.1.1,x.2.1.2.1.1.2),()),((x.2.1.2.2.1.1,()),()))),()))))
   (some ((((0:Int),(0:Int)),(false,())),())):=by kernel_rfl
theorem ab1(F:FT)(J:JT w9)(x:((ai×(ID×Unit))×Unit)):bY 21 w9 Tryz.f21 F J x =
 J zT (aP Tryz.prog 21 0) (((0:Int),()),(((x.1.1,()),((x.1.2.1,()),(((((0:Int),(0:Int)),((⟨#[]⟩:ByteArray),(0:Int))),()),()))),())):=by kernel_rfl
theorem NQ(F:FT)(J:JT w9)(x:((Int×Unit)×(((ai×Unit)×((ID×Unit)×((af×Unit)×Unit)))×Unit))):fV 21 0 w9 Tryz.f21 zT F J x =
  cond (decide (x.1.1<(((List.length x.2.1.1.1.2):Nat):Int)))
   (((aV x.2.1.1.1.2 x.1.1)).bind fun (y1:af) =>
   cond ((y1.1.1==x.2.1.2.1.1.1)&&(y1.1.2==x.2.1.2.1.1.2))
    (((aV x.2.1.1.1.2 x.1.1)).bind fun (y2:af) =>
    some (((y2.1,y2.2),(true,())),()))
    (J zT (aP Tryz.prog 21 0) (((IntKind.wrap .i64 (x.1.1+(1:Int))),()),(((x.2.1.1.1,()),((x.2.1.2.1.1,()),(((x.2.1.2.2.1.1.1,x.2.1.2.2.1.1.2),()),()))),()))))
   (some (((((0:Int),(0:Int)),((⟨#[]⟩:ByteArray),(0:Int))),(false,())),())):=by kernel_rfl
theorem ab2(F:FT)(J:JT Fs)(x:((ai×(ab×Unit))×Unit)):bY 22 Fs Tryz.f22 F J x =
  (F 54 Lb ((x.1.1,((x.1.2.1.1,x.1.2.1.2),())),())).bind fun (y1:((ab×(Bool×Unit))×Unit)) =>
  cond (not y1.1.2.1)
   (some ((([]:List ab),()),()))
   (cond (aM (List.length ([]:List ab)) (List.length ((x.1.2.1.1,x.1.2.1.2)::([]:List ab))))
    (J zU (aP Tryz.prog 22 0) ((),(((x.1.1,()),(((x.1.2.1.1,x.1.2.1.2),()),(((y1.1.1.1,y1.1.1.2),()),()))),((([]:List ab)++((x.1.2.1.1,x.1.2.1.2)::([]:List ab))),()))))
    (none)):=by kernel_rfl
theorem NR(F:FT)(J:JT Fs)(x:(Unit×(((ai×Unit)×((ab×Unit)×((ab×Unit)×Unit)))×((List ab)×Unit)))):fV 22 0 Fs Tryz.f22 zU F J x =
  cond (not (((x.2.1.2.2.1.1.1.1==x.2.1.2.1.1.1.1)&&(x.2.1.2.2.1.1.1.2==x.2.1.2.1.1.1.2))&&(x.2.1.2.2.1.1.2==x.2.1.2.1.1.2)))
   (cond (decide ((((List.length x.2.2.1):Nat):Int)<(82:Int)))
    (cond (aM (List.length x.2.2.1) (List.length ((x.2.1.2.2.1.1.1,x.2.1.2.2.1.1.2)::([]:List ab))))
     ((F 54 Lb ((x.2.1.1.1,((x.2.1.2.2.1.1.1,x.2.1.2.2.1.1.2),())),())).bind fun (y2:((ab×(Bool×Unit))×Unit)) =>
     J zU (aP Tryz.prog 22 0) ((),(((x.2.1.1.1,()),(((x.2.1.2.1.1.1,x.2.1.2.1.1.2),()),(((y2.1.1.1,y2.1.1.2),()),()))),((x.2.2.1++((x.2.1.2.2.1.1.1,x.2.1.2.2.1.1.2)::([]:List ab))),()))))
     (none))
    (some (x.2.2,())))
   (some (x.2.2,())):=by kernel_rfl
theorem ab3(F:FT)(J:JT BG)(x:((ab×Unit)×Unit)):bY 23 BG Tryz.f23 F J x =
 some (((x.1.1.1,(IntKind.wrap .i64 ((1:Int) - x.1.1.2))),()),()):=by kernel_rfl
theorem ab4(F:FT)(J:JT pU)(x:(((List ab)×(ab×Unit))×Unit)):bY 24 pU Tryz.f24 F J x =
 J zX (aP Tryz.prog 24 0) ((x.1.1,((0:Int),())),((((x.1.2.1.1,x.1.2.1.2),()),()),())):=by kernel_rfl
theorem NS(F:FT)(J:JT pU)(x:(((List ab)×(Int×Unit))×(((ab×Unit)×Unit)×Unit))):fV 24 0 pU Tryz.f24 zX F J x =
  cond (decide (x.1.2.1<(((List.length x.1.1):Nat):Int)))
   (((aV x.1.1 x.1.2.1)).bind fun (y1:ab) =>
   cond (((y1.1.1==x.2.1.1.1.1.1)&&(y1.1.2==x.2.1.1.1.1.2))&&(y1.2==x.2.1.1.1.2))
    (some (x.1.2,()))
    (J zX (aP Tryz.prog 24 0) ((x.1.1,((IntKind.wrap .i64 (x.1.2.1+(1:Int))),())),((((x.2.1.1.1.1,x.2.1.1.1.2),()),()),()))))
   (some (((-1:Int),()),())):=by kernel_rfl
theorem ab5(F:FT)(J:JT K8)(x:(((List ab)×(ab×Unit))×Unit)):bY 26 K8 Tryz.f26 F J x =
  (F 24 pU ((x.1.1,((x.1.2.1.1,x.1.2.1.2),())),())).bind fun (y1:((Int×Unit)×Unit)) =>
  cond (decide (y1.1.1<(0:Int)))
   (some (((((0:Int),(0:Int)),(0:Int)),(false,())),()))
   (cond ((((List.length x.1.1):Nat):Int)==(0:Int))
    (none)
    (((aV x.1.1 (Int.tmod (IntKind.wrap .i64 ((IntKind.wrap .i64 (y1.1.1+(((List.length x.1.1):Nat):Int))) - (1:Int))) (((List.length x.1.1):Nat):Int)))).bind fun (y2:ab) =>
    some (((y2.1,y2.2),(true,())),()))):=by kernel_rfl
theorem ab6(F:FT)(J:JT zz)(x:((ai×(ai×Unit))×Unit)):bY 27 zz Tryz.f27 F J x =
  cond ((((List.length x.1.1.1):Nat):Int) != (((List.length x.1.2.1.1):Nat):Int))
   (some ((false,()),()))
   (cond ((((List.length x.1.1.2):Nat):Int) != (((List.length x.1.2.1.2):Nat):Int))
    (some ((false,()),()))
    (J zY (aP Tryz.prog 27 0) (((0:Int),()),(((x.1.1,()),((x.1.2.1,()),())),())))):=by kernel_rfl
theorem NT(F:FT)(J:JT zz)(x:((Int×Unit)×(((ai×Unit)×((ai×Unit)×Unit))×Unit))):fV 27 0 zz Tryz.f27 zY F J x =
  cond (decide (x.1.1<(((List.length x.2.1.1.1.1):Nat):Int)))
   (((aV x.2.1.1.1.1 x.1.1)).bind fun (y1:ah) =>
   ((aV x.2.1.2.1.1.1 x.1.1)).bind fun (y2:ah) =>
   (F 57 Fx ((y1.2.1,(y2.2.1,())),())).bind fun (y3:((Bool×Unit)×Unit)) =>
   cond (not ((y1.1.1==y2.1.1)&&(y1.1.2==y2.1.2)))
    (some ((false,()),()))
    (cond (not (y1.2.2.1==y2.2.2.1))
     (some ((false,()),()))
     (cond (y1.2.2.2 != y2.2.2.2)
      (some ((false,()),()))
      (cond (not y3.1.1)
       (some ((false,()),()))
       (J zY (aP Tryz.prog 27 0) (((IntKind.wrap .i64 (x.1.1+(1:Int))),()),(((x.2.1.1.1,()),((x.2.1.2.1.1,()),())),())))))))
   (J zZ (aP Tryz.prog 27 1) (((0:Int),()),(((x.2.1.1.1,()),((x.2.1.2.1.1,()),())),()))):=by kernel_rfl
theorem NU(F:FT)(J:JT zz)(x:((Int×Unit)×(((ai×Unit)×((ai×Unit)×Unit))×Unit))):fV 27 1 zz Tryz.f27 zZ F J x =
  cond (decide (x.1.1<(((List.length x.2.1.1.1.2):Nat):Int)))
   (((aV x.2.1.1.1.2 x.1.1)).bind fun (y4:af) =>
   ((aV x.2.1.2.1.1.2 x.1.1)).bind fun (y5:af) =>
   cond (not (((y4.1.1==y5.1.1)&&(y4.1.2==y5.1.2))&&((y4.2.1==y5.2.1)&&(y4.2.2==y5.2.2))))
    (some ((false,()),()))
    (J zZ (aP Tryz.prog 27 1) (((IntKind.wrap .i64 (x.1.1+(1:Int))),()),(((x.2.1.1.1,()),((x.2.1.2.1.1,()),())),()))))
   (some ((true,()),())):=by kernel_rfl
theorem ab7(F:FT)(J:JT DN)(x:((ByteArray×Unit)×Unit)):bY 28 DN Tryz.f28 F J x =
 J z5 (aP Tryz.prog 28 0) ((x.1.1,((0:Int),())),((),())):=by kernel_rfl
theorem NV(F:FT)(J:JT DN)(x:((ByteArray×(Int×Unit))×(Unit×Unit))):fV 28 0 DN Tryz.f28 z5 F J x =
  cond (decide (x.1.2.1<(((ByteArray.size x.1.1):Nat):Int)))
   (((if 0≤x.1.2.1 then (x.1.1)[Int.toNat x.1.2.1]? else none)).bind fun (y1:UInt8) =>
   cond (decide (((UInt8.toNat y1:Nat):Int)<(32:Int)))
    (some ((false,()),()))
    (((if 0≤x.1.2.1 then (x.1.1)[Int.toNat x.1.2.1]? else none)).bind fun (y2:UInt8) =>
    cond (decide (((UInt8.toNat y2:Nat):Int) > (126:Int)))
     (some ((false,()),()))
     (J z5 (aP Tryz.prog 28 0) ((x.1.1,((IntKind.wrap .i64 (x.1.2.1+(1:Int))),())),((),())))))
   (some (((decide ((((ByteArray.size x.1.1):Nat):Int)≤(16:Int))),()),())):=by kernel_rfl
theorem ab8(F:FT)(J:JT K9)(x:((Int×Unit)×Unit)):bY 29 K9 Tryz.f29 F J x =
  cond (decide (x.1.1≥(-1099511627776:Int)))
   (some (((decide (x.1.1≤(1099511627776:Int))),()),()))
   (some ((false,()),())):=by kernel_rfl
theorem WV(F:FT)(J:JT Ft)(x:((StateT×((List bB)×Unit))×Unit)):bY 30 Ft Tryz.f30 F J x =
  (F 58 DR (x.1.2,())).bind fun (y1:((Int×Unit)×Unit)) =>
  cond (y1.1.1 != (0:Int))
   (some ((((([]:List ah),([]:List af)),([]:List ak)),y1.1),()))
   ((F 44 BL (((x.1.1.1,x.1.1.2),x.1.2),())).bind fun (y2:((StateT×(Int×Unit))×Unit)) =>
   some (((y2.1.1.1,y2.1.1.2),y2.1.2),())):=by kernel_rfl
theorem ab9(F:FT)(J:JT Fu)(x:((ai×Unit)×Unit)):bY 31 Fu Tryz.f31 F J x =
 (F 59 DS ((x.1.1,()),())).bind fun (y1:(((List ab)×Unit)×Unit)) =>
 J vl (aP Tryz.prog 31 0) (((0:Int),()),(((x.1.1,()),()),(([]:List (List ab)),(([]:List ab),y1.1)))):=by kernel_rfl
theorem NW(F:FT)(J:JT Fu)(x:((Int×Unit)×(((ai×Unit)×Unit)×((List (List ab))×((List ab)×((List ab)×Unit)))))):fV 31 0 Fu Tryz.f31 vl F J x =
  cond (decide (x.1.1<(((List.length x.2.2.2.2.1):Nat):Int)))
   (cond ((decide ((0:Int)≤x.1.1))&&(decide (x.1.1<(((List.length x.2.2.2.2.1):Nat):Int))))
    (((x.2.2.2.2.1)[(Int.toNat x.1.1)]?).bind fun (y2:ab) =>
    (F 24 pU ((x.2.2.2.1,((y2.1,y2.2),())),())).bind fun (y3:((Int×Unit)×Unit)) =>
    cond (decide (y3.1.1≥(0:Int)))
     (J vl (aP Tryz.prog 31 0) (((IntKind.wrap .i64 (x.1.1+(1:Int))),()),(((x.2.1.1.1,()),()),(x.2.2.1,(x.2.2.2.1,x.2.2.2.2)))))
     (cond ((decide ((0:Int)≤x.1.1))&&(decide (x.1.1<(((List.length x.2.2.2.2.1):Nat):Int))))
      (((x.2.2.2.2.1)[(Int.toNat x.1.1)]?).bind fun (y4:ab) =>
      (F 22 Fs ((x.2.1.1.1,((y4.1,y4.2),())),())).bind fun (y5:(((List ab)×Unit)×Unit)) =>
      cond (aM (List.length x.2.2.1) (List.length (y5.1.1::([]:List (List ab)))))
       (cond (aM (List.length x.2.2.2.1) (List.length y5.1.1))
        (J vl (aP Tryz.prog 31 0) (((IntKind.wrap .i64 (x.1.1+(1:Int))),()),(((x.2.1.1.1,()),()),((x.2.2.1++(y5.1.1::([]:List (List ab)))),((x.2.2.2.1++y5.1.1),x.2.2.2.2)))))
        (none))
       (none))
      (none)))
    (none))
   (some ((x.2.2.1,()),())):=by kernel_rfl
theorem aca(F:FT)(J:JT Fv)(x:((ai×Unit)×Unit)):bY 32 Fv Tryz.f32 F J x =
 (F 56 rk ((x.1.1,()),())).bind fun (y1:(((List Int)×Unit)×Unit)) =>
 J vm (aP Tryz.prog 32 0) (((0:Int),((0:Int),())),((),y1.1)):=by kernel_rfl
theorem NX(F:FT)(J:JT Fv)(x:((Int×(Int×Unit))×(Unit×((List Int)×Unit)))):fV 32 0 Fv Tryz.f32 vm F J x =
  cond (decide (x.1.2.1<(((List.length x.2.2.1):Nat):Int)))
   (cond ((decide ((0:Int)≤x.1.2.1))&&(decide (x.1.2.1<(((List.length x.2.2.1):Nat):Int))))
    (((x.2.2.1)[(Int.toNat x.1.2.1)]?).bind fun (y2:Int) =>
    cond (y2==x.1.2.1)
     (J vm (aP Tryz.prog 32 0) (((IntKind.wrap .i64 (x.1.1+(1:Int))),((IntKind.wrap .i64 (x.1.2.1+(1:Int))),())),((),x.2.2)))
     (J vm (aP Tryz.prog 32 0) ((x.1.1,((IntKind.wrap .i64 (x.1.2.1+(1:Int))),())),((),x.2.2))))
    (none))
   (some ((x.1.1,()),())):=by kernel_rfl
theorem WW(F:FT)(J:JT Ik)(x:(Unit×Unit)):bY 33 Ik Tryz.f33 F J x =
 some ((((([]:List ah),([]:List af)),([]:List ak)),()),()):=by kernel_rfl
theorem acb(F:FT)(J:JT BH)(x:(((List bB)×Unit)×Unit)):bY 34 BH Tryz.f34 F J x =
  cond (decide ((((List.length x.1.1):Nat):Int) > (8:Int)))
   (cond (aW (List.length x.1.1) (0:Int) (8:Int))
    (some (((cut x.1.1 (0:Int) (8:Int)),()),()))
    (none))
   (some (x.1,())):=by kernel_rfl
theorem acd(F:FT)(J:JT DO)(x:((StateT×((List bB)×Unit))×Unit)):bY 35 DO Tryz.f35 F J x =
  (F 41 Fw (x.1.2,())).bind fun (y1:((Int×Unit)×Unit)) =>
  cond (y1.1.1 != (0:Int))
   (some ((((([]:List ah),([]:List af)),([]:List ak)),y1.1),()))
   (J z6 (aP Tryz.prog 35 0) (((0:Int),()),((((x.1.1.1,x.1.1.2),()),(x.1.2,((([]:List ah),(([]:List af),(([]:List ak),()))),()))),()))):=by kernel_rfl
theorem NY(F:FT)(J:JT DO)(x:((Int×Unit)×(((StateT×Unit)×(((List bB)×Unit)×(aC×Unit)))×Unit))):fV 35 0 DO Tryz.f35 z6 F J x =
  cond (decide (x.1.1<(((List.length x.2.1.2.1.1):Nat):Int)))
   (((aV x.2.1.2.1.1 x.1.1)).bind fun (y2:bB) =>
   (F 15 NA (((x.2.1.1.1.1,x.2.1.1.1.2),((y2.1,(y2.2.1,(y2.2.2.1,(y2.2.2.2.1,((y2.2.2.2.2.1.1,(y2.2.2.2.2.1.2.1,y2.2.2.2.2.1.2.2)),((y2.2.2.2.2.2.1.1,(y2.2.2.2.2.2.1.2.1,y2.2.2.2.2.2.1.2.2)),(y2.2.2.2.2.2.2.1,y2.2.2.2.2.2.2.2))))))),())),())).bind fun (y3:((StateT×(Int×Unit))×Unit)) =>
   cond (y3.1.2.1 != (0:Int))
    (some ((((([]:List ah),([]:List af)),([]:List ak)),y3.1.2),()))
    (J z6 (aP Tryz.prog 35 0) (((IntKind.wrap .i64 (x.1.1+(1:Int))),()),((((y3.1.1.1,y3.1.1.2),()),(x.2.1.2.1,((x.2.1.2.2.1.1,(x.2.1.2.2.1.2.1,x.2.1.2.2.1.2.2)),()))),()))))
   (some (((x.2.1.1.1.1,x.2.1.1.1.2),((0:Int),())),())):=by kernel_rfl
theorem ace(F:FT)(J:JT NB)(x:((StateT×((List bB)×Unit))×Unit)):bY 36 NB Tryz.f36 F J x =
  (F 30 Ft (((x.1.1.1,x.1.1.2),x.1.2),())).bind fun (y1:((StateT×(Int×Unit))×Unit)) =>
  cond (y1.1.2.1 != (0:Int))
   ((F 60 DT ((x.1.1.1,()),())).bind fun (y2:((((List ah)×((List af)×Unit))×Unit)×Unit)) =>
   (F 61 Fy ((x.1.1.2,()),())).bind fun (y3:(((List ak)×Unit)×Unit)) =>
   some ((((y2.1.1.1,y2.1.1.2.1),y3.1.1),()),()))
   (some (((y1.1.1.1,y1.1.1.2),()),())):=by kernel_rfl
theorem acf(F:FT)(J:JT NC)(x:((StateT×((List bB)×Unit))×Unit)):bY 37 NC Tryz.f37 F J x =
  (F 35 DO (((x.1.1.1,x.1.1.2),x.1.2),())).bind fun (y1:((StateT×(Int×Unit))×Unit)) =>
  cond (y1.1.2.1 != (0:Int))
   (some (((x.1.1.1,x.1.1.2),()),()))
   (some (((y1.1.1.1,y1.1.1.2),()),())):=by kernel_rfl
theorem acg(F:FT)(J:JT BI)(x:((ai×Unit)×Unit)):bY 38 BI Tryz.f38 F J x =
  cond (aM (List.length ([]:List af)) (List.length x.1.1.2))
   (J z7 (aP Tryz.prog 38 0) (((0:Int),()),(((x.1.1,()),((([]:List ah),(([]:List af),())),((([]:List ah),((([]:List af)++x.1.1.2),())),()))),())))
   (none):=by kernel_rfl
theorem NZ(F:FT)(J:JT BI)(x:((Int×Unit)×(((ai×Unit)×(((List ah)×((List af)×Unit))×(((List ah)×((List af)×Unit))×Unit)))×Unit))):fV 38 0 BI Tryz.f38 z7 F J x =
  cond (decide (x.1.1<(((List.length x.2.1.1.1.1):Nat):Int)))
   (((aV x.2.1.1.1.1 x.1.1)).bind fun (y1:ah) =>
   cond (aM (List.length ([]:List ab)) (List.length y1.2.1))
    (cond (aM (List.length x.2.1.2.2.1.1) (List.length ((y1.1,((([]:List ab)++y1.2.1),y1.2.2))::([]:List ah))))
     (J z7 (aP Tryz.prog 38 0) (((IntKind.wrap .i64 (x.1.1+(1:Int))),()),(((x.2.1.1.1,()),((x.2.1.2.1.1,x.2.1.2.1.2),(((x.2.1.2.2.1.1++((y1.1,((([]:List ab)++y1.2.1),y1.2.2))::([]:List ah))),x.2.1.2.2.1.2),()))),())))
     (none))
    (none))
   (some (((x.2.1.2.2.1.1,x.2.1.2.2.1.2),()),())):=by kernel_rfl
theorem ach(F:FT)(J:JT Fw)(x:(((List bB)×Unit)×Unit)):bY 41 Fw Tryz.f41 F J x =
  cond (decide ((((List.length x.1.1):Nat):Int)<(1:Int)))
   (some (((3:Int),()),()))
   (cond (decide ((((List.length x.1.1):Nat):Int) > (6:Int)))
    (some (((3:Int),()),()))
    (J z8 (aP Tryz.prog 41 0) (((0:Int),()),((x.1,()),())))):=by kernel_rfl
theorem N0(F:FT)(J:JT Fw)(x:((Int×Unit)×((((List bB)×Unit)×Unit)×Unit))):fV 41 0 Fw Tryz.f41 z8 F J x =
  cond (decide (x.1.1<(((List.length x.2.1.1.1):Nat):Int)))
   (((aV x.2.1.1.1 x.1.1)).bind fun (y1:bB) =>
   (F 45 La (((y1.1,(y1.2.1,(y1.2.2.1,(y1.2.2.2.1,((y1.2.2.2.2.1.1,(y1.2.2.2.2.1.2.1,y1.2.2.2.2.1.2.2)),((y1.2.2.2.2.2.1.1,(y1.2.2.2.2.2.1.2.1,y1.2.2.2.2.2.1.2.2)),(y1.2.2.2.2.2.2.1,y1.2.2.2.2.2.2.2))))))),()),())).bind fun (y2:((Int×Unit)×Unit)) =>
   cond (y2.1.1 != (0:Int))
    (some (y2.1,()))
    (J z8 (aP Tryz.prog 41 0) (((IntKind.wrap .i64 (x.1.1+(1:Int))),()),((x.2.1.1,()),()))))
   (some (((0:Int),()),())):=by kernel_rfl
theorem aci(F:FT)(J:JT ND)(x:((Int×Unit)×Unit)):bY 42 ND Tryz.f42 F J x =
 some (((((1:Int),(((1:Int),x.1.1),(((0:Int),(0:Int)),(((0:Int),(0:Int)),((((0:Int),(0:Int)),(((0:Int),(0:Int)),(0:Int))),((((0:Int),(0:Int)),(((0:Int),(0:Int)),(0:Int))),(false,((⟨#[]⟩:ByteArray),(0:Int)))))))))::([]:List bB)),()),()):=by kernel_rfl
theorem WX(F:FT)(J:JT BJ)(x:((bB×Unit)×Unit)):bY 43 BJ Tryz.f43 F J x =
  (F 65 FA (((x.1.1.1,(x.1.1.2.1,(x.1.1.2.2.1,(x.1.1.2.2.2.1,((x.1.1.2.2.2.2.1.1,(x.1.1.2.2.2.2.1.2.1,x.1.1.2.2.2.2.1.2.2)),((x.1.1.2.2.2.2.2.1.1,(x.1.1.2.2.2.2.2.1.2.1,x.1.1.2.2.2.2.2.1.2.2)),(x.1.1.2.2.2.2.2.2.1,x.1.1.2.2.2.2.2.2.2))))))),()),())).bind fun (y1:((bB×(Int×Unit))×Unit)) =>
  cond (not ((y1.1.1.1==x.1.1.1)&&(((y1.1.1.2.1.1==x.1.1.2.1.1)&&(y1.1.1.2.1.2==x.1.1.2.1.2))&&(((y1.1.1.2.2.1.1==x.1.1.2.2.1.1)&&(y1.1.1.2.2.1.2==x.1.1.2.2.1.2))&&(((y1.1.1.2.2.2.1.1==x.1.1.2.2.2.1.1)&&(y1.1.1.2.2.2.1.2==x.1.1.2.2.2.1.2))&&((((y1.1.1.2.2.2.2.1.1.1==x.1.1.2.2.2.2.1.1.1)&&(y1.1.1.2.2.2.2.1.1.2==x.1.1.2.2.2.2.1.1.2))&&(((y1.1.1.2.2.2.2.1.2.1.1==x.1.1.2.2.2.2.1.2.1.1)&&(y1.1.1.2.2.2.2.1.2.1.2==x.1.1.2.2.2.2.1.2.1.2))&&(y1.1.1.2.2.2.2.1.2.2==x.1.1.2.2.2.2.1.2.2)))&&((((y1.1.1.2.2.2.2.2.1.1.1==x.1.1.2.2.2.2.2.1.1.1)&&(y1.1.1.2.2.2.2.2.1.1.2==x.1.1.2.2.2.2.2.1.1.2))&&(((y1.1.1.2.2.2.2.2.1.2.1.1==x.1.1.2.2.2.2.2.1.2.1.1)&&(y1.1.1.2.2.2.2.2.1.2.1.2==x.1.1.2.2.2.2.2.1.2.1.2))&&(y1.1.1.2.2.2.2.2.1.2.2==x.1.1.2.2.2.2.2.1.2.2)))&&((y1.1.1.2.2.2.2.2.2.1==x.1.1.2.2.2.2.2.2.1)&&((y1.1.1.2.2.2.2.2.2.2.1==x.1.1.2.2.2.2.2.2.2.1)&&(y1.1.1.2.2.2.2.2.2.2.2==x.1.1.2.2.2.2.2.2.2.2))))))))))
   (some (((1:Int),()),()))
   (some (y1.1.2,())):=by kernel_rfl
theorem WY(F:FT)(J:JT BL)(x:((StateT×((List bB)×Unit))×Unit)):bY 44 BL Tryz.f44 F J x =
 (F 60 DT ((x.1.1.1,()),())).bind fun (y1:((((List ah)×((List af)×Unit))×Unit)×Unit)) =>
 (F 61 Fy ((x.1.1.2,()),())).bind fun (y2:(((List ak)×Unit)×Unit)) =>
 J Aa (aP Tryz.prog 44 0) ((x.1.2.1,((((List.length x.1.2.1):Nat):Int),((0:Int),()))),(((([]:List ah),(([]:List af),(([]:List ak),()))),((y1.1.1.1,(y1.1.1.2.1,y2.1)),())),())):=by kernel_rfl
theorem DV(F:FT)(J:JT BL)(x:(((List bB)×(Int×(Int×Unit)))×((aC×(aC×Unit))×Unit))):fV 44 0 BL Tryz.f44 Aa F J x =
  cond (decide (x.1.2.2.1<x.1.2.1))
   (((aV x.1.1 x.1.2.2.1)).bind fun (y3:bB) =>
   (F 66 xd (((y3.1,(y3.2.1,(y3.2.2.1,(y3.2.2.2.1,((y3.2.2.2.2.1.1,(y3.2.2.2.2.1.2.1,y3.2.2.2.2.1.2.2)),((y3.2.2.2.2.2.1.1,(y3.2.2.2.2.2.1.2.1,y3.2.2.2.2.2.1.2.2)),(y3.2.2.2.2.2.2.1,y3.2.2.2.2.2.2.2))))))),()),((x.2.1.2.1.1,(x.2.1.2.1.2.1,x.2.1.2.1.2.2)),()))).bind fun (y4:((Int×Unit)×(aC×Unit))) =>
   cond (y4.1.1 != (0:Int))
    (some ((((([]:List ah),([]:List af)),([]:List ak)),y4.1),()))
    (J Aa (aP Tryz.prog 44 0) ((x.1.1,(x.1.2.1,((IntKind.wrap .i64 (x.1.2.2.1+(1:Int))),()))),(((x.2.1.1.1,(x.2.1.1.2.1,x.2.1.1.2.2)),((y4.2.1.1,(y4.2.1.2.1,y4.2.1.2.2)),())),()))))
   (some ((((x.2.1.2.1.1,x.2.1.2.1.2.1),x.2.1.2.1.2.2.1),((0:Int),())),())):=by kernel_rfl
theorem acj(F:FT)(J:JT La)(x:((bB×Unit)×Unit)):bY 45 La Tryz.f45 F J x =
  (F 19 zy ((x.1.1.2.1,()),())).bind fun (y1:((Bool×Unit)×Unit)) =>
  cond (decide (x.1.1.1<(1:Int)))
   (some (((1:Int),()),()))
   (cond (decide (x.1.1.1 > (8:Int)))
    (some (((1:Int),()),()))
    (cond (not y1.1.1)
     (some (((1:Int),()),()))
     ((F 67 Ld (((x.1.1.1,(x.1.1.2.1,(x.1.1.2.2.1,(x.1.1.2.2.2.1,((x.1.1.2.2.2.2.1.1,(x.1.1.2.2.2.2.1.2.1,x.1.1.2.2.2.2.1.2.2)),((x.1.1.2.2.2.2.2.1.1,(x.1.1.2.2.2.2.2.1.2.1,x.1.1.2.2.2.2.2.1.2.2)),(x.1.1.2.2.2.2.2.2.1,x.1.1.2.2.2.2.2.2.2))))))),()),())).bind fun (y2:((bB×Unit)×Unit)) =>
     cond (not ((y2.1.1.1==(0:Int))&&(((y2.1.1.2.1.1==(0:Int))&&(y2.1.1.2.1.2==(0:Int)))&&(((y2.1.1.2.2.1.1==(0:Int))&&(y2.1.1.2.2.1.2==(0:Int)))&&(((y2.1.1.2.2.2.1.1==(0:Int))&&(y2.1.1.2.2.2.1.2==(0:Int)))&&((((y2.1.1.2.2.2.2.1.1.1==(0:Int))&&(y2.1.1.2.2.2.2.1.1.2==(0:Int)))&&(((y2.1.1.2.2.2.2.1.2.1.1==(0:Int))&&(y2.1.1.2.2.2.2.1.2.1.2==(0:Int)))&&(y2.1.1.2.2.2.2.1.2.2==(0:Int))))&&((((y2.1.1.2.2.2.2.2.1.1.1==(0:Int))&&(y2.1.1.2.2.2.2.2.1.1.2==(0:Int)))&&(((y2.1.1.2.2.2.2.2.1.2.1.1==(0:Int))&&(y2.1.1.2.2.2.2.2.1.2.1.2==(0:Int)))&&(y2.1.1.2.2.2.2.2.1.2.2==(0:Int))))&&((y2.1.1.2.2.2.2.2.2.1==false)&&((y2.1.1.2.2.2.2.2.2.2.1==(⟨#[]⟩:ByteArray))&&(y2.1.1.2.2.2.2.2.2.2.2==(0:Int)))))))))))
      (some (((1:Int),()),()))
      (cond (x.1.1.1==(3:Int))
       ((F 68 Le (((x.1.1.2.2.2.2.1.1,(x.1.1.2.2.2.2.1.2.1,x.1.1.2.2.2.2.1.2.2)),()),())).bind fun (y3:((Bool×Unit)×Unit)) =>
       (F 68 Le (((x.1.1.2.2.2.2.2.1.1,(x.1.1.2.2.2.2.2.1.2.1,x.1.1.2.2.2.2.2.1.2.2)),()),())).bind fun (y4:((Bool×Unit)×Unit)) =>
       cond (not y3.1.1)
        (some (((1:Int),()),()))
        (cond (not y4.1.1)
         (some (((1:Int),()),()))
         (some (((0:Int),()),()))))
       (cond (x.1.1.1==(5:Int))
        ((F 19 zy ((x.1.1.2.2.1,()),())).bind fun (y5:((Bool×Unit)×Unit)) =>
        (F 19 zy ((x.1.1.2.2.2.1,()),())).bind fun (y6:((Bool×Unit)×Unit)) =>
        cond (not y5.1.1)
         (some (((1:Int),()),()))
         (cond (not y6.1.1)
          (some (((1:Int),()),()))
          (cond (decide (x.1.1.2.2.2.2.2.2.2.2<(0:Int)))
           (some (((1:Int),()),()))
           (cond (decide (x.1.1.2.2.2.2.2.2.2.2 > (3:Int)))
            (some (((1:Int),()),()))
            (some (((0:Int),()),()))))))
        (cond (x.1.1.1==(6:Int))
         ((F 19 zy ((x.1.1.2.2.2.1,()),())).bind fun (y7:((Bool×Unit)×Unit)) =>
         cond (not y7.1.1)
          (some (((1:Int),()),()))
          (some (((0:Int),()),())))
         (cond (x.1.1.1==(8:Int))
          ((F 29 K9 ((x.1.1.2.2.2.2.2.2.2.2,()),())).bind fun (y8:((Bool×Unit)×Unit)) =>
          cond (not y8.1.1)
           (some (((1:Int),()),()))
           (some (((0:Int),()),())))
          (cond (x.1.1.1==(7:Int))
           ((F 28 DN ((x.1.1.2.2.2.2.2.2.2.1,()),())).bind fun (y9:((Bool×Unit)×Unit)) =>
           cond (not y9.1.1)
            (some (((4:Int),()),()))
            (some (((0:Int),()),())))
           (some (((0:Int),()),())))))))))):=by kernel_rfl
theorem ack(F:FT)(J:JT DP)(x:((ai×(ah×Unit))×Unit)):bY 46 DP Tryz.f46 F J x =
 J sN (aP Tryz.prog 46 0) ((false,((0:Int),())),(((x.1.1,()),(((x.1.2.1.1,(x.1.2.1.2.1,x.1.2.1.2.2)),()),((([]:List ah),(([]:List af),())),((([]:List ah),(x.1.1.2,())),())))),())):=by kernel_rfl
theorem N1(F:FT)(J:JT DP)(x:((Bool×(Int×Unit))×(((ai×Unit)×((ah×Unit)×(((List ah)×((List af)×Unit))×(((List ah)×((List af)×Unit))×Unit))))×Unit))):fV 46 0 DP Tryz.f46 sN F J x =
  cond (decide (x.1.2.1<(((List.length x.2.1.1.1.1):Nat):Int)))
   (cond (not x.1.1)
    (((aV x.2.1.1.1.1 x.1.2.1)).bind fun (y1:ah) =>
    (F 69 FB ((x.2.1.2.1.1.1,(y1.1,())),())).bind fun (y2:((Int×Unit)×Unit)) =>
    cond (decide (y2.1.1<(0:Int)))
     (cond (aM (List.length x.2.1.2.2.2.1.1) (List.length ((x.2.1.2.1.1.1,(x.2.1.2.1.1.2.1,x.2.1.2.1.1.2.2))::([]:List ah))))
      (((aV x.2.1.1.1.1 x.1.2.1)).bind fun (y3:ah) =>
      cond (aM (List.length (x.2.1.2.2.2.1.1++((x.2.1.2.1.1.1,(x.2.1.2.1.1.2.1,x.2.1.2.1.1.2.2))::([]:List ah)))) (List.length ((y3.1,(y3.2.1,y3.2.2))::([]:List ah))))
       (J sN (aP Tryz.prog 46 0) ((true,((IntKind.wrap .i64 (x.1.2.1+(1:Int))),())),(((x.2.1.1.1,()),(((x.2.1.2.1.1.1,(x.2.1.2.1.1.2.1,x.2.1.2.1.1.2.2)),()),((x.2.1.2.2.1.1,x.2.1.2.2.1.2),((((x.2.1.2.2.2.1.1++((x.2.1.2.1.1.1,(x.2.1.2.1.1.2.1,x.2.1.2.1.1.2.2))::([]:List ah)))++((y3.1,(y3.2.1,y3.2.2))::([]:List ah))),x.2.1.2.2.2.1.2),())))),())))
       (none))
      (none))
     (((aV x.2.1.1.1.1 x.1.2.1)).bind fun (y4:ah) =>
     cond (aM (List.length x.2.1.2.2.2.1.1) (List.length ((y4.1,(y4.2.1,y4.2.2))::([]:List ah))))
      (J sN (aP Tryz.prog 46 0) ((x.1.1,((IntKind.wrap .i64 (x.1.2.1+(1:Int))),())),(((x.2.1.1.1,()),(((x.2.1.2.1.1.1,(x.2.1.2.1.1.2.1,x.2.1.2.1.1.2.2)),()),((x.2.1.2.2.1.1,x.2.1.2.2.1.2),(((x.2.1.2.2.2.1.1++((y4.1,(y4.2.1,y4.2.2))::([]:List ah))),x.2.1.2.2.2.1.2),())))),())))
      (none)))
    (((aV x.2.1.1.1.1 x.1.2.1)).bind fun (y5:ah) =>
    cond (aM (List.length x.2.1.2.2.2.1.1) (List.length ((y5.1,(y5.2.1,y5.2.2))::([]:List ah))))
     (J sN (aP Tryz.prog 46 0) ((x.1.1,((IntKind.wrap .i64 (x.1.2.1+(1:Int))),())),(((x.2.1.1.1,()),(((x.2.1.2.1.1.1,(x.2.1.2.1.1.2.1,x.2.1.2.1.1.2.2)),()),((x.2.1.2.2.1.1,x.2.1.2.2.1.2),(((x.2.1.2.2.2.1.1++((y5.1,(y5.2.1,y5.2.2))::([]:List ah))),x.2.1.2.2.2.1.2),())))),())))
     (none)))
   (cond (not x.1.1)
    (cond (aM (List.length x.2.1.2.2.2.1.1) (List.length ((x.2.1.2.1.1.1,(x.2.1.2.1.1.2.1,x.2.1.2.1.1.2.2))::([]:List ah))))
     (some ((((x.2.1.2.2.2.1.1++((x.2.1.2.1.1.1,(x.2.1.2.1.1.2.1,x.2.1.2.1.1.2.2))::([]:List ah))),x.2.1.2.2.2.1.2.1),()),()))
     (none))
    (some (((x.2.1.2.2.2.1.1,x.2.1.2.2.2.1.2.1),()),()))):=by kernel_rfl
theorem acm(F:FT)(J:JT oi)(x:((ai×(ID×(ID×Unit)))×Unit)):bY 47 oi Tryz.f47 F J x =
 J vn (aP Tryz.prog 47 0) (((0:Int),()),(((x.1.1,()),((x.1.2.1,()),((x.1.2.2.1,()),((([]:List ah),(([]:List af),())),((([]:List ah),(([]:List af),())),()))))),())):=by kernel_rfl
theorem N2(F:FT)(J:JT oi)(x:((Int×Unit)×(((ai×Unit)×((ID×Unit)×((ID×Unit)×(((List ah)×((List af)×Unit))×(((List ah)×((List af)×Unit))×Unit)))))×Unit))):fV 47 0 oi Tryz.f47 vn F J x =
  cond (decide (x.1.1<(((List.length x.2.1.1.1.1):Nat):Int)))
   (((aV x.2.1.1.1.1 x.1.1)).bind fun (y1:ah) =>
   cond (not ((y1.1.1==x.2.1.2.1.1.1)&&(y1.1.2==x.2.1.2.1.1.2)))
    (((aV x.2.1.1.1.1 x.1.1)).bind fun (y2:ah) =>
    cond (aM (List.length x.2.1.2.2.2.2.1.1) (List.length ((y2.1,(y2.2.1,y2.2.2))::([]:List ah))))
     (J vn (aP Tryz.prog 47 0) (((IntKind.wrap .i64 (x.1.1+(1:Int))),()),(((x.2.1.1.1,()),((x.2.1.2.1.1,()),((x.2.1.2.2.1.1,()),((x.2.1.2.2.2.1.1,x.2.1.2.2.2.1.2),(((x.2.1.2.2.2.2.1.1++((y2.1,(y2.2.1,y2.2.2))::([]:List ah))),x.2.1.2.2.2.2.1.2),()))))),())))
     (none))
    (J vn (aP Tryz.prog 47 0) (((IntKind.wrap .i64 (x.1.1+(1:Int))),()),(((x.2.1.1.1,()),((x.2.1.2.1.1,()),((x.2.1.2.2.1.1,()),((x.2.1.2.2.2.1.1,x.2.1.2.2.2.1.2),((x.2.1.2.2.2.2.1.1,x.2.1.2.2.2.2.1.2),()))))),()))))
   (J vo (aP Tryz.prog 47 1) (((0:Int),()),(((x.2.1.1.1,()),((x.2.1.2.2.1.1,()),((x.2.1.2.2.2.1.1,x.2.1.2.2.2.1.2),((x.2.1.2.2.2.2.1.1,x.2.1.2.2.2.2.1.2),())))),()))):=by kernel_rfl
theorem N3(F:FT)(J:JT oi)(x:((Int×Unit)×(((ai×Unit)×((ID×Unit)×(((List ah)×((List af)×Unit))×(((List ah)×((List af)×Unit))×Unit))))×Unit))):fV 47 1 oi Tryz.f47 vo F J x =
  cond (decide (x.1.1<(((List.length x.2.1.1.1.2):Nat):Int)))
   (((aV x.2.1.1.1.2 x.1.1)).bind fun (y3:af) =>
   cond (not ((y3.1.1==x.2.1.2.1.1.1)&&(y3.1.2==x.2.1.2.1.1.2)))
    (((aV x.2.1.1.1.2 x.1.1)).bind fun (y4:af) =>
    cond (aM (List.length x.2.1.2.2.2.1.2.1) (List.length ((y4.1,y4.2)::([]:List af))))
     (J vo (aP Tryz.prog 47 1) (((IntKind.wrap .i64 (x.1.1+(1:Int))),()),(((x.2.1.1.1,()),((x.2.1.2.1.1,()),((x.2.1.2.2.1.1,x.2.1.2.2.1.2),((x.2.1.2.2.2.1.1,((x.2.1.2.2.2.1.2.1++((y4.1,y4.2)::([]:List af))),())),())))),())))
     (none))
    (J vo (aP Tryz.prog 47 1) (((IntKind.wrap .i64 (x.1.1+(1:Int))),()),(((x.2.1.1.1,()),((x.2.1.2.1.1,()),((x.2.1.2.2.1.1,x.2.1.2.2.1.2),((x.2.1.2.2.2.1.1,x.2.1.2.2.2.1.2),())))),()))))
   (some (((x.2.1.2.2.2.1.1,x.2.1.2.2.2.1.2.1),()),())):=by kernel_rfl
theorem acn(F:FT)(J:JT NF)(x:((StateT×(bB×Unit))×Unit)):bY 48 NF Tryz.f48 F J x =
  (F 21 w9 ((x.1.1.1,(x.1.2.1.2.1,())),())).bind fun (y1:((af×(Bool×Unit))×Unit)) =>
  cond y1.1.2.1
   (some ((((([]:List ah),([]:List af)),([]:List ak)),((12:Int),())),()))
   (cond (decide ((((List.length x.1.1.1.2):Nat):Int)≥(40:Int)))
    (some ((((([]:List ah),([]:List af)),([]:List ak)),((3:Int),())),()))
    ((F 70 Lf (((x.1.1.1,x.1.1.2),((x.1.2.1.2.2.2.2.1.1,(x.1.2.1.2.2.2.2.1.2.1,x.1.2.1.2.2.2.2.1.2.2)),())),())).bind fun (y2:((oU×(Int×Unit))×Unit)) =>
    (F 70 Lf (((x.1.1.1,x.1.1.2),((x.1.2.1.2.2.2.2.2.1.1,(x.1.2.1.2.2.2.2.2.1.2.1,x.1.2.1.2.2.2.2.2.1.2.2)),())),())).bind fun (y3:((oU×(Int×Unit))×Unit)) =>
    (F 18 oV ((x.1.1.1,(x.1.2.1.2.2.2.2.2.1.1,())),())).bind fun (y4:((ah×(Bool×Unit))×Unit)) =>
    cond y4.1.2.1
     (cond (((x.1.2.1.2.2.2.2.2.1.2.1.1==x.1.2.1.2.1.1)&&(x.1.2.1.2.2.2.2.2.1.2.1.2==x.1.2.1.2.1.2))&&(x.1.2.1.2.2.2.2.2.1.2.2==(0:Int)))
      (cond (y2.1.2.1 != (0:Int))
       (some ((((([]:List ah),([]:List af)),([]:List ak)),((13:Int),())),()))
       (cond (y3.1.2.1 != (0:Int))
        (some ((((([]:List ah),([]:List af)),([]:List ak)),((13:Int),())),()))
        ((F 71 xe ((x.1.1.1,((x.1.2.1.2.1,((⟨#[]⟩:ByteArray),(0:Int))),())),())).bind fun (y5:((ai×Unit)×Unit)) =>
        (F 72 xf ((y5.1.1,((y2.1.1.1,(y2.1.1.2.1,y2.1.1.2.2)),((x.1.2.1.2.1,(0:Int)),()))),())).bind fun (y6:((ai×Unit)×Unit)) =>
        (F 72 xf ((y6.1.1,((x.1.2.1.2.2.2.2.2.1.1,(x.1.2.1.2.2.2.2.2.1.2.1,x.1.2.1.2.2.2.2.2.1.2.2)),((x.1.2.1.2.1,(1:Int)),()))),())).bind fun (y7:((ai×Unit)×Unit)) =>
        (F 64 Fz ((y7.1.1,()),())).bind fun (y8:((Int×Unit)×Unit)) =>
        cond (y8.1.1 != (0:Int))
         (some ((((([]:List ah),([]:List af)),([]:List ak)),((15:Int),())),()))
         (some (((y7.1.1,x.1.1.2),((0:Int),())),())))))
      (cond (y2.1.2.1 != (0:Int))
       (some ((((([]:List ah),([]:List af)),([]:List ak)),((13:Int),())),()))
       (cond (y3.1.2.1 != (0:Int))
        (some ((((([]:List ah),([]:List af)),([]:List ak)),((13:Int),())),()))
        ((F 71 xe ((x.1.1.1,((x.1.2.1.2.1,((⟨#[]⟩:ByteArray),(0:Int))),())),())).bind fun (y9:((ai×Unit)×Unit)) =>
        (F 72 xf ((y9.1.1,((y2.1.1.1,(y2.1.1.2.1,y2.1.1.2.2)),((x.1.2.1.2.1,(0:Int)),()))),())).bind fun (oq:((ai×Unit)×Unit)) =>
        (F 72 xf ((oq.1.1,((y3.1.1.1,(y3.1.1.2.1,y3.1.1.2.2)),((x.1.2.1.2.1,(1:Int)),()))),())).bind fun (kz:((ai×Unit)×Unit)) =>
        (F 64 Fz ((kz.1.1,()),())).bind fun (lM:((Int×Unit)×Unit)) =>
        cond (lM.1.1 != (0:Int))
         (some ((((([]:List ah),([]:List af)),([]:List ak)),((15:Int),())),()))
         (some (((kz.1.1,x.1.1.2),((0:Int),())),()))))))
     (cond (y2.1.2.1 != (0:Int))
      (some ((((([]:List ah),([]:List af)),([]:List ak)),((13:Int),())),()))
      (cond (y3.1.2.1 != (0:Int))
       (some ((((([]:List ah),([]:List af)),([]:List ak)),((13:Int),())),()))
       ((F 71 xe ((x.1.1.1,((x.1.2.1.2.1,((⟨#[]⟩:ByteArray),(0:Int))),())),())).bind fun (kA:((ai×Unit)×Unit)) =>
       (F 72 xf ((kA.1.1,((y2.1.1.1,(y2.1.1.2.1,y2.1.1.2.2)),((x.1.2.1.2.1,(0:Int)),()))),())).bind fun (Bl:((ai×Unit)×Unit)) =>
       (F 72 xf ((Bl.1.1,((y3.1.1.1,(y3.1.1.2.1,y3.1.1.2.2)),((x.1.2.1.2.1,(1:Int)),()))),())).bind fun (p7:((ai×Unit)×Unit)) =>
       (F 64 Fz ((p7.1.1,()),())).bind fun (Qk:((Int×Unit)×Unit)) =>
       cond (Qk.1.1 != (0:Int))
        (some ((((([]:List ah),([]:List af)),([]:List ak)),((15:Int),())),()))
        (some (((p7.1.1,x.1.1.2),((0:Int),())),()))))))):=by kernel_rfl
theorem aco(F:FT)(J:JT NG)(x:((StateT×(bB×Unit))×Unit)):bY 49 NG Tryz.f49 F J x =
  (F 21 w9 ((x.1.1.1,(x.1.2.1.2.1,())),())).bind fun (y1:((af×(Bool×Unit))×Unit)) =>
  cond (not y1.1.2.1)
   (some ((((([]:List ah),([]:List af)),([]:List ak)),((13:Int),())),()))
   ((F 74 Lg ((x.1.1.1,((x.1.2.1.2.1,(0:Int)),())),())).bind fun (y2:((ab×Unit)×Unit)) =>
   (F 73 xg ((x.1.1.2,(((x.1.2.1.2.1,(0:Int)),(y2.1.1.1,y2.1.1.2)),())),())).bind fun (y3:(((List ak)×Unit)×Unit)) =>
   (F 74 Lg ((x.1.1.1,((x.1.2.1.2.1,(1:Int)),())),())).bind fun (y4:((ab×Unit)×Unit)) =>
   (F 73 xg ((y3.1.1,(((x.1.2.1.2.1,(1:Int)),(y4.1.1.1,y4.1.1.2)),())),())).bind fun (y5:(((List ak)×Unit)×Unit)) =>
   (F 75 Lh ((x.1.1.1,((x.1.2.1.2.1,(0:Int)),())),())).bind fun (y6:((ai×Unit)×Unit)) =>
   (F 75 Lh ((y6.1.1,((x.1.2.1.2.1,(1:Int)),())),())).bind fun (y7:((ai×Unit)×Unit)) =>
   (F 47 oi ((y7.1.1,(((0:Int),(0:Int)),(x.1.2.1.2.1,()))),())).bind fun (y8:((ai×Unit)×Unit)) =>
   some (((y8.1.1,y5.1.1),((0:Int),())),())):=by kernel_rfl
theorem acp(F:FT)(J:JT NH)(x:((StateT×(bB×Unit))×Unit)):bY 50 NH Tryz.f50 F J x =
  (F 21 w9 ((x.1.1.1,(x.1.2.1.2.1,())),())).bind fun (y1:((af×(Bool×Unit))×Unit)) =>
  cond (not y1.1.2.1)
   (some ((((([]:List ah),([]:List af)),([]:List ak)),((13:Int),())),()))
   ((F 18 oV ((x.1.1.1,(x.1.2.1.2.2.1,())),())).bind fun (y2:((ah×(Bool×Unit))×Unit)) =>
   (F 21 w9 ((x.1.1.1,(x.1.2.1.2.2.2.1,())),())).bind fun (y3:((af×(Bool×Unit))×Unit)) =>
   cond y2.1.2.1
    (some ((((([]:List ah),([]:List af)),([]:List ak)),((12:Int),())),()))
    (cond y3.1.2.1
     (some ((((([]:List ah),([]:List af)),([]:List ak)),((12:Int),())),()))
     (cond (decide ((((List.length x.1.1.1.1):Nat):Int)≥(24:Int)))
      (some ((((([]:List ah),([]:List af)),([]:List ak)),((3:Int),())),()))
      (cond (decide ((((List.length x.1.1.1.2):Nat):Int)≥(40:Int)))
       (some ((((([]:List ah),([]:List af)),([]:List ak)),((3:Int),())),()))
       (cond ((2:Int)==(0:Int))
        (none)
        (cond ((2:Int)==(0:Int))
         (none)
         ((F 23 BG (((x.1.2.1.2.2.2.1,(IntKind.wrap .i64 (Int.tdiv x.1.2.1.2.2.2.2.2.2.2.2 (2:Int)))),()),())).bind fun (y4:((ab×Unit)×Unit)) =>
         (F 76 FC ((x.1.1.1,((x.1.2.1.2.1,(IntKind.wrap .i64 ((1:Int) - (Int.tmod x.1.2.1.2.2.2.2.2.2.2.2 (2:Int))))),((y4.1.1.1,y4.1.1.2),()))),())).bind fun (y5:((ai×Unit)×Unit)) =>
         (F 71 xe ((y5.1.1,((x.1.2.1.2.2.2.1,((⟨#[]⟩:ByteArray),(0:Int))),())),())).bind fun (y6:((ai×Unit)×Unit)) =>
         (F 77 oW ((((x.1.2.1.2.1,(IntKind.wrap .i64 ((1:Int) - (Int.tmod x.1.2.1.2.2.2.2.2.2.2.2 (2:Int)))))::((x.1.2.1.2.2.2.1,(IntKind.wrap .i64 (Int.tdiv x.1.2.1.2.2.2.2.2.2.2.2 (2:Int))))::([]:List ab))),()),())).bind fun (y7:(((List ab)×Unit)×Unit)) =>
         (F 46 DP ((y6.1.1,((x.1.2.1.2.2.1,(y7.1.1,((⟨#[]⟩:ByteArray),(0:Int)))),())),())).bind fun (y8:((ai×Unit)×Unit)) =>
         some (((y8.1.1,x.1.1.2),((0:Int),())),())))))))):=by kernel_rfl
theorem acq(F:FT)(J:JT xc)(x:((StateT×(bB×Unit))×Unit)):bY 51 xc Tryz.f51 F J x =
  (F 18 oV ((x.1.1.1,(x.1.2.1.2.1,())),())).bind fun (y1:((ah×(Bool×Unit))×Unit)) =>
  cond (not y1.1.2.1)
   (some ((((([]:List ah),([]:List af)),([]:List ak)),((13:Int),())),()))
   (cond ((((List.length y1.1.1.2.1):Nat):Int) != (2:Int))
    (some ((((([]:List ah),([]:List af)),([]:List ak)),((14:Int),())),()))
    (((aV y1.1.1.2.1 (0:Int))).bind fun (y2:ab) =>
    ((aV y1.1.1.2.1 (1:Int))).bind fun (y3:ab) =>
    cond ((y2.1.1==y3.1.1)&&(y2.1.2==y3.1.2))
     (some ((((([]:List ah),([]:List af)),([]:List ak)),((14:Int),())),()))
     (((aV y1.1.1.2.1 (0:Int))).bind fun (y4:ab) =>
     ((aV y1.1.1.2.1 (1:Int))).bind fun (y5:ab) =>
     cond ((y4.1.1==x.1.2.1.2.2.2.1.1)&&(y4.1.2==x.1.2.1.2.2.2.1.2))
      (((aV y1.1.1.2.1 (1:Int))).bind fun (y6:ab) =>
      ((aV y1.1.1.2.1 (0:Int))).bind fun (y7:ab) =>
      cond (not ((y7.1.1==x.1.2.1.2.2.2.1.1)&&(y7.1.2==x.1.2.1.2.2.2.1.2)))
       (some ((((([]:List ah),([]:List af)),([]:List ak)),((14:Int),())),()))
       ((F 23 BG (((y7.1,y7.2),()),())).bind fun (y8:((ab×Unit)×Unit)) =>
       (F 47 oi ((x.1.1.1,(x.1.2.1.2.1,(((0:Int),(0:Int)),()))),())).bind fun (y9:((ai×Unit)×Unit)) =>
       (F 76 FC ((y9.1.1,((y8.1.1.1,y8.1.1.2),((y6.1,y6.2),()))),())).bind fun (oq:((ai×Unit)×Unit)) =>
       (F 47 oi ((oq.1.1,(((0:Int),(0:Int)),(y7.1,()))),())).bind fun (kz:((ai×Unit)×Unit)) =>
       J lu (aP Tryz.prog 51 0) ((x.1.1.2,((0:Int),())),(((([]:List ah),(([]:List af),(([]:List ak),()))),(((y6.1,y6.2),()),(((y7.1,y7.2),()),(((y8.1.1.1,y8.1.1.2),()),((kz.1.1,()),()))))),()))))
      (cond (not ((y5.1.1==x.1.2.1.2.2.2.1.1)&&(y5.1.2==x.1.2.1.2.2.2.1.2)))
       (some ((((([]:List ah),([]:List af)),([]:List ak)),((14:Int),())),()))
       ((F 23 BG (((y5.1,y5.2),()),())).bind fun (lM:((ab×Unit)×Unit)) =>
       (F 47 oi ((x.1.1.1,(x.1.2.1.2.1,(((0:Int),(0:Int)),()))),())).bind fun (kA:((ai×Unit)×Unit)) =>
       (F 76 FC ((kA.1.1,((lM.1.1.1,lM.1.1.2),((y4.1,y4.2),()))),())).bind fun (Bl:((ai×Unit)×Unit)) =>
       (F 47 oi ((Bl.1.1,(((0:Int),(0:Int)),(y5.1,()))),())).bind fun (p7:((ai×Unit)×Unit)) =>
       J lu (aP Tryz.prog 51 0) ((x.1.1.2,((0:Int),())),(((([]:List ah),(([]:List af),(([]:List ak),()))),(((y4.1,y4.2),()),(((y5.1,y5.2),()),(((lM.1.1.1,lM.1.1.2),()),((p7.1.1,()),()))))),()))))))):=by kernel_rfl
theorem N4(F:FT)(J:JT xc)(x:(((List ak)×(Int×Unit))×((aC×((ab×Unit)×((ab×Unit)×((ab×Unit)×((ai×Unit)×Unit)))))×Unit))):fV 51 0 xc Tryz.f51 lu F J x =
  cond (decide (x.1.2.1<(2:Int)))
   (cond (((x.2.1.2.2.1.1.1.1==x.2.1.2.2.2.1.1.1.1)&&(x.2.1.2.2.1.1.1.2==x.2.1.2.2.2.1.1.1.2))&&(x.1.2.1==x.2.1.2.2.2.1.1.2))
    ((F 73 xg ((x.1.1,(((x.2.1.2.2.1.1.1,x.1.2.1),(x.2.1.2.1.1.1,x.2.1.2.1.1.2)),())),())).bind fun (Qk:(((List ak)×Unit)×Unit)) =>
    J lu (aP Tryz.prog 51 0) ((Qk.1.1,((IntKind.wrap .i64 (x.1.2.1+(1:Int))),())),(((x.2.1.1.1,(x.2.1.1.2.1,x.2.1.1.2.2)),(((x.2.1.2.1.1.1,x.2.1.2.1.1.2),()),(((x.2.1.2.2.1.1.1,x.2.1.2.2.1.1.2),()),(((x.2.1.2.2.2.1.1.1,x.2.1.2.2.2.1.1.2),()),((x.2.1.2.2.2.2.1.1,()),()))))),())))
    ((F 73 xg ((x.1.1,(((x.2.1.2.2.1.1.1,x.1.2.1),(((0:Int),(0:Int)),(0:Int))),())),())).bind fun (Q7:(((List ak)×Unit)×Unit)) =>
    J lu (aP Tryz.prog 51 0) ((Q7.1.1,((IntKind.wrap .i64 (x.1.2.1+(1:Int))),())),(((x.2.1.1.1,(x.2.1.1.2.1,x.2.1.1.2.2)),(((x.2.1.2.1.1.1,x.2.1.2.1.1.2),()),(((x.2.1.2.2.1.1.1,x.2.1.2.2.1.1.2),()),(((x.2.1.2.2.2.1.1.1,x.2.1.2.2.2.1.1.2),()),((x.2.1.2.2.2.2.1.1,()),()))))),()))))
   (some (((x.2.1.2.2.2.2.1.1,x.1.1),((0:Int),())),())):=by kernel_rfl
theorem acr(F:FT)(J:JT zB)(x:((StateT×(bB×Unit))×Unit)):bY 52 zB Tryz.f52 F J x =
 (F 38 BI ((x.1.1.1,()),())).bind fun (y1:((((List ah)×((List af)×Unit))×Unit)×Unit)) =>
 J pZ (aP Tryz.prog 52 0) ((false,((0:Int),())),((((x.1.1.1,x.1.1.2),()),(((x.1.2.1.1,(x.1.2.1.2.1,(x.1.2.1.2.2.1,(x.1.2.1.2.2.2.1,((x.1.2.1.2.2.2.2.1.1,(x.1.2.1.2.2.2.2.1.2.1,x.1.2.1.2.2.2.2.1.2.2)),((x.1.2.1.2.2.2.2.2.1.1,(x.1.2.1.2.2.2.2.2.1.2.1,x.1.2.1.2.2.2.2.2.1.2.2)),(x.1.2.1.2.2.2.2.2.2.1,x.1.2.1.2.2.2.2.2.2.2))))))),()),((([]:List ah),(([]:List af),(([]:List ak),()))),((y1.1.1.1,y1.1.1.2),())))),())):=by kernel_rfl
theorem N5(F:FT)(J:JT zB)(x:((Bool×(Int×Unit))×(((StateT×Unit)×((bB×Unit)×(aC×(((List ah)×((List af)×Unit))×Unit))))×Unit))):fV 52 0 zB Tryz.f52 pZ F J x =
  cond (decide (x.1.2.1<(((List.length x.2.1.2.2.2.1.1):Nat):Int)))
   (cond (not x.2.1.2.1.1.2.2.2.2.2.2.1)
    (cond ((decide ((0:Int)≤x.1.2.1))&&(decide (x.1.2.1<(((List.length x.2.1.2.2.2.1.1):Nat):Int))))
     (((x.2.1.2.2.2.1.1)[(Int.toNat x.1.2.1)]?).bind fun (y2:ah) =>
     cond ((y2.1.1==x.2.1.2.1.1.2.1.1)&&(y2.1.2==x.2.1.2.1.1.2.1.2))
      (cond (x.2.1.2.1.1.1==(7:Int))
       (cond ((decide ((0:Int)≤x.1.2.1))&&(decide (x.1.2.1<(((List.length x.2.1.2.2.2.1.1):Nat):Int))))
        (((x.2.1.2.2.2.1.1)[(Int.toNat x.1.2.1)]?).bind fun (y3:ah) =>
        J pZ (aP Tryz.prog 52 0) ((true,((IntKind.wrap .i64 (x.1.2.1+(1:Int))),())),((((x.2.1.1.1.1,x.2.1.1.1.2),()),(((x.2.1.2.1.1.1,(x.2.1.2.1.1.2.1,(x.2.1.2.1.1.2.2.1,(x.2.1.2.1.1.2.2.2.1,((x.2.1.2.1.1.2.2.2.2.1.1,(x.2.1.2.1.1.2.2.2.2.1.2.1,x.2.1.2.1.1.2.2.2.2.1.2.2)),((x.2.1.2.1.1.2.2.2.2.2.1.1,(x.2.1.2.1.1.2.2.2.2.2.1.2.1,x.2.1.2.1.1.2.2.2.2.2.1.2.2)),(x.2.1.2.1.1.2.2.2.2.2.2.1,x.2.1.2.1.1.2.2.2.2.2.2.2))))))),()),((x.2.1.2.2.1.1,(x.2.1.2.2.1.2.1,x.2.1.2.2.1.2.2)),(((List.set x.2.1.2.2.2.1.1 (Int.toNat x.1.2.1) (y3.1,(y3.2.1,(x.2.1.2.1.1.2.2.2.2.2.2.2.1,y3.2.2.2)))),x.2.1.2.2.2.1.2),())))),())))
        (none))
       (cond ((decide ((0:Int)≤x.1.2.1))&&(decide (x.1.2.1<(((List.length x.2.1.2.2.2.1.1):Nat):Int))))
        (((x.2.1.2.2.2.1.1)[(Int.toNat x.1.2.1)]?).bind fun (y4:ah) =>
        J pZ (aP Tryz.prog 52 0) ((true,((IntKind.wrap .i64 (x.1.2.1+(1:Int))),())),((((x.2.1.1.1.1,x.2.1.1.1.2),()),(((x.2.1.2.1.1.1,(x.2.1.2.1.1.2.1,(x.2.1.2.1.1.2.2.1,(x.2.1.2.1.1.2.2.2.1,((x.2.1.2.1.1.2.2.2.2.1.1,(x.2.1.2.1.1.2.2.2.2.1.2.1,x.2.1.2.1.1.2.2.2.2.1.2.2)),((x.2.1.2.1.1.2.2.2.2.2.1.1,(x.2.1.2.1.1.2.2.2.2.2.1.2.1,x.2.1.2.1.1.2.2.2.2.2.1.2.2)),(x.2.1.2.1.1.2.2.2.2.2.2.1,x.2.1.2.1.1.2.2.2.2.2.2.2))))))),()),((x.2.1.2.2.1.1,(x.2.1.2.2.1.2.1,x.2.1.2.2.1.2.2)),(((List.set x.2.1.2.2.2.1.1 (Int.toNat x.1.2.1) (y4.1,(y4.2.1,(y4.2.2.1,x.2.1.2.1.1.2.2.2.2.2.2.2.2)))),x.2.1.2.2.2.1.2),())))),())))
        (none)))
      (J pZ (aP Tryz.prog 52 0) ((x.1.1,((IntKind.wrap .i64 (x.1.2.1+(1:Int))),())),((((x.2.1.1.1.1,x.2.1.1.1.2),()),(((x.2.1.2.1.1.1,(x.2.1.2.1.1.2.1,(x.2.1.2.1.1.2.2.1,(x.2.1.2.1.1.2.2.2.1,((x.2.1.2.1.1.2.2.2.2.1.1,(x.2.1.2.1.1.2.2.2.2.1.2.1,x.2.1.2.1.1.2.2.2.2.1.2.2)),((x.2.1.2.1.1.2.2.2.2.2.1.1,(x.2.1.2.1.1.2.2.2.2.2.1.2.1,x.2.1.2.1.1.2.2.2.2.2.1.2.2)),(x.2.1.2.1.1.2.2.2.2.2.2.1,x.2.1.2.1.1.2.2.2.2.2.2.2))))))),()),((x.2.1.2.2.1.1,(x.2.1.2.2.1.2.1,x.2.1.2.2.1.2.2)),((x.2.1.2.2.2.1.1,x.2.1.2.2.2.1.2),())))),()))))
     (none))
    (J pZ (aP Tryz.prog 52 0) ((x.1.1,((IntKind.wrap .i64 (x.1.2.1+(1:Int))),())),((((x.2.1.1.1.1,x.2.1.1.1.2),()),(((x.2.1.2.1.1.1,(x.2.1.2.1.1.2.1,(x.2.1.2.1.1.2.2.1,(x.2.1.2.1.1.2.2.2.1,((x.2.1.2.1.1.2.2.2.2.1.1,(x.2.1.2.1.1.2.2.2.2.1.2.1,x.2.1.2.1.1.2.2.2.2.1.2.2)),((x.2.1.2.1.1.2.2.2.2.2.1.1,(x.2.1.2.1.1.2.2.2.2.2.1.2.1,x.2.1.2.1.1.2.2.2.2.2.1.2.2)),(x.2.1.2.1.1.2.2.2.2.2.2.1,x.2.1.2.1.1.2.2.2.2.2.2.2))))))),()),((x.2.1.2.2.1.1,(x.2.1.2.2.1.2.1,x.2.1.2.2.1.2.2)),((x.2.1.2.2.2.1.1,x.2.1.2.2.2.1.2),())))),()))))
   (J p4 (aP Tryz.prog 52 1) ((x.1.1,((0:Int),())),((((x.2.1.1.1.1,x.2.1.1.1.2),()),(((x.2.1.2.1.1.1,(x.2.1.2.1.1.2.1,(x.2.1.2.1.1.2.2.1,(x.2.1.2.1.1.2.2.2.1,((x.2.1.2.1.1.2.2.2.2.1.1,(x.2.1.2.1.1.2.2.2.2.1.2.1,x.2.1.2.1.1.2.2.2.2.1.2.2)),((x.2.1.2.1.1.2.2.2.2.2.1.1,(x.2.1.2.1.1.2.2.2.2.2.1.2.1,x.2.1.2.1.1.2.2.2.2.2.1.2.2)),(x.2.1.2.1.1.2.2.2.2.2.2.1,x.2.1.2.1.1.2.2.2.2.2.2.2))))))),()),((x.2.1.2.2.1.1,(x.2.1.2.2.1.2.1,x.2.1.2.2.1.2.2)),((x.2.1.2.2.2.1.1,x.2.1.2.2.2.1.2),())))),()))):=by kernel_rfl
theorem N6(F:FT)(J:JT zB)(x:((Bool×(Int×Unit))×(((StateT×Unit)×((bB×Unit)×(aC×(((List ah)×((List af)×Unit))×Unit))))×Unit))):fV 52 1 zB Tryz.f52 p4 F J x =
  cond (decide (x.1.2.1<(((List.length x.2.1.2.2.2.1.2.1):Nat):Int)))
   (cond x.2.1.2.1.1.2.2.2.2.2.2.1
    (cond ((decide ((0:Int)≤x.1.2.1))&&(decide (x.1.2.1<(((List.length x.2.1.2.2.2.1.2.1):Nat):Int))))
     (((x.2.1.2.2.2.1.2.1)[(Int.toNat x.1.2.1)]?).bind fun (y5:af) =>
     cond ((y5.1.1==x.2.1.2.1.1.2.1.1)&&(y5.1.2==x.2.1.2.1.1.2.1.2))
      (cond (x.2.1.2.1.1.1==(7:Int))
       (cond ((decide ((0:Int)≤x.1.2.1))&&(decide (x.1.2.1<(((List.length x.2.1.2.2.2.1.2.1):Nat):Int))))
        (((x.2.1.2.2.2.1.2.1)[(Int.toNat x.1.2.1)]?).bind fun (y6:af) =>
        J p4 (aP Tryz.prog 52 1) ((true,((IntKind.wrap .i64 (x.1.2.1+(1:Int))),())),((((x.2.1.1.1.1,x.2.1.1.1.2),()),(((x.2.1.2.1.1.1,(x.2.1.2.1.1.2.1,(x.2.1.2.1.1.2.2.1,(x.2.1.2.1.1.2.2.2.1,((x.2.1.2.1.1.2.2.2.2.1.1,(x.2.1.2.1.1.2.2.2.2.1.2.1,x.2.1.2.1.1.2.2.2.2.1.2.2)),((x.2.1.2.1.1.2.2.2.2.2.1.1,(x.2.1.2.1.1.2.2.2.2.2.1.2.1,x.2.1.2.1.1.2.2.2.2.2.1.2.2)),(x.2.1.2.1.1.2.2.2.2.2.2.1,x.2.1.2.1.1.2.2.2.2.2.2.2))))))),()),((x.2.1.2.2.1.1,(x.2.1.2.2.1.2.1,x.2.1.2.2.1.2.2)),((x.2.1.2.2.2.1.1,((List.set x.2.1.2.2.2.1.2.1 (Int.toNat x.1.2.1) (y6.1,(x.2.1.2.1.1.2.2.2.2.2.2.2.1,y6.2.2))),())),())))),())))
        (none))
       (cond ((decide ((0:Int)≤x.1.2.1))&&(decide (x.1.2.1<(((List.length x.2.1.2.2.2.1.2.1):Nat):Int))))
        (((x.2.1.2.2.2.1.2.1)[(Int.toNat x.1.2.1)]?).bind fun (y7:af) =>
        J p4 (aP Tryz.prog 52 1) ((true,((IntKind.wrap .i64 (x.1.2.1+(1:Int))),())),((((x.2.1.1.1.1,x.2.1.1.1.2),()),(((x.2.1.2.1.1.1,(x.2.1.2.1.1.2.1,(x.2.1.2.1.1.2.2.1,(x.2.1.2.1.1.2.2.2.1,((x.2.1.2.1.1.2.2.2.2.1.1,(x.2.1.2.1.1.2.2.2.2.1.2.1,x.2.1.2.1.1.2.2.2.2.1.2.2)),((x.2.1.2.1.1.2.2.2.2.2.1.1,(x.2.1.2.1.1.2.2.2.2.2.1.2.1,x.2.1.2.1.1.2.2.2.2.2.1.2.2)),(x.2.1.2.1.1.2.2.2.2.2.2.1,x.2.1.2.1.1.2.2.2.2.2.2.2))))))),()),((x.2.1.2.2.1.1,(x.2.1.2.2.1.2.1,x.2.1.2.2.1.2.2)),((x.2.1.2.2.2.1.1,((List.set x.2.1.2.2.2.1.2.1 (Int.toNat x.1.2.1) (y7.1,(y7.2.1,x.2.1.2.1.1.2.2.2.2.2.2.2.2))),())),())))),())))
        (none)))
      (J p4 (aP Tryz.prog 52 1) ((x.1.1,((IntKind.wrap .i64 (x.1.2.1+(1:Int))),())),((((x.2.1.1.1.1,x.2.1.1.1.2),()),(((x.2.1.2.1.1.1,(x.2.1.2.1.1.2.1,(x.2.1.2.1.1.2.2.1,(x.2.1.2.1.1.2.2.2.1,((x.2.1.2.1.1.2.2.2.2.1.1,(x.2.1.2.1.1.2.2.2.2.1.2.1,x.2.1.2.1.1.2.2.2.2.1.2.2)),((x.2.1.2.1.1.2.2.2.2.2.1.1,(x.2.1.2.1.1.2.2.2.2.2.1.2.1,x.2.1.2.1.1.2.2.2.2.2.1.2.2)),(x.2.1.2.1.1.2.2.2.2.2.2.1,x.2.1.2.1.1.2.2.2.2.2.2.2))))))),()),((x.2.1.2.2.1.1,(x.2.1.2.2.1.2.1,x.2.1.2.2.1.2.2)),((x.2.1.2.2.2.1.1,x.2.1.2.2.2.1.2),())))),()))))
     (none))
    (J p4 (aP Tryz.prog 52 1) ((x.1.1,((IntKind.wrap .i64 (x.1.2.1+(1:Int))),())),((((x.2.1.1.1.1,x.2.1.1.1.2),()),(((x.2.1.2.1.1.1,(x.2.1.2.1.1.2.1,(x.2.1.2.1.1.2.2.1,(x.2.1.2.1.1.2.2.2.1,((x.2.1.2.1.1.2.2.2.2.1.1,(x.2.1.2.1.1.2.2.2.2.1.2.1,x.2.1.2.1.1.2.2.2.2.1.2.2)),((x.2.1.2.1.1.2.2.2.2.2.1.1,(x.2.1.2.1.1.2.2.2.2.2.1.2.1,x.2.1.2.1.1.2.2.2.2.2.1.2.2)),(x.2.1.2.1.1.2.2.2.2.2.2.1,x.2.1.2.1.1.2.2.2.2.2.2.2))))))),()),((x.2.1.2.2.1.1,(x.2.1.2.2.1.2.1,x.2.1.2.2.1.2.2)),((x.2.1.2.2.2.1.1,x.2.1.2.2.2.1.2),())))),()))))
   (cond (not x.1.1)
    (some ((((([]:List ah),([]:List af)),([]:List ak)),((13:Int),())),()))
    (some ((((x.2.1.2.2.2.1.1,x.2.1.2.2.2.1.2.1),x.2.1.1.1.2),((0:Int),())),()))):=by kernel_rfl
theorem acs(F:FT)(J:JT DQ)(x:(((List ak)×((List ak)×Unit))×Unit)):bY 53 DQ Tryz.f53 F J x =
  cond ((((List.length x.1.1):Nat):Int) != (((List.length x.1.2.1):Nat):Int))
   (some ((false,()),()))
   (J Ab (aP Tryz.prog 53 0) ((x.1.1,(x.1.2.1,((0:Int),()))),((),()))):=by kernel_rfl
theorem N7(F:FT)(J:JT DQ)(x:(((List ak)×((List ak)×(Int×Unit)))×(Unit×Unit))):fV 53 0 DQ Tryz.f53 Ab F J x =
  cond (decide (x.1.2.2.1<(((List.length x.1.1):Nat):Int)))
   (((aV x.1.1 x.1.2.2.1)).bind fun (y1:ak) =>
   ((aV x.1.2.1 x.1.2.2.1)).bind fun (y2:ak) =>
   cond (not ((((y1.1.1.1==y2.1.1.1)&&(y1.1.1.2==y2.1.1.2))&&(y1.1.2==y2.1.2))&&(((y1.2.1.1==y2.2.1.1)&&(y1.2.1.2==y2.2.1.2))&&(y1.2.2==y2.2.2))))
    (some ((false,()),()))
    (J Ab (aP Tryz.prog 53 0) ((x.1.1,(x.1.2.1,((IntKind.wrap .i64 (x.1.2.2.1+(1:Int))),()))),((),()))))
   (some ((true,()),())):=by kernel_rfl
end Go.Vs
set_option maxRecDepth 1000000
set_option maxHeartbeats 0
namespace Go.Vs
open Go.Proofs
theorem acu(F:FT)(J:JT Lb)(x:((ai×(ab×Unit))×Unit)):bY 54 Lb Tryz.f54 F J x =
  (F 20 sM ((x.1.1,((x.1.2.1.1,x.1.2.1.2),())),())).bind fun (y1:((ID×(Bool×Unit))×Unit)) =>
  cond (not y1.1.2.1)
   (some (((((0:Int),(0:Int)),(0:Int)),(false,())),()))
   ((F 23 BG (((x.1.2.1.1,x.1.2.1.2),()),())).bind fun (y2:((ab×Unit)×Unit)) =>
   (F 78 NI ((x.1.1,((y2.1.1.1,y2.1.1.2),())),())).bind fun (y3:((ab×(Bool×Unit))×Unit)) =>
   some (((y3.1.1.1,y3.1.1.2),y3.1.2),())):=by kernel_rfl
theorem acv(F:FT)(J:JT BM)(x:((ai×(ID×Unit))×Unit)):bY 55 BM Tryz.f55 F J x =
 J Ac (aP Tryz.prog 55 0) (((0:Int),()),(((x.1.1,()),((x.1.2.1,()),())),())):=by kernel_rfl
theorem N8(F:FT)(J:JT BM)(x:((Int×Unit)×(((ai×Unit)×((ID×Unit)×Unit))×Unit))):fV 55 0 BM Tryz.f55 Ac F J x =
  cond (decide (x.1.1<(((List.length x.2.1.1.1.1):Nat):Int)))
   (((aV x.2.1.1.1.1 x.1.1)).bind fun (y1:ah) =>
   cond ((y1.1.1==x.2.1.2.1.1.1)&&(y1.1.2==x.2.1.2.1.1.2))
    (some (x.1,()))
    (J Ac (aP Tryz.prog 55 0) (((IntKind.wrap .i64 (x.1.1+(1:Int))),()),(((x.2.1.1.1,()),((x.2.1.2.1.1,()),())),()))))
   (some (((-1:Int),()),())):=by kernel_rfl
theorem acw(F:FT)(J:JT rk)(x:((ai×Unit)×Unit)):bY 56 rk Tryz.f56 F J x =
 J Ad (aP Tryz.prog 56 0) (((0:Int),()),(((x.1.1,()),()),(([]:List Int),()))):=by kernel_rfl
theorem N9(F:FT)(J:JT rk)(x:((Int×Unit)×(((ai×Unit)×Unit)×((List Int)×Unit)))):fV 56 0 rk Tryz.f56 Ad F J x =
  cond (decide (x.1.1<(((List.length x.2.1.1.1.1):Nat):Int)))
   (cond (aM (List.length x.2.2.1) (List.length (x.1.1::([]:List Int))))
    (J Ad (aP Tryz.prog 56 0) (((IntKind.wrap .i64 (x.1.1+(1:Int))),()),(((x.2.1.1.1,()),()),((x.2.2.1++(x.1.1::([]:List Int))),()))))
    (none))
   (J vp (aP Tryz.prog 56 1) (((0:Int),()),(((x.2.1.1.1,()),()),x.2.2))):=by kernel_rfl
theorem Oa(F:FT)(J:JT rk)(x:((Int×Unit)×(((ai×Unit)×Unit)×((List Int)×Unit)))):fV 56 1 rk Tryz.f56 vp F J x =
  cond (decide (x.1.1<(((List.length x.2.1.1.1.1):Nat):Int)))
   (J p6 (aP Tryz.prog 56 2) ((x.1.1,((0:Int),())),(((x.2.1.1.1,()),()),x.2.2)))
   (some (x.2.2,())):=by kernel_rfl
theorem Oc(F:FT)(J:JT rk)(x:((Int×(Int×Unit))×(((ai×Unit)×Unit)×((List Int)×Unit)))):fV 56 2 rk Tryz.f56 p6 F J x =
  cond (decide (x.1.2.1<(((List.length x.2.1.1.1.2):Nat):Int)))
   (((aV x.2.1.1.1.2 x.1.2.1)).bind fun (y1:af) =>
   (F 20 sM ((x.2.1.1.1,((y1.1,(0:Int)),())),())).bind fun (y2:((ID×(Bool×Unit))×Unit)) =>
   ((aV x.2.1.1.1.2 x.1.2.1)).bind fun (y3:af) =>
   (F 20 sM ((x.2.1.1.1,((y3.1,(1:Int)),())),())).bind fun (y4:((ID×(Bool×Unit))×Unit)) =>
   (F 55 BM ((x.2.1.1.1,(y2.1.1,())),())).bind fun (y5:((Int×Unit)×Unit)) =>
   (F 55 BM ((x.2.1.1.1,(y4.1.1,())),())).bind fun (y6:((Int×Unit)×Unit)) =>
   cond (decide (y5.1.1≥(0:Int)))
    (cond (decide (y6.1.1≥(0:Int)))
     (cond ((decide ((0:Int)≤y5.1.1))&&(decide (y5.1.1<(((List.length x.2.2.1):Nat):Int))))
      (((x.2.2.1)[(Int.toNat y5.1.1)]?).bind fun (y7:Int) =>
      cond ((decide ((0:Int)≤y6.1.1))&&(decide (y6.1.1<(((List.length x.2.2.1):Nat):Int))))
       (((x.2.2.1)[(Int.toNat y6.1.1)]?).bind fun (y8:Int) =>
       cond ((decide ((0:Int)≤y5.1.1))&&(decide (y5.1.1<(((List.length x.2.2.1):Nat):Int))))
        (((x.2.2.1)[(Int.toNat y5.1.1)]?).bind fun (y9:Int) =>
        cond ((decide ((0:Int)≤y6.1.1))&&(decide (y6.1.1<(((List.length (List.set x.2.2.1 (Int.toNat y5.1.1) (min y7 y8:Int))):Nat):Int))))
         ((((List.set x.2.2.1 (Int.toNat y5.1.1) (min y7 y8:Int)))[(Int.toNat y6.1.1)]?).bind fun (oq:Int) =>
         J p6 (aP Tryz.prog 56 2) ((x.1.1,((IntKind.wrap .i64 (x.1.2.1+(1:Int))),())),(((x.2.1.1.1,()),()),((List.set (List.set x.2.2.1 (Int.toNat y5.1.1) (min y7 y8:Int)) (Int.toNat y6.1.1) (min y7 y8:Int)),()))))
         (none))
        (none))
       (none))
      (none))
     (J p6 (aP Tryz.prog 56 2) ((x.1.1,((IntKind.wrap .i64 (x.1.2.1+(1:Int))),())),(((x.2.1.1.1,()),()),x.2.2))))
    (J p6 (aP Tryz.prog 56 2) ((x.1.1,((IntKind.wrap .i64 (x.1.2.1+(1:Int))),())),(((x.2.1.1.1,()),()),x.2.2))))
   (J vp (aP Tryz.prog 56 1) (((IntKind.wrap .i64 (x.1.1+(1:Int))),()),(((x.2.1.1.1,()),()),x.2.2))):=by kernel_rfl
theorem acx(F:FT)(J:JT Fx)(x:(((List ab)×((List ab)×Unit))×Unit)):bY 57 Fx Tryz.f57 F J x =
  cond ((((List.length x.1.1):Nat):Int) != (((List.length x.1.2.1):Nat):Int))
   (some ((false,()),()))
   (J Ae (aP Tryz.prog 57 0) ((x.1.1,(x.1.2.1,((0:Int),()))),((),()))):=by kernel_rfl
theorem Od(F:FT)(J:JT Fx)(x:(((List ab)×((List ab)×(Int×Unit)))×(Unit×Unit))):fV 57 0 Fx Tryz.f57 Ae F J x =
  cond (decide (x.1.2.2.1<(((List.length x.1.1):Nat):Int)))
   (((aV x.1.1 x.1.2.2.1)).bind fun (y1:ab) =>
   ((aV x.1.2.1 x.1.2.2.1)).bind fun (y2:ab) =>
   cond (not (((y1.1.1==y2.1.1)&&(y1.1.2==y2.1.2))&&(y1.2==y2.2)))
    (some ((false,()),()))
    (J Ae (aP Tryz.prog 57 0) ((x.1.1,(x.1.2.1,((IntKind.wrap .i64 (x.1.2.2.1+(1:Int))),()))),((),()))))
   (some ((true,()),())):=by kernel_rfl
theorem WZ(F:FT)(J:JT DR)(x:(((List bB)×Unit)×Unit)):bY 58 DR Tryz.f58 F J x =
  cond ((((List.length x.1.1):Nat):Int)==(0:Int))
   (some (((3:Int),()),()))
   (cond (decide ((((List.length x.1.1):Nat):Int) > (6:Int)))
    (some (((3:Int),()),()))
    (J Af (aP Tryz.prog 58 0) ((x.1.1,((((List.length x.1.1):Nat):Int),((0:Int),()))),((),())))):=by kernel_rfl
theorem DW(F:FT)(J:JT DR)(x:(((List bB)×(Int×(Int×Unit)))×(Unit×Unit))):fV 58 0 DR Tryz.f58 Af F J x =
  cond (decide (x.1.2.2.1<x.1.2.1))
   (((aV x.1.1 x.1.2.2.1)).bind fun (y1:bB) =>
   (F 43 BJ (((y1.1,(y1.2.1,(y1.2.2.1,(y1.2.2.2.1,((y1.2.2.2.2.1.1,(y1.2.2.2.2.1.2.1,y1.2.2.2.2.1.2.2)),((y1.2.2.2.2.2.1.1,(y1.2.2.2.2.2.1.2.1,y1.2.2.2.2.2.1.2.2)),(y1.2.2.2.2.2.2.1,y1.2.2.2.2.2.2.2))))))),()),())).bind fun (y2:((Int×Unit)×Unit)) =>
   cond (y2.1.1 != (0:Int))
    (some (y2.1,()))
    (J Af (aP Tryz.prog 58 0) ((x.1.1,(x.1.2.1,((IntKind.wrap .i64 (x.1.2.2.1+(1:Int))),()))),((),()))))
   (some (((0:Int),()),())):=by kernel_rfl
theorem acy(F:FT)(J:JT DS)(x:((ai×Unit)×Unit)):bY 59 DS Tryz.f59 F J x =
 J Ag (aP Tryz.prog 59 0) (((0:Int),()),(((x.1.1,()),()),(([]:List ab),()))):=by kernel_rfl
theorem Oe(F:FT)(J:JT DS)(x:((Int×Unit)×(((ai×Unit)×Unit)×((List ab)×Unit)))):fV 59 0 DS Tryz.f59 Ag F J x =
  cond (decide (x.1.1<(((List.length x.2.1.1.1.2):Nat):Int)))
   (((aV x.2.1.1.1.2 x.1.1)).bind fun (y1:af) =>
   ((aV x.2.1.1.1.2 x.1.1)).bind fun (y2:af) =>
   cond (aM (List.length x.2.2.1) (List.length ((y1.1,(0:Int))::((y2.1,(1:Int))::([]:List ab)))))
    (J Ag (aP Tryz.prog 59 0) (((IntKind.wrap .i64 (x.1.1+(1:Int))),()),(((x.2.1.1.1,()),()),((x.2.2.1++((y1.1,(0:Int))::((y2.1,(1:Int))::([]:List ab)))),()))))
    (none))
   (some (x.2.2,())):=by kernel_rfl
theorem acz(F:FT)(J:JT DT)(x:((ai×Unit)×Unit)):bY 60 DT Tryz.f60 F J x =
 (F 79 Li ((x.1.1.1,()),())).bind fun (y1:(((List ah)×Unit)×Unit)) =>
 (F 80 Lj ((x.1.1.2,()),())).bind fun (y2:(((List af)×Unit)×Unit)) =>
 J Ah (aP Tryz.prog 60 0) (((((List.length y1.1.1):Nat):Int),((0:Int),())),(((([]:List ah),(([]:List af),())),((y1.1.1,y2.1),())),())):=by kernel_rfl
theorem Og(F:FT)(J:JT DT)(x:((Int×(Int×Unit))×((((List ah)×((List af)×Unit))×(((List ah)×((List af)×Unit))×Unit))×Unit))):fV 60 0 DT Tryz.f60 Ah F J x =
  cond (decide (x.1.2.1<x.1.1))
   (cond ((decide ((0:Int)≤x.1.2.1))&&(decide (x.1.2.1<(((List.length x.2.1.2.1.1):Nat):Int))))
    (((x.2.1.2.1.1)[(Int.toNat x.1.2.1)]?).bind fun (y3:ah) =>
    (F 81 xh ((y3.2.1,()),())).bind fun (y4:(((List ab)×Unit)×Unit)) =>
    cond ((decide ((0:Int)≤x.1.2.1))&&(decide (x.1.2.1<(((List.length x.2.1.2.1.1):Nat):Int))))
     (((x.2.1.2.1.1)[(Int.toNat x.1.2.1)]?).bind fun (y5:ah) =>
     J Ah (aP Tryz.prog 60 0) ((x.1.1,((IntKind.wrap .i64 (x.1.2.1+(1:Int))),())),(((x.2.1.1.1,x.2.1.1.2),(((List.set x.2.1.2.1.1 (Int.toNat x.1.2.1) (y5.1,(y4.1.1,y5.2.2))),x.2.1.2.1.2),())),())))
     (none))
    (none))
   (some (((x.2.1.2.1.1,x.2.1.2.1.2),()),())):=by kernel_rfl
theorem acA(F:FT)(J:JT Fy)(x:(((List ak)×Unit)×Unit)):bY 61 Fy Tryz.f61 F J x =
  cond (List.isEmpty x.1.1)
   (rf 2 fun (j1:Nat) =>
   cond ((j1==0)==true)
    (some ((([]:List ak),()),()))
    (cond (aM (List.length ([]:List ak)) (List.length x.1.1))
     (some (((([]:List ak)++x.1.1),()),()))
     (none)))
   (cond (aM (List.length ([]:List ak)) (List.length x.1.1))
    (some (((([]:List ak)++x.1.1),()),()))
    (none)):=by kernel_rfl
theorem acB(F:FT)(J:JT Lc)(x:((ab×(ab×Unit))×Unit)):bY 62 Lc Tryz.f62 F J x =
  (F 69 FB ((x.1.1.1,(x.1.2.1.1,())),())).bind fun (y1:((Int×Unit)×Unit)) =>
  cond (y1.1.1 != (0:Int))
   (some (y1.1,()))
   (cond (decide (x.1.1.2<x.1.2.1.2))
    (some (((-1:Int),()),()))
    (cond (decide (x.1.1.2 > x.1.2.1.2))
     (some (((1:Int),()),()))
     (some (((0:Int),()),())))):=by kernel_rfl
theorem acC(F:FT)(J:JT Fz)(x:((ai×Unit)×Unit)):bY 64 Fz Tryz.f64 F J x =
  (F 85 FD ((x.1.1,()),())).bind fun (y1:((Int×(Int×(Int×(Int×Unit))))×Unit)) =>
  cond ((2:Int)==(0:Int))
   (none)
   (some (((IntKind.wrap .i64 (Int.tdiv (IntKind.wrap .i64 ((IntKind.wrap .i64 ((IntKind.wrap .i64 ((IntKind.wrap .i64 ((2:Int) * y1.1.2.2.2.1)) - y1.1.1))+y1.1.2.1)) - y1.1.2.2.1)) (2:Int))),()),())):=by kernel_rfl
theorem Uh(F:FT)(J:JT FA)(x:((bB×Unit)×Unit)):bY 65 FA Tryz.f65 F J x =
  (F 86 pV ((x.1.1.2.1,()),())).bind fun (y1:((Bool×Unit)×Unit)) =>
  cond (x.1.1.1==(1:Int))
   (cond (x.1.1.1==(1:Int))
    (cond (not y1.1.1)
     (some (((x.1.1.1,(x.1.1.2.1,(((0:Int),(0:Int)),(((0:Int),(0:Int)),((((0:Int),(0:Int)),(((0:Int),(0:Int)),(0:Int))),((((0:Int),(0:Int)),(((0:Int),(0:Int)),(0:Int))),(false,((⟨#[]⟩:ByteArray),(0:Int))))))))),((1:Int),())),()))
     (some (((x.1.1.1,(x.1.1.2.1,(((0:Int),(0:Int)),(((0:Int),(0:Int)),((((0:Int),(0:Int)),(((0:Int),(0:Int)),(0:Int))),((((0:Int),(0:Int)),(((0:Int),(0:Int)),(0:Int))),(false,((⟨#[]⟩:ByteArray),(0:Int))))))))),((0:Int),())),())))
    (cond (x.1.1.1==(6:Int))
     (cond y1.1.1
      ((F 86 pV ((x.1.1.2.2.2.1,()),())).bind fun (y2:((Bool×Unit)×Unit)) =>
      cond (not y2.1.1)
       (some (((x.1.1.1,(x.1.1.2.1,(((0:Int),(0:Int)),(x.1.1.2.2.2.1,((((0:Int),(0:Int)),(((0:Int),(0:Int)),(0:Int))),((((0:Int),(0:Int)),(((0:Int),(0:Int)),(0:Int))),(false,((⟨#[]⟩:ByteArray),(0:Int))))))))),((1:Int),())),()))
       (some (((x.1.1.1,(x.1.1.2.1,(((0:Int),(0:Int)),(x.1.1.2.2.2.1,((((0:Int),(0:Int)),(((0:Int),(0:Int)),(0:Int))),((((0:Int),(0:Int)),(((0:Int),(0:Int)),(0:Int))),(false,((⟨#[]⟩:ByteArray),(0:Int))))))))),((0:Int),())),())))
      (some (((x.1.1.1,(x.1.1.2.1,(((0:Int),(0:Int)),(x.1.1.2.2.2.1,((((0:Int),(0:Int)),(((0:Int),(0:Int)),(0:Int))),((((0:Int),(0:Int)),(((0:Int),(0:Int)),(0:Int))),(false,((⟨#[]⟩:ByteArray),(0:Int))))))))),((1:Int),())),())))
     (cond (x.1.1.1==(3:Int))
      (cond y1.1.1
       ((F 87 BN (((x.1.1.2.2.2.2.1.1,(x.1.1.2.2.2.2.1.2.1,x.1.1.2.2.2.2.1.2.2)),()),())).bind fun (y3:((Bool×Unit)×Unit)) =>
       cond y3.1.1
        ((F 87 BN (((x.1.1.2.2.2.2.2.1.1,(x.1.1.2.2.2.2.2.1.2.1,x.1.1.2.2.2.2.2.1.2.2)),()),())).bind fun (y4:((Bool×Unit)×Unit)) =>
        cond (not y4.1.1)
         (some (((x.1.1.1,(x.1.1.2.1,(((0:Int),(0:Int)),(((0:Int),(0:Int)),((x.1.1.2.2.2.2.1.1,(x.1.1.2.2.2.2.1.2.1,x.1.1.2.2.2.2.1.2.2)),((x.1.1.2.2.2.2.2.1.1,(x.1.1.2.2.2.2.2.1.2.1,x.1.1.2.2.2.2.2.1.2.2)),(false,((⟨#[]⟩:ByteArray),(0:Int))))))))),((1:Int),())),()))
         (some (((x.1.1.1,(x.1.1.2.1,(((0:Int),(0:Int)),(((0:Int),(0:Int)),((x.1.1.2.2.2.2.1.1,(x.1.1.2.2.2.2.1.2.1,x.1.1.2.2.2.2.1.2.2)),((x.1.1.2.2.2.2.2.1.1,(x.1.1.2.2.2.2.2.1.2.1,x.1.1.2.2.2.2.2.1.2.2)),(false,((⟨#[]⟩:ByteArray),(0:Int))))))))),((0:Int),())),())))
        (some (((x.1.1.1,(x.1.1.2.1,(((0:Int),(0:Int)),(((0:Int),(0:Int)),((x.1.1.2.2.2.2.1.1,(x.1.1.2.2.2.2.1.2.1,x.1.1.2.2.2.2.1.2.2)),((x.1.1.2.2.2.2.2.1.1,(x.1.1.2.2.2.2.2.1.2.1,x.1.1.2.2.2.2.2.1.2.2)),(false,((⟨#[]⟩:ByteArray),(0:Int))))))))),((1:Int),())),())))
       (some (((x.1.1.1,(x.1.1.2.1,(((0:Int),(0:Int)),(((0:Int),(0:Int)),((x.1.1.2.2.2.2.1.1,(x.1.1.2.2.2.2.1.2.1,x.1.1.2.2.2.2.1.2.2)),((x.1.1.2.2.2.2.2.1.1,(x.1.1.2.2.2.2.2.1.2.1,x.1.1.2.2.2.2.2.1.2.2)),(false,((⟨#[]⟩:ByteArray),(0:Int))))))))),((1:Int),())),())))
      (cond (x.1.1.1==(5:Int))
       (cond y1.1.1
        ((F 86 pV ((x.1.1.2.2.1,()),())).bind fun (y5:((Bool×Unit)×Unit)) =>
        cond y5.1.1
         ((F 86 pV ((x.1.1.2.2.2.1,()),())).bind fun (y6:((Bool×Unit)×Unit)) =>
         cond y6.1.1
          (cond (not ((eg .andNot .i64 x.1.1.2.2.2.2.2.2.2.2 (3:Int))==(0:Int)))
           (some (((x.1.1.1,(x.1.1.2.1,(x.1.1.2.2.1,(x.1.1.2.2.2.1,((((0:Int),(0:Int)),(((0:Int),(0:Int)),(0:Int))),((((0:Int),(0:Int)),(((0:Int),(0:Int)),(0:Int))),(false,((⟨#[]⟩:ByteArray),x.1.1.2.2.2.2.2.2.2.2)))))))),((1:Int),())),()))
           (some (((x.1.1.1,(x.1.1.2.1,(x.1.1.2.2.1,(x.1.1.2.2.2.1,((((0:Int),(0:Int)),(((0:Int),(0:Int)),(0:Int))),((((0:Int),(0:Int)),(((0:Int),(0:Int)),(0:Int))),(false,((⟨#[]⟩:ByteArray),x.1.1.2.2.2.2.2.2.2.2)))))))),((0:Int),())),())))
          (some (((x.1.1.1,(x.1.1.2.1,(x.1.1.2.2.1,(x.1.1.2.2.2.1,((((0:Int),(0:Int)),(((0:Int),(0:Int)),(0:Int))),((((0:Int),(0:Int)),(((0:Int),(0:Int)),(0:Int))),(false,((⟨#[]⟩:ByteArray),x.1.1.2.2.2.2.2.2.2.2)))))))),((1:Int),())),())))
         (some (((x.1.1.1,(x.1.1.2.1,(x.1.1.2.2.1,(x.1.1.2.2.2.1,((((0:Int),(0:Int)),(((0:Int),(0:Int)),(0:Int))),((((0:Int),(0:Int)),(((0:Int),(0:Int)),(0:Int))),(false,((⟨#[]⟩:ByteArray),x.1.1.2.2.2.2.2.2.2.2)))))))),((1:Int),())),())))
        (some (((x.1.1.1,(x.1.1.2.1,(x.1.1.2.2.1,(x.1.1.2.2.2.1,((((0:Int),(0:Int)),(((0:Int),(0:Int)),(0:Int))),((((0:Int),(0:Int)),(((0:Int),(0:Int)),(0:Int))),(false,((⟨#[]⟩:ByteArray),x.1.1.2.2.2.2.2.2.2.2)))))))),((1:Int),())),())))
       (cond (x.1.1.1==(7:Int))
        ((F 88 vj ((x.1.1.2.2.2.2.2.2.2.1,()),())).bind fun (y7:((Bool×Unit)×Unit)) =>
        cond (not y7.1.1)
         (cond (not y1.1.1)
          (some (((x.1.1.1,(x.1.1.2.1,(((0:Int),(0:Int)),(((0:Int),(0:Int)),((((0:Int),(0:Int)),(((0:Int),(0:Int)),(0:Int))),((((0:Int),(0:Int)),(((0:Int),(0:Int)),(0:Int))),(x.1.1.2.2.2.2.2.2.1,(x.1.1.2.2.2.2.2.2.2.1,(0:Int))))))))),((1:Int),())),()))
          (some (((x.1.1.1,(x.1.1.2.1,(((0:Int),(0:Int)),(((0:Int),(0:Int)),((((0:Int),(0:Int)),(((0:Int),(0:Int)),(0:Int))),((((0:Int),(0:Int)),(((0:Int),(0:Int)),(0:Int))),(x.1.1.2.2.2.2.2.2.1,(x.1.1.2.2.2.2.2.2.2.1,(0:Int))))))))),((4:Int),())),())))
         (cond (not y1.1.1)
          (some (((x.1.1.1,(x.1.1.2.1,(((0:Int),(0:Int)),(((0:Int),(0:Int)),((((0:Int),(0:Int)),(((0:Int),(0:Int)),(0:Int))),((((0:Int),(0:Int)),(((0:Int),(0:Int)),(0:Int))),(x.1.1.2.2.2.2.2.2.1,(x.1.1.2.2.2.2.2.2.2.1,(0:Int))))))))),((1:Int),())),()))
          (some (((x.1.1.1,(x.1.1.2.1,(((0:Int),(0:Int)),(((0:Int),(0:Int)),((((0:Int),(0:Int)),(((0:Int),(0:Int)),(0:Int))),((((0:Int),(0:Int)),(((0:Int),(0:Int)),(0:Int))),(x.1.1.2.2.2.2.2.2.1,(x.1.1.2.2.2.2.2.2.2.1,(0:Int))))))))),((0:Int),())),()))))
        (cond (x.1.1.1==(8:Int))
         (cond y1.1.1
          ((F 89 FE ((x.1.1.2.2.2.2.2.2.2.2,()),())).bind fun (y8:((Bool×Unit)×Unit)) =>
          cond (not y8.1.1)
           (some (((x.1.1.1,(x.1.1.2.1,(((0:Int),(0:Int)),(((0:Int),(0:Int)),((((0:Int),(0:Int)),(((0:Int),(0:Int)),(0:Int))),((((0:Int),(0:Int)),(((0:Int),(0:Int)),(0:Int))),(x.1.1.2.2.2.2.2.2.1,((⟨#[]⟩:ByteArray),x.1.1.2.2.2.2.2.2.2.2)))))))),((1:Int),())),()))
           (some (((x.1.1.1,(x.1.1.2.1,(((0:Int),(0:Int)),(((0:Int),(0:Int)),((((0:Int),(0:Int)),(((0:Int),(0:Int)),(0:Int))),((((0:Int),(0:Int)),(((0:Int),(0:Int)),(0:Int))),(x.1.1.2.2.2.2.2.2.1,((⟨#[]⟩:ByteArray),x.1.1.2.2.2.2.2.2.2.2)))))))),((0:Int),())),())))
          (some (((x.1.1.1,(x.1.1.2.1,(((0:Int),(0:Int)),(((0:Int),(0:Int)),((((0:Int),(0:Int)),(((0:Int),(0:Int)),(0:Int))),((((0:Int),(0:Int)),(((0:Int),(0:Int)),(0:Int))),(x.1.1.2.2.2.2.2.2.1,((⟨#[]⟩:ByteArray),x.1.1.2.2.2.2.2.2.2.2)))))))),((1:Int),())),())))
         (some (((x.1.1.1,(x.1.1.2.1,(((0:Int),(0:Int)),(((0:Int),(0:Int)),((((0:Int),(0:Int)),(((0:Int),(0:Int)),(0:Int))),((((0:Int),(0:Int)),(((0:Int),(0:Int)),(0:Int))),(false,((⟨#[]⟩:ByteArray),(0:Int))))))))),((1:Int),())),()))))))))
   (cond (x.1.1.1==(2:Int))
    (cond (x.1.1.1==(2:Int))
     (cond (not y1.1.1)
      (some (((x.1.1.1,(x.1.1.2.1,(((0:Int),(0:Int)),(((0:Int),(0:Int)),((((0:Int),(0:Int)),(((0:Int),(0:Int)),(0:Int))),((((0:Int),(0:Int)),(((0:Int),(0:Int)),(0:Int))),(false,((⟨#[]⟩:ByteArray),(0:Int))))))))),((1:Int),())),()))
      (some (((x.1.1.1,(x.1.1.2.1,(((0:Int),(0:Int)),(((0:Int),(0:Int)),((((0:Int),(0:Int)),(((0:Int),(0:Int)),(0:Int))),((((0:Int),(0:Int)),(((0:Int),(0:Int)),(0:Int))),(false,((⟨#[]⟩:ByteArray),(0:Int))))))))),((0:Int),())),())))
     (cond (x.1.1.1==(6:Int))
      (cond y1.1.1
       ((F 86 pV ((x.1.1.2.2.2.1,()),())).bind fun (y9:((Bool×Unit)×Unit)) =>
       cond (not y9.1.1)
        (some (((x.1.1.1,(x.1.1.2.1,(((0:Int),(0:Int)),(x.1.1.2.2.2.1,((((0:Int),(0:Int)),(((0:Int),(0:Int)),(0:Int))),((((0:Int),(0:Int)),(((0:Int),(0:Int)),(0:Int))),(false,((⟨#[]⟩:ByteArray),(0:Int))))))))),((1:Int),())),()))
        (some (((x.1.1.1,(x.1.1.2.1,(((0:Int),(0:Int)),(x.1.1.2.2.2.1,((((0:Int),(0:Int)),(((0:Int),(0:Int)),(0:Int))),((((0:Int),(0:Int)),(((0:Int),(0:Int)),(0:Int))),(false,((⟨#[]⟩:ByteArray),(0:Int))))))))),((0:Int),())),())))
       (some (((x.1.1.1,(x.1.1.2.1,(((0:Int),(0:Int)),(x.1.1.2.2.2.1,((((0:Int),(0:Int)),(((0:Int),(0:Int)),(0:Int))),((((0:Int),(0:Int)),(((0:Int),(0:Int)),(0:Int))),(false,((⟨#[]⟩:ByteArray),(0:Int))))))))),((1:Int),())),())))
      (cond (x.1.1.1==(3:Int))
       (cond y1.1.1
        ((F 87 BN (((x.1.1.2.2.2.2.1.1,(x.1.1.2.2.2.2.1.2.1,x.1.1.2.2.2.2.1.2.2)),()),())).bind fun (oq:((Bool×Unit)×Unit)) =>
        cond oq.1.1
         ((F 87 BN (((x.1.1.2.2.2.2.2.1.1,(x.1.1.2.2.2.2.2.1.2.1,x.1.1.2.2.2.2.2.1.2.2)),()),())).bind fun (kz:((Bool×Unit)×Unit)) =>
         cond (not kz.1.1)
          (some (((x.1.1.1,(x.1.1.2.1,(((0:Int),(0:Int)),(((0:Int),(0:Int)),((x.1.1.2.2.2.2.1.1,(x.1.1.2.2.2.2.1.2.1,x.1.1.2.2.2.2.1.2.2)),((x.1.1.2.2.2.2.2.1.1,(x.1.1.2.2.2.2.2.1.2.1,x.1.1.2.2.2.2.2.1.2.2)),(false,((⟨#[]⟩:ByteArray),(0:Int))))))))),((1:Int),())),()))
          (some (((x.1.1.1,(x.1.1.2.1,(((0:Int),(0:Int)),(((0:Int),(0:Int)),((x.1.1.2.2.2.2.1.1,(x.1.1.2.2.2.2.1.2.1,x.1.1.2.2.2.2.1.2.2)),((x.1.1.2.2.2.2.2.1.1,(x.1.1.2.2.2.2.2.1.2.1,x.1.1.2.2.2.2.2.1.2.2)),(false,((⟨#[]⟩:ByteArray),(0:Int))))))))),((0:Int),())),())))
         (some (((x.1.1.1,(x.1.1.2.1,(((0:Int),(0:Int)),(((0:Int),(0:Int)),((x.1.1.2.2.2.2.1.1,(x.1.1.2.2.2.2.1.2.1,x.1.1.2.2.2.2.1.2.2)),((x.1.1.2.2.2.2.2.1.1,(x.1.1.2.2.2.2.2.1.2.1,x.1.1.2.2.2.2.2.1.2.2)),(false,((⟨#[]⟩:ByteArray),(0:Int))))))))),((1:Int),())),())))
        (some (((x.1.1.1,(x.1.1.2.1,(((0:Int),(0:Int)),(((0:Int),(0:Int)),((x.1.1.2.2.2.2.1.1,(x.1.1.2.2.2.2.1.2.1,x.1.1.2.2.2.2.1.2.2)),((x.1.1.2.2.2.2.2.1.1,(x.1.1.2.2.2.2.2.1.2.1,x.1.1.2.2.2.2.2.1.2.2)),(false,((⟨#[]⟩:ByteArray),(0:Int))))))))),((1:Int),())),())))
       (cond (x.1.1.1==(5:Int))
        (cond y1.1.1
         ((F 86 pV ((x.1.1.2.2.1,()),())).bind fun (lM:((Bool×Unit)×Unit)) =>
         cond lM.1.1
          ((F 86 pV ((x.1.1.2.2.2.1,()),())).bind fun (kA:((Bool×Unit)×Unit)) =>
          cond kA.1.1
           (cond (not ((eg .andNot .i64 x.1.1.2.2.2.2.2.2.2.2 (3:Int))==(0:Int)))
            (some (((x.1.1.1,(x.1.1.2.1,(x.1.1.2.2.1,(x.1.1.2.2.2.1,((((0:Int),(0:Int)),(((0:Int),(0:Int)),(0:Int))),((((0:Int),(0:Int)),(((0:Int),(0:Int)),(0:Int))),(false,((⟨#[]⟩:ByteArray),x.1.1.2.2.2.2.2.2.2.2)))))))),((1:Int),())),()))
            (some (((x.1.1.1,(x.1.1.2.1,(x.1.1.2.2.1,(x.1.1.2.2.2.1,((((0:Int),(0:Int)),(((0:Int),(0:Int)),(0:Int))),((((0:Int),(0:Int)),(((0:Int),(0:Int)),(0:Int))),(false,((⟨#[]⟩:ByteArray),x.1.1.2.2.2.2.2.2.2.2)))))))),((0:Int),())),())))
           (some (((x.1.1.1,(x.1.1.2.1,(x.1.1.2.2.1,(x.1.1.2.2.2.1,((((0:Int),(0:Int)),(((0:Int),(0:Int)),(0:Int))),((((0:Int),(0:Int)),(((0:Int),(0:Int)),(0:Int))),(false,((⟨#[]⟩:ByteArray),x.1.1.2.2.2.2.2.2.2.2)))))))),((1:Int),())),())))
          (some (((x.1.1.1,(x.1.1.2.1,(x.1.1.2.2.1,(x.1.1.2.2.2.1,((((0:Int),(0:Int)),(((0:Int),(0:Int)),(0:Int))),((((0:Int),(0:Int)),(((0:Int),(0:Int)),(0:Int))),(false,((⟨#[]⟩:ByteArray),x.1.1.2.2.2.2.2.2.2.2)))))))),((1:Int),())),())))
         (some (((x.1.1.1,(x.1.1.2.1,(x.1.1.2.2.1,(x.1.1.2.2.2.1,((((0:Int),(0:Int)),(((0:Int),(0:Int)),(0:Int))),((((0:Int),(0:Int)),(((0:Int),(0:Int)),(0:Int))),(false,((⟨#[]⟩:ByteArray),x.1.1.2.2.2.2.2.2.2.2)))))))),((1:Int),())),())))
        (cond (x.1.1.1==(7:Int))
         ((F 88 vj ((x.1.1.2.2.2.2.2.2.2.1,()),())).bind fun (Bl:((Bool×Unit)×Unit)) =>
         cond (not Bl.1.1)
          (cond (not y1.1.1)
           (some (((x.1.1.1,(x.1.1.2.1,(((0:Int),(0:Int)),(((0:Int),(0:Int)),((((0:Int),(0:Int)),(((0:Int),(0:Int)),(0:Int))),((((0:Int),(0:Int)),(((0:Int),(0:Int)),(0:Int))),(x.1.1.2.2.2.2.2.2.1,(x.1.1.2.2.2.2.2.2.2.1,(0:Int))))))))),((1:Int),())),()))
           (some (((x.1.1.1,(x.1.1.2.1,(((0:Int),(0:Int)),(((0:Int),(0:Int)),((((0:Int),(0:Int)),(((0:Int),(0:Int)),(0:Int))),((((0:Int),(0:Int)),(((0:Int),(0:Int)),(0:Int))),(x.1.1.2.2.2.2.2.2.1,(x.1.1.2.2.2.2.2.2.2.1,(0:Int))))))))),((4:Int),())),())))
          (cond (not y1.1.1)
           (some (((x.1.1.1,(x.1.1.2.1,(((0:Int),(0:Int)),(((0:Int),(0:Int)),((((0:Int),(0:Int)),(((0:Int),(0:Int)),(0:Int))),((((0:Int),(0:Int)),(((0:Int),(0:Int)),(0:Int))),(x.1.1.2.2.2.2.2.2.1,(x.1.1.2.2.2.2.2.2.2.1,(0:Int))))))))),((1:Int),())),()))
           (some (((x.1.1.1,(x.1.1.2.1,(((0:Int),(0:Int)),(((0:Int),(0:Int)),((((0:Int),(0:Int)),(((0:Int),(0:Int)),(0:Int))),((((0:Int),(0:Int)),(((0:Int),(0:Int)),(0:Int))),(x.1.1.2.2.2.2.2.2.1,(x.1.1.2.2.2.2.2.2.2.1,(0:Int))))))))),((0:Int),())),()))))
         (cond (x.1.1.1==(8:Int))
          (cond y1.1.1
           ((F 89 FE ((x.1.1.2.2.2.2.2.2.2.2,()),())).bind fun (p7:((Bool×Unit)×Unit)) =>
           cond (not p7.1.1)
            (some (((x.1.1.1,(x.1.1.2.1,(((0:Int),(0:Int)),(((0:Int),(0:Int)),((((0:Int),(0:Int)),(((0:Int),(0:Int)),(0:Int))),((((0:Int),(0:Int)),(((0:Int),(0:Int)),(0:Int))),(x.1.1.2.2.2.2.2.2.1,((⟨#[]⟩:ByteArray),x.1.1.2.2.2.2.2.2.2.2)))))))),((1:Int),())),()))
            (some (((x.1.1.1,(x.1.1.2.1,(((0:Int),(0:Int)),(((0:Int),(0:Int)),((((0:Int),(0:Int)),(((0:Int),(0:Int)),(0:Int))),((((0:Int),(0:Int)),(((0:Int),(0:Int)),(0:Int))),(x.1.1.2.2.2.2.2.2.1,((⟨#[]⟩:ByteArray),x.1.1.2.2.2.2.2.2.2.2)))))))),((0:Int),())),())))
           (some (((x.1.1.1,(x.1.1.2.1,(((0:Int),(0:Int)),(((0:Int),(0:Int)),((((0:Int),(0:Int)),(((0:Int),(0:Int)),(0:Int))),((((0:Int),(0:Int)),(((0:Int),(0:Int)),(0:Int))),(x.1.1.2.2.2.2.2.2.1,((⟨#[]⟩:ByteArray),x.1.1.2.2.2.2.2.2.2.2)))))))),((1:Int),())),())))
          (some (((x.1.1.1,(x.1.1.2.1,(((0:Int),(0:Int)),(((0:Int),(0:Int)),((((0:Int),(0:Int)),(((0:Int),(0:Int)),(0:Int))),((((0:Int),(0:Int)),(((0:Int),(0:Int)),(0:Int))),(false,((⟨#[]⟩:ByteArray),(0:Int))))))))),((1:Int),())),()))))))))
    (cond (x.1.1.1==(4:Int))
     (cond (not y1.1.1)
      (some (((x.1.1.1,(x.1.1.2.1,(((0:Int),(0:Int)),(((0:Int),(0:Int)),((((0:Int),(0:Int)),(((0:Int),(0:Int)),(0:Int))),((((0:Int),(0:Int)),(((0:Int),(0:Int)),(0:Int))),(false,((⟨#[]⟩:ByteArray),(0:Int))))))))),((1:Int),())),()))
      (some (((x.1.1.1,(x.1.1.2.1,(((0:Int),(0:Int)),(((0:Int),(0:Int)),((((0:Int),(0:Int)),(((0:Int),(0:Int)),(0:Int))),((((0:Int),(0:Int)),(((0:Int),(0:Int)),(0:Int))),(false,((⟨#[]⟩:ByteArray),(0:Int))))))))),((0:Int),())),())))
     (cond (x.1.1.1==(6:Int))
      (cond y1.1.1
       ((F 86 pV ((x.1.1.2.2.2.1,()),())).bind fun (Qk:((Bool×Unit)×Unit)) =>
       cond (not Qk.1.1)
        (some (((x.1.1.1,(x.1.1.2.1,(((0:Int),(0:Int)),(x.1.1.2.2.2.1,((((0:Int),(0:Int)),(((0:Int),(0:Int)),(0:Int))),((((0:Int),(0:Int)),(((0:Int),(0:Int)),(0:Int))),(false,((⟨#[]⟩:ByteArray),(0:Int))))))))),((1:Int),())),()))
        (some (((x.1.1.1,(x.1.1.2.1,(((0:Int),(0:Int)),(x.1.1.2.2.2.1,((((0:Int),(0:Int)),(((0:Int),(0:Int)),(0:Int))),((((0:Int),(0:Int)),(((0:Int),(0:Int)),(0:Int))),(false,((⟨#[]⟩:ByteArray),(0:Int))))))))),((0:Int),())),())))
       (some (((x.1.1.1,(x.1.1.2.1,(((0:Int),(0:Int)),(x.1.1.2.2.2.1,((((0:Int),(0:Int)),(((0:Int),(0:Int)),(0:Int))),((((0:Int),(0:Int)),(((0:Int),(0:Int)),(0:Int))),(false,((⟨#[]⟩:ByteArray),(0:Int))))))))),((1:Int),())),())))
      (cond (x.1.1.1==(3:Int))
       (cond y1.1.1
        ((F 87 BN (((x.1.1.2.2.2.2.1.1,(x.1.1.2.2.2.2.1.2.1,x.1.1.2.2.2.2.1.2.2)),()),())).bind fun (Q7:((Bool×Unit)×Unit)) =>
        cond Q7.1.1
         ((F 87 BN (((x.1.1.2.2.2.2.2.1.1,(x.1.1.2.2.2.2.2.1.2.1,x.1.1.2.2.2.2.2.1.2.2)),()),())).bind fun (VJ:((Bool×Unit)×Unit)) =>
         cond (not VJ.1.1)
          (some (((x.1.1.1,(x.1.1.2.1,(((0:Int),(0:Int)),(((0:Int),(0:Int)),((x.1.1.2.2.2.2.1.1,(x.1.1.2.2.2.2.1.2.1,x.1.1.2.2.2.2.1.2.2)),((x.1.1.2.2.2.2.2.1.1,(x.1.1.2.2.2.2.2.1.2.1,x.1.1.2.2.2.2.2.1.2.2)),(false,((⟨#[]⟩:ByteArray),(0:Int))))))))),((1:Int),())),()))
          (some (((x.1.1.1,(x.1.1.2.1,(((0:Int),(0:Int)),(((0:Int),(0:Int)),((x.1.1.2.2.2.2.1.1,(x.1.1.2.2.2.2.1.2.1,x.1.1.2.2.2.2.1.2.2)),((x.1.1.2.2.2.2.2.1.1,(x.1.1.2.2.2.2.2.1.2.1,x.1.1.2.2.2.2.2.1.2.2)),(false,((⟨#[]⟩:ByteArray),(0:Int))))))))),((0:Int),())),())))
         (some (((x.1.1.1,(x.1.1.2.1,(((0:Int),(0:Int)),(((0:Int),(0:Int)),((x.1.1.2.2.2.2.1.1,(x.1.1.2.2.2.2.1.2.1,x.1.1.2.2.2.2.1.2.2)),((x.1.1.2.2.2.2.2.1.1,(x.1.1.2.2.2.2.2.1.2.1,x.1.1.2.2.2.2.2.1.2.2)),(false,((⟨#[]⟩:ByteArray),(0:Int))))))))),((1:Int),())),())))
        (some (((x.1.1.1,(x.1.1.2.1,(((0:Int),(0:Int)),(((0:Int),(0:Int)),((x.1.1.2.2.2.2.1.1,(x.1.1.2.2.2.2.1.2.1,x.1.1.2.2.2.2.1.2.2)),((x.1.1.2.2.2.2.2.1.1,(x.1.1.2.2.2.2.2.1.2.1,x.1.1.2.2.2.2.2.1.2.2)),(false,((⟨#[]⟩:ByteArray),(0:Int))))))))),((1:Int),())),())))
       (cond (x.1.1.1==(5:Int))
        (cond y1.1.1
         ((F 86 pV ((x.1.1.2.2.1,()),())).bind fun (SM:((Bool×Unit)×Unit)) =>
         cond SM.1.1
          ((F 86 pV ((x.1.1.2.2.2.1,()),())).bind fun (F5:((Bool×Unit)×Unit)) =>
          cond F5.1.1
           (cond (not ((eg .andNot .i64 x.1.1.2.2.2.2.2.2.2.2 (3:Int))==(0:Int)))
            (some (((x.1.1.1,(x.1.1.2.1,(x.1.1.2.2.1,(x.1.1.2.2.2.1,((((0:Int),(0:Int)),(((0:Int),(0:Int)),(0:Int))),((((0:Int),(0:Int)),(((0:Int),(0:Int)),(0:Int))),(false,((⟨#[]⟩:ByteArray),x.1.1.2.2.2.2.2.2.2.2)))))))),((1:Int),())),()))
            (some (((x.1.1.1,(x.1.1.2.1,(x.1.1.2.2.1,(x.1.1.2.2.2.1,((((0:Int),(0:Int)),(((0:Int),(0:Int)),(0:Int))),((((0:Int),(0:Int)),(((0:Int),(0:Int)),(0:Int))),(false,((⟨#[]⟩:ByteArray),x.1.1.2.2.2.2.2.2.2.2)))))))),((0:Int),())),())))
           (some (((x.1.1.1,(x.1.1.2.1,(x.1.1.2.2.1,(x.1.1.2.2.2.1,((((0:Int),(0:Int)),(((0:Int),(0:Int)),(0:Int))),((((0:Int),(0:Int)),(((0:Int),(0:Int)),(0:Int))),(false,((⟨#[]⟩:ByteArray),x.1.1.2.2.2.2.2.2.2.2)))))))),((1:Int),())),())))
          (some (((x.1.1.1,(x.1.1.2.1,(x.1.1.2.2.1,(x.1.1.2.2.2.1,((((0:Int),(0:Int)),(((0:Int),(0:Int)),(0:Int))),((((0:Int),(0:Int)),(((0:Int),(0:Int)),(0:Int))),(false,((⟨#[]⟩:ByteArray),x.1.1.2.2.2.2.2.2.2.2)))))))),((1:Int),())),())))
         (some (((x.1.1.1,(x.1.1.2.1,(x.1.1.2.2.1,(x.1.1.2.2.2.1,((((0:Int),(0:Int)),(((0:Int),(0:Int)),(0:Int))),((((0:Int),(0:Int)),(((0:Int),(0:Int)),(0:Int))),(false,((⟨#[]⟩:ByteArray),x.1.1.2.2.2.2.2.2.2.2)))))))),((1:Int),())),())))
        (cond (x.1.1.1==(7:Int))
         ((F 88 vj ((x.1.1.2.2.2.2.2.2.2.1,()),())).bind fun (W0:((Bool×Unit)×Unit)) =>
         cond (not W0.1.1)
          (cond (not y1.1.1)
           (some (((x.1.1.1,(x.1.1.2.1,(((0:Int),(0:Int)),(((0:Int),(0:Int)),((((0:Int),(0:Int)),(((0:Int),(0:Int)),(0:Int))),((((0:Int),(0:Int)),(((0:Int),(0:Int)),(0:Int))),(x.1.1.2.2.2.2.2.2.1,(x.1.1.2.2.2.2.2.2.2.1,(0:Int))))))))),((1:Int),())),()))
           (some (((x.1.1.1,(x.1.1.2.1,(((0:Int),(0:Int)),(((0:Int),(0:Int)),((((0:Int),(0:Int)),(((0:Int),(0:Int)),(0:Int))),((((0:Int),(0:Int)),(((0:Int),(0:Int)),(0:Int))),(x.1.1.2.2.2.2.2.2.1,(x.1.1.2.2.2.2.2.2.2.1,(0:Int))))))))),((4:Int),())),())))
          (cond (not y1.1.1)
           (some (((x.1.1.1,(x.1.1.2.1,(((0:Int),(0:Int)),(((0:Int),(0:Int)),((((0:Int),(0:Int)),(((0:Int),(0:Int)),(0:Int))),((((0:Int),(0:Int)),(((0:Int),(0:Int)),(0:Int))),(x.1.1.2.2.2.2.2.2.1,(x.1.1.2.2.2.2.2.2.2.1,(0:Int))))))))),((1:Int),())),()))
           (some (((x.1.1.1,(x.1.1.2.1,(((0:Int),(0:Int)),(((0:Int),(0:Int)),((((0:Int),(0:Int)),(((0:Int),(0:Int)),(0:Int))),((((0:Int),(0:Int)),(((0:Int),(0:Int)),(0:Int))),(x.1.1.2.2.2.2.2.2.1,(x.1.1.2.2.2.2.2.2.2.1,(0:Int))))))))),((0:Int),())),()))))
         (cond (x.1.1.1==(8:Int))
          (cond y1.1.1
           ((F 89 FE ((x.1.1.2.2.2.2.2.2.2.2,()),())).bind fun (W9:((Bool×Unit)×Unit)) =>
           cond (not W9.1.1)
            (some (((x.1.1.1,(x.1.1.2.1,(((0:Int),(0:Int)),(((0:Int),(0:Int)),((((0:Int),(0:Int)),(((0:Int),(0:Int)),(0:Int))),((((0:Int),(0:Int)),(((0:Int),(0:Int)),(0:Int))),(x.1.1.2.2.2.2.2.2.1,((⟨#[]⟩:ByteArray),x.1.1.2.2.2.2.2.2.2.2)))))))),((1:Int),())),()))
            (some (((x.1.1.1,(x.1.1.2.1,(((0:Int),(0:Int)),(((0:Int),(0:Int)),((((0:Int),(0:Int)),(((0:Int),(0:Int)),(0:Int))),((((0:Int),(0:Int)),(((0:Int),(0:Int)),(0:Int))),(x.1.1.2.2.2.2.2.2.1,((⟨#[]⟩:ByteArray),x.1.1.2.2.2.2.2.2.2.2)))))))),((0:Int),())),())))
           (some (((x.1.1.1,(x.1.1.2.1,(((0:Int),(0:Int)),(((0:Int),(0:Int)),((((0:Int),(0:Int)),(((0:Int),(0:Int)),(0:Int))),((((0:Int),(0:Int)),(((0:Int),(0:Int)),(0:Int))),(x.1.1.2.2.2.2.2.2.1,((⟨#[]⟩:ByteArray),x.1.1.2.2.2.2.2.2.2.2)))))))),((1:Int),())),())))
          (some (((x.1.1.1,(x.1.1.2.1,(((0:Int),(0:Int)),(((0:Int),(0:Int)),((((0:Int),(0:Int)),(((0:Int),(0:Int)),(0:Int))),((((0:Int),(0:Int)),(((0:Int),(0:Int)),(0:Int))),(false,((⟨#[]⟩:ByteArray),(0:Int))))))))),((1:Int),())),()))))))))):=by kernel_rfl
theorem DX(F:FT)(J:JT xd)(x:((bB×Unit)×(aC×Unit))):bY 66 xd Tryz.f66 F J x =
  cond (x.1.1.1==(1:Int))
   ((F 90 FF (((x.1.1.2.1,(([]:List ab),((⟨#[]⟩:ByteArray),(0:Int)))),()),((x.2.1.1,(x.2.1.2.1,x.2.1.2.2)),()))).bind fun (y1:((Int×Unit)×(aC×Unit))) =>
   some (y1.1,((y1.2.1.1,(y1.2.1.2.1,y1.2.1.2.2)),())))
   (cond (x.1.1.1==(2:Int))
    ((F 91 NJ (((x.1.1.1,(x.1.1.2.1,(x.1.1.2.2.1,(x.1.1.2.2.2.1,((x.1.1.2.2.2.2.1.1,(x.1.1.2.2.2.2.1.2.1,x.1.1.2.2.2.2.1.2.2)),((x.1.1.2.2.2.2.2.1.1,(x.1.1.2.2.2.2.2.1.2.1,x.1.1.2.2.2.2.2.1.2.2)),(x.1.1.2.2.2.2.2.2.1,x.1.1.2.2.2.2.2.2.2))))))),()),((x.2.1.1,(x.2.1.2.1,x.2.1.2.2)),()))).bind fun (y2:((Int×Unit)×(aC×Unit))) =>
    some (y2.1,((y2.2.1.1,(y2.2.1.2.1,y2.2.1.2.2)),())))
    (cond (x.1.1.1==(3:Int))
     ((F 92 om (((x.1.1.1,(x.1.1.2.1,(x.1.1.2.2.1,(x.1.1.2.2.2.1,((x.1.1.2.2.2.2.1.1,(x.1.1.2.2.2.2.1.2.1,x.1.1.2.2.2.2.1.2.2)),((x.1.1.2.2.2.2.2.1.1,(x.1.1.2.2.2.2.2.1.2.1,x.1.1.2.2.2.2.2.1.2.2)),(x.1.1.2.2.2.2.2.2.1,x.1.1.2.2.2.2.2.2.2))))))),()),((x.2.1.1,(x.2.1.2.1,x.2.1.2.2)),()))).bind fun (y3:((Int×Unit)×(aC×Unit))) =>
     some (y3.1,((y3.2.1.1,(y3.2.1.2.1,y3.2.1.2.2)),())))
     (cond (x.1.1.1==(4:Int))
      ((F 93 zF (((x.1.1.1,(x.1.1.2.1,(x.1.1.2.2.1,(x.1.1.2.2.2.1,((x.1.1.2.2.2.2.1.1,(x.1.1.2.2.2.2.1.2.1,x.1.1.2.2.2.2.1.2.2)),((x.1.1.2.2.2.2.2.1.1,(x.1.1.2.2.2.2.2.1.2.1,x.1.1.2.2.2.2.2.1.2.2)),(x.1.1.2.2.2.2.2.2.1,x.1.1.2.2.2.2.2.2.2))))))),()),((x.2.1.1,(x.2.1.2.1,x.2.1.2.2)),()))).bind fun (y4:((Int×Unit)×(aC×Unit))) =>
      some (y4.1,((y4.2.1.1,(y4.2.1.2.1,y4.2.1.2.2)),())))
      (cond (x.1.1.1==(5:Int))
       ((F 94 xi (((x.1.1.1,(x.1.1.2.1,(x.1.1.2.2.1,(x.1.1.2.2.2.1,((x.1.1.2.2.2.2.1.1,(x.1.1.2.2.2.2.1.2.1,x.1.1.2.2.2.2.1.2.2)),((x.1.1.2.2.2.2.2.1.1,(x.1.1.2.2.2.2.2.1.2.1,x.1.1.2.2.2.2.2.1.2.2)),(x.1.1.2.2.2.2.2.2.1,x.1.1.2.2.2.2.2.2.2))))))),()),((x.2.1.1,(x.2.1.2.1,x.2.1.2.2)),()))).bind fun (y5:((Int×Unit)×(aC×Unit))) =>
       some (y5.1,((y5.2.1.1,(y5.2.1.2.1,y5.2.1.2.2)),())))
       (cond (x.1.1.1==(6:Int))
        ((F 95 pW (((x.1.1.1,(x.1.1.2.1,(x.1.1.2.2.1,(x.1.1.2.2.2.1,((x.1.1.2.2.2.2.1.1,(x.1.1.2.2.2.2.1.2.1,x.1.1.2.2.2.2.1.2.2)),((x.1.1.2.2.2.2.2.1.1,(x.1.1.2.2.2.2.2.1.2.1,x.1.1.2.2.2.2.2.1.2.2)),(x.1.1.2.2.2.2.2.2.1,x.1.1.2.2.2.2.2.2.2))))))),()),((x.2.1.1,(x.2.1.2.1,x.2.1.2.2)),()))).bind fun (y6:((Int×Unit)×(aC×Unit))) =>
        some (y6.1,((y6.2.1.1,(y6.2.1.2.1,y6.2.1.2.2)),())))
        ((F 96 NK (((x.1.1.1,(x.1.1.2.1,(x.1.1.2.2.1,(x.1.1.2.2.2.1,((x.1.1.2.2.2.2.1.1,(x.1.1.2.2.2.2.1.2.1,x.1.1.2.2.2.2.1.2.2)),((x.1.1.2.2.2.2.2.1.1,(x.1.1.2.2.2.2.2.1.2.1,x.1.1.2.2.2.2.2.1.2.2)),(x.1.1.2.2.2.2.2.2.1,x.1.1.2.2.2.2.2.2.2))))))),()),((x.2.1.1,(x.2.1.2.1,x.2.1.2.2)),()))).bind fun (y7:((Int×Unit)×(aC×Unit))) =>
        some (y7.1,((y7.2.1.1,(y7.2.1.2.1,y7.2.1.2.2)),())))))))):=by kernel_rfl
theorem acD(F:FT)(J:JT Ld)(x:((bB×Unit)×Unit)):bY 67 Ld Tryz.f67 F J x =
  cond (x.1.1.1==(3:Int))
   (some ((((0:Int),(((0:Int),(0:Int)),(x.1.1.2.2.1,(x.1.1.2.2.2.1,((((0:Int),(0:Int)),(((0:Int),(0:Int)),(0:Int))),((((0:Int),(0:Int)),(((0:Int),(0:Int)),(0:Int))),(x.1.1.2.2.2.2.2.2.1,x.1.1.2.2.2.2.2.2.2))))))),()),()))
   (cond (x.1.1.1==(5:Int))
    (some ((((0:Int),(((0:Int),(0:Int)),(((0:Int),(0:Int)),(((0:Int),(0:Int)),((x.1.1.2.2.2.2.1.1,(x.1.1.2.2.2.2.1.2.1,x.1.1.2.2.2.2.1.2.2)),((x.1.1.2.2.2.2.2.1.1,(x.1.1.2.2.2.2.2.1.2.1,x.1.1.2.2.2.2.2.1.2.2)),(x.1.1.2.2.2.2.2.2.1,(x.1.1.2.2.2.2.2.2.2.1,(0:Int))))))))),()),()))
    (cond (x.1.1.1==(6:Int))
     (some ((((0:Int),(((0:Int),(0:Int)),(x.1.1.2.2.1,(((0:Int),(0:Int)),((x.1.1.2.2.2.2.1.1,(x.1.1.2.2.2.2.1.2.1,x.1.1.2.2.2.2.1.2.2)),((x.1.1.2.2.2.2.2.1.1,(x.1.1.2.2.2.2.2.1.2.1,x.1.1.2.2.2.2.2.1.2.2)),(x.1.1.2.2.2.2.2.2.1,x.1.1.2.2.2.2.2.2.2))))))),()),()))
     (cond (x.1.1.1==(7:Int))
      (some ((((0:Int),(((0:Int),(0:Int)),(x.1.1.2.2.1,(x.1.1.2.2.2.1,((x.1.1.2.2.2.2.1.1,(x.1.1.2.2.2.2.1.2.1,x.1.1.2.2.2.2.1.2.2)),((x.1.1.2.2.2.2.2.1.1,(x.1.1.2.2.2.2.2.1.2.1,x.1.1.2.2.2.2.2.1.2.2)),(false,((⟨#[]⟩:ByteArray),x.1.1.2.2.2.2.2.2.2.2)))))))),()),()))
      (cond (x.1.1.1==(8:Int))
       (some ((((0:Int),(((0:Int),(0:Int)),(x.1.1.2.2.1,(x.1.1.2.2.2.1,((x.1.1.2.2.2.2.1.1,(x.1.1.2.2.2.2.1.2.1,x.1.1.2.2.2.2.1.2.2)),((x.1.1.2.2.2.2.2.1.1,(x.1.1.2.2.2.2.2.1.2.1,x.1.1.2.2.2.2.2.1.2.2)),(false,(x.1.1.2.2.2.2.2.2.2.1,(0:Int))))))))),()),()))
       (some ((((0:Int),(((0:Int),(0:Int)),(x.1.1.2.2.1,(x.1.1.2.2.2.1,((x.1.1.2.2.2.2.1.1,(x.1.1.2.2.2.2.1.2.1,x.1.1.2.2.2.2.1.2.2)),((x.1.1.2.2.2.2.2.1.1,(x.1.1.2.2.2.2.2.1.2.1,x.1.1.2.2.2.2.2.1.2.2)),(x.1.1.2.2.2.2.2.2.1,x.1.1.2.2.2.2.2.2.2))))))),()),())))))):=by kernel_rfl
theorem acE(F:FT)(J:JT Le)(x:((oU×Unit)×Unit)):bY 68 Le Tryz.f68 F J x =
  (F 19 zy ((x.1.1.1,()),())).bind fun (y1:((Bool×Unit)×Unit)) =>
  (F 97 NL (((x.1.1.2.1,x.1.1.2.2),()),())).bind fun (y2:((Bool×Unit)×Unit)) =>
  cond y1.1.1
   (cond y2.1.1
    (some ((true,()),()))
    (some (((((x.1.1.2.1.1==(0:Int))&&(x.1.1.2.1.2==(0:Int)))&&(x.1.1.2.2==(0:Int))),()),())))
   (some ((false,()),())):=by kernel_rfl
theorem acF(F:FT)(J:JT FB)(x:((ID×(ID×Unit))×Unit)):bY 69 FB Tryz.f69 F J x =
  cond ((x.1.1.1==x.1.2.1.1)&&(x.1.1.2==x.1.2.1.2))
   (some (((0:Int),()),()))
   (cond (decide (x.1.1.1<x.1.2.1.1))
    (some (((-1:Int),()),()))
    (cond (x.1.1.1==x.1.2.1.1)
     (cond (decide (x.1.1.2<x.1.2.1.2))
      (some (((-1:Int),()),()))
      (some (((1:Int),()),())))
     (some (((1:Int),()),())))):=by kernel_rfl
theorem acG(F:FT)(J:JT Lf)(x:((StateT×(oU×Unit))×Unit)):bY 70 Lf Tryz.f70 F J x =
  (F 18 oV ((x.1.1.1,(x.1.2.1.1,())),())).bind fun (y1:((ah×(Bool×Unit))×Unit)) =>
  cond (not y1.1.2.1)
   (some (((((0:Int),(0:Int)),(((0:Int),(0:Int)),(0:Int))),((13:Int),())),()))
   ((F 98 FG (((x.1.1.1,x.1.1.2),((x.1.2.1.2.1,x.1.2.1.2.2),())),())).bind fun (y2:((ab×Unit)×Unit)) =>
   (F 24 pU ((y1.1.1.2.1,((y2.1.1.1,y2.1.1.2),())),())).bind fun (y3:((Int×Unit)×Unit)) =>
   cond (decide (y3.1.1<(0:Int)))
    (some (((x.1.2.1.1,(((0:Int),(0:Int)),(0:Int))),((0:Int),())),()))
    (some (((x.1.2.1.1,(y2.1.1.1,y2.1.1.2)),((0:Int),())),()))):=by kernel_rfl
theorem acH(F:FT)(J:JT xe)(x:((ai×(af×Unit))×Unit)):bY 71 xe Tryz.f71 F J x =
 J sO (aP Tryz.prog 71 0) ((false,((0:Int),())),(((x.1.1,()),(((x.1.2.1.1,x.1.2.1.2),()),((([]:List ah),(([]:List af),())),((x.1.1.1,(([]:List af),())),())))),())):=by kernel_rfl
theorem Oh(F:FT)(J:JT xe)(x:((Bool×(Int×Unit))×(((ai×Unit)×((af×Unit)×(((List ah)×((List af)×Unit))×(((List ah)×((List af)×Unit))×Unit))))×Unit))):fV 71 0 xe Tryz.f71 sO F J x =
  cond (decide (x.1.2.1<(((List.length x.2.1.1.1.2):Nat):Int)))
   (cond (not x.1.1)
    (((aV x.2.1.1.1.2 x.1.2.1)).bind fun (y1:af) =>
    (F 69 FB ((x.2.1.2.1.1.1,(y1.1,())),())).bind fun (y2:((Int×Unit)×Unit)) =>
    cond (decide (y2.1.1<(0:Int)))
     (cond (aM (List.length x.2.1.2.2.2.1.2.1) (List.length ((x.2.1.2.1.1.1,x.2.1.2.1.1.2)::([]:List af))))
      (((aV x.2.1.1.1.2 x.1.2.1)).bind fun (y3:af) =>
      cond (aM (List.length (x.2.1.2.2.2.1.2.1++((x.2.1.2.1.1.1,x.2.1.2.1.1.2)::([]:List af)))) (List.length ((y3.1,y3.2)::([]:List af))))
       (J sO (aP Tryz.prog 71 0) ((true,((IntKind.wrap .i64 (x.1.2.1+(1:Int))),())),(((x.2.1.1.1,()),(((x.2.1.2.1.1.1,x.2.1.2.1.1.2),()),((x.2.1.2.2.1.1,x.2.1.2.2.1.2),((x.2.1.2.2.2.1.1,(((x.2.1.2.2.2.1.2.1++((x.2.1.2.1.1.1,x.2.1.2.1.1.2)::([]:List af)))++((y3.1,y3.2)::([]:List af))),())),())))),())))
       (none))
      (none))
     (((aV x.2.1.1.1.2 x.1.2.1)).bind fun (y4:af) =>
     cond (aM (List.length x.2.1.2.2.2.1.2.1) (List.length ((y4.1,y4.2)::([]:List af))))
      (J sO (aP Tryz.prog 71 0) ((x.1.1,((IntKind.wrap .i64 (x.1.2.1+(1:Int))),())),(((x.2.1.1.1,()),(((x.2.1.2.1.1.1,x.2.1.2.1.1.2),()),((x.2.1.2.2.1.1,x.2.1.2.2.1.2),((x.2.1.2.2.2.1.1,((x.2.1.2.2.2.1.2.1++((y4.1,y4.2)::([]:List af))),())),())))),())))
      (none)))
    (((aV x.2.1.1.1.2 x.1.2.1)).bind fun (y5:af) =>
    cond (aM (List.length x.2.1.2.2.2.1.2.1) (List.length ((y5.1,y5.2)::([]:List af))))
     (J sO (aP Tryz.prog 71 0) ((x.1.1,((IntKind.wrap .i64 (x.1.2.1+(1:Int))),())),(((x.2.1.1.1,()),(((x.2.1.2.1.1.1,x.2.1.2.1.1.2),()),((x.2.1.2.2.1.1,x.2.1.2.2.1.2),((x.2.1.2.2.2.1.1,((x.2.1.2.2.2.1.2.1++((y5.1,y5.2)::([]:List af))),())),())))),())))
     (none)))
   (cond (not x.1.1)
    (cond (aM (List.length x.2.1.2.2.2.1.2.1) (List.length ((x.2.1.2.1.1.1,x.2.1.2.1.1.2)::([]:List af))))
     (some (((x.2.1.2.2.2.1.1,(x.2.1.2.2.2.1.2.1++((x.2.1.2.1.1.1,x.2.1.2.1.1.2)::([]:List af)))),()),()))
     (none))
    (some (((x.2.1.2.2.2.1.1,x.2.1.2.2.2.1.2.1),()),()))):=by kernel_rfl
theorem acI(F:FT)(J:JT xf)(x:((ai×(oU×(ab×Unit)))×Unit)):bY 72 xf Tryz.f72 F J x =
 (F 18 oV ((x.1.1,(x.1.2.1.1,())),())).bind fun (y1:((ah×(Bool×Unit))×Unit)) =>
 (F 100 wK ((y1.1.1.2.1,((x.1.2.1.2.1,x.1.2.1.2.2),((x.1.2.2.1.1,x.1.2.2.1.2),()))),())).bind fun (y2:(((List ab)×Unit)×Unit)) =>
 (F 99 BO ((x.1.1,(x.1.2.1.1,y2.1)),())).bind fun (y3:((ai×Unit)×Unit)) =>
 some ((y3.1.1,()),()):=by kernel_rfl
theorem acJ(F:FT)(J:JT xg)(x:(((List ak)×(ak×Unit))×Unit)):bY 73 xg Tryz.f73 F J x =
  (F 101 rM ((x.1.1,((x.1.2.1.1.1,x.1.2.1.1.2),())),())).bind fun (y1:((ab×(Bool×Unit))×Unit)) =>
  cond (not y1.1.2.1)
   (cond (decide ((((List.length x.1.1):Nat):Int)≥(400:Int)))
    (some ((x.1.1,()),()))
    (J kg (aP Tryz.prog 73 0) ((x.1.1,(false,((0:Int),()))),(((((x.1.2.1.1.1,x.1.2.1.1.2),(x.1.2.1.2.1,x.1.2.1.2.2)),()),()),(([]:List ak),())))))
   (J kg (aP Tryz.prog 73 0) ((x.1.1,(false,((0:Int),()))),(((((x.1.2.1.1.1,x.1.2.1.1.2),(x.1.2.1.2.1,x.1.2.1.2.2)),()),()),(([]:List ak),())))):=by kernel_rfl
theorem Oi(F:FT)(J:JT xg)(x:(((List ak)×(Bool×(Int×Unit)))×(((ak×Unit)×Unit)×((List ak)×Unit)))):fV 73 0 xg Tryz.f73 kg F J x =
  cond (decide (x.1.2.2.1<(((List.length x.1.1):Nat):Int)))
   (cond (not x.1.2.1)
    (((aV x.1.1 x.1.2.2.1)).bind fun (y2:ak) =>
    (F 62 Lc (((x.2.1.1.1.1.1,x.2.1.1.1.1.2),((y2.1.1,y2.1.2),())),())).bind fun (y3:((Int×Unit)×Unit)) =>
    cond (decide (y3.1.1≤(0:Int)))
     (cond (aM (List.length x.2.2.1) (List.length (((x.2.1.1.1.1.1,x.2.1.1.1.1.2),(x.2.1.1.1.2.1,x.2.1.1.1.2.2))::([]:List ak))))
      (((aV x.1.1 x.1.2.2.1)).bind fun (y4:ak) =>
      cond (not (((y4.1.1.1==x.2.1.1.1.1.1.1)&&(y4.1.1.2==x.2.1.1.1.1.1.2))&&(y4.1.2==x.2.1.1.1.1.2)))
       (((aV x.1.1 x.1.2.2.1)).bind fun (y5:ak) =>
       cond (aM (List.length (x.2.2.1++(((x.2.1.1.1.1.1,x.2.1.1.1.1.2),(x.2.1.1.1.2.1,x.2.1.1.1.2.2))::([]:List ak)))) (List.length (((y5.1.1,y5.1.2),(y5.2.1,y5.2.2))::([]:List ak))))
        (J kg (aP Tryz.prog 73 0) ((x.1.1,(true,((IntKind.wrap .i64 (x.1.2.2.1+(1:Int))),()))),(((((x.2.1.1.1.1.1,x.2.1.1.1.1.2),(x.2.1.1.1.2.1,x.2.1.1.1.2.2)),()),()),(((x.2.2.1++(((x.2.1.1.1.1.1,x.2.1.1.1.1.2),(x.2.1.1.1.2.1,x.2.1.1.1.2.2))::([]:List ak)))++(((y5.1.1,y5.1.2),(y5.2.1,y5.2.2))::([]:List ak))),()))))
        (none))
       (J kg (aP Tryz.prog 73 0) ((x.1.1,(true,((IntKind.wrap .i64 (x.1.2.2.1+(1:Int))),()))),(((((x.2.1.1.1.1.1,x.2.1.1.1.1.2),(x.2.1.1.1.2.1,x.2.1.1.1.2.2)),()),()),((x.2.2.1++(((x.2.1.1.1.1.1,x.2.1.1.1.1.2),(x.2.1.1.1.2.1,x.2.1.1.1.2.2))::([]:List ak))),())))))
      (none))
     (((aV x.1.1 x.1.2.2.1)).bind fun (y6:ak) =>
     cond (not (((y6.1.1.1==x.2.1.1.1.1.1.1)&&(y6.1.1.2==x.2.1.1.1.1.1.2))&&(y6.1.2==x.2.1.1.1.1.2)))
      (((aV x.1.1 x.1.2.2.1)).bind fun (y7:ak) =>
      cond (aM (List.length x.2.2.1) (List.length (((y7.1.1,y7.1.2),(y7.2.1,y7.2.2))::([]:List ak))))
       (J kg (aP Tryz.prog 73 0) ((x.1.1,(x.1.2.1,((IntKind.wrap .i64 (x.1.2.2.1+(1:Int))),()))),(((((x.2.1.1.1.1.1,x.2.1.1.1.1.2),(x.2.1.1.1.2.1,x.2.1.1.1.2.2)),()),()),((x.2.2.1++(((y7.1.1,y7.1.2),(y7.2.1,y7.2.2))::([]:List ak))),()))))
       (none))
      (J kg (aP Tryz.prog 73 0) ((x.1.1,(x.1.2.1,((IntKind.wrap .i64 (x.1.2.2.1+(1:Int))),()))),(((((x.2.1.1.1.1.1,x.2.1.1.1.1.2),(x.2.1.1.1.2.1,x.2.1.1.1.2.2)),()),()),x.2.2)))))
    (((aV x.1.1 x.1.2.2.1)).bind fun (y8:ak) =>
    cond (not (((y8.1.1.1==x.2.1.1.1.1.1.1)&&(y8.1.1.2==x.2.1.1.1.1.1.2))&&(y8.1.2==x.2.1.1.1.1.2)))
     (((aV x.1.1 x.1.2.2.1)).bind fun (y9:ak) =>
     cond (aM (List.length x.2.2.1) (List.length (((y9.1.1,y9.1.2),(y9.2.1,y9.2.2))::([]:List ak))))
      (J kg (aP Tryz.prog 73 0) ((x.1.1,(x.1.2.1,((IntKind.wrap .i64 (x.1.2.2.1+(1:Int))),()))),(((((x.2.1.1.1.1.1,x.2.1.1.1.1.2),(x.2.1.1.1.2.1,x.2.1.1.1.2.2)),()),()),((x.2.2.1++(((y9.1.1,y9.1.2),(y9.2.1,y9.2.2))::([]:List ak))),()))))
      (none))
     (J kg (aP Tryz.prog 73 0) ((x.1.1,(x.1.2.1,((IntKind.wrap .i64 (x.1.2.2.1+(1:Int))),()))),(((((x.2.1.1.1.1.1,x.2.1.1.1.1.2),(x.2.1.1.1.2.1,x.2.1.1.1.2.2)),()),()),x.2.2)))))
   (cond (not x.1.2.1)
    (cond (aM (List.length x.2.2.1) (List.length (((x.2.1.1.1.1.1,x.2.1.1.1.1.2),(x.2.1.1.1.2.1,x.2.1.1.1.2.2))::([]:List ak))))
     (some (((x.2.2.1++(((x.2.1.1.1.1.1,x.2.1.1.1.1.2),(x.2.1.1.1.2.1,x.2.1.1.1.2.2))::([]:List ak))),()),()))
     (none))
    (some (x.2.2,()))):=by kernel_rfl
theorem acK(F:FT)(J:JT Lg)(x:((ai×(ab×Unit))×Unit)):bY 74 Lg Tryz.f74 F J x =
  (F 20 sM ((x.1.1,((x.1.2.1.1,x.1.2.1.2),())),())).bind fun (y1:((ID×(Bool×Unit))×Unit)) =>
  (F 18 oV ((x.1.1,(y1.1.1,())),())).bind fun (y2:((ah×(Bool×Unit))×Unit)) =>
  (F 26 K8 ((y2.1.1.2.1,((x.1.2.1.1,x.1.2.1.2),())),())).bind fun (y3:((ab×(Bool×Unit))×Unit)) =>
  cond ((y3.1.1.1.1==x.1.2.1.1.1)&&(y3.1.1.1.2==x.1.2.1.1.2))
   ((F 26 K8 ((y2.1.1.2.1,((y3.1.1.1,y3.1.1.2),())),())).bind fun (y4:((ab×(Bool×Unit))×Unit)) =>
   cond ((y4.1.1.1.1==x.1.2.1.1.1)&&(y4.1.1.1.2==x.1.2.1.1.2))
    (some (((((0:Int),(0:Int)),(0:Int)),()),()))
    (some (((y4.1.1.1,y4.1.1.2),()),())))
   (cond ((y3.1.1.1.1==x.1.2.1.1.1)&&(y3.1.1.1.2==x.1.2.1.1.2))
    (some (((((0:Int),(0:Int)),(0:Int)),()),()))
    (some (((y3.1.1.1,y3.1.1.2),()),()))):=by kernel_rfl
theorem acL(F:FT)(J:JT Lh)(x:((ai×(ab×Unit))×Unit)):bY 75 Lh Tryz.f75 F J x =
 (F 20 sM ((x.1.1,((x.1.2.1.1,x.1.2.1.2),())),())).bind fun (y1:((ID×(Bool×Unit))×Unit)) =>
 (F 18 oV ((x.1.1,(y1.1.1,())),())).bind fun (y2:((ah×(Bool×Unit))×Unit)) =>
 (F 102 wL ((y2.1.1.2.1,((x.1.2.1.1,x.1.2.1.2),())),())).bind fun (y3:(((List ab)×Unit)×Unit)) =>
 (F 99 BO ((x.1.1,(y1.1.1,y3.1)),())).bind fun (y4:((ai×Unit)×Unit)) =>
 some ((y4.1.1,()),()):=by kernel_rfl
theorem acM(F:FT)(J:JT FC)(x:((ai×(ab×(ab×Unit)))×Unit)):bY 76 FC Tryz.f76 F J x =
 (F 20 sM ((x.1.1,((x.1.2.1.1,x.1.2.1.2),())),())).bind fun (y1:((ID×(Bool×Unit))×Unit)) =>
 (F 18 oV ((x.1.1,(y1.1.1,())),())).bind fun (y2:((ah×(Bool×Unit))×Unit)) =>
 (F 103 FH ((y2.1.1.2.1,((x.1.2.1.1,x.1.2.1.2),((x.1.2.2.1.1,x.1.2.2.1.2),()))),())).bind fun (y3:(((List ab)×Unit)×Unit)) =>
 (F 99 BO ((x.1.1,(y1.1.1,y3.1)),())).bind fun (y4:((ai×Unit)×Unit)) =>
 some ((y4.1.1,()),()):=by kernel_rfl
theorem acN(F:FT)(J:JT oW)(x:(((List ab)×Unit)×Unit)):bY 77 oW Tryz.f77 F J x =
 J vq (aP Tryz.prog 77 0) ((x.1.1,((0:Int),((0:Int),()))),((),())):=by kernel_rfl
theorem Oj(F:FT)(J:JT oW)(x:(((List ab)×(Int×(Int×Unit)))×(Unit×Unit))):fV 77 0 oW Tryz.f77 vq F J x =
  cond (decide (x.1.2.2.1<(((List.length x.1.1):Nat):Int)))
   (((aV x.1.1 x.1.2.2.1)).bind fun (y1:ab) =>
   ((aV x.1.1 x.1.2.1)).bind fun (y2:ab) =>
   (F 62 Lc (((y1.1,y1.2),((y2.1,y2.2),())),())).bind fun (y3:((Int×Unit)×Unit)) =>
   cond (decide (y3.1.1<(0:Int)))
    (J vq (aP Tryz.prog 77 0) ((x.1.1,(x.1.2.2.1,((IntKind.wrap .i64 (x.1.2.2.1+(1:Int))),()))),((),())))
    (J vq (aP Tryz.prog 77 0) ((x.1.1,(x.1.2.1,((IntKind.wrap .i64 (x.1.2.2.1+(1:Int))),()))),((),()))))
   (J Ai (aP Tryz.prog 77 1) ((x.1.1,(x.1.2.1,((0:Int),()))),((),(([]:List ab),())))):=by kernel_rfl
theorem Ol(F:FT)(J:JT oW)(x:(((List ab)×(Int×(Int×Unit)))×(Unit×((List ab)×Unit)))):fV 77 1 oW Tryz.f77 Ai F J x =
  cond (decide (x.1.2.2.1<(((List.length x.1.1):Nat):Int)))
   (cond ((((List.length x.1.1):Nat):Int)==(0:Int))
    (none)
    (((aV x.1.1 (Int.tmod (IntKind.wrap .i64 (x.1.2.1+x.1.2.2.1)) (((List.length x.1.1):Nat):Int)))).bind fun (y4:ab) =>
    cond (aM (List.length x.2.2.1) (List.length ((y4.1,y4.2)::([]:List ab))))
     (J Ai (aP Tryz.prog 77 1) ((x.1.1,(x.1.2.1,((IntKind.wrap .i64 (x.1.2.2.1+(1:Int))),()))),((),((x.2.2.1++((y4.1,y4.2)::([]:List ab))),()))))
     (none)))
   (some (x.2.2,())):=by kernel_rfl
theorem acO(F:FT)(J:JT NI)(x:((ai×(ab×Unit))×Unit)):bY 78 NI Tryz.f78 F J x =
  (F 20 sM ((x.1.1,((x.1.2.1.1,x.1.2.1.2),())),())).bind fun (y1:((ID×(Bool×Unit))×Unit)) =>
  cond (not y1.1.2.1)
   (some (((((0:Int),(0:Int)),(0:Int)),(false,())),()))
   ((F 18 oV ((x.1.1,(y1.1.1,())),())).bind fun (y2:((ah×(Bool×Unit))×Unit)) =>
   (F 104 FI ((y2.1.1.2.1,((x.1.2.1.1,x.1.2.1.2),())),())).bind fun (y3:((ab×(Bool×Unit))×Unit)) =>
   some (((y3.1.1.1,y3.1.1.2),y3.1.2),())):=by kernel_rfl
theorem acP(F:FT)(J:JT Li)(x:(((List ah)×Unit)×Unit)):bY 79 Li Tryz.f79 F J x =
  cond (List.isEmpty x.1.1)
   (rf 2 fun (j1:Nat) =>
   cond ((j1==0)==true)
    (some ((([]:List ah),()),()))
    (cond (aM (List.length ([]:List ah)) (List.length x.1.1))
     (some (((([]:List ah)++x.1.1),()),()))
     (none)))
   (cond (aM (List.length ([]:List ah)) (List.length x.1.1))
    (some (((([]:List ah)++x.1.1),()),()))
    (none)):=by kernel_rfl
theorem acQ(F:FT)(J:JT Lj)(x:(((List af)×Unit)×Unit)):bY 80 Lj Tryz.f80 F J x =
  cond (List.isEmpty x.1.1)
   (rf 2 fun (j1:Nat) =>
   cond ((j1==0)==true)
    (some ((([]:List af),()),()))
    (cond (aM (List.length ([]:List af)) (List.length x.1.1))
     (some (((([]:List af)++x.1.1),()),()))
     (none)))
   (cond (aM (List.length ([]:List af)) (List.length x.1.1))
    (some (((([]:List af)++x.1.1),()),()))
    (none)):=by kernel_rfl
theorem acR(F:FT)(J:JT xh)(x:(((List ab)×Unit)×Unit)):bY 81 xh Tryz.f81 F J x =
  cond (List.isEmpty x.1.1)
   (rf 2 fun (j1:Nat) =>
   cond ((j1==0)==true)
    (some ((([]:List ab),()),()))
    (cond (aM (List.length ([]:List ab)) (List.length x.1.1))
     (some (((([]:List ab)++x.1.1),()),()))
     (none)))
   (cond (aM (List.length ([]:List ab)) (List.length x.1.1))
    (some (((([]:List ab)++x.1.1),()),()))
    (none)):=by kernel_rfl
end Go.Vs
