/- Normal forms of the program's functions, the second part. -/
import Derived.Test.YtpldhjjpeldkaaaGreatEngineD
import Derived.KernelRfl
set_option linter.unusedVariables false
set_option maxRecDepth 1000000
set_option maxHeartbeats 0
namespace Go.Vs
open Go.Proofs
theorem acv(F:FT)(J:JT N0)(x:((StateT×(bY×Unit))×Unit)):bW 15 N0 Tryz.f15 F J x =
  (F 45 N5 (((x.1.2.1.1,(x.1.2.1.2.1,(x.1.2.1.2.2.1,(x.1.2.1.2.2.2.1,((x.1.2.1.2.2.2.2.1.1,(x.1.2.1.2.2.2.2.1.2.1,x.1.2.1.2.2.2.2.1.2.2)),((x.1.2.1.2.2.2.2.2.1.1,(x.1.2.1.2.2.2.2.2.1.2.1,x.1.2.1.2.2.2.2.2.1.2.2)),(x.1.2.1.2.2.2.2.2.2.1,x.1.2.1.2.2.2.2.2.2.2))))))),()),())).bind fun (y1:((Int×Unit)×Unit)) =>
  cond (y1.1.1 != (0:Int))
   (some ((((([]:List ai),([]:List ah)),([]:List an)),y1.1),()))
   ((F 18 o9 ((x.1.1.1,(x.1.2.1.2.1,())),())).bind fun (y2:((ai×(Bool×Unit))×Unit)) =>
   cond (x.1.2.1.1==(1:Int))
    (cond y2.1.2.1
     (some ((((([]:List ai),([]:List ah)),([]:List an)),((12:Int),())),()))
     (cond (decide ((((List.length x.1.1.1.1):Nat):Int)≥(24:Int)))
      (some ((((([]:List ai),([]:List ah)),([]:List an)),((3:Int),())),()))
      ((F 46 Ec ((x.1.1.1,((x.1.2.1.2.1,(([]:List ae),((⟨#[]⟩:ByteArray),(0:Int)))),())),())).bind fun (y3:((aj×Unit)×Unit)) =>
      some (((y3.1.1,x.1.1.2),((0:Int),())),()))))
    (cond (x.1.2.1.1==(2:Int))
     (cond (not y2.1.2.1)
      (some ((((([]:List ai),([]:List ah)),([]:List an)),((13:Int),())),()))
      (cond (decide ((((List.length y2.1.1.2.1):Nat):Int) > (0:Int)))
       (some ((((([]:List ai),([]:List ah)),([]:List an)),((14:Int),())),()))
       ((F 47 ou ((x.1.1.1,(x.1.2.1.2.1,(((0:Int),(0:Int)),()))),())).bind fun (y4:((aj×Unit)×Unit)) =>
       some (((y4.1.1,x.1.1.2),((0:Int),())),()))))
     (cond (x.1.2.1.1==(3:Int))
      ((F 48 N6 (((x.1.1.1,x.1.1.2),((x.1.2.1.1,(x.1.2.1.2.1,(x.1.2.1.2.2.1,(x.1.2.1.2.2.2.1,((x.1.2.1.2.2.2.2.1.1,(x.1.2.1.2.2.2.2.1.2.1,x.1.2.1.2.2.2.2.1.2.2)),((x.1.2.1.2.2.2.2.2.1.1,(x.1.2.1.2.2.2.2.2.1.2.1,x.1.2.1.2.2.2.2.2.1.2.2)),(x.1.2.1.2.2.2.2.2.2.1,x.1.2.1.2.2.2.2.2.2.2))))))),())),())).bind fun (y5:((StateT×(Int×Unit))×Unit)) =>
      some (((y5.1.1.1,y5.1.1.2),y5.1.2),()))
      (cond (x.1.2.1.1==(4:Int))
       ((F 49 N7 (((x.1.1.1,x.1.1.2),((x.1.2.1.1,(x.1.2.1.2.1,(x.1.2.1.2.2.1,(x.1.2.1.2.2.2.1,((x.1.2.1.2.2.2.2.1.1,(x.1.2.1.2.2.2.2.1.2.1,x.1.2.1.2.2.2.2.1.2.2)),((x.1.2.1.2.2.2.2.2.1.1,(x.1.2.1.2.2.2.2.2.1.2.1,x.1.2.1.2.2.2.2.2.1.2.2)),(x.1.2.1.2.2.2.2.2.2.1,x.1.2.1.2.2.2.2.2.2.2))))))),())),())).bind fun (y6:((StateT×(Int×Unit))×Unit)) =>
       some (((y6.1.1.1,y6.1.1.2),y6.1.2),()))
       (cond (x.1.2.1.1==(5:Int))
        ((F 50 N8 (((x.1.1.1,x.1.1.2),((x.1.2.1.1,(x.1.2.1.2.1,(x.1.2.1.2.2.1,(x.1.2.1.2.2.2.1,((x.1.2.1.2.2.2.2.1.1,(x.1.2.1.2.2.2.2.1.2.1,x.1.2.1.2.2.2.2.1.2.2)),((x.1.2.1.2.2.2.2.2.1.1,(x.1.2.1.2.2.2.2.2.1.2.1,x.1.2.1.2.2.2.2.2.1.2.2)),(x.1.2.1.2.2.2.2.2.2.1,x.1.2.1.2.2.2.2.2.2.2))))))),())),())).bind fun (y7:((StateT×(Int×Unit))×Unit)) =>
        some (((y7.1.1.1,y7.1.1.2),y7.1.2),()))
        (cond (x.1.2.1.1==(6:Int))
         ((F 51 xF (((x.1.1.1,x.1.1.2),((x.1.2.1.1,(x.1.2.1.2.1,(x.1.2.1.2.2.1,(x.1.2.1.2.2.2.1,((x.1.2.1.2.2.2.2.1.1,(x.1.2.1.2.2.2.2.1.2.1,x.1.2.1.2.2.2.2.1.2.2)),((x.1.2.1.2.2.2.2.2.1.1,(x.1.2.1.2.2.2.2.2.1.2.1,x.1.2.1.2.2.2.2.2.1.2.2)),(x.1.2.1.2.2.2.2.2.2.1,x.1.2.1.2.2.2.2.2.2.2))))))),())),())).bind fun (y8:((StateT×(Int×Unit))×Unit)) =>
         some (((y8.1.1.1,y8.1.1.2),y8.1.2),()))
         ((F 52 Aa (((x.1.1.1,x.1.1.2),((x.1.2.1.1,(x.1.2.1.2.1,(x.1.2.1.2.2.1,(x.1.2.1.2.2.2.1,((x.1.2.1.2.2.2.2.1.1,(x.1.2.1.2.2.2.2.1.2.1,x.1.2.1.2.2.2.2.1.2.2)),((x.1.2.1.2.2.2.2.2.1.1,(x.1.2.1.2.2.2.2.2.1.2.1,x.1.2.1.2.2.2.2.2.1.2.2)),(x.1.2.1.2.2.2.2.2.2.1,x.1.2.1.2.2.2.2.2.2.2))))))),())),())).bind fun (y9:((StateT×(Int×Unit))×Unit)) =>
         some (((y9.1.1.1,y9.1.1.2),y9.1.2),())))))))):=by kernel_rfl
theorem acw(F:FT)(J:JT N1)(x:((StateT×(StateT×Unit))×Unit)):bW 16 N1 Tryz.f16 F J x =
  (F 27 z8 ((x.1.1.1,(x.1.2.1.1,())),())).bind fun (y1:((Bool×Unit)×Unit)) =>
  (F 53 Ed ((x.1.1.2,(x.1.2.1.2,())),())).bind fun (y2:((Bool×Unit)×Unit)) =>
  cond y1.1.1
   (some (y2.1,()))
   (some ((false,()),())):=by kernel_rfl
theorem acx(F:FT)(J:JT o9)(x:((aj×(ID×Unit))×Unit)):bW 18 o9 Tryz.f18 F J x =
 J Al (aM Tryz.prog 18 0) (((0:Int),()),(((x.1.1,()),((x.1.2.1,()),(((0:Int),((0:Int),(([]:List ae),((⟨#[]⟩:ByteArray),((0:Int),()))))),()))),())):=by kernel_rfl
theorem Og(F:FT)(J:JT o9)(x:((Int×Unit)×(((aj×Unit)×((ID×Unit)×((Int×(Int×((List ae)×(ByteArray×(Int×Unit)))))×Unit)))×Unit))):eW 18 0 o9 Tryz.f18 Al F J x =
  cond (decide (x.1.1<(((List.length x.2.1.1.1.1):Nat):Int)))
   (((aS x.2.1.1.1.1 x.1.1)).bind fun (y1:ai) =>
   cond ((y1.1.1==x.2.1.2.1.1.1)&&(y1.1.2==x.2.1.2.1.1.2))
    (((aS x.2.1.1.1.1 x.1.1)).bind fun (y2:ai) =>
    some (((y2.1,(y2.2.1,y2.2.2)),(true,())),()))
    (J Al (aM Tryz.prog 18 0) (((IntKind.wrap .i64 (x.1.1+(1:Int))),()),(((x.2.1.1.1,()),((x.2.1.2.1.1,()),((x.2.1.2.2.1.1,(x.2.1.2.2.1.2.1,(x.2.1.2.2.1.2.2.1,(x.2.1.2.2.1.2.2.2.1,x.2.1.2.2.1.2.2.2.2)))),()))),()))))
   (some (((((0:Int),(0:Int)),(([]:List ae),((⟨#[]⟩:ByteArray),(0:Int)))),(false,())),())):=by kernel_rfl
theorem acy(F:FT)(J:JT xC)(x:((ID×Unit)×Unit)):bW 19 xC Tryz.f19 F J x =
  cond (decide (x.1.1.1≥(1:Int)))
   (cond (decide (x.1.1.1≤(8:Int)))
    (cond (decide (x.1.1.2≥(1:Int)))
     (some (((decide (x.1.1.2≤(1048576:Int))),()),()))
     (some ((false,()),())))
    (some ((false,()),())))
   (some ((false,()),())):=by kernel_rfl
theorem acz(F:FT)(J:JT sZ)(x:((aj×(ae×Unit))×Unit)):bW 20 sZ Tryz.f20 F J x =
 J Am (aM Tryz.prog 20 0) (((0:Int),()),(((x.1.1,()),(((x.1.2.1.1,x.1.2.1.2),()),((((0:Int),(0:Int)),()),()))),())):=by kernel_rfl
theorem Oh(F:FT)(J:JT sZ)(x:((Int×Unit)×(((aj×Unit)×((ae×Unit)×((ID×Unit)×Unit)))×Unit))):eW 20 0 sZ Tryz.f20 Am F J x =
  cond (decide (x.1.1<(((List.length x.2.1.1.1.1):Nat):Int)))
   (((aS x.2.1.1.1.1 x.1.1)).bind fun (y1:ai) =>
   (F 24 qb ((y1.2.1,((x.2.1.2.1.1.1,x.2.1.2.1.1.2),())),())).bind fun (y2:((Int×Unit)×Unit)) =>
   cond (decide (y2.1.1≥(0:Int)))
    (((aS x.2.1.1.1.1 x.1.1)).bind fun (y3:ai) =>
    some ((y3.1,(true,())),()))
    (J Am (aM Tryz.prog 20 0) (((IntKind.wrap .i64 (x.1.1+(1:Int))),()),(((x.2.1.1.1,()),(((x.2.1.2.1.1.1,x.2.1.2.1.1.2),()),((x.2.1.2.2.1.1,()),()))),()))))
   (some ((((0:Int),(0:Int)),(false,())),())):=by kernel_rfl
theorem acA(F:FT)(J:JT vD)(x:((aj×(ID×Unit))×Unit)):bW 21 vD Tryz.f21 F J x =
 J Ao (aM Tryz.prog 21 0) (((0:Int),()),(((x.1.1,()),((x.1.2.1,()),(((((0:Int),(0:Int)),((⟨#[]⟩:ByteArray),(0:Int))),()),()))),())):=by kernel_rfl
theorem Oi(F:FT)(J:JT vD)(x:((Int×Unit)×(((aj×Unit)×((ID×Unit)×((ah×Unit)×Unit)))×Unit))):eW 21 0 vD Tryz.f21 Ao F J x =
  cond (decide (x.1.1<(((List.length x.2.1.1.1.2):Nat):Int)))
   (((aS x.2.1.1.1.2 x.1.1)).bind fun (y1:ah) =>
   cond ((y1.1.1==x.2.1.2.1.1.1)&&(y1.1.2==x.2.1.2.1.1.2))
    (((aS x.2.1.1.1.2 x.1.1)).bind fun (y2:ah) =>
    some (((y2.1,y2.2),(true,())),()))
    (J Ao (aM Tryz.prog 21 0) (((IntKind.wrap .i64 (x.1.1+(1:Int))),()),(((x.2.1.1.1,()),((x.2.1.2.1.1,()),(((x.2.1.2.2.1.1.1,x.2.1.2.2.1.1.2),()),()))),()))))
   (some (((((0:Int),(0:Int)),((⟨#[]⟩:ByteArray),(0:Int))),(false,())),())):=by kernel_rfl
theorem acB(F:FT)(J:JT FU)(x:((aj×(ae×Unit))×Unit)):bW 22 FU Tryz.f22 F J x =
  (F 54 LC ((x.1.1,((x.1.2.1.1,x.1.2.1.2),())),())).bind fun (y1:((ae×(Bool×Unit))×Unit)) =>
  cond (not y1.1.2.1)
   (some ((([]:List ae),()),()))
   (cond (aO (List.length ([]:List ae)) (List.length ((x.1.2.1.1,x.1.2.1.2)::([]:List ae))))
    (J Ap (aM Tryz.prog 22 0) ((),(((x.1.1,()),(((x.1.2.1.1,x.1.2.1.2),()),(((y1.1.1.1,y1.1.1.2),()),()))),((([]:List ae)++((x.1.2.1.1,x.1.2.1.2)::([]:List ae))),()))))
    (none)):=by kernel_rfl
theorem Oj(F:FT)(J:JT FU)(x:(Unit×(((aj×Unit)×((ae×Unit)×((ae×Unit)×Unit)))×((List ae)×Unit)))):eW 22 0 FU Tryz.f22 Ap F J x =
  cond (not (((x.2.1.2.2.1.1.1.1==x.2.1.2.1.1.1.1)&&(x.2.1.2.2.1.1.1.2==x.2.1.2.1.1.1.2))&&(x.2.1.2.2.1.1.2==x.2.1.2.1.1.2)))
   (cond (decide ((((List.length x.2.2.1):Nat):Int)<(82:Int)))
    (cond (aO (List.length x.2.2.1) (List.length ((x.2.1.2.2.1.1.1,x.2.1.2.2.1.1.2)::([]:List ae))))
     ((F 54 LC ((x.2.1.1.1,((x.2.1.2.2.1.1.1,x.2.1.2.2.1.1.2),())),())).bind fun (y2:((ae×(Bool×Unit))×Unit)) =>
     J Ap (aM Tryz.prog 22 0) ((),(((x.2.1.1.1,()),(((x.2.1.2.1.1.1,x.2.1.2.1.1.2),()),(((y2.1.1.1,y2.1.1.2),()),()))),((x.2.2.1++((x.2.1.2.2.1.1.1,x.2.1.2.2.1.1.2)::([]:List ae))),()))))
     (none))
    (some (x.2.2,())))
   (some (x.2.2,())):=by kernel_rfl
theorem acC(F:FT)(J:JT B3)(x:((ae×Unit)×Unit)):bW 23 B3 Tryz.f23 F J x =
 some (((x.1.1.1,(IntKind.wrap .i64 ((1:Int) - x.1.1.2))),()),()):=by kernel_rfl
theorem acD(F:FT)(J:JT qb)(x:(((List ae)×(ae×Unit))×Unit)):bW 24 qb Tryz.f24 F J x =
 J Aq (aM Tryz.prog 24 0) ((x.1.1,((0:Int),())),((((x.1.2.1.1,x.1.2.1.2),()),()),())):=by kernel_rfl
theorem Ol(F:FT)(J:JT qb)(x:(((List ae)×(Int×Unit))×(((ae×Unit)×Unit)×Unit))):eW 24 0 qb Tryz.f24 Aq F J x =
  cond (decide (x.1.2.1<(((List.length x.1.1):Nat):Int)))
   (((aS x.1.1 x.1.2.1)).bind fun (y1:ae) =>
   cond (((y1.1.1==x.2.1.1.1.1.1)&&(y1.1.2==x.2.1.1.1.1.2))&&(y1.2==x.2.1.1.1.2))
    (some (x.1.2,()))
    (J Aq (aM Tryz.prog 24 0) ((x.1.1,((IntKind.wrap .i64 (x.1.2.1+(1:Int))),())),((((x.2.1.1.1.1,x.2.1.1.1.2),()),()),()))))
   (some (((-1:Int),()),())):=by kernel_rfl
theorem acE(F:FT)(J:JT LB)(x:(((List ae)×(ae×Unit))×Unit)):bW 26 LB Tryz.f26 F J x =
  (F 24 qb ((x.1.1,((x.1.2.1.1,x.1.2.1.2),())),())).bind fun (y1:((Int×Unit)×Unit)) =>
  cond (decide (y1.1.1<(0:Int)))
   (some (((((0:Int),(0:Int)),(0:Int)),(false,())),()))
   (cond ((((List.length x.1.1):Nat):Int)==(0:Int))
    (none)
    (((aS x.1.1 (Int.tmod (IntKind.wrap .i64 ((IntKind.wrap .i64 (y1.1.1+(((List.length x.1.1):Nat):Int))) - (1:Int))) (((List.length x.1.1):Nat):Int)))).bind fun (y2:ae) =>
    some (((y2.1,y2.2),(true,())),()))):=by kernel_rfl
theorem acF(F:FT)(J:JT z8)(x:((aj×(aj×Unit))×Unit)):bW 27 z8 Tryz.f27 F J x =
  cond ((((List.length x.1.1.1):Nat):Int) != (((List.length x.1.2.1.1):Nat):Int))
   (some ((false,()),()))
   (cond ((((List.length x.1.1.2):Nat):Int) != (((List.length x.1.2.1.2):Nat):Int))
    (some ((false,()),()))
    (J Ar (aM Tryz.prog 27 0) (((0:Int),()),(((x.1.1,()),((x.1.2.1,()),())),())))):=by kernel_rfl
theorem Om(F:FT)(J:JT z8)(x:((Int×Unit)×(((aj×Unit)×((aj×Unit)×Unit))×Unit))):eW 27 0 z8 Tryz.f27 Ar F J x =
  cond (decide (x.1.1<(((List.length x.2.1.1.1.1):Nat):Int)))
   (((aS x.2.1.1.1.1 x.1.1)).bind fun (y1:ai) =>
   ((aS x.2.1.2.1.1.1 x.1.1)).bind fun (y2:ai) =>
   (F 57 Ee ((y1.2.1,(y2.2.1,())),())).bind fun (y3:((Bool×Unit)×Unit)) =>
   cond (not ((y1.1.1==y2.1.1)&&(y1.1.2==y2.1.2)))
    (some ((false,()),()))
    (cond (not (y1.2.2.1==y2.2.2.1))
     (some ((false,()),()))
     (cond (y1.2.2.2 != y2.2.2.2)
      (some ((false,()),()))
      (cond (not y3.1.1)
       (some ((false,()),()))
       (J Ar (aM Tryz.prog 27 0) (((IntKind.wrap .i64 (x.1.1+(1:Int))),()),(((x.2.1.1.1,()),((x.2.1.2.1.1,()),())),())))))))
   (J As (aM Tryz.prog 27 1) (((0:Int),()),(((x.2.1.1.1,()),((x.2.1.2.1.1,()),())),()))):=by kernel_rfl
theorem On(F:FT)(J:JT z8)(x:((Int×Unit)×(((aj×Unit)×((aj×Unit)×Unit))×Unit))):eW 27 1 z8 Tryz.f27 As F J x =
  cond (decide (x.1.1<(((List.length x.2.1.1.1.2):Nat):Int)))
   (((aS x.2.1.1.1.2 x.1.1)).bind fun (y4:ah) =>
   ((aS x.2.1.2.1.1.2 x.1.1)).bind fun (y5:ah) =>
   cond (not (((y4.1.1==y5.1.1)&&(y4.1.2==y5.1.2))&&((y4.2.1==y5.2.1)&&(y4.2.2==y5.2.2))))
    (some ((false,()),()))
    (J As (aM Tryz.prog 27 1) (((IntKind.wrap .i64 (x.1.1+(1:Int))),()),(((x.2.1.1.1,()),((x.2.1.2.1.1,()),())),()))))
   (some ((true,()),())):=by kernel_rfl
theorem acG(F:FT)(J:JT vE)(x:((ByteArray×Unit)×Unit)):bW 28 vE Tryz.f28 F J x =
 J Au (aM Tryz.prog 28 0) ((x.1.1,((0:Int),())),((),())):=by kernel_rfl
theorem Oo(F:FT)(J:JT vE)(x:((ByteArray×(Int×Unit))×(Unit×Unit))):eW 28 0 vE Tryz.f28 Au F J x =
  cond (decide (x.1.2.1<(((ByteArray.size x.1.1):Nat):Int)))
   (((if 0≤x.1.2.1 then (x.1.1)[Int.toNat x.1.2.1]? else none)).bind fun (y1:UInt8) =>
   cond (decide (((UInt8.toNat y1:Nat):Int)<(32:Int)))
    (some ((false,()),()))
    (((if 0≤x.1.2.1 then (x.1.1)[Int.toNat x.1.2.1]? else none)).bind fun (y2:UInt8) =>
    cond (decide (((UInt8.toNat y2:Nat):Int) > (126:Int)))
     (some ((false,()),()))
     (J Au (aM Tryz.prog 28 0) ((x.1.1,((IntKind.wrap .i64 (x.1.2.1+(1:Int))),())),((),())))))
   (some (((decide ((((ByteArray.size x.1.1):Nat):Int)≤(16:Int))),()),())):=by kernel_rfl
theorem acH(F:FT)(J:JT xD)(x:((Int×Unit)×Unit)):bW 29 xD Tryz.f29 F J x =
  cond (decide (x.1.1≥(-1099511627776:Int)))
   (some (((decide (x.1.1≤(1099511627776:Int))),()),()))
   (some ((false,()),())):=by kernel_rfl
theorem acI(F:FT)(J:JT N2)(x:((StateT×((List bY)×Unit))×Unit)):bW 30 N2 Tryz.f30 F J x =
  (F 58 IK (x.1.2,())).bind fun (y1:((Int×Unit)×Unit)) =>
  cond (y1.1.1 != (0:Int))
   (some ((((([]:List ai),([]:List ah)),([]:List an)),y1.1),()))
   ((F 44 FZ (((x.1.1.1,x.1.1.2),x.1.2),())).bind fun (y2:((StateT×(Int×Unit))×Unit)) =>
   some (((y2.1.1.1,y2.1.1.2),y2.1.2),())):=by kernel_rfl
theorem acJ(F:FT)(J:JT FV)(x:((aj×Unit)×Unit)):bW 31 FV Tryz.f31 F J x =
 (F 59 Ef ((x.1.1,()),())).bind fun (y1:(((List ae)×Unit)×Unit)) =>
 J vG (aM Tryz.prog 31 0) (((0:Int),()),(((x.1.1,()),()),(([]:List (List ae)),(([]:List ae),y1.1)))):=by kernel_rfl
theorem Oq(F:FT)(J:JT FV)(x:((Int×Unit)×(((aj×Unit)×Unit)×((List (List ae))×((List ae)×((List ae)×Unit)))))):eW 31 0 FV Tryz.f31 vG F J x =
  cond (decide (x.1.1<(((List.length x.2.2.2.2.1):Nat):Int)))
   (cond ((decide ((0:Int)≤x.1.1))&&(decide (x.1.1<(((List.length x.2.2.2.2.1):Nat):Int))))
    (((x.2.2.2.2.1)[(Int.toNat x.1.1)]?).bind fun (y2:ae) =>
    (F 24 qb ((x.2.2.2.1,((y2.1,y2.2),())),())).bind fun (y3:((Int×Unit)×Unit)) =>
    cond (decide (y3.1.1≥(0:Int)))
     (J vG (aM Tryz.prog 31 0) (((IntKind.wrap .i64 (x.1.1+(1:Int))),()),(((x.2.1.1.1,()),()),(x.2.2.1,(x.2.2.2.1,x.2.2.2.2)))))
     (cond ((decide ((0:Int)≤x.1.1))&&(decide (x.1.1<(((List.length x.2.2.2.2.1):Nat):Int))))
      (((x.2.2.2.2.1)[(Int.toNat x.1.1)]?).bind fun (y4:ae) =>
      (F 22 FU ((x.2.1.1.1,((y4.1,y4.2),())),())).bind fun (y5:(((List ae)×Unit)×Unit)) =>
      cond (aO (List.length x.2.2.1) (List.length (y5.1.1::([]:List (List ae)))))
       (cond (aO (List.length x.2.2.2.1) (List.length y5.1.1))
        (J vG (aM Tryz.prog 31 0) (((IntKind.wrap .i64 (x.1.1+(1:Int))),()),(((x.2.1.1.1,()),()),((x.2.2.1++(y5.1.1::([]:List (List ae)))),((x.2.2.2.1++y5.1.1),x.2.2.2.2)))))
        (none))
       (none))
      (none)))
    (none))
   (some ((x.2.2.1,()),())):=by kernel_rfl
theorem acK(F:FT)(J:JT FY)(x:((aj×Unit)×Unit)):bW 32 FY Tryz.f32 F J x =
 (F 56 rB ((x.1.1,()),())).bind fun (y1:(((List Int)×Unit)×Unit)) =>
 J vH (aM Tryz.prog 32 0) (((0:Int),((0:Int),())),((),y1.1)):=by kernel_rfl
theorem Ot(F:FT)(J:JT FY)(x:((Int×(Int×Unit))×(Unit×((List Int)×Unit)))):eW 32 0 FY Tryz.f32 vH F J x =
  cond (decide (x.1.2.1<(((List.length x.2.2.1):Nat):Int)))
   (cond ((decide ((0:Int)≤x.1.2.1))&&(decide (x.1.2.1<(((List.length x.2.2.1):Nat):Int))))
    (((x.2.2.1)[(Int.toNat x.1.2.1)]?).bind fun (y2:Int) =>
    cond (y2==x.1.2.1)
     (J vH (aM Tryz.prog 32 0) (((IntKind.wrap .i64 (x.1.1+(1:Int))),((IntKind.wrap .i64 (x.1.2.1+(1:Int))),())),((),x.2.2)))
     (J vH (aM Tryz.prog 32 0) ((x.1.1,((IntKind.wrap .i64 (x.1.2.1+(1:Int))),())),((),x.2.2))))
    (none))
   (some ((x.1.1,()),())):=by kernel_rfl
theorem acL(F:FT)(J:JT N3)(x:(Unit×Unit)):bW 33 N3 Tryz.f33 F J x =
 some ((((([]:List ai),([]:List ah)),([]:List an)),()),()):=by kernel_rfl
theorem acM(F:FT)(J:JT B4)(x:((aj×Unit)×Unit)):bW 38 B4 Tryz.f38 F J x =
  cond (aO (List.length ([]:List ah)) (List.length x.1.1.2))
   (J Av (aM Tryz.prog 38 0) (((0:Int),()),(((x.1.1,()),((([]:List ai),(([]:List ah),())),((([]:List ai),((([]:List ah)++x.1.1.2),())),()))),())))
   (none):=by kernel_rfl
theorem Ou(F:FT)(J:JT B4)(x:((Int×Unit)×(((aj×Unit)×(((List ai)×((List ah)×Unit))×(((List ai)×((List ah)×Unit))×Unit)))×Unit))):eW 38 0 B4 Tryz.f38 Av F J x =
  cond (decide (x.1.1<(((List.length x.2.1.1.1.1):Nat):Int)))
   (((aS x.2.1.1.1.1 x.1.1)).bind fun (y1:ai) =>
   cond (aO (List.length ([]:List ae)) (List.length y1.2.1))
    (cond (aO (List.length x.2.1.2.2.1.1) (List.length ((y1.1,((([]:List ae)++y1.2.1),y1.2.2))::([]:List ai))))
     (J Av (aM Tryz.prog 38 0) (((IntKind.wrap .i64 (x.1.1+(1:Int))),()),(((x.2.1.1.1,()),((x.2.1.2.1.1,x.2.1.2.1.2),(((x.2.1.2.2.1.1++((y1.1,((([]:List ae)++y1.2.1),y1.2.2))::([]:List ai))),x.2.1.2.2.1.2),()))),())))
     (none))
    (none))
   (some (((x.2.1.2.2.1.1,x.2.1.2.2.1.2),()),())):=by kernel_rfl
theorem acN(F:FT)(J:JT B5)(x:(((List an)×Unit)×Unit)):bW 39 B5 Tryz.f39 F J x =
 J Aw (aM Tryz.prog 39 0) ((x.1.1,((1:Int),())),((),())):=by kernel_rfl
theorem IN(F:FT)(J:JT B5)(x:(((List an)×(Int×Unit))×(Unit×Unit))):eW 39 0 B5 Tryz.f39 Aw F J x =
  cond (decide (x.1.2.1<(((List.length x.1.1):Nat):Int)))
   (((aS x.1.1 (IntKind.wrap .i64 (x.1.2.1 - (1:Int))))).bind fun (y1:an) =>
   ((aS x.1.1 x.1.2.1)).bind fun (y2:an) =>
   (F 62 IM (((y1.1.1,y1.1.2),((y2.1.1,y2.1.2),())),())).bind fun (y3:((Int×Unit)×Unit)) =>
   cond (decide (y3.1.1≥(0:Int)))
    (some ((false,()),()))
    (J Aw (aM Tryz.prog 39 0) ((x.1.1,((IntKind.wrap .i64 (x.1.2.1+(1:Int))),())),((),()))))
   (some (((decide ((((List.length x.1.1):Nat):Int)≤(400:Int))),()),())):=by kernel_rfl
theorem acO(F:FT)(J:JT Eb)(x:((aj×Unit)×Unit)):bW 40 Eb Tryz.f40 F J x =
  (F 63 pe ((x.1.1,()),())).bind fun (y1:((Int×Unit)×Unit)) =>
  cond (y1.1.1 != (0:Int))
   (some (y1.1,()))
   ((F 64 Eg ((x.1.1,()),())).bind fun (y2:((Int×Unit)×Unit)) =>
   cond (y2.1.1 != (0:Int))
    (some (((11:Int),()),()))
    (some (((0:Int),()),()))):=by kernel_rfl
theorem acP(F:FT)(J:JT N4)(x:((Int×Unit)×Unit)):bW 42 N4 Tryz.f42 F J x =
 some (((((1:Int),(((1:Int),x.1.1),(((0:Int),(0:Int)),(((0:Int),(0:Int)),((((0:Int),(0:Int)),(((0:Int),(0:Int)),(0:Int))),((((0:Int),(0:Int)),(((0:Int),(0:Int)),(0:Int))),(false,((⟨#[]⟩:ByteArray),(0:Int)))))))))::([]:List bY)),()),()):=by kernel_rfl
theorem XC(F:FT)(J:JT B6)(x:((bY×Unit)×Unit)):bW 43 B6 Tryz.f43 F J x =
  (F 65 F3 (((x.1.1.1,(x.1.1.2.1,(x.1.1.2.2.1,(x.1.1.2.2.2.1,((x.1.1.2.2.2.2.1.1,(x.1.1.2.2.2.2.1.2.1,x.1.1.2.2.2.2.1.2.2)),((x.1.1.2.2.2.2.2.1.1,(x.1.1.2.2.2.2.2.1.2.1,x.1.1.2.2.2.2.2.1.2.2)),(x.1.1.2.2.2.2.2.2.1,x.1.1.2.2.2.2.2.2.2))))))),()),())).bind fun (y1:((bY×(Int×Unit))×Unit)) =>
  cond (not ((y1.1.1.1==x.1.1.1)&&(((y1.1.1.2.1.1==x.1.1.2.1.1)&&(y1.1.1.2.1.2==x.1.1.2.1.2))&&(((y1.1.1.2.2.1.1==x.1.1.2.2.1.1)&&(y1.1.1.2.2.1.2==x.1.1.2.2.1.2))&&(((y1.1.1.2.2.2.1.1==x.1.1.2.2.2.1.1)&&(y1.1.1.2.2.2.1.2==x.1.1.2.2.2.1.2))&&((((y1.1.1.2.2.2.2.1.1.1==x.1.1.2.2.2.2.1.1.1)&&(y1.1.1.2.2.2.2.1.1.2==x.1.1.2.2.2.2.1.1.2))&&(((y1.1.1.2.2.2.2.1.2.1.1==x.1.1.2.2.2.2.1.2.1.1)&&(y1.1.1.2.2.2.2.1.2.1.2==x.1.1.2.2.2.2.1.2.1.2))&&(y1.1.1.2.2.2.2.1.2.2==x.1.1.2.2.2.2.1.2.2)))&&((((y1.1.1.2.2.2.2.2.1.1.1==x.1.1.2.2.2.2.2.1.1.1)&&(y1.1.1.2.2.2.2.2.1.1.2==x.1.1.2.2.2.2.2.1.1.2))&&(((y1.1.1.2.2.2.2.2.1.2.1.1==x.1.1.2.2.2.2.2.1.2.1.1)&&(y1.1.1.2.2.2.2.2.1.2.1.2==x.1.1.2.2.2.2.2.1.2.1.2))&&(y1.1.1.2.2.2.2.2.1.2.2==x.1.1.2.2.2.2.2.1.2.2)))&&((y1.1.1.2.2.2.2.2.2.1==x.1.1.2.2.2.2.2.2.1)&&((y1.1.1.2.2.2.2.2.2.2.1==x.1.1.2.2.2.2.2.2.2.1)&&(y1.1.1.2.2.2.2.2.2.2.2==x.1.1.2.2.2.2.2.2.2.2))))))))))
   (some (((1:Int),()),()))
   (some (y1.1.2,())):=by kernel_rfl
theorem acQ(F:FT)(J:JT FZ)(x:((StateT×((List bY)×Unit))×Unit)):bW 44 FZ Tryz.f44 F J x =
 (F 60 F2 ((x.1.1.1,()),())).bind fun (y1:((((List ai)×((List ah)×Unit))×Unit)×Unit)) =>
 (F 61 IL ((x.1.1.2,()),())).bind fun (y2:(((List an)×Unit)×Unit)) =>
 J Ei (aM Tryz.prog 44 0) ((x.1.2.1,((((List.length x.1.2.1):Nat):Int),((0:Int),()))),(((([]:List ai),(([]:List ah),(([]:List an),()))),((y1.1.1.1,(y1.1.1.2.1,y2.1)),())),())):=by kernel_rfl
theorem Ov(F:FT)(J:JT FZ)(x:(((List bY)×(Int×(Int×Unit)))×((aE×(aE×Unit))×Unit))):eW 44 0 FZ Tryz.f44 Ei F J x =
  cond (decide (x.1.2.2.1<x.1.2.1))
   (((aS x.1.1 x.1.2.2.1)).bind fun (y3:bY) =>
   (F 66 xG (((y3.1,(y3.2.1,(y3.2.2.1,(y3.2.2.2.1,((y3.2.2.2.2.1.1,(y3.2.2.2.2.1.2.1,y3.2.2.2.2.1.2.2)),((y3.2.2.2.2.2.1.1,(y3.2.2.2.2.2.1.2.1,y3.2.2.2.2.2.1.2.2)),(y3.2.2.2.2.2.2.1,y3.2.2.2.2.2.2.2))))))),()),((x.2.1.2.1.1,(x.2.1.2.1.2.1,x.2.1.2.1.2.2)),()))).bind fun (y4:((Int×Unit)×(aE×Unit))) =>
   cond (y4.1.1 != (0:Int))
    (some ((((([]:List ai),([]:List ah)),([]:List an)),y4.1),()))
    (J Ei (aM Tryz.prog 44 0) ((x.1.1,(x.1.2.1,((IntKind.wrap .i64 (x.1.2.2.1+(1:Int))),()))),(((x.2.1.1.1,(x.2.1.1.2.1,x.2.1.1.2.2)),((y4.2.1.1,(y4.2.1.2.1,y4.2.1.2.2)),())),()))))
   (some ((((x.2.1.2.1.1,x.2.1.2.1.2.1),x.2.1.2.1.2.2.1),((0:Int),())),())):=by kernel_rfl
theorem acR(F:FT)(J:JT N5)(x:((bY×Unit)×Unit)):bW 45 N5 Tryz.f45 F J x =
  (F 19 xC ((x.1.1.2.1,()),())).bind fun (y1:((Bool×Unit)×Unit)) =>
  cond (decide (x.1.1.1<(1:Int)))
   (some (((1:Int),()),()))
   (cond (decide (x.1.1.1 > (8:Int)))
    (some (((1:Int),()),()))
    (cond (not y1.1.1)
     (some (((1:Int),()),()))
     ((F 67 LD (((x.1.1.1,(x.1.1.2.1,(x.1.1.2.2.1,(x.1.1.2.2.2.1,((x.1.1.2.2.2.2.1.1,(x.1.1.2.2.2.2.1.2.1,x.1.1.2.2.2.2.1.2.2)),((x.1.1.2.2.2.2.2.1.1,(x.1.1.2.2.2.2.2.1.2.1,x.1.1.2.2.2.2.2.1.2.2)),(x.1.1.2.2.2.2.2.2.1,x.1.1.2.2.2.2.2.2.2))))))),()),())).bind fun (y2:((bY×Unit)×Unit)) =>
     cond (not ((y2.1.1.1==(0:Int))&&(((y2.1.1.2.1.1==(0:Int))&&(y2.1.1.2.1.2==(0:Int)))&&(((y2.1.1.2.2.1.1==(0:Int))&&(y2.1.1.2.2.1.2==(0:Int)))&&(((y2.1.1.2.2.2.1.1==(0:Int))&&(y2.1.1.2.2.2.1.2==(0:Int)))&&((((y2.1.1.2.2.2.2.1.1.1==(0:Int))&&(y2.1.1.2.2.2.2.1.1.2==(0:Int)))&&(((y2.1.1.2.2.2.2.1.2.1.1==(0:Int))&&(y2.1.1.2.2.2.2.1.2.1.2==(0:Int)))&&(y2.1.1.2.2.2.2.1.2.2==(0:Int))))&&((((y2.1.1.2.2.2.2.2.1.1.1==(0:Int))&&(y2.1.1.2.2.2.2.2.1.1.2==(0:Int)))&&(((y2.1.1.2.2.2.2.2.1.2.1.1==(0:Int))&&(y2.1.1.2.2.2.2.2.1.2.1.2==(0:Int)))&&(y2.1.1.2.2.2.2.2.1.2.2==(0:Int))))&&((y2.1.1.2.2.2.2.2.2.1==false)&&((y2.1.1.2.2.2.2.2.2.2.1==(⟨#[]⟩:ByteArray))&&(y2.1.1.2.2.2.2.2.2.2.2==(0:Int)))))))))))
      (some (((1:Int),()),()))
      (cond (x.1.1.1==(3:Int))
       ((F 68 LF (((x.1.1.2.2.2.2.1.1,(x.1.1.2.2.2.2.1.2.1,x.1.1.2.2.2.2.1.2.2)),()),())).bind fun (y3:((Bool×Unit)×Unit)) =>
       (F 68 LF (((x.1.1.2.2.2.2.2.1.1,(x.1.1.2.2.2.2.2.1.2.1,x.1.1.2.2.2.2.2.1.2.2)),()),())).bind fun (y4:((Bool×Unit)×Unit)) =>
       cond (not y3.1.1)
        (some (((1:Int),()),()))
        (cond (not y4.1.1)
         (some (((1:Int),()),()))
         (some (((0:Int),()),()))))
       (cond (x.1.1.1==(5:Int))
        ((F 19 xC ((x.1.1.2.2.1,()),())).bind fun (y5:((Bool×Unit)×Unit)) =>
        (F 19 xC ((x.1.1.2.2.2.1,()),())).bind fun (y6:((Bool×Unit)×Unit)) =>
        cond (not y5.1.1)
         (some (((1:Int),()),()))
         (cond (not y6.1.1)
          (some (((1:Int),()),()))
          (cond (decide (x.1.1.2.2.2.2.2.2.2.2<(0:Int)))
           (some (((1:Int),()),()))
           (cond (decide (x.1.1.2.2.2.2.2.2.2.2 > (3:Int)))
            (some (((1:Int),()),()))
            (some (((0:Int),()),()))))))
        (cond (x.1.1.1==(6:Int))
         ((F 19 xC ((x.1.1.2.2.2.1,()),())).bind fun (y7:((Bool×Unit)×Unit)) =>
         cond (not y7.1.1)
          (some (((1:Int),()),()))
          (some (((0:Int),()),())))
         (cond (x.1.1.1==(8:Int))
          ((F 29 xD ((x.1.1.2.2.2.2.2.2.2.2,()),())).bind fun (y8:((Bool×Unit)×Unit)) =>
          cond (not y8.1.1)
           (some (((1:Int),()),()))
           (some (((0:Int),()),())))
          (cond (x.1.1.1==(7:Int))
           ((F 28 vE ((x.1.1.2.2.2.2.2.2.2.1,()),())).bind fun (y9:((Bool×Unit)×Unit)) =>
           cond (not y9.1.1)
            (some (((4:Int),()),()))
            (some (((0:Int),()),())))
           (some (((0:Int),()),())))))))))):=by kernel_rfl
theorem acS(F:FT)(J:JT Ec)(x:((aj×(ai×Unit))×Unit)):bW 46 Ec Tryz.f46 F J x =
 J s5 (aM Tryz.prog 46 0) ((false,((0:Int),())),(((x.1.1,()),(((x.1.2.1.1,(x.1.2.1.2.1,x.1.2.1.2.2)),()),((([]:List ai),(([]:List ah),())),((([]:List ai),(x.1.1.2,())),())))),())):=by kernel_rfl
theorem Ow(F:FT)(J:JT Ec)(x:((Bool×(Int×Unit))×(((aj×Unit)×((ai×Unit)×(((List ai)×((List ah)×Unit))×(((List ai)×((List ah)×Unit))×Unit))))×Unit))):eW 46 0 Ec Tryz.f46 s5 F J x =
  cond (decide (x.1.2.1<(((List.length x.2.1.1.1.1):Nat):Int)))
   (cond (not x.1.1)
    (((aS x.2.1.1.1.1 x.1.2.1)).bind fun (y1:ai) =>
    (F 69 Eh ((x.2.1.2.1.1.1,(y1.1,())),())).bind fun (y2:((Int×Unit)×Unit)) =>
    cond (decide (y2.1.1<(0:Int)))
     (cond (aO (List.length x.2.1.2.2.2.1.1) (List.length ((x.2.1.2.1.1.1,(x.2.1.2.1.1.2.1,x.2.1.2.1.1.2.2))::([]:List ai))))
      (((aS x.2.1.1.1.1 x.1.2.1)).bind fun (y3:ai) =>
      cond (aO (List.length (x.2.1.2.2.2.1.1++((x.2.1.2.1.1.1,(x.2.1.2.1.1.2.1,x.2.1.2.1.1.2.2))::([]:List ai)))) (List.length ((y3.1,(y3.2.1,y3.2.2))::([]:List ai))))
       (J s5 (aM Tryz.prog 46 0) ((true,((IntKind.wrap .i64 (x.1.2.1+(1:Int))),())),(((x.2.1.1.1,()),(((x.2.1.2.1.1.1,(x.2.1.2.1.1.2.1,x.2.1.2.1.1.2.2)),()),((x.2.1.2.2.1.1,x.2.1.2.2.1.2),((((x.2.1.2.2.2.1.1++((x.2.1.2.1.1.1,(x.2.1.2.1.1.2.1,x.2.1.2.1.1.2.2))::([]:List ai)))++((y3.1,(y3.2.1,y3.2.2))::([]:List ai))),x.2.1.2.2.2.1.2),())))),())))
       (none))
      (none))
     (((aS x.2.1.1.1.1 x.1.2.1)).bind fun (y4:ai) =>
     cond (aO (List.length x.2.1.2.2.2.1.1) (List.length ((y4.1,(y4.2.1,y4.2.2))::([]:List ai))))
      (J s5 (aM Tryz.prog 46 0) ((x.1.1,((IntKind.wrap .i64 (x.1.2.1+(1:Int))),())),(((x.2.1.1.1,()),(((x.2.1.2.1.1.1,(x.2.1.2.1.1.2.1,x.2.1.2.1.1.2.2)),()),((x.2.1.2.2.1.1,x.2.1.2.2.1.2),(((x.2.1.2.2.2.1.1++((y4.1,(y4.2.1,y4.2.2))::([]:List ai))),x.2.1.2.2.2.1.2),())))),())))
      (none)))
    (((aS x.2.1.1.1.1 x.1.2.1)).bind fun (y5:ai) =>
    cond (aO (List.length x.2.1.2.2.2.1.1) (List.length ((y5.1,(y5.2.1,y5.2.2))::([]:List ai))))
     (J s5 (aM Tryz.prog 46 0) ((x.1.1,((IntKind.wrap .i64 (x.1.2.1+(1:Int))),())),(((x.2.1.1.1,()),(((x.2.1.2.1.1.1,(x.2.1.2.1.1.2.1,x.2.1.2.1.1.2.2)),()),((x.2.1.2.2.1.1,x.2.1.2.2.1.2),(((x.2.1.2.2.2.1.1++((y5.1,(y5.2.1,y5.2.2))::([]:List ai))),x.2.1.2.2.2.1.2),())))),())))
     (none)))
   (cond (not x.1.1)
    (cond (aO (List.length x.2.1.2.2.2.1.1) (List.length ((x.2.1.2.1.1.1,(x.2.1.2.1.1.2.1,x.2.1.2.1.1.2.2))::([]:List ai))))
     (some ((((x.2.1.2.2.2.1.1++((x.2.1.2.1.1.1,(x.2.1.2.1.1.2.1,x.2.1.2.1.1.2.2))::([]:List ai))),x.2.1.2.2.2.1.2.1),()),()))
     (none))
    (some (((x.2.1.2.2.2.1.1,x.2.1.2.2.2.1.2.1),()),()))):=by kernel_rfl
theorem acT(F:FT)(J:JT ou)(x:((aj×(ID×(ID×Unit)))×Unit)):bW 47 ou Tryz.f47 F J x =
 J vI (aM Tryz.prog 47 0) (((0:Int),()),(((x.1.1,()),((x.1.2.1,()),((x.1.2.2.1,()),((([]:List ai),(([]:List ah),())),((([]:List ai),(([]:List ah),())),()))))),())):=by kernel_rfl
theorem Ox(F:FT)(J:JT ou)(x:((Int×Unit)×(((aj×Unit)×((ID×Unit)×((ID×Unit)×(((List ai)×((List ah)×Unit))×(((List ai)×((List ah)×Unit))×Unit)))))×Unit))):eW 47 0 ou Tryz.f47 vI F J x =
  cond (decide (x.1.1<(((List.length x.2.1.1.1.1):Nat):Int)))
   (((aS x.2.1.1.1.1 x.1.1)).bind fun (y1:ai) =>
   cond (not ((y1.1.1==x.2.1.2.1.1.1)&&(y1.1.2==x.2.1.2.1.1.2)))
    (((aS x.2.1.1.1.1 x.1.1)).bind fun (y2:ai) =>
    cond (aO (List.length x.2.1.2.2.2.2.1.1) (List.length ((y2.1,(y2.2.1,y2.2.2))::([]:List ai))))
     (J vI (aM Tryz.prog 47 0) (((IntKind.wrap .i64 (x.1.1+(1:Int))),()),(((x.2.1.1.1,()),((x.2.1.2.1.1,()),((x.2.1.2.2.1.1,()),((x.2.1.2.2.2.1.1,x.2.1.2.2.2.1.2),(((x.2.1.2.2.2.2.1.1++((y2.1,(y2.2.1,y2.2.2))::([]:List ai))),x.2.1.2.2.2.2.1.2),()))))),())))
     (none))
    (J vI (aM Tryz.prog 47 0) (((IntKind.wrap .i64 (x.1.1+(1:Int))),()),(((x.2.1.1.1,()),((x.2.1.2.1.1,()),((x.2.1.2.2.1.1,()),((x.2.1.2.2.2.1.1,x.2.1.2.2.2.1.2),((x.2.1.2.2.2.2.1.1,x.2.1.2.2.2.2.1.2),()))))),()))))
   (J vJ (aM Tryz.prog 47 1) (((0:Int),()),(((x.2.1.1.1,()),((x.2.1.2.2.1.1,()),((x.2.1.2.2.2.1.1,x.2.1.2.2.2.1.2),((x.2.1.2.2.2.2.1.1,x.2.1.2.2.2.2.1.2),())))),()))):=by kernel_rfl
theorem Oy(F:FT)(J:JT ou)(x:((Int×Unit)×(((aj×Unit)×((ID×Unit)×(((List ai)×((List ah)×Unit))×(((List ai)×((List ah)×Unit))×Unit))))×Unit))):eW 47 1 ou Tryz.f47 vJ F J x =
  cond (decide (x.1.1<(((List.length x.2.1.1.1.2):Nat):Int)))
   (((aS x.2.1.1.1.2 x.1.1)).bind fun (y3:ah) =>
   cond (not ((y3.1.1==x.2.1.2.1.1.1)&&(y3.1.2==x.2.1.2.1.1.2)))
    (((aS x.2.1.1.1.2 x.1.1)).bind fun (y4:ah) =>
    cond (aO (List.length x.2.1.2.2.2.1.2.1) (List.length ((y4.1,y4.2)::([]:List ah))))
     (J vJ (aM Tryz.prog 47 1) (((IntKind.wrap .i64 (x.1.1+(1:Int))),()),(((x.2.1.1.1,()),((x.2.1.2.1.1,()),((x.2.1.2.2.1.1,x.2.1.2.2.1.2),((x.2.1.2.2.2.1.1,((x.2.1.2.2.2.1.2.1++((y4.1,y4.2)::([]:List ah))),())),())))),())))
     (none))
    (J vJ (aM Tryz.prog 47 1) (((IntKind.wrap .i64 (x.1.1+(1:Int))),()),(((x.2.1.1.1,()),((x.2.1.2.1.1,()),((x.2.1.2.2.1.1,x.2.1.2.2.1.2),((x.2.1.2.2.2.1.1,x.2.1.2.2.2.1.2),())))),()))))
   (some (((x.2.1.2.2.2.1.1,x.2.1.2.2.2.1.2.1),()),())):=by kernel_rfl
theorem acU(F:FT)(J:JT N6)(x:((StateT×(bY×Unit))×Unit)):bW 48 N6 Tryz.f48 F J x =
  (F 21 vD ((x.1.1.1,(x.1.2.1.2.1,())),())).bind fun (y1:((ah×(Bool×Unit))×Unit)) =>
  cond y1.1.2.1
   (some ((((([]:List ai),([]:List ah)),([]:List an)),((12:Int),())),()))
   (cond (decide ((((List.length x.1.1.1.2):Nat):Int)≥(40:Int)))
    (some ((((([]:List ai),([]:List ah)),([]:List an)),((3:Int),())),()))
    ((F 70 LG (((x.1.1.1,x.1.1.2),((x.1.2.1.2.2.2.2.1.1,(x.1.2.1.2.2.2.2.1.2.1,x.1.2.1.2.2.2.2.1.2.2)),())),())).bind fun (y2:((o8×(Int×Unit))×Unit)) =>
    (F 70 LG (((x.1.1.1,x.1.1.2),((x.1.2.1.2.2.2.2.2.1.1,(x.1.2.1.2.2.2.2.2.1.2.1,x.1.2.1.2.2.2.2.2.1.2.2)),())),())).bind fun (y3:((o8×(Int×Unit))×Unit)) =>
    (F 18 o9 ((x.1.1.1,(x.1.2.1.2.2.2.2.2.1.1,())),())).bind fun (y4:((ai×(Bool×Unit))×Unit)) =>
    cond y4.1.2.1
     (cond (((x.1.2.1.2.2.2.2.2.1.2.1.1==x.1.2.1.2.1.1)&&(x.1.2.1.2.2.2.2.2.1.2.1.2==x.1.2.1.2.1.2))&&(x.1.2.1.2.2.2.2.2.1.2.2==(0:Int)))
      (cond (y2.1.2.1 != (0:Int))
       (some ((((([]:List ai),([]:List ah)),([]:List an)),((13:Int),())),()))
       (cond (y3.1.2.1 != (0:Int))
        (some ((((([]:List ai),([]:List ah)),([]:List an)),((13:Int),())),()))
        ((F 71 xH ((x.1.1.1,((x.1.2.1.2.1,((⟨#[]⟩:ByteArray),(0:Int))),())),())).bind fun (y5:((aj×Unit)×Unit)) =>
        (F 72 xI ((y5.1.1,((y2.1.1.1,(y2.1.1.2.1,y2.1.1.2.2)),((x.1.2.1.2.1,(0:Int)),()))),())).bind fun (y6:((aj×Unit)×Unit)) =>
        (F 72 xI ((y6.1.1,((x.1.2.1.2.2.2.2.2.1.1,(x.1.2.1.2.2.2.2.2.1.2.1,x.1.2.1.2.2.2.2.2.1.2.2)),((x.1.2.1.2.1,(1:Int)),()))),())).bind fun (y7:((aj×Unit)×Unit)) =>
        (F 64 Eg ((y7.1.1,()),())).bind fun (y8:((Int×Unit)×Unit)) =>
        cond (y8.1.1 != (0:Int))
         (some ((((([]:List ai),([]:List ah)),([]:List an)),((15:Int),())),()))
         (some (((y7.1.1,x.1.1.2),((0:Int),())),())))))
      (cond (y2.1.2.1 != (0:Int))
       (some ((((([]:List ai),([]:List ah)),([]:List an)),((13:Int),())),()))
       (cond (y3.1.2.1 != (0:Int))
        (some ((((([]:List ai),([]:List ah)),([]:List an)),((13:Int),())),()))
        ((F 71 xH ((x.1.1.1,((x.1.2.1.2.1,((⟨#[]⟩:ByteArray),(0:Int))),())),())).bind fun (y9:((aj×Unit)×Unit)) =>
        (F 72 xI ((y9.1.1,((y2.1.1.1,(y2.1.1.2.1,y2.1.1.2.2)),((x.1.2.1.2.1,(0:Int)),()))),())).bind fun (oC:((aj×Unit)×Unit)) =>
        (F 72 xI ((oC.1.1,((y3.1.1.1,(y3.1.1.2.1,y3.1.1.2.2)),((x.1.2.1.2.1,(1:Int)),()))),())).bind fun (kB:((aj×Unit)×Unit)) =>
        (F 64 Eg ((kB.1.1,()),())).bind fun (mE:((Int×Unit)×Unit)) =>
        cond (mE.1.1 != (0:Int))
         (some ((((([]:List ai),([]:List ah)),([]:List an)),((15:Int),())),()))
         (some (((kB.1.1,x.1.1.2),((0:Int),())),()))))))
     (cond (y2.1.2.1 != (0:Int))
      (some ((((([]:List ai),([]:List ah)),([]:List an)),((13:Int),())),()))
      (cond (y3.1.2.1 != (0:Int))
       (some ((((([]:List ai),([]:List ah)),([]:List an)),((13:Int),())),()))
       ((F 71 xH ((x.1.1.1,((x.1.2.1.2.1,((⟨#[]⟩:ByteArray),(0:Int))),())),())).bind fun (kC:((aj×Unit)×Unit)) =>
       (F 72 xI ((kC.1.1,((y2.1.1.1,(y2.1.1.2.1,y2.1.1.2.2)),((x.1.2.1.2.1,(0:Int)),()))),())).bind fun (BI:((aj×Unit)×Unit)) =>
       (F 72 xI ((BI.1.1,((y3.1.1.1,(y3.1.1.2.1,y3.1.1.2.2)),((x.1.2.1.2.1,(1:Int)),()))),())).bind fun (r8:((aj×Unit)×Unit)) =>
       (F 64 Eg ((r8.1.1,()),())).bind fun (Q3:((Int×Unit)×Unit)) =>
       cond (Q3.1.1 != (0:Int))
        (some ((((([]:List ai),([]:List ah)),([]:List an)),((15:Int),())),()))
        (some (((r8.1.1,x.1.1.2),((0:Int),())),()))))))):=by kernel_rfl
theorem acV(F:FT)(J:JT N7)(x:((StateT×(bY×Unit))×Unit)):bW 49 N7 Tryz.f49 F J x =
  (F 21 vD ((x.1.1.1,(x.1.2.1.2.1,())),())).bind fun (y1:((ah×(Bool×Unit))×Unit)) =>
  cond (not y1.1.2.1)
   (some ((((([]:List ai),([]:List ah)),([]:List an)),((13:Int),())),()))
   ((F 74 LH ((x.1.1.1,((x.1.2.1.2.1,(0:Int)),())),())).bind fun (y2:((ae×Unit)×Unit)) =>
   (F 73 xJ ((x.1.1.2,(((x.1.2.1.2.1,(0:Int)),(y2.1.1.1,y2.1.1.2)),())),())).bind fun (y3:(((List an)×Unit)×Unit)) =>
   (F 74 LH ((x.1.1.1,((x.1.2.1.2.1,(1:Int)),())),())).bind fun (y4:((ae×Unit)×Unit)) =>
   (F 73 xJ ((y3.1.1,(((x.1.2.1.2.1,(1:Int)),(y4.1.1.1,y4.1.1.2)),())),())).bind fun (y5:(((List an)×Unit)×Unit)) =>
   (F 75 LI ((x.1.1.1,((x.1.2.1.2.1,(0:Int)),())),())).bind fun (y6:((aj×Unit)×Unit)) =>
   (F 75 LI ((y6.1.1,((x.1.2.1.2.1,(1:Int)),())),())).bind fun (y7:((aj×Unit)×Unit)) =>
   (F 47 ou ((y7.1.1,(((0:Int),(0:Int)),(x.1.2.1.2.1,()))),())).bind fun (y8:((aj×Unit)×Unit)) =>
   some (((y8.1.1,y5.1.1),((0:Int),())),())):=by kernel_rfl
theorem acW(F:FT)(J:JT N8)(x:((StateT×(bY×Unit))×Unit)):bW 50 N8 Tryz.f50 F J x =
  (F 21 vD ((x.1.1.1,(x.1.2.1.2.1,())),())).bind fun (y1:((ah×(Bool×Unit))×Unit)) =>
  cond (not y1.1.2.1)
   (some ((((([]:List ai),([]:List ah)),([]:List an)),((13:Int),())),()))
   ((F 18 o9 ((x.1.1.1,(x.1.2.1.2.2.1,())),())).bind fun (y2:((ai×(Bool×Unit))×Unit)) =>
   (F 21 vD ((x.1.1.1,(x.1.2.1.2.2.2.1,())),())).bind fun (y3:((ah×(Bool×Unit))×Unit)) =>
   cond y2.1.2.1
    (some ((((([]:List ai),([]:List ah)),([]:List an)),((12:Int),())),()))
    (cond y3.1.2.1
     (some ((((([]:List ai),([]:List ah)),([]:List an)),((12:Int),())),()))
     (cond (decide ((((List.length x.1.1.1.1):Nat):Int)≥(24:Int)))
      (some ((((([]:List ai),([]:List ah)),([]:List an)),((3:Int),())),()))
      (cond (decide ((((List.length x.1.1.1.2):Nat):Int)≥(40:Int)))
       (some ((((([]:List ai),([]:List ah)),([]:List an)),((3:Int),())),()))
       (cond ((2:Int)==(0:Int))
        (none)
        (cond ((2:Int)==(0:Int))
         (none)
         ((F 23 B3 (((x.1.2.1.2.2.2.1,(IntKind.wrap .i64 (Int.tdiv x.1.2.1.2.2.2.2.2.2.2.2 (2:Int)))),()),())).bind fun (y4:((ae×Unit)×Unit)) =>
         (F 76 F4 ((x.1.1.1,((x.1.2.1.2.1,(IntKind.wrap .i64 ((1:Int) - (Int.tmod x.1.2.1.2.2.2.2.2.2.2.2 (2:Int))))),((y4.1.1.1,y4.1.1.2),()))),())).bind fun (y5:((aj×Unit)×Unit)) =>
         (F 71 xH ((y5.1.1,((x.1.2.1.2.2.2.1,((⟨#[]⟩:ByteArray),(0:Int))),())),())).bind fun (y6:((aj×Unit)×Unit)) =>
         (F 77 ov ((((x.1.2.1.2.1,(IntKind.wrap .i64 ((1:Int) - (Int.tmod x.1.2.1.2.2.2.2.2.2.2.2 (2:Int)))))::((x.1.2.1.2.2.2.1,(IntKind.wrap .i64 (Int.tdiv x.1.2.1.2.2.2.2.2.2.2.2 (2:Int))))::([]:List ae))),()),())).bind fun (y7:(((List ae)×Unit)×Unit)) =>
         (F 46 Ec ((y6.1.1,((x.1.2.1.2.2.1,(y7.1.1,((⟨#[]⟩:ByteArray),(0:Int)))),())),())).bind fun (y8:((aj×Unit)×Unit)) =>
         some (((y8.1.1,x.1.1.2),((0:Int),())),())))))))):=by kernel_rfl
theorem acX(F:FT)(J:JT xF)(x:((StateT×(bY×Unit))×Unit)):bW 51 xF Tryz.f51 F J x =
  (F 18 o9 ((x.1.1.1,(x.1.2.1.2.1,())),())).bind fun (y1:((ai×(Bool×Unit))×Unit)) =>
  cond (not y1.1.2.1)
   (some ((((([]:List ai),([]:List ah)),([]:List an)),((13:Int),())),()))
   (cond ((((List.length y1.1.1.2.1):Nat):Int) != (2:Int))
    (some ((((([]:List ai),([]:List ah)),([]:List an)),((14:Int),())),()))
    (((aS y1.1.1.2.1 (0:Int))).bind fun (y2:ae) =>
    ((aS y1.1.1.2.1 (1:Int))).bind fun (y3:ae) =>
    cond ((y2.1.1==y3.1.1)&&(y2.1.2==y3.1.2))
     (some ((((([]:List ai),([]:List ah)),([]:List an)),((14:Int),())),()))
     (((aS y1.1.1.2.1 (0:Int))).bind fun (y4:ae) =>
     ((aS y1.1.1.2.1 (1:Int))).bind fun (y5:ae) =>
     cond ((y4.1.1==x.1.2.1.2.2.2.1.1)&&(y4.1.2==x.1.2.1.2.2.2.1.2))
      (((aS y1.1.1.2.1 (1:Int))).bind fun (y6:ae) =>
      ((aS y1.1.1.2.1 (0:Int))).bind fun (y7:ae) =>
      cond (not ((y7.1.1==x.1.2.1.2.2.2.1.1)&&(y7.1.2==x.1.2.1.2.2.2.1.2)))
       (some ((((([]:List ai),([]:List ah)),([]:List an)),((14:Int),())),()))
       ((F 23 B3 (((y7.1,y7.2),()),())).bind fun (y8:((ae×Unit)×Unit)) =>
       (F 47 ou ((x.1.1.1,(x.1.2.1.2.1,(((0:Int),(0:Int)),()))),())).bind fun (y9:((aj×Unit)×Unit)) =>
       (F 76 F4 ((y9.1.1,((y8.1.1.1,y8.1.1.2),((y6.1,y6.2),()))),())).bind fun (oC:((aj×Unit)×Unit)) =>
       (F 47 ou ((oC.1.1,(((0:Int),(0:Int)),(y7.1,()))),())).bind fun (kB:((aj×Unit)×Unit)) =>
       J lx (aM Tryz.prog 51 0) ((x.1.1.2,((0:Int),())),(((([]:List ai),(([]:List ah),(([]:List an),()))),(((y6.1,y6.2),()),(((y7.1,y7.2),()),(((y8.1.1.1,y8.1.1.2),()),((kB.1.1,()),()))))),()))))
      (cond (not ((y5.1.1==x.1.2.1.2.2.2.1.1)&&(y5.1.2==x.1.2.1.2.2.2.1.2)))
       (some ((((([]:List ai),([]:List ah)),([]:List an)),((14:Int),())),()))
       ((F 23 B3 (((y5.1,y5.2),()),())).bind fun (mE:((ae×Unit)×Unit)) =>
       (F 47 ou ((x.1.1.1,(x.1.2.1.2.1,(((0:Int),(0:Int)),()))),())).bind fun (kC:((aj×Unit)×Unit)) =>
       (F 76 F4 ((kC.1.1,((mE.1.1.1,mE.1.1.2),((y4.1,y4.2),()))),())).bind fun (BI:((aj×Unit)×Unit)) =>
       (F 47 ou ((BI.1.1,(((0:Int),(0:Int)),(y5.1,()))),())).bind fun (r8:((aj×Unit)×Unit)) =>
       J lx (aM Tryz.prog 51 0) ((x.1.1.2,((0:Int),())),(((([]:List ai),(([]:List ah),(([]:List an),()))),(((y4.1,y4.2),()),(((y5.1,y5.2),()),(((mE.1.1.1,mE.1.1.2),()),((r8.1.1,()),()))))),()))))))):=by kernel_rfl
theorem Oz(F:FT)(J:JT xF)(x:(((List an)×(Int×Unit))×((aE×((ae×Unit)×((ae×Unit)×((ae×Unit)×((aj×Unit)×Unit)))))×Unit))):eW 51 0 xF Tryz.f51 lx F J x =
  cond (decide (x.1.2.1<(2:Int)))
   (cond (((x.2.1.2.2.1.1.1.1==x.2.1.2.2.2.1.1.1.1)&&(x.2.1.2.2.1.1.1.2==x.2.1.2.2.2.1.1.1.2))&&(x.1.2.1==x.2.1.2.2.2.1.1.2))
    ((F 73 xJ ((x.1.1,(((x.2.1.2.2.1.1.1,x.1.2.1),(x.2.1.2.1.1.1,x.2.1.2.1.1.2)),())),())).bind fun (Q3:(((List an)×Unit)×Unit)) =>
    J lx (aM Tryz.prog 51 0) ((Q3.1.1,((IntKind.wrap .i64 (x.1.2.1+(1:Int))),())),(((x.2.1.1.1,(x.2.1.1.2.1,x.2.1.1.2.2)),(((x.2.1.2.1.1.1,x.2.1.2.1.1.2),()),(((x.2.1.2.2.1.1.1,x.2.1.2.2.1.1.2),()),(((x.2.1.2.2.2.1.1.1,x.2.1.2.2.2.1.1.2),()),((x.2.1.2.2.2.2.1.1,()),()))))),())))
    ((F 73 xJ ((x.1.1,(((x.2.1.2.2.1.1.1,x.1.2.1),(((0:Int),(0:Int)),(0:Int))),())),())).bind fun (RP:(((List an)×Unit)×Unit)) =>
    J lx (aM Tryz.prog 51 0) ((RP.1.1,((IntKind.wrap .i64 (x.1.2.1+(1:Int))),())),(((x.2.1.1.1,(x.2.1.1.2.1,x.2.1.1.2.2)),(((x.2.1.2.1.1.1,x.2.1.2.1.1.2),()),(((x.2.1.2.2.1.1.1,x.2.1.2.2.1.1.2),()),(((x.2.1.2.2.2.1.1.1,x.2.1.2.2.2.1.1.2),()),((x.2.1.2.2.2.2.1.1,()),()))))),()))))
   (some (((x.2.1.2.2.2.2.1.1,x.1.1),((0:Int),())),())):=by kernel_rfl
theorem acY(F:FT)(J:JT Aa)(x:((StateT×(bY×Unit))×Unit)):bW 52 Aa Tryz.f52 F J x =
 (F 38 B4 ((x.1.1.1,()),())).bind fun (y1:((((List ai)×((List ah)×Unit))×Unit)×Unit)) =>
 J qg (aM Tryz.prog 52 0) ((false,((0:Int),())),((((x.1.1.1,x.1.1.2),()),(((x.1.2.1.1,(x.1.2.1.2.1,(x.1.2.1.2.2.1,(x.1.2.1.2.2.2.1,((x.1.2.1.2.2.2.2.1.1,(x.1.2.1.2.2.2.2.1.2.1,x.1.2.1.2.2.2.2.1.2.2)),((x.1.2.1.2.2.2.2.2.1.1,(x.1.2.1.2.2.2.2.2.1.2.1,x.1.2.1.2.2.2.2.2.1.2.2)),(x.1.2.1.2.2.2.2.2.2.1,x.1.2.1.2.2.2.2.2.2.2))))))),()),((([]:List ai),(([]:List ah),(([]:List an),()))),((y1.1.1.1,y1.1.1.2),())))),())):=by kernel_rfl
theorem OC(F:FT)(J:JT Aa)(x:((Bool×(Int×Unit))×(((StateT×Unit)×((bY×Unit)×(aE×(((List ai)×((List ah)×Unit))×Unit))))×Unit))):eW 52 0 Aa Tryz.f52 qg F J x =
  cond (decide (x.1.2.1<(((List.length x.2.1.2.2.2.1.1):Nat):Int)))
   (cond (not x.2.1.2.1.1.2.2.2.2.2.2.1)
    (cond ((decide ((0:Int)≤x.1.2.1))&&(decide (x.1.2.1<(((List.length x.2.1.2.2.2.1.1):Nat):Int))))
     (((x.2.1.2.2.2.1.1)[(Int.toNat x.1.2.1)]?).bind fun (y2:ai) =>
     cond ((y2.1.1==x.2.1.2.1.1.2.1.1)&&(y2.1.2==x.2.1.2.1.1.2.1.2))
      (cond (x.2.1.2.1.1.1==(7:Int))
       (cond ((decide ((0:Int)≤x.1.2.1))&&(decide (x.1.2.1<(((List.length x.2.1.2.2.2.1.1):Nat):Int))))
        (((x.2.1.2.2.2.1.1)[(Int.toNat x.1.2.1)]?).bind fun (y3:ai) =>
        J qg (aM Tryz.prog 52 0) ((true,((IntKind.wrap .i64 (x.1.2.1+(1:Int))),())),((((x.2.1.1.1.1,x.2.1.1.1.2),()),(((x.2.1.2.1.1.1,(x.2.1.2.1.1.2.1,(x.2.1.2.1.1.2.2.1,(x.2.1.2.1.1.2.2.2.1,((x.2.1.2.1.1.2.2.2.2.1.1,(x.2.1.2.1.1.2.2.2.2.1.2.1,x.2.1.2.1.1.2.2.2.2.1.2.2)),((x.2.1.2.1.1.2.2.2.2.2.1.1,(x.2.1.2.1.1.2.2.2.2.2.1.2.1,x.2.1.2.1.1.2.2.2.2.2.1.2.2)),(x.2.1.2.1.1.2.2.2.2.2.2.1,x.2.1.2.1.1.2.2.2.2.2.2.2))))))),()),((x.2.1.2.2.1.1,(x.2.1.2.2.1.2.1,x.2.1.2.2.1.2.2)),(((List.set x.2.1.2.2.2.1.1 (Int.toNat x.1.2.1) (y3.1,(y3.2.1,(x.2.1.2.1.1.2.2.2.2.2.2.2.1,y3.2.2.2)))),x.2.1.2.2.2.1.2),())))),())))
        (none))
       (cond ((decide ((0:Int)≤x.1.2.1))&&(decide (x.1.2.1<(((List.length x.2.1.2.2.2.1.1):Nat):Int))))
        (((x.2.1.2.2.2.1.1)[(Int.toNat x.1.2.1)]?).bind fun (y4:ai) =>
        J qg (aM Tryz.prog 52 0) ((true,((IntKind.wrap .i64 (x.1.2.1+(1:Int))),())),((((x.2.1.1.1.1,x.2.1.1.1.2),()),(((x.2.1.2.1.1.1,(x.2.1.2.1.1.2.1,(x.2.1.2.1.1.2.2.1,(x.2.1.2.1.1.2.2.2.1,((x.2.1.2.1.1.2.2.2.2.1.1,(x.2.1.2.1.1.2.2.2.2.1.2.1,x.2.1.2.1.1.2.2.2.2.1.2.2)),((x.2.1.2.1.1.2.2.2.2.2.1.1,(x.2.1.2.1.1.2.2.2.2.2.1.2.1,x.2.1.2.1.1.2.2.2.2.2.1.2.2)),(x.2.1.2.1.1.2.2.2.2.2.2.1,x.2.1.2.1.1.2.2.2.2.2.2.2))))))),()),((x.2.1.2.2.1.1,(x.2.1.2.2.1.2.1,x.2.1.2.2.1.2.2)),(((List.set x.2.1.2.2.2.1.1 (Int.toNat x.1.2.1) (y4.1,(y4.2.1,(y4.2.2.1,x.2.1.2.1.1.2.2.2.2.2.2.2.2)))),x.2.1.2.2.2.1.2),())))),())))
        (none)))
      (J qg (aM Tryz.prog 52 0) ((x.1.1,((IntKind.wrap .i64 (x.1.2.1+(1:Int))),())),((((x.2.1.1.1.1,x.2.1.1.1.2),()),(((x.2.1.2.1.1.1,(x.2.1.2.1.1.2.1,(x.2.1.2.1.1.2.2.1,(x.2.1.2.1.1.2.2.2.1,((x.2.1.2.1.1.2.2.2.2.1.1,(x.2.1.2.1.1.2.2.2.2.1.2.1,x.2.1.2.1.1.2.2.2.2.1.2.2)),((x.2.1.2.1.1.2.2.2.2.2.1.1,(x.2.1.2.1.1.2.2.2.2.2.1.2.1,x.2.1.2.1.1.2.2.2.2.2.1.2.2)),(x.2.1.2.1.1.2.2.2.2.2.2.1,x.2.1.2.1.1.2.2.2.2.2.2.2))))))),()),((x.2.1.2.2.1.1,(x.2.1.2.2.1.2.1,x.2.1.2.2.1.2.2)),((x.2.1.2.2.2.1.1,x.2.1.2.2.2.1.2),())))),()))))
     (none))
    (J qg (aM Tryz.prog 52 0) ((x.1.1,((IntKind.wrap .i64 (x.1.2.1+(1:Int))),())),((((x.2.1.1.1.1,x.2.1.1.1.2),()),(((x.2.1.2.1.1.1,(x.2.1.2.1.1.2.1,(x.2.1.2.1.1.2.2.1,(x.2.1.2.1.1.2.2.2.1,((x.2.1.2.1.1.2.2.2.2.1.1,(x.2.1.2.1.1.2.2.2.2.1.2.1,x.2.1.2.1.1.2.2.2.2.1.2.2)),((x.2.1.2.1.1.2.2.2.2.2.1.1,(x.2.1.2.1.1.2.2.2.2.2.1.2.1,x.2.1.2.1.1.2.2.2.2.2.1.2.2)),(x.2.1.2.1.1.2.2.2.2.2.2.1,x.2.1.2.1.1.2.2.2.2.2.2.2))))))),()),((x.2.1.2.2.1.1,(x.2.1.2.2.1.2.1,x.2.1.2.2.1.2.2)),((x.2.1.2.2.2.1.1,x.2.1.2.2.2.1.2),())))),()))))
   (J qh (aM Tryz.prog 52 1) ((x.1.1,((0:Int),())),((((x.2.1.1.1.1,x.2.1.1.1.2),()),(((x.2.1.2.1.1.1,(x.2.1.2.1.1.2.1,(x.2.1.2.1.1.2.2.1,(x.2.1.2.1.1.2.2.2.1,((x.2.1.2.1.1.2.2.2.2.1.1,(x.2.1.2.1.1.2.2.2.2.1.2.1,x.2.1.2.1.1.2.2.2.2.1.2.2)),((x.2.1.2.1.1.2.2.2.2.2.1.1,(x.2.1.2.1.1.2.2.2.2.2.1.2.1,x.2.1.2.1.1.2.2.2.2.2.1.2.2)),(x.2.1.2.1.1.2.2.2.2.2.2.1,x.2.1.2.1.1.2.2.2.2.2.2.2))))))),()),((x.2.1.2.2.1.1,(x.2.1.2.2.1.2.1,x.2.1.2.2.1.2.2)),((x.2.1.2.2.2.1.1,x.2.1.2.2.2.1.2),())))),()))):=by kernel_rfl
theorem OD(F:FT)(J:JT Aa)(x:((Bool×(Int×Unit))×(((StateT×Unit)×((bY×Unit)×(aE×(((List ai)×((List ah)×Unit))×Unit))))×Unit))):eW 52 1 Aa Tryz.f52 qh F J x =
  cond (decide (x.1.2.1<(((List.length x.2.1.2.2.2.1.2.1):Nat):Int)))
   (cond x.2.1.2.1.1.2.2.2.2.2.2.1
    (cond ((decide ((0:Int)≤x.1.2.1))&&(decide (x.1.2.1<(((List.length x.2.1.2.2.2.1.2.1):Nat):Int))))
     (((x.2.1.2.2.2.1.2.1)[(Int.toNat x.1.2.1)]?).bind fun (y5:ah) =>
     cond ((y5.1.1==x.2.1.2.1.1.2.1.1)&&(y5.1.2==x.2.1.2.1.1.2.1.2))
      (cond (x.2.1.2.1.1.1==(7:Int))
       (cond ((decide ((0:Int)≤x.1.2.1))&&(decide (x.1.2.1<(((List.length x.2.1.2.2.2.1.2.1):Nat):Int))))
        (((x.2.1.2.2.2.1.2.1)[(Int.toNat x.1.2.1)]?).bind fun (y6:ah) =>
        J qh (aM Tryz.prog 52 1) ((true,((IntKind.wrap .i64 (x.1.2.1+(1:Int))),())),((((x.2.1.1.1.1,x.2.1.1.1.2),()),(((x.2.1.2.1.1.1,(x.2.1.2.1.1.2.1,(x.2.1.2.1.1.2.2.1,(x.2.1.2.1.1.2.2.2.1,((x.2.1.2.1.1.2.2.2.2.1.1,(x.2.1.2.1.1.2.2.2.2.1.2.1,x.2.1.2.1.1.2.2.2.2.1.2.2)),((x.2.1.2.1.1.2.2.2.2.2.1.1,(x.2.1.2.1.1.2.2.2.2.2.1.2.1,x.2.1.2.1.1.2.2.2.2.2.1.2.2)),(x.2.1.2.1.1.2.2.2.2.2.2.1,x.2.1.2.1.1.2.2.2.2.2.2.2))))))),()),((x.2.1.2.2.1.1,(x.2.1.2.2.1.2.1,x.2.1.2.2.1.2.2)),((x.2.1.2.2.2.1.1,((List.set x.2.1.2.2.2.1.2.1 (Int.toNat x.1.2.1) (y6.1,(x.2.1.2.1.1.2.2.2.2.2.2.2.1,y6.2.2))),())),())))),())))
        (none))
       (cond ((decide ((0:Int)≤x.1.2.1))&&(decide (x.1.2.1<(((List.length x.2.1.2.2.2.1.2.1):Nat):Int))))
        (((x.2.1.2.2.2.1.2.1)[(Int.toNat x.1.2.1)]?).bind fun (y7:ah) =>
        J qh (aM Tryz.prog 52 1) ((true,((IntKind.wrap .i64 (x.1.2.1+(1:Int))),())),((((x.2.1.1.1.1,x.2.1.1.1.2),()),(((x.2.1.2.1.1.1,(x.2.1.2.1.1.2.1,(x.2.1.2.1.1.2.2.1,(x.2.1.2.1.1.2.2.2.1,((x.2.1.2.1.1.2.2.2.2.1.1,(x.2.1.2.1.1.2.2.2.2.1.2.1,x.2.1.2.1.1.2.2.2.2.1.2.2)),((x.2.1.2.1.1.2.2.2.2.2.1.1,(x.2.1.2.1.1.2.2.2.2.2.1.2.1,x.2.1.2.1.1.2.2.2.2.2.1.2.2)),(x.2.1.2.1.1.2.2.2.2.2.2.1,x.2.1.2.1.1.2.2.2.2.2.2.2))))))),()),((x.2.1.2.2.1.1,(x.2.1.2.2.1.2.1,x.2.1.2.2.1.2.2)),((x.2.1.2.2.2.1.1,((List.set x.2.1.2.2.2.1.2.1 (Int.toNat x.1.2.1) (y7.1,(y7.2.1,x.2.1.2.1.1.2.2.2.2.2.2.2.2))),())),())))),())))
        (none)))
      (J qh (aM Tryz.prog 52 1) ((x.1.1,((IntKind.wrap .i64 (x.1.2.1+(1:Int))),())),((((x.2.1.1.1.1,x.2.1.1.1.2),()),(((x.2.1.2.1.1.1,(x.2.1.2.1.1.2.1,(x.2.1.2.1.1.2.2.1,(x.2.1.2.1.1.2.2.2.1,((x.2.1.2.1.1.2.2.2.2.1.1,(x.2.1.2.1.1.2.2.2.2.1.2.1,x.2.1.2.1.1.2.2.2.2.1.2.2)),((x.2.1.2.1.1.2.2.2.2.2.1.1,(x.2.1.2.1.1.2.2.2.2.2.1.2.1,x.2.1.2.1.1.2.2.2.2.2.1.2.2)),(x.2.1.2.1.1.2.2.2.2.2.2.1,x.2.1.2.1.1.2.2.2.2.2.2.2))))))),()),((x.2.1.2.2.1.1,(x.2.1.2.2.1.2.1,x.2.1.2.2.1.2.2)),((x.2.1.2.2.2.1.1,x.2.1.2.2.2.1.2),())))),()))))
     (none))
    (J qh (aM Tryz.prog 52 1) ((x.1.1,((IntKind.wrap .i64 (x.1.2.1+(1:Int))),())),((((x.2.1.1.1.1,x.2.1.1.1.2),()),(((x.2.1.2.1.1.1,(x.2.1.2.1.1.2.1,(x.2.1.2.1.1.2.2.1,(x.2.1.2.1.1.2.2.2.1,((x.2.1.2.1.1.2.2.2.2.1.1,(x.2.1.2.1.1.2.2.2.2.1.2.1,x.2.1.2.1.1.2.2.2.2.1.2.2)),((x.2.1.2.1.1.2.2.2.2.2.1.1,(x.2.1.2.1.1.2.2.2.2.2.1.2.1,x.2.1.2.1.1.2.2.2.2.2.1.2.2)),(x.2.1.2.1.1.2.2.2.2.2.2.1,x.2.1.2.1.1.2.2.2.2.2.2.2))))))),()),((x.2.1.2.2.1.1,(x.2.1.2.2.1.2.1,x.2.1.2.2.1.2.2)),((x.2.1.2.2.2.1.1,x.2.1.2.2.2.1.2),())))),()))))
   (cond (not x.1.1)
    (some ((((([]:List ai),([]:List ah)),([]:List an)),((13:Int),())),()))
    (some ((((x.2.1.2.2.2.1.1,x.2.1.2.2.2.1.2.1),x.2.1.1.1.2),((0:Int),())),()))):=by kernel_rfl
theorem acZ(F:FT)(J:JT Ed)(x:(((List an)×((List an)×Unit))×Unit)):bW 53 Ed Tryz.f53 F J x =
  cond ((((List.length x.1.1):Nat):Int) != (((List.length x.1.2.1):Nat):Int))
   (some ((false,()),()))
   (J Ax (aM Tryz.prog 53 0) ((x.1.1,(x.1.2.1,((0:Int),()))),((),()))):=by kernel_rfl
theorem OE(F:FT)(J:JT Ed)(x:(((List an)×((List an)×(Int×Unit)))×(Unit×Unit))):eW 53 0 Ed Tryz.f53 Ax F J x =
  cond (decide (x.1.2.2.1<(((List.length x.1.1):Nat):Int)))
   (((aS x.1.1 x.1.2.2.1)).bind fun (y1:an) =>
   ((aS x.1.2.1 x.1.2.2.1)).bind fun (y2:an) =>
   cond (not ((((y1.1.1.1==y2.1.1.1)&&(y1.1.1.2==y2.1.1.2))&&(y1.1.2==y2.1.2))&&(((y1.2.1.1==y2.2.1.1)&&(y1.2.1.2==y2.2.1.2))&&(y1.2.2==y2.2.2))))
    (some ((false,()),()))
    (J Ax (aM Tryz.prog 53 0) ((x.1.1,(x.1.2.1,((IntKind.wrap .i64 (x.1.2.2.1+(1:Int))),()))),((),()))))
   (some ((true,()),())):=by kernel_rfl
end Go.Vs
set_option maxRecDepth 1000000
set_option maxHeartbeats 0
namespace Go.Vs
open Go.Proofs
theorem ac0(F:FT)(J:JT LC)(x:((aj×(ae×Unit))×Unit)):bW 54 LC Tryz.f54 F J x =
  (F 20 sZ ((x.1.1,((x.1.2.1.1,x.1.2.1.2),())),())).bind fun (y1:((ID×(Bool×Unit))×Unit)) =>
  cond (not y1.1.2.1)
   (some (((((0:Int),(0:Int)),(0:Int)),(false,())),()))
   ((F 23 B3 (((x.1.2.1.1,x.1.2.1.2),()),())).bind fun (y2:((ae×Unit)×Unit)) =>
   (F 78 N9 ((x.1.1,((y2.1.1.1,y2.1.1.2),())),())).bind fun (y3:((ae×(Bool×Unit))×Unit)) =>
   some (((y3.1.1.1,y3.1.1.2),y3.1.2),())):=by kernel_rfl
theorem ac1(F:FT)(J:JT B7)(x:((aj×(ID×Unit))×Unit)):bW 55 B7 Tryz.f55 F J x =
 J Ay (aM Tryz.prog 55 0) (((0:Int),()),(((x.1.1,()),((x.1.2.1,()),())),())):=by kernel_rfl
theorem OF(F:FT)(J:JT B7)(x:((Int×Unit)×(((aj×Unit)×((ID×Unit)×Unit))×Unit))):eW 55 0 B7 Tryz.f55 Ay F J x =
  cond (decide (x.1.1<(((List.length x.2.1.1.1.1):Nat):Int)))
   (((aS x.2.1.1.1.1 x.1.1)).bind fun (y1:ai) =>
   cond ((y1.1.1==x.2.1.2.1.1.1)&&(y1.1.2==x.2.1.2.1.1.2))
    (some (x.1,()))
    (J Ay (aM Tryz.prog 55 0) (((IntKind.wrap .i64 (x.1.1+(1:Int))),()),(((x.2.1.1.1,()),((x.2.1.2.1.1,()),())),()))))
   (some (((-1:Int),()),())):=by kernel_rfl
theorem ac2(F:FT)(J:JT rB)(x:((aj×Unit)×Unit)):bW 56 rB Tryz.f56 F J x =
 J Az (aM Tryz.prog 56 0) (((0:Int),()),(((x.1.1,()),()),(([]:List Int),()))):=by kernel_rfl
theorem OG(F:FT)(J:JT rB)(x:((Int×Unit)×(((aj×Unit)×Unit)×((List Int)×Unit)))):eW 56 0 rB Tryz.f56 Az F J x =
  cond (decide (x.1.1<(((List.length x.2.1.1.1.1):Nat):Int)))
   (cond (aO (List.length x.2.2.1) (List.length (x.1.1::([]:List Int))))
    (J Az (aM Tryz.prog 56 0) (((IntKind.wrap .i64 (x.1.1+(1:Int))),()),(((x.2.1.1.1,()),()),((x.2.2.1++(x.1.1::([]:List Int))),()))))
    (none))
   (J vK (aM Tryz.prog 56 1) (((0:Int),()),(((x.2.1.1.1,()),()),x.2.2))):=by kernel_rfl
theorem OH(F:FT)(J:JT rB)(x:((Int×Unit)×(((aj×Unit)×Unit)×((List Int)×Unit)))):eW 56 1 rB Tryz.f56 vK F J x =
  cond (decide (x.1.1<(((List.length x.2.1.1.1.1):Nat):Int)))
   (J qi (aM Tryz.prog 56 2) ((x.1.1,((0:Int),())),(((x.2.1.1.1,()),()),x.2.2)))
   (some (x.2.2,())):=by kernel_rfl
theorem OI(F:FT)(J:JT rB)(x:((Int×(Int×Unit))×(((aj×Unit)×Unit)×((List Int)×Unit)))):eW 56 2 rB Tryz.f56 qi F J x =
  cond (decide (x.1.2.1<(((List.length x.2.1.1.1.2):Nat):Int)))
   (((aS x.2.1.1.1.2 x.1.2.1)).bind fun (y1:ah) =>
   (F 20 sZ ((x.2.1.1.1,((y1.1,(0:Int)),())),())).bind fun (y2:((ID×(Bool×Unit))×Unit)) =>
   ((aS x.2.1.1.1.2 x.1.2.1)).bind fun (y3:ah) =>
   (F 20 sZ ((x.2.1.1.1,((y3.1,(1:Int)),())),())).bind fun (y4:((ID×(Bool×Unit))×Unit)) =>
   (F 55 B7 ((x.2.1.1.1,(y2.1.1,())),())).bind fun (y5:((Int×Unit)×Unit)) =>
   (F 55 B7 ((x.2.1.1.1,(y4.1.1,())),())).bind fun (y6:((Int×Unit)×Unit)) =>
   cond (decide (y5.1.1≥(0:Int)))
    (cond (decide (y6.1.1≥(0:Int)))
     (cond ((decide ((0:Int)≤y5.1.1))&&(decide (y5.1.1<(((List.length x.2.2.1):Nat):Int))))
      (((x.2.2.1)[(Int.toNat y5.1.1)]?).bind fun (y7:Int) =>
      cond ((decide ((0:Int)≤y6.1.1))&&(decide (y6.1.1<(((List.length x.2.2.1):Nat):Int))))
       (((x.2.2.1)[(Int.toNat y6.1.1)]?).bind fun (y8:Int) =>
       cond ((decide ((0:Int)≤y5.1.1))&&(decide (y5.1.1<(((List.length x.2.2.1):Nat):Int))))
        (((x.2.2.1)[(Int.toNat y5.1.1)]?).bind fun (y9:Int) =>
        cond ((decide ((0:Int)≤y6.1.1))&&(decide (y6.1.1<(((List.length (List.set x.2.2.1 (Int.toNat y5.1.1) (min y7 y8:Int))):Nat):Int))))
         ((((List.set x.2.2.1 (Int.toNat y5.1.1) (min y7 y8:Int)))[(Int.toNat y6.1.1)]?).bind fun (oC:Int) =>
         J qi (aM Tryz.prog 56 2) ((x.1.1,((IntKind.wrap .i64 (x.1.2.1+(1:Int))),())),(((x.2.1.1.1,()),()),((List.set (List.set x.2.2.1 (Int.toNat y5.1.1) (min y7 y8:Int)) (Int.toNat y6.1.1) (min y7 y8:Int)),()))))
         (none))
        (none))
       (none))
      (none))
     (J qi (aM Tryz.prog 56 2) ((x.1.1,((IntKind.wrap .i64 (x.1.2.1+(1:Int))),())),(((x.2.1.1.1,()),()),x.2.2))))
    (J qi (aM Tryz.prog 56 2) ((x.1.1,((IntKind.wrap .i64 (x.1.2.1+(1:Int))),())),(((x.2.1.1.1,()),()),x.2.2))))
   (J vK (aM Tryz.prog 56 1) (((IntKind.wrap .i64 (x.1.1+(1:Int))),()),(((x.2.1.1.1,()),()),x.2.2))):=by kernel_rfl
theorem ac3(F:FT)(J:JT Ee)(x:(((List ae)×((List ae)×Unit))×Unit)):bW 57 Ee Tryz.f57 F J x =
  cond ((((List.length x.1.1):Nat):Int) != (((List.length x.1.2.1):Nat):Int))
   (some ((false,()),()))
   (J AA (aM Tryz.prog 57 0) ((x.1.1,(x.1.2.1,((0:Int),()))),((),()))):=by kernel_rfl
theorem OJ(F:FT)(J:JT Ee)(x:(((List ae)×((List ae)×(Int×Unit)))×(Unit×Unit))):eW 57 0 Ee Tryz.f57 AA F J x =
  cond (decide (x.1.2.2.1<(((List.length x.1.1):Nat):Int)))
   (((aS x.1.1 x.1.2.2.1)).bind fun (y1:ae) =>
   ((aS x.1.2.1 x.1.2.2.1)).bind fun (y2:ae) =>
   cond (not (((y1.1.1==y2.1.1)&&(y1.1.2==y2.1.2))&&(y1.2==y2.2)))
    (some ((false,()),()))
    (J AA (aM Tryz.prog 57 0) ((x.1.1,(x.1.2.1,((IntKind.wrap .i64 (x.1.2.2.1+(1:Int))),()))),((),()))))
   (some ((true,()),())):=by kernel_rfl
theorem ac4(F:FT)(J:JT IK)(x:(((List bY)×Unit)×Unit)):bW 58 IK Tryz.f58 F J x =
  cond ((((List.length x.1.1):Nat):Int)==(0:Int))
   (some (((3:Int),()),()))
   (cond (decide ((((List.length x.1.1):Nat):Int) > (6:Int)))
    (some (((3:Int),()),()))
    (J Ej (aM Tryz.prog 58 0) ((x.1.1,((((List.length x.1.1):Nat):Int),((0:Int),()))),((),())))):=by kernel_rfl
theorem OL(F:FT)(J:JT IK)(x:(((List bY)×(Int×(Int×Unit)))×(Unit×Unit))):eW 58 0 IK Tryz.f58 Ej F J x =
  cond (decide (x.1.2.2.1<x.1.2.1))
   (((aS x.1.1 x.1.2.2.1)).bind fun (y1:bY) =>
   (F 43 B6 (((y1.1,(y1.2.1,(y1.2.2.1,(y1.2.2.2.1,((y1.2.2.2.2.1.1,(y1.2.2.2.2.1.2.1,y1.2.2.2.2.1.2.2)),((y1.2.2.2.2.2.1.1,(y1.2.2.2.2.2.1.2.1,y1.2.2.2.2.2.1.2.2)),(y1.2.2.2.2.2.2.1,y1.2.2.2.2.2.2.2))))))),()),())).bind fun (y2:((Int×Unit)×Unit)) =>
   cond (y2.1.1 != (0:Int))
    (some (y2.1,()))
    (J Ej (aM Tryz.prog 58 0) ((x.1.1,(x.1.2.1,((IntKind.wrap .i64 (x.1.2.2.1+(1:Int))),()))),((),()))))
   (some (((0:Int),()),())):=by kernel_rfl
theorem ac5(F:FT)(J:JT Ef)(x:((aj×Unit)×Unit)):bW 59 Ef Tryz.f59 F J x =
 J AB (aM Tryz.prog 59 0) (((0:Int),()),(((x.1.1,()),()),(([]:List ae),()))):=by kernel_rfl
theorem OM(F:FT)(J:JT Ef)(x:((Int×Unit)×(((aj×Unit)×Unit)×((List ae)×Unit)))):eW 59 0 Ef Tryz.f59 AB F J x =
  cond (decide (x.1.1<(((List.length x.2.1.1.1.2):Nat):Int)))
   (((aS x.2.1.1.1.2 x.1.1)).bind fun (y1:ah) =>
   ((aS x.2.1.1.1.2 x.1.1)).bind fun (y2:ah) =>
   cond (aO (List.length x.2.2.1) (List.length ((y1.1,(0:Int))::((y2.1,(1:Int))::([]:List ae)))))
    (J AB (aM Tryz.prog 59 0) (((IntKind.wrap .i64 (x.1.1+(1:Int))),()),(((x.2.1.1.1,()),()),((x.2.2.1++((y1.1,(0:Int))::((y2.1,(1:Int))::([]:List ae)))),()))))
    (none))
   (some (x.2.2,())):=by kernel_rfl
theorem ac6(F:FT)(J:JT F2)(x:((aj×Unit)×Unit)):bW 60 F2 Tryz.f60 F J x =
 (F 79 LJ ((x.1.1.1,()),())).bind fun (y1:(((List ai)×Unit)×Unit)) =>
 (F 80 LK ((x.1.1.2,()),())).bind fun (y2:(((List ah)×Unit)×Unit)) =>
 J AD (aM Tryz.prog 60 0) (((((List.length y1.1.1):Nat):Int),((0:Int),())),(((([]:List ai),(([]:List ah),())),((y1.1.1,y2.1),())),())):=by kernel_rfl
theorem ON(F:FT)(J:JT F2)(x:((Int×(Int×Unit))×((((List ai)×((List ah)×Unit))×(((List ai)×((List ah)×Unit))×Unit))×Unit))):eW 60 0 F2 Tryz.f60 AD F J x =
  cond (decide (x.1.2.1<x.1.1))
   (cond ((decide ((0:Int)≤x.1.2.1))&&(decide (x.1.2.1<(((List.length x.2.1.2.1.1):Nat):Int))))
    (((x.2.1.2.1.1)[(Int.toNat x.1.2.1)]?).bind fun (y3:ai) =>
    (F 81 xK ((y3.2.1,()),())).bind fun (y4:(((List ae)×Unit)×Unit)) =>
    cond ((decide ((0:Int)≤x.1.2.1))&&(decide (x.1.2.1<(((List.length x.2.1.2.1.1):Nat):Int))))
     (((x.2.1.2.1.1)[(Int.toNat x.1.2.1)]?).bind fun (y5:ai) =>
     J AD (aM Tryz.prog 60 0) ((x.1.1,((IntKind.wrap .i64 (x.1.2.1+(1:Int))),())),(((x.2.1.1.1,x.2.1.1.2),(((List.set x.2.1.2.1.1 (Int.toNat x.1.2.1) (y5.1,(y4.1.1,y5.2.2))),x.2.1.2.1.2),())),())))
     (none))
    (none))
   (some (((x.2.1.2.1.1,x.2.1.2.1.2),()),())):=by kernel_rfl
theorem ac7(F:FT)(J:JT IL)(x:(((List an)×Unit)×Unit)):bW 61 IL Tryz.f61 F J x =
  cond (List.isEmpty x.1.1)
   (ry 2 fun (j1:Nat) =>
   cond ((j1==0)==true)
    (some ((([]:List an),()),()))
    (cond (aO (List.length ([]:List an)) (List.length x.1.1))
     (some (((([]:List an)++x.1.1),()),()))
     (none)))
   (cond (aO (List.length ([]:List an)) (List.length x.1.1))
    (some (((([]:List an)++x.1.1),()),()))
    (none)):=by kernel_rfl
theorem ac8(F:FT)(J:JT IM)(x:((ae×(ae×Unit))×Unit)):bW 62 IM Tryz.f62 F J x =
  (F 69 Eh ((x.1.1.1,(x.1.2.1.1,())),())).bind fun (y1:((Int×Unit)×Unit)) =>
  cond (y1.1.1 != (0:Int))
   (some (y1.1,()))
   (cond (decide (x.1.1.2<x.1.2.1.2))
    (some (((-1:Int),()),()))
    (cond (decide (x.1.1.2 > x.1.2.1.2))
     (some (((1:Int),()),()))
     (some (((0:Int),()),())))):=by kernel_rfl
theorem ac9(F:FT)(J:JT pe)(x:((aj×Unit)×Unit)):bW 63 pe Tryz.f63 F J x =
  cond (decide ((((List.length x.1.1.1):Nat):Int) > (24:Int)))
   (some (((3:Int),()),()))
   (cond (decide ((((List.length x.1.1.2):Nat):Int) > (40:Int)))
    (some (((3:Int),()),()))
    ((F 82 xL ((x.1.1,()),())).bind fun (y1:(((List ID)×Unit)×Unit)) =>
    cond (aX (List.length y1.1.1) (0:Int) (((List.length x.1.1.1):Nat):Int))
     ((F 83 uh (((cut y1.1.1 (0:Int) (((List.length x.1.1.1):Nat):Int)),()),())).bind fun (y2:((Bool×Unit)×Unit)) =>
     cond (aX (List.length y1.1.1) (((List.length x.1.1.1):Nat):Int) (((List.length y1.1.1):Nat):Int))
      ((F 83 uh (((cut y1.1.1 (((List.length x.1.1.1):Nat):Int) (((List.length y1.1.1):Nat):Int)),()),())).bind fun (y3:((Bool×Unit)×Unit)) =>
      cond (not y2.1.1)
       (some (((10:Int),()),()))
       (cond (not y3.1.1)
        (some (((10:Int),()),()))
        ((F 84 kA ((x.1.1,()),())).bind fun (y4:((Bool×Unit)×Unit)) =>
        cond (not y4.1.1)
         (some (((10:Int),()),()))
         (J oy (aM Tryz.prog 63 0) (((((List.length x.1.1.1):Nat):Int),(true,(true,((0:Int),())))),(((x.1.1,()),()),()))))))
      (none))
     (none))):=by kernel_rfl
theorem OO(F:FT)(J:JT pe)(x:((Int×(Bool×(Bool×(Int×Unit))))×(((aj×Unit)×Unit)×Unit))):eW 63 0 pe Tryz.f63 oy F J x =
  cond (decide (x.1.2.2.2.1<x.1.1))
   (cond x.1.2.1
    (((aS x.2.1.1.1.1 x.1.2.2.2.1)).bind fun (y5:ai) =>
    (F 28 vE ((y5.2.2.1,()),())).bind fun (y6:((Bool×Unit)×Unit)) =>
    cond x.1.2.2.1
     (((aS x.2.1.1.1.1 x.1.2.2.2.1)).bind fun (y7:ai) =>
     (F 29 xD ((y7.2.2.2,()),())).bind fun (y8:((Bool×Unit)×Unit)) =>
     J oy (aM Tryz.prog 63 0) ((x.1.1,(y6.1.1,(y8.1.1,((IntKind.wrap .i64 (x.1.2.2.2.1+(1:Int))),())))),(((x.2.1.1.1,()),()),())))
     (J oy (aM Tryz.prog 63 0) ((x.1.1,(y6.1.1,(false,((IntKind.wrap .i64 (x.1.2.2.2.1+(1:Int))),())))),(((x.2.1.1.1,()),()),()))))
    (cond x.1.2.2.1
     (((aS x.2.1.1.1.1 x.1.2.2.2.1)).bind fun (y9:ai) =>
     (F 29 xD ((y9.2.2.2,()),())).bind fun (oC:((Bool×Unit)×Unit)) =>
     J oy (aM Tryz.prog 63 0) ((x.1.1,(false,(oC.1.1,((IntKind.wrap .i64 (x.1.2.2.2.1+(1:Int))),())))),(((x.2.1.1.1,()),()),())))
     (J oy (aM Tryz.prog 63 0) ((x.1.1,(false,(false,((IntKind.wrap .i64 (x.1.2.2.2.1+(1:Int))),())))),(((x.2.1.1.1,()),()),())))))
   (J oz (aM Tryz.prog 63 1) ((x.1.2.1,(x.1.2.2.1,((0:Int),()))),(((x.2.1.1.1,()),()),()))):=by kernel_rfl
theorem OP(F:FT)(J:JT pe)(x:((Bool×(Bool×(Int×Unit)))×(((aj×Unit)×Unit)×Unit))):eW 63 1 pe Tryz.f63 oz F J x =
  cond (decide (x.1.2.2.1<(((List.length x.2.1.1.1.2):Nat):Int)))
   (cond x.1.1
    (((aS x.2.1.1.1.2 x.1.2.2.1)).bind fun (kB:ah) =>
    (F 28 vE ((kB.2.1,()),())).bind fun (mE:((Bool×Unit)×Unit)) =>
    cond x.1.2.1
     (((aS x.2.1.1.1.2 x.1.2.2.1)).bind fun (kC:ah) =>
     (F 29 xD ((kC.2.2,()),())).bind fun (BI:((Bool×Unit)×Unit)) =>
     J oz (aM Tryz.prog 63 1) ((mE.1.1,(BI.1.1,((IntKind.wrap .i64 (x.1.2.2.1+(1:Int))),()))),(((x.2.1.1.1,()),()),())))
     (J oz (aM Tryz.prog 63 1) ((mE.1.1,(false,((IntKind.wrap .i64 (x.1.2.2.1+(1:Int))),()))),(((x.2.1.1.1,()),()),()))))
    (cond x.1.2.1
     (((aS x.2.1.1.1.2 x.1.2.2.1)).bind fun (r8:ah) =>
     (F 29 xD ((r8.2.2,()),())).bind fun (Q3:((Bool×Unit)×Unit)) =>
     J oz (aM Tryz.prog 63 1) ((false,(Q3.1.1,((IntKind.wrap .i64 (x.1.2.2.1+(1:Int))),()))),(((x.2.1.1.1,()),()),())))
     (J oz (aM Tryz.prog 63 1) ((false,(false,((IntKind.wrap .i64 (x.1.2.2.1+(1:Int))),()))),(((x.2.1.1.1,()),()),())))))
   (cond (not x.1.1)
    (some (((4:Int),()),()))
    (cond (not x.1.2.1)
     (some (((1:Int),()),()))
     (some (((0:Int),()),())))):=by kernel_rfl
theorem ada(F:FT)(J:JT Eg)(x:((aj×Unit)×Unit)):bW 64 Eg Tryz.f64 F J x =
  (F 85 F5 ((x.1.1,()),())).bind fun (y1:((Int×(Int×(Int×(Int×Unit))))×Unit)) =>
  cond ((2:Int)==(0:Int))
   (none)
   (some (((IntKind.wrap .i64 (Int.tdiv (IntKind.wrap .i64 ((IntKind.wrap .i64 ((IntKind.wrap .i64 ((IntKind.wrap .i64 ((2:Int) * y1.1.2.2.2.1)) - y1.1.1))+y1.1.2.1)) - y1.1.2.2.1)) (2:Int))),()),())):=by kernel_rfl
theorem UL(F:FT)(J:JT F3)(x:((bY×Unit)×Unit)):bW 65 F3 Tryz.f65 F J x =
  (F 86 qc ((x.1.1.2.1,()),())).bind fun (y1:((Bool×Unit)×Unit)) =>
  cond (x.1.1.1==(1:Int))
   (cond (x.1.1.1==(1:Int))
    (cond (not y1.1.1)
     (some (((x.1.1.1,(x.1.1.2.1,(((0:Int),(0:Int)),(((0:Int),(0:Int)),((((0:Int),(0:Int)),(((0:Int),(0:Int)),(0:Int))),((((0:Int),(0:Int)),(((0:Int),(0:Int)),(0:Int))),(false,((⟨#[]⟩:ByteArray),(0:Int))))))))),((1:Int),())),()))
     (some (((x.1.1.1,(x.1.1.2.1,(((0:Int),(0:Int)),(((0:Int),(0:Int)),((((0:Int),(0:Int)),(((0:Int),(0:Int)),(0:Int))),((((0:Int),(0:Int)),(((0:Int),(0:Int)),(0:Int))),(false,((⟨#[]⟩:ByteArray),(0:Int))))))))),((0:Int),())),())))
    (cond (x.1.1.1==(6:Int))
     (cond y1.1.1
      ((F 86 qc ((x.1.1.2.2.2.1,()),())).bind fun (y2:((Bool×Unit)×Unit)) =>
      cond (not y2.1.1)
       (some (((x.1.1.1,(x.1.1.2.1,(((0:Int),(0:Int)),(x.1.1.2.2.2.1,((((0:Int),(0:Int)),(((0:Int),(0:Int)),(0:Int))),((((0:Int),(0:Int)),(((0:Int),(0:Int)),(0:Int))),(false,((⟨#[]⟩:ByteArray),(0:Int))))))))),((1:Int),())),()))
       (some (((x.1.1.1,(x.1.1.2.1,(((0:Int),(0:Int)),(x.1.1.2.2.2.1,((((0:Int),(0:Int)),(((0:Int),(0:Int)),(0:Int))),((((0:Int),(0:Int)),(((0:Int),(0:Int)),(0:Int))),(false,((⟨#[]⟩:ByteArray),(0:Int))))))))),((0:Int),())),())))
      (some (((x.1.1.1,(x.1.1.2.1,(((0:Int),(0:Int)),(x.1.1.2.2.2.1,((((0:Int),(0:Int)),(((0:Int),(0:Int)),(0:Int))),((((0:Int),(0:Int)),(((0:Int),(0:Int)),(0:Int))),(false,((⟨#[]⟩:ByteArray),(0:Int))))))))),((1:Int),())),())))
     (cond (x.1.1.1==(3:Int))
      (cond y1.1.1
       ((F 87 B8 (((x.1.1.2.2.2.2.1.1,(x.1.1.2.2.2.2.1.2.1,x.1.1.2.2.2.2.1.2.2)),()),())).bind fun (y3:((Bool×Unit)×Unit)) =>
       cond y3.1.1
        ((F 87 B8 (((x.1.1.2.2.2.2.2.1.1,(x.1.1.2.2.2.2.2.1.2.1,x.1.1.2.2.2.2.2.1.2.2)),()),())).bind fun (y4:((Bool×Unit)×Unit)) =>
        cond (not y4.1.1)
         (some (((x.1.1.1,(x.1.1.2.1,(((0:Int),(0:Int)),(((0:Int),(0:Int)),((x.1.1.2.2.2.2.1.1,(x.1.1.2.2.2.2.1.2.1,x.1.1.2.2.2.2.1.2.2)),((x.1.1.2.2.2.2.2.1.1,(x.1.1.2.2.2.2.2.1.2.1,x.1.1.2.2.2.2.2.1.2.2)),(false,((⟨#[]⟩:ByteArray),(0:Int))))))))),((1:Int),())),()))
         (some (((x.1.1.1,(x.1.1.2.1,(((0:Int),(0:Int)),(((0:Int),(0:Int)),((x.1.1.2.2.2.2.1.1,(x.1.1.2.2.2.2.1.2.1,x.1.1.2.2.2.2.1.2.2)),((x.1.1.2.2.2.2.2.1.1,(x.1.1.2.2.2.2.2.1.2.1,x.1.1.2.2.2.2.2.1.2.2)),(false,((⟨#[]⟩:ByteArray),(0:Int))))))))),((0:Int),())),())))
        (some (((x.1.1.1,(x.1.1.2.1,(((0:Int),(0:Int)),(((0:Int),(0:Int)),((x.1.1.2.2.2.2.1.1,(x.1.1.2.2.2.2.1.2.1,x.1.1.2.2.2.2.1.2.2)),((x.1.1.2.2.2.2.2.1.1,(x.1.1.2.2.2.2.2.1.2.1,x.1.1.2.2.2.2.2.1.2.2)),(false,((⟨#[]⟩:ByteArray),(0:Int))))))))),((1:Int),())),())))
       (some (((x.1.1.1,(x.1.1.2.1,(((0:Int),(0:Int)),(((0:Int),(0:Int)),((x.1.1.2.2.2.2.1.1,(x.1.1.2.2.2.2.1.2.1,x.1.1.2.2.2.2.1.2.2)),((x.1.1.2.2.2.2.2.1.1,(x.1.1.2.2.2.2.2.1.2.1,x.1.1.2.2.2.2.2.1.2.2)),(false,((⟨#[]⟩:ByteArray),(0:Int))))))))),((1:Int),())),())))
      (cond (x.1.1.1==(5:Int))
       (cond y1.1.1
        ((F 86 qc ((x.1.1.2.2.1,()),())).bind fun (y5:((Bool×Unit)×Unit)) =>
        cond y5.1.1
         ((F 86 qc ((x.1.1.2.2.2.1,()),())).bind fun (y6:((Bool×Unit)×Unit)) =>
         cond y6.1.1
          (cond (not ((eF .andNot .i64 x.1.1.2.2.2.2.2.2.2.2 (3:Int))==(0:Int)))
           (some (((x.1.1.1,(x.1.1.2.1,(x.1.1.2.2.1,(x.1.1.2.2.2.1,((((0:Int),(0:Int)),(((0:Int),(0:Int)),(0:Int))),((((0:Int),(0:Int)),(((0:Int),(0:Int)),(0:Int))),(false,((⟨#[]⟩:ByteArray),x.1.1.2.2.2.2.2.2.2.2)))))))),((1:Int),())),()))
           (some (((x.1.1.1,(x.1.1.2.1,(x.1.1.2.2.1,(x.1.1.2.2.2.1,((((0:Int),(0:Int)),(((0:Int),(0:Int)),(0:Int))),((((0:Int),(0:Int)),(((0:Int),(0:Int)),(0:Int))),(false,((⟨#[]⟩:ByteArray),x.1.1.2.2.2.2.2.2.2.2)))))))),((0:Int),())),())))
          (some (((x.1.1.1,(x.1.1.2.1,(x.1.1.2.2.1,(x.1.1.2.2.2.1,((((0:Int),(0:Int)),(((0:Int),(0:Int)),(0:Int))),((((0:Int),(0:Int)),(((0:Int),(0:Int)),(0:Int))),(false,((⟨#[]⟩:ByteArray),x.1.1.2.2.2.2.2.2.2.2)))))))),((1:Int),())),())))
         (some (((x.1.1.1,(x.1.1.2.1,(x.1.1.2.2.1,(x.1.1.2.2.2.1,((((0:Int),(0:Int)),(((0:Int),(0:Int)),(0:Int))),((((0:Int),(0:Int)),(((0:Int),(0:Int)),(0:Int))),(false,((⟨#[]⟩:ByteArray),x.1.1.2.2.2.2.2.2.2.2)))))))),((1:Int),())),())))
        (some (((x.1.1.1,(x.1.1.2.1,(x.1.1.2.2.1,(x.1.1.2.2.2.1,((((0:Int),(0:Int)),(((0:Int),(0:Int)),(0:Int))),((((0:Int),(0:Int)),(((0:Int),(0:Int)),(0:Int))),(false,((⟨#[]⟩:ByteArray),x.1.1.2.2.2.2.2.2.2.2)))))))),((1:Int),())),())))
       (cond (x.1.1.1==(7:Int))
        ((F 88 vF ((x.1.1.2.2.2.2.2.2.2.1,()),())).bind fun (y7:((Bool×Unit)×Unit)) =>
        cond (not y7.1.1)
         (cond (not y1.1.1)
          (some (((x.1.1.1,(x.1.1.2.1,(((0:Int),(0:Int)),(((0:Int),(0:Int)),((((0:Int),(0:Int)),(((0:Int),(0:Int)),(0:Int))),((((0:Int),(0:Int)),(((0:Int),(0:Int)),(0:Int))),(x.1.1.2.2.2.2.2.2.1,(x.1.1.2.2.2.2.2.2.2.1,(0:Int))))))))),((1:Int),())),()))
          (some (((x.1.1.1,(x.1.1.2.1,(((0:Int),(0:Int)),(((0:Int),(0:Int)),((((0:Int),(0:Int)),(((0:Int),(0:Int)),(0:Int))),((((0:Int),(0:Int)),(((0:Int),(0:Int)),(0:Int))),(x.1.1.2.2.2.2.2.2.1,(x.1.1.2.2.2.2.2.2.2.1,(0:Int))))))))),((4:Int),())),())))
         (cond (not y1.1.1)
          (some (((x.1.1.1,(x.1.1.2.1,(((0:Int),(0:Int)),(((0:Int),(0:Int)),((((0:Int),(0:Int)),(((0:Int),(0:Int)),(0:Int))),((((0:Int),(0:Int)),(((0:Int),(0:Int)),(0:Int))),(x.1.1.2.2.2.2.2.2.1,(x.1.1.2.2.2.2.2.2.2.1,(0:Int))))))))),((1:Int),())),()))
          (some (((x.1.1.1,(x.1.1.2.1,(((0:Int),(0:Int)),(((0:Int),(0:Int)),((((0:Int),(0:Int)),(((0:Int),(0:Int)),(0:Int))),((((0:Int),(0:Int)),(((0:Int),(0:Int)),(0:Int))),(x.1.1.2.2.2.2.2.2.1,(x.1.1.2.2.2.2.2.2.2.1,(0:Int))))))))),((0:Int),())),()))))
        (cond (x.1.1.1==(8:Int))
         (cond y1.1.1
          ((F 89 F6 ((x.1.1.2.2.2.2.2.2.2.2,()),())).bind fun (y8:((Bool×Unit)×Unit)) =>
          cond (not y8.1.1)
           (some (((x.1.1.1,(x.1.1.2.1,(((0:Int),(0:Int)),(((0:Int),(0:Int)),((((0:Int),(0:Int)),(((0:Int),(0:Int)),(0:Int))),((((0:Int),(0:Int)),(((0:Int),(0:Int)),(0:Int))),(x.1.1.2.2.2.2.2.2.1,((⟨#[]⟩:ByteArray),x.1.1.2.2.2.2.2.2.2.2)))))))),((1:Int),())),()))
           (some (((x.1.1.1,(x.1.1.2.1,(((0:Int),(0:Int)),(((0:Int),(0:Int)),((((0:Int),(0:Int)),(((0:Int),(0:Int)),(0:Int))),((((0:Int),(0:Int)),(((0:Int),(0:Int)),(0:Int))),(x.1.1.2.2.2.2.2.2.1,((⟨#[]⟩:ByteArray),x.1.1.2.2.2.2.2.2.2.2)))))))),((0:Int),())),())))
          (some (((x.1.1.1,(x.1.1.2.1,(((0:Int),(0:Int)),(((0:Int),(0:Int)),((((0:Int),(0:Int)),(((0:Int),(0:Int)),(0:Int))),((((0:Int),(0:Int)),(((0:Int),(0:Int)),(0:Int))),(x.1.1.2.2.2.2.2.2.1,((⟨#[]⟩:ByteArray),x.1.1.2.2.2.2.2.2.2.2)))))))),((1:Int),())),())))
         (some (((x.1.1.1,(x.1.1.2.1,(((0:Int),(0:Int)),(((0:Int),(0:Int)),((((0:Int),(0:Int)),(((0:Int),(0:Int)),(0:Int))),((((0:Int),(0:Int)),(((0:Int),(0:Int)),(0:Int))),(false,((⟨#[]⟩:ByteArray),(0:Int))))))))),((1:Int),())),()))))))))
   (cond (x.1.1.1==(2:Int))
    (cond (x.1.1.1==(2:Int))
     (cond (not y1.1.1)
      (some (((x.1.1.1,(x.1.1.2.1,(((0:Int),(0:Int)),(((0:Int),(0:Int)),((((0:Int),(0:Int)),(((0:Int),(0:Int)),(0:Int))),((((0:Int),(0:Int)),(((0:Int),(0:Int)),(0:Int))),(false,((⟨#[]⟩:ByteArray),(0:Int))))))))),((1:Int),())),()))
      (some (((x.1.1.1,(x.1.1.2.1,(((0:Int),(0:Int)),(((0:Int),(0:Int)),((((0:Int),(0:Int)),(((0:Int),(0:Int)),(0:Int))),((((0:Int),(0:Int)),(((0:Int),(0:Int)),(0:Int))),(false,((⟨#[]⟩:ByteArray),(0:Int))))))))),((0:Int),())),())))
     (cond (x.1.1.1==(6:Int))
      (cond y1.1.1
       ((F 86 qc ((x.1.1.2.2.2.1,()),())).bind fun (y9:((Bool×Unit)×Unit)) =>
       cond (not y9.1.1)
        (some (((x.1.1.1,(x.1.1.2.1,(((0:Int),(0:Int)),(x.1.1.2.2.2.1,((((0:Int),(0:Int)),(((0:Int),(0:Int)),(0:Int))),((((0:Int),(0:Int)),(((0:Int),(0:Int)),(0:Int))),(false,((⟨#[]⟩:ByteArray),(0:Int))))))))),((1:Int),())),()))
        (some (((x.1.1.1,(x.1.1.2.1,(((0:Int),(0:Int)),(x.1.1.2.2.2.1,((((0:Int),(0:Int)),(((0:Int),(0:Int)),(0:Int))),((((0:Int),(0:Int)),(((0:Int),(0:Int)),(0:Int))),(false,((⟨#[]⟩:ByteArray),(0:Int))))))))),((0:Int),())),())))
       (some (((x.1.1.1,(x.1.1.2.1,(((0:Int),(0:Int)),(x.1.1.2.2.2.1,((((0:Int),(0:Int)),(((0:Int),(0:Int)),(0:Int))),((((0:Int),(0:Int)),(((0:Int),(0:Int)),(0:Int))),(false,((⟨#[]⟩:ByteArray),(0:Int))))))))),((1:Int),())),())))
      (cond (x.1.1.1==(3:Int))
       (cond y1.1.1
        ((F 87 B8 (((x.1.1.2.2.2.2.1.1,(x.1.1.2.2.2.2.1.2.1,x.1.1.2.2.2.2.1.2.2)),()),())).bind fun (oC:((Bool×Unit)×Unit)) =>
        cond oC.1.1
         ((F 87 B8 (((x.1.1.2.2.2.2.2.1.1,(x.1.1.2.2.2.2.2.1.2.1,x.1.1.2.2.2.2.2.1.2.2)),()),())).bind fun (kB:((Bool×Unit)×Unit)) =>
         cond (not kB.1.1)
          (some (((x.1.1.1,(x.1.1.2.1,(((0:Int),(0:Int)),(((0:Int),(0:Int)),((x.1.1.2.2.2.2.1.1,(x.1.1.2.2.2.2.1.2.1,x.1.1.2.2.2.2.1.2.2)),((x.1.1.2.2.2.2.2.1.1,(x.1.1.2.2.2.2.2.1.2.1,x.1.1.2.2.2.2.2.1.2.2)),(false,((⟨#[]⟩:ByteArray),(0:Int))))))))),((1:Int),())),()))
          (some (((x.1.1.1,(x.1.1.2.1,(((0:Int),(0:Int)),(((0:Int),(0:Int)),((x.1.1.2.2.2.2.1.1,(x.1.1.2.2.2.2.1.2.1,x.1.1.2.2.2.2.1.2.2)),((x.1.1.2.2.2.2.2.1.1,(x.1.1.2.2.2.2.2.1.2.1,x.1.1.2.2.2.2.2.1.2.2)),(false,((⟨#[]⟩:ByteArray),(0:Int))))))))),((0:Int),())),())))
         (some (((x.1.1.1,(x.1.1.2.1,(((0:Int),(0:Int)),(((0:Int),(0:Int)),((x.1.1.2.2.2.2.1.1,(x.1.1.2.2.2.2.1.2.1,x.1.1.2.2.2.2.1.2.2)),((x.1.1.2.2.2.2.2.1.1,(x.1.1.2.2.2.2.2.1.2.1,x.1.1.2.2.2.2.2.1.2.2)),(false,((⟨#[]⟩:ByteArray),(0:Int))))))))),((1:Int),())),())))
        (some (((x.1.1.1,(x.1.1.2.1,(((0:Int),(0:Int)),(((0:Int),(0:Int)),((x.1.1.2.2.2.2.1.1,(x.1.1.2.2.2.2.1.2.1,x.1.1.2.2.2.2.1.2.2)),((x.1.1.2.2.2.2.2.1.1,(x.1.1.2.2.2.2.2.1.2.1,x.1.1.2.2.2.2.2.1.2.2)),(false,((⟨#[]⟩:ByteArray),(0:Int))))))))),((1:Int),())),())))
       (cond (x.1.1.1==(5:Int))
        (cond y1.1.1
         ((F 86 qc ((x.1.1.2.2.1,()),())).bind fun (mE:((Bool×Unit)×Unit)) =>
         cond mE.1.1
          ((F 86 qc ((x.1.1.2.2.2.1,()),())).bind fun (kC:((Bool×Unit)×Unit)) =>
          cond kC.1.1
           (cond (not ((eF .andNot .i64 x.1.1.2.2.2.2.2.2.2.2 (3:Int))==(0:Int)))
            (some (((x.1.1.1,(x.1.1.2.1,(x.1.1.2.2.1,(x.1.1.2.2.2.1,((((0:Int),(0:Int)),(((0:Int),(0:Int)),(0:Int))),((((0:Int),(0:Int)),(((0:Int),(0:Int)),(0:Int))),(false,((⟨#[]⟩:ByteArray),x.1.1.2.2.2.2.2.2.2.2)))))))),((1:Int),())),()))
            (some (((x.1.1.1,(x.1.1.2.1,(x.1.1.2.2.1,(x.1.1.2.2.2.1,((((0:Int),(0:Int)),(((0:Int),(0:Int)),(0:Int))),((((0:Int),(0:Int)),(((0:Int),(0:Int)),(0:Int))),(false,((⟨#[]⟩:ByteArray),x.1.1.2.2.2.2.2.2.2.2)))))))),((0:Int),())),())))
           (some (((x.1.1.1,(x.1.1.2.1,(x.1.1.2.2.1,(x.1.1.2.2.2.1,((((0:Int),(0:Int)),(((0:Int),(0:Int)),(0:Int))),((((0:Int),(0:Int)),(((0:Int),(0:Int)),(0:Int))),(false,((⟨#[]⟩:ByteArray),x.1.1.2.2.2.2.2.2.2.2)))))))),((1:Int),())),())))
          (some (((x.1.1.1,(x.1.1.2.1,(x.1.1.2.2.1,(x.1.1.2.2.2.1,((((0:Int),(0:Int)),(((0:Int),(0:Int)),(0:Int))),((((0:Int),(0:Int)),(((0:Int),(0:Int)),(0:Int))),(false,((⟨#[]⟩:ByteArray),x.1.1.2.2.2.2.2.2.2.2)))))))),((1:Int),())),())))
         (some (((x.1.1.1,(x.1.1.2.1,(x.1.1.2.2.1,(x.1.1.2.2.2.1,((((0:Int),(0:Int)),(((0:Int),(0:Int)),(0:Int))),((((0:Int),(0:Int)),(((0:Int),(0:Int)),(0:Int))),(false,((⟨#[]⟩:ByteArray),x.1.1.2.2.2.2.2.2.2.2)))))))),((1:Int),())),())))
        (cond (x.1.1.1==(7:Int))
         ((F 88 vF ((x.1.1.2.2.2.2.2.2.2.1,()),())).bind fun (BI:((Bool×Unit)×Unit)) =>
         cond (not BI.1.1)
          (cond (not y1.1.1)
           (some (((x.1.1.1,(x.1.1.2.1,(((0:Int),(0:Int)),(((0:Int),(0:Int)),((((0:Int),(0:Int)),(((0:Int),(0:Int)),(0:Int))),((((0:Int),(0:Int)),(((0:Int),(0:Int)),(0:Int))),(x.1.1.2.2.2.2.2.2.1,(x.1.1.2.2.2.2.2.2.2.1,(0:Int))))))))),((1:Int),())),()))
           (some (((x.1.1.1,(x.1.1.2.1,(((0:Int),(0:Int)),(((0:Int),(0:Int)),((((0:Int),(0:Int)),(((0:Int),(0:Int)),(0:Int))),((((0:Int),(0:Int)),(((0:Int),(0:Int)),(0:Int))),(x.1.1.2.2.2.2.2.2.1,(x.1.1.2.2.2.2.2.2.2.1,(0:Int))))))))),((4:Int),())),())))
          (cond (not y1.1.1)
           (some (((x.1.1.1,(x.1.1.2.1,(((0:Int),(0:Int)),(((0:Int),(0:Int)),((((0:Int),(0:Int)),(((0:Int),(0:Int)),(0:Int))),((((0:Int),(0:Int)),(((0:Int),(0:Int)),(0:Int))),(x.1.1.2.2.2.2.2.2.1,(x.1.1.2.2.2.2.2.2.2.1,(0:Int))))))))),((1:Int),())),()))
           (some (((x.1.1.1,(x.1.1.2.1,(((0:Int),(0:Int)),(((0:Int),(0:Int)),((((0:Int),(0:Int)),(((0:Int),(0:Int)),(0:Int))),((((0:Int),(0:Int)),(((0:Int),(0:Int)),(0:Int))),(x.1.1.2.2.2.2.2.2.1,(x.1.1.2.2.2.2.2.2.2.1,(0:Int))))))))),((0:Int),())),()))))
         (cond (x.1.1.1==(8:Int))
          (cond y1.1.1
           ((F 89 F6 ((x.1.1.2.2.2.2.2.2.2.2,()),())).bind fun (r8:((Bool×Unit)×Unit)) =>
           cond (not r8.1.1)
            (some (((x.1.1.1,(x.1.1.2.1,(((0:Int),(0:Int)),(((0:Int),(0:Int)),((((0:Int),(0:Int)),(((0:Int),(0:Int)),(0:Int))),((((0:Int),(0:Int)),(((0:Int),(0:Int)),(0:Int))),(x.1.1.2.2.2.2.2.2.1,((⟨#[]⟩:ByteArray),x.1.1.2.2.2.2.2.2.2.2)))))))),((1:Int),())),()))
            (some (((x.1.1.1,(x.1.1.2.1,(((0:Int),(0:Int)),(((0:Int),(0:Int)),((((0:Int),(0:Int)),(((0:Int),(0:Int)),(0:Int))),((((0:Int),(0:Int)),(((0:Int),(0:Int)),(0:Int))),(x.1.1.2.2.2.2.2.2.1,((⟨#[]⟩:ByteArray),x.1.1.2.2.2.2.2.2.2.2)))))))),((0:Int),())),())))
           (some (((x.1.1.1,(x.1.1.2.1,(((0:Int),(0:Int)),(((0:Int),(0:Int)),((((0:Int),(0:Int)),(((0:Int),(0:Int)),(0:Int))),((((0:Int),(0:Int)),(((0:Int),(0:Int)),(0:Int))),(x.1.1.2.2.2.2.2.2.1,((⟨#[]⟩:ByteArray),x.1.1.2.2.2.2.2.2.2.2)))))))),((1:Int),())),())))
          (some (((x.1.1.1,(x.1.1.2.1,(((0:Int),(0:Int)),(((0:Int),(0:Int)),((((0:Int),(0:Int)),(((0:Int),(0:Int)),(0:Int))),((((0:Int),(0:Int)),(((0:Int),(0:Int)),(0:Int))),(false,((⟨#[]⟩:ByteArray),(0:Int))))))))),((1:Int),())),()))))))))
    (cond (x.1.1.1==(4:Int))
     (cond (not y1.1.1)
      (some (((x.1.1.1,(x.1.1.2.1,(((0:Int),(0:Int)),(((0:Int),(0:Int)),((((0:Int),(0:Int)),(((0:Int),(0:Int)),(0:Int))),((((0:Int),(0:Int)),(((0:Int),(0:Int)),(0:Int))),(false,((⟨#[]⟩:ByteArray),(0:Int))))))))),((1:Int),())),()))
      (some (((x.1.1.1,(x.1.1.2.1,(((0:Int),(0:Int)),(((0:Int),(0:Int)),((((0:Int),(0:Int)),(((0:Int),(0:Int)),(0:Int))),((((0:Int),(0:Int)),(((0:Int),(0:Int)),(0:Int))),(false,((⟨#[]⟩:ByteArray),(0:Int))))))))),((0:Int),())),())))
     (cond (x.1.1.1==(6:Int))
      (cond y1.1.1
       ((F 86 qc ((x.1.1.2.2.2.1,()),())).bind fun (Q3:((Bool×Unit)×Unit)) =>
       cond (not Q3.1.1)
        (some (((x.1.1.1,(x.1.1.2.1,(((0:Int),(0:Int)),(x.1.1.2.2.2.1,((((0:Int),(0:Int)),(((0:Int),(0:Int)),(0:Int))),((((0:Int),(0:Int)),(((0:Int),(0:Int)),(0:Int))),(false,((⟨#[]⟩:ByteArray),(0:Int))))))))),((1:Int),())),()))
        (some (((x.1.1.1,(x.1.1.2.1,(((0:Int),(0:Int)),(x.1.1.2.2.2.1,((((0:Int),(0:Int)),(((0:Int),(0:Int)),(0:Int))),((((0:Int),(0:Int)),(((0:Int),(0:Int)),(0:Int))),(false,((⟨#[]⟩:ByteArray),(0:Int))))))))),((0:Int),())),())))
       (some (((x.1.1.1,(x.1.1.2.1,(((0:Int),(0:Int)),(x.1.1.2.2.2.1,((((0:Int),(0:Int)),(((0:Int),(0:Int)),(0:Int))),((((0:Int),(0:Int)),(((0:Int),(0:Int)),(0:Int))),(false,((⟨#[]⟩:ByteArray),(0:Int))))))))),((1:Int),())),())))
      (cond (x.1.1.1==(3:Int))
       (cond y1.1.1
        ((F 87 B8 (((x.1.1.2.2.2.2.1.1,(x.1.1.2.2.2.2.1.2.1,x.1.1.2.2.2.2.1.2.2)),()),())).bind fun (RP:((Bool×Unit)×Unit)) =>
        cond RP.1.1
         ((F 87 B8 (((x.1.1.2.2.2.2.2.1.1,(x.1.1.2.2.2.2.2.1.2.1,x.1.1.2.2.2.2.2.1.2.2)),()),())).bind fun (Wn:((Bool×Unit)×Unit)) =>
         cond (not Wn.1.1)
          (some (((x.1.1.1,(x.1.1.2.1,(((0:Int),(0:Int)),(((0:Int),(0:Int)),((x.1.1.2.2.2.2.1.1,(x.1.1.2.2.2.2.1.2.1,x.1.1.2.2.2.2.1.2.2)),((x.1.1.2.2.2.2.2.1.1,(x.1.1.2.2.2.2.2.1.2.1,x.1.1.2.2.2.2.2.1.2.2)),(false,((⟨#[]⟩:ByteArray),(0:Int))))))))),((1:Int),())),()))
          (some (((x.1.1.1,(x.1.1.2.1,(((0:Int),(0:Int)),(((0:Int),(0:Int)),((x.1.1.2.2.2.2.1.1,(x.1.1.2.2.2.2.1.2.1,x.1.1.2.2.2.2.1.2.2)),((x.1.1.2.2.2.2.2.1.1,(x.1.1.2.2.2.2.2.1.2.1,x.1.1.2.2.2.2.2.1.2.2)),(false,((⟨#[]⟩:ByteArray),(0:Int))))))))),((0:Int),())),())))
         (some (((x.1.1.1,(x.1.1.2.1,(((0:Int),(0:Int)),(((0:Int),(0:Int)),((x.1.1.2.2.2.2.1.1,(x.1.1.2.2.2.2.1.2.1,x.1.1.2.2.2.2.1.2.2)),((x.1.1.2.2.2.2.2.1.1,(x.1.1.2.2.2.2.2.1.2.1,x.1.1.2.2.2.2.2.1.2.2)),(false,((⟨#[]⟩:ByteArray),(0:Int))))))))),((1:Int),())),())))
        (some (((x.1.1.1,(x.1.1.2.1,(((0:Int),(0:Int)),(((0:Int),(0:Int)),((x.1.1.2.2.2.2.1.1,(x.1.1.2.2.2.2.1.2.1,x.1.1.2.2.2.2.1.2.2)),((x.1.1.2.2.2.2.2.1.1,(x.1.1.2.2.2.2.2.1.2.1,x.1.1.2.2.2.2.2.1.2.2)),(false,((⟨#[]⟩:ByteArray),(0:Int))))))))),((1:Int),())),())))
       (cond (x.1.1.1==(5:Int))
        (cond y1.1.1
         ((F 86 qc ((x.1.1.2.2.1,()),())).bind fun (Tx:((Bool×Unit)×Unit)) =>
         cond Tx.1.1
          ((F 86 qc ((x.1.1.2.2.2.1,()),())).bind fun (Gr:((Bool×Unit)×Unit)) =>
          cond Gr.1.1
           (cond (not ((eF .andNot .i64 x.1.1.2.2.2.2.2.2.2.2 (3:Int))==(0:Int)))
            (some (((x.1.1.1,(x.1.1.2.1,(x.1.1.2.2.1,(x.1.1.2.2.2.1,((((0:Int),(0:Int)),(((0:Int),(0:Int)),(0:Int))),((((0:Int),(0:Int)),(((0:Int),(0:Int)),(0:Int))),(false,((⟨#[]⟩:ByteArray),x.1.1.2.2.2.2.2.2.2.2)))))))),((1:Int),())),()))
            (some (((x.1.1.1,(x.1.1.2.1,(x.1.1.2.2.1,(x.1.1.2.2.2.1,((((0:Int),(0:Int)),(((0:Int),(0:Int)),(0:Int))),((((0:Int),(0:Int)),(((0:Int),(0:Int)),(0:Int))),(false,((⟨#[]⟩:ByteArray),x.1.1.2.2.2.2.2.2.2.2)))))))),((0:Int),())),())))
           (some (((x.1.1.1,(x.1.1.2.1,(x.1.1.2.2.1,(x.1.1.2.2.2.1,((((0:Int),(0:Int)),(((0:Int),(0:Int)),(0:Int))),((((0:Int),(0:Int)),(((0:Int),(0:Int)),(0:Int))),(false,((⟨#[]⟩:ByteArray),x.1.1.2.2.2.2.2.2.2.2)))))))),((1:Int),())),())))
          (some (((x.1.1.1,(x.1.1.2.1,(x.1.1.2.2.1,(x.1.1.2.2.2.1,((((0:Int),(0:Int)),(((0:Int),(0:Int)),(0:Int))),((((0:Int),(0:Int)),(((0:Int),(0:Int)),(0:Int))),(false,((⟨#[]⟩:ByteArray),x.1.1.2.2.2.2.2.2.2.2)))))))),((1:Int),())),())))
         (some (((x.1.1.1,(x.1.1.2.1,(x.1.1.2.2.1,(x.1.1.2.2.2.1,((((0:Int),(0:Int)),(((0:Int),(0:Int)),(0:Int))),((((0:Int),(0:Int)),(((0:Int),(0:Int)),(0:Int))),(false,((⟨#[]⟩:ByteArray),x.1.1.2.2.2.2.2.2.2.2)))))))),((1:Int),())),())))
        (cond (x.1.1.1==(7:Int))
         ((F 88 vF ((x.1.1.2.2.2.2.2.2.2.1,()),())).bind fun (XD:((Bool×Unit)×Unit)) =>
         cond (not XD.1.1)
          (cond (not y1.1.1)
           (some (((x.1.1.1,(x.1.1.2.1,(((0:Int),(0:Int)),(((0:Int),(0:Int)),((((0:Int),(0:Int)),(((0:Int),(0:Int)),(0:Int))),((((0:Int),(0:Int)),(((0:Int),(0:Int)),(0:Int))),(x.1.1.2.2.2.2.2.2.1,(x.1.1.2.2.2.2.2.2.2.1,(0:Int))))))))),((1:Int),())),()))
           (some (((x.1.1.1,(x.1.1.2.1,(((0:Int),(0:Int)),(((0:Int),(0:Int)),((((0:Int),(0:Int)),(((0:Int),(0:Int)),(0:Int))),((((0:Int),(0:Int)),(((0:Int),(0:Int)),(0:Int))),(x.1.1.2.2.2.2.2.2.1,(x.1.1.2.2.2.2.2.2.2.1,(0:Int))))))))),((4:Int),())),())))
          (cond (not y1.1.1)
           (some (((x.1.1.1,(x.1.1.2.1,(((0:Int),(0:Int)),(((0:Int),(0:Int)),((((0:Int),(0:Int)),(((0:Int),(0:Int)),(0:Int))),((((0:Int),(0:Int)),(((0:Int),(0:Int)),(0:Int))),(x.1.1.2.2.2.2.2.2.1,(x.1.1.2.2.2.2.2.2.2.1,(0:Int))))))))),((1:Int),())),()))
           (some (((x.1.1.1,(x.1.1.2.1,(((0:Int),(0:Int)),(((0:Int),(0:Int)),((((0:Int),(0:Int)),(((0:Int),(0:Int)),(0:Int))),((((0:Int),(0:Int)),(((0:Int),(0:Int)),(0:Int))),(x.1.1.2.2.2.2.2.2.1,(x.1.1.2.2.2.2.2.2.2.1,(0:Int))))))))),((0:Int),())),()))))
         (cond (x.1.1.1==(8:Int))
          (cond y1.1.1
           ((F 89 F6 ((x.1.1.2.2.2.2.2.2.2.2,()),())).bind fun (XE:((Bool×Unit)×Unit)) =>
           cond (not XE.1.1)
            (some (((x.1.1.1,(x.1.1.2.1,(((0:Int),(0:Int)),(((0:Int),(0:Int)),((((0:Int),(0:Int)),(((0:Int),(0:Int)),(0:Int))),((((0:Int),(0:Int)),(((0:Int),(0:Int)),(0:Int))),(x.1.1.2.2.2.2.2.2.1,((⟨#[]⟩:ByteArray),x.1.1.2.2.2.2.2.2.2.2)))))))),((1:Int),())),()))
            (some (((x.1.1.1,(x.1.1.2.1,(((0:Int),(0:Int)),(((0:Int),(0:Int)),((((0:Int),(0:Int)),(((0:Int),(0:Int)),(0:Int))),((((0:Int),(0:Int)),(((0:Int),(0:Int)),(0:Int))),(x.1.1.2.2.2.2.2.2.1,((⟨#[]⟩:ByteArray),x.1.1.2.2.2.2.2.2.2.2)))))))),((0:Int),())),())))
           (some (((x.1.1.1,(x.1.1.2.1,(((0:Int),(0:Int)),(((0:Int),(0:Int)),((((0:Int),(0:Int)),(((0:Int),(0:Int)),(0:Int))),((((0:Int),(0:Int)),(((0:Int),(0:Int)),(0:Int))),(x.1.1.2.2.2.2.2.2.1,((⟨#[]⟩:ByteArray),x.1.1.2.2.2.2.2.2.2.2)))))))),((1:Int),())),())))
          (some (((x.1.1.1,(x.1.1.2.1,(((0:Int),(0:Int)),(((0:Int),(0:Int)),((((0:Int),(0:Int)),(((0:Int),(0:Int)),(0:Int))),((((0:Int),(0:Int)),(((0:Int),(0:Int)),(0:Int))),(false,((⟨#[]⟩:ByteArray),(0:Int))))))))),((1:Int),())),()))))))))):=by kernel_rfl
theorem El(F:FT)(J:JT xG)(x:((bY×Unit)×(aE×Unit))):bW 66 xG Tryz.f66 F J x =
  cond (x.1.1.1==(1:Int))
   ((F 90 F7 (((x.1.1.2.1,(([]:List ae),((⟨#[]⟩:ByteArray),(0:Int)))),()),((x.2.1.1,(x.2.1.2.1,x.2.1.2.2)),()))).bind fun (y1:((Int×Unit)×(aE×Unit))) =>
   some (y1.1,((y1.2.1.1,(y1.2.1.2.1,y1.2.1.2.2)),())))
   (cond (x.1.1.1==(2:Int))
    ((F 91 Oa (((x.1.1.1,(x.1.1.2.1,(x.1.1.2.2.1,(x.1.1.2.2.2.1,((x.1.1.2.2.2.2.1.1,(x.1.1.2.2.2.2.1.2.1,x.1.1.2.2.2.2.1.2.2)),((x.1.1.2.2.2.2.2.1.1,(x.1.1.2.2.2.2.2.1.2.1,x.1.1.2.2.2.2.2.1.2.2)),(x.1.1.2.2.2.2.2.2.1,x.1.1.2.2.2.2.2.2.2))))))),()),((x.2.1.1,(x.2.1.2.1,x.2.1.2.2)),()))).bind fun (y2:((Int×Unit)×(aE×Unit))) =>
    some (y2.1,((y2.2.1.1,(y2.2.1.2.1,y2.2.1.2.2)),())))
    (cond (x.1.1.1==(3:Int))
     ((F 92 ng (((x.1.1.1,(x.1.1.2.1,(x.1.1.2.2.1,(x.1.1.2.2.2.1,((x.1.1.2.2.2.2.1.1,(x.1.1.2.2.2.2.1.2.1,x.1.1.2.2.2.2.1.2.2)),((x.1.1.2.2.2.2.2.1.1,(x.1.1.2.2.2.2.2.1.2.1,x.1.1.2.2.2.2.2.1.2.2)),(x.1.1.2.2.2.2.2.2.1,x.1.1.2.2.2.2.2.2.2))))))),()),((x.2.1.1,(x.2.1.2.1,x.2.1.2.2)),()))).bind fun (y3:((Int×Unit)×(aE×Unit))) =>
     some (y3.1,((y3.2.1.1,(y3.2.1.2.1,y3.2.1.2.2)),())))
     (cond (x.1.1.1==(4:Int))
      ((F 93 Ab (((x.1.1.1,(x.1.1.2.1,(x.1.1.2.2.1,(x.1.1.2.2.2.1,((x.1.1.2.2.2.2.1.1,(x.1.1.2.2.2.2.1.2.1,x.1.1.2.2.2.2.1.2.2)),((x.1.1.2.2.2.2.2.1.1,(x.1.1.2.2.2.2.2.1.2.1,x.1.1.2.2.2.2.2.1.2.2)),(x.1.1.2.2.2.2.2.2.1,x.1.1.2.2.2.2.2.2.2))))))),()),((x.2.1.1,(x.2.1.2.1,x.2.1.2.2)),()))).bind fun (y4:((Int×Unit)×(aE×Unit))) =>
      some (y4.1,((y4.2.1.1,(y4.2.1.2.1,y4.2.1.2.2)),())))
      (cond (x.1.1.1==(5:Int))
       ((F 94 xM (((x.1.1.1,(x.1.1.2.1,(x.1.1.2.2.1,(x.1.1.2.2.2.1,((x.1.1.2.2.2.2.1.1,(x.1.1.2.2.2.2.1.2.1,x.1.1.2.2.2.2.1.2.2)),((x.1.1.2.2.2.2.2.1.1,(x.1.1.2.2.2.2.2.1.2.1,x.1.1.2.2.2.2.2.1.2.2)),(x.1.1.2.2.2.2.2.2.1,x.1.1.2.2.2.2.2.2.2))))))),()),((x.2.1.1,(x.2.1.2.1,x.2.1.2.2)),()))).bind fun (y5:((Int×Unit)×(aE×Unit))) =>
       some (y5.1,((y5.2.1.1,(y5.2.1.2.1,y5.2.1.2.2)),())))
       (cond (x.1.1.1==(6:Int))
        ((F 95 qd (((x.1.1.1,(x.1.1.2.1,(x.1.1.2.2.1,(x.1.1.2.2.2.1,((x.1.1.2.2.2.2.1.1,(x.1.1.2.2.2.2.1.2.1,x.1.1.2.2.2.2.1.2.2)),((x.1.1.2.2.2.2.2.1.1,(x.1.1.2.2.2.2.2.1.2.1,x.1.1.2.2.2.2.2.1.2.2)),(x.1.1.2.2.2.2.2.2.1,x.1.1.2.2.2.2.2.2.2))))))),()),((x.2.1.1,(x.2.1.2.1,x.2.1.2.2)),()))).bind fun (y6:((Int×Unit)×(aE×Unit))) =>
        some (y6.1,((y6.2.1.1,(y6.2.1.2.1,y6.2.1.2.2)),())))
        ((F 96 Oc (((x.1.1.1,(x.1.1.2.1,(x.1.1.2.2.1,(x.1.1.2.2.2.1,((x.1.1.2.2.2.2.1.1,(x.1.1.2.2.2.2.1.2.1,x.1.1.2.2.2.2.1.2.2)),((x.1.1.2.2.2.2.2.1.1,(x.1.1.2.2.2.2.2.1.2.1,x.1.1.2.2.2.2.2.1.2.2)),(x.1.1.2.2.2.2.2.2.1,x.1.1.2.2.2.2.2.2.2))))))),()),((x.2.1.1,(x.2.1.2.1,x.2.1.2.2)),()))).bind fun (y7:((Int×Unit)×(aE×Unit))) =>
        some (y7.1,((y7.2.1.1,(y7.2.1.2.1,y7.2.1.2.2)),())))))))):=by kernel_rfl
theorem adb(F:FT)(J:JT LD)(x:((bY×Unit)×Unit)):bW 67 LD Tryz.f67 F J x =
  cond (x.1.1.1==(3:Int))
   (some ((((0:Int),(((0:Int),(0:Int)),(x.1.1.2.2.1,(x.1.1.2.2.2.1,((((0:Int),(0:Int)),(((0:Int),(0:Int)),(0:Int))),((((0:Int),(0:Int)),(((0:Int),(0:Int)),(0:Int))),(x.1.1.2.2.2.2.2.2.1,x.1.1.2.2.2.2.2.2.2))))))),()),()))
   (cond (x.1.1.1==(5:Int))
    (some ((((0:Int),(((0:Int),(0:Int)),(((0:Int),(0:Int)),(((0:Int),(0:Int)),((x.1.1.2.2.2.2.1.1,(x.1.1.2.2.2.2.1.2.1,x.1.1.2.2.2.2.1.2.2)),((x.1.1.2.2.2.2.2.1.1,(x.1.1.2.2.2.2.2.1.2.1,x.1.1.2.2.2.2.2.1.2.2)),(x.1.1.2.2.2.2.2.2.1,(x.1.1.2.2.2.2.2.2.2.1,(0:Int))))))))),()),()))
    (cond (x.1.1.1==(6:Int))
     (some ((((0:Int),(((0:Int),(0:Int)),(x.1.1.2.2.1,(((0:Int),(0:Int)),((x.1.1.2.2.2.2.1.1,(x.1.1.2.2.2.2.1.2.1,x.1.1.2.2.2.2.1.2.2)),((x.1.1.2.2.2.2.2.1.1,(x.1.1.2.2.2.2.2.1.2.1,x.1.1.2.2.2.2.2.1.2.2)),(x.1.1.2.2.2.2.2.2.1,x.1.1.2.2.2.2.2.2.2))))))),()),()))
     (cond (x.1.1.1==(7:Int))
      (some ((((0:Int),(((0:Int),(0:Int)),(x.1.1.2.2.1,(x.1.1.2.2.2.1,((x.1.1.2.2.2.2.1.1,(x.1.1.2.2.2.2.1.2.1,x.1.1.2.2.2.2.1.2.2)),((x.1.1.2.2.2.2.2.1.1,(x.1.1.2.2.2.2.2.1.2.1,x.1.1.2.2.2.2.2.1.2.2)),(false,((⟨#[]⟩:ByteArray),x.1.1.2.2.2.2.2.2.2.2)))))))),()),()))
      (cond (x.1.1.1==(8:Int))
       (some ((((0:Int),(((0:Int),(0:Int)),(x.1.1.2.2.1,(x.1.1.2.2.2.1,((x.1.1.2.2.2.2.1.1,(x.1.1.2.2.2.2.1.2.1,x.1.1.2.2.2.2.1.2.2)),((x.1.1.2.2.2.2.2.1.1,(x.1.1.2.2.2.2.2.1.2.1,x.1.1.2.2.2.2.2.1.2.2)),(false,(x.1.1.2.2.2.2.2.2.2.1,(0:Int))))))))),()),()))
       (some ((((0:Int),(((0:Int),(0:Int)),(x.1.1.2.2.1,(x.1.1.2.2.2.1,((x.1.1.2.2.2.2.1.1,(x.1.1.2.2.2.2.1.2.1,x.1.1.2.2.2.2.1.2.2)),((x.1.1.2.2.2.2.2.1.1,(x.1.1.2.2.2.2.2.1.2.1,x.1.1.2.2.2.2.2.1.2.2)),(x.1.1.2.2.2.2.2.2.1,x.1.1.2.2.2.2.2.2.2))))))),()),())))))):=by kernel_rfl
theorem ade(F:FT)(J:JT LF)(x:((o8×Unit)×Unit)):bW 68 LF Tryz.f68 F J x =
  (F 19 xC ((x.1.1.1,()),())).bind fun (y1:((Bool×Unit)×Unit)) =>
  (F 97 Od (((x.1.1.2.1,x.1.1.2.2),()),())).bind fun (y2:((Bool×Unit)×Unit)) =>
  cond y1.1.1
   (cond y2.1.1
    (some ((true,()),()))
    (some (((((x.1.1.2.1.1==(0:Int))&&(x.1.1.2.1.2==(0:Int)))&&(x.1.1.2.2==(0:Int))),()),())))
   (some ((false,()),())):=by kernel_rfl
theorem adf(F:FT)(J:JT Eh)(x:((ID×(ID×Unit))×Unit)):bW 69 Eh Tryz.f69 F J x =
  cond ((x.1.1.1==x.1.2.1.1)&&(x.1.1.2==x.1.2.1.2))
   (some (((0:Int),()),()))
   (cond (decide (x.1.1.1<x.1.2.1.1))
    (some (((-1:Int),()),()))
    (cond (x.1.1.1==x.1.2.1.1)
     (cond (decide (x.1.1.2<x.1.2.1.2))
      (some (((-1:Int),()),()))
      (some (((1:Int),()),())))
     (some (((1:Int),()),())))):=by kernel_rfl
theorem adg(F:FT)(J:JT LG)(x:((StateT×(o8×Unit))×Unit)):bW 70 LG Tryz.f70 F J x =
  (F 18 o9 ((x.1.1.1,(x.1.2.1.1,())),())).bind fun (y1:((ai×(Bool×Unit))×Unit)) =>
  cond (not y1.1.2.1)
   (some (((((0:Int),(0:Int)),(((0:Int),(0:Int)),(0:Int))),((13:Int),())),()))
   ((F 98 F8 (((x.1.1.1,x.1.1.2),((x.1.2.1.2.1,x.1.2.1.2.2),())),())).bind fun (y2:((ae×Unit)×Unit)) =>
   (F 24 qb ((y1.1.1.2.1,((y2.1.1.1,y2.1.1.2),())),())).bind fun (y3:((Int×Unit)×Unit)) =>
   cond (decide (y3.1.1<(0:Int)))
    (some (((x.1.2.1.1,(((0:Int),(0:Int)),(0:Int))),((0:Int),())),()))
    (some (((x.1.2.1.1,(y2.1.1.1,y2.1.1.2)),((0:Int),())),()))):=by kernel_rfl
theorem adh(F:FT)(J:JT xH)(x:((aj×(ah×Unit))×Unit)):bW 71 xH Tryz.f71 F J x =
 J s6 (aM Tryz.prog 71 0) ((false,((0:Int),())),(((x.1.1,()),(((x.1.2.1.1,x.1.2.1.2),()),((([]:List ai),(([]:List ah),())),((x.1.1.1,(([]:List ah),())),())))),())):=by kernel_rfl
theorem OQ(F:FT)(J:JT xH)(x:((Bool×(Int×Unit))×(((aj×Unit)×((ah×Unit)×(((List ai)×((List ah)×Unit))×(((List ai)×((List ah)×Unit))×Unit))))×Unit))):eW 71 0 xH Tryz.f71 s6 F J x =
  cond (decide (x.1.2.1<(((List.length x.2.1.1.1.2):Nat):Int)))
   (cond (not x.1.1)
    (((aS x.2.1.1.1.2 x.1.2.1)).bind fun (y1:ah) =>
    (F 69 Eh ((x.2.1.2.1.1.1,(y1.1,())),())).bind fun (y2:((Int×Unit)×Unit)) =>
    cond (decide (y2.1.1<(0:Int)))
     (cond (aO (List.length x.2.1.2.2.2.1.2.1) (List.length ((x.2.1.2.1.1.1,x.2.1.2.1.1.2)::([]:List ah))))
      (((aS x.2.1.1.1.2 x.1.2.1)).bind fun (y3:ah) =>
      cond (aO (List.length (x.2.1.2.2.2.1.2.1++((x.2.1.2.1.1.1,x.2.1.2.1.1.2)::([]:List ah)))) (List.length ((y3.1,y3.2)::([]:List ah))))
       (J s6 (aM Tryz.prog 71 0) ((true,((IntKind.wrap .i64 (x.1.2.1+(1:Int))),())),(((x.2.1.1.1,()),(((x.2.1.2.1.1.1,x.2.1.2.1.1.2),()),((x.2.1.2.2.1.1,x.2.1.2.2.1.2),((x.2.1.2.2.2.1.1,(((x.2.1.2.2.2.1.2.1++((x.2.1.2.1.1.1,x.2.1.2.1.1.2)::([]:List ah)))++((y3.1,y3.2)::([]:List ah))),())),())))),())))
       (none))
      (none))
     (((aS x.2.1.1.1.2 x.1.2.1)).bind fun (y4:ah) =>
     cond (aO (List.length x.2.1.2.2.2.1.2.1) (List.length ((y4.1,y4.2)::([]:List ah))))
      (J s6 (aM Tryz.prog 71 0) ((x.1.1,((IntKind.wrap .i64 (x.1.2.1+(1:Int))),())),(((x.2.1.1.1,()),(((x.2.1.2.1.1.1,x.2.1.2.1.1.2),()),((x.2.1.2.2.1.1,x.2.1.2.2.1.2),((x.2.1.2.2.2.1.1,((x.2.1.2.2.2.1.2.1++((y4.1,y4.2)::([]:List ah))),())),())))),())))
      (none)))
    (((aS x.2.1.1.1.2 x.1.2.1)).bind fun (y5:ah) =>
    cond (aO (List.length x.2.1.2.2.2.1.2.1) (List.length ((y5.1,y5.2)::([]:List ah))))
     (J s6 (aM Tryz.prog 71 0) ((x.1.1,((IntKind.wrap .i64 (x.1.2.1+(1:Int))),())),(((x.2.1.1.1,()),(((x.2.1.2.1.1.1,x.2.1.2.1.1.2),()),((x.2.1.2.2.1.1,x.2.1.2.2.1.2),((x.2.1.2.2.2.1.1,((x.2.1.2.2.2.1.2.1++((y5.1,y5.2)::([]:List ah))),())),())))),())))
     (none)))
   (cond (not x.1.1)
    (cond (aO (List.length x.2.1.2.2.2.1.2.1) (List.length ((x.2.1.2.1.1.1,x.2.1.2.1.1.2)::([]:List ah))))
     (some (((x.2.1.2.2.2.1.1,(x.2.1.2.2.2.1.2.1++((x.2.1.2.1.1.1,x.2.1.2.1.1.2)::([]:List ah)))),()),()))
     (none))
    (some (((x.2.1.2.2.2.1.1,x.2.1.2.2.2.1.2.1),()),()))):=by kernel_rfl
theorem adi(F:FT)(J:JT xI)(x:((aj×(o8×(ae×Unit)))×Unit)):bW 72 xI Tryz.f72 F J x =
 (F 18 o9 ((x.1.1,(x.1.2.1.1,())),())).bind fun (y1:((ai×(Bool×Unit))×Unit)) =>
 (F 100 w9 ((y1.1.1.2.1,((x.1.2.1.2.1,x.1.2.1.2.2),((x.1.2.2.1.1,x.1.2.2.1.2),()))),())).bind fun (y2:(((List ae)×Unit)×Unit)) =>
 (F 99 B9 ((x.1.1,(x.1.2.1.1,y2.1)),())).bind fun (y3:((aj×Unit)×Unit)) =>
 some ((y3.1.1,()),()):=by kernel_rfl
theorem adk(F:FT)(J:JT xJ)(x:(((List an)×(an×Unit))×Unit)):bW 73 xJ Tryz.f73 F J x =
  (F 101 rY ((x.1.1,((x.1.2.1.1.1,x.1.2.1.1.2),())),())).bind fun (y1:((ae×(Bool×Unit))×Unit)) =>
  cond (not y1.1.2.1)
   (cond (decide ((((List.length x.1.1):Nat):Int)≥(400:Int)))
    (some ((x.1.1,()),()))
    (J kj (aM Tryz.prog 73 0) ((x.1.1,(false,((0:Int),()))),(((((x.1.2.1.1.1,x.1.2.1.1.2),(x.1.2.1.2.1,x.1.2.1.2.2)),()),()),(([]:List an),())))))
   (J kj (aM Tryz.prog 73 0) ((x.1.1,(false,((0:Int),()))),(((((x.1.2.1.1.1,x.1.2.1.1.2),(x.1.2.1.2.1,x.1.2.1.2.2)),()),()),(([]:List an),())))):=by kernel_rfl
theorem OR(F:FT)(J:JT xJ)(x:(((List an)×(Bool×(Int×Unit)))×(((an×Unit)×Unit)×((List an)×Unit)))):eW 73 0 xJ Tryz.f73 kj F J x =
  cond (decide (x.1.2.2.1<(((List.length x.1.1):Nat):Int)))
   (cond (not x.1.2.1)
    (((aS x.1.1 x.1.2.2.1)).bind fun (y2:an) =>
    (F 62 IM (((x.2.1.1.1.1.1,x.2.1.1.1.1.2),((y2.1.1,y2.1.2),())),())).bind fun (y3:((Int×Unit)×Unit)) =>
    cond (decide (y3.1.1≤(0:Int)))
     (cond (aO (List.length x.2.2.1) (List.length (((x.2.1.1.1.1.1,x.2.1.1.1.1.2),(x.2.1.1.1.2.1,x.2.1.1.1.2.2))::([]:List an))))
      (((aS x.1.1 x.1.2.2.1)).bind fun (y4:an) =>
      cond (not (((y4.1.1.1==x.2.1.1.1.1.1.1)&&(y4.1.1.2==x.2.1.1.1.1.1.2))&&(y4.1.2==x.2.1.1.1.1.2)))
       (((aS x.1.1 x.1.2.2.1)).bind fun (y5:an) =>
       cond (aO (List.length (x.2.2.1++(((x.2.1.1.1.1.1,x.2.1.1.1.1.2),(x.2.1.1.1.2.1,x.2.1.1.1.2.2))::([]:List an)))) (List.length (((y5.1.1,y5.1.2),(y5.2.1,y5.2.2))::([]:List an))))
        (J kj (aM Tryz.prog 73 0) ((x.1.1,(true,((IntKind.wrap .i64 (x.1.2.2.1+(1:Int))),()))),(((((x.2.1.1.1.1.1,x.2.1.1.1.1.2),(x.2.1.1.1.2.1,x.2.1.1.1.2.2)),()),()),(((x.2.2.1++(((x.2.1.1.1.1.1,x.2.1.1.1.1.2),(x.2.1.1.1.2.1,x.2.1.1.1.2.2))::([]:List an)))++(((y5.1.1,y5.1.2),(y5.2.1,y5.2.2))::([]:List an))),()))))
        (none))
       (J kj (aM Tryz.prog 73 0) ((x.1.1,(true,((IntKind.wrap .i64 (x.1.2.2.1+(1:Int))),()))),(((((x.2.1.1.1.1.1,x.2.1.1.1.1.2),(x.2.1.1.1.2.1,x.2.1.1.1.2.2)),()),()),((x.2.2.1++(((x.2.1.1.1.1.1,x.2.1.1.1.1.2),(x.2.1.1.1.2.1,x.2.1.1.1.2.2))::([]:List an))),())))))
      (none))
     (((aS x.1.1 x.1.2.2.1)).bind fun (y6:an) =>
     cond (not (((y6.1.1.1==x.2.1.1.1.1.1.1)&&(y6.1.1.2==x.2.1.1.1.1.1.2))&&(y6.1.2==x.2.1.1.1.1.2)))
      (((aS x.1.1 x.1.2.2.1)).bind fun (y7:an) =>
      cond (aO (List.length x.2.2.1) (List.length (((y7.1.1,y7.1.2),(y7.2.1,y7.2.2))::([]:List an))))
       (J kj (aM Tryz.prog 73 0) ((x.1.1,(x.1.2.1,((IntKind.wrap .i64 (x.1.2.2.1+(1:Int))),()))),(((((x.2.1.1.1.1.1,x.2.1.1.1.1.2),(x.2.1.1.1.2.1,x.2.1.1.1.2.2)),()),()),((x.2.2.1++(((y7.1.1,y7.1.2),(y7.2.1,y7.2.2))::([]:List an))),()))))
       (none))
      (J kj (aM Tryz.prog 73 0) ((x.1.1,(x.1.2.1,((IntKind.wrap .i64 (x.1.2.2.1+(1:Int))),()))),(((((x.2.1.1.1.1.1,x.2.1.1.1.1.2),(x.2.1.1.1.2.1,x.2.1.1.1.2.2)),()),()),x.2.2)))))
    (((aS x.1.1 x.1.2.2.1)).bind fun (y8:an) =>
    cond (not (((y8.1.1.1==x.2.1.1.1.1.1.1)&&(y8.1.1.2==x.2.1.1.1.1.1.2))&&(y8.1.2==x.2.1.1.1.1.2)))
     (((aS x.1.1 x.1.2.2.1)).bind fun (y9:an) =>
     cond (aO (List.length x.2.2.1) (List.length (((y9.1.1,y9.1.2),(y9.2.1,y9.2.2))::([]:List an))))
      (J kj (aM Tryz.prog 73 0) ((x.1.1,(x.1.2.1,((IntKind.wrap .i64 (x.1.2.2.1+(1:Int))),()))),(((((x.2.1.1.1.1.1,x.2.1.1.1.1.2),(x.2.1.1.1.2.1,x.2.1.1.1.2.2)),()),()),((x.2.2.1++(((y9.1.1,y9.1.2),(y9.2.1,y9.2.2))::([]:List an))),()))))
      (none))
     (J kj (aM Tryz.prog 73 0) ((x.1.1,(x.1.2.1,((IntKind.wrap .i64 (x.1.2.2.1+(1:Int))),()))),(((((x.2.1.1.1.1.1,x.2.1.1.1.1.2),(x.2.1.1.1.2.1,x.2.1.1.1.2.2)),()),()),x.2.2)))))
   (cond (not x.1.2.1)
    (cond (aO (List.length x.2.2.1) (List.length (((x.2.1.1.1.1.1,x.2.1.1.1.1.2),(x.2.1.1.1.2.1,x.2.1.1.1.2.2))::([]:List an))))
     (some (((x.2.2.1++(((x.2.1.1.1.1.1,x.2.1.1.1.1.2),(x.2.1.1.1.2.1,x.2.1.1.1.2.2))::([]:List an))),()),()))
     (none))
    (some (x.2.2,()))):=by kernel_rfl
theorem adl(F:FT)(J:JT LH)(x:((aj×(ae×Unit))×Unit)):bW 74 LH Tryz.f74 F J x =
  (F 20 sZ ((x.1.1,((x.1.2.1.1,x.1.2.1.2),())),())).bind fun (y1:((ID×(Bool×Unit))×Unit)) =>
  (F 18 o9 ((x.1.1,(y1.1.1,())),())).bind fun (y2:((ai×(Bool×Unit))×Unit)) =>
  (F 26 LB ((y2.1.1.2.1,((x.1.2.1.1,x.1.2.1.2),())),())).bind fun (y3:((ae×(Bool×Unit))×Unit)) =>
  cond ((y3.1.1.1.1==x.1.2.1.1.1)&&(y3.1.1.1.2==x.1.2.1.1.2))
   ((F 26 LB ((y2.1.1.2.1,((y3.1.1.1,y3.1.1.2),())),())).bind fun (y4:((ae×(Bool×Unit))×Unit)) =>
   cond ((y4.1.1.1.1==x.1.2.1.1.1)&&(y4.1.1.1.2==x.1.2.1.1.2))
    (some (((((0:Int),(0:Int)),(0:Int)),()),()))
    (some (((y4.1.1.1,y4.1.1.2),()),())))
   (cond ((y3.1.1.1.1==x.1.2.1.1.1)&&(y3.1.1.1.2==x.1.2.1.1.2))
    (some (((((0:Int),(0:Int)),(0:Int)),()),()))
    (some (((y3.1.1.1,y3.1.1.2),()),()))):=by kernel_rfl
theorem adm(F:FT)(J:JT LI)(x:((aj×(ae×Unit))×Unit)):bW 75 LI Tryz.f75 F J x =
 (F 20 sZ ((x.1.1,((x.1.2.1.1,x.1.2.1.2),())),())).bind fun (y1:((ID×(Bool×Unit))×Unit)) =>
 (F 18 o9 ((x.1.1,(y1.1.1,())),())).bind fun (y2:((ai×(Bool×Unit))×Unit)) =>
 (F 102 xc ((y2.1.1.2.1,((x.1.2.1.1,x.1.2.1.2),())),())).bind fun (y3:(((List ae)×Unit)×Unit)) =>
 (F 99 B9 ((x.1.1,(y1.1.1,y3.1)),())).bind fun (y4:((aj×Unit)×Unit)) =>
 some ((y4.1.1,()),()):=by kernel_rfl
theorem adn(F:FT)(J:JT F4)(x:((aj×(ae×(ae×Unit)))×Unit)):bW 76 F4 Tryz.f76 F J x =
 (F 20 sZ ((x.1.1,((x.1.2.1.1,x.1.2.1.2),())),())).bind fun (y1:((ID×(Bool×Unit))×Unit)) =>
 (F 18 o9 ((x.1.1,(y1.1.1,())),())).bind fun (y2:((ai×(Bool×Unit))×Unit)) =>
 (F 103 F9 ((y2.1.1.2.1,((x.1.2.1.1,x.1.2.1.2),((x.1.2.2.1.1,x.1.2.2.1.2),()))),())).bind fun (y3:(((List ae)×Unit)×Unit)) =>
 (F 99 B9 ((x.1.1,(y1.1.1,y3.1)),())).bind fun (y4:((aj×Unit)×Unit)) =>
 some ((y4.1.1,()),()):=by kernel_rfl
theorem ado(F:FT)(J:JT ov)(x:(((List ae)×Unit)×Unit)):bW 77 ov Tryz.f77 F J x =
 J vL (aM Tryz.prog 77 0) ((x.1.1,((0:Int),((0:Int),()))),((),())):=by kernel_rfl
theorem OS(F:FT)(J:JT ov)(x:(((List ae)×(Int×(Int×Unit)))×(Unit×Unit))):eW 77 0 ov Tryz.f77 vL F J x =
  cond (decide (x.1.2.2.1<(((List.length x.1.1):Nat):Int)))
   (((aS x.1.1 x.1.2.2.1)).bind fun (y1:ae) =>
   ((aS x.1.1 x.1.2.1)).bind fun (y2:ae) =>
   (F 62 IM (((y1.1,y1.2),((y2.1,y2.2),())),())).bind fun (y3:((Int×Unit)×Unit)) =>
   cond (decide (y3.1.1<(0:Int)))
    (J vL (aM Tryz.prog 77 0) ((x.1.1,(x.1.2.2.1,((IntKind.wrap .i64 (x.1.2.2.1+(1:Int))),()))),((),())))
    (J vL (aM Tryz.prog 77 0) ((x.1.1,(x.1.2.1,((IntKind.wrap .i64 (x.1.2.2.1+(1:Int))),()))),((),()))))
   (J AE (aM Tryz.prog 77 1) ((x.1.1,(x.1.2.1,((0:Int),()))),((),(([]:List ae),())))):=by kernel_rfl
theorem OT(F:FT)(J:JT ov)(x:(((List ae)×(Int×(Int×Unit)))×(Unit×((List ae)×Unit)))):eW 77 1 ov Tryz.f77 AE F J x =
  cond (decide (x.1.2.2.1<(((List.length x.1.1):Nat):Int)))
   (cond ((((List.length x.1.1):Nat):Int)==(0:Int))
    (none)
    (((aS x.1.1 (Int.tmod (IntKind.wrap .i64 (x.1.2.1+x.1.2.2.1)) (((List.length x.1.1):Nat):Int)))).bind fun (y4:ae) =>
    cond (aO (List.length x.2.2.1) (List.length ((y4.1,y4.2)::([]:List ae))))
     (J AE (aM Tryz.prog 77 1) ((x.1.1,(x.1.2.1,((IntKind.wrap .i64 (x.1.2.2.1+(1:Int))),()))),((),((x.2.2.1++((y4.1,y4.2)::([]:List ae))),()))))
     (none)))
   (some (x.2.2,())):=by kernel_rfl
theorem adp(F:FT)(J:JT N9)(x:((aj×(ae×Unit))×Unit)):bW 78 N9 Tryz.f78 F J x =
  (F 20 sZ ((x.1.1,((x.1.2.1.1,x.1.2.1.2),())),())).bind fun (y1:((ID×(Bool×Unit))×Unit)) =>
  cond (not y1.1.2.1)
   (some (((((0:Int),(0:Int)),(0:Int)),(false,())),()))
   ((F 18 o9 ((x.1.1,(y1.1.1,())),())).bind fun (y2:((ai×(Bool×Unit))×Unit)) =>
   (F 104 Ga ((y2.1.1.2.1,((x.1.2.1.1,x.1.2.1.2),())),())).bind fun (y3:((ae×(Bool×Unit))×Unit)) =>
   some (((y3.1.1.1,y3.1.1.2),y3.1.2),())):=by kernel_rfl
theorem adq(F:FT)(J:JT LJ)(x:(((List ai)×Unit)×Unit)):bW 79 LJ Tryz.f79 F J x =
  cond (List.isEmpty x.1.1)
   (ry 2 fun (j1:Nat) =>
   cond ((j1==0)==true)
    (some ((([]:List ai),()),()))
    (cond (aO (List.length ([]:List ai)) (List.length x.1.1))
     (some (((([]:List ai)++x.1.1),()),()))
     (none)))
   (cond (aO (List.length ([]:List ai)) (List.length x.1.1))
    (some (((([]:List ai)++x.1.1),()),()))
    (none)):=by kernel_rfl
theorem adr(F:FT)(J:JT LK)(x:(((List ah)×Unit)×Unit)):bW 80 LK Tryz.f80 F J x =
  cond (List.isEmpty x.1.1)
   (ry 2 fun (j1:Nat) =>
   cond ((j1==0)==true)
    (some ((([]:List ah),()),()))
    (cond (aO (List.length ([]:List ah)) (List.length x.1.1))
     (some (((([]:List ah)++x.1.1),()),()))
     (none)))
   (cond (aO (List.length ([]:List ah)) (List.length x.1.1))
    (some (((([]:List ah)++x.1.1),()),()))
    (none)):=by kernel_rfl
theorem ads(F:FT)(J:JT xK)(x:(((List ae)×Unit)×Unit)):bW 81 xK Tryz.f81 F J x =
  cond (List.isEmpty x.1.1)
   (ry 2 fun (j1:Nat) =>
   cond ((j1==0)==true)
    (some ((([]:List ae),()),()))
    (cond (aO (List.length ([]:List ae)) (List.length x.1.1))
     (some (((([]:List ae)++x.1.1),()),()))
     (none)))
   (cond (aO (List.length ([]:List ae)) (List.length x.1.1))
    (some (((([]:List ae)++x.1.1),()),()))
    (none)):=by kernel_rfl
theorem adt(F:FT)(J:JT xL)(x:((aj×Unit)×Unit)):bW 82 xL Tryz.f82 F J x =
 J AF (aM Tryz.prog 82 0) (((0:Int),()),(((x.1.1,()),()),(([]:List ID),()))):=by kernel_rfl
theorem OU(F:FT)(J:JT xL)(x:((Int×Unit)×(((aj×Unit)×Unit)×((List ID)×Unit)))):eW 82 0 xL Tryz.f82 AF F J x =
  cond (decide (x.1.1<(((List.length x.2.1.1.1.1):Nat):Int)))
   (((aS x.2.1.1.1.1 x.1.1)).bind fun (y1:ai) =>
   cond (aO (List.length x.2.2.1) (List.length (y1.1::([]:List ID))))
    (J AF (aM Tryz.prog 82 0) (((IntKind.wrap .i64 (x.1.1+(1:Int))),()),(((x.2.1.1.1,()),()),((x.2.2.1++(y1.1::([]:List ID))),()))))
    (none))
   (J vM (aM Tryz.prog 82 1) (((0:Int),()),(((x.2.1.1.1,()),()),x.2.2))):=by kernel_rfl
theorem OV(F:FT)(J:JT xL)(x:((Int×Unit)×(((aj×Unit)×Unit)×((List ID)×Unit)))):eW 82 1 xL Tryz.f82 vM F J x =
  cond (decide (x.1.1<(((List.length x.2.1.1.1.2):Nat):Int)))
   (((aS x.2.1.1.1.2 x.1.1)).bind fun (y2:ah) =>
   cond (aO (List.length x.2.2.1) (List.length (y2.1::([]:List ID))))
    (J vM (aM Tryz.prog 82 1) (((IntKind.wrap .i64 (x.1.1+(1:Int))),()),(((x.2.1.1.1,()),()),((x.2.2.1++(y2.1::([]:List ID))),()))))
    (none))
   (some (x.2.2,())):=by kernel_rfl
theorem adu(F:FT)(J:JT uh)(x:(((List ID)×Unit)×Unit)):bW 83 uh Tryz.f83 F J x =
 J vN (aM Tryz.prog 83 0) ((x.1.1,((0:Int),())),((),())):=by kernel_rfl
theorem OW(F:FT)(J:JT uh)(x:(((List ID)×(Int×Unit))×(Unit×Unit))):eW 83 0 uh Tryz.f83 vN F J x =
  cond (decide (x.1.2.1<(((List.length x.1.1):Nat):Int)))
   (((aS x.1.1 x.1.2.1)).bind fun (y1:ID) =>
   (F 19 xC ((y1,()),())).bind fun (y2:((Bool×Unit)×Unit)) =>
   cond (not y2.1.1)
    (some ((false,()),()))
    (cond (decide (x.1.2.1 > (0:Int)))
     (((aS x.1.1 (IntKind.wrap .i64 (x.1.2.1 - (1:Int))))).bind fun (y3:ID) =>
     ((aS x.1.1 x.1.2.1)).bind fun (y4:ID) =>
     (F 69 Eh ((y3,(y4,())),())).bind fun (y5:((Int×Unit)×Unit)) =>
     cond (decide (y5.1.1≥(0:Int)))
      (some ((false,()),()))
      (J vN (aM Tryz.prog 83 0) ((x.1.1,((IntKind.wrap .i64 (x.1.2.1+(1:Int))),())),((),()))))
     (J vN (aM Tryz.prog 83 0) ((x.1.1,((IntKind.wrap .i64 (x.1.2.1+(1:Int))),())),((),())))))
   (some ((true,()),())):=by kernel_rfl
theorem adv(F:FT)(J:JT kA)(x:((aj×Unit)×Unit)):bW 84 kA Tryz.f84 F J x =
 J s8 (aM Tryz.prog 84 0) (((0:Int),()),(((x.1.1,()),()),())):=by kernel_rfl
theorem OX(F:FT)(J:JT kA)(x:((Int×Unit)×(((aj×Unit)×Unit)×Unit))):eW 84 0 kA Tryz.f84 s8 F J x =
  cond (decide (x.1.1<(((List.length x.2.1.1.1.1):Nat):Int)))
   (((aS x.2.1.1.1.1 x.1.1)).bind fun (y1:ai) =>
   (F 77 ov ((y1.2.1,()),())).bind fun (y2:(((List ae)×Unit)×Unit)) =>
   (F 57 Ee ((y1.2.1,y2.1),())).bind fun (y3:((Bool×Unit)×Unit)) =>
   cond (not y3.1.1)
    (some ((false,()),()))
    (J vO (aM Tryz.prog 84 1) ((x.1.1,(y1.2.1,((0:Int),()))),(((x.2.1.1.1,()),()),()))))
   (J vP (aM Tryz.prog 84 2) (((0:Int),()),(((x.2.1.1.1,()),()),()))):=by kernel_rfl
theorem OY(F:FT)(J:JT kA)(x:((Int×((List ae)×(Int×Unit)))×(((aj×Unit)×Unit)×Unit))):eW 84 1 kA Tryz.f84 vO F J x =
  cond (decide (x.1.2.2.1<(((List.length x.1.2.1):Nat):Int)))
   (((aS x.1.2.1 x.1.2.2.1)).bind fun (y4:ae) =>
   (F 21 vD ((x.2.1.1.1,(y4.1,())),())).bind fun (y5:((ah×(Bool×Unit))×Unit)) =>
   cond (not y5.1.2.1)
    (some ((false,()),()))
    (((aS x.1.2.1 x.1.2.2.1)).bind fun (y6:ae) =>
    cond (decide (y6.2<(0:Int)))
     (some ((false,()),()))
     (((aS x.1.2.1 x.1.2.2.1)).bind fun (y7:ae) =>
     cond (decide (y7.2 > (1:Int)))
      (some ((false,()),()))
      (J vO (aM Tryz.prog 84 1) ((x.1.1,(x.1.2.1,((IntKind.wrap .i64 (x.1.2.2.1+(1:Int))),()))),(((x.2.1.1.1,()),()),()))))))
   (J s8 (aM Tryz.prog 84 0) (((IntKind.wrap .i64 (x.1.1+(1:Int))),()),(((x.2.1.1.1,()),()),()))):=by kernel_rfl
end Go.Vs
