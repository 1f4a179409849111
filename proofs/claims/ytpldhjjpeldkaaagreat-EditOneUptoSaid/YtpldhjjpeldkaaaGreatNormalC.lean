/- Normal forms of the program's functions, the third part. -/
import Derived.Test.YtpldhjjpeldkaaaGreatEngineD
import Derived.KernelRfl
set_option linter.unusedVariables false
set_option maxRecDepth 1000000
set_option maxHeartbeats 0
namespace Go.Vs
open Go.Proofs
theorem OZ(F:FT)(J:JT kA)(x:((Int×Unit)×(((aj×Unit)×Unit)×Unit))):eW 84 2 kA Tryz.f84 vP F J x =
  cond (decide (x.1.1<(((List.length x.2.1.1.1.2):Nat):Int)))
   (J ta (aM Tryz.prog 84 3) ((x.1.1,((0:Int),())),(((x.2.1.1.1,()),()),())))
   (some ((true,()),())):=by kernel_rfl
theorem O0(F:FT)(J:JT kA)(x:((Int×(Int×Unit))×(((aj×Unit)×Unit)×Unit))):eW 84 3 kA Tryz.f84 ta F J x =
  cond (decide (x.1.2.1<(2:Int)))
   (((aS x.2.1.1.1.2 x.1.1)).bind fun (y8:ah) =>
   (F 105 nh ((x.2.1.1.1,((y8.1,x.1.2.1),())),())).bind fun (y9:((Int×Unit)×Unit)) =>
   cond (y9.1.1 != (1:Int))
    (some ((false,()),()))
    (J ta (aM Tryz.prog 84 3) ((x.1.1,((IntKind.wrap .i64 (x.1.2.1+(1:Int))),())),(((x.2.1.1.1,()),()),()))))
   (J vP (aM Tryz.prog 84 2) (((IntKind.wrap .i64 (x.1.1+(1:Int))),()),(((x.2.1.1.1,()),()),()))):=by kernel_rfl
theorem adw(F:FT)(J:JT F5)(x:((aj×Unit)×Unit)):bW 85 F5 Tryz.f85 F J x =
 (F 31 FV ((x.1.1,()),())).bind fun (y1:(((List (List ae))×Unit)×Unit)) =>
 J vQ (aM Tryz.prog 85 0) (((((List.length y1.1.1):Nat):Int),((0:Int),())),(((x.1.1,()),()),())):=by kernel_rfl
theorem O2(F:FT)(J:JT F5)(x:((Int×(Int×Unit))×(((aj×Unit)×Unit)×Unit))):eW 85 0 F5 Tryz.f85 vQ F J x =
  cond (decide (x.1.2.1<(((List.length x.2.1.1.1.1):Nat):Int)))
   (((aS x.2.1.1.1.1 x.1.2.1)).bind fun (y2:ai) =>
   cond ((((List.length y2.2.1):Nat):Int)==(0:Int))
    (J vQ (aM Tryz.prog 85 0) (((IntKind.wrap .i64 (x.1.1+(1:Int))),((IntKind.wrap .i64 (x.1.2.1+(1:Int))),())),(((x.2.1.1.1,()),()),())))
    (J vQ (aM Tryz.prog 85 0) ((x.1.1,((IntKind.wrap .i64 (x.1.2.1+(1:Int))),())),(((x.2.1.1.1,()),()),()))))
   ((F 32 FY ((x.2.1.1.1,()),())).bind fun (y3:((Int×Unit)×Unit)) =>
   some (((((List.length x.2.1.1.1.1):Nat):Int),((((List.length x.2.1.1.1.2):Nat):Int),(x.1.1,y3.1))),())):=by kernel_rfl
theorem adx(F:FT)(J:JT qc)(x:((ID×Unit)×Unit)):bW 86 qc Tryz.f86 F J x =
  cond (decide (x.1.1.1≥(1:Int)))
   (cond (decide (x.1.1.1≤(8:Int)))
    (cond (decide (x.1.1.2≥(1:Int)))
     (some (((decide (x.1.1.2≤(1048576:Int))),()),()))
     (some ((false,()),())))
    (some ((false,()),())))
   (some ((false,()),())):=by kernel_rfl
theorem ady(F:FT)(J:JT B8)(x:((o8×Unit)×Unit)):bW 87 B8 Tryz.f87 F J x =
  (F 86 qc ((x.1.1.1,()),())).bind fun (y1:((Bool×Unit)×Unit)) =>
  cond y1.1.1
   (cond (((x.1.1.2.1.1==(0:Int))&&(x.1.1.2.1.2==(0:Int)))&&(x.1.1.2.2==(0:Int)))
    (some ((true,()),()))
    ((F 106 Gb (((x.1.1.2.1,x.1.1.2.2),()),())).bind fun (y2:((Bool×Unit)×Unit)) =>
    some (y2.1,())))
   (some ((false,()),())):=by kernel_rfl
theorem adz(F:FT)(J:JT vF)(x:((ByteArray×Unit)×Unit)):bW 88 vF Tryz.f88 F J x =
 J vR (aM Tryz.prog 88 0) (x.1,((),((x.1.1,0),()))):=by kernel_rfl
theorem O3(F:FT)(J:JT vF)(x:((ByteArray×Unit)×(Unit×((ByteArray×Nat)×Unit)))):eW 88 0 vF Tryz.f88 vR F J x =
  cond (decide (x.2.2.1.2<(ByteArray.size x.2.2.1.1)))
   (cond (decide ((nM x.2.2.1.1 x.2.2.1.2)<(32:Int)))
    (some ((false,()),()))
    (cond (decide ((nM x.2.2.1.1 x.2.2.1.2) > (126:Int)))
     (some ((false,()),()))
     (J vR (aM Tryz.prog 88 0) (x.1,((),((x.2.2.1.1,(x.2.2.1.2+(yN x.2.2.1.1 x.2.2.1.2))),()))))))
   (some (((decide ((((ByteArray.size x.1.1):Nat):Int)≤(16:Int))),()),())):=by kernel_rfl
theorem adA(F:FT)(J:JT F6)(x:((Int×Unit)×Unit)):bW 89 F6 Tryz.f89 F J x =
  cond (decide (x.1.1≥(-1099511627776:Int)))
   (some (((decide (x.1.1≤(1099511627776:Int))),()),()))
   (some ((false,()),())):=by kernel_rfl
theorem adB(F:FT)(J:JT F7)(x:((ai×Unit)×(aE×Unit))):bW 90 F7 Tryz.f90 F J x =
  (F 107 oY ((x.1.1.1,()),((x.2.1.1,(x.2.1.2.1,x.2.1.2.2)),()))).bind fun (y1:((Int×(Bool×Unit))×(aE×Unit))) =>
  cond y1.1.2.1
   (some (((12:Int),()),((y1.2.1.1,(y1.2.1.2.1,y1.2.1.2.2)),())))
   (cond (decide ((((List.length y1.2.1.1):Nat):Int)≥(24:Int)))
    (some (((3:Int),()),((y1.2.1.1,(y1.2.1.2.1,y1.2.1.2.2)),())))
    (cond (pI y1.2.1.1 y1.1.1 ((x.1.1.1,(x.1.1.2.1,x.1.1.2.2))::([]:List ai)))
     (some (((0:Int),()),(((fE y1.2.1.1 y1.1.1 ((x.1.1.1,(x.1.1.2.1,x.1.1.2.2))::([]:List ai))),(y1.2.1.2.1,y1.2.1.2.2)),())))
     (none))):=by kernel_rfl
theorem adC(F:FT)(J:JT Oa)(x:((bY×Unit)×(aE×Unit))):bW 91 Oa Tryz.f91 F J x =
  (F 107 oY ((x.1.1.2.1,()),((x.2.1.1,(x.2.1.2.1,x.2.1.2.2)),()))).bind fun (y1:((Int×(Bool×Unit))×(aE×Unit))) =>
  cond (not y1.1.2.1)
   (some (((13:Int),()),((y1.2.1.1,(y1.2.1.2.1,y1.2.1.2.2)),())))
   (cond ((decide ((0:Int)≤y1.1.1))&&(decide (y1.1.1<(((List.length y1.2.1.1):Nat):Int))))
    (((y1.2.1.1)[(Int.toNat y1.1.1)]?).bind fun (y2:ai) =>
    cond (decide ((((List.length y2.2.1):Nat):Int) > (0:Int)))
     (some (((14:Int),()),((y1.2.1.1,(y1.2.1.2.1,y1.2.1.2.2)),())))
     (cond (jc y1.2.1.1 y1.1.1 (IntKind.wrap .i64 (y1.1.1+(1:Int))))
      (some (((0:Int),()),(((da y1.2.1.1 y1.1.1 (IntKind.wrap .i64 (y1.1.1+(1:Int)))),(y1.2.1.2.1,y1.2.1.2.2)),())))
      (none)))
    (none)):=by kernel_rfl
theorem UM(F:FT)(J:JT ng)(x:((bY×Unit)×(aE×Unit))):bW 92 ng Tryz.f92 F J x =
  cond (ot x.2.1.1 x.2.1.2.1)
   ((F 110 xd ((x.1.1.2.1,()),((x.2.1.1,(x.2.1.2.1,x.2.1.2.2)),()))).bind fun (y1:((Int×Unit)×(aE×Unit))) =>
   cond (y1.1.1 != (0:Int))
    (some (y1.1,((y1.2.1.1,(y1.2.1.2.1,y1.2.1.2.2)),())))
    ((F 111 Ac ((x.1.1.2.1,()),())).bind fun (y2:((ae×(ae×Unit))×Unit)) =>
    J ly (aM Tryz.prog 92 0) (((((List.length ((x.1.1.2.2.2.2.1.1,(x.1.1.2.2.2.2.1.2.1,x.1.1.2.2.2.2.1.2.2))::((x.1.1.2.2.2.2.2.1.1,(x.1.1.2.2.2.2.2.1.2.1,x.1.1.2.2.2.2.2.1.2.2))::([]:List o8)))):Nat):Int),((0:Int),())),(((y1.2.1.1,(y1.2.1.2.1,y1.2.1.2.2)),((((x.2.1.1,x.2.1.2.1),x.2.1.2.2.1),()),(((y2.1.1.1,y2.1.1.2),()),()))),(((y2.1.1.1,y2.1.1.2)::((y2.1.2.1.1,y2.1.2.1.2)::([]:List ae))),(((x.1.1.2.2.2.2.1.1,(x.1.1.2.2.2.2.1.2.1,x.1.1.2.2.2.2.1.2.2))::((x.1.1.2.2.2.2.2.1.1,(x.1.1.2.2.2.2.2.1.2.1,x.1.1.2.2.2.2.2.1.2.2))::([]:List o8))),()))))))
   (none):=by kernel_rfl
theorem vU(F:FT)(J:JT ng)(x:((Int×(Int×Unit))×((aE×((StateT×Unit)×((ae×Unit)×Unit)))×((List ae)×((List o8)×Unit))))):eW 92 0 ng Tryz.f92 ly F J x =
  cond (decide (x.1.2.1<x.1.1))
   (cond ((decide ((0:Int)≤x.1.2.1))&&(decide (x.1.2.1<(((List.length x.2.2.2.1):Nat):Int))))
    (((x.2.2.2.1)[(Int.toNat x.1.2.1)]?).bind fun (y3:o8) =>
    (F 112 Gc (((x.2.1.2.1.1.1,x.2.1.2.1.1.2),((y3.1,(y3.2.1,y3.2.2)),())),())).bind fun (y4:((o8×(Int×Unit))×Unit)) =>
    cond (y4.1.2.1 != (0:Int))
     (some (y4.1.2,((x.2.1.1.1,(x.2.1.1.2.1,x.2.1.1.2.2)),())))
     (cond (x.1.2.1==(1:Int))
      (cond (((y3.2.1.1==x.2.1.2.2.1.1.1.1)&&(y3.2.1.2==x.2.1.2.2.1.1.1.2))&&(y3.2.2==x.2.1.2.2.1.1.2))
       ((F 107 oY ((y3.1,()),((x.2.1.1.1,(x.2.1.1.2.1,x.2.1.1.2.2)),()))).bind fun (y5:((Int×(Bool×Unit))×(aE×Unit))) =>
       cond ((decide ((0:Int)≤y5.1.1))&&(decide (y5.1.1<(((List.length y5.2.1.1):Nat):Int))))
        (((y5.2.1.1)[(Int.toNat y5.1.1)]?).bind fun (y6:ai) =>
        cond ((decide ((0:Int)≤x.1.2.1))&&(decide (x.1.2.1<(((List.length x.2.2.1):Nat):Int))))
         (((x.2.2.1)[(Int.toNat x.1.2.1)]?).bind fun (y7:ae) =>
         (F 113 Ad ((y6.2.1,((y3.2.1,y3.2.2),((y7.1,y7.2),()))),())).bind fun (y8:(((List ae)×Unit)×Unit)) =>
         ((y5.2.1.1)[(Int.toNat y5.1.1)]?).bind fun (y9:ai) =>
         J ly (aM Tryz.prog 92 0) ((x.1.1,((IntKind.wrap .i64 (x.1.2.1+(1:Int))),())),((((List.set y5.2.1.1 (Int.toNat y5.1.1) (y9.1,(y8.1.1,y9.2.2))),(y5.2.1.2.1,y5.2.1.2.2)),(((x.2.1.2.1.1.1,x.2.1.2.1.1.2),()),(((x.2.1.2.2.1.1.1,x.2.1.2.2.1.1.2),()),()))),(x.2.2.1,x.2.2.2))))
         (none))
        (none))
       ((F 107 oY ((y4.1.1.1,()),((x.2.1.1.1,(x.2.1.1.2.1,x.2.1.1.2.2)),()))).bind fun (oC:((Int×(Bool×Unit))×(aE×Unit))) =>
       cond ((decide ((0:Int)≤oC.1.1))&&(decide (oC.1.1<(((List.length oC.2.1.1):Nat):Int))))
        (((oC.2.1.1)[(Int.toNat oC.1.1)]?).bind fun (kB:ai) =>
        cond ((decide ((0:Int)≤x.1.2.1))&&(decide (x.1.2.1<(((List.length x.2.2.1):Nat):Int))))
         (((x.2.2.1)[(Int.toNat x.1.2.1)]?).bind fun (mE:ae) =>
         (F 113 Ad ((kB.2.1,((y4.1.1.2.1,y4.1.1.2.2),((mE.1,mE.2),()))),())).bind fun (kC:(((List ae)×Unit)×Unit)) =>
         ((oC.2.1.1)[(Int.toNat oC.1.1)]?).bind fun (BI:ai) =>
         J ly (aM Tryz.prog 92 0) ((x.1.1,((IntKind.wrap .i64 (x.1.2.1+(1:Int))),())),((((List.set oC.2.1.1 (Int.toNat oC.1.1) (BI.1,(kC.1.1,BI.2.2))),(oC.2.1.2.1,oC.2.1.2.2)),(((x.2.1.2.1.1.1,x.2.1.2.1.1.2),()),(((x.2.1.2.2.1.1.1,x.2.1.2.2.1.1.2),()),()))),(x.2.2.1,x.2.2.2))))
         (none))
        (none)))
      ((F 107 oY ((y4.1.1.1,()),((x.2.1.1.1,(x.2.1.1.2.1,x.2.1.1.2.2)),()))).bind fun (r8:((Int×(Bool×Unit))×(aE×Unit))) =>
      cond ((decide ((0:Int)≤r8.1.1))&&(decide (r8.1.1<(((List.length r8.2.1.1):Nat):Int))))
       (((r8.2.1.1)[(Int.toNat r8.1.1)]?).bind fun (Q3:ai) =>
       cond ((decide ((0:Int)≤x.1.2.1))&&(decide (x.1.2.1<(((List.length x.2.2.1):Nat):Int))))
        (((x.2.2.1)[(Int.toNat x.1.2.1)]?).bind fun (RP:ae) =>
        (F 113 Ad ((Q3.2.1,((y4.1.1.2.1,y4.1.1.2.2),((RP.1,RP.2),()))),())).bind fun (Wn:(((List ae)×Unit)×Unit)) =>
        ((r8.2.1.1)[(Int.toNat r8.1.1)]?).bind fun (Tx:ai) =>
        J ly (aM Tryz.prog 92 0) ((x.1.1,((IntKind.wrap .i64 (x.1.2.1+(1:Int))),())),((((List.set r8.2.1.1 (Int.toNat r8.1.1) (Tx.1,(Wn.1.1,Tx.2.2))),(r8.2.1.2.1,r8.2.1.2.2)),(((x.2.1.2.1.1.1,x.2.1.2.1.1.2),()),(((x.2.1.2.2.1.1.1,x.2.1.2.2.1.1.2),()),()))),(x.2.2.1,x.2.2.2))))
        (none))
       (none))))
    (none))
   ((F 114 Ae (((x.2.1.1.1,x.2.1.1.2.1),()),())).bind fun (Gr:((Bool×Unit)×Unit)) =>
   cond (not Gr.1.1)
    (some (((15:Int),()),((x.2.1.1.1,(x.2.1.1.2.1,x.2.1.1.2.2)),())))
    (some (((0:Int),()),((x.2.1.1.1,(x.2.1.1.2.1,x.2.1.1.2.2)),())))):=by kernel_rfl
theorem XF(F:FT)(J:JT Ab)(x:((bY×Unit)×(aE×Unit))):bW 93 Ab Tryz.f93 F J x =
  (F 115 l8 ((x.1.1.2.1,()),((x.2.1.1,(x.2.1.2.1,x.2.1.2.2)),()))).bind fun (y1:((Int×(Bool×Unit))×(aE×Unit))) =>
  cond (not y1.1.2.1)
   (some (((13:Int),()),((y1.2.1.1,(y1.2.1.2.1,y1.2.1.2.2)),())))
   ((F 111 Ac ((x.1.1.2.1,()),())).bind fun (y2:((ae×(ae×Unit))×Unit)) =>
   J Ek (aM Tryz.prog 93 0) ((y1.1.1,((((List.length ((y2.1.1.1,y2.1.1.2)::((y2.1.2.1.1,y2.1.2.1.2)::([]:List ae)))):Nat):Int),((0:Int),()))),(((y1.2.1.1,(y1.2.1.2.1,y1.2.1.2.2)),(((y2.1.1.1,y2.1.1.2),()),(((y2.1.2.1.1,y2.1.2.1.2),()),()))),(((y2.1.1.1,y2.1.1.2)::((y2.1.2.1.1,y2.1.2.1.2)::([]:List ae))),())))):=by kernel_rfl
theorem IP(F:FT)(J:JT Ab)(x:((Int×(Int×(Int×Unit)))×((aE×((ae×Unit)×((ae×Unit)×Unit)))×((List ae)×Unit)))):eW 93 0 Ab Tryz.f93 Ek F J x =
  cond (decide (x.1.2.2.1<x.1.2.1))
   (cond ((decide ((0:Int)≤x.1.2.2.1))&&(decide (x.1.2.2.1<(((List.length x.2.2.1):Nat):Int))))
    (((x.2.2.1)[(Int.toNat x.1.2.2.1)]?).bind fun (y3:ae) =>
    (F 117 Ag (((y3.1,y3.2),()),((x.2.1.1.1,(x.2.1.1.2.1,x.2.1.1.2.2)),()))).bind fun (y4:((ae×Unit)×(aE×Unit))) =>
    (F 116 Af (((y3.1,y3.2),((y4.1.1.1,y4.1.1.2),())),((y4.2.1.1,(y4.2.1.2.1,y4.2.1.2.2)),()))).bind fun (y5:(Unit×(aE×Unit))) =>
    J Ek (aM Tryz.prog 93 0) ((x.1.1,(x.1.2.1,((IntKind.wrap .i64 (x.1.2.2.1+(1:Int))),()))),(((y5.2.1.1,(y5.2.1.2.1,y5.2.1.2.2)),(((x.2.1.2.1.1.1,x.2.1.2.1.1.2),()),(((x.2.1.2.2.1.1.1,x.2.1.2.2.1.1.2),()),()))),x.2.2)))
    (none))
   (J vS (aM Tryz.prog 93 1) ((x.1.1,((((List.length ((x.2.1.2.1.1.1,x.2.1.2.1.1.2)::((x.2.1.2.2.1.1.1,x.2.1.2.2.1.1.2)::([]:List ae)))):Nat):Int),((0:Int),()))),(((x.2.1.1.1,(x.2.1.1.2.1,x.2.1.1.2.2)),()),(((x.2.1.2.1.1.1,x.2.1.2.1.1.2)::((x.2.1.2.2.1.1.1,x.2.1.2.2.1.1.2)::([]:List ae))),())))):=by kernel_rfl
theorem IQ(F:FT)(J:JT Ab)(x:((Int×(Int×(Int×Unit)))×((aE×Unit)×((List ae)×Unit)))):eW 93 1 Ab Tryz.f93 vS F J x =
  cond (decide (x.1.2.2.1<x.1.2.1))
   (cond ((decide ((0:Int)≤x.1.2.2.1))&&(decide (x.1.2.2.1<(((List.length x.2.2.1):Nat):Int))))
    (((x.2.2.1)[(Int.toNat x.1.2.2.1)]?).bind fun (y6:ae) =>
    (F 118 lr (((y6.1,y6.2),()),((x.2.1.1.1,(x.2.1.1.2.1,x.2.1.1.2.2)),()))).bind fun (y7:(((Option ((Fin 1)×Nat))×Unit)×(aE×Unit))) =>
    pH y7.1.1
     (none) fun (p8:((Fin 1)×Nat)) =>
    cond (p8.1.val==0)
     (((y7.2.1.1)[p8.2]?).bind fun (y9:ai) =>
     (F 119 Gd ((y9.2.1,((y6.1,y6.2),())),())).bind fun (oC:(((List ae)×Unit)×Unit)) =>
     ((y7.2.1.1)[p8.2]?).bind fun (kB:ai) =>
     J vS (aM Tryz.prog 93 1) ((x.1.1,(x.1.2.1,((IntKind.wrap .i64 (x.1.2.2.1+(1:Int))),()))),((((List.set y7.2.1.1 p8.2 (kB.1,(oC.1.1,kB.2.2))),(y7.2.1.2.1,y7.2.1.2.2)),()),x.2.2)))
     (none))
    (none))
   (cond (jc x.2.1.1.2.1 x.1.1 (IntKind.wrap .i64 (x.1.1+(1:Int))))
    (some (((0:Int),()),((x.2.1.1.1,((da x.2.1.1.2.1 x.1.1 (IntKind.wrap .i64 (x.1.1+(1:Int)))),x.2.1.1.2.2)),())))
    (none)):=by kernel_rfl
theorem RQ(F:FT)(J:JT xM)(x:((bY×Unit)×(aE×Unit))):bW 94 xM Tryz.f94 F J x =
  (F 115 l8 ((x.1.1.2.1,()),((x.2.1.1,(x.2.1.2.1,x.2.1.2.2)),()))).bind fun (y1:((Int×(Bool×Unit))×(aE×Unit))) =>
  (F 107 oY ((x.1.1.2.2.1,()),((y1.2.1.1,(y1.2.1.2.1,y1.2.1.2.2)),()))).bind fun (y2:((Int×(Bool×Unit))×(aE×Unit))) =>
  (F 115 l8 ((x.1.1.2.2.2.1,()),((y2.2.1.1,(y2.2.1.2.1,y2.2.1.2.2)),()))).bind fun (y3:((Int×(Bool×Unit))×(aE×Unit))) =>
  cond (not y1.1.2.1)
   (some (((13:Int),()),((y3.2.1.1,(y3.2.1.2.1,y3.2.1.2.2)),())))
   (cond y2.1.2.1
    (some (((12:Int),()),((y3.2.1.1,(y3.2.1.2.1,y3.2.1.2.2)),())))
    (cond y3.1.2.1
     (some (((12:Int),()),((y3.2.1.1,(y3.2.1.2.1,y3.2.1.2.2)),())))
     (cond (decide ((1:Int)<(0:Int)))
      (none)
      ((F 118 lr (((x.1.1.2.1,(eF .xor .i64 (1:Int) (eF .and .i64 x.1.1.2.2.2.2.2.2.2.2 (1:Int)))),()),((y3.2.1.1,(y3.2.1.2.1,y3.2.1.2.2)),()))).bind fun (y4:(((Option ((Fin 1)×Nat))×Unit)×(aE×Unit))) =>
      pH y4.1.1
       (none) fun (p5:((Fin 1)×Nat)) =>
      cond (p5.1.val==0)
       (((y4.2.1.1)[p5.2]?).bind fun (y6:ai) =>
       (F 122 ni (((x.1.1.2.2.2.1,(kx .i64 x.1.1.2.2.2.2.2.2.2.2 (1:Int))),()),())).bind fun (y7:((ae×Unit)×Unit)) =>
       (F 121 rZ ((y6.2.1,((x.1.1.2.1,(eF .xor .i64 (1:Int) (eF .and .i64 x.1.1.2.2.2.2.2.2.2.2 (1:Int)))),((y7.1.1.1,y7.1.1.2),()))),())).bind fun (y8:(((List ae)×Unit)×Unit)) =>
       ((y4.2.1.1)[p5.2]?).bind fun (y9:ai) =>
       (F 123 qe ((((x.1.1.2.1,(eF .xor .i64 (1:Int) (eF .and .i64 x.1.1.2.2.2.2.2.2.2.2 (1:Int))))::((x.1.1.2.2.2.1,(kx .i64 x.1.1.2.2.2.2.2.2.2.2 (1:Int)))::([]:List ae))),()),())).bind fun (oC:(((List ae)×Unit)×Unit)) =>
       (F 90 F7 (((x.1.1.2.2.1,(oC.1.1,((⟨#[]⟩:ByteArray),(0:Int)))),()),(((List.set y4.2.1.1 p5.2 (y9.1,(y8.1.1,y9.2.2))),(y4.2.1.2.1,y4.2.1.2.2)),()))).bind fun (kB:((Int×Unit)×(aE×Unit))) =>
       cond (kB.1.1 != (0:Int))
        (some (kB.1,((kB.2.1.1,(kB.2.1.2.1,kB.2.1.2.2)),())))
        ((F 110 xd ((x.1.1.2.2.2.1,()),((kB.2.1.1,(kB.2.1.2.1,kB.2.1.2.2)),()))).bind fun (mE:((Int×Unit)×(aE×Unit))) =>
        some (mE.1,((mE.2.1.1,(mE.2.1.2.1,mE.2.1.2.2)),()))))
       (none))))):=by kernel_rfl
theorem XG(F:FT)(J:JT qd)(x:((bY×Unit)×(aE×Unit))):bW 95 qd Tryz.f95 F J x =
  (F 107 oY ((x.1.1.2.1,()),((x.2.1.1,(x.2.1.2.1,x.2.1.2.2)),()))).bind fun (y1:((Int×(Bool×Unit))×(aE×Unit))) =>
  cond (not y1.1.2.1)
   (some (((13:Int),()),((y1.2.1.1,(y1.2.1.2.1,y1.2.1.2.2)),())))
   (cond ((decide ((0:Int)≤y1.1.1))&&(decide (y1.1.1<(((List.length y1.2.1.1):Nat):Int))))
    (((y1.2.1.1)[(Int.toNat y1.1.1)]?).bind fun (y2:ai) =>
    cond ((((List.length y2.2.1):Nat):Int) != (2:Int))
     (some (((14:Int),()),((y1.2.1.1,(y1.2.1.2.1,y1.2.1.2.2)),())))
     (((aS y2.2.1 (0:Int))).bind fun (y3:ae) =>
     ((aS y2.2.1 (1:Int))).bind fun (y4:ae) =>
     cond ((y3.1.1==y4.1.1)&&(y3.1.2==y4.1.2))
      (some (((14:Int),()),((y1.2.1.1,(y1.2.1.2.1,y1.2.1.2.2)),())))
      (((aS y2.2.1 (0:Int))).bind fun (y5:ae) =>
      ((aS y2.2.1 (1:Int))).bind fun (y6:ae) =>
      cond ((y5.1.1==x.1.1.2.2.2.1.1)&&(y5.1.2==x.1.1.2.2.2.1.2))
       (cond (not ((y5.1.1==x.1.1.2.2.2.1.1)&&(y5.1.2==x.1.1.2.2.2.1.2)))
        (some (((14:Int),()),((y1.2.1.1,(y1.2.1.2.1,y1.2.1.2.2)),())))
        ((F 122 ni (((y5.1,y5.2),()),())).bind fun (y7:((ae×Unit)×Unit)) =>
        cond (jc y1.2.1.1 y1.1.1 (IntKind.wrap .i64 (y1.1.1+(1:Int))))
         ((F 118 lr (((y7.1.1.1,y7.1.1.2),()),(((da y1.2.1.1 y1.1.1 (IntKind.wrap .i64 (y1.1.1+(1:Int)))),(y1.2.1.2.1,y1.2.1.2.2)),()))).bind fun (y8:(((Option ((Fin 1)×Nat))×Unit)×(aE×Unit))) =>
         pH y8.1.1
          (none) fun (p9:((Fin 1)×Nat)) =>
         cond (p9.1.val==0)
          (((y8.2.1.1)[p9.2]?).bind fun (oC:ai) =>
          (F 121 rZ ((oC.2.1,((y7.1.1.1,y7.1.1.2),((y6.1,y6.2),()))),())).bind fun (kB:(((List ae)×Unit)×Unit)) =>
          ((y8.2.1.1)[p9.2]?).bind fun (mE:ai) =>
          (F 115 l8 ((y5.1,()),(((List.set y8.2.1.1 p9.2 (mE.1,(kB.1.1,mE.2.2))),(y8.2.1.2.1,y8.2.1.2.2)),()))).bind fun (kC:((Int×(Bool×Unit))×(aE×Unit))) =>
          cond (jc kC.2.1.2.1 kC.1.1 (IntKind.wrap .i64 (kC.1.1+(1:Int))))
           (J mD (aM Tryz.prog 95 0) (((0:Int),()),(((kC.2.1.1,((da kC.2.1.2.1 kC.1.1 (IntKind.wrap .i64 (kC.1.1+(1:Int)))),kC.2.1.2.2)),(((y6.1,y6.2),()),(((y5.1,y5.2),()),(((y7.1.1.1,y7.1.1.2),()),())))),())))
           (none))
          (none))
         (none)))
       (cond (not ((y6.1.1==x.1.1.2.2.2.1.1)&&(y6.1.2==x.1.1.2.2.2.1.2)))
        (some (((14:Int),()),((y1.2.1.1,(y1.2.1.2.1,y1.2.1.2.2)),())))
        ((F 122 ni (((y6.1,y6.2),()),())).bind fun (BI:((ae×Unit)×Unit)) =>
        cond (jc y1.2.1.1 y1.1.1 (IntKind.wrap .i64 (y1.1.1+(1:Int))))
         ((F 118 lr (((BI.1.1.1,BI.1.1.2),()),(((da y1.2.1.1 y1.1.1 (IntKind.wrap .i64 (y1.1.1+(1:Int)))),(y1.2.1.2.1,y1.2.1.2.2)),()))).bind fun (r8:(((Option ((Fin 1)×Nat))×Unit)×(aE×Unit))) =>
         pH r8.1.1
          (none) fun (p16:((Fin 1)×Nat)) =>
         cond (p16.1.val==0)
          (((r8.2.1.1)[p16.2]?).bind fun (RP:ai) =>
          (F 121 rZ ((RP.2.1,((BI.1.1.1,BI.1.1.2),((y5.1,y5.2),()))),())).bind fun (Wn:(((List ae)×Unit)×Unit)) =>
          ((r8.2.1.1)[p16.2]?).bind fun (Tx:ai) =>
          (F 115 l8 ((y6.1,()),(((List.set r8.2.1.1 p16.2 (Tx.1,(Wn.1.1,Tx.2.2))),(r8.2.1.2.1,r8.2.1.2.2)),()))).bind fun (Gr:((Int×(Bool×Unit))×(aE×Unit))) =>
          cond (jc Gr.2.1.2.1 Gr.1.1 (IntKind.wrap .i64 (Gr.1.1+(1:Int))))
           (J mD (aM Tryz.prog 95 0) (((0:Int),()),(((Gr.2.1.1,((da Gr.2.1.2.1 Gr.1.1 (IntKind.wrap .i64 (Gr.1.1+(1:Int)))),Gr.2.1.2.2)),(((y5.1,y5.2),()),(((y6.1,y6.2),()),(((BI.1.1.1,BI.1.1.2),()),())))),())))
           (none))
          (none))
         (none))))))
    (none)):=by kernel_rfl
theorem vV(F:FT)(J:JT qd)(x:((Int×Unit)×((aE×((ae×Unit)×((ae×Unit)×((ae×Unit)×Unit))))×Unit))):eW 95 0 qd Tryz.f95 mD F J x =
  cond (decide (x.1.1<(2:Int)))
   (cond (x.2.1.2.2.1.1.2==x.1.1)
    ((F 116 Af (((x.2.1.2.2.1.1.1,x.2.1.2.2.1.1.2),((((0:Int),(0:Int)),(0:Int)),())),((x.2.1.1.1,(x.2.1.1.2.1,x.2.1.1.2.2)),()))).bind fun (XD:(Unit×(aE×Unit))) =>
    J mD (aM Tryz.prog 95 0) (((IntKind.wrap .i64 (x.1.1+(1:Int))),()),(((XD.2.1.1,(XD.2.1.2.1,XD.2.1.2.2)),(((x.2.1.2.1.1.1,x.2.1.2.1.1.2),()),(((x.2.1.2.2.1.1.1,x.2.1.2.2.1.1.2),()),(((x.2.1.2.2.2.1.1.1,x.2.1.2.2.2.1.1.2),()),())))),())))
    ((F 116 Af (((x.2.1.2.2.2.1.1.1,x.2.1.2.2.2.1.1.2),((x.2.1.2.1.1.1,x.2.1.2.1.1.2),())),((x.2.1.1.1,(x.2.1.1.2.1,x.2.1.1.2.2)),()))).bind fun (XE:(Unit×(aE×Unit))) =>
    J mD (aM Tryz.prog 95 0) (((IntKind.wrap .i64 (x.1.1+(1:Int))),()),(((XE.2.1.1,(XE.2.1.2.1,XE.2.1.2.2)),(((x.2.1.2.1.1.1,x.2.1.2.1.1.2),()),(((x.2.1.2.2.1.1.1,x.2.1.2.2.1.1.2),()),(((x.2.1.2.2.2.1.1.1,x.2.1.2.2.2.1.1.2),()),())))),()))))
   (some (((0:Int),()),((x.2.1.1.1,(x.2.1.1.2.1,x.2.1.1.2.2)),()))):=by kernel_rfl
theorem adD(F:FT)(J:JT Oc)(x:((bY×Unit)×(aE×Unit))):bW 96 Oc Tryz.f96 F J x =
  (F 124 Ge (((x.1.1.1,(x.1.1.2.1,(x.1.1.2.2.1,(x.1.1.2.2.2.1,((x.1.1.2.2.2.2.1.1,(x.1.1.2.2.2.2.1.2.1,x.1.1.2.2.2.2.1.2.2)),((x.1.1.2.2.2.2.2.1.1,(x.1.1.2.2.2.2.2.1.2.1,x.1.1.2.2.2.2.2.1.2.2)),(x.1.1.2.2.2.2.2.2.1,x.1.1.2.2.2.2.2.2.2))))))),()),((x.2.1.1,(x.2.1.2.1,x.2.1.2.2)),()))).bind fun (y1:(((Option ((Fin 2)×Nat))×((Option ((Fin 2)×Nat))×Unit))×(aE×Unit))) =>
  pH y1.1.1
   (pH y1.1.2.1
    (some (((13:Int),()),((y1.2.1.1,(y1.2.1.2.1,y1.2.1.2.2)),()))) fun (p2:((Fin 2)×Nat)) =>
   cond (p2.1.val==0)
    (some (((13:Int),()),((y1.2.1.1,(y1.2.1.2.1,y1.2.1.2.2)),())))
    (cond (p2.1.val==1)
    (some (((13:Int),()),((y1.2.1.1,(y1.2.1.2.1,y1.2.1.2.2)),())))
    (none))) fun (p3:((Fin 2)×Nat)) =>
  cond (p3.1.val==0)
   (pH y1.1.2.1
    (cond (x.1.1.1==(7:Int))
     (((y1.2.1.1)[p3.2]?).bind fun (oC:ai) =>
     some (((0:Int),()),(((List.set y1.2.1.1 p3.2 (oC.1,(oC.2.1,(x.1.1.2.2.2.2.2.2.2.1,oC.2.2.2)))),(y1.2.1.2.1,y1.2.1.2.2)),())))
     (none)) fun (Wo:((Fin 2)×Nat)) =>
   cond (Wo.1.val==0)
    (cond (x.1.1.1==(7:Int))
     (((y1.2.1.1)[p3.2]?).bind fun (BI:ai) =>
     some (((0:Int),()),(((List.set y1.2.1.1 p3.2 (BI.1,(BI.2.1,(x.1.1.2.2.2.2.2.2.2.1,BI.2.2.2)))),(y1.2.1.2.1,y1.2.1.2.2)),())))
     (((y1.2.1.1)[Wo.2]?).bind fun (r8:ai) =>
     some (((0:Int),()),(((List.set y1.2.1.1 Wo.2 (r8.1,(r8.2.1,(r8.2.2.1,x.1.1.2.2.2.2.2.2.2.2)))),(y1.2.1.2.1,y1.2.1.2.2)),()))))
    (cond (Wo.1.val==1)
    (cond (x.1.1.1==(7:Int))
     (((y1.2.1.1)[p3.2]?).bind fun (mE:ai) =>
     some (((0:Int),()),(((List.set y1.2.1.1 p3.2 (mE.1,(mE.2.1,(x.1.1.2.2.2.2.2.2.2.1,mE.2.2.2)))),(y1.2.1.2.1,y1.2.1.2.2)),())))
     (((y1.2.1.2.1)[Wo.2]?).bind fun (kC:ah) =>
     some (((0:Int),()),((y1.2.1.1,((List.set y1.2.1.2.1 Wo.2 (kC.1,(kC.2.1,x.1.1.2.2.2.2.2.2.2.2))),y1.2.1.2.2)),()))))
    (none)))
   (cond (p3.1.val==1)
   (pH y1.1.2.1
    (cond (x.1.1.1==(7:Int))
     (((y1.2.1.2.1)[p3.2]?).bind fun (y4:ah) =>
     some (((0:Int),()),((y1.2.1.1,((List.set y1.2.1.2.1 p3.2 (y4.1,(x.1.1.2.2.2.2.2.2.2.1,y4.2.2))),y1.2.1.2.2)),())))
     (none)) fun (p5:((Fin 2)×Nat)) =>
   cond (p5.1.val==0)
    (cond (x.1.1.1==(7:Int))
     (((y1.2.1.2.1)[p3.2]?).bind fun (y8:ah) =>
     some (((0:Int),()),((y1.2.1.1,((List.set y1.2.1.2.1 p3.2 (y8.1,(x.1.1.2.2.2.2.2.2.2.1,y8.2.2))),y1.2.1.2.2)),())))
     (((y1.2.1.1)[p5.2]?).bind fun (y9:ai) =>
     some (((0:Int),()),(((List.set y1.2.1.1 p5.2 (y9.1,(y9.2.1,(y9.2.2.1,x.1.1.2.2.2.2.2.2.2.2)))),(y1.2.1.2.1,y1.2.1.2.2)),()))))
    (cond (p5.1.val==1)
    (cond (x.1.1.1==(7:Int))
     (((y1.2.1.2.1)[p3.2]?).bind fun (y6:ah) =>
     some (((0:Int),()),((y1.2.1.1,((List.set y1.2.1.2.1 p3.2 (y6.1,(x.1.1.2.2.2.2.2.2.2.1,y6.2.2))),y1.2.1.2.2)),())))
     (((y1.2.1.2.1)[p5.2]?).bind fun (y7:ah) =>
     some (((0:Int),()),((y1.2.1.1,((List.set y1.2.1.2.1 p5.2 (y7.1,(y7.2.1,x.1.1.2.2.2.2.2.2.2.2))),y1.2.1.2.2)),()))))
    (none)))
   (none)):=by kernel_rfl
theorem adE(F:FT)(J:JT Od)(x:((ae×Unit)×Unit)):bW 97 Od Tryz.f97 F J x =
  (F 19 xC ((x.1.1.1,()),())).bind fun (y1:((Bool×Unit)×Unit)) =>
  cond y1.1.1
   (cond (x.1.1.2==(0:Int))
    (some ((true,()),()))
    (some (((x.1.1.2==(1:Int)),()),())))
   (some ((false,()),())):=by kernel_rfl
theorem adF(F:FT)(J:JT F8)(x:((StateT×(ae×Unit))×Unit)):bW 98 F8 Tryz.f98 F J x =
 J AG (aM Tryz.prog 98 0) (((0:Int),()),((((x.1.1.1,x.1.1.2),()),(((x.1.2.1.1,x.1.2.1.2),()),(((((0:Int),(0:Int)),(0:Int)),()),()))),())):=by kernel_rfl
theorem O4(F:FT)(J:JT F8)(x:((Int×Unit)×(((StateT×Unit)×((ae×Unit)×((ae×Unit)×Unit)))×Unit))):eW 98 0 F8 Tryz.f98 AG F J x =
  cond (decide (x.1.1≤(((List.length x.2.1.1.1.2):Nat):Int)))
   ((F 20 sZ ((x.2.1.1.1.1,((x.2.1.2.1.1.1,x.2.1.2.1.1.2),())),())).bind fun (y1:((ID×(Bool×Unit))×Unit)) =>
   cond y1.1.2.1
    (some (((x.2.1.2.1.1.1,x.2.1.2.1.1.2),()),()))
    ((F 101 rY ((x.2.1.1.1.2,((x.2.1.2.1.1.1,x.2.1.2.1.1.2),())),())).bind fun (y2:((ae×(Bool×Unit))×Unit)) =>
    cond (not y2.1.2.1)
     (some (((((0:Int),(0:Int)),(0:Int)),()),()))
     (J AG (aM Tryz.prog 98 0) (((IntKind.wrap .i64 (x.1.1+(1:Int))),()),((((x.2.1.1.1.1,x.2.1.1.1.2),()),(((y2.1.1.1,y2.1.1.2),()),(((x.2.1.2.2.1.1.1,x.2.1.2.2.1.1.2),()),()))),())))))
   (some (((((0:Int),(0:Int)),(0:Int)),()),())):=by kernel_rfl
theorem adG(F:FT)(J:JT B9)(x:((aj×(ID×((List ae)×Unit)))×Unit)):bW 99 B9 Tryz.f99 F J x =
 (F 38 B4 ((x.1.1,()),())).bind fun (y1:((((List ai)×((List ah)×Unit))×Unit)×Unit)) =>
 J vT (aM Tryz.prog 99 0) ((x.1.2.2.1,((0:Int),())),(((x.1.2.1,()),((([]:List ai),(([]:List ah),())),((y1.1.1.1,y1.1.1.2),()))),())):=by kernel_rfl
theorem O5(F:FT)(J:JT B9)(x:(((List ae)×(Int×Unit))×(((ID×Unit)×(((List ai)×((List ah)×Unit))×(((List ai)×((List ah)×Unit))×Unit)))×Unit))):eW 99 0 B9 Tryz.f99 vT F J x =
  cond (decide (x.1.2.1<(((List.length x.2.1.2.2.1.1):Nat):Int)))
   (cond ((decide ((0:Int)≤x.1.2.1))&&(decide (x.1.2.1<(((List.length x.2.1.2.2.1.1):Nat):Int))))
    (((x.2.1.2.2.1.1)[(Int.toNat x.1.2.1)]?).bind fun (y2:ai) =>
    cond ((y2.1.1==x.2.1.1.1.1)&&(y2.1.2==x.2.1.1.1.2))
     (cond ((decide ((0:Int)≤x.1.2.1))&&(decide (x.1.2.1<(((List.length x.2.1.2.2.1.1):Nat):Int))))
      (((x.2.1.2.2.1.1)[(Int.toNat x.1.2.1)]?).bind fun (y3:ai) =>
      J vT (aM Tryz.prog 99 0) ((x.1.1,((IntKind.wrap .i64 (x.1.2.1+(1:Int))),())),(((x.2.1.1.1,()),((x.2.1.2.1.1,x.2.1.2.1.2),(((List.set x.2.1.2.2.1.1 (Int.toNat x.1.2.1) (y3.1,(x.1.1,y3.2.2))),x.2.1.2.2.1.2),()))),())))
      (none))
     (J vT (aM Tryz.prog 99 0) ((x.1.1,((IntKind.wrap .i64 (x.1.2.1+(1:Int))),())),(((x.2.1.1.1,()),((x.2.1.2.1.1,x.2.1.2.1.2),((x.2.1.2.2.1.1,x.2.1.2.2.1.2),()))),()))))
    (none))
   (some (((x.2.1.2.2.1.1,x.2.1.2.2.1.2.1),()),())):=by kernel_rfl
theorem XH(F:FT)(J:JT w9)(x:(((List ae)×(ae×(ae×Unit)))×Unit)):bW 100 w9 Tryz.f100 F J x =
  (F 24 qb ((x.1.1,((x.1.2.2.1.1,x.1.2.2.1.2),())),())).bind fun (y1:((Int×Unit)×Unit)) =>
  cond (decide (y1.1.1≥(0:Int)))
   ((F 77 ov ((x.1.1,()),())).bind fun (y2:(((List ae)×Unit)×Unit)) =>
   some (y2.1,()))
   ((F 24 qb ((x.1.1,((x.1.2.1.1,x.1.2.1.2),())),())).bind fun (y3:((Int×Unit)×Unit)) =>
   J qV (aM Tryz.prog 100 0) ((x.1.1,((max (0:Int) y3.1.1:Int),((0:Int),()))),((((x.1.2.2.1.1,x.1.2.2.1.2),()),()),(([]:List ae),())))):=by kernel_rfl
theorem JY(F:FT)(J:JT w9)(x:(((List ae)×(Int×(Int×Unit)))×(((ae×Unit)×Unit)×((List ae)×Unit)))):eW 100 0 w9 Tryz.f100 qV F J x =
  cond (decide (x.1.2.2.1<(((List.length x.1.1):Nat):Int)))
   (((aS x.1.1 x.1.2.2.1)).bind fun (y4:ae) =>
   cond (aO (List.length x.2.2.1) (List.length ((y4.1,y4.2)::([]:List ae))))
    (cond (x.1.2.2.1==x.1.2.1)
     (cond (aO (List.length (x.2.2.1++((y4.1,y4.2)::([]:List ae)))) (List.length ((x.2.1.1.1.1,x.2.1.1.1.2)::([]:List ae))))
      (J qV (aM Tryz.prog 100 0) ((x.1.1,(x.1.2.1,((IntKind.wrap .i64 (x.1.2.2.1+(1:Int))),()))),((((x.2.1.1.1.1,x.2.1.1.1.2),()),()),(((x.2.2.1++((y4.1,y4.2)::([]:List ae)))++((x.2.1.1.1.1,x.2.1.1.1.2)::([]:List ae))),()))))
      (none))
     (J qV (aM Tryz.prog 100 0) ((x.1.1,(x.1.2.1,((IntKind.wrap .i64 (x.1.2.2.1+(1:Int))),()))),((((x.2.1.1.1.1,x.2.1.1.1.2),()),()),((x.2.2.1++((y4.1,y4.2)::([]:List ae))),())))))
    (none))
   (cond ((((List.length x.1.1):Nat):Int)==(0:Int))
    (cond (aO (List.length x.2.2.1) (List.length ((x.2.1.1.1.1,x.2.1.1.1.2)::([]:List ae))))
     ((F 77 ov (((x.2.2.1++((x.2.1.1.1.1,x.2.1.1.1.2)::([]:List ae))),()),())).bind fun (y5:(((List ae)×Unit)×Unit)) =>
     some (y5.1,()))
     (none))
    ((F 77 ov (x.2.2,())).bind fun (y6:(((List ae)×Unit)×Unit)) =>
    some (y6.1,()))):=by kernel_rfl
theorem XI(F:FT)(J:JT rY)(x:(((List an)×(ae×Unit))×Unit)):bW 101 rY Tryz.f101 F J x =
 J uo (aM Tryz.prog 101 0) ((x.1.1,((0:Int),())),((((x.1.2.1.1,x.1.2.1.2),()),(((((0:Int),(0:Int)),(0:Int)),()),())),())):=by kernel_rfl
theorem JZ(F:FT)(J:JT rY)(x:(((List an)×(Int×Unit))×(((ae×Unit)×((ae×Unit)×Unit))×Unit))):eW 101 0 rY Tryz.f101 uo F J x =
  cond (decide (x.1.2.1<(((List.length x.1.1):Nat):Int)))
   (((aS x.1.1 x.1.2.1)).bind fun (y1:an) =>
   cond (((y1.1.1.1==x.2.1.1.1.1.1)&&(y1.1.1.2==x.2.1.1.1.1.2))&&(y1.1.2==x.2.1.1.1.2))
    (((aS x.1.1 x.1.2.1)).bind fun (y2:an) =>
    some (((y2.2.1,y2.2.2),(true,())),()))
    (J uo (aM Tryz.prog 101 0) ((x.1.1,((IntKind.wrap .i64 (x.1.2.1+(1:Int))),())),((((x.2.1.1.1.1,x.2.1.1.1.2),()),(((x.2.1.2.1.1.1,x.2.1.2.1.1.2),()),())),()))))
   (some (((((0:Int),(0:Int)),(0:Int)),(false,())),())):=by kernel_rfl
theorem XJ(F:FT)(J:JT xc)(x:(((List ae)×(ae×Unit))×Unit)):bW 102 xc Tryz.f102 F J x =
 J qW (aM Tryz.prog 102 0) ((x.1.1,((0:Int),())),((((x.1.2.1.1,x.1.2.1.2),()),()),(([]:List ae),()))):=by kernel_rfl
theorem J0(F:FT)(J:JT xc)(x:(((List ae)×(Int×Unit))×(((ae×Unit)×Unit)×((List ae)×Unit)))):eW 102 0 xc Tryz.f102 qW F J x =
  cond (decide (x.1.2.1<(((List.length x.1.1):Nat):Int)))
   (((aS x.1.1 x.1.2.1)).bind fun (y1:ae) =>
   cond (not (((y1.1.1==x.2.1.1.1.1.1)&&(y1.1.2==x.2.1.1.1.1.2))&&(y1.2==x.2.1.1.1.2)))
    (((aS x.1.1 x.1.2.1)).bind fun (y2:ae) =>
    cond (aO (List.length x.2.2.1) (List.length ((y2.1,y2.2)::([]:List ae))))
     (J qW (aM Tryz.prog 102 0) ((x.1.1,((IntKind.wrap .i64 (x.1.2.1+(1:Int))),())),((((x.2.1.1.1.1,x.2.1.1.1.2),()),()),((x.2.2.1++((y2.1,y2.2)::([]:List ae))),()))))
     (none))
    (J qW (aM Tryz.prog 102 0) ((x.1.1,((IntKind.wrap .i64 (x.1.2.1+(1:Int))),())),((((x.2.1.1.1.1,x.2.1.1.1.2),()),()),x.2.2))))
   ((F 77 ov (x.2.2,())).bind fun (y3:(((List ae)×Unit)×Unit)) =>
   some (y3.1,())):=by kernel_rfl
theorem XK(F:FT)(J:JT F9)(x:(((List ae)×(ae×(ae×Unit)))×Unit)):bW 103 F9 Tryz.f103 F J x =
  cond (aO (List.length ([]:List ae)) (List.length x.1.1))
   ((F 24 qb ((x.1.1,((x.1.2.1.1,x.1.2.1.2),())),())).bind fun (y1:((Int×Unit)×Unit)) =>
   cond (decide (y1.1.1≥(0:Int)))
    ((F 24 qb ((x.1.1,((x.1.2.2.1.1,x.1.2.2.1.2),())),())).bind fun (y2:((Int×Unit)×Unit)) =>
    cond (decide (y2.1.1<(0:Int)))
     (cond ((decide ((0:Int)≤y1.1.1))&&(decide (y1.1.1<(((List.length (([]:List ae)++x.1.1)):Nat):Int))))
      ((((([]:List ae)++x.1.1))[(Int.toNat y1.1.1)]?).bind fun (y3:ae) =>
      (F 77 ov (((List.set (([]:List ae)++x.1.1) (Int.toNat y1.1.1) (x.1.2.2.1.1,x.1.2.2.1.2)),()),())).bind fun (y4:(((List ae)×Unit)×Unit)) =>
      some (y4.1,()))
      (none))
     ((F 77 ov (((([]:List ae)++x.1.1),()),())).bind fun (y5:(((List ae)×Unit)×Unit)) =>
     some (y5.1,())))
    ((F 77 ov (((([]:List ae)++x.1.1),()),())).bind fun (y6:(((List ae)×Unit)×Unit)) =>
    some (y6.1,())))
   (none):=by kernel_rfl
theorem XL(F:FT)(J:JT Ga)(x:(((List ae)×(ae×Unit))×Unit)):bW 104 Ga Tryz.f104 F J x =
  (F 24 qb ((x.1.1,((x.1.2.1.1,x.1.2.1.2),())),())).bind fun (y1:((Int×Unit)×Unit)) =>
  cond (decide (y1.1.1<(0:Int)))
   (some (((((0:Int),(0:Int)),(0:Int)),(false,())),()))
   (cond ((((List.length x.1.1):Nat):Int)==(0:Int))
    (none)
    (((aS x.1.1 (Int.tmod (IntKind.wrap .i64 (y1.1.1+(1:Int))) (((List.length x.1.1):Nat):Int)))).bind fun (y2:ae) =>
    some (((y2.1,y2.2),(true,())),()))):=by kernel_rfl
theorem XM(F:FT)(J:JT nh)(x:((aj×(ae×Unit))×Unit)):bW 105 nh Tryz.f105 F J x =
 J qX (aM Tryz.prog 105 0) (((0:Int),((0:Int),())),(((x.1.1,()),(((x.1.2.1.1,x.1.2.1.2),()),())),())):=by kernel_rfl
theorem J1(F:FT)(J:JT nh)(x:((Int×(Int×Unit))×(((aj×Unit)×((ae×Unit)×Unit))×Unit))):eW 105 0 nh Tryz.f105 qX F J x =
  cond (decide (x.1.2.1<(((List.length x.2.1.1.1.1):Nat):Int)))
   (J ow (aM Tryz.prog 105 1) ((x.1.1,(x.1.2.1,((0:Int),()))),(((x.2.1.1.1,()),(((x.2.1.2.1.1.1,x.2.1.2.1.1.2),()),())),())))
   (some ((x.1.1,()),())):=by kernel_rfl
theorem J2(F:FT)(J:JT nh)(x:((Int×(Int×(Int×Unit)))×(((aj×Unit)×((ae×Unit)×Unit))×Unit))):eW 105 1 nh Tryz.f105 ow F J x =
  ((aS x.2.1.1.1.1 x.1.2.1)).bind fun (y1:ai) =>
  cond (decide (x.1.2.2.1<(((List.length y1.2.1):Nat):Int)))
   (((aS x.2.1.1.1.1 x.1.2.1)).bind fun (y2:ai) =>
   ((aS y2.2.1 x.1.2.2.1)).bind fun (y3:ae) =>
   cond (((y3.1.1==x.2.1.2.1.1.1.1)&&(y3.1.2==x.2.1.2.1.1.1.2))&&(y3.2==x.2.1.2.1.1.2))
    (J ow (aM Tryz.prog 105 1) (((IntKind.wrap .i64 (x.1.1+(1:Int))),(x.1.2.1,((IntKind.wrap .i64 (x.1.2.2.1+(1:Int))),()))),(((x.2.1.1.1,()),(((x.2.1.2.1.1.1,x.2.1.2.1.1.2),()),())),())))
    (J ow (aM Tryz.prog 105 1) ((x.1.1,(x.1.2.1,((IntKind.wrap .i64 (x.1.2.2.1+(1:Int))),()))),(((x.2.1.1.1,()),(((x.2.1.2.1.1.1,x.2.1.2.1.1.2),()),())),()))))
   (J qX (aM Tryz.prog 105 0) ((x.1.1,((IntKind.wrap .i64 (x.1.2.1+(1:Int))),())),(((x.2.1.1.1,()),(((x.2.1.2.1.1.1,x.2.1.2.1.1.2),()),())),()))):=by kernel_rfl
theorem XN(F:FT)(J:JT Gb)(x:((ae×Unit)×Unit)):bW 106 Gb Tryz.f106 F J x =
  (F 86 qc ((x.1.1.1,()),())).bind fun (y1:((Bool×Unit)×Unit)) =>
  cond y1.1.1
   (some ((((eF .andNot .i64 x.1.1.2 (1:Int))==(0:Int)),()),()))
   (some ((false,()),())):=by kernel_rfl
theorem XO(F:FT)(J:JT oY)(x:((ID×Unit)×(aE×Unit))):bW 107 oY Tryz.f107 F J x =
 (F 127125 iQ ((x.2.1.1,(x.1.1,())),())).bind fun (y1:((Int×(Bool×Unit))×Unit)) =>
 some ((y1.1.1,y1.1.2),((x.2.1.1,(x.2.1.2.1,x.2.1.2.2)),())):=by kernel_rfl
theorem XP(F:FT)(J:JT xd)(x:((ID×Unit)×(aE×Unit))):bW 110 xd Tryz.f110 F J x =
  (F 115 l8 ((x.1.1,()),((x.2.1.1,(x.2.1.2.1,x.2.1.2.2)),()))).bind fun (y1:((Int×(Bool×Unit))×(aE×Unit))) =>
  cond y1.1.2.1
   (some (((12:Int),()),((y1.2.1.1,(y1.2.1.2.1,y1.2.1.2.2)),())))
   (cond (decide ((((List.length y1.2.1.2.1):Nat):Int)≥(40:Int)))
    (some (((3:Int),()),((y1.2.1.1,(y1.2.1.2.1,y1.2.1.2.2)),())))
    (cond (pI y1.2.1.2.1 y1.1.1 ((x.1.1,((⟨#[]⟩:ByteArray),(0:Int)))::([]:List ah)))
     (some (((0:Int),()),((y1.2.1.1,((fE y1.2.1.2.1 y1.1.1 ((x.1.1,((⟨#[]⟩:ByteArray),(0:Int)))::([]:List ah))),y1.2.1.2.2)),())))
     (none))):=by kernel_rfl
theorem Ty(F:FT)(J:JT Ac)(x:((ID×Unit)×Unit)):bW 111 Ac Tryz.f111 F J x =
 some (((x.1.1,(0:Int)),((x.1.1,(1:Int)),())),()):=by kernel_rfl
theorem XQ(F:FT)(J:JT Gc)(x:((StateT×(o8×Unit))×Unit)):bW 112 Gc Tryz.f112 F J x =
  (F 131 Gf ((x.1.1.1,(x.1.2.1.1,())),())).bind fun (y1:((ai×(Bool×Unit))×Unit)) =>
  cond (not y1.1.2.1)
   (some (((((0:Int),(0:Int)),(((0:Int),(0:Int)),(0:Int))),((13:Int),())),()))
   ((F 132 xe (((x.1.1.1,x.1.1.2),((x.1.2.1.2.1,x.1.2.1.2.2),())),())).bind fun (y2:((ae×Unit)×Unit)) =>
   (F 133 ui ((y1.1.1.2.1,((y2.1.1.1,y2.1.1.2),())),())).bind fun (y3:((Bool×Unit)×Unit)) =>
   cond (not y3.1.1)
    (some (((x.1.2.1.1,(((0:Int),(0:Int)),(0:Int))),((0:Int),())),()))
    (some (((x.1.2.1.1,(y2.1.1.1,y2.1.1.2)),((0:Int),())),()))):=by kernel_rfl
theorem XR(F:FT)(J:JT Ad)(x:(((List ae)×(ae×(ae×Unit)))×Unit)):bW 113 Ad Tryz.f113 F J x =
  (F 133 ui ((x.1.1,((x.1.2.2.1.1,x.1.2.2.1.2),())),())).bind fun (y1:((Bool×Unit)×Unit)) =>
  cond y1.1.1
   ((F 123 qe ((x.1.1,()),())).bind fun (y2:(((List ae)×Unit)×Unit)) =>
   some (y2.1,()))
   ((F 134 lu ((x.1.1,((x.1.2.1.1,x.1.2.1.2),())),())).bind fun (y3:((Int×Unit)×Unit)) =>
   cond (aX (List.length x.1.1) (0:Int) (min (IntKind.wrap .i64 ((max y3.1.1 (0:Int):Int)+(1:Int))) (((List.length x.1.1):Nat):Int):Int))
    (cond (aX (List.length x.1.1) (min (IntKind.wrap .i64 ((max y3.1.1 (0:Int):Int)+(1:Int))) (((List.length x.1.1):Nat):Int):Int) (((List.length x.1.1):Nat):Int))
     ((F 135 nj ((((cut x.1.1 (0:Int) (min (IntKind.wrap .i64 ((max y3.1.1 (0:Int):Int)+(1:Int))) (((List.length x.1.1):Nat):Int):Int))::(((x.1.2.2.1.1,x.1.2.2.1.2)::([]:List ae))::((cut x.1.1 (min (IntKind.wrap .i64 ((max y3.1.1 (0:Int):Int)+(1:Int))) (((List.length x.1.1):Nat):Int):Int) (((List.length x.1.1):Nat):Int))::([]:List (List ae))))),()),())).bind fun (y4:(((List ae)×Unit)×Unit)) =>
     some (y4.1,()))
     (none))
    (none)):=by kernel_rfl
theorem XS(F:FT)(J:JT Ae)(x:((aj×Unit)×Unit)):bW 114 Ae Tryz.f114 F J x =
 (F 136 Gg ((x.1.1,()),())).bind fun (y1:((Int×Unit)×Unit)) =>
 some (((y1.1.1==(0:Int)),()),()):=by kernel_rfl
theorem XT(F:FT)(J:JT l8)(x:((ID×Unit)×(aE×Unit))):bW 115 l8 Tryz.f115 F J x =
 (F 139137 iR ((x.2.1.2.1,(x.1.1,())),())).bind fun (y1:((Int×(Bool×Unit))×Unit)) =>
 some ((y1.1.1,y1.1.2),((x.2.1.1,(x.2.1.2.1,x.2.1.2.2)),())):=by kernel_rfl
theorem XU(F:FT)(J:JT Af)(x:((ae×(ae×Unit))×(aE×Unit))):bW 116 Af Tryz.f116 F J x =
 (F 139 Gh ((x.2.1.2.2.1,(((x.1.1.1,x.1.1.2),(x.1.2.1.1,x.1.2.1.2)),())),())).bind fun (y1:(((List an)×Unit)×Unit)) =>
 some ((),((x.2.1.1,(x.2.1.2.1,y1.1)),())):=by kernel_rfl
theorem XV(F:FT)(J:JT Ag)(x:((ae×Unit)×(aE×Unit))):bW 117 Ag Tryz.f117 F J x =
 J yn (aM Tryz.prog 117 0) (((0:Int),()),(((x.2.1.1,(x.2.1.2.1,x.2.1.2.2)),(((x.1.1.1,x.1.1.2),()),(((((0:Int),(0:Int)),(0:Int)),()),(((x.1.1.1,x.1.1.2),()),())))),())):=by kernel_rfl
theorem Em(F:FT)(J:JT Ag)(x:((Int×Unit)×((aE×((ae×Unit)×((ae×Unit)×((ae×Unit)×Unit))))×Unit))):eW 117 0 Ag Tryz.f117 yn F J x =
  cond (decide (x.1.1<(2:Int)))
   ((F 118 lr (((x.2.1.2.1.1.1,x.2.1.2.1.1.2),()),((x.2.1.1.1,(x.2.1.1.2.1,x.2.1.1.2.2)),()))).bind fun (y1:(((Option ((Fin 1)×Nat))×Unit)×(aE×Unit))) =>
   pH y1.1.1
    (none) fun (p2:((Fin 1)×Nat)) =>
   cond (p2.1.val==0)
    (((y1.2.1.1)[p2.2]?).bind fun (y3:ai) =>
    (F 140 CS ((y3.2.1,((x.2.1.2.2.2.1.1.1,x.2.1.2.2.2.1.1.2),())),())).bind fun (y4:((ae×(Bool×Unit))×Unit)) =>
    cond (not ((y4.1.1.1.1==x.2.1.2.1.1.1.1)&&(y4.1.1.1.2==x.2.1.2.1.1.1.2)))
     (some (((y4.1.1.1,y4.1.1.2),()),((y1.2.1.1,(y1.2.1.2.1,y1.2.1.2.2)),())))
     (J yn (aM Tryz.prog 117 0) (((IntKind.wrap .i64 (x.1.1+(1:Int))),()),(((y1.2.1.1,(y1.2.1.2.1,y1.2.1.2.2)),(((x.2.1.2.1.1.1,x.2.1.2.1.1.2),()),(((x.2.1.2.2.1.1.1,x.2.1.2.2.1.1.2),()),(((y4.1.1.1,y4.1.1.2),()),())))),()))))
    (none))
   (some (((((0:Int),(0:Int)),(0:Int)),()),((x.2.1.1.1,(x.2.1.1.2.1,x.2.1.1.2.2)),()))):=by kernel_rfl
theorem XW(F:FT)(J:JT lr)(x:((ae×Unit)×(aE×Unit))):bW 118 lr Tryz.f118 F J x =
 J uq (aM Tryz.prog 118 0) (((((List.length x.2.1.1):Nat):Int),((0:Int),())),(((x.2.1.1,(x.2.1.2.1,x.2.1.2.2)),(((x.1.1.1,x.1.1.2),()),())),())):=by kernel_rfl
theorem J3(F:FT)(J:JT lr)(x:((Int×(Int×Unit))×((aE×((ae×Unit)×Unit))×Unit))):eW 118 0 lr Tryz.f118 uq F J x =
  cond (decide (x.1.2.1<x.1.1))
   (cond ((decide ((0:Int)≤x.1.2.1))&&(decide (x.1.2.1<(((List.length x.2.1.1.1):Nat):Int))))
    (((x.2.1.1.1)[(Int.toNat x.1.2.1)]?).bind fun (y1:ai) =>
    (F 133 ui ((y1.2.1,((x.2.1.2.1.1.1,x.2.1.2.1.1.2),())),())).bind fun (y2:((Bool×Unit)×Unit)) =>
    cond y2.1.1
     (some (((some ((⟨0,by decide⟩:(Fin 1)),(Int.toNat x.1.2.1))),()),((x.2.1.1.1,(x.2.1.1.2.1,x.2.1.1.2.2)),())))
     (J uq (aM Tryz.prog 118 0) ((x.1.1,((IntKind.wrap .i64 (x.1.2.1+(1:Int))),())),(((x.2.1.1.1,(x.2.1.1.2.1,x.2.1.1.2.2)),(((x.2.1.2.1.1.1,x.2.1.2.1.1.2),()),())),()))))
    (none))
   (some ((none,()),((x.2.1.1.1,(x.2.1.1.2.1,x.2.1.1.2.2)),()))):=by kernel_rfl
theorem XX(F:FT)(J:JT Gd)(x:(((List ae)×(ae×Unit))×Unit)):bW 119 Gd Tryz.f119 F J x =
  (F 134 lu ((x.1.1,((x.1.2.1.1,x.1.2.1.2),())),())).bind fun (y1:((Int×Unit)×Unit)) =>
  cond (decide (y1.1.1<(0:Int)))
   ((F 123 qe ((x.1.1,()),())).bind fun (y2:(((List ae)×Unit)×Unit)) =>
   some (y2.1,()))
   (cond (aX (List.length x.1.1) (0:Int) y1.1.1)
    (cond (aX (List.length x.1.1) (IntKind.wrap .i64 (y1.1.1+(1:Int))) (((List.length x.1.1):Nat):Int))
     ((F 135 nj ((((cut x.1.1 (0:Int) y1.1.1)::((cut x.1.1 (IntKind.wrap .i64 (y1.1.1+(1:Int))) (((List.length x.1.1):Nat):Int))::([]:List (List ae)))),()),())).bind fun (y3:(((List ae)×Unit)×Unit)) =>
     some (y3.1,()))
     (none))
    (none)):=by kernel_rfl
theorem XY(F:FT)(J:JT rZ)(x:(((List ae)×(ae×(ae×Unit)))×Unit)):bW 121 rZ Tryz.f121 F J x =
  (F 134 lu ((x.1.1,((x.1.2.1.1,x.1.2.1.2),())),())).bind fun (y1:((Int×Unit)×Unit)) =>
  cond (decide (y1.1.1<(0:Int)))
   ((F 123 qe ((x.1.1,()),())).bind fun (y2:(((List ae)×Unit)×Unit)) =>
   some (y2.1,()))
   ((F 133 ui ((x.1.1,((x.1.2.2.1.1,x.1.2.2.1.2),())),())).bind fun (y3:((Bool×Unit)×Unit)) =>
   cond y3.1.1
    ((F 123 qe ((x.1.1,()),())).bind fun (y4:(((List ae)×Unit)×Unit)) =>
    some (y4.1,()))
    (cond (aX (List.length x.1.1) (0:Int) y1.1.1)
     (cond (aX (List.length x.1.1) (IntKind.wrap .i64 (y1.1.1+(1:Int))) (((List.length x.1.1):Nat):Int))
      ((F 135 nj ((((cut x.1.1 (0:Int) y1.1.1)::(((x.1.2.2.1.1,x.1.2.2.1.2)::([]:List ae))::((cut x.1.1 (IntKind.wrap .i64 (y1.1.1+(1:Int))) (((List.length x.1.1):Nat):Int))::([]:List (List ae))))),()),())).bind fun (y5:(((List ae)×Unit)×Unit)) =>
      some (y5.1,()))
      (none))
     (none))):=by kernel_rfl
theorem XZ(F:FT)(J:JT ni)(x:((ae×Unit)×Unit)):bW 122 ni Tryz.f122 F J x =
 some (((x.1.1.1,(eF .xor .i64 x.1.1.2 (1:Int))),()),()):=by kernel_rfl
theorem X0(F:FT)(J:JT qe)(x:(((List ae)×Unit)×Unit)):bW 123 qe Tryz.f123 F J x =
  cond ((((List.length x.1.1):Nat):Int)==(0:Int))
   (some ((([]:List ae),()),()))
   ((F 143141 jZ (x.1,())).bind fun (y1:((ae×Unit)×Unit)) =>
   (F 134 lu ((x.1.1,((y1.1.1.1,y1.1.1.2),())),())).bind fun (y2:((Int×Unit)×Unit)) =>
   cond (aX (List.length x.1.1) y2.1.1 (((List.length x.1.1):Nat):Int))
    (cond (aX (List.length x.1.1) (0:Int) y2.1.1)
     ((F 143 nk ((((cut x.1.1 y2.1.1 (((List.length x.1.1):Nat):Int))::((cut x.1.1 (0:Int) y2.1.1)::([]:List (List ae)))),()),())).bind fun (y3:(((List ae)×Unit)×Unit)) =>
     some (y3.1,()))
     (none))
    (none)):=by kernel_rfl
theorem X1(F:FT)(J:JT Ge)(x:((bY×Unit)×(aE×Unit))):bW 124 Ge Tryz.f124 F J x =
  cond x.1.1.2.2.2.2.2.2.1
   ((F 115 l8 ((x.1.1.2.1,()),((x.2.1.1,(x.2.1.2.1,x.2.1.2.2)),()))).bind fun (y1:((Int×(Bool×Unit))×(aE×Unit))) =>
   cond y1.1.2.1
    (cond ((decide ((0:Int)≤y1.1.1))&&(decide (y1.1.1<(((List.length y1.2.1.2.1):Nat):Int))))
     (cond ((decide ((0:Int)≤y1.1.1))&&(decide (y1.1.1<(((List.length y1.2.1.2.1):Nat):Int))))
      (some (((some ((⟨1,by decide⟩:(Fin 2)),(Int.toNat y1.1.1))),((some ((⟨1,by decide⟩:(Fin 2)),(Int.toNat y1.1.1))),())),((y1.2.1.1,(y1.2.1.2.1,y1.2.1.2.2)),())))
      (none))
     (none))
    (some ((none,(none,())),((y1.2.1.1,(y1.2.1.2.1,y1.2.1.2.2)),()))))
   ((F 107 oY ((x.1.1.2.1,()),((x.2.1.1,(x.2.1.2.1,x.2.1.2.2)),()))).bind fun (y2:((Int×(Bool×Unit))×(aE×Unit))) =>
   cond y2.1.2.1
    (cond ((decide ((0:Int)≤y2.1.1))&&(decide (y2.1.1<(((List.length y2.2.1.1):Nat):Int))))
     (cond ((decide ((0:Int)≤y2.1.1))&&(decide (y2.1.1<(((List.length y2.2.1.1):Nat):Int))))
      (some (((some ((⟨0,by decide⟩:(Fin 2)),(Int.toNat y2.1.1))),((some ((⟨0,by decide⟩:(Fin 2)),(Int.toNat y2.1.1))),())),((y2.2.1.1,(y2.2.1.2.1,y2.2.1.2.2)),())))
      (none))
     (none))
    (some ((none,(none,())),((y2.2.1.1,(y2.2.1.2.1,y2.2.1.2.2)),())))):=by kernel_rfl
theorem X2(F:FT)(J:JT CQ)(x:((ai×(ID×Unit))×Unit)):bW 126 CQ Tryz.f126 F J x =
 (F 127 Ah ((x.1.1.1,(x.1.2.1,())),())).bind fun (y1:((Int×Unit)×Unit)) =>
 some (y1.1,()):=by kernel_rfl
theorem X3(F:FT)(J:JT Ah)(x:((ID×(ID×Unit))×Unit)):bW 127 Ah Tryz.f127 F J x =
  cond ((x.1.1.1==x.1.2.1.1)&&(x.1.1.2==x.1.2.1.2))
   (some (((0:Int),()),()))
   ((F 145 Ai ((x.1.1.1,(x.1.2.1.1,())),())).bind fun (y1:((Int×Unit)×Unit)) =>
   (F 145 Ai ((x.1.1.2,(x.1.2.1.2,())),())).bind fun (y2:((Int×Unit)×Unit)) =>
   (F 144 uj (((y1.1.1::(y2.1.1::([]:List Int))),()),())).bind fun (y3:((Int×Unit)×Unit)) =>
   some (y3.1,())):=by kernel_rfl
theorem X4(F:FT)(J:JT Gf)(x:((aj×(ID×Unit))×Unit)):bW 131 Gf Tryz.f131 F J x =
 (F 151149 j0 ((x.1.1.1,(x.1.2.1,())),())).bind fun (y1:((ai×(Bool×Unit))×Unit)) =>
 (F 81 xK ((y1.1.1.2.1,()),())).bind fun (y2:(((List ae)×Unit)×Unit)) =>
 some (((y1.1.1.1,(y2.1.1,y1.1.1.2.2)),y1.1.2),()):=by kernel_rfl
theorem X5(F:FT)(J:JT xe)(x:((StateT×(ae×Unit))×Unit)):bW 132 xe Tryz.f132 F J x =
 J uu (aM Tryz.prog 132 0) (((IntKind.wrap .i64 ((((List.length x.1.1.2):Nat):Int)+(1:Int))),((0:Int),())),((((x.1.1.1,x.1.1.2),()),(((x.1.2.1.1,x.1.2.1.2),()),(((((0:Int),(0:Int)),(0:Int)),()),()))),())):=by kernel_rfl
theorem J4(F:FT)(J:JT xe)(x:((Int×(Int×Unit))×(((StateT×Unit)×((ae×Unit)×((ae×Unit)×Unit)))×Unit))):eW 132 0 xe Tryz.f132 uu F J x =
  cond (decide (x.1.2.1<x.1.1))
   ((F 151 uk ((x.2.1.1.1.1,((x.2.1.2.1.1.1,x.2.1.2.1.1.2),())),())).bind fun (y1:((ID×(Bool×Unit))×Unit)) =>
   cond y1.1.2.1
    (some (((x.2.1.2.1.1.1,x.2.1.2.1.1.2),()),()))
    ((F 152 Gj ((x.2.1.1.1.2,((x.2.1.2.1.1.1,x.2.1.2.1.1.2),())),())).bind fun (y2:((ae×(Bool×Unit))×Unit)) =>
    cond (not y2.1.2.1)
     (some (((((0:Int),(0:Int)),(0:Int)),()),()))
     (J uu (aM Tryz.prog 132 0) ((x.1.1,((IntKind.wrap .i64 (x.1.2.1+(1:Int))),())),((((x.2.1.1.1.1,x.2.1.1.1.2),()),(((y2.1.1.1,y2.1.1.2),()),(((x.2.1.2.2.1.1.1,x.2.1.2.2.1.1.2),()),()))),())))))
   (some (((((0:Int),(0:Int)),(0:Int)),()),())):=by kernel_rfl
theorem X6(F:FT)(J:JT ui)(x:(((List ae)×(ae×Unit))×Unit)):bW 133 ui Tryz.f133 F J x =
 (F 134 lu ((x.1.1,((x.1.2.1.1,x.1.2.1.2),())),())).bind fun (y1:((Int×Unit)×Unit)) =>
 some (((decide (y1.1.1≥(0:Int))),()),()):=by kernel_rfl
theorem X7(F:FT)(J:JT lu)(x:(((List ae)×(ae×Unit))×Unit)):bW 134 lu Tryz.f134 F J x =
 J ux (aM Tryz.prog 134 0) ((x.1.1,((((List.length x.1.1):Nat):Int),((0:Int),()))),((((x.1.2.1.1,x.1.2.1.2),()),()),())):=by kernel_rfl
theorem J5(F:FT)(J:JT lu)(x:(((List ae)×(Int×(Int×Unit)))×(((ae×Unit)×Unit)×Unit))):eW 134 0 lu Tryz.f134 ux F J x =
  cond (decide (x.1.2.2.1<x.1.2.1))
   (((aS x.1.1 x.1.2.2.1)).bind fun (y1:ae) =>
   cond (((x.2.1.1.1.1.1==y1.1.1)&&(x.2.1.1.1.1.2==y1.1.2))&&(x.2.1.1.1.2==y1.2))
    (some (x.1.2.2,()))
    (J ux (aM Tryz.prog 134 0) ((x.1.1,(x.1.2.1,((IntKind.wrap .i64 (x.1.2.2.1+(1:Int))),()))),((((x.2.1.1.1.1,x.2.1.1.1.2),()),()),()))))
   (some (((-1:Int),()),())):=by kernel_rfl
theorem X8(F:FT)(J:JT nj)(x:(((List (List ae))×Unit)×Unit)):bW 135 nj Tryz.f135 F J x =
 (F 143 nk (x.1,())).bind fun (y1:(((List ae)×Unit)×Unit)) =>
 (F 123 qe (y1.1,())).bind fun (y2:(((List ae)×Unit)×Unit)) =>
 some (y2.1,()):=by kernel_rfl
theorem X9(F:FT)(J:JT Gg)(x:((aj×Unit)×Unit)):bW 136 Gg Tryz.f136 F J x =
  (F 153 Gk ((x.1.1,()),())).bind fun (y1:((Int×(Int×(Int×(Int×Unit))))×Unit)) =>
  cond ((2:Int)==(0:Int))
   (none)
   (some (((IntKind.wrap .i64 (y1.1.2.2.2.1 - (IntKind.wrap .i64 (Int.tdiv (IntKind.wrap .i64 ((IntKind.wrap .i64 (y1.1.1 - y1.1.2.1))+y1.1.2.2.1)) (2:Int))))),()),())):=by kernel_rfl
theorem Ya(F:FT)(J:JT CR)(x:((ah×(ID×Unit))×Unit)):bW 138 CR Tryz.f138 F J x =
 (F 127 Ah ((x.1.1.1,(x.1.2.1,())),())).bind fun (y1:((Int×Unit)×Unit)) =>
 some (y1.1,()):=by kernel_rfl
theorem Yb(F:FT)(J:JT Gh)(x:(((List an)×(an×Unit))×Unit)):bW 139 Gh Tryz.f139 F J x =
  (F 156154 iS ((x.1.1,((x.1.2.1.1.1,x.1.2.1.1.2),())),())).bind fun (y1:((Int×(Bool×Unit))×Unit)) =>
  (F 61 IL ((x.1.1,()),())).bind fun (y2:(((List an)×Unit)×Unit)) =>
  cond y1.1.2.1
   (cond ((decide ((0:Int)≤y1.1.1))&&(decide (y1.1.1<(((List.length y2.1.1):Nat):Int))))
    (((y2.1.1)[(Int.toNat y1.1.1)]?).bind fun (y3:an) =>
    some (((List.set y2.1.1 (Int.toNat y1.1.1) ((x.1.2.1.1.1,x.1.2.1.1.2),(x.1.2.1.2.1,x.1.2.1.2.2))),()),()))
    (none))
   (cond (decide ((((List.length x.1.1):Nat):Int)<(400:Int)))
    (cond (pI y2.1.1 y1.1.1 (((x.1.2.1.1.1,x.1.2.1.1.2),(x.1.2.1.2.1,x.1.2.1.2.2))::([]:List an)))
     (some (((fE y2.1.1 y1.1.1 (((x.1.2.1.1.1,x.1.2.1.1.2),(x.1.2.1.2.1,x.1.2.1.2.2))::([]:List an))),()),()))
     (none))
    (some (y2.1,()))):=by kernel_rfl
theorem Yc(F:FT)(J:JT CS)(x:(((List ae)×(ae×Unit))×Unit)):bW 140 CS Tryz.f140 F J x =
 (F 157 Aj ((x.1.1,((x.1.2.1.1,x.1.2.1.2),((IntKind.wrap .i64 ((((List.length x.1.1):Nat):Int) - (1:Int))),()))),())).bind fun (y1:((ae×(Bool×Unit))×Unit)) =>
 some (((y1.1.1.1,y1.1.1.2),y1.1.2),()):=by kernel_rfl
theorem Yd(F:FT)(J:JT CT)(x:((ae×(ae×Unit))×Unit)):bW 142 CT Tryz.f142 F J x =
 (F 127 Ah ((x.1.1.1,(x.1.2.1.1,())),())).bind fun (y1:((Int×Unit)×Unit)) =>
 (F 145 Ai ((x.1.1.2,(x.1.2.1.2,())),())).bind fun (y2:((Int×Unit)×Unit)) =>
 (F 144 uj (((y1.1.1::(y2.1.1::([]:List Int))),()),())).bind fun (y3:((Int×Unit)×Unit)) =>
 some (y3.1,()):=by kernel_rfl
theorem Ye(F:FT)(J:JT nk)(x:(((List (List ae))×Unit)×Unit)):bW 143 nk Tryz.f143 F J x =
 J uy (aM Tryz.prog 143 0) ((x.1.1,((0:Int),(x.1.1,((((List.length x.1.1):Nat):Int),((0:Int),()))))),((),())):=by kernel_rfl
theorem J6(F:FT)(J:JT nk)(x:(((List (List ae))×(Int×((List (List ae))×(Int×(Int×Unit)))))×(Unit×Unit))):eW 143 0 nk Tryz.f143 uy F J x =
  cond (decide (x.1.2.2.2.2.1<x.1.2.2.2.1))
   (((aS x.1.2.2.1 x.1.2.2.2.2.1)).bind fun (y1:(List ae)) =>
   cond (decide ((IntKind.wrap .i64 (x.1.2.1+(((List.length y1):Nat):Int)))<(0:Int)))
    (none)
    (J uy (aM Tryz.prog 143 0) ((x.1.1,((IntKind.wrap .i64 (x.1.2.1+(((List.length y1):Nat):Int))),(x.1.2.2.1,(x.1.2.2.2.1,((IntKind.wrap .i64 (x.1.2.2.2.2.1+(1:Int))),()))))),((),()))))
   (cond (yR x.1.2.1)
    (J uz (aM Tryz.prog 143 1) ((x.1.1,((((List.length x.1.1):Nat):Int),((0:Int),()))),((),(([]:List ae),()))))
    (none)):=by kernel_rfl
theorem J7(F:FT)(J:JT nk)(x:(((List (List ae))×(Int×(Int×Unit)))×(Unit×((List ae)×Unit)))):eW 143 1 nk Tryz.f143 uz F J x =
  cond (decide (x.1.2.2.1<x.1.2.1))
   (((aS x.1.1 x.1.2.2.1)).bind fun (y2:(List ae)) =>
   cond (aO (List.length x.2.2.1) (List.length y2))
    (J uz (aM Tryz.prog 143 1) ((x.1.1,(x.1.2.1,((IntKind.wrap .i64 (x.1.2.2.1+(1:Int))),()))),((),((x.2.2.1++y2),()))))
    (none))
   (some (x.2.2,())):=by kernel_rfl
theorem Yf(F:FT)(J:JT uj)(x:(((List Int)×Unit)×Unit)):bW 144 uj Tryz.f144 F J x =
 J yp (aM Tryz.prog 144 0) (((0:Int),(x.1.1,((((List.length x.1.1):Nat):Int),((0:Int),())))),((),())):=by kernel_rfl
theorem yq(F:FT)(J:JT uj)(x:((Int×((List Int)×(Int×(Int×Unit))))×(Unit×Unit))):eW 144 0 uj Tryz.f144 yp F J x =
  cond (decide (x.1.2.2.2.1<x.1.2.2.1))
   (((aS x.1.2.1 x.1.2.2.2.1)).bind fun (y1:Int) =>
   cond (y1 != x.1.1)
    (some ((y1,()),()))
    (J yp (aM Tryz.prog 144 0) ((x.1.1,(x.1.2.1,(x.1.2.2.1,((IntKind.wrap .i64 (x.1.2.2.2.1+(1:Int))),())))),((),()))))
   (some ((x.1.1,()),())):=by kernel_rfl
theorem Yg(F:FT)(J:JT Ai)(x:((Int×(Int×Unit))×Unit)):bW 145 Ai Tryz.f145 F J x =
  (F 159 Ak ((x.1.1,()),())).bind fun (y1:((Bool×Unit)×Unit)) =>
  (F 159 Ak (x.1.2,())).bind fun (y2:((Bool×Unit)×Unit)) =>
  cond y1.1.1
   (cond y2.1.1
    (some (((0:Int),()),()))
    (some (((-1:Int),()),())))
   (cond y2.1.1
    (some (((1:Int),()),()))
    (cond (decide (x.1.1<x.1.2.1))
     (some (((-1:Int),()),()))
     (cond (decide (x.1.1 > x.1.2.1))
      (some (((1:Int),()),()))
      (some (((0:Int),()),()))))):=by kernel_rfl
theorem Yh(F:FT)(J:JT Gi)(x:((ai×Unit)×Unit)):bW 150 Gi Tryz.f150 F J x =
 some ((x.1.1.1,()),()):=by kernel_rfl
theorem Yi(F:FT)(J:JT uk)(x:((aj×(ae×Unit))×Unit)):bW 151 uk Tryz.f151 F J x =
 J uA (aM Tryz.prog 151 0) ((x.1.1.1,((((List.length x.1.1.1):Nat):Int),((0:Int),()))),((((x.1.2.1.1,x.1.2.1.2),()),((((0:Int),(0:Int)),()),())),())):=by kernel_rfl
theorem J8(F:FT)(J:JT uk)(x:(((List ai)×(Int×(Int×Unit)))×(((ae×Unit)×((ID×Unit)×Unit))×Unit))):eW 151 0 uk Tryz.f151 uA F J x =
  cond (decide (x.1.2.2.1<x.1.2.1))
   (((aS x.1.1 x.1.2.2.1)).bind fun (y1:ai) =>
   (F 133 ui ((y1.2.1,((x.2.1.1.1.1,x.2.1.1.1.2),())),())).bind fun (y2:((Bool×Unit)×Unit)) =>
   cond y2.1.1
    (some ((y1.1,(true,())),()))
    (J uA (aM Tryz.prog 151 0) ((x.1.1,(x.1.2.1,((IntKind.wrap .i64 (x.1.2.2.1+(1:Int))),()))),((((x.2.1.1.1.1,x.2.1.1.1.2),()),((x.2.1.2.1.1,()),())),()))))
   (some ((((0:Int),(0:Int)),(false,())),())):=by kernel_rfl
theorem Yj(F:FT)(J:JT Gj)(x:(((List an)×(ae×Unit))×Unit)):bW 152 Gj Tryz.f152 F J x =
  (F 164162 iU ((x.1.1,()),(((x.1.2.1.1,x.1.2.1.2),()),()))).bind fun (y1:((Int×Unit)×((ae×Unit)×Unit))) =>
  cond (decide (y1.1.1<(0:Int)))
   (some (((((0:Int),(0:Int)),(0:Int)),(false,())),()))
   (((aS x.1.1 y1.1.1)).bind fun (y2:an) =>
   some (((y2.2.1,y2.2.2),(true,())),())):=by kernel_rfl
theorem Yk(F:FT)(J:JT Gk)(x:((aj×Unit)×Unit)):bW 153 Gk Tryz.f153 F J x =
 (F 166164 j4 ((x.1.1.1,()),())).bind fun (y1:((Int×Unit)×Unit)) =>
 (F 166 xf ((x.1.1,()),())).bind fun (y2:(((List (List ae))×Unit)×Unit)) =>
 (F 167 xg ((x.1.1,()),())).bind fun (y3:((Int×Unit)×Unit)) =>
 some (((((List.length x.1.1.1):Nat):Int),((((List.length x.1.1.2):Nat):Int),((IntKind.wrap .i64 ((((List.length y2.1.1):Nat):Int)+y1.1.1)),y3.1))),()):=by kernel_rfl
theorem Yl(F:FT)(J:JT CU)(x:((an×(ae×Unit))×Unit)):bW 155 CU Tryz.f155 F J x =
 (F 142 CT (((x.1.1.1.1,x.1.1.1.2),((x.1.2.1.1,x.1.2.1.2),())),())).bind fun (y1:((Int×Unit)×Unit)) =>
 some (y1.1,()):=by kernel_rfl
end Go.Vs
set_option maxRecDepth 1000000
set_option maxHeartbeats 0
namespace Go.Vs
open Go.Proofs
theorem Tz(F:FT)(J:JT Aj)(x:(((List ae)×(ae×(Int×Unit)))×Unit)):bW 157 Aj Tryz.f157 F J x =
  (F 134 lu ((x.1.1,((x.1.2.1.1,x.1.2.1.2),())),())).bind fun (y1:((Int×Unit)×Unit)) =>
  cond (decide (y1.1.1<(0:Int)))
   (some (((((0:Int),(0:Int)),(0:Int)),(false,())),()))
   (cond ((((List.length x.1.1):Nat):Int)==(0:Int))
    (none)
    (((aS x.1.1 (Int.tmod (IntKind.wrap .i64 (y1.1.1+x.1.2.2.1)) (((List.length x.1.1):Nat):Int)))).bind fun (y2:ae) =>
    some (((y2.1,y2.2),(true,())),()))):=by kernel_rfl
theorem Ym(F:FT)(J:JT Ak)(x:((Int×Unit)×Unit)):bW 159 Ak Tryz.f159 F J x =
 some (((x.1.1 != x.1.1),()),()):=by kernel_rfl
theorem Yn(F:FT)(J:JT Gl)(x:((an×Unit)×((Int×(Int×(Int×Unit)))×Unit))):bW 163 Gl Tryz.f163 F J x =
 some (((((x.1.1.1.1.1==x.2.1.1)&&(x.1.1.1.1.2==x.2.1.2.1))&&(x.1.1.1.2==x.2.1.2.2.1)),()),((x.2.1.1,(x.2.1.2.1,x.2.1.2.2)),())):=by kernel_rfl
theorem Yo(F:FT)(J:JT Gm)(x:((ai×Unit)×Unit)):bW 165 Gm Tryz.f165 F J x =
 some ((((((List.length x.1.1.2.1):Nat):Int)==(0:Int)),()),()):=by kernel_rfl
theorem Yp(F:FT)(J:JT um)(x:((aj×Unit)×Unit)):bW 171 um Tryz.f171 F J x =
 J uB (aM Tryz.prog 171 0) ((x.1.1.2,((((List.length x.1.1.2):Nat):Int),((0:Int),()))),((),(([]:List ae),()))):=by kernel_rfl
theorem J9(F:FT)(J:JT um)(x:(((List ah)×(Int×(Int×Unit)))×(Unit×((List ae)×Unit)))):eW 171 0 um Tryz.f171 uB F J x =
  cond (decide (x.1.2.2.1<x.1.2.1))
   (((aS x.1.1 x.1.2.2.1)).bind fun (y1:ah) =>
   (F 122 ni (((y1.1,(0:Int)),()),())).bind fun (y2:((ae×Unit)×Unit)) =>
   cond (aO (List.length x.2.2.1) (List.length ((y1.1,(0:Int))::((y2.1.1.1,y2.1.1.2)::([]:List ae)))))
    (J uB (aM Tryz.prog 171 0) ((x.1.1,(x.1.2.1,((IntKind.wrap .i64 (x.1.2.2.1+(1:Int))),()))),((),((x.2.2.1++((y1.1,(0:Int))::((y2.1.1.1,y2.1.1.2)::([]:List ae)))),()))))
    (none))
   (some (x.2.2,())):=by kernel_rfl
theorem Yq(F:FT)(J:JT CV)(x:((aj×(ae×Unit))×Unit)):bW 176 CV Tryz.f176 F J x =
  (F 151 uk ((x.1.1,((x.1.2.1.1,x.1.2.1.2),())),())).bind fun (y1:((ID×(Bool×Unit))×Unit)) =>
  cond (not y1.1.2.1)
   (some (((((0:Int),(0:Int)),(0:Int)),(false,())),()))
   ((F 122 ni (((x.1.2.1.1,x.1.2.1.2),()),())).bind fun (y2:((ae×Unit)×Unit)) =>
   (F 179 xh ((x.1.1,((y2.1.1.1,y2.1.1.2),())),())).bind fun (y3:((ae×(Bool×Unit))×Unit)) =>
   some (((y3.1.1.1,y3.1.1.2),y3.1.2),())):=by kernel_rfl
theorem Yr(F:FT)(J:JT gL)(x:((aj×Unit)×Unit)):bW 177 gL Tryz.f177 F J x =
 J qY (aM Tryz.prog 177 0) ((x.1.1.1,((((List.length x.1.1.1):Nat):Int),((0:Int),()))),((),(([]:List Int),(([]:List (ae×Int)),())))):=by kernel_rfl
theorem Ka(F:FT)(J:JT gL)(x:(((List ai)×(Int×(Int×Unit)))×(Unit×((List Int)×((List (ae×Int))×Unit))))):eW 177 0 gL Tryz.f177 qY F J x =
  cond (decide (x.1.2.2.1<x.1.2.1))
   (((aS x.1.1 x.1.2.2.1)).bind fun (y1:ai) =>
   cond (aO (List.length x.2.2.1) (List.length (x.1.2.2.1::([]:List Int))))
    (J uC (aM Tryz.prog 177 1) ((x.1.2.2.1,(x.1.1,(x.1.2.1,(x.1.2.2.1,(y1.2.1,((((List.length y1.2.1):Nat):Int),((0:Int),()))))))),((),((x.2.2.1++(x.1.2.2.1::([]:List Int))),x.2.2.2))))
    (none))
   (J ox (aM Tryz.prog 177 2) (x.2.2.2,((),(x.2.2.1,((none,x.2.2.2.1),()))))):=by kernel_rfl
theorem Kb(F:FT)(J:JT gL)(x:((Int×((List ai)×(Int×(Int×((List ae)×(Int×(Int×Unit)))))))×(Unit×((List Int)×((List (ae×Int))×Unit))))):eW 177 1 gL Tryz.f177 uC F J x =
  cond (decide (x.1.2.2.2.2.2.2.1<x.1.2.2.2.2.2.1))
   (((aS x.1.2.2.2.2.1 x.1.2.2.2.2.2.2.1)).bind fun (y2:ae) =>
   J uC (aM Tryz.prog 177 1) ((x.1.1,(x.1.2.1,(x.1.2.2.1,(x.1.2.2.2.1,(x.1.2.2.2.2.1,(x.1.2.2.2.2.2.1,((IntKind.wrap .i64 (x.1.2.2.2.2.2.2.1+(1:Int))),()))))))),((),(x.2.2.1,((lL (.pair (.pair (.int .i64) (.int .i64)) (.int .i64)) (y2.1,y2.2) x.1.1 x.2.2.2.1),())))))
   (J qY (aM Tryz.prog 177 0) ((x.1.2.1,(x.1.2.2.1,((IntKind.wrap .i64 (x.1.2.2.2.1+(1:Int))),()))),((),(x.2.2.1,x.2.2.2)))):=by kernel_rfl
theorem Kc(F:FT)(J:JT gL)(x:(((List (ae×Int))×Unit)×(Unit×((List Int)×(((Option (ae×Int))×(List (ae×Int)))×Unit))))):eW 177 2 gL Tryz.f177 ox F J x =
  cond (List.isEmpty x.2.2.2.1.2)
   (J uD (aM Tryz.prog 177 3) (((((List.length x.2.2.1):Nat):Int),((0:Int),())),((),(x.2.2.1,(([]:List Int),())))))
   (ry (List.length x.2.2.2.1.2) fun (j3:Nat) =>
   ((x.2.2.2.1.2)[j3]?).bind fun (y4:(ae×Int)) =>
   (F 122 ni (((y4.1.1,y4.1.2),()),())).bind fun (y5:((ae×Unit)×Unit)) =>
   cond (Option.isSome (iG (.pair (.pair (.int .i64) (.int .i64)) (.int .i64)) (y5.1.1.1,y5.1.1.2) x.1.1))
    ((F 180 Gn ((y4.2,((Option.getD (iG (.pair (.pair (.int .i64) (.int .i64)) (.int .i64)) (y5.1.1.1,y5.1.1.2) x.1.1) (0:Int)),())),(x.2.2.1,()))).bind fun (y6:(Unit×((List Int)×Unit))) =>
    J ox (aM Tryz.prog 177 2) (x.1,((),(y6.2.1,(((some y4),(List.eraseIdx x.2.2.2.1.2 j3)),())))))
    (J ox (aM Tryz.prog 177 2) (x.1,((),(x.2.2.1,(((some y4),(List.eraseIdx x.2.2.2.1.2 j3)),())))))):=by kernel_rfl
theorem Kd(F:FT)(J:JT gL)(x:((Int×(Int×Unit))×(Unit×((List Int)×((List Int)×Unit))))):eW 177 3 gL Tryz.f177 uD F J x =
  cond (decide (x.1.2.1<x.1.1))
   ((F 181 qf (x.1.2,(x.2.2.1,()))).bind fun (y7:((Int×Unit)×((List Int)×Unit))) =>
   cond (aO (List.length x.2.2.2.1) (List.length (y7.1.1::([]:List Int))))
    (J uD (aM Tryz.prog 177 3) ((x.1.1,((IntKind.wrap .i64 (x.1.2.1+(1:Int))),())),((),(y7.2.1,((x.2.2.2.1++(y7.1.1::([]:List Int))),())))))
    (none))
   (some (x.2.2.2,())):=by kernel_rfl
theorem Ys(F:FT)(J:JT xh)(x:((aj×(ae×Unit))×Unit)):bW 179 xh Tryz.f179 F J x =
 J uE (aM Tryz.prog 179 0) ((x.1.1.1,((((List.length x.1.1.1):Nat):Int),((0:Int),()))),((((x.1.2.1.1,x.1.2.1.2),()),(((((0:Int),(0:Int)),(0:Int)),()),())),())):=by kernel_rfl
theorem Ke(F:FT)(J:JT xh)(x:(((List ai)×(Int×(Int×Unit)))×(((ae×Unit)×((ae×Unit)×Unit))×Unit))):eW 179 0 xh Tryz.f179 uE F J x =
  cond (decide (x.1.2.2.1<x.1.2.1))
   (((aS x.1.1 x.1.2.2.1)).bind fun (y1:ai) =>
   (F 182 Gp ((y1.2.1,((x.2.1.1.1.1,x.2.1.1.1.2),())),())).bind fun (y2:((ae×(Bool×Unit))×Unit)) =>
   cond y2.1.2.1
    (some (((y2.1.1.1,y2.1.1.2),(true,())),()))
    (J uE (aM Tryz.prog 179 0) ((x.1.1,(x.1.2.1,((IntKind.wrap .i64 (x.1.2.2.1+(1:Int))),()))),((((x.2.1.1.1.1,x.2.1.1.1.2),()),(((x.2.1.2.1.1.1,x.2.1.2.1.1.2),()),())),()))))
   (some (((((0:Int),(0:Int)),(0:Int)),(false,())),())):=by kernel_rfl
theorem Yt(F:FT)(J:JT Gn)(x:((Int×(Int×Unit))×((List Int)×Unit))):bW 180 Gn Tryz.f180 F J x =
  (F 181 qf ((x.1.1,()),x.2)).bind fun (y1:((Int×Unit)×((List Int)×Unit))) =>
  (F 181 qf (x.1.2,y1.2)).bind fun (y2:((Int×Unit)×((List Int)×Unit))) =>
  cond ((decide ((0:Int)≤(max y1.1.1 y2.1.1:Int)))&&(decide ((max y1.1.1 y2.1.1:Int)<(((List.length y2.2.1):Nat):Int))))
   (((y2.2.1)[(Int.toNat (max y1.1.1 y2.1.1:Int))]?).bind fun (y3:Int) =>
   some ((),((List.set y2.2.1 (Int.toNat (max y1.1.1 y2.1.1:Int)) (min y1.1.1 y2.1.1:Int)),())))
   (none):=by kernel_rfl
theorem Yu(F:FT)(J:JT qf)(x:((Int×Unit)×((List Int)×Unit))):bW 181 qf Tryz.f181 F J x =
 J qZ (aM Tryz.prog 181 0) (x.1,((),x.2)):=by kernel_rfl
theorem Kf(F:FT)(J:JT qf)(x:((Int×Unit)×(Unit×((List Int)×Unit)))):eW 181 0 qf Tryz.f181 qZ F J x =
  cond ((decide ((0:Int)≤x.1.1))&&(decide (x.1.1<(((List.length x.2.2.1):Nat):Int))))
   (((x.2.2.1)[(Int.toNat x.1.1)]?).bind fun (y1:Int) =>
   cond (y1 != x.1.1)
    (cond ((decide ((0:Int)≤x.1.1))&&(decide (x.1.1<(((List.length x.2.2.1):Nat):Int))))
     (((x.2.2.1)[(Int.toNat x.1.1)]?).bind fun (y2:Int) =>
     cond ((decide ((0:Int)≤y2))&&(decide (y2<(((List.length x.2.2.1):Nat):Int))))
      (((x.2.2.1)[(Int.toNat y2)]?).bind fun (y3:Int) =>
      cond ((decide ((0:Int)≤x.1.1))&&(decide (x.1.1<(((List.length x.2.2.1):Nat):Int))))
       (((x.2.2.1)[(Int.toNat x.1.1)]?).bind fun (y4:Int) =>
       cond ((decide ((0:Int)≤x.1.1))&&(decide (x.1.1<(((List.length (List.set x.2.2.1 (Int.toNat x.1.1) y3)):Nat):Int))))
        ((((List.set x.2.2.1 (Int.toNat x.1.1) y3))[(Int.toNat x.1.1)]?).bind fun (y5:Int) =>
        J qZ (aM Tryz.prog 181 0) ((y5,()),((),((List.set x.2.2.1 (Int.toNat x.1.1) y3),()))))
        (none))
       (none))
      (none))
     (none))
    (some (x.1,x.2.2)))
   (none):=by kernel_rfl
theorem Yv(F:FT)(J:JT Gp)(x:(((List ae)×(ae×Unit))×Unit)):bW 182 Gp Tryz.f182 F J x =
 (F 157 Aj ((x.1.1,((x.1.2.1.1,x.1.2.1.2),((1:Int),()))),())).bind fun (y1:((ae×(Bool×Unit))×Unit)) =>
 some (((y1.1.1.1,y1.1.1.2),y1.1.2),()):=by kernel_rfl
theorem O6(F:FT)(J:JT iQ)(x:(((List ai)×(ID×Unit))×Unit)):bW 127125 iQ Tryz.f125 F J x =
 J hM (aM Tryz.prog 125 0) ((x.1.1,((((List.length x.1.1):Nat):Int),((0:Int),((((List.length x.1.1):Nat):Int),())))),(((x.1.2.1,()),()),())):=by kernel_rfl
theorem AH(F:FT)(J:JT iQ)(x:(((List ai)×(Int×(Int×(Int×Unit))))×(((ID×Unit)×Unit)×Unit))):eW 127125 0 iQ Tryz.f125 hM F J x =
  cond (decide (x.1.2.2.1<x.1.2.2.2.1))
   (cond (decide ((1:Int)<(0:Int)))
    (none)
    (((aS x.1.1 (IntKind.wrap .i64 (kx .u64 (IntKind.wrap .u64 (IntKind.wrap .i64 (x.1.2.2.1+x.1.2.2.2.1))) (1:Int))))).bind fun (y1:ai) =>
    (F 126 CQ (((y1.1,(y1.2.1,y1.2.2)),(x.2.1.1.1,())),())).bind fun (y2:((Int×Unit)×Unit)) =>
    cond (decide (y2.1.1<(0:Int)))
     (J hM (aM Tryz.prog 125 0) ((x.1.1,(x.1.2.1,((IntKind.wrap .i64 ((IntKind.wrap .i64 (kx .u64 (IntKind.wrap .u64 (IntKind.wrap .i64 (x.1.2.2.1+x.1.2.2.2.1))) (1:Int)))+(1:Int))),x.1.2.2.2))),(((x.2.1.1.1,()),()),())))
     (J hM (aM Tryz.prog 125 0) ((x.1.1,(x.1.2.1,(x.1.2.2.1,((IntKind.wrap .i64 (kx .u64 (IntKind.wrap .u64 (IntKind.wrap .i64 (x.1.2.2.1+x.1.2.2.2.1))) (1:Int))),())))),(((x.2.1.1.1,()),()),())))))
   (cond (decide (x.1.2.2.1<x.1.2.1))
    (((aS x.1.1 x.1.2.2.1)).bind fun (y3:ai) =>
    (F 126 CQ (((y3.1,(y3.2.1,y3.2.2)),(x.2.1.1.1,())),())).bind fun (y4:((Int×Unit)×Unit)) =>
    some ((x.1.2.2.1,((y4.1.1==(0:Int)),())),()))
    (some ((x.1.2.2.1,(false,())),()))):=by kernel_rfl
theorem O7(F:FT)(J:JT iR)(x:(((List ah)×(ID×Unit))×Unit)):bW 139137 iR Tryz.f137 F J x =
 J hY (aM Tryz.prog 137 0) ((x.1.1,((((List.length x.1.1):Nat):Int),((0:Int),((((List.length x.1.1):Nat):Int),())))),(((x.1.2.1,()),()),())):=by kernel_rfl
theorem AI(F:FT)(J:JT iR)(x:(((List ah)×(Int×(Int×(Int×Unit))))×(((ID×Unit)×Unit)×Unit))):eW 139137 0 iR Tryz.f137 hY F J x =
  cond (decide (x.1.2.2.1<x.1.2.2.2.1))
   (cond (decide ((1:Int)<(0:Int)))
    (none)
    (((aS x.1.1 (IntKind.wrap .i64 (kx .u64 (IntKind.wrap .u64 (IntKind.wrap .i64 (x.1.2.2.1+x.1.2.2.2.1))) (1:Int))))).bind fun (y1:ah) =>
    (F 138 CR (((y1.1,y1.2),(x.2.1.1.1,())),())).bind fun (y2:((Int×Unit)×Unit)) =>
    cond (decide (y2.1.1<(0:Int)))
     (J hY (aM Tryz.prog 137 0) ((x.1.1,(x.1.2.1,((IntKind.wrap .i64 ((IntKind.wrap .i64 (kx .u64 (IntKind.wrap .u64 (IntKind.wrap .i64 (x.1.2.2.1+x.1.2.2.2.1))) (1:Int)))+(1:Int))),x.1.2.2.2))),(((x.2.1.1.1,()),()),())))
     (J hY (aM Tryz.prog 137 0) ((x.1.1,(x.1.2.1,(x.1.2.2.1,((IntKind.wrap .i64 (kx .u64 (IntKind.wrap .u64 (IntKind.wrap .i64 (x.1.2.2.1+x.1.2.2.2.1))) (1:Int))),())))),(((x.2.1.1.1,()),()),())))))
   (cond (decide (x.1.2.2.1<x.1.2.1))
    (((aS x.1.1 x.1.2.2.1)).bind fun (y3:ah) =>
    (F 138 CR (((y3.1,y3.2),(x.2.1.1.1,())),())).bind fun (y4:((Int×Unit)×Unit)) =>
    some ((x.1.2.2.1,((y4.1.1==(0:Int)),())),()))
    (some ((x.1.2.2.1,(false,())),()))):=by kernel_rfl
theorem O8(F:FT)(J:JT jZ)(x:(((List ae)×Unit)×Unit)):bW 143141 jZ Tryz.f141 F J x =
  cond (decide ((((List.length x.1.1):Nat):Int)<(1:Int)))
   (none)
   (((aS x.1.1 (0:Int))).bind fun (y1:ae) =>
   J jw (aM Tryz.prog 141 0) ((x.1.1,((1:Int),())),((((((0:Int),(0:Int)),(0:Int)),()),(((y1.1,y1.2),()),())),()))):=by kernel_rfl
theorem AJ(F:FT)(J:JT jZ)(x:(((List ae)×(Int×Unit))×(((ae×Unit)×((ae×Unit)×Unit))×Unit))):eW 143141 0 jZ Tryz.f141 jw F J x =
  cond (decide (x.1.2.1<(((List.length x.1.1):Nat):Int)))
   (((aS x.1.1 x.1.2.1)).bind fun (y2:ae) =>
   (F 142 CT (((y2.1,y2.2),((x.2.1.2.1.1.1,x.2.1.2.1.1.2),())),())).bind fun (y3:((Int×Unit)×Unit)) =>
   cond (decide (y3.1.1<(0:Int)))
    (((aS x.1.1 x.1.2.1)).bind fun (y4:ae) =>
    J jw (aM Tryz.prog 141 0) ((x.1.1,((IntKind.wrap .i64 (x.1.2.1+(1:Int))),())),((((x.2.1.1.1.1,x.2.1.1.1.2),()),(((y4.1,y4.2),()),())),())))
    (J jw (aM Tryz.prog 141 0) ((x.1.1,((IntKind.wrap .i64 (x.1.2.1+(1:Int))),())),((((x.2.1.1.1.1,x.2.1.1.1.2),()),(((x.2.1.2.1.1.1,x.2.1.2.1.1.2),()),())),()))))
   (some (((x.2.1.2.1.1.1,x.2.1.2.1.1.2),()),())):=by kernel_rfl
theorem O9(F:FT)(J:JT j0)(x:(((List ai)×(ID×Unit))×Unit)):bW 151149 j0 Tryz.f149 F J x =
 J lz (aM Tryz.prog 149 0) ((x.1.1,((((List.length x.1.1):Nat):Int),((0:Int),()))),(((x.1.2.1,()),(((0:Int),((0:Int),(([]:List ae),((⟨#[]⟩:ByteArray),((0:Int),()))))),())),())):=by kernel_rfl
theorem AK(F:FT)(J:JT j0)(x:(((List ai)×(Int×(Int×Unit)))×(((ID×Unit)×((Int×(Int×((List ae)×(ByteArray×(Int×Unit)))))×Unit))×Unit))):eW 151149 0 j0 Tryz.f149 lz F J x =
  cond (decide (x.1.2.2.1<x.1.2.1))
   (((aS x.1.1 x.1.2.2.1)).bind fun (y1:ai) =>
   (F 150 Gi (((y1.1,(y1.2.1,y1.2.2)),()),())).bind fun (y2:((ID×Unit)×Unit)) =>
   cond ((y2.1.1.1==x.2.1.1.1.1)&&(y2.1.1.2==x.2.1.1.1.2))
    (some (((y1.1,(y1.2.1,y1.2.2)),(true,())),()))
    (J lz (aM Tryz.prog 149 0) ((x.1.1,(x.1.2.1,((IntKind.wrap .i64 (x.1.2.2.1+(1:Int))),()))),(((x.2.1.1.1,()),((x.2.1.2.1.1,(x.2.1.2.1.2.1,(x.2.1.2.1.2.2.1,(x.2.1.2.1.2.2.2.1,x.2.1.2.1.2.2.2.2)))),())),()))))
   (some (((((0:Int),(0:Int)),(([]:List ae),((⟨#[]⟩:ByteArray),(0:Int)))),(false,())),())):=by kernel_rfl
theorem Pb(F:FT)(J:JT iS)(x:(((List an)×(ae×Unit))×Unit)):bW 156154 iS Tryz.f154 F J x =
 J hZ (aM Tryz.prog 154 0) ((x.1.1,((((List.length x.1.1):Nat):Int),((0:Int),((((List.length x.1.1):Nat):Int),())))),((((x.1.2.1.1,x.1.2.1.2),()),()),())):=by kernel_rfl
theorem AL(F:FT)(J:JT iS)(x:(((List an)×(Int×(Int×(Int×Unit))))×(((ae×Unit)×Unit)×Unit))):eW 156154 0 iS Tryz.f154 hZ F J x =
  cond (decide (x.1.2.2.1<x.1.2.2.2.1))
   (cond (decide ((1:Int)<(0:Int)))
    (none)
    (((aS x.1.1 (IntKind.wrap .i64 (kx .u64 (IntKind.wrap .u64 (IntKind.wrap .i64 (x.1.2.2.1+x.1.2.2.2.1))) (1:Int))))).bind fun (y1:an) =>
    (F 155 CU ((((y1.1.1,y1.1.2),(y1.2.1,y1.2.2)),((x.2.1.1.1.1,x.2.1.1.1.2),())),())).bind fun (y2:((Int×Unit)×Unit)) =>
    cond (decide (y2.1.1<(0:Int)))
     (J hZ (aM Tryz.prog 154 0) ((x.1.1,(x.1.2.1,((IntKind.wrap .i64 ((IntKind.wrap .i64 (kx .u64 (IntKind.wrap .u64 (IntKind.wrap .i64 (x.1.2.2.1+x.1.2.2.2.1))) (1:Int)))+(1:Int))),x.1.2.2.2))),((((x.2.1.1.1.1,x.2.1.1.1.2),()),()),())))
     (J hZ (aM Tryz.prog 154 0) ((x.1.1,(x.1.2.1,(x.1.2.2.1,((IntKind.wrap .i64 (kx .u64 (IntKind.wrap .u64 (IntKind.wrap .i64 (x.1.2.2.1+x.1.2.2.2.1))) (1:Int))),())))),((((x.2.1.1.1.1,x.2.1.1.1.2),()),()),())))))
   (cond (decide (x.1.2.2.1<x.1.2.1))
    (((aS x.1.1 x.1.2.2.1)).bind fun (y3:an) =>
    (F 155 CU ((((y3.1.1,y3.1.2),(y3.2.1,y3.2.2)),((x.2.1.1.1.1,x.2.1.1.1.2),())),())).bind fun (y4:((Int×Unit)×Unit)) =>
    some ((x.1.2.2.1,((y4.1.1==(0:Int)),())),()))
    (some ((x.1.2.2.1,(false,())),()))):=by kernel_rfl
theorem Pc(F:FT)(J:JT iU)(x:(((List an)×Unit)×((ae×Unit)×Unit))):bW 164162 iU Tryz.f162 F J x =
 J jx (aM Tryz.prog 162 0) ((x.1.1,((((List.length x.1.1):Nat):Int),((0:Int),()))),((((x.2.1.1.1,x.2.1.1.2),()),()),())):=by kernel_rfl
theorem AM(F:FT)(J:JT iU)(x:(((List an)×(Int×(Int×Unit)))×(((ae×Unit)×Unit)×Unit))):eW 164162 0 iU Tryz.f162 jx F J x =
  cond (decide (x.1.2.2.1<x.1.2.1))
   (((aS x.1.1 x.1.2.2.1)).bind fun (y1:an) =>
   (F 163 Gl ((((y1.1.1,y1.1.2),(y1.2.1,y1.2.2)),()),((x.2.1.1.1.1.1,(x.2.1.1.1.1.2,(x.2.1.1.1.2,()))),()))).bind fun (y2:((Bool×Unit)×((Int×(Int×(Int×Unit)))×Unit))) =>
   cond y2.1.1
    (some (x.1.2.2,((((y2.2.1.1,y2.2.1.2.1),y2.2.1.2.2.1),()),())))
    (J jx (aM Tryz.prog 162 0) ((x.1.1,(x.1.2.1,((IntKind.wrap .i64 (x.1.2.2.1+(1:Int))),()))),(((((y2.2.1.1,y2.2.1.2.1),y2.2.1.2.2.1),()),()),()))))
   (some (((-1:Int),()),(((x.2.1.1.1.1,x.2.1.1.1.2),()),()))):=by kernel_rfl
theorem Pd(F:FT)(J:JT j4)(x:(((List ai)×Unit)×Unit)):bW 166164 j4 Tryz.f164 F J x =
 J jy (aM Tryz.prog 164 0) (((0:Int),(x.1.1,((((List.length x.1.1):Nat):Int),((0:Int),())))),((),())):=by kernel_rfl
theorem AO(F:FT)(J:JT j4)(x:((Int×((List ai)×(Int×(Int×Unit))))×(Unit×Unit))):eW 166164 0 j4 Tryz.f164 jy F J x =
  cond (decide (x.1.2.2.2.1<x.1.2.2.1))
   (((aS x.1.2.1 x.1.2.2.2.1)).bind fun (y1:ai) =>
   (F 165 Gm (((y1.1,(y1.2.1,y1.2.2)),()),())).bind fun (y2:((Bool×Unit)×Unit)) =>
   cond y2.1.1
    (J jy (aM Tryz.prog 164 0) (((IntKind.wrap .i64 (x.1.1+(1:Int))),(x.1.2.1,(x.1.2.2.1,((IntKind.wrap .i64 (x.1.2.2.2.1+(1:Int))),())))),((),())))
    (J jy (aM Tryz.prog 164 0) ((x.1.1,(x.1.2.1,(x.1.2.2.1,((IntKind.wrap .i64 (x.1.2.2.2.1+(1:Int))),())))),((),()))))
   (some ((x.1.1,()),())):=by kernel_rfl
end Go.Vs
