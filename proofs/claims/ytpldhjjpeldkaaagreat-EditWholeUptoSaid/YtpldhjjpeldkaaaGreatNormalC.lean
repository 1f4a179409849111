/- Normal forms of the program's functions, the third part. -/
import Derived.Test.YtpldhjjpeldkaaaGreatEngineD
import Derived.KernelRfl
set_option linter.unusedVariables false
set_option maxRecDepth 1000000
set_option maxHeartbeats 0
namespace Go.Vs
open Go.Proofs
theorem ac2(F:FT)(J:JT FR)(x:((ai×Unit)×Unit)):bZ 85 FR Tryz.f85 F J x =
 (F 31 FH ((x.1.1,()),())).bind fun (y1:(((List (List ab))×Unit)×Unit)) =>
 J vz (aP Tryz.prog 85 0) (((((List.length y1.1.1):Nat):Int),((0:Int),())),(((x.1.1,()),()),())):=by kernel_rfl
theorem OD(F:FT)(J:JT FR)(x:((Int×(Int×Unit))×(((ai×Unit)×Unit)×Unit))):fR 85 0 FR Tryz.f85 vz F J x =
  cond (decide (x.1.2.1<(((List.length x.2.1.1.1.1):Nat):Int)))
   (((aZ x.2.1.1.1.1 x.1.2.1)).bind fun (y2:ah) =>
   cond ((((List.length y2.2.1):Nat):Int)==(0:Int))
    (J vz (aP Tryz.prog 85 0) (((IntKind.wrap .i64 (x.1.1+(1:Int))),((IntKind.wrap .i64 (x.1.2.1+(1:Int))),())),(((x.2.1.1.1,()),()),())))
    (J vz (aP Tryz.prog 85 0) ((x.1.1,((IntKind.wrap .i64 (x.1.2.1+(1:Int))),())),(((x.2.1.1.1,()),()),()))))
   ((F 32 FI ((x.2.1.1.1,()),())).bind fun (y3:((Int×Unit)×Unit)) =>
   some (((((List.length x.2.1.1.1.1):Nat):Int),((((List.length x.2.1.1.1.2):Nat):Int),(x.1.1,y3.1))),())):=by kernel_rfl
theorem ac3(F:FT)(J:JT pZ)(x:((ID×Unit)×Unit)):bZ 86 pZ Tryz.f86 F J x =
  cond (decide (x.1.1.1≥(1:Int)))
   (cond (decide (x.1.1.1≤(8:Int)))
    (cond (decide (x.1.1.2≥(1:Int)))
     (some (((decide (x.1.1.2≤(1048576:Int))),()),()))
     (some ((false,()),())))
    (some ((false,()),())))
   (some ((false,()),())):=by kernel_rfl
theorem ac4(F:FT)(J:JT BT)(x:((oX×Unit)×Unit)):bZ 87 BT Tryz.f87 F J x =
  (F 86 pZ ((x.1.1.1,()),())).bind fun (y1:((Bool×Unit)×Unit)) =>
  cond y1.1.1
   (cond (((x.1.1.2.1.1==(0:Int))&&(x.1.1.2.1.2==(0:Int)))&&(x.1.1.2.2==(0:Int)))
    (some ((true,()),()))
    ((F 106 F3 (((x.1.1.2.1,x.1.1.2.2),()),())).bind fun (y2:((Bool×Unit)×Unit)) =>
    some (y2.1,())))
   (some ((false,()),())):=by kernel_rfl
theorem ac5(F:FT)(J:JT vp)(x:((ByteArray×Unit)×Unit)):bZ 88 vp Tryz.f88 F J x =
 J vA (aP Tryz.prog 88 0) (x.1,((),((x.1.1,0),()))):=by kernel_rfl
theorem OE(F:FT)(J:JT vp)(x:((ByteArray×Unit)×(Unit×((ByteArray×Nat)×Unit)))):fR 88 0 vp Tryz.f88 vA F J x =
  cond (decide (x.2.2.1.2<(ByteArray.size x.2.2.1.1)))
   (cond (decide ((nK x.2.2.1.1 x.2.2.1.2)<(32:Int)))
    (some ((false,()),()))
    (cond (decide ((nK x.2.2.1.1 x.2.2.1.2) > (126:Int)))
     (some ((false,()),()))
     (J vA (aP Tryz.prog 88 0) (x.1,((),((x.2.2.1.1,(x.2.2.1.2+(yn x.2.2.1.1 x.2.2.1.2))),()))))))
   (some (((decide ((((ByteArray.size x.1.1):Nat):Int)≤(16:Int))),()),())):=by kernel_rfl
theorem ac6(F:FT)(J:JT FU)(x:((Int×Unit)×Unit)):bZ 89 FU Tryz.f89 F J x =
  cond (decide (x.1.1≥(-1099511627776:Int)))
   (some (((decide (x.1.1≤(1099511627776:Int))),()),()))
   (some ((false,()),())):=by kernel_rfl
theorem ac7(F:FT)(J:JT FV)(x:((ah×Unit)×(aC×Unit))):bZ 90 FV Tryz.f90 F J x =
  (F 107 oR ((x.1.1.1,()),((x.2.1.1,(x.2.1.2.1,x.2.1.2.2)),()))).bind fun (y1:((Int×(Bool×Unit))×(aC×Unit))) =>
  cond y1.1.2.1
   (some (((12:Int),()),((y1.2.1.1,(y1.2.1.2.1,y1.2.1.2.2)),())))
   (cond (decide ((((List.length y1.2.1.1):Nat):Int)≥(24:Int)))
    (some (((3:Int),()),((y1.2.1.1,(y1.2.1.2.1,y1.2.1.2.2)),())))
    (cond (pq y1.2.1.1 y1.1.1 ((x.1.1.1,(x.1.1.2.1,x.1.1.2.2))::([]:List ah)))
     (some (((0:Int),()),(((fE y1.2.1.1 y1.1.1 ((x.1.1.1,(x.1.1.2.1,x.1.1.2.2))::([]:List ah))),(y1.2.1.2.1,y1.2.1.2.2)),())))
     (none))):=by kernel_rfl
theorem ac8(F:FT)(J:JT NV)(x:((bw×Unit)×(aC×Unit))):bZ 91 NV Tryz.f91 F J x =
  (F 107 oR ((x.1.1.2.1,()),((x.2.1.1,(x.2.1.2.1,x.2.1.2.2)),()))).bind fun (y1:((Int×(Bool×Unit))×(aC×Unit))) =>
  cond (not y1.1.2.1)
   (some (((13:Int),()),((y1.2.1.1,(y1.2.1.2.1,y1.2.1.2.2)),())))
   (cond ((decide ((0:Int)≤y1.1.1))&&(decide (y1.1.1<(((List.length y1.2.1.1):Nat):Int))))
    (((y1.2.1.1)[(Int.toNat y1.1.1)]?).bind fun (y2:ah) =>
    cond (decide ((((List.length y2.2.1):Nat):Int) > (0:Int)))
     (some (((14:Int),()),((y1.2.1.1,(y1.2.1.2.1,y1.2.1.2.2)),())))
     (cond (je y1.2.1.1 y1.1.1 (IntKind.wrap .i64 (y1.1.1+(1:Int))))
      (some (((0:Int),()),(((c9 y1.2.1.1 y1.1.1 (IntKind.wrap .i64 (y1.1.1+(1:Int)))),(y1.2.1.2.1,y1.2.1.2.2)),())))
      (none)))
    (none)):=by kernel_rfl
theorem Uq(F:FT)(J:JT m8)(x:((bw×Unit)×(aC×Unit))):bZ 92 m8 Tryz.f92 F J x =
  cond (oo x.2.1.1 x.2.1.2.1)
   ((F 110 wP ((x.1.1.2.1,()),((x.2.1.1,(x.2.1.2.1,x.2.1.2.2)),()))).bind fun (y1:((Int×Unit)×(aC×Unit))) =>
   cond (y1.1.1 != (0:Int))
    (some (y1.1,((y1.2.1.1,(y1.2.1.2.1,y1.2.1.2.2)),())))
    ((F 111 zM ((x.1.1.2.1,()),())).bind fun (y2:((ab×(ab×Unit))×Unit)) =>
    J lA (aP Tryz.prog 92 0) (((((List.length ((x.1.1.2.2.2.2.1.1,(x.1.1.2.2.2.2.1.2.1,x.1.1.2.2.2.2.1.2.2))::((x.1.1.2.2.2.2.2.1.1,(x.1.1.2.2.2.2.2.1.2.1,x.1.1.2.2.2.2.2.1.2.2))::([]:List oX)))):Nat):Int),((0:Int),())),(((y1.2.1.1,(y1.2.1.2.1,y1.2.1.2.2)),((((x.2.1.1,x.2.1.2.1),x.2.1.2.2.1),()),(((y2.1.1.1,y2.1.1.2),()),()))),(((y2.1.1.1,y2.1.1.2)::((y2.1.2.1.1,y2.1.2.1.2)::([]:List ab))),(((x.1.1.2.2.2.2.1.1,(x.1.1.2.2.2.2.1.2.1,x.1.1.2.2.2.2.1.2.2))::((x.1.1.2.2.2.2.2.1.1,(x.1.1.2.2.2.2.2.1.2.1,x.1.1.2.2.2.2.2.1.2.2))::([]:List oX))),()))))))
   (none):=by kernel_rfl
theorem vD(F:FT)(J:JT m8)(x:((Int×(Int×Unit))×((aC×((StateT×Unit)×((ab×Unit)×Unit)))×((List ab)×((List oX)×Unit))))):fR 92 0 m8 Tryz.f92 lA F J x =
  cond (decide (x.1.2.1<x.1.1))
   (cond ((decide ((0:Int)≤x.1.2.1))&&(decide (x.1.2.1<(((List.length x.2.2.2.1):Nat):Int))))
    (((x.2.2.2.1)[(Int.toNat x.1.2.1)]?).bind fun (y3:oX) =>
    (F 112 F4 (((x.2.1.2.1.1.1,x.2.1.2.1.1.2),((y3.1,(y3.2.1,y3.2.2)),())),())).bind fun (y4:((oX×(Int×Unit))×Unit)) =>
    cond (y4.1.2.1 != (0:Int))
     (some (y4.1.2,((x.2.1.1.1,(x.2.1.1.2.1,x.2.1.1.2.2)),())))
     (cond (x.1.2.1==(1:Int))
      (cond (((y3.2.1.1==x.2.1.2.2.1.1.1.1)&&(y3.2.1.2==x.2.1.2.2.1.1.1.2))&&(y3.2.2==x.2.1.2.2.1.1.2))
       ((F 107 oR ((y3.1,()),((x.2.1.1.1,(x.2.1.1.2.1,x.2.1.1.2.2)),()))).bind fun (y5:((Int×(Bool×Unit))×(aC×Unit))) =>
       cond ((decide ((0:Int)≤y5.1.1))&&(decide (y5.1.1<(((List.length y5.2.1.1):Nat):Int))))
        (((y5.2.1.1)[(Int.toNat y5.1.1)]?).bind fun (y6:ah) =>
        cond ((decide ((0:Int)≤x.1.2.1))&&(decide (x.1.2.1<(((List.length x.2.2.1):Nat):Int))))
         (((x.2.2.1)[(Int.toNat x.1.2.1)]?).bind fun (y7:ab) =>
         (F 113 zN ((y6.2.1,((y3.2.1,y3.2.2),((y7.1,y7.2),()))),())).bind fun (y8:(((List ab)×Unit)×Unit)) =>
         ((y5.2.1.1)[(Int.toNat y5.1.1)]?).bind fun (y9:ah) =>
         J lA (aP Tryz.prog 92 0) ((x.1.1,((IntKind.wrap .i64 (x.1.2.1+(1:Int))),())),((((List.set y5.2.1.1 (Int.toNat y5.1.1) (y9.1,(y8.1.1,y9.2.2))),(y5.2.1.2.1,y5.2.1.2.2)),(((x.2.1.2.1.1.1,x.2.1.2.1.1.2),()),(((x.2.1.2.2.1.1.1,x.2.1.2.2.1.1.2),()),()))),(x.2.2.1,x.2.2.2))))
         (none))
        (none))
       ((F 107 oR ((y4.1.1.1,()),((x.2.1.1.1,(x.2.1.1.2.1,x.2.1.1.2.2)),()))).bind fun (ou:((Int×(Bool×Unit))×(aC×Unit))) =>
       cond ((decide ((0:Int)≤ou.1.1))&&(decide (ou.1.1<(((List.length ou.2.1.1):Nat):Int))))
        (((ou.2.1.1)[(Int.toNat ou.1.1)]?).bind fun (kC:ah) =>
        cond ((decide ((0:Int)≤x.1.2.1))&&(decide (x.1.2.1<(((List.length x.2.2.1):Nat):Int))))
         (((x.2.2.1)[(Int.toNat x.1.2.1)]?).bind fun (lP:ab) =>
         (F 113 zN ((kC.2.1,((y4.1.1.2.1,y4.1.1.2.2),((lP.1,lP.2),()))),())).bind fun (kD:(((List ab)×Unit)×Unit)) =>
         ((ou.2.1.1)[(Int.toNat ou.1.1)]?).bind fun (Bq:ah) =>
         J lA (aP Tryz.prog 92 0) ((x.1.1,((IntKind.wrap .i64 (x.1.2.1+(1:Int))),())),((((List.set ou.2.1.1 (Int.toNat ou.1.1) (Bq.1,(kD.1.1,Bq.2.2))),(ou.2.1.2.1,ou.2.1.2.2)),(((x.2.1.2.1.1.1,x.2.1.2.1.1.2),()),(((x.2.1.2.2.1.1.1,x.2.1.2.2.1.1.2),()),()))),(x.2.2.1,x.2.2.2))))
         (none))
        (none)))
      ((F 107 oR ((y4.1.1.1,()),((x.2.1.1.1,(x.2.1.1.2.1,x.2.1.1.2.2)),()))).bind fun (rT:((Int×(Bool×Unit))×(aC×Unit))) =>
      cond ((decide ((0:Int)≤rT.1.1))&&(decide (rT.1.1<(((List.length rT.2.1.1):Nat):Int))))
       (((rT.2.1.1)[(Int.toNat rT.1.1)]?).bind fun (SW:ah) =>
       cond ((decide ((0:Int)≤x.1.2.1))&&(decide (x.1.2.1<(((List.length x.2.2.1):Nat):Int))))
        (((x.2.2.1)[(Int.toNat x.1.2.1)]?).bind fun (Ri:ab) =>
        (F 113 zN ((SW.2.1,((y4.1.1.2.1,y4.1.1.2.2),((Ri.1,Ri.2),()))),())).bind fun (VU:(((List ab)×Unit)×Unit)) =>
        ((rT.2.1.1)[(Int.toNat rT.1.1)]?).bind fun (SX:ah) =>
        J lA (aP Tryz.prog 92 0) ((x.1.1,((IntKind.wrap .i64 (x.1.2.1+(1:Int))),())),((((List.set rT.2.1.1 (Int.toNat rT.1.1) (SX.1,(VU.1.1,SX.2.2))),(rT.2.1.2.1,rT.2.1.2.2)),(((x.2.1.2.1.1.1,x.2.1.2.1.1.2),()),(((x.2.1.2.2.1.1.1,x.2.1.2.2.1.1.2),()),()))),(x.2.2.1,x.2.2.2))))
        (none))
       (none))))
    (none))
   ((F 114 zO (((x.2.1.1.1,x.2.1.1.2.1),()),())).bind fun (Gi:((Bool×Unit)×Unit)) =>
   cond (not Gi.1.1)
    (some (((15:Int),()),((x.2.1.1.1,(x.2.1.1.2.1,x.2.1.1.2.2)),())))
    (some (((0:Int),()),((x.2.1.1.1,(x.2.1.1.2.1,x.2.1.1.2.2)),())))):=by kernel_rfl
theorem Xm(F:FT)(J:JT zL)(x:((bw×Unit)×(aC×Unit))):bZ 93 zL Tryz.f93 F J x =
  (F 115 ma ((x.1.1.2.1,()),((x.2.1.1,(x.2.1.2.1,x.2.1.2.2)),()))).bind fun (y1:((Int×(Bool×Unit))×(aC×Unit))) =>
  cond (not y1.1.2.1)
   (some (((13:Int),()),((y1.2.1.1,(y1.2.1.2.1,y1.2.1.2.2)),())))
   ((F 111 zM ((x.1.1.2.1,()),())).bind fun (y2:((ab×(ab×Unit))×Unit)) =>
   J D5 (aP Tryz.prog 93 0) ((y1.1.1,((((List.length ((y2.1.1.1,y2.1.1.2)::((y2.1.2.1.1,y2.1.2.1.2)::([]:List ab)))):Nat):Int),((0:Int),()))),(((y1.2.1.1,(y1.2.1.2.1,y1.2.1.2.2)),(((y2.1.1.1,y2.1.1.2),()),(((y2.1.2.1.1,y2.1.2.1.2),()),()))),(((y2.1.1.1,y2.1.1.2)::((y2.1.2.1.1,y2.1.2.1.2)::([]:List ab))),())))):=by kernel_rfl
theorem IC(F:FT)(J:JT zL)(x:((Int×(Int×(Int×Unit)))×((aC×((ab×Unit)×((ab×Unit)×Unit)))×((List ab)×Unit)))):fR 93 0 zL Tryz.f93 D5 F J x =
  cond (decide (x.1.2.2.1<x.1.2.1))
   (cond ((decide ((0:Int)≤x.1.2.2.1))&&(decide (x.1.2.2.1<(((List.length x.2.2.1):Nat):Int))))
    (((x.2.2.1)[(Int.toNat x.1.2.2.1)]?).bind fun (y3:ab) =>
    (F 117 zQ (((y3.1,y3.2),()),((x.2.1.1.1,(x.2.1.1.2.1,x.2.1.1.2.2)),()))).bind fun (y4:((ab×Unit)×(aC×Unit))) =>
    (F 116 zP (((y3.1,y3.2),((y4.1.1.1,y4.1.1.2),())),((y4.2.1.1,(y4.2.1.2.1,y4.2.1.2.2)),()))).bind fun (y5:(Unit×(aC×Unit))) =>
    J D5 (aP Tryz.prog 93 0) ((x.1.1,(x.1.2.1,((IntKind.wrap .i64 (x.1.2.2.1+(1:Int))),()))),(((y5.2.1.1,(y5.2.1.2.1,y5.2.1.2.2)),(((x.2.1.2.1.1.1,x.2.1.2.1.1.2),()),(((x.2.1.2.2.1.1.1,x.2.1.2.2.1.1.2),()),()))),x.2.2)))
    (none))
   (J vB (aP Tryz.prog 93 1) ((x.1.1,((((List.length ((x.2.1.2.1.1.1,x.2.1.2.1.1.2)::((x.2.1.2.2.1.1.1,x.2.1.2.2.1.1.2)::([]:List ab)))):Nat):Int),((0:Int),()))),(((x.2.1.1.1,(x.2.1.1.2.1,x.2.1.1.2.2)),()),(((x.2.1.2.1.1.1,x.2.1.2.1.1.2)::((x.2.1.2.2.1.1.1,x.2.1.2.2.1.1.2)::([]:List ab))),())))):=by kernel_rfl
theorem IE(F:FT)(J:JT zL)(x:((Int×(Int×(Int×Unit)))×((aC×Unit)×((List ab)×Unit)))):fR 93 1 zL Tryz.f93 vB F J x =
  cond (decide (x.1.2.2.1<x.1.2.1))
   (cond ((decide ((0:Int)≤x.1.2.2.1))&&(decide (x.1.2.2.1<(((List.length x.2.2.1):Nat):Int))))
    (((x.2.2.1)[(Int.toNat x.1.2.2.1)]?).bind fun (y6:ab) =>
    (F 118 lx (((y6.1,y6.2),()),((x.2.1.1.1,(x.2.1.1.2.1,x.2.1.1.2.2)),()))).bind fun (y7:(((Option ((Fin 1)×Nat))×Unit)×(aC×Unit))) =>
    po y7.1.1
     (none) fun (p8:((Fin 1)×Nat)) =>
    cond (p8.1.val==0)
     (((y7.2.1.1)[p8.2]?).bind fun (y9:ah) =>
     (F 119 F5 ((y9.2.1,((y6.1,y6.2),())),())).bind fun (ou:(((List ab)×Unit)×Unit)) =>
     ((y7.2.1.1)[p8.2]?).bind fun (kC:ah) =>
     J vB (aP Tryz.prog 93 1) ((x.1.1,(x.1.2.1,((IntKind.wrap .i64 (x.1.2.2.1+(1:Int))),()))),((((List.set y7.2.1.1 p8.2 (kC.1,(ou.1.1,kC.2.2))),(y7.2.1.2.1,y7.2.1.2.2)),()),x.2.2)))
     (none))
    (none))
   (cond (je x.2.1.1.2.1 x.1.1 (IntKind.wrap .i64 (x.1.1+(1:Int))))
    (some (((0:Int),()),((x.2.1.1.1,((c9 x.2.1.1.2.1 x.1.1 (IntKind.wrap .i64 (x.1.1+(1:Int)))),x.2.1.1.2.2)),())))
    (none)):=by kernel_rfl
theorem Rj(F:FT)(J:JT xl)(x:((bw×Unit)×(aC×Unit))):bZ 94 xl Tryz.f94 F J x =
  (F 115 ma ((x.1.1.2.1,()),((x.2.1.1,(x.2.1.2.1,x.2.1.2.2)),()))).bind fun (y1:((Int×(Bool×Unit))×(aC×Unit))) =>
  (F 107 oR ((x.1.1.2.2.1,()),((y1.2.1.1,(y1.2.1.2.1,y1.2.1.2.2)),()))).bind fun (y2:((Int×(Bool×Unit))×(aC×Unit))) =>
  (F 115 ma ((x.1.1.2.2.2.1,()),((y2.2.1.1,(y2.2.1.2.1,y2.2.1.2.2)),()))).bind fun (y3:((Int×(Bool×Unit))×(aC×Unit))) =>
  cond (not y1.1.2.1)
   (some (((13:Int),()),((y3.2.1.1,(y3.2.1.2.1,y3.2.1.2.2)),())))
   (cond y2.1.2.1
    (some (((12:Int),()),((y3.2.1.1,(y3.2.1.2.1,y3.2.1.2.2)),())))
    (cond y3.1.2.1
     (some (((12:Int),()),((y3.2.1.1,(y3.2.1.2.1,y3.2.1.2.2)),())))
     (cond (decide ((1:Int)<(0:Int)))
      (none)
      ((F 118 lx (((x.1.1.2.1,(eC .xor .i64 (1:Int) (eC .and .i64 x.1.1.2.2.2.2.2.2.2.2 (1:Int)))),()),((y3.2.1.1,(y3.2.1.2.1,y3.2.1.2.2)),()))).bind fun (y4:(((Option ((Fin 1)×Nat))×Unit)×(aC×Unit))) =>
      po y4.1.1
       (none) fun (p5:((Fin 1)×Nat)) =>
      cond (p5.1.val==0)
       (((y4.2.1.1)[p5.2]?).bind fun (y6:ah) =>
       (F 122 nc (((x.1.1.2.2.2.1,(kz .i64 x.1.1.2.2.2.2.2.2.2.2 (1:Int))),()),())).bind fun (y7:((ab×Unit)×Unit)) =>
       (F 121 rS ((y6.2.1,((x.1.1.2.1,(eC .xor .i64 (1:Int) (eC .and .i64 x.1.1.2.2.2.2.2.2.2.2 (1:Int)))),((y7.1.1.1,y7.1.1.2),()))),())).bind fun (y8:(((List ab)×Unit)×Unit)) =>
       ((y4.2.1.1)[p5.2]?).bind fun (y9:ah) =>
       (F 123 p6 ((((x.1.1.2.1,(eC .xor .i64 (1:Int) (eC .and .i64 x.1.1.2.2.2.2.2.2.2.2 (1:Int))))::((x.1.1.2.2.2.1,(kz .i64 x.1.1.2.2.2.2.2.2.2.2 (1:Int)))::([]:List ab))),()),())).bind fun (ou:(((List ab)×Unit)×Unit)) =>
       (F 90 FV (((x.1.1.2.2.1,(ou.1.1,((⟨#[]⟩:ByteArray),(0:Int)))),()),(((List.set y4.2.1.1 p5.2 (y9.1,(y8.1.1,y9.2.2))),(y4.2.1.2.1,y4.2.1.2.2)),()))).bind fun (kC:((Int×Unit)×(aC×Unit))) =>
       cond (kC.1.1 != (0:Int))
        (some (kC.1,((kC.2.1.1,(kC.2.1.2.1,kC.2.1.2.2)),())))
        ((F 110 wP ((x.1.1.2.2.2.1,()),((kC.2.1.1,(kC.2.1.2.1,kC.2.1.2.2)),()))).bind fun (lP:((Int×Unit)×(aC×Unit))) =>
        some (lP.1,((lP.2.1.1,(lP.2.1.2.1,lP.2.1.2.2)),()))))
       (none))))):=by kernel_rfl
theorem Xn(F:FT)(J:JT p4)(x:((bw×Unit)×(aC×Unit))):bZ 95 p4 Tryz.f95 F J x =
  (F 107 oR ((x.1.1.2.1,()),((x.2.1.1,(x.2.1.2.1,x.2.1.2.2)),()))).bind fun (y1:((Int×(Bool×Unit))×(aC×Unit))) =>
  cond (not y1.1.2.1)
   (some (((13:Int),()),((y1.2.1.1,(y1.2.1.2.1,y1.2.1.2.2)),())))
   (cond ((decide ((0:Int)≤y1.1.1))&&(decide (y1.1.1<(((List.length y1.2.1.1):Nat):Int))))
    (((y1.2.1.1)[(Int.toNat y1.1.1)]?).bind fun (y2:ah) =>
    cond ((((List.length y2.2.1):Nat):Int) != (2:Int))
     (some (((14:Int),()),((y1.2.1.1,(y1.2.1.2.1,y1.2.1.2.2)),())))
     (((aZ y2.2.1 (0:Int))).bind fun (y3:ab) =>
     ((aZ y2.2.1 (1:Int))).bind fun (y4:ab) =>
     cond ((y3.1.1==y4.1.1)&&(y3.1.2==y4.1.2))
      (some (((14:Int),()),((y1.2.1.1,(y1.2.1.2.1,y1.2.1.2.2)),())))
      (((aZ y2.2.1 (0:Int))).bind fun (y5:ab) =>
      ((aZ y2.2.1 (1:Int))).bind fun (y6:ab) =>
      cond ((y5.1.1==x.1.1.2.2.2.1.1)&&(y5.1.2==x.1.1.2.2.2.1.2))
       (cond (not ((y5.1.1==x.1.1.2.2.2.1.1)&&(y5.1.2==x.1.1.2.2.2.1.2)))
        (some (((14:Int),()),((y1.2.1.1,(y1.2.1.2.1,y1.2.1.2.2)),())))
        ((F 122 nc (((y5.1,y5.2),()),())).bind fun (y7:((ab×Unit)×Unit)) =>
        cond (je y1.2.1.1 y1.1.1 (IntKind.wrap .i64 (y1.1.1+(1:Int))))
         ((F 118 lx (((y7.1.1.1,y7.1.1.2),()),(((c9 y1.2.1.1 y1.1.1 (IntKind.wrap .i64 (y1.1.1+(1:Int)))),(y1.2.1.2.1,y1.2.1.2.2)),()))).bind fun (y8:(((Option ((Fin 1)×Nat))×Unit)×(aC×Unit))) =>
         po y8.1.1
          (none) fun (p9:((Fin 1)×Nat)) =>
         cond (p9.1.val==0)
          (((y8.2.1.1)[p9.2]?).bind fun (ou:ah) =>
          (F 121 rS ((ou.2.1,((y7.1.1.1,y7.1.1.2),((y6.1,y6.2),()))),())).bind fun (kC:(((List ab)×Unit)×Unit)) =>
          ((y8.2.1.1)[p9.2]?).bind fun (lP:ah) =>
          (F 115 ma ((y5.1,()),(((List.set y8.2.1.1 p9.2 (lP.1,(kC.1.1,lP.2.2))),(y8.2.1.2.1,y8.2.1.2.2)),()))).bind fun (kD:((Int×(Bool×Unit))×(aC×Unit))) =>
          cond (je kD.2.1.2.1 kD.1.1 (IntKind.wrap .i64 (kD.1.1+(1:Int))))
           (J mC (aP Tryz.prog 95 0) (((0:Int),()),(((kD.2.1.1,((c9 kD.2.1.2.1 kD.1.1 (IntKind.wrap .i64 (kD.1.1+(1:Int)))),kD.2.1.2.2)),(((y6.1,y6.2),()),(((y5.1,y5.2),()),(((y7.1.1.1,y7.1.1.2),()),())))),())))
           (none))
          (none))
         (none)))
       (cond (not ((y6.1.1==x.1.1.2.2.2.1.1)&&(y6.1.2==x.1.1.2.2.2.1.2)))
        (some (((14:Int),()),((y1.2.1.1,(y1.2.1.2.1,y1.2.1.2.2)),())))
        ((F 122 nc (((y6.1,y6.2),()),())).bind fun (Bq:((ab×Unit)×Unit)) =>
        cond (je y1.2.1.1 y1.1.1 (IntKind.wrap .i64 (y1.1.1+(1:Int))))
         ((F 118 lx (((Bq.1.1.1,Bq.1.1.2),()),(((c9 y1.2.1.1 y1.1.1 (IntKind.wrap .i64 (y1.1.1+(1:Int)))),(y1.2.1.2.1,y1.2.1.2.2)),()))).bind fun (rT:(((Option ((Fin 1)×Nat))×Unit)×(aC×Unit))) =>
         po rT.1.1
          (none) fun (p16:((Fin 1)×Nat)) =>
         cond (p16.1.val==0)
          (((rT.2.1.1)[p16.2]?).bind fun (Ri:ah) =>
          (F 121 rS ((Ri.2.1,((Bq.1.1.1,Bq.1.1.2),((y5.1,y5.2),()))),())).bind fun (VU:(((List ab)×Unit)×Unit)) =>
          ((rT.2.1.1)[p16.2]?).bind fun (SX:ah) =>
          (F 115 ma ((y6.1,()),(((List.set rT.2.1.1 p16.2 (SX.1,(VU.1.1,SX.2.2))),(rT.2.1.2.1,rT.2.1.2.2)),()))).bind fun (Gi:((Int×(Bool×Unit))×(aC×Unit))) =>
          cond (je Gi.2.1.2.1 Gi.1.1 (IntKind.wrap .i64 (Gi.1.1+(1:Int))))
           (J mC (aP Tryz.prog 95 0) (((0:Int),()),(((Gi.2.1.1,((c9 Gi.2.1.2.1 Gi.1.1 (IntKind.wrap .i64 (Gi.1.1+(1:Int)))),Gi.2.1.2.2)),(((y5.1,y5.2),()),(((y6.1,y6.2),()),(((Bq.1.1.1,Bq.1.1.2),()),())))),())))
           (none))
          (none))
         (none))))))
    (none)):=by kernel_rfl
theorem vE(F:FT)(J:JT p4)(x:((Int×Unit)×((aC×((ab×Unit)×((ab×Unit)×((ab×Unit)×Unit))))×Unit))):fR 95 0 p4 Tryz.f95 mC F J x =
  cond (decide (x.1.1<(2:Int)))
   (cond (x.2.1.2.2.1.1.2==x.1.1)
    ((F 116 zP (((x.2.1.2.2.1.1.1,x.2.1.2.2.1.1.2),((((0:Int),(0:Int)),(0:Int)),())),((x.2.1.1.1,(x.2.1.1.2.1,x.2.1.1.2.2)),()))).bind fun (Xk:(Unit×(aC×Unit))) =>
    J mC (aP Tryz.prog 95 0) (((IntKind.wrap .i64 (x.1.1+(1:Int))),()),(((Xk.2.1.1,(Xk.2.1.2.1,Xk.2.1.2.2)),(((x.2.1.2.1.1.1,x.2.1.2.1.1.2),()),(((x.2.1.2.2.1.1.1,x.2.1.2.2.1.1.2),()),(((x.2.1.2.2.2.1.1.1,x.2.1.2.2.2.1.1.2),()),())))),())))
    ((F 116 zP (((x.2.1.2.2.2.1.1.1,x.2.1.2.2.2.1.1.2),((x.2.1.2.1.1.1,x.2.1.2.1.1.2),())),((x.2.1.1.1,(x.2.1.1.2.1,x.2.1.1.2.2)),()))).bind fun (Xl:(Unit×(aC×Unit))) =>
    J mC (aP Tryz.prog 95 0) (((IntKind.wrap .i64 (x.1.1+(1:Int))),()),(((Xl.2.1.1,(Xl.2.1.2.1,Xl.2.1.2.2)),(((x.2.1.2.1.1.1,x.2.1.2.1.1.2),()),(((x.2.1.2.2.1.1.1,x.2.1.2.2.1.1.2),()),(((x.2.1.2.2.2.1.1.1,x.2.1.2.2.2.1.1.2),()),())))),()))))
   (some (((0:Int),()),((x.2.1.1.1,(x.2.1.1.2.1,x.2.1.1.2.2)),()))):=by kernel_rfl
theorem ac9(F:FT)(J:JT NW)(x:((bw×Unit)×(aC×Unit))):bZ 96 NW Tryz.f96 F J x =
  (F 124 F6 (((x.1.1.1,(x.1.1.2.1,(x.1.1.2.2.1,(x.1.1.2.2.2.1,((x.1.1.2.2.2.2.1.1,(x.1.1.2.2.2.2.1.2.1,x.1.1.2.2.2.2.1.2.2)),((x.1.1.2.2.2.2.2.1.1,(x.1.1.2.2.2.2.2.1.2.1,x.1.1.2.2.2.2.2.1.2.2)),(x.1.1.2.2.2.2.2.2.1,x.1.1.2.2.2.2.2.2.2))))))),()),((x.2.1.1,(x.2.1.2.1,x.2.1.2.2)),()))).bind fun (y1:(((Option ((Fin 2)×Nat))×((Option ((Fin 2)×Nat))×Unit))×(aC×Unit))) =>
  po y1.1.1
   (po y1.1.2.1
    (some (((13:Int),()),((y1.2.1.1,(y1.2.1.2.1,y1.2.1.2.2)),()))) fun (p2:((Fin 2)×Nat)) =>
   cond (p2.1.val==0)
    (some (((13:Int),()),((y1.2.1.1,(y1.2.1.2.1,y1.2.1.2.2)),())))
    (cond (p2.1.val==1)
    (some (((13:Int),()),((y1.2.1.1,(y1.2.1.2.1,y1.2.1.2.2)),())))
    (none))) fun (p3:((Fin 2)×Nat)) =>
  cond (p3.1.val==0)
   (po y1.1.2.1
    (cond (x.1.1.1==(7:Int))
     (((y1.2.1.1)[p3.2]?).bind fun (ou:ah) =>
     some (((0:Int),()),(((List.set y1.2.1.1 p3.2 (ou.1,(ou.2.1,(x.1.1.2.2.2.2.2.2.2.1,ou.2.2.2)))),(y1.2.1.2.1,y1.2.1.2.2)),())))
     (none)) fun (VV:((Fin 2)×Nat)) =>
   cond (VV.1.val==0)
    (cond (x.1.1.1==(7:Int))
     (((y1.2.1.1)[p3.2]?).bind fun (Bq:ah) =>
     some (((0:Int),()),(((List.set y1.2.1.1 p3.2 (Bq.1,(Bq.2.1,(x.1.1.2.2.2.2.2.2.2.1,Bq.2.2.2)))),(y1.2.1.2.1,y1.2.1.2.2)),())))
     (((y1.2.1.1)[VV.2]?).bind fun (rT:ah) =>
     some (((0:Int),()),(((List.set y1.2.1.1 VV.2 (rT.1,(rT.2.1,(rT.2.2.1,x.1.1.2.2.2.2.2.2.2.2)))),(y1.2.1.2.1,y1.2.1.2.2)),()))))
    (cond (VV.1.val==1)
    (cond (x.1.1.1==(7:Int))
     (((y1.2.1.1)[p3.2]?).bind fun (lP:ah) =>
     some (((0:Int),()),(((List.set y1.2.1.1 p3.2 (lP.1,(lP.2.1,(x.1.1.2.2.2.2.2.2.2.1,lP.2.2.2)))),(y1.2.1.2.1,y1.2.1.2.2)),())))
     (((y1.2.1.2.1)[VV.2]?).bind fun (kD:af) =>
     some (((0:Int),()),((y1.2.1.1,((List.set y1.2.1.2.1 VV.2 (kD.1,(kD.2.1,x.1.1.2.2.2.2.2.2.2.2))),y1.2.1.2.2)),()))))
    (none)))
   (cond (p3.1.val==1)
   (po y1.1.2.1
    (cond (x.1.1.1==(7:Int))
     (((y1.2.1.2.1)[p3.2]?).bind fun (y4:af) =>
     some (((0:Int),()),((y1.2.1.1,((List.set y1.2.1.2.1 p3.2 (y4.1,(x.1.1.2.2.2.2.2.2.2.1,y4.2.2))),y1.2.1.2.2)),())))
     (none)) fun (p5:((Fin 2)×Nat)) =>
   cond (p5.1.val==0)
    (cond (x.1.1.1==(7:Int))
     (((y1.2.1.2.1)[p3.2]?).bind fun (y8:af) =>
     some (((0:Int),()),((y1.2.1.1,((List.set y1.2.1.2.1 p3.2 (y8.1,(x.1.1.2.2.2.2.2.2.2.1,y8.2.2))),y1.2.1.2.2)),())))
     (((y1.2.1.1)[p5.2]?).bind fun (y9:ah) =>
     some (((0:Int),()),(((List.set y1.2.1.1 p5.2 (y9.1,(y9.2.1,(y9.2.2.1,x.1.1.2.2.2.2.2.2.2.2)))),(y1.2.1.2.1,y1.2.1.2.2)),()))))
    (cond (p5.1.val==1)
    (cond (x.1.1.1==(7:Int))
     (((y1.2.1.2.1)[p3.2]?).bind fun (y6:af) =>
     some (((0:Int),()),((y1.2.1.1,((List.set y1.2.1.2.1 p3.2 (y6.1,(x.1.1.2.2.2.2.2.2.2.1,y6.2.2))),y1.2.1.2.2)),())))
     (((y1.2.1.2.1)[p5.2]?).bind fun (y7:af) =>
     some (((0:Int),()),((y1.2.1.1,((List.set y1.2.1.2.1 p5.2 (y7.1,(y7.2.1,x.1.1.2.2.2.2.2.2.2.2))),y1.2.1.2.2)),()))))
    (none)))
   (none)):=by kernel_rfl
theorem ada(F:FT)(J:JT NX)(x:((ab×Unit)×Unit)):bZ 97 NX Tryz.f97 F J x =
  (F 19 zH ((x.1.1.1,()),())).bind fun (y1:((Bool×Unit)×Unit)) =>
  cond y1.1.1
   (cond (x.1.1.2==(0:Int))
    (some ((true,()),()))
    (some (((x.1.1.2==(1:Int)),()),())))
   (some ((false,()),())):=by kernel_rfl
theorem adb(F:FT)(J:JT FY)(x:((StateT×(ab×Unit))×Unit)):bZ 98 FY Tryz.f98 F J x =
 J Ar (aP Tryz.prog 98 0) (((0:Int),()),((((x.1.1.1,x.1.1.2),()),(((x.1.2.1.1,x.1.2.1.2),()),(((((0:Int),(0:Int)),(0:Int)),()),()))),())):=by kernel_rfl
theorem OF(F:FT)(J:JT FY)(x:((Int×Unit)×(((StateT×Unit)×((ab×Unit)×((ab×Unit)×Unit)))×Unit))):fR 98 0 FY Tryz.f98 Ar F J x =
  cond (decide (x.1.1≤(((List.length x.2.1.1.1.2):Nat):Int)))
   ((F 20 sQ ((x.2.1.1.1.1,((x.2.1.2.1.1.1,x.2.1.2.1.1.2),())),())).bind fun (y1:((ID×(Bool×Unit))×Unit)) =>
   cond y1.1.2.1
    (some (((x.2.1.2.1.1.1,x.2.1.2.1.1.2),()),()))
    ((F 101 rR ((x.2.1.1.1.2,((x.2.1.2.1.1.1,x.2.1.2.1.1.2),())),())).bind fun (y2:((ab×(Bool×Unit))×Unit)) =>
    cond (not y2.1.2.1)
     (some (((((0:Int),(0:Int)),(0:Int)),()),()))
     (J Ar (aP Tryz.prog 98 0) (((IntKind.wrap .i64 (x.1.1+(1:Int))),()),((((x.2.1.1.1.1,x.2.1.1.1.2),()),(((y2.1.1.1,y2.1.1.2),()),(((x.2.1.2.2.1.1.1,x.2.1.2.2.1.1.2),()),()))),())))))
   (some (((((0:Int),(0:Int)),(0:Int)),()),())):=by kernel_rfl
theorem ade(F:FT)(J:JT BU)(x:((ai×(ID×((List ab)×Unit)))×Unit)):bZ 99 BU Tryz.f99 F J x =
 (F 38 BP ((x.1.1,()),())).bind fun (y1:((((List ah)×((List af)×Unit))×Unit)×Unit)) =>
 J vC (aP Tryz.prog 99 0) ((x.1.2.2.1,((0:Int),())),(((x.1.2.1,()),((([]:List ah),(([]:List af),())),((y1.1.1.1,y1.1.1.2),()))),())):=by kernel_rfl
theorem OG(F:FT)(J:JT BU)(x:(((List ab)×(Int×Unit))×(((ID×Unit)×(((List ah)×((List af)×Unit))×(((List ah)×((List af)×Unit))×Unit)))×Unit))):fR 99 0 BU Tryz.f99 vC F J x =
  cond (decide (x.1.2.1<(((List.length x.2.1.2.2.1.1):Nat):Int)))
   (cond ((decide ((0:Int)≤x.1.2.1))&&(decide (x.1.2.1<(((List.length x.2.1.2.2.1.1):Nat):Int))))
    (((x.2.1.2.2.1.1)[(Int.toNat x.1.2.1)]?).bind fun (y2:ah) =>
    cond ((y2.1.1==x.2.1.1.1.1)&&(y2.1.2==x.2.1.1.1.2))
     (cond ((decide ((0:Int)≤x.1.2.1))&&(decide (x.1.2.1<(((List.length x.2.1.2.2.1.1):Nat):Int))))
      (((x.2.1.2.2.1.1)[(Int.toNat x.1.2.1)]?).bind fun (y3:ah) =>
      J vC (aP Tryz.prog 99 0) ((x.1.1,((IntKind.wrap .i64 (x.1.2.1+(1:Int))),())),(((x.2.1.1.1,()),((x.2.1.2.1.1,x.2.1.2.1.2),(((List.set x.2.1.2.2.1.1 (Int.toNat x.1.2.1) (y3.1,(x.1.1,y3.2.2))),x.2.1.2.2.1.2),()))),())))
      (none))
     (J vC (aP Tryz.prog 99 0) ((x.1.1,((IntKind.wrap .i64 (x.1.2.1+(1:Int))),())),(((x.2.1.1.1,()),((x.2.1.2.1.1,x.2.1.2.1.2),((x.2.1.2.2.1.1,x.2.1.2.2.1.2),()))),()))))
    (none))
   (some (((x.2.1.2.2.1.1,x.2.1.2.2.1.2.1),()),())):=by kernel_rfl
theorem Xo(F:FT)(J:JT wN)(x:(((List ab)×(ab×(ab×Unit)))×Unit)):bZ 100 wN Tryz.f100 F J x =
  (F 24 pY ((x.1.1,((x.1.2.2.1.1,x.1.2.2.1.2),())),())).bind fun (y1:((Int×Unit)×Unit)) =>
  cond (decide (y1.1.1≥(0:Int)))
   ((F 77 oZ ((x.1.1,()),())).bind fun (y2:(((List ab)×Unit)×Unit)) =>
   some (y2.1,()))
   ((F 24 pY ((x.1.1,((x.1.2.1.1,x.1.2.1.2),())),())).bind fun (y3:((Int×Unit)×Unit)) =>
   J qQ (aP Tryz.prog 100 0) ((x.1.1,((max (0:Int) y3.1.1:Int),((0:Int),()))),((((x.1.2.2.1.1,x.1.2.2.1.2),()),()),(([]:List ab),())))):=by kernel_rfl
theorem JO(F:FT)(J:JT wN)(x:(((List ab)×(Int×(Int×Unit)))×(((ab×Unit)×Unit)×((List ab)×Unit)))):fR 100 0 wN Tryz.f100 qQ F J x =
  cond (decide (x.1.2.2.1<(((List.length x.1.1):Nat):Int)))
   (((aZ x.1.1 x.1.2.2.1)).bind fun (y4:ab) =>
   cond (aM (List.length x.2.2.1) (List.length ((y4.1,y4.2)::([]:List ab))))
    (cond (x.1.2.2.1==x.1.2.1)
     (cond (aM (List.length (x.2.2.1++((y4.1,y4.2)::([]:List ab)))) (List.length ((x.2.1.1.1.1,x.2.1.1.1.2)::([]:List ab))))
      (J qQ (aP Tryz.prog 100 0) ((x.1.1,(x.1.2.1,((IntKind.wrap .i64 (x.1.2.2.1+(1:Int))),()))),((((x.2.1.1.1.1,x.2.1.1.1.2),()),()),(((x.2.2.1++((y4.1,y4.2)::([]:List ab)))++((x.2.1.1.1.1,x.2.1.1.1.2)::([]:List ab))),()))))
      (none))
     (J qQ (aP Tryz.prog 100 0) ((x.1.1,(x.1.2.1,((IntKind.wrap .i64 (x.1.2.2.1+(1:Int))),()))),((((x.2.1.1.1.1,x.2.1.1.1.2),()),()),((x.2.2.1++((y4.1,y4.2)::([]:List ab))),())))))
    (none))
   (cond ((((List.length x.1.1):Nat):Int)==(0:Int))
    (cond (aM (List.length x.2.2.1) (List.length ((x.2.1.1.1.1,x.2.1.1.1.2)::([]:List ab))))
     ((F 77 oZ (((x.2.2.1++((x.2.1.1.1.1,x.2.1.1.1.2)::([]:List ab))),()),())).bind fun (y5:(((List ab)×Unit)×Unit)) =>
     some (y5.1,()))
     (none))
    ((F 77 oZ (x.2.2,())).bind fun (y6:(((List ab)×Unit)×Unit)) =>
    some (y6.1,()))):=by kernel_rfl
theorem Xp(F:FT)(J:JT rR)(x:(((List ak)×(ab×Unit))×Unit)):bZ 101 rR Tryz.f101 F J x =
 J tZ (aP Tryz.prog 101 0) ((x.1.1,((0:Int),())),((((x.1.2.1.1,x.1.2.1.2),()),(((((0:Int),(0:Int)),(0:Int)),()),())),())):=by kernel_rfl
theorem JP(F:FT)(J:JT rR)(x:(((List ak)×(Int×Unit))×(((ab×Unit)×((ab×Unit)×Unit))×Unit))):fR 101 0 rR Tryz.f101 tZ F J x =
  cond (decide (x.1.2.1<(((List.length x.1.1):Nat):Int)))
   (((aZ x.1.1 x.1.2.1)).bind fun (y1:ak) =>
   cond (((y1.1.1.1==x.2.1.1.1.1.1)&&(y1.1.1.2==x.2.1.1.1.1.2))&&(y1.1.2==x.2.1.1.1.2))
    (((aZ x.1.1 x.1.2.1)).bind fun (y2:ak) =>
    some (((y2.2.1,y2.2.2),(true,())),()))
    (J tZ (aP Tryz.prog 101 0) ((x.1.1,((IntKind.wrap .i64 (x.1.2.1+(1:Int))),())),((((x.2.1.1.1.1,x.2.1.1.1.2),()),(((x.2.1.2.1.1.1,x.2.1.2.1.1.2),()),())),()))))
   (some (((((0:Int),(0:Int)),(0:Int)),(false,())),())):=by kernel_rfl
theorem Xq(F:FT)(J:JT wO)(x:(((List ab)×(ab×Unit))×Unit)):bZ 102 wO Tryz.f102 F J x =
 J qR (aP Tryz.prog 102 0) ((x.1.1,((0:Int),())),((((x.1.2.1.1,x.1.2.1.2),()),()),(([]:List ab),()))):=by kernel_rfl
theorem JQ(F:FT)(J:JT wO)(x:(((List ab)×(Int×Unit))×(((ab×Unit)×Unit)×((List ab)×Unit)))):fR 102 0 wO Tryz.f102 qR F J x =
  cond (decide (x.1.2.1<(((List.length x.1.1):Nat):Int)))
   (((aZ x.1.1 x.1.2.1)).bind fun (y1:ab) =>
   cond (not (((y1.1.1==x.2.1.1.1.1.1)&&(y1.1.2==x.2.1.1.1.1.2))&&(y1.2==x.2.1.1.1.2)))
    (((aZ x.1.1 x.1.2.1)).bind fun (y2:ab) =>
    cond (aM (List.length x.2.2.1) (List.length ((y2.1,y2.2)::([]:List ab))))
     (J qR (aP Tryz.prog 102 0) ((x.1.1,((IntKind.wrap .i64 (x.1.2.1+(1:Int))),())),((((x.2.1.1.1.1,x.2.1.1.1.2),()),()),((x.2.2.1++((y2.1,y2.2)::([]:List ab))),()))))
     (none))
    (J qR (aP Tryz.prog 102 0) ((x.1.1,((IntKind.wrap .i64 (x.1.2.1+(1:Int))),())),((((x.2.1.1.1.1,x.2.1.1.1.2),()),()),x.2.2))))
   ((F 77 oZ (x.2.2,())).bind fun (y3:(((List ab)×Unit)×Unit)) =>
   some (y3.1,())):=by kernel_rfl
theorem Xr(F:FT)(J:JT FZ)(x:(((List ab)×(ab×(ab×Unit)))×Unit)):bZ 103 FZ Tryz.f103 F J x =
  cond (aM (List.length ([]:List ab)) (List.length x.1.1))
   ((F 24 pY ((x.1.1,((x.1.2.1.1,x.1.2.1.2),())),())).bind fun (y1:((Int×Unit)×Unit)) =>
   cond (decide (y1.1.1≥(0:Int)))
    ((F 24 pY ((x.1.1,((x.1.2.2.1.1,x.1.2.2.1.2),())),())).bind fun (y2:((Int×Unit)×Unit)) =>
    cond (decide (y2.1.1<(0:Int)))
     (cond ((decide ((0:Int)≤y1.1.1))&&(decide (y1.1.1<(((List.length (([]:List ab)++x.1.1)):Nat):Int))))
      ((((([]:List ab)++x.1.1))[(Int.toNat y1.1.1)]?).bind fun (y3:ab) =>
      (F 77 oZ (((List.set (([]:List ab)++x.1.1) (Int.toNat y1.1.1) (x.1.2.2.1.1,x.1.2.2.1.2)),()),())).bind fun (y4:(((List ab)×Unit)×Unit)) =>
      some (y4.1,()))
      (none))
     ((F 77 oZ (((([]:List ab)++x.1.1),()),())).bind fun (y5:(((List ab)×Unit)×Unit)) =>
     some (y5.1,())))
    ((F 77 oZ (((([]:List ab)++x.1.1),()),())).bind fun (y6:(((List ab)×Unit)×Unit)) =>
    some (y6.1,())))
   (none):=by kernel_rfl
theorem Xs(F:FT)(J:JT F2)(x:(((List ab)×(ab×Unit))×Unit)):bZ 104 F2 Tryz.f104 F J x =
  (F 24 pY ((x.1.1,((x.1.2.1.1,x.1.2.1.2),())),())).bind fun (y1:((Int×Unit)×Unit)) =>
  cond (decide (y1.1.1<(0:Int)))
   (some (((((0:Int),(0:Int)),(0:Int)),(false,())),()))
   (cond ((((List.length x.1.1):Nat):Int)==(0:Int))
    (none)
    (((aZ x.1.1 (Int.tmod (IntKind.wrap .i64 (y1.1.1+(1:Int))) (((List.length x.1.1):Nat):Int)))).bind fun (y2:ab) =>
    some (((y2.1,y2.2),(true,())),()))):=by kernel_rfl
theorem Xt(F:FT)(J:JT F3)(x:((ab×Unit)×Unit)):bZ 106 F3 Tryz.f106 F J x =
  (F 86 pZ ((x.1.1.1,()),())).bind fun (y1:((Bool×Unit)×Unit)) =>
  cond y1.1.1
   (some ((((eC .andNot .i64 x.1.1.2 (1:Int))==(0:Int)),()),()))
   (some ((false,()),())):=by kernel_rfl
theorem Xu(F:FT)(J:JT oR)(x:((ID×Unit)×(aC×Unit))):bZ 107 oR Tryz.f107 F J x =
 (F 127125 iO ((x.2.1.1,(x.1.1,())),())).bind fun (y1:((Int×(Bool×Unit))×Unit)) =>
 some ((y1.1.1,y1.1.2),((x.2.1.1,(x.2.1.2.1,x.2.1.2.2)),())):=by kernel_rfl
theorem Xv(F:FT)(J:JT wP)(x:((ID×Unit)×(aC×Unit))):bZ 110 wP Tryz.f110 F J x =
  (F 115 ma ((x.1.1,()),((x.2.1.1,(x.2.1.2.1,x.2.1.2.2)),()))).bind fun (y1:((Int×(Bool×Unit))×(aC×Unit))) =>
  cond y1.1.2.1
   (some (((12:Int),()),((y1.2.1.1,(y1.2.1.2.1,y1.2.1.2.2)),())))
   (cond (decide ((((List.length y1.2.1.2.1):Nat):Int)≥(40:Int)))
    (some (((3:Int),()),((y1.2.1.1,(y1.2.1.2.1,y1.2.1.2.2)),())))
    (cond (pq y1.2.1.2.1 y1.1.1 ((x.1.1,((⟨#[]⟩:ByteArray),(0:Int)))::([]:List af)))
     (some (((0:Int),()),((y1.2.1.1,((fE y1.2.1.2.1 y1.1.1 ((x.1.1,((⟨#[]⟩:ByteArray),(0:Int)))::([]:List af))),y1.2.1.2.2)),())))
     (none))):=by kernel_rfl
theorem SY(F:FT)(J:JT zM)(x:((ID×Unit)×Unit)):bZ 111 zM Tryz.f111 F J x =
 some (((x.1.1,(0:Int)),((x.1.1,(1:Int)),())),()):=by kernel_rfl
theorem Xw(F:FT)(J:JT F4)(x:((StateT×(oX×Unit))×Unit)):bZ 112 F4 Tryz.f112 F J x =
  (F 131 F7 ((x.1.1.1,(x.1.2.1.1,())),())).bind fun (y1:((ah×(Bool×Unit))×Unit)) =>
  cond (not y1.1.2.1)
   (some (((((0:Int),(0:Int)),(((0:Int),(0:Int)),(0:Int))),((13:Int),())),()))
   ((F 132 wQ (((x.1.1.1,x.1.1.2),((x.1.2.1.2.1,x.1.2.1.2.2),())),())).bind fun (y2:((ab×Unit)×Unit)) =>
   (F 133 tV ((y1.1.1.2.1,((y2.1.1.1,y2.1.1.2),())),())).bind fun (y3:((Bool×Unit)×Unit)) =>
   cond (not y3.1.1)
    (some (((x.1.2.1.1,(((0:Int),(0:Int)),(0:Int))),((0:Int),())),()))
    (some (((x.1.2.1.1,(y2.1.1.1,y2.1.1.2)),((0:Int),())),()))):=by kernel_rfl
theorem Xx(F:FT)(J:JT zN)(x:(((List ab)×(ab×(ab×Unit)))×Unit)):bZ 113 zN Tryz.f113 F J x =
  (F 133 tV ((x.1.1,((x.1.2.2.1.1,x.1.2.2.1.2),())),())).bind fun (y1:((Bool×Unit)×Unit)) =>
  cond y1.1.1
   ((F 123 p6 ((x.1.1,()),())).bind fun (y2:(((List ab)×Unit)×Unit)) =>
   some (y2.1,()))
   ((F 134 ly ((x.1.1,((x.1.2.1.1,x.1.2.1.2),())),())).bind fun (y3:((Int×Unit)×Unit)) =>
   cond (aW (List.length x.1.1) (0:Int) (min (IntKind.wrap .i64 ((max y3.1.1 (0:Int):Int)+(1:Int))) (((List.length x.1.1):Nat):Int):Int))
    (cond (aW (List.length x.1.1) (min (IntKind.wrap .i64 ((max y3.1.1 (0:Int):Int)+(1:Int))) (((List.length x.1.1):Nat):Int):Int) (((List.length x.1.1):Nat):Int))
     ((F 135 ng ((((cut x.1.1 (0:Int) (min (IntKind.wrap .i64 ((max y3.1.1 (0:Int):Int)+(1:Int))) (((List.length x.1.1):Nat):Int):Int))::(((x.1.2.2.1.1,x.1.2.2.1.2)::([]:List ab))::((cut x.1.1 (min (IntKind.wrap .i64 ((max y3.1.1 (0:Int):Int)+(1:Int))) (((List.length x.1.1):Nat):Int):Int) (((List.length x.1.1):Nat):Int))::([]:List (List ab))))),()),())).bind fun (y4:(((List ab)×Unit)×Unit)) =>
     some (y4.1,()))
     (none))
    (none)):=by kernel_rfl
theorem Xy(F:FT)(J:JT zO)(x:((ai×Unit)×Unit)):bZ 114 zO Tryz.f114 F J x =
 (F 136 F8 ((x.1.1,()),())).bind fun (y1:((Int×Unit)×Unit)) =>
 some (((y1.1.1==(0:Int)),()),()):=by kernel_rfl
theorem Xz(F:FT)(J:JT ma)(x:((ID×Unit)×(aC×Unit))):bZ 115 ma Tryz.f115 F J x =
 (F 139137 iP ((x.2.1.2.1,(x.1.1,())),())).bind fun (y1:((Int×(Bool×Unit))×Unit)) =>
 some ((y1.1.1,y1.1.2),((x.2.1.1,(x.2.1.2.1,x.2.1.2.2)),())):=by kernel_rfl
theorem XA(F:FT)(J:JT zP)(x:((ab×(ab×Unit))×(aC×Unit))):bZ 116 zP Tryz.f116 F J x =
 (F 139 F9 ((x.2.1.2.2.1,(((x.1.1.1,x.1.1.2),(x.1.2.1.1,x.1.2.1.2)),())),())).bind fun (y1:(((List ak)×Unit)×Unit)) =>
 some ((),((x.2.1.1,(x.2.1.2.1,y1.1)),())):=by kernel_rfl
theorem XB(F:FT)(J:JT zQ)(x:((ab×Unit)×(aC×Unit))):bZ 117 zQ Tryz.f117 F J x =
 J xO (aP Tryz.prog 117 0) (((0:Int),()),(((x.2.1.1,(x.2.1.2.1,x.2.1.2.2)),(((x.1.1.1,x.1.1.2),()),(((((0:Int),(0:Int)),(0:Int)),()),(((x.1.1.1,x.1.1.2),()),())))),())):=by kernel_rfl
theorem Ea(F:FT)(J:JT zQ)(x:((Int×Unit)×((aC×((ab×Unit)×((ab×Unit)×((ab×Unit)×Unit))))×Unit))):fR 117 0 zQ Tryz.f117 xO F J x =
  cond (decide (x.1.1<(2:Int)))
   ((F 118 lx (((x.2.1.2.1.1.1,x.2.1.2.1.1.2),()),((x.2.1.1.1,(x.2.1.1.2.1,x.2.1.1.2.2)),()))).bind fun (y1:(((Option ((Fin 1)×Nat))×Unit)×(aC×Unit))) =>
   po y1.1.1
    (none) fun (p2:((Fin 1)×Nat)) =>
   cond (p2.1.val==0)
    (((y1.2.1.1)[p2.2]?).bind fun (y3:ah) =>
    (F 140 CE ((y3.2.1,((x.2.1.2.2.2.1.1.1,x.2.1.2.2.2.1.1.2),())),())).bind fun (y4:((ab×(Bool×Unit))×Unit)) =>
    cond (not ((y4.1.1.1.1==x.2.1.2.1.1.1.1)&&(y4.1.1.1.2==x.2.1.2.1.1.1.2)))
     (some (((y4.1.1.1,y4.1.1.2),()),((y1.2.1.1,(y1.2.1.2.1,y1.2.1.2.2)),())))
     (J xO (aP Tryz.prog 117 0) (((IntKind.wrap .i64 (x.1.1+(1:Int))),()),(((y1.2.1.1,(y1.2.1.2.1,y1.2.1.2.2)),(((x.2.1.2.1.1.1,x.2.1.2.1.1.2),()),(((x.2.1.2.2.1.1.1,x.2.1.2.2.1.1.2),()),(((y4.1.1.1,y4.1.1.2),()),())))),()))))
    (none))
   (some (((((0:Int),(0:Int)),(0:Int)),()),((x.2.1.1.1,(x.2.1.1.2.1,x.2.1.1.2.2)),()))):=by kernel_rfl
theorem XC(F:FT)(J:JT lx)(x:((ab×Unit)×(aC×Unit))):bZ 118 lx Tryz.f118 F J x =
 J ua (aP Tryz.prog 118 0) (((((List.length x.2.1.1):Nat):Int),((0:Int),())),(((x.2.1.1,(x.2.1.2.1,x.2.1.2.2)),(((x.1.1.1,x.1.1.2),()),())),())):=by kernel_rfl
theorem JR(F:FT)(J:JT lx)(x:((Int×(Int×Unit))×((aC×((ab×Unit)×Unit))×Unit))):fR 118 0 lx Tryz.f118 ua F J x =
  cond (decide (x.1.2.1<x.1.1))
   (cond ((decide ((0:Int)≤x.1.2.1))&&(decide (x.1.2.1<(((List.length x.2.1.1.1):Nat):Int))))
    (((x.2.1.1.1)[(Int.toNat x.1.2.1)]?).bind fun (y1:ah) =>
    (F 133 tV ((y1.2.1,((x.2.1.2.1.1.1,x.2.1.2.1.1.2),())),())).bind fun (y2:((Bool×Unit)×Unit)) =>
    cond y2.1.1
     (some (((some ((⟨0,by decide⟩:(Fin 1)),(Int.toNat x.1.2.1))),()),((x.2.1.1.1,(x.2.1.1.2.1,x.2.1.1.2.2)),())))
     (J ua (aP Tryz.prog 118 0) ((x.1.1,((IntKind.wrap .i64 (x.1.2.1+(1:Int))),())),(((x.2.1.1.1,(x.2.1.1.2.1,x.2.1.1.2.2)),(((x.2.1.2.1.1.1,x.2.1.2.1.1.2),()),())),()))))
    (none))
   (some ((none,()),((x.2.1.1.1,(x.2.1.1.2.1,x.2.1.1.2.2)),()))):=by kernel_rfl
theorem XD(F:FT)(J:JT F5)(x:(((List ab)×(ab×Unit))×Unit)):bZ 119 F5 Tryz.f119 F J x =
  (F 134 ly ((x.1.1,((x.1.2.1.1,x.1.2.1.2),())),())).bind fun (y1:((Int×Unit)×Unit)) =>
  cond (decide (y1.1.1<(0:Int)))
   ((F 123 p6 ((x.1.1,()),())).bind fun (y2:(((List ab)×Unit)×Unit)) =>
   some (y2.1,()))
   (cond (aW (List.length x.1.1) (0:Int) y1.1.1)
    (cond (aW (List.length x.1.1) (IntKind.wrap .i64 (y1.1.1+(1:Int))) (((List.length x.1.1):Nat):Int))
     ((F 135 ng ((((cut x.1.1 (0:Int) y1.1.1)::((cut x.1.1 (IntKind.wrap .i64 (y1.1.1+(1:Int))) (((List.length x.1.1):Nat):Int))::([]:List (List ab)))),()),())).bind fun (y3:(((List ab)×Unit)×Unit)) =>
     some (y3.1,()))
     (none))
    (none)):=by kernel_rfl
theorem XE(F:FT)(J:JT rS)(x:(((List ab)×(ab×(ab×Unit)))×Unit)):bZ 121 rS Tryz.f121 F J x =
  (F 134 ly ((x.1.1,((x.1.2.1.1,x.1.2.1.2),())),())).bind fun (y1:((Int×Unit)×Unit)) =>
  cond (decide (y1.1.1<(0:Int)))
   ((F 123 p6 ((x.1.1,()),())).bind fun (y2:(((List ab)×Unit)×Unit)) =>
   some (y2.1,()))
   ((F 133 tV ((x.1.1,((x.1.2.2.1.1,x.1.2.2.1.2),())),())).bind fun (y3:((Bool×Unit)×Unit)) =>
   cond y3.1.1
    ((F 123 p6 ((x.1.1,()),())).bind fun (y4:(((List ab)×Unit)×Unit)) =>
    some (y4.1,()))
    (cond (aW (List.length x.1.1) (0:Int) y1.1.1)
     (cond (aW (List.length x.1.1) (IntKind.wrap .i64 (y1.1.1+(1:Int))) (((List.length x.1.1):Nat):Int))
      ((F 135 ng ((((cut x.1.1 (0:Int) y1.1.1)::(((x.1.2.2.1.1,x.1.2.2.1.2)::([]:List ab))::((cut x.1.1 (IntKind.wrap .i64 (y1.1.1+(1:Int))) (((List.length x.1.1):Nat):Int))::([]:List (List ab))))),()),())).bind fun (y5:(((List ab)×Unit)×Unit)) =>
      some (y5.1,()))
      (none))
     (none))):=by kernel_rfl
theorem XF(F:FT)(J:JT nc)(x:((ab×Unit)×Unit)):bZ 122 nc Tryz.f122 F J x =
 some (((x.1.1.1,(eC .xor .i64 x.1.1.2 (1:Int))),()),()):=by kernel_rfl
theorem XG(F:FT)(J:JT p6)(x:(((List ab)×Unit)×Unit)):bZ 123 p6 Tryz.f123 F J x =
  cond ((((List.length x.1.1):Nat):Int)==(0:Int))
   (some ((([]:List ab),()),()))
   ((F 143141 jZ (x.1,())).bind fun (y1:((ab×Unit)×Unit)) =>
   (F 134 ly ((x.1.1,((y1.1.1.1,y1.1.1.2),())),())).bind fun (y2:((Int×Unit)×Unit)) =>
   cond (aW (List.length x.1.1) y2.1.1 (((List.length x.1.1):Nat):Int))
    (cond (aW (List.length x.1.1) (0:Int) y2.1.1)
     ((F 143 nh ((((cut x.1.1 y2.1.1 (((List.length x.1.1):Nat):Int))::((cut x.1.1 (0:Int) y2.1.1)::([]:List (List ab)))),()),())).bind fun (y3:(((List ab)×Unit)×Unit)) =>
     some (y3.1,()))
     (none))
    (none)):=by kernel_rfl
theorem XH(F:FT)(J:JT F6)(x:((bw×Unit)×(aC×Unit))):bZ 124 F6 Tryz.f124 F J x =
  cond x.1.1.2.2.2.2.2.2.1
   ((F 115 ma ((x.1.1.2.1,()),((x.2.1.1,(x.2.1.2.1,x.2.1.2.2)),()))).bind fun (y1:((Int×(Bool×Unit))×(aC×Unit))) =>
   cond y1.1.2.1
    (cond ((decide ((0:Int)≤y1.1.1))&&(decide (y1.1.1<(((List.length y1.2.1.2.1):Nat):Int))))
     (cond ((decide ((0:Int)≤y1.1.1))&&(decide (y1.1.1<(((List.length y1.2.1.2.1):Nat):Int))))
      (some (((some ((⟨1,by decide⟩:(Fin 2)),(Int.toNat y1.1.1))),((some ((⟨1,by decide⟩:(Fin 2)),(Int.toNat y1.1.1))),())),((y1.2.1.1,(y1.2.1.2.1,y1.2.1.2.2)),())))
      (none))
     (none))
    (some ((none,(none,())),((y1.2.1.1,(y1.2.1.2.1,y1.2.1.2.2)),()))))
   ((F 107 oR ((x.1.1.2.1,()),((x.2.1.1,(x.2.1.2.1,x.2.1.2.2)),()))).bind fun (y2:((Int×(Bool×Unit))×(aC×Unit))) =>
   cond y2.1.2.1
    (cond ((decide ((0:Int)≤y2.1.1))&&(decide (y2.1.1<(((List.length y2.2.1.1):Nat):Int))))
     (cond ((decide ((0:Int)≤y2.1.1))&&(decide (y2.1.1<(((List.length y2.2.1.1):Nat):Int))))
      (some (((some ((⟨0,by decide⟩:(Fin 2)),(Int.toNat y2.1.1))),((some ((⟨0,by decide⟩:(Fin 2)),(Int.toNat y2.1.1))),())),((y2.2.1.1,(y2.2.1.2.1,y2.2.1.2.2)),())))
      (none))
     (none))
    (some ((none,(none,())),((y2.2.1.1,(y2.2.1.2.1,y2.2.1.2.2)),())))):=by kernel_rfl
theorem XI(F:FT)(J:JT CC)(x:((ah×(ID×Unit))×Unit)):bZ 126 CC Tryz.f126 F J x =
 (F 127 zR ((x.1.1.1,(x.1.2.1,())),())).bind fun (y1:((Int×Unit)×Unit)) =>
 some (y1.1,()):=by kernel_rfl
theorem XJ(F:FT)(J:JT zR)(x:((ID×(ID×Unit))×Unit)):bZ 127 zR Tryz.f127 F J x =
  cond ((x.1.1.1==x.1.2.1.1)&&(x.1.1.2==x.1.2.1.2))
   (some (((0:Int),()),()))
   ((F 145 zT ((x.1.1.1,(x.1.2.1.1,())),())).bind fun (y1:((Int×Unit)×Unit)) =>
   (F 145 zT ((x.1.1.2,(x.1.2.1.2,())),())).bind fun (y2:((Int×Unit)×Unit)) =>
   (F 144 tW (((y1.1.1::(y2.1.1::([]:List Int))),()),())).bind fun (y3:((Int×Unit)×Unit)) =>
   some (y3.1,())):=by kernel_rfl
theorem XK(F:FT)(J:JT F7)(x:((ai×(ID×Unit))×Unit)):bZ 131 F7 Tryz.f131 F J x =
 (F 151149 j0 ((x.1.1.1,(x.1.2.1,())),())).bind fun (y1:((ah×(Bool×Unit))×Unit)) =>
 (F 81 xk ((y1.1.1.2.1,()),())).bind fun (y2:(((List ab)×Unit)×Unit)) =>
 some (((y1.1.1.1,(y2.1.1,y1.1.1.2.2)),y1.1.2),()):=by kernel_rfl
theorem XL(F:FT)(J:JT wQ)(x:((StateT×(ab×Unit))×Unit)):bZ 132 wQ Tryz.f132 F J x =
 J ub (aP Tryz.prog 132 0) (((IntKind.wrap .i64 ((((List.length x.1.1.2):Nat):Int)+(1:Int))),((0:Int),())),((((x.1.1.1,x.1.1.2),()),(((x.1.2.1.1,x.1.2.1.2),()),(((((0:Int),(0:Int)),(0:Int)),()),()))),())):=by kernel_rfl
theorem JS(F:FT)(J:JT wQ)(x:((Int×(Int×Unit))×(((StateT×Unit)×((ab×Unit)×((ab×Unit)×Unit)))×Unit))):fR 132 0 wQ Tryz.f132 ub F J x =
  cond (decide (x.1.2.1<x.1.1))
   ((F 151 tX ((x.2.1.1.1.1,((x.2.1.2.1.1.1,x.2.1.2.1.1.2),())),())).bind fun (y1:((ID×(Bool×Unit))×Unit)) =>
   cond y1.1.2.1
    (some (((x.2.1.2.1.1.1,x.2.1.2.1.1.2),()),()))
    ((F 152 Gb ((x.2.1.1.1.2,((x.2.1.2.1.1.1,x.2.1.2.1.1.2),())),())).bind fun (y2:((ab×(Bool×Unit))×Unit)) =>
    cond (not y2.1.2.1)
     (some (((((0:Int),(0:Int)),(0:Int)),()),()))
     (J ub (aP Tryz.prog 132 0) ((x.1.1,((IntKind.wrap .i64 (x.1.2.1+(1:Int))),())),((((x.2.1.1.1.1,x.2.1.1.1.2),()),(((y2.1.1.1,y2.1.1.2),()),(((x.2.1.2.2.1.1.1,x.2.1.2.2.1.1.2),()),()))),())))))
   (some (((((0:Int),(0:Int)),(0:Int)),()),())):=by kernel_rfl
theorem XM(F:FT)(J:JT tV)(x:(((List ab)×(ab×Unit))×Unit)):bZ 133 tV Tryz.f133 F J x =
 (F 134 ly ((x.1.1,((x.1.2.1.1,x.1.2.1.2),())),())).bind fun (y1:((Int×Unit)×Unit)) =>
 some (((decide (y1.1.1≥(0:Int))),()),()):=by kernel_rfl
theorem XN(F:FT)(J:JT ly)(x:(((List ab)×(ab×Unit))×Unit)):bZ 134 ly Tryz.f134 F J x =
 J uc (aP Tryz.prog 134 0) ((x.1.1,((((List.length x.1.1):Nat):Int),((0:Int),()))),((((x.1.2.1.1,x.1.2.1.2),()),()),())):=by kernel_rfl
theorem JU(F:FT)(J:JT ly)(x:(((List ab)×(Int×(Int×Unit)))×(((ab×Unit)×Unit)×Unit))):fR 134 0 ly Tryz.f134 uc F J x =
  cond (decide (x.1.2.2.1<x.1.2.1))
   (((aZ x.1.1 x.1.2.2.1)).bind fun (y1:ab) =>
   cond (((x.2.1.1.1.1.1==y1.1.1)&&(x.2.1.1.1.1.2==y1.1.2))&&(x.2.1.1.1.2==y1.2))
    (some (x.1.2.2,()))
    (J uc (aP Tryz.prog 134 0) ((x.1.1,(x.1.2.1,((IntKind.wrap .i64 (x.1.2.2.1+(1:Int))),()))),((((x.2.1.1.1.1,x.2.1.1.1.2),()),()),()))))
   (some (((-1:Int),()),())):=by kernel_rfl
theorem XO(F:FT)(J:JT ng)(x:(((List (List ab))×Unit)×Unit)):bZ 135 ng Tryz.f135 F J x =
 (F 143 nh (x.1,())).bind fun (y1:(((List ab)×Unit)×Unit)) =>
 (F 123 p6 (y1.1,())).bind fun (y2:(((List ab)×Unit)×Unit)) =>
 some (y2.1,()):=by kernel_rfl
theorem XP(F:FT)(J:JT F8)(x:((ai×Unit)×Unit)):bZ 136 F8 Tryz.f136 F J x =
  (F 153 Gc ((x.1.1,()),())).bind fun (y1:((Int×(Int×(Int×(Int×Unit))))×Unit)) =>
  cond ((2:Int)==(0:Int))
   (none)
   (some (((IntKind.wrap .i64 (y1.1.2.2.2.1 - (IntKind.wrap .i64 (Int.tdiv (IntKind.wrap .i64 ((IntKind.wrap .i64 (y1.1.1 - y1.1.2.1))+y1.1.2.2.1)) (2:Int))))),()),())):=by kernel_rfl
theorem XQ(F:FT)(J:JT CD)(x:((af×(ID×Unit))×Unit)):bZ 138 CD Tryz.f138 F J x =
 (F 127 zR ((x.1.1.1,(x.1.2.1,())),())).bind fun (y1:((Int×Unit)×Unit)) =>
 some (y1.1,()):=by kernel_rfl
theorem XR(F:FT)(J:JT F9)(x:(((List ak)×(ak×Unit))×Unit)):bZ 139 F9 Tryz.f139 F J x =
  (F 156154 iQ ((x.1.1,((x.1.2.1.1.1,x.1.2.1.1.2),())),())).bind fun (y1:((Int×(Bool×Unit))×Unit)) =>
  (F 61 FM ((x.1.1,()),())).bind fun (y2:(((List ak)×Unit)×Unit)) =>
  cond y1.1.2.1
   (cond ((decide ((0:Int)≤y1.1.1))&&(decide (y1.1.1<(((List.length y2.1.1):Nat):Int))))
    (((y2.1.1)[(Int.toNat y1.1.1)]?).bind fun (y3:ak) =>
    some (((List.set y2.1.1 (Int.toNat y1.1.1) ((x.1.2.1.1.1,x.1.2.1.1.2),(x.1.2.1.2.1,x.1.2.1.2.2))),()),()))
    (none))
   (cond (decide ((((List.length x.1.1):Nat):Int)<(400:Int)))
    (cond (pq y2.1.1 y1.1.1 (((x.1.2.1.1.1,x.1.2.1.1.2),(x.1.2.1.2.1,x.1.2.1.2.2))::([]:List ak)))
     (some (((fE y2.1.1 y1.1.1 (((x.1.2.1.1.1,x.1.2.1.1.2),(x.1.2.1.2.1,x.1.2.1.2.2))::([]:List ak))),()),()))
     (none))
    (some (y2.1,()))):=by kernel_rfl
theorem XS(F:FT)(J:JT CE)(x:(((List ab)×(ab×Unit))×Unit)):bZ 140 CE Tryz.f140 F J x =
 (F 157 zU ((x.1.1,((x.1.2.1.1,x.1.2.1.2),((IntKind.wrap .i64 ((((List.length x.1.1):Nat):Int) - (1:Int))),()))),())).bind fun (y1:((ab×(Bool×Unit))×Unit)) =>
 some (((y1.1.1.1,y1.1.1.2),y1.1.2),()):=by kernel_rfl
theorem XT(F:FT)(J:JT CF)(x:((ab×(ab×Unit))×Unit)):bZ 142 CF Tryz.f142 F J x =
 (F 127 zR ((x.1.1.1,(x.1.2.1.1,())),())).bind fun (y1:((Int×Unit)×Unit)) =>
 (F 145 zT ((x.1.1.2,(x.1.2.1.2,())),())).bind fun (y2:((Int×Unit)×Unit)) =>
 (F 144 tW (((y1.1.1::(y2.1.1::([]:List Int))),()),())).bind fun (y3:((Int×Unit)×Unit)) =>
 some (y3.1,()):=by kernel_rfl
theorem XU(F:FT)(J:JT nh)(x:(((List (List ab))×Unit)×Unit)):bZ 143 nh Tryz.f143 F J x =
 J ud (aP Tryz.prog 143 0) ((x.1.1,((0:Int),(x.1.1,((((List.length x.1.1):Nat):Int),((0:Int),()))))),((),())):=by kernel_rfl
theorem JV(F:FT)(J:JT nh)(x:(((List (List ab))×(Int×((List (List ab))×(Int×(Int×Unit)))))×(Unit×Unit))):fR 143 0 nh Tryz.f143 ud F J x =
  cond (decide (x.1.2.2.2.2.1<x.1.2.2.2.1))
   (((aZ x.1.2.2.1 x.1.2.2.2.2.1)).bind fun (y1:(List ab)) =>
   cond (decide ((IntKind.wrap .i64 (x.1.2.1+(((List.length y1):Nat):Int)))<(0:Int)))
    (none)
    (J ud (aP Tryz.prog 143 0) ((x.1.1,((IntKind.wrap .i64 (x.1.2.1+(((List.length y1):Nat):Int))),(x.1.2.2.1,(x.1.2.2.2.1,((IntKind.wrap .i64 (x.1.2.2.2.2.1+(1:Int))),()))))),((),()))))
   (cond (yu x.1.2.1)
    (J ue (aP Tryz.prog 143 1) ((x.1.1,((((List.length x.1.1):Nat):Int),((0:Int),()))),((),(([]:List ab),()))))
    (none)):=by kernel_rfl
theorem JW(F:FT)(J:JT nh)(x:(((List (List ab))×(Int×(Int×Unit)))×(Unit×((List ab)×Unit)))):fR 143 1 nh Tryz.f143 ue F J x =
  cond (decide (x.1.2.2.1<x.1.2.1))
   (((aZ x.1.1 x.1.2.2.1)).bind fun (y2:(List ab)) =>
   cond (aM (List.length x.2.2.1) (List.length y2))
    (J ue (aP Tryz.prog 143 1) ((x.1.1,(x.1.2.1,((IntKind.wrap .i64 (x.1.2.2.1+(1:Int))),()))),((),((x.2.2.1++y2),()))))
    (none))
   (some (x.2.2,())):=by kernel_rfl
theorem XV(F:FT)(J:JT tW)(x:(((List Int)×Unit)×Unit)):bZ 144 tW Tryz.f144 F J x =
 J xQ (aP Tryz.prog 144 0) (((0:Int),(x.1.1,((((List.length x.1.1):Nat):Int),((0:Int),())))),((),())):=by kernel_rfl
theorem xR(F:FT)(J:JT tW)(x:((Int×((List Int)×(Int×(Int×Unit))))×(Unit×Unit))):fR 144 0 tW Tryz.f144 xQ F J x =
  cond (decide (x.1.2.2.2.1<x.1.2.2.1))
   (((aZ x.1.2.1 x.1.2.2.2.1)).bind fun (y1:Int) =>
   cond (y1 != x.1.1)
    (some ((y1,()),()))
    (J xQ (aP Tryz.prog 144 0) ((x.1.1,(x.1.2.1,(x.1.2.2.1,((IntKind.wrap .i64 (x.1.2.2.2.1+(1:Int))),())))),((),()))))
   (some ((x.1.1,()),())):=by kernel_rfl
theorem XW(F:FT)(J:JT zT)(x:((Int×(Int×Unit))×Unit)):bZ 145 zT Tryz.f145 F J x =
  (F 159 zX ((x.1.1,()),())).bind fun (y1:((Bool×Unit)×Unit)) =>
  (F 159 zX (x.1.2,())).bind fun (y2:((Bool×Unit)×Unit)) =>
  cond y1.1.1
   (cond y2.1.1
    (some (((0:Int),()),()))
    (some (((-1:Int),()),())))
   (cond y2.1.1
    (some (((1:Int),()),()))
    (cond (decide (x.1.1<x.1.2.1))
     (some (((-1:Int),()),()))
     (cond (decide (x.1.1 > x.1.2.1))
      (some (((1:Int),()),()))
      (some (((0:Int),()),()))))):=by kernel_rfl
theorem XX(F:FT)(J:JT Ga)(x:((ah×Unit)×Unit)):bZ 150 Ga Tryz.f150 F J x =
 some ((x.1.1.1,()),()):=by kernel_rfl
theorem XY(F:FT)(J:JT tX)(x:((ai×(ab×Unit))×Unit)):bZ 151 tX Tryz.f151 F J x =
 J uf (aP Tryz.prog 151 0) ((x.1.1.1,((((List.length x.1.1.1):Nat):Int),((0:Int),()))),((((x.1.2.1.1,x.1.2.1.2),()),((((0:Int),(0:Int)),()),())),())):=by kernel_rfl
theorem JX(F:FT)(J:JT tX)(x:(((List ah)×(Int×(Int×Unit)))×(((ab×Unit)×((ID×Unit)×Unit))×Unit))):fR 151 0 tX Tryz.f151 uf F J x =
  cond (decide (x.1.2.2.1<x.1.2.1))
   (((aZ x.1.1 x.1.2.2.1)).bind fun (y1:ah) =>
   (F 133 tV ((y1.2.1,((x.2.1.1.1.1,x.2.1.1.1.2),())),())).bind fun (y2:((Bool×Unit)×Unit)) =>
   cond y2.1.1
    (some ((y1.1,(true,())),()))
    (J uf (aP Tryz.prog 151 0) ((x.1.1,(x.1.2.1,((IntKind.wrap .i64 (x.1.2.2.1+(1:Int))),()))),((((x.2.1.1.1.1,x.2.1.1.1.2),()),((x.2.1.2.1.1,()),())),()))))
   (some ((((0:Int),(0:Int)),(false,())),())):=by kernel_rfl
theorem XZ(F:FT)(J:JT Gb)(x:(((List ak)×(ab×Unit))×Unit)):bZ 152 Gb Tryz.f152 F J x =
  (F 164162 iR ((x.1.1,()),(((x.1.2.1.1,x.1.2.1.2),()),()))).bind fun (y1:((Int×Unit)×((ab×Unit)×Unit))) =>
  cond (decide (y1.1.1<(0:Int)))
   (some (((((0:Int),(0:Int)),(0:Int)),(false,())),()))
   (((aZ x.1.1 y1.1.1)).bind fun (y2:ak) =>
   some (((y2.2.1,y2.2.2),(true,())),())):=by kernel_rfl
theorem X0(F:FT)(J:JT Gc)(x:((ai×Unit)×Unit)):bZ 153 Gc Tryz.f153 F J x =
 (F 166164 j4 ((x.1.1.1,()),())).bind fun (y1:((Int×Unit)×Unit)) =>
 (F 166 wR ((x.1.1,()),())).bind fun (y2:(((List (List ab))×Unit)×Unit)) =>
 (F 167 wS ((x.1.1,()),())).bind fun (y3:((Int×Unit)×Unit)) =>
 some (((((List.length x.1.1.1):Nat):Int),((((List.length x.1.1.2):Nat):Int),((IntKind.wrap .i64 ((((List.length y2.1.1):Nat):Int)+y1.1.1)),y3.1))),()):=by kernel_rfl
theorem X1(F:FT)(J:JT CG)(x:((ak×(ab×Unit))×Unit)):bZ 155 CG Tryz.f155 F J x =
 (F 142 CF (((x.1.1.1.1,x.1.1.1.2),((x.1.2.1.1,x.1.2.1.2),())),())).bind fun (y1:((Int×Unit)×Unit)) =>
 some (y1.1,()):=by kernel_rfl
end Go.Vs
set_option maxRecDepth 1000000
set_option maxHeartbeats 0
namespace Go.Vs
open Go.Proofs
theorem SZ(F:FT)(J:JT zU)(x:(((List ab)×(ab×(Int×Unit)))×Unit)):bZ 157 zU Tryz.f157 F J x =
  (F 134 ly ((x.1.1,((x.1.2.1.1,x.1.2.1.2),())),())).bind fun (y1:((Int×Unit)×Unit)) =>
  cond (decide (y1.1.1<(0:Int)))
   (some (((((0:Int),(0:Int)),(0:Int)),(false,())),()))
   (cond ((((List.length x.1.1):Nat):Int)==(0:Int))
    (none)
    (((aZ x.1.1 (Int.tmod (IntKind.wrap .i64 (y1.1.1+x.1.2.2.1)) (((List.length x.1.1):Nat):Int)))).bind fun (y2:ab) =>
    some (((y2.1,y2.2),(true,())),()))):=by kernel_rfl
theorem X2(F:FT)(J:JT zX)(x:((Int×Unit)×Unit)):bZ 159 zX Tryz.f159 F J x =
 some (((x.1.1 != x.1.1),()),()):=by kernel_rfl
theorem X3(F:FT)(J:JT Gd)(x:((ak×Unit)×((Int×(Int×(Int×Unit)))×Unit))):bZ 163 Gd Tryz.f163 F J x =
 some (((((x.1.1.1.1.1==x.2.1.1)&&(x.1.1.1.1.2==x.2.1.2.1))&&(x.1.1.1.2==x.2.1.2.2.1)),()),((x.2.1.1,(x.2.1.2.1,x.2.1.2.2)),())):=by kernel_rfl
theorem X4(F:FT)(J:JT Ge)(x:((ah×Unit)×Unit)):bZ 165 Ge Tryz.f165 F J x =
 some ((((((List.length x.1.1.2.1):Nat):Int)==(0:Int)),()),()):=by kernel_rfl
theorem X5(F:FT)(J:JT tY)(x:((ai×Unit)×Unit)):bZ 171 tY Tryz.f171 F J x =
 J ug (aP Tryz.prog 171 0) ((x.1.1.2,((((List.length x.1.1.2):Nat):Int),((0:Int),()))),((),(([]:List ab),()))):=by kernel_rfl
theorem JY(F:FT)(J:JT tY)(x:(((List af)×(Int×(Int×Unit)))×(Unit×((List ab)×Unit)))):fR 171 0 tY Tryz.f171 ug F J x =
  cond (decide (x.1.2.2.1<x.1.2.1))
   (((aZ x.1.1 x.1.2.2.1)).bind fun (y1:af) =>
   (F 122 nc (((y1.1,(0:Int)),()),())).bind fun (y2:((ab×Unit)×Unit)) =>
   cond (aM (List.length x.2.2.1) (List.length ((y1.1,(0:Int))::((y2.1.1.1,y2.1.1.2)::([]:List ab)))))
    (J ug (aP Tryz.prog 171 0) ((x.1.1,(x.1.2.1,((IntKind.wrap .i64 (x.1.2.2.1+(1:Int))),()))),((),((x.2.2.1++((y1.1,(0:Int))::((y2.1.1.1,y2.1.1.2)::([]:List ab)))),()))))
    (none))
   (some (x.2.2,())):=by kernel_rfl
theorem X6(F:FT)(J:JT CH)(x:((ai×(ab×Unit))×Unit)):bZ 176 CH Tryz.f176 F J x =
  (F 151 tX ((x.1.1,((x.1.2.1.1,x.1.2.1.2),())),())).bind fun (y1:((ID×(Bool×Unit))×Unit)) =>
  cond (not y1.1.2.1)
   (some (((((0:Int),(0:Int)),(0:Int)),(false,())),()))
   ((F 122 nc (((x.1.2.1.1,x.1.2.1.2),()),())).bind fun (y2:((ab×Unit)×Unit)) =>
   (F 179 wT ((x.1.1,((y2.1.1.1,y2.1.1.2),())),())).bind fun (y3:((ab×(Bool×Unit))×Unit)) =>
   some (((y3.1.1.1,y3.1.1.2),y3.1.2),())):=by kernel_rfl
theorem X7(F:FT)(J:JT gF)(x:((ai×Unit)×Unit)):bZ 177 gF Tryz.f177 F J x =
 J qS (aP Tryz.prog 177 0) ((x.1.1.1,((((List.length x.1.1.1):Nat):Int),((0:Int),()))),((),(([]:List Int),(([]:List (ab×Int)),())))):=by kernel_rfl
theorem JZ(F:FT)(J:JT gF)(x:(((List ah)×(Int×(Int×Unit)))×(Unit×((List Int)×((List (ab×Int))×Unit))))):fR 177 0 gF Tryz.f177 qS F J x =
  cond (decide (x.1.2.2.1<x.1.2.1))
   (((aZ x.1.1 x.1.2.2.1)).bind fun (y1:ah) =>
   cond (aM (List.length x.2.2.1) (List.length (x.1.2.2.1::([]:List Int))))
    (J uh (aP Tryz.prog 177 1) ((x.1.2.2.1,(x.1.1,(x.1.2.1,(x.1.2.2.1,(y1.2.1,((((List.length y1.2.1):Nat):Int),((0:Int),()))))))),((),((x.2.2.1++(x.1.2.2.1::([]:List Int))),x.2.2.2))))
    (none))
   (J ot (aP Tryz.prog 177 2) (x.2.2.2,((),(x.2.2.1,((none,x.2.2.2.1),()))))):=by kernel_rfl
theorem J0(F:FT)(J:JT gF)(x:((Int×((List ah)×(Int×(Int×((List ab)×(Int×(Int×Unit)))))))×(Unit×((List Int)×((List (ab×Int))×Unit))))):fR 177 1 gF Tryz.f177 uh F J x =
  cond (decide (x.1.2.2.2.2.2.2.1<x.1.2.2.2.2.2.1))
   (((aZ x.1.2.2.2.2.1 x.1.2.2.2.2.2.2.1)).bind fun (y2:ab) =>
   J uh (aP Tryz.prog 177 1) ((x.1.1,(x.1.2.1,(x.1.2.2.1,(x.1.2.2.2.1,(x.1.2.2.2.2.1,(x.1.2.2.2.2.2.1,((IntKind.wrap .i64 (x.1.2.2.2.2.2.2.1+(1:Int))),()))))))),((),(x.2.2.1,((lM (.pair (.pair (.int .i64) (.int .i64)) (.int .i64)) (y2.1,y2.2) x.1.1 x.2.2.2.1),())))))
   (J qS (aP Tryz.prog 177 0) ((x.1.2.1,(x.1.2.2.1,((IntKind.wrap .i64 (x.1.2.2.2.1+(1:Int))),()))),((),(x.2.2.1,x.2.2.2)))):=by kernel_rfl
theorem J1(F:FT)(J:JT gF)(x:(((List (ab×Int))×Unit)×(Unit×((List Int)×(((Option (ab×Int))×(List (ab×Int)))×Unit))))):fR 177 2 gF Tryz.f177 ot F J x =
  cond (List.isEmpty x.2.2.2.1.2)
   (J ui (aP Tryz.prog 177 3) (((((List.length x.2.2.1):Nat):Int),((0:Int),())),((),(x.2.2.1,(([]:List Int),())))))
   (rl (List.length x.2.2.2.1.2) fun (j3:Nat) =>
   ((x.2.2.2.1.2)[j3]?).bind fun (y4:(ab×Int)) =>
   (F 122 nc (((y4.1.1,y4.1.2),()),())).bind fun (y5:((ab×Unit)×Unit)) =>
   cond (Option.isSome (iD (.pair (.pair (.int .i64) (.int .i64)) (.int .i64)) (y5.1.1.1,y5.1.1.2) x.1.1))
    ((F 180 Gf ((y4.2,((Option.getD (iD (.pair (.pair (.int .i64) (.int .i64)) (.int .i64)) (y5.1.1.1,y5.1.1.2) x.1.1) (0:Int)),())),(x.2.2.1,()))).bind fun (y6:(Unit×((List Int)×Unit))) =>
    J ot (aP Tryz.prog 177 2) (x.1,((),(y6.2.1,(((some y4),(List.eraseIdx x.2.2.2.1.2 j3)),())))))
    (J ot (aP Tryz.prog 177 2) (x.1,((),(x.2.2.1,(((some y4),(List.eraseIdx x.2.2.2.1.2 j3)),())))))):=by kernel_rfl
theorem J2(F:FT)(J:JT gF)(x:((Int×(Int×Unit))×(Unit×((List Int)×((List Int)×Unit))))):fR 177 3 gF Tryz.f177 ui F J x =
  cond (decide (x.1.2.1<x.1.1))
   ((F 181 p7 (x.1.2,(x.2.2.1,()))).bind fun (y7:((Int×Unit)×((List Int)×Unit))) =>
   cond (aM (List.length x.2.2.2.1) (List.length (y7.1.1::([]:List Int))))
    (J ui (aP Tryz.prog 177 3) ((x.1.1,((IntKind.wrap .i64 (x.1.2.1+(1:Int))),())),((),(y7.2.1,((x.2.2.2.1++(y7.1.1::([]:List Int))),())))))
    (none))
   (some (x.2.2.2,())):=by kernel_rfl
theorem X8(F:FT)(J:JT wT)(x:((ai×(ab×Unit))×Unit)):bZ 179 wT Tryz.f179 F J x =
 J uj (aP Tryz.prog 179 0) ((x.1.1.1,((((List.length x.1.1.1):Nat):Int),((0:Int),()))),((((x.1.2.1.1,x.1.2.1.2),()),(((((0:Int),(0:Int)),(0:Int)),()),())),())):=by kernel_rfl
theorem J3(F:FT)(J:JT wT)(x:(((List ah)×(Int×(Int×Unit)))×(((ab×Unit)×((ab×Unit)×Unit))×Unit))):fR 179 0 wT Tryz.f179 uj F J x =
  cond (decide (x.1.2.2.1<x.1.2.1))
   (((aZ x.1.1 x.1.2.2.1)).bind fun (y1:ah) =>
   (F 182 Gg ((y1.2.1,((x.2.1.1.1.1,x.2.1.1.1.2),())),())).bind fun (y2:((ab×(Bool×Unit))×Unit)) =>
   cond y2.1.2.1
    (some (((y2.1.1.1,y2.1.1.2),(true,())),()))
    (J uj (aP Tryz.prog 179 0) ((x.1.1,(x.1.2.1,((IntKind.wrap .i64 (x.1.2.2.1+(1:Int))),()))),((((x.2.1.1.1.1,x.2.1.1.1.2),()),(((x.2.1.2.1.1.1,x.2.1.2.1.1.2),()),())),()))))
   (some (((((0:Int),(0:Int)),(0:Int)),(false,())),())):=by kernel_rfl
theorem X9(F:FT)(J:JT Gf)(x:((Int×(Int×Unit))×((List Int)×Unit))):bZ 180 Gf Tryz.f180 F J x =
  (F 181 p7 ((x.1.1,()),x.2)).bind fun (y1:((Int×Unit)×((List Int)×Unit))) =>
  (F 181 p7 (x.1.2,y1.2)).bind fun (y2:((Int×Unit)×((List Int)×Unit))) =>
  cond ((decide ((0:Int)≤(max y1.1.1 y2.1.1:Int)))&&(decide ((max y1.1.1 y2.1.1:Int)<(((List.length y2.2.1):Nat):Int))))
   (((y2.2.1)[(Int.toNat (max y1.1.1 y2.1.1:Int))]?).bind fun (y3:Int) =>
   some ((),((List.set y2.2.1 (Int.toNat (max y1.1.1 y2.1.1:Int)) (min y1.1.1 y2.1.1:Int)),())))
   (none):=by kernel_rfl
theorem Ya(F:FT)(J:JT p7)(x:((Int×Unit)×((List Int)×Unit))):bZ 181 p7 Tryz.f181 F J x =
 J qT (aP Tryz.prog 181 0) (x.1,((),x.2)):=by kernel_rfl
theorem J4(F:FT)(J:JT p7)(x:((Int×Unit)×(Unit×((List Int)×Unit)))):fR 181 0 p7 Tryz.f181 qT F J x =
  cond ((decide ((0:Int)≤x.1.1))&&(decide (x.1.1<(((List.length x.2.2.1):Nat):Int))))
   (((x.2.2.1)[(Int.toNat x.1.1)]?).bind fun (y1:Int) =>
   cond (y1 != x.1.1)
    (cond ((decide ((0:Int)≤x.1.1))&&(decide (x.1.1<(((List.length x.2.2.1):Nat):Int))))
     (((x.2.2.1)[(Int.toNat x.1.1)]?).bind fun (y2:Int) =>
     cond ((decide ((0:Int)≤y2))&&(decide (y2<(((List.length x.2.2.1):Nat):Int))))
      (((x.2.2.1)[(Int.toNat y2)]?).bind fun (y3:Int) =>
      cond ((decide ((0:Int)≤x.1.1))&&(decide (x.1.1<(((List.length x.2.2.1):Nat):Int))))
       (((x.2.2.1)[(Int.toNat x.1.1)]?).bind fun (y4:Int) =>
       cond ((decide ((0:Int)≤x.1.1))&&(decide (x.1.1<(((List.length (List.set x.2.2.1 (Int.toNat x.1.1) y3)):Nat):Int))))
        ((((List.set x.2.2.1 (Int.toNat x.1.1) y3))[(Int.toNat x.1.1)]?).bind fun (y5:Int) =>
        J qT (aP Tryz.prog 181 0) ((y5,()),((),((List.set x.2.2.1 (Int.toNat x.1.1) y3),()))))
        (none))
       (none))
      (none))
     (none))
    (some (x.1,x.2.2)))
   (none):=by kernel_rfl
theorem Yb(F:FT)(J:JT Gg)(x:(((List ab)×(ab×Unit))×Unit)):bZ 182 Gg Tryz.f182 F J x =
 (F 157 zU ((x.1.1,((x.1.2.1.1,x.1.2.1.2),((1:Int),()))),())).bind fun (y1:((ab×(Bool×Unit))×Unit)) =>
 some (((y1.1.1.1,y1.1.1.2),y1.1.2),()):=by kernel_rfl
theorem OH(F:FT)(J:JT iO)(x:(((List ah)×(ID×Unit))×Unit)):bZ 127125 iO Tryz.f125 F J x =
 J g9 (aP Tryz.prog 125 0) ((x.1.1,((((List.length x.1.1):Nat):Int),((0:Int),((((List.length x.1.1):Nat):Int),())))),(((x.1.2.1,()),()),())):=by kernel_rfl
theorem As(F:FT)(J:JT iO)(x:(((List ah)×(Int×(Int×(Int×Unit))))×(((ID×Unit)×Unit)×Unit))):fR 127125 0 iO Tryz.f125 g9 F J x =
  cond (decide (x.1.2.2.1<x.1.2.2.2.1))
   (cond (decide ((1:Int)<(0:Int)))
    (none)
    (((aZ x.1.1 (IntKind.wrap .i64 (kz .u64 (IntKind.wrap .u64 (IntKind.wrap .i64 (x.1.2.2.1+x.1.2.2.2.1))) (1:Int))))).bind fun (y1:ah) =>
    (F 126 CC (((y1.1,(y1.2.1,y1.2.2)),(x.2.1.1.1,())),())).bind fun (y2:((Int×Unit)×Unit)) =>
    cond (decide (y2.1.1<(0:Int)))
     (J g9 (aP Tryz.prog 125 0) ((x.1.1,(x.1.2.1,((IntKind.wrap .i64 ((IntKind.wrap .i64 (kz .u64 (IntKind.wrap .u64 (IntKind.wrap .i64 (x.1.2.2.1+x.1.2.2.2.1))) (1:Int)))+(1:Int))),x.1.2.2.2))),(((x.2.1.1.1,()),()),())))
     (J g9 (aP Tryz.prog 125 0) ((x.1.1,(x.1.2.1,(x.1.2.2.1,((IntKind.wrap .i64 (kz .u64 (IntKind.wrap .u64 (IntKind.wrap .i64 (x.1.2.2.1+x.1.2.2.2.1))) (1:Int))),())))),(((x.2.1.1.1,()),()),())))))
   (cond (decide (x.1.2.2.1<x.1.2.1))
    (((aZ x.1.1 x.1.2.2.1)).bind fun (y3:ah) =>
    (F 126 CC (((y3.1,(y3.2.1,y3.2.2)),(x.2.1.1.1,())),())).bind fun (y4:((Int×Unit)×Unit)) =>
    some ((x.1.2.2.1,((y4.1.1==(0:Int)),())),()))
    (some ((x.1.2.2.1,(false,())),()))):=by kernel_rfl
theorem OI(F:FT)(J:JT iP)(x:(((List af)×(ID×Unit))×Unit)):bZ 139137 iP Tryz.f137 F J x =
 J hM (aP Tryz.prog 137 0) ((x.1.1,((((List.length x.1.1):Nat):Int),((0:Int),((((List.length x.1.1):Nat):Int),())))),(((x.1.2.1,()),()),())):=by kernel_rfl
theorem Au(F:FT)(J:JT iP)(x:(((List af)×(Int×(Int×(Int×Unit))))×(((ID×Unit)×Unit)×Unit))):fR 139137 0 iP Tryz.f137 hM F J x =
  cond (decide (x.1.2.2.1<x.1.2.2.2.1))
   (cond (decide ((1:Int)<(0:Int)))
    (none)
    (((aZ x.1.1 (IntKind.wrap .i64 (kz .u64 (IntKind.wrap .u64 (IntKind.wrap .i64 (x.1.2.2.1+x.1.2.2.2.1))) (1:Int))))).bind fun (y1:af) =>
    (F 138 CD (((y1.1,y1.2),(x.2.1.1.1,())),())).bind fun (y2:((Int×Unit)×Unit)) =>
    cond (decide (y2.1.1<(0:Int)))
     (J hM (aP Tryz.prog 137 0) ((x.1.1,(x.1.2.1,((IntKind.wrap .i64 ((IntKind.wrap .i64 (kz .u64 (IntKind.wrap .u64 (IntKind.wrap .i64 (x.1.2.2.1+x.1.2.2.2.1))) (1:Int)))+(1:Int))),x.1.2.2.2))),(((x.2.1.1.1,()),()),())))
     (J hM (aP Tryz.prog 137 0) ((x.1.1,(x.1.2.1,(x.1.2.2.1,((IntKind.wrap .i64 (kz .u64 (IntKind.wrap .u64 (IntKind.wrap .i64 (x.1.2.2.1+x.1.2.2.2.1))) (1:Int))),())))),(((x.2.1.1.1,()),()),())))))
   (cond (decide (x.1.2.2.1<x.1.2.1))
    (((aZ x.1.1 x.1.2.2.1)).bind fun (y3:af) =>
    (F 138 CD (((y3.1,y3.2),(x.2.1.1.1,())),())).bind fun (y4:((Int×Unit)×Unit)) =>
    some ((x.1.2.2.1,((y4.1.1==(0:Int)),())),()))
    (some ((x.1.2.2.1,(false,())),()))):=by kernel_rfl
theorem OJ(F:FT)(J:JT jZ)(x:(((List ab)×Unit)×Unit)):bZ 143141 jZ Tryz.f141 F J x =
  cond (decide ((((List.length x.1.1):Nat):Int)<(1:Int)))
   (none)
   (((aZ x.1.1 (0:Int))).bind fun (y1:ab) =>
   J jw (aP Tryz.prog 141 0) ((x.1.1,((1:Int),())),((((((0:Int),(0:Int)),(0:Int)),()),(((y1.1,y1.2),()),())),()))):=by kernel_rfl
theorem Av(F:FT)(J:JT jZ)(x:(((List ab)×(Int×Unit))×(((ab×Unit)×((ab×Unit)×Unit))×Unit))):fR 143141 0 jZ Tryz.f141 jw F J x =
  cond (decide (x.1.2.1<(((List.length x.1.1):Nat):Int)))
   (((aZ x.1.1 x.1.2.1)).bind fun (y2:ab) =>
   (F 142 CF (((y2.1,y2.2),((x.2.1.2.1.1.1,x.2.1.2.1.1.2),())),())).bind fun (y3:((Int×Unit)×Unit)) =>
   cond (decide (y3.1.1<(0:Int)))
    (((aZ x.1.1 x.1.2.1)).bind fun (y4:ab) =>
    J jw (aP Tryz.prog 141 0) ((x.1.1,((IntKind.wrap .i64 (x.1.2.1+(1:Int))),())),((((x.2.1.1.1.1,x.2.1.1.1.2),()),(((y4.1,y4.2),()),())),())))
    (J jw (aP Tryz.prog 141 0) ((x.1.1,((IntKind.wrap .i64 (x.1.2.1+(1:Int))),())),((((x.2.1.1.1.1,x.2.1.1.1.2),()),(((x.2.1.2.1.1.1,x.2.1.2.1.1.2),()),())),()))))
   (some (((x.2.1.2.1.1.1,x.2.1.2.1.1.2),()),())):=by kernel_rfl
theorem OL(F:FT)(J:JT j0)(x:(((List ah)×(ID×Unit))×Unit)):bZ 151149 j0 Tryz.f149 F J x =
 J lB (aP Tryz.prog 149 0) ((x.1.1,((((List.length x.1.1):Nat):Int),((0:Int),()))),(((x.1.2.1,()),(((0:Int),((0:Int),(([]:List ab),((⟨#[]⟩:ByteArray),((0:Int),()))))),())),())):=by kernel_rfl
theorem Aw(F:FT)(J:JT j0)(x:(((List ah)×(Int×(Int×Unit)))×(((ID×Unit)×((Int×(Int×((List ab)×(ByteArray×(Int×Unit)))))×Unit))×Unit))):fR 151149 0 j0 Tryz.f149 lB F J x =
  cond (decide (x.1.2.2.1<x.1.2.1))
   (((aZ x.1.1 x.1.2.2.1)).bind fun (y1:ah) =>
   (F 150 Ga (((y1.1,(y1.2.1,y1.2.2)),()),())).bind fun (y2:((ID×Unit)×Unit)) =>
   cond ((y2.1.1.1==x.2.1.1.1.1)&&(y2.1.1.2==x.2.1.1.1.2))
    (some (((y1.1,(y1.2.1,y1.2.2)),(true,())),()))
    (J lB (aP Tryz.prog 149 0) ((x.1.1,(x.1.2.1,((IntKind.wrap .i64 (x.1.2.2.1+(1:Int))),()))),(((x.2.1.1.1,()),((x.2.1.2.1.1,(x.2.1.2.1.2.1,(x.2.1.2.1.2.2.1,(x.2.1.2.1.2.2.2.1,x.2.1.2.1.2.2.2.2)))),())),()))))
   (some (((((0:Int),(0:Int)),(([]:List ab),((⟨#[]⟩:ByteArray),(0:Int)))),(false,())),())):=by kernel_rfl
theorem OM(F:FT)(J:JT iQ)(x:(((List ak)×(ab×Unit))×Unit)):bZ 156154 iQ Tryz.f154 F J x =
 J hP (aP Tryz.prog 154 0) ((x.1.1,((((List.length x.1.1):Nat):Int),((0:Int),((((List.length x.1.1):Nat):Int),())))),((((x.1.2.1.1,x.1.2.1.2),()),()),())):=by kernel_rfl
theorem Ax(F:FT)(J:JT iQ)(x:(((List ak)×(Int×(Int×(Int×Unit))))×(((ab×Unit)×Unit)×Unit))):fR 156154 0 iQ Tryz.f154 hP F J x =
  cond (decide (x.1.2.2.1<x.1.2.2.2.1))
   (cond (decide ((1:Int)<(0:Int)))
    (none)
    (((aZ x.1.1 (IntKind.wrap .i64 (kz .u64 (IntKind.wrap .u64 (IntKind.wrap .i64 (x.1.2.2.1+x.1.2.2.2.1))) (1:Int))))).bind fun (y1:ak) =>
    (F 155 CG ((((y1.1.1,y1.1.2),(y1.2.1,y1.2.2)),((x.2.1.1.1.1,x.2.1.1.1.2),())),())).bind fun (y2:((Int×Unit)×Unit)) =>
    cond (decide (y2.1.1<(0:Int)))
     (J hP (aP Tryz.prog 154 0) ((x.1.1,(x.1.2.1,((IntKind.wrap .i64 ((IntKind.wrap .i64 (kz .u64 (IntKind.wrap .u64 (IntKind.wrap .i64 (x.1.2.2.1+x.1.2.2.2.1))) (1:Int)))+(1:Int))),x.1.2.2.2))),((((x.2.1.1.1.1,x.2.1.1.1.2),()),()),())))
     (J hP (aP Tryz.prog 154 0) ((x.1.1,(x.1.2.1,(x.1.2.2.1,((IntKind.wrap .i64 (kz .u64 (IntKind.wrap .u64 (IntKind.wrap .i64 (x.1.2.2.1+x.1.2.2.2.1))) (1:Int))),())))),((((x.2.1.1.1.1,x.2.1.1.1.2),()),()),())))))
   (cond (decide (x.1.2.2.1<x.1.2.1))
    (((aZ x.1.1 x.1.2.2.1)).bind fun (y3:ak) =>
    (F 155 CG ((((y3.1.1,y3.1.2),(y3.2.1,y3.2.2)),((x.2.1.1.1.1,x.2.1.1.1.2),())),())).bind fun (y4:((Int×Unit)×Unit)) =>
    some ((x.1.2.2.1,((y4.1.1==(0:Int)),())),()))
    (some ((x.1.2.2.1,(false,())),()))):=by kernel_rfl
theorem ON(F:FT)(J:JT iR)(x:(((List ak)×Unit)×((ab×Unit)×Unit))):bZ 164162 iR Tryz.f162 F J x =
 J jx (aP Tryz.prog 162 0) ((x.1.1,((((List.length x.1.1):Nat):Int),((0:Int),()))),((((x.2.1.1.1,x.2.1.1.2),()),()),())):=by kernel_rfl
theorem Ay(F:FT)(J:JT iR)(x:(((List ak)×(Int×(Int×Unit)))×(((ab×Unit)×Unit)×Unit))):fR 164162 0 iR Tryz.f162 jx F J x =
  cond (decide (x.1.2.2.1<x.1.2.1))
   (((aZ x.1.1 x.1.2.2.1)).bind fun (y1:ak) =>
   (F 163 Gd ((((y1.1.1,y1.1.2),(y1.2.1,y1.2.2)),()),((x.2.1.1.1.1.1,(x.2.1.1.1.1.2,(x.2.1.1.1.2,()))),()))).bind fun (y2:((Bool×Unit)×((Int×(Int×(Int×Unit)))×Unit))) =>
   cond y2.1.1
    (some (x.1.2.2,((((y2.2.1.1,y2.2.1.2.1),y2.2.1.2.2.1),()),())))
    (J jx (aP Tryz.prog 162 0) ((x.1.1,(x.1.2.1,((IntKind.wrap .i64 (x.1.2.2.1+(1:Int))),()))),(((((y2.2.1.1,y2.2.1.2.1),y2.2.1.2.2.1),()),()),()))))
   (some (((-1:Int),()),(((x.2.1.1.1.1,x.2.1.1.1.2),()),()))):=by kernel_rfl
theorem OO(F:FT)(J:JT j4)(x:(((List ah)×Unit)×Unit)):bZ 166164 j4 Tryz.f164 F J x =
 J jy (aP Tryz.prog 164 0) (((0:Int),(x.1.1,((((List.length x.1.1):Nat):Int),((0:Int),())))),((),())):=by kernel_rfl
theorem Az(F:FT)(J:JT j4)(x:((Int×((List ah)×(Int×(Int×Unit))))×(Unit×Unit))):fR 166164 0 j4 Tryz.f164 jy F J x =
  cond (decide (x.1.2.2.2.1<x.1.2.2.1))
   (((aZ x.1.2.1 x.1.2.2.2.1)).bind fun (y1:ah) =>
   (F 165 Ge (((y1.1,(y1.2.1,y1.2.2)),()),())).bind fun (y2:((Bool×Unit)×Unit)) =>
   cond y2.1.1
    (J jy (aP Tryz.prog 164 0) (((IntKind.wrap .i64 (x.1.1+(1:Int))),(x.1.2.1,(x.1.2.2.1,((IntKind.wrap .i64 (x.1.2.2.2.1+(1:Int))),())))),((),())))
    (J jy (aP Tryz.prog 164 0) ((x.1.1,(x.1.2.1,(x.1.2.2.1,((IntKind.wrap .i64 (x.1.2.2.2.1+(1:Int))),())))),((),()))))
   (some ((x.1.1,()),())):=by kernel_rfl
end Go.Vs
