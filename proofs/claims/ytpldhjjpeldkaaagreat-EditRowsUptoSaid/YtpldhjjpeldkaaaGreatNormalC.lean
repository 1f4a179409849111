/- Normal forms of the program's functions, the third part. -/
import Derived.Test.YtpldhjjpeldkaaaGreatEngineD
import Derived.KernelRfl
set_option linter.unusedVariables false
set_option maxRecDepth 1000000
set_option maxHeartbeats 0
namespace Go.Vs
open Go.Proofs
theorem acS(F:FT)(J:JT FD)(x:((ai×Unit)×Unit)):bY 85 FD Tryz.f85 F J x =
 (F 31 Fu ((x.1.1,()),())).bind fun (y1:(((List (List ab))×Unit)×Unit)) =>
 J vt (aP Tryz.prog 85 0) (((((List.length y1.1.1):Nat):Int),((0:Int),())),(((x.1.1,()),()),())):=by kernel_rfl
theorem Om(F:FT)(J:JT FD)(x:((Int×(Int×Unit))×(((ai×Unit)×Unit)×Unit))):fV 85 0 FD Tryz.f85 vt F J x =
  cond (decide (x.1.2.1<(((List.length x.2.1.1.1.1):Nat):Int)))
   (((aV x.2.1.1.1.1 x.1.2.1)).bind fun (y2:ah) =>
   cond ((((List.length y2.2.1):Nat):Int)==(0:Int))
    (J vt (aP Tryz.prog 85 0) (((IntKind.wrap .i64 (x.1.1+(1:Int))),((IntKind.wrap .i64 (x.1.2.1+(1:Int))),())),(((x.2.1.1.1,()),()),())))
    (J vt (aP Tryz.prog 85 0) ((x.1.1,((IntKind.wrap .i64 (x.1.2.1+(1:Int))),())),(((x.2.1.1.1,()),()),()))))
   ((F 32 Fv ((x.2.1.1.1,()),())).bind fun (y3:((Int×Unit)×Unit)) =>
   some (((((List.length x.2.1.1.1.1):Nat):Int),((((List.length x.2.1.1.1.2):Nat):Int),(x.1.1,y3.1))),())):=by kernel_rfl
theorem acT(F:FT)(J:JT pV)(x:((ID×Unit)×Unit)):bY 86 pV Tryz.f86 F J x =
  cond (decide (x.1.1.1≥(1:Int)))
   (cond (decide (x.1.1.1≤(8:Int)))
    (cond (decide (x.1.1.2≥(1:Int)))
     (some (((decide (x.1.1.2≤(1048576:Int))),()),()))
     (some ((false,()),())))
    (some ((false,()),())))
   (some ((false,()),())):=by kernel_rfl
theorem acU(F:FT)(J:JT BN)(x:((oU×Unit)×Unit)):bY 87 BN Tryz.f87 F J x =
  (F 86 pV ((x.1.1.1,()),())).bind fun (y1:((Bool×Unit)×Unit)) =>
  cond y1.1.1
   (cond (((x.1.1.2.1.1==(0:Int))&&(x.1.1.2.1.2==(0:Int)))&&(x.1.1.2.2==(0:Int)))
    (some ((true,()),()))
    ((F 106 FJ (((x.1.1.2.1,x.1.1.2.2),()),())).bind fun (y2:((Bool×Unit)×Unit)) =>
    some (y2.1,())))
   (some ((false,()),())):=by kernel_rfl
theorem acV(F:FT)(J:JT vj)(x:((ByteArray×Unit)×Unit)):bY 88 vj Tryz.f88 F J x =
 J vu (aP Tryz.prog 88 0) (x.1,((),((x.1.1,0),()))):=by kernel_rfl
theorem On(F:FT)(J:JT vj)(x:((ByteArray×Unit)×(Unit×((ByteArray×Nat)×Unit)))):fV 88 0 vj Tryz.f88 vu F J x =
  cond (decide (x.2.2.1.2<(ByteArray.size x.2.2.1.1)))
   (cond (decide ((nH x.2.2.1.1 x.2.2.1.2)<(32:Int)))
    (some ((false,()),()))
    (cond (decide ((nH x.2.2.1.1 x.2.2.1.2) > (126:Int)))
     (some ((false,()),()))
     (J vu (aP Tryz.prog 88 0) (x.1,((),((x.2.2.1.1,(x.2.2.1.2+(yj x.2.2.1.1 x.2.2.1.2))),()))))))
   (some (((decide ((((ByteArray.size x.1.1):Nat):Int)≤(16:Int))),()),())):=by kernel_rfl
theorem acW(F:FT)(J:JT FE)(x:((Int×Unit)×Unit)):bY 89 FE Tryz.f89 F J x =
  cond (decide (x.1.1≥(-1099511627776:Int)))
   (some (((decide (x.1.1≤(1099511627776:Int))),()),()))
   (some ((false,()),())):=by kernel_rfl
theorem acX(F:FT)(J:JT FF)(x:((ah×Unit)×(aC×Unit))):bY 90 FF Tryz.f90 F J x =
  (F 107 oO ((x.1.1.1,()),((x.2.1.1,(x.2.1.2.1,x.2.1.2.2)),()))).bind fun (y1:((Int×(Bool×Unit))×(aC×Unit))) =>
  cond y1.1.2.1
   (some (((12:Int),()),((y1.2.1.1,(y1.2.1.2.1,y1.2.1.2.2)),())))
   (cond (decide ((((List.length y1.2.1.1):Nat):Int)≥(24:Int)))
    (some (((3:Int),()),((y1.2.1.1,(y1.2.1.2.1,y1.2.1.2.2)),())))
    (cond (pj y1.2.1.1 y1.1.1 ((x.1.1.1,(x.1.1.2.1,x.1.1.2.2))::([]:List ah)))
     (some (((0:Int),()),(((fD y1.2.1.1 y1.1.1 ((x.1.1.1,(x.1.1.2.1,x.1.1.2.2))::([]:List ah))),(y1.2.1.2.1,y1.2.1.2.2)),())))
     (none))):=by kernel_rfl
theorem acY(F:FT)(J:JT NJ)(x:((bB×Unit)×(aC×Unit))):bY 91 NJ Tryz.f91 F J x =
  (F 107 oO ((x.1.1.2.1,()),((x.2.1.1,(x.2.1.2.1,x.2.1.2.2)),()))).bind fun (y1:((Int×(Bool×Unit))×(aC×Unit))) =>
  cond (not y1.1.2.1)
   (some (((13:Int),()),((y1.2.1.1,(y1.2.1.2.1,y1.2.1.2.2)),())))
   (cond ((decide ((0:Int)≤y1.1.1))&&(decide (y1.1.1<(((List.length y1.2.1.1):Nat):Int))))
    (((y1.2.1.1)[(Int.toNat y1.1.1)]?).bind fun (y2:ah) =>
    cond (decide ((((List.length y2.2.1):Nat):Int) > (0:Int)))
     (some (((14:Int),()),((y1.2.1.1,(y1.2.1.2.1,y1.2.1.2.2)),())))
     (cond (iZ y1.2.1.1 y1.1.1 (IntKind.wrap .i64 (y1.1.1+(1:Int))))
      (some (((0:Int),()),(((c8 y1.2.1.1 y1.1.1 (IntKind.wrap .i64 (y1.1.1+(1:Int)))),(y1.2.1.2.1,y1.2.1.2.2)),())))
      (none)))
    (none)):=by kernel_rfl
theorem Ui(F:FT)(J:JT om)(x:((bB×Unit)×(aC×Unit))):bY 92 om Tryz.f92 F J x =
  cond (og x.2.1.1 x.2.1.2.1)
   ((F 110 wM ((x.1.1.2.1,()),((x.2.1.1,(x.2.1.2.1,x.2.1.2.2)),()))).bind fun (y1:((Int×Unit)×(aC×Unit))) =>
   cond (y1.1.1 != (0:Int))
    (some (y1.1,((y1.2.1.1,(y1.2.1.2.1,y1.2.1.2.2)),())))
    ((F 111 zG ((x.1.1.2.1,()),())).bind fun (y2:((ab×(ab×Unit))×Unit)) =>
    J lx (aP Tryz.prog 92 0) (((((List.length ((x.1.1.2.2.2.2.1.1,(x.1.1.2.2.2.2.1.2.1,x.1.1.2.2.2.2.1.2.2))::((x.1.1.2.2.2.2.2.1.1,(x.1.1.2.2.2.2.2.1.2.1,x.1.1.2.2.2.2.2.1.2.2))::([]:List oU)))):Nat):Int),((0:Int),())),(((y1.2.1.1,(y1.2.1.2.1,y1.2.1.2.2)),((((x.2.1.1,x.2.1.2.1),x.2.1.2.2.1),()),(((y2.1.1.1,y2.1.1.2),()),()))),(((y2.1.1.1,y2.1.1.2)::((y2.1.2.1.1,y2.1.2.1.2)::([]:List ab))),(((x.1.1.2.2.2.2.1.1,(x.1.1.2.2.2.2.1.2.1,x.1.1.2.2.2.2.1.2.2))::((x.1.1.2.2.2.2.2.1.1,(x.1.1.2.2.2.2.2.1.2.1,x.1.1.2.2.2.2.2.1.2.2))::([]:List oU))),()))))))
   (none):=by kernel_rfl
theorem vx(F:FT)(J:JT om)(x:((Int×(Int×Unit))×((aC×((StateT×Unit)×((ab×Unit)×Unit)))×((List ab)×((List oU)×Unit))))):fV 92 0 om Tryz.f92 lx F J x =
  cond (decide (x.1.2.1<x.1.1))
   (cond ((decide ((0:Int)≤x.1.2.1))&&(decide (x.1.2.1<(((List.length x.2.2.2.1):Nat):Int))))
    (((x.2.2.2.1)[(Int.toNat x.1.2.1)]?).bind fun (y3:oU) =>
    (F 112 FK (((x.2.1.2.1.1.1,x.2.1.2.1.1.2),((y3.1,(y3.2.1,y3.2.2)),())),())).bind fun (y4:((oU×(Int×Unit))×Unit)) =>
    cond (y4.1.2.1 != (0:Int))
     (some (y4.1.2,((x.2.1.1.1,(x.2.1.1.2.1,x.2.1.1.2.2)),())))
     (cond (x.1.2.1==(1:Int))
      (cond (((y3.2.1.1==x.2.1.2.2.1.1.1.1)&&(y3.2.1.2==x.2.1.2.2.1.1.1.2))&&(y3.2.2==x.2.1.2.2.1.1.2))
       ((F 107 oO ((y3.1,()),((x.2.1.1.1,(x.2.1.1.2.1,x.2.1.1.2.2)),()))).bind fun (y5:((Int×(Bool×Unit))×(aC×Unit))) =>
       cond ((decide ((0:Int)≤y5.1.1))&&(decide (y5.1.1<(((List.length y5.2.1.1):Nat):Int))))
        (((y5.2.1.1)[(Int.toNat y5.1.1)]?).bind fun (y6:ah) =>
        cond ((decide ((0:Int)≤x.1.2.1))&&(decide (x.1.2.1<(((List.length x.2.2.1):Nat):Int))))
         (((x.2.2.1)[(Int.toNat x.1.2.1)]?).bind fun (y7:ab) =>
         (F 113 zH ((y6.2.1,((y3.2.1,y3.2.2),((y7.1,y7.2),()))),())).bind fun (y8:(((List ab)×Unit)×Unit)) =>
         ((y5.2.1.1)[(Int.toNat y5.1.1)]?).bind fun (y9:ah) =>
         J lx (aP Tryz.prog 92 0) ((x.1.1,((IntKind.wrap .i64 (x.1.2.1+(1:Int))),())),((((List.set y5.2.1.1 (Int.toNat y5.1.1) (y9.1,(y8.1.1,y9.2.2))),(y5.2.1.2.1,y5.2.1.2.2)),(((x.2.1.2.1.1.1,x.2.1.2.1.1.2),()),(((x.2.1.2.2.1.1.1,x.2.1.2.2.1.1.2),()),()))),(x.2.2.1,x.2.2.2))))
         (none))
        (none))
       ((F 107 oO ((y4.1.1.1,()),((x.2.1.1.1,(x.2.1.1.2.1,x.2.1.1.2.2)),()))).bind fun (oq:((Int×(Bool×Unit))×(aC×Unit))) =>
       cond ((decide ((0:Int)≤oq.1.1))&&(decide (oq.1.1<(((List.length oq.2.1.1):Nat):Int))))
        (((oq.2.1.1)[(Int.toNat oq.1.1)]?).bind fun (kz:ah) =>
        cond ((decide ((0:Int)≤x.1.2.1))&&(decide (x.1.2.1<(((List.length x.2.2.1):Nat):Int))))
         (((x.2.2.1)[(Int.toNat x.1.2.1)]?).bind fun (lM:ab) =>
         (F 113 zH ((kz.2.1,((y4.1.1.2.1,y4.1.1.2.2),((lM.1,lM.2),()))),())).bind fun (kA:(((List ab)×Unit)×Unit)) =>
         ((oq.2.1.1)[(Int.toNat oq.1.1)]?).bind fun (Bl:ah) =>
         J lx (aP Tryz.prog 92 0) ((x.1.1,((IntKind.wrap .i64 (x.1.2.1+(1:Int))),())),((((List.set oq.2.1.1 (Int.toNat oq.1.1) (Bl.1,(kA.1.1,Bl.2.2))),(oq.2.1.2.1,oq.2.1.2.2)),(((x.2.1.2.1.1.1,x.2.1.2.1.1.2),()),(((x.2.1.2.2.1.1.1,x.2.1.2.2.1.1.2),()),()))),(x.2.2.1,x.2.2.2))))
         (none))
        (none)))
      ((F 107 oO ((y4.1.1.1,()),((x.2.1.1.1,(x.2.1.1.2.1,x.2.1.1.2.2)),()))).bind fun (p7:((Int×(Bool×Unit))×(aC×Unit))) =>
      cond ((decide ((0:Int)≤p7.1.1))&&(decide (p7.1.1<(((List.length p7.2.1.1):Nat):Int))))
       (((p7.2.1.1)[(Int.toNat p7.1.1)]?).bind fun (Qk:ah) =>
       cond ((decide ((0:Int)≤x.1.2.1))&&(decide (x.1.2.1<(((List.length x.2.2.1):Nat):Int))))
        (((x.2.2.1)[(Int.toNat x.1.2.1)]?).bind fun (Q7:ab) =>
        (F 113 zH ((Qk.2.1,((y4.1.1.2.1,y4.1.1.2.2),((Q7.1,Q7.2),()))),())).bind fun (VJ:(((List ab)×Unit)×Unit)) =>
        ((p7.2.1.1)[(Int.toNat p7.1.1)]?).bind fun (SM:ah) =>
        J lx (aP Tryz.prog 92 0) ((x.1.1,((IntKind.wrap .i64 (x.1.2.1+(1:Int))),())),((((List.set p7.2.1.1 (Int.toNat p7.1.1) (SM.1,(VJ.1.1,SM.2.2))),(p7.2.1.2.1,p7.2.1.2.2)),(((x.2.1.2.1.1.1,x.2.1.2.1.1.2),()),(((x.2.1.2.2.1.1.1,x.2.1.2.2.1.1.2),()),()))),(x.2.2.1,x.2.2.2))))
        (none))
       (none))))
    (none))
   ((F 114 zJ (((x.2.1.1.1,x.2.1.1.2.1),()),())).bind fun (F5:((Bool×Unit)×Unit)) =>
   cond (not F5.1.1)
    (some (((15:Int),()),((x.2.1.1.1,(x.2.1.1.2.1,x.2.1.1.2.2)),())))
    (some (((0:Int),()),((x.2.1.1.1,(x.2.1.1.2.1,x.2.1.1.2.2)),())))):=by kernel_rfl
theorem Xa(F:FT)(J:JT zF)(x:((bB×Unit)×(aC×Unit))):bY 93 zF Tryz.f93 F J x =
  (F 115 l6 ((x.1.1.2.1,()),((x.2.1.1,(x.2.1.2.1,x.2.1.2.2)),()))).bind fun (y1:((Int×(Bool×Unit))×(aC×Unit))) =>
  cond (not y1.1.2.1)
   (some (((13:Int),()),((y1.2.1.1,(y1.2.1.2.1,y1.2.1.2.2)),())))
   ((F 111 zG ((x.1.1.2.1,()),())).bind fun (y2:((ab×(ab×Unit))×Unit)) =>
   J DU (aP Tryz.prog 93 0) ((y1.1.1,((((List.length ((y2.1.1.1,y2.1.1.2)::((y2.1.2.1.1,y2.1.2.1.2)::([]:List ab)))):Nat):Int),((0:Int),()))),(((y1.2.1.1,(y1.2.1.2.1,y1.2.1.2.2)),(((y2.1.1.1,y2.1.1.2),()),(((y2.1.2.1.1,y2.1.2.1.2),()),()))),(((y2.1.1.1,y2.1.1.2)::((y2.1.2.1.1,y2.1.2.1.2)::([]:List ab))),())))):=by kernel_rfl
theorem Il(F:FT)(J:JT zF)(x:((Int×(Int×(Int×Unit)))×((aC×((ab×Unit)×((ab×Unit)×Unit)))×((List ab)×Unit)))):fV 93 0 zF Tryz.f93 DU F J x =
  cond (decide (x.1.2.2.1<x.1.2.1))
   (cond ((decide ((0:Int)≤x.1.2.2.1))&&(decide (x.1.2.2.1<(((List.length x.2.2.1):Nat):Int))))
    (((x.2.2.1)[(Int.toNat x.1.2.2.1)]?).bind fun (y3:ab) =>
    (F 117 zL (((y3.1,y3.2),()),((x.2.1.1.1,(x.2.1.1.2.1,x.2.1.1.2.2)),()))).bind fun (y4:((ab×Unit)×(aC×Unit))) =>
    (F 116 zK (((y3.1,y3.2),((y4.1.1.1,y4.1.1.2),())),((y4.2.1.1,(y4.2.1.2.1,y4.2.1.2.2)),()))).bind fun (y5:(Unit×(aC×Unit))) =>
    J DU (aP Tryz.prog 93 0) ((x.1.1,(x.1.2.1,((IntKind.wrap .i64 (x.1.2.2.1+(1:Int))),()))),(((y5.2.1.1,(y5.2.1.2.1,y5.2.1.2.2)),(((x.2.1.2.1.1.1,x.2.1.2.1.1.2),()),(((x.2.1.2.2.1.1.1,x.2.1.2.2.1.1.2),()),()))),x.2.2)))
    (none))
   (J vv (aP Tryz.prog 93 1) ((x.1.1,((((List.length ((x.2.1.2.1.1.1,x.2.1.2.1.1.2)::((x.2.1.2.2.1.1.1,x.2.1.2.2.1.1.2)::([]:List ab)))):Nat):Int),((0:Int),()))),(((x.2.1.1.1,(x.2.1.1.2.1,x.2.1.1.2.2)),()),(((x.2.1.2.1.1.1,x.2.1.2.1.1.2)::((x.2.1.2.2.1.1.1,x.2.1.2.2.1.1.2)::([]:List ab))),())))):=by kernel_rfl
theorem Im(F:FT)(J:JT zF)(x:((Int×(Int×(Int×Unit)))×((aC×Unit)×((List ab)×Unit)))):fV 93 1 zF Tryz.f93 vv F J x =
  cond (decide (x.1.2.2.1<x.1.2.1))
   (cond ((decide ((0:Int)≤x.1.2.2.1))&&(decide (x.1.2.2.1<(((List.length x.2.2.1):Nat):Int))))
    (((x.2.2.1)[(Int.toNat x.1.2.2.1)]?).bind fun (y6:ab) =>
    (F 118 lq (((y6.1,y6.2),()),((x.2.1.1.1,(x.2.1.1.2.1,x.2.1.1.2.2)),()))).bind fun (y7:(((Option ((Fin 1)×Nat))×Unit)×(aC×Unit))) =>
    pf y7.1.1
     (none) fun (p8:((Fin 1)×Nat)) =>
    cond (p8.1.val==0)
     (((y7.2.1.1)[p8.2]?).bind fun (y9:ah) =>
     (F 119 FL ((y9.2.1,((y6.1,y6.2),())),())).bind fun (oq:(((List ab)×Unit)×Unit)) =>
     ((y7.2.1.1)[p8.2]?).bind fun (kz:ah) =>
     J vv (aP Tryz.prog 93 1) ((x.1.1,(x.1.2.1,((IntKind.wrap .i64 (x.1.2.2.1+(1:Int))),()))),((((List.set y7.2.1.1 p8.2 (kz.1,(oq.1.1,kz.2.2))),(y7.2.1.2.1,y7.2.1.2.2)),()),x.2.2)))
     (none))
    (none))
   (cond (iZ x.2.1.1.2.1 x.1.1 (IntKind.wrap .i64 (x.1.1+(1:Int))))
    (some (((0:Int),()),((x.2.1.1.1,((c8 x.2.1.1.2.1 x.1.1 (IntKind.wrap .i64 (x.1.1+(1:Int)))),x.2.1.1.2.2)),())))
    (none)):=by kernel_rfl
theorem Q8(F:FT)(J:JT xi)(x:((bB×Unit)×(aC×Unit))):bY 94 xi Tryz.f94 F J x =
  (F 115 l6 ((x.1.1.2.1,()),((x.2.1.1,(x.2.1.2.1,x.2.1.2.2)),()))).bind fun (y1:((Int×(Bool×Unit))×(aC×Unit))) =>
  (F 107 oO ((x.1.1.2.2.1,()),((y1.2.1.1,(y1.2.1.2.1,y1.2.1.2.2)),()))).bind fun (y2:((Int×(Bool×Unit))×(aC×Unit))) =>
  (F 115 l6 ((x.1.1.2.2.2.1,()),((y2.2.1.1,(y2.2.1.2.1,y2.2.1.2.2)),()))).bind fun (y3:((Int×(Bool×Unit))×(aC×Unit))) =>
  cond (not y1.1.2.1)
   (some (((13:Int),()),((y3.2.1.1,(y3.2.1.2.1,y3.2.1.2.2)),())))
   (cond y2.1.2.1
    (some (((12:Int),()),((y3.2.1.1,(y3.2.1.2.1,y3.2.1.2.2)),())))
    (cond y3.1.2.1
     (some (((12:Int),()),((y3.2.1.1,(y3.2.1.2.1,y3.2.1.2.2)),())))
     (cond (decide ((1:Int)<(0:Int)))
      (none)
      ((F 118 lq (((x.1.1.2.1,(eg .xor .i64 (1:Int) (eg .and .i64 x.1.1.2.2.2.2.2.2.2.2 (1:Int)))),()),((y3.2.1.1,(y3.2.1.2.1,y3.2.1.2.2)),()))).bind fun (y4:(((Option ((Fin 1)×Nat))×Unit)×(aC×Unit))) =>
      pf y4.1.1
       (none) fun (p5:((Fin 1)×Nat)) =>
      cond (p5.1.val==0)
       (((y4.2.1.1)[p5.2]?).bind fun (y6:ah) =>
       (F 122 m0 (((x.1.1.2.2.2.1,(ku .i64 x.1.1.2.2.2.2.2.2.2.2 (1:Int))),()),())).bind fun (y7:((ab×Unit)×Unit)) =>
       (F 121 rN ((y6.2.1,((x.1.1.2.1,(eg .xor .i64 (1:Int) (eg .and .i64 x.1.1.2.2.2.2.2.2.2.2 (1:Int)))),((y7.1.1.1,y7.1.1.2),()))),())).bind fun (y8:(((List ab)×Unit)×Unit)) =>
       ((y4.2.1.1)[p5.2]?).bind fun (y9:ah) =>
       (F 123 pX ((((x.1.1.2.1,(eg .xor .i64 (1:Int) (eg .and .i64 x.1.1.2.2.2.2.2.2.2.2 (1:Int))))::((x.1.1.2.2.2.1,(ku .i64 x.1.1.2.2.2.2.2.2.2.2 (1:Int)))::([]:List ab))),()),())).bind fun (oq:(((List ab)×Unit)×Unit)) =>
       (F 90 FF (((x.1.1.2.2.1,(oq.1.1,((⟨#[]⟩:ByteArray),(0:Int)))),()),(((List.set y4.2.1.1 p5.2 (y9.1,(y8.1.1,y9.2.2))),(y4.2.1.2.1,y4.2.1.2.2)),()))).bind fun (kz:((Int×Unit)×(aC×Unit))) =>
       cond (kz.1.1 != (0:Int))
        (some (kz.1,((kz.2.1.1,(kz.2.1.2.1,kz.2.1.2.2)),())))
        ((F 110 wM ((x.1.1.2.2.2.1,()),((kz.2.1.1,(kz.2.1.2.1,kz.2.1.2.2)),()))).bind fun (lM:((Int×Unit)×(aC×Unit))) =>
        some (lM.1,((lM.2.1.1,(lM.2.1.2.1,lM.2.1.2.2)),()))))
       (none))))):=by kernel_rfl
theorem Xb(F:FT)(J:JT pW)(x:((bB×Unit)×(aC×Unit))):bY 95 pW Tryz.f95 F J x =
  (F 107 oO ((x.1.1.2.1,()),((x.2.1.1,(x.2.1.2.1,x.2.1.2.2)),()))).bind fun (y1:((Int×(Bool×Unit))×(aC×Unit))) =>
  cond (not y1.1.2.1)
   (some (((13:Int),()),((y1.2.1.1,(y1.2.1.2.1,y1.2.1.2.2)),())))
   (cond ((decide ((0:Int)≤y1.1.1))&&(decide (y1.1.1<(((List.length y1.2.1.1):Nat):Int))))
    (((y1.2.1.1)[(Int.toNat y1.1.1)]?).bind fun (y2:ah) =>
    cond ((((List.length y2.2.1):Nat):Int) != (2:Int))
     (some (((14:Int),()),((y1.2.1.1,(y1.2.1.2.1,y1.2.1.2.2)),())))
     (((aV y2.2.1 (0:Int))).bind fun (y3:ab) =>
     ((aV y2.2.1 (1:Int))).bind fun (y4:ab) =>
     cond ((y3.1.1==y4.1.1)&&(y3.1.2==y4.1.2))
      (some (((14:Int),()),((y1.2.1.1,(y1.2.1.2.1,y1.2.1.2.2)),())))
      (((aV y2.2.1 (0:Int))).bind fun (y5:ab) =>
      ((aV y2.2.1 (1:Int))).bind fun (y6:ab) =>
      cond ((y5.1.1==x.1.1.2.2.2.1.1)&&(y5.1.2==x.1.1.2.2.2.1.2))
       (cond (not ((y5.1.1==x.1.1.2.2.2.1.1)&&(y5.1.2==x.1.1.2.2.2.1.2)))
        (some (((14:Int),()),((y1.2.1.1,(y1.2.1.2.1,y1.2.1.2.2)),())))
        ((F 122 m0 (((y5.1,y5.2),()),())).bind fun (y7:((ab×Unit)×Unit)) =>
        cond (iZ y1.2.1.1 y1.1.1 (IntKind.wrap .i64 (y1.1.1+(1:Int))))
         ((F 118 lq (((y7.1.1.1,y7.1.1.2),()),(((c8 y1.2.1.1 y1.1.1 (IntKind.wrap .i64 (y1.1.1+(1:Int)))),(y1.2.1.2.1,y1.2.1.2.2)),()))).bind fun (y8:(((Option ((Fin 1)×Nat))×Unit)×(aC×Unit))) =>
         pf y8.1.1
          (none) fun (p9:((Fin 1)×Nat)) =>
         cond (p9.1.val==0)
          (((y8.2.1.1)[p9.2]?).bind fun (oq:ah) =>
          (F 121 rN ((oq.2.1,((y7.1.1.1,y7.1.1.2),((y6.1,y6.2),()))),())).bind fun (kz:(((List ab)×Unit)×Unit)) =>
          ((y8.2.1.1)[p9.2]?).bind fun (lM:ah) =>
          (F 115 l6 ((y5.1,()),(((List.set y8.2.1.1 p9.2 (lM.1,(kz.1.1,lM.2.2))),(y8.2.1.2.1,y8.2.1.2.2)),()))).bind fun (kA:((Int×(Bool×Unit))×(aC×Unit))) =>
          cond (iZ kA.2.1.2.1 kA.1.1 (IntKind.wrap .i64 (kA.1.1+(1:Int))))
           (J mz (aP Tryz.prog 95 0) (((0:Int),()),(((kA.2.1.1,((c8 kA.2.1.2.1 kA.1.1 (IntKind.wrap .i64 (kA.1.1+(1:Int)))),kA.2.1.2.2)),(((y6.1,y6.2),()),(((y5.1,y5.2),()),(((y7.1.1.1,y7.1.1.2),()),())))),())))
           (none))
          (none))
         (none)))
       (cond (not ((y6.1.1==x.1.1.2.2.2.1.1)&&(y6.1.2==x.1.1.2.2.2.1.2)))
        (some (((14:Int),()),((y1.2.1.1,(y1.2.1.2.1,y1.2.1.2.2)),())))
        ((F 122 m0 (((y6.1,y6.2),()),())).bind fun (Bl:((ab×Unit)×Unit)) =>
        cond (iZ y1.2.1.1 y1.1.1 (IntKind.wrap .i64 (y1.1.1+(1:Int))))
         ((F 118 lq (((Bl.1.1.1,Bl.1.1.2),()),(((c8 y1.2.1.1 y1.1.1 (IntKind.wrap .i64 (y1.1.1+(1:Int)))),(y1.2.1.2.1,y1.2.1.2.2)),()))).bind fun (p7:(((Option ((Fin 1)×Nat))×Unit)×(aC×Unit))) =>
         pf p7.1.1
          (none) fun (p16:((Fin 1)×Nat)) =>
         cond (p16.1.val==0)
          (((p7.2.1.1)[p16.2]?).bind fun (Q7:ah) =>
          (F 121 rN ((Q7.2.1,((Bl.1.1.1,Bl.1.1.2),((y5.1,y5.2),()))),())).bind fun (VJ:(((List ab)×Unit)×Unit)) =>
          ((p7.2.1.1)[p16.2]?).bind fun (SM:ah) =>
          (F 115 l6 ((y6.1,()),(((List.set p7.2.1.1 p16.2 (SM.1,(VJ.1.1,SM.2.2))),(p7.2.1.2.1,p7.2.1.2.2)),()))).bind fun (F5:((Int×(Bool×Unit))×(aC×Unit))) =>
          cond (iZ F5.2.1.2.1 F5.1.1 (IntKind.wrap .i64 (F5.1.1+(1:Int))))
           (J mz (aP Tryz.prog 95 0) (((0:Int),()),(((F5.2.1.1,((c8 F5.2.1.2.1 F5.1.1 (IntKind.wrap .i64 (F5.1.1+(1:Int)))),F5.2.1.2.2)),(((y5.1,y5.2),()),(((y6.1,y6.2),()),(((Bl.1.1.1,Bl.1.1.2),()),())))),())))
           (none))
          (none))
         (none))))))
    (none)):=by kernel_rfl
theorem vz(F:FT)(J:JT pW)(x:((Int×Unit)×((aC×((ab×Unit)×((ab×Unit)×((ab×Unit)×Unit))))×Unit))):fV 95 0 pW Tryz.f95 mz F J x =
  cond (decide (x.1.1<(2:Int)))
   (cond (x.2.1.2.2.1.1.2==x.1.1)
    ((F 116 zK (((x.2.1.2.2.1.1.1,x.2.1.2.2.1.1.2),((((0:Int),(0:Int)),(0:Int)),())),((x.2.1.1.1,(x.2.1.1.2.1,x.2.1.1.2.2)),()))).bind fun (W0:(Unit×(aC×Unit))) =>
    J mz (aP Tryz.prog 95 0) (((IntKind.wrap .i64 (x.1.1+(1:Int))),()),(((W0.2.1.1,(W0.2.1.2.1,W0.2.1.2.2)),(((x.2.1.2.1.1.1,x.2.1.2.1.1.2),()),(((x.2.1.2.2.1.1.1,x.2.1.2.2.1.1.2),()),(((x.2.1.2.2.2.1.1.1,x.2.1.2.2.2.1.1.2),()),())))),())))
    ((F 116 zK (((x.2.1.2.2.2.1.1.1,x.2.1.2.2.2.1.1.2),((x.2.1.2.1.1.1,x.2.1.2.1.1.2),())),((x.2.1.1.1,(x.2.1.1.2.1,x.2.1.1.2.2)),()))).bind fun (W9:(Unit×(aC×Unit))) =>
    J mz (aP Tryz.prog 95 0) (((IntKind.wrap .i64 (x.1.1+(1:Int))),()),(((W9.2.1.1,(W9.2.1.2.1,W9.2.1.2.2)),(((x.2.1.2.1.1.1,x.2.1.2.1.1.2),()),(((x.2.1.2.2.1.1.1,x.2.1.2.2.1.1.2),()),(((x.2.1.2.2.2.1.1.1,x.2.1.2.2.2.1.1.2),()),())))),()))))
   (some (((0:Int),()),((x.2.1.1.1,(x.2.1.1.2.1,x.2.1.1.2.2)),()))):=by kernel_rfl
theorem acZ(F:FT)(J:JT NK)(x:((bB×Unit)×(aC×Unit))):bY 96 NK Tryz.f96 F J x =
  (F 124 FM (((x.1.1.1,(x.1.1.2.1,(x.1.1.2.2.1,(x.1.1.2.2.2.1,((x.1.1.2.2.2.2.1.1,(x.1.1.2.2.2.2.1.2.1,x.1.1.2.2.2.2.1.2.2)),((x.1.1.2.2.2.2.2.1.1,(x.1.1.2.2.2.2.2.1.2.1,x.1.1.2.2.2.2.2.1.2.2)),(x.1.1.2.2.2.2.2.2.1,x.1.1.2.2.2.2.2.2.2))))))),()),((x.2.1.1,(x.2.1.2.1,x.2.1.2.2)),()))).bind fun (y1:(((Option ((Fin 2)×Nat))×((Option ((Fin 2)×Nat))×Unit))×(aC×Unit))) =>
  pf y1.1.1
   (pf y1.1.2.1
    (some (((13:Int),()),((y1.2.1.1,(y1.2.1.2.1,y1.2.1.2.2)),()))) fun (p2:((Fin 2)×Nat)) =>
   cond (p2.1.val==0)
    (some (((13:Int),()),((y1.2.1.1,(y1.2.1.2.1,y1.2.1.2.2)),())))
    (cond (p2.1.val==1)
    (some (((13:Int),()),((y1.2.1.1,(y1.2.1.2.1,y1.2.1.2.2)),())))
    (none))) fun (p3:((Fin 2)×Nat)) =>
  cond (p3.1.val==0)
   (pf y1.1.2.1
    (cond (x.1.1.1==(7:Int))
     (((y1.2.1.1)[p3.2]?).bind fun (oq:ah) =>
     some (((0:Int),()),(((List.set y1.2.1.1 p3.2 (oq.1,(oq.2.1,(x.1.1.2.2.2.2.2.2.2.1,oq.2.2.2)))),(y1.2.1.2.1,y1.2.1.2.2)),())))
     (none)) fun (VL:((Fin 2)×Nat)) =>
   cond (VL.1.val==0)
    (cond (x.1.1.1==(7:Int))
     (((y1.2.1.1)[p3.2]?).bind fun (Bl:ah) =>
     some (((0:Int),()),(((List.set y1.2.1.1 p3.2 (Bl.1,(Bl.2.1,(x.1.1.2.2.2.2.2.2.2.1,Bl.2.2.2)))),(y1.2.1.2.1,y1.2.1.2.2)),())))
     (((y1.2.1.1)[VL.2]?).bind fun (p7:ah) =>
     some (((0:Int),()),(((List.set y1.2.1.1 VL.2 (p7.1,(p7.2.1,(p7.2.2.1,x.1.1.2.2.2.2.2.2.2.2)))),(y1.2.1.2.1,y1.2.1.2.2)),()))))
    (cond (VL.1.val==1)
    (cond (x.1.1.1==(7:Int))
     (((y1.2.1.1)[p3.2]?).bind fun (lM:ah) =>
     some (((0:Int),()),(((List.set y1.2.1.1 p3.2 (lM.1,(lM.2.1,(x.1.1.2.2.2.2.2.2.2.1,lM.2.2.2)))),(y1.2.1.2.1,y1.2.1.2.2)),())))
     (((y1.2.1.2.1)[VL.2]?).bind fun (kA:af) =>
     some (((0:Int),()),((y1.2.1.1,((List.set y1.2.1.2.1 VL.2 (kA.1,(kA.2.1,x.1.1.2.2.2.2.2.2.2.2))),y1.2.1.2.2)),()))))
    (none)))
   (cond (p3.1.val==1)
   (pf y1.1.2.1
    (cond (x.1.1.1==(7:Int))
     (((y1.2.1.2.1)[p3.2]?).bind fun (y4:af) =>
     some (((0:Int),()),((y1.2.1.1,((List.set y1.2.1.2.1 p3.2 (y4.1,(x.1.1.2.2.2.2.2.2.2.1,y4.2.2))),y1.2.1.2.2)),())))
     (none)) fun (p5:((Fin 2)×Nat)) =>
   cond (p5.1.val==0)
    (cond (x.1.1.1==(7:Int))
     (((y1.2.1.2.1)[p3.2]?).bind fun (y8:af) =>
     some (((0:Int),()),((y1.2.1.1,((List.set y1.2.1.2.1 p3.2 (y8.1,(x.1.1.2.2.2.2.2.2.2.1,y8.2.2))),y1.2.1.2.2)),())))
     (((y1.2.1.1)[p5.2]?).bind fun (y9:ah) =>
     some (((0:Int),()),(((List.set y1.2.1.1 p5.2 (y9.1,(y9.2.1,(y9.2.2.1,x.1.1.2.2.2.2.2.2.2.2)))),(y1.2.1.2.1,y1.2.1.2.2)),()))))
    (cond (p5.1.val==1)
    (cond (x.1.1.1==(7:Int))
     (((y1.2.1.2.1)[p3.2]?).bind fun (y6:af) =>
     some (((0:Int),()),((y1.2.1.1,((List.set y1.2.1.2.1 p3.2 (y6.1,(x.1.1.2.2.2.2.2.2.2.1,y6.2.2))),y1.2.1.2.2)),())))
     (((y1.2.1.2.1)[p5.2]?).bind fun (y7:af) =>
     some (((0:Int),()),((y1.2.1.1,((List.set y1.2.1.2.1 p5.2 (y7.1,(y7.2.1,x.1.1.2.2.2.2.2.2.2.2))),y1.2.1.2.2)),()))))
    (none)))
   (none)):=by kernel_rfl
theorem ac0(F:FT)(J:JT NL)(x:((ab×Unit)×Unit)):bY 97 NL Tryz.f97 F J x =
  (F 19 zy ((x.1.1.1,()),())).bind fun (y1:((Bool×Unit)×Unit)) =>
  cond y1.1.1
   (cond (x.1.1.2==(0:Int))
    (some ((true,()),()))
    (some (((x.1.1.2==(1:Int)),()),())))
   (some ((false,()),())):=by kernel_rfl
theorem ac1(F:FT)(J:JT FG)(x:((StateT×(ab×Unit))×Unit)):bY 98 FG Tryz.f98 F J x =
 J Aj (aP Tryz.prog 98 0) (((0:Int),()),((((x.1.1.1,x.1.1.2),()),(((x.1.2.1.1,x.1.2.1.2),()),(((((0:Int),(0:Int)),(0:Int)),()),()))),())):=by kernel_rfl
theorem Oo(F:FT)(J:JT FG)(x:((Int×Unit)×(((StateT×Unit)×((ab×Unit)×((ab×Unit)×Unit)))×Unit))):fV 98 0 FG Tryz.f98 Aj F J x =
  cond (decide (x.1.1≤(((List.length x.2.1.1.1.2):Nat):Int)))
   ((F 20 sM ((x.2.1.1.1.1,((x.2.1.2.1.1.1,x.2.1.2.1.1.2),())),())).bind fun (y1:((ID×(Bool×Unit))×Unit)) =>
   cond y1.1.2.1
    (some (((x.2.1.2.1.1.1,x.2.1.2.1.1.2),()),()))
    ((F 101 rM ((x.2.1.1.1.2,((x.2.1.2.1.1.1,x.2.1.2.1.1.2),())),())).bind fun (y2:((ab×(Bool×Unit))×Unit)) =>
    cond (not y2.1.2.1)
     (some (((((0:Int),(0:Int)),(0:Int)),()),()))
     (J Aj (aP Tryz.prog 98 0) (((IntKind.wrap .i64 (x.1.1+(1:Int))),()),((((x.2.1.1.1.1,x.2.1.1.1.2),()),(((y2.1.1.1,y2.1.1.2),()),(((x.2.1.2.2.1.1.1,x.2.1.2.2.1.1.2),()),()))),())))))
   (some (((((0:Int),(0:Int)),(0:Int)),()),())):=by kernel_rfl
theorem ac2(F:FT)(J:JT BO)(x:((ai×(ID×((List ab)×Unit)))×Unit)):bY 99 BO Tryz.f99 F J x =
 (F 38 BI ((x.1.1,()),())).bind fun (y1:((((List ah)×((List af)×Unit))×Unit)×Unit)) =>
 J vw (aP Tryz.prog 99 0) ((x.1.2.2.1,((0:Int),())),(((x.1.2.1,()),((([]:List ah),(([]:List af),())),((y1.1.1.1,y1.1.1.2),()))),())):=by kernel_rfl
theorem Oq(F:FT)(J:JT BO)(x:(((List ab)×(Int×Unit))×(((ID×Unit)×(((List ah)×((List af)×Unit))×(((List ah)×((List af)×Unit))×Unit)))×Unit))):fV 99 0 BO Tryz.f99 vw F J x =
  cond (decide (x.1.2.1<(((List.length x.2.1.2.2.1.1):Nat):Int)))
   (cond ((decide ((0:Int)≤x.1.2.1))&&(decide (x.1.2.1<(((List.length x.2.1.2.2.1.1):Nat):Int))))
    (((x.2.1.2.2.1.1)[(Int.toNat x.1.2.1)]?).bind fun (y2:ah) =>
    cond ((y2.1.1==x.2.1.1.1.1)&&(y2.1.2==x.2.1.1.1.2))
     (cond ((decide ((0:Int)≤x.1.2.1))&&(decide (x.1.2.1<(((List.length x.2.1.2.2.1.1):Nat):Int))))
      (((x.2.1.2.2.1.1)[(Int.toNat x.1.2.1)]?).bind fun (y3:ah) =>
      J vw (aP Tryz.prog 99 0) ((x.1.1,((IntKind.wrap .i64 (x.1.2.1+(1:Int))),())),(((x.2.1.1.1,()),((x.2.1.2.1.1,x.2.1.2.1.2),(((List.set x.2.1.2.2.1.1 (Int.toNat x.1.2.1) (y3.1,(x.1.1,y3.2.2))),x.2.1.2.2.1.2),()))),())))
      (none))
     (J vw (aP Tryz.prog 99 0) ((x.1.1,((IntKind.wrap .i64 (x.1.2.1+(1:Int))),())),(((x.2.1.1.1,()),((x.2.1.2.1.1,x.2.1.2.1.2),((x.2.1.2.2.1.1,x.2.1.2.2.1.2),()))),()))))
    (none))
   (some (((x.2.1.2.2.1.1,x.2.1.2.2.1.2.1),()),())):=by kernel_rfl
theorem Xc(F:FT)(J:JT wK)(x:(((List ab)×(ab×(ab×Unit)))×Unit)):bY 100 wK Tryz.f100 F J x =
  (F 24 pU ((x.1.1,((x.1.2.2.1.1,x.1.2.2.1.2),())),())).bind fun (y1:((Int×Unit)×Unit)) =>
  cond (decide (y1.1.1≥(0:Int)))
   ((F 77 oW ((x.1.1,()),())).bind fun (y2:(((List ab)×Unit)×Unit)) =>
   some (y2.1,()))
   ((F 24 pU ((x.1.1,((x.1.2.1.1,x.1.2.1.2),())),())).bind fun (y3:((Int×Unit)×Unit)) =>
   J qL (aP Tryz.prog 100 0) ((x.1.1,((max (0:Int) y3.1.1:Int),((0:Int),()))),((((x.1.2.2.1.1,x.1.2.2.1.2),()),()),(([]:List ab),())))):=by kernel_rfl
theorem Jy(F:FT)(J:JT wK)(x:(((List ab)×(Int×(Int×Unit)))×(((ab×Unit)×Unit)×((List ab)×Unit)))):fV 100 0 wK Tryz.f100 qL F J x =
  cond (decide (x.1.2.2.1<(((List.length x.1.1):Nat):Int)))
   (((aV x.1.1 x.1.2.2.1)).bind fun (y4:ab) =>
   cond (aM (List.length x.2.2.1) (List.length ((y4.1,y4.2)::([]:List ab))))
    (cond (x.1.2.2.1==x.1.2.1)
     (cond (aM (List.length (x.2.2.1++((y4.1,y4.2)::([]:List ab)))) (List.length ((x.2.1.1.1.1,x.2.1.1.1.2)::([]:List ab))))
      (J qL (aP Tryz.prog 100 0) ((x.1.1,(x.1.2.1,((IntKind.wrap .i64 (x.1.2.2.1+(1:Int))),()))),((((x.2.1.1.1.1,x.2.1.1.1.2),()),()),(((x.2.2.1++((y4.1,y4.2)::([]:List ab)))++((x.2.1.1.1.1,x.2.1.1.1.2)::([]:List ab))),()))))
      (none))
     (J qL (aP Tryz.prog 100 0) ((x.1.1,(x.1.2.1,((IntKind.wrap .i64 (x.1.2.2.1+(1:Int))),()))),((((x.2.1.1.1.1,x.2.1.1.1.2),()),()),((x.2.2.1++((y4.1,y4.2)::([]:List ab))),())))))
    (none))
   (cond ((((List.length x.1.1):Nat):Int)==(0:Int))
    (cond (aM (List.length x.2.2.1) (List.length ((x.2.1.1.1.1,x.2.1.1.1.2)::([]:List ab))))
     ((F 77 oW (((x.2.2.1++((x.2.1.1.1.1,x.2.1.1.1.2)::([]:List ab))),()),())).bind fun (y5:(((List ab)×Unit)×Unit)) =>
     some (y5.1,()))
     (none))
    ((F 77 oW (x.2.2,())).bind fun (y6:(((List ab)×Unit)×Unit)) =>
    some (y6.1,()))):=by kernel_rfl
theorem Xd(F:FT)(J:JT rM)(x:(((List ak)×(ab×Unit))×Unit)):bY 101 rM Tryz.f101 F J x =
 J tW (aP Tryz.prog 101 0) ((x.1.1,((0:Int),())),((((x.1.2.1.1,x.1.2.1.2),()),(((((0:Int),(0:Int)),(0:Int)),()),())),())):=by kernel_rfl
theorem Jz(F:FT)(J:JT rM)(x:(((List ak)×(Int×Unit))×(((ab×Unit)×((ab×Unit)×Unit))×Unit))):fV 101 0 rM Tryz.f101 tW F J x =
  cond (decide (x.1.2.1<(((List.length x.1.1):Nat):Int)))
   (((aV x.1.1 x.1.2.1)).bind fun (y1:ak) =>
   cond (((y1.1.1.1==x.2.1.1.1.1.1)&&(y1.1.1.2==x.2.1.1.1.1.2))&&(y1.1.2==x.2.1.1.1.2))
    (((aV x.1.1 x.1.2.1)).bind fun (y2:ak) =>
    some (((y2.2.1,y2.2.2),(true,())),()))
    (J tW (aP Tryz.prog 101 0) ((x.1.1,((IntKind.wrap .i64 (x.1.2.1+(1:Int))),())),((((x.2.1.1.1.1,x.2.1.1.1.2),()),(((x.2.1.2.1.1.1,x.2.1.2.1.1.2),()),())),()))))
   (some (((((0:Int),(0:Int)),(0:Int)),(false,())),())):=by kernel_rfl
theorem Xe(F:FT)(J:JT wL)(x:(((List ab)×(ab×Unit))×Unit)):bY 102 wL Tryz.f102 F J x =
 J qM (aP Tryz.prog 102 0) ((x.1.1,((0:Int),())),((((x.1.2.1.1,x.1.2.1.2),()),()),(([]:List ab),()))):=by kernel_rfl
theorem JA(F:FT)(J:JT wL)(x:(((List ab)×(Int×Unit))×(((ab×Unit)×Unit)×((List ab)×Unit)))):fV 102 0 wL Tryz.f102 qM F J x =
  cond (decide (x.1.2.1<(((List.length x.1.1):Nat):Int)))
   (((aV x.1.1 x.1.2.1)).bind fun (y1:ab) =>
   cond (not (((y1.1.1==x.2.1.1.1.1.1)&&(y1.1.2==x.2.1.1.1.1.2))&&(y1.2==x.2.1.1.1.2)))
    (((aV x.1.1 x.1.2.1)).bind fun (y2:ab) =>
    cond (aM (List.length x.2.2.1) (List.length ((y2.1,y2.2)::([]:List ab))))
     (J qM (aP Tryz.prog 102 0) ((x.1.1,((IntKind.wrap .i64 (x.1.2.1+(1:Int))),())),((((x.2.1.1.1.1,x.2.1.1.1.2),()),()),((x.2.2.1++((y2.1,y2.2)::([]:List ab))),()))))
     (none))
    (J qM (aP Tryz.prog 102 0) ((x.1.1,((IntKind.wrap .i64 (x.1.2.1+(1:Int))),())),((((x.2.1.1.1.1,x.2.1.1.1.2),()),()),x.2.2))))
   ((F 77 oW (x.2.2,())).bind fun (y3:(((List ab)×Unit)×Unit)) =>
   some (y3.1,())):=by kernel_rfl
theorem Xf(F:FT)(J:JT FH)(x:(((List ab)×(ab×(ab×Unit)))×Unit)):bY 103 FH Tryz.f103 F J x =
  cond (aM (List.length ([]:List ab)) (List.length x.1.1))
   ((F 24 pU ((x.1.1,((x.1.2.1.1,x.1.2.1.2),())),())).bind fun (y1:((Int×Unit)×Unit)) =>
   cond (decide (y1.1.1≥(0:Int)))
    ((F 24 pU ((x.1.1,((x.1.2.2.1.1,x.1.2.2.1.2),())),())).bind fun (y2:((Int×Unit)×Unit)) =>
    cond (decide (y2.1.1<(0:Int)))
     (cond ((decide ((0:Int)≤y1.1.1))&&(decide (y1.1.1<(((List.length (([]:List ab)++x.1.1)):Nat):Int))))
      ((((([]:List ab)++x.1.1))[(Int.toNat y1.1.1)]?).bind fun (y3:ab) =>
      (F 77 oW (((List.set (([]:List ab)++x.1.1) (Int.toNat y1.1.1) (x.1.2.2.1.1,x.1.2.2.1.2)),()),())).bind fun (y4:(((List ab)×Unit)×Unit)) =>
      some (y4.1,()))
      (none))
     ((F 77 oW (((([]:List ab)++x.1.1),()),())).bind fun (y5:(((List ab)×Unit)×Unit)) =>
     some (y5.1,())))
    ((F 77 oW (((([]:List ab)++x.1.1),()),())).bind fun (y6:(((List ab)×Unit)×Unit)) =>
    some (y6.1,())))
   (none):=by kernel_rfl
theorem Xg(F:FT)(J:JT FI)(x:(((List ab)×(ab×Unit))×Unit)):bY 104 FI Tryz.f104 F J x =
  (F 24 pU ((x.1.1,((x.1.2.1.1,x.1.2.1.2),())),())).bind fun (y1:((Int×Unit)×Unit)) =>
  cond (decide (y1.1.1<(0:Int)))
   (some (((((0:Int),(0:Int)),(0:Int)),(false,())),()))
   (cond ((((List.length x.1.1):Nat):Int)==(0:Int))
    (none)
    (((aV x.1.1 (Int.tmod (IntKind.wrap .i64 (y1.1.1+(1:Int))) (((List.length x.1.1):Nat):Int)))).bind fun (y2:ab) =>
    some (((y2.1,y2.2),(true,())),()))):=by kernel_rfl
theorem Xh(F:FT)(J:JT FJ)(x:((ab×Unit)×Unit)):bY 106 FJ Tryz.f106 F J x =
  (F 86 pV ((x.1.1.1,()),())).bind fun (y1:((Bool×Unit)×Unit)) =>
  cond y1.1.1
   (some ((((eg .andNot .i64 x.1.1.2 (1:Int))==(0:Int)),()),()))
   (some ((false,()),())):=by kernel_rfl
theorem Xi(F:FT)(J:JT oO)(x:((ID×Unit)×(aC×Unit))):bY 107 oO Tryz.f107 F J x =
 (F 127125 iO ((x.2.1.1,(x.1.1,())),())).bind fun (y1:((Int×(Bool×Unit))×Unit)) =>
 some ((y1.1.1,y1.1.2),((x.2.1.1,(x.2.1.2.1,x.2.1.2.2)),())):=by kernel_rfl
theorem Xk(F:FT)(J:JT wM)(x:((ID×Unit)×(aC×Unit))):bY 110 wM Tryz.f110 F J x =
  (F 115 l6 ((x.1.1,()),((x.2.1.1,(x.2.1.2.1,x.2.1.2.2)),()))).bind fun (y1:((Int×(Bool×Unit))×(aC×Unit))) =>
  cond y1.1.2.1
   (some (((12:Int),()),((y1.2.1.1,(y1.2.1.2.1,y1.2.1.2.2)),())))
   (cond (decide ((((List.length y1.2.1.2.1):Nat):Int)≥(40:Int)))
    (some (((3:Int),()),((y1.2.1.1,(y1.2.1.2.1,y1.2.1.2.2)),())))
    (cond (pj y1.2.1.2.1 y1.1.1 ((x.1.1,((⟨#[]⟩:ByteArray),(0:Int)))::([]:List af)))
     (some (((0:Int),()),((y1.2.1.1,((fD y1.2.1.2.1 y1.1.1 ((x.1.1,((⟨#[]⟩:ByteArray),(0:Int)))::([]:List af))),y1.2.1.2.2)),())))
     (none))):=by kernel_rfl
theorem SO(F:FT)(J:JT zG)(x:((ID×Unit)×Unit)):bY 111 zG Tryz.f111 F J x =
 some (((x.1.1,(0:Int)),((x.1.1,(1:Int)),())),()):=by kernel_rfl
theorem Xl(F:FT)(J:JT FK)(x:((StateT×(oU×Unit))×Unit)):bY 112 FK Tryz.f112 F J x =
  (F 131 FN ((x.1.1.1,(x.1.2.1.1,())),())).bind fun (y1:((ah×(Bool×Unit))×Unit)) =>
  cond (not y1.1.2.1)
   (some (((((0:Int),(0:Int)),(((0:Int),(0:Int)),(0:Int))),((13:Int),())),()))
   ((F 132 wN (((x.1.1.1,x.1.1.2),((x.1.2.1.2.1,x.1.2.1.2.2),())),())).bind fun (y2:((ab×Unit)×Unit)) =>
   (F 133 tS ((y1.1.1.2.1,((y2.1.1.1,y2.1.1.2),())),())).bind fun (y3:((Bool×Unit)×Unit)) =>
   cond (not y3.1.1)
    (some (((x.1.2.1.1,(((0:Int),(0:Int)),(0:Int))),((0:Int),())),()))
    (some (((x.1.2.1.1,(y2.1.1.1,y2.1.1.2)),((0:Int),())),()))):=by kernel_rfl
theorem Xm(F:FT)(J:JT zH)(x:(((List ab)×(ab×(ab×Unit)))×Unit)):bY 113 zH Tryz.f113 F J x =
  (F 133 tS ((x.1.1,((x.1.2.2.1.1,x.1.2.2.1.2),())),())).bind fun (y1:((Bool×Unit)×Unit)) =>
  cond y1.1.1
   ((F 123 pX ((x.1.1,()),())).bind fun (y2:(((List ab)×Unit)×Unit)) =>
   some (y2.1,()))
   ((F 134 lr ((x.1.1,((x.1.2.1.1,x.1.2.1.2),())),())).bind fun (y3:((Int×Unit)×Unit)) =>
   cond (aW (List.length x.1.1) (0:Int) (min (IntKind.wrap .i64 ((max y3.1.1 (0:Int):Int)+(1:Int))) (((List.length x.1.1):Nat):Int):Int))
    (cond (aW (List.length x.1.1) (min (IntKind.wrap .i64 ((max y3.1.1 (0:Int):Int)+(1:Int))) (((List.length x.1.1):Nat):Int):Int) (((List.length x.1.1):Nat):Int))
     ((F 135 m6 ((((cut x.1.1 (0:Int) (min (IntKind.wrap .i64 ((max y3.1.1 (0:Int):Int)+(1:Int))) (((List.length x.1.1):Nat):Int):Int))::(((x.1.2.2.1.1,x.1.2.2.1.2)::([]:List ab))::((cut x.1.1 (min (IntKind.wrap .i64 ((max y3.1.1 (0:Int):Int)+(1:Int))) (((List.length x.1.1):Nat):Int):Int) (((List.length x.1.1):Nat):Int))::([]:List (List ab))))),()),())).bind fun (y4:(((List ab)×Unit)×Unit)) =>
     some (y4.1,()))
     (none))
    (none)):=by kernel_rfl
theorem Xn(F:FT)(J:JT zJ)(x:((ai×Unit)×Unit)):bY 114 zJ Tryz.f114 F J x =
 (F 136 FO ((x.1.1,()),())).bind fun (y1:((Int×Unit)×Unit)) =>
 some (((y1.1.1==(0:Int)),()),()):=by kernel_rfl
theorem Xo(F:FT)(J:JT l6)(x:((ID×Unit)×(aC×Unit))):bY 115 l6 Tryz.f115 F J x =
 (F 139137 iP ((x.2.1.2.1,(x.1.1,())),())).bind fun (y1:((Int×(Bool×Unit))×Unit)) =>
 some ((y1.1.1,y1.1.2),((x.2.1.1,(x.2.1.2.1,x.2.1.2.2)),())):=by kernel_rfl
theorem Xp(F:FT)(J:JT zK)(x:((ab×(ab×Unit))×(aC×Unit))):bY 116 zK Tryz.f116 F J x =
 (F 139 FP ((x.2.1.2.2.1,(((x.1.1.1,x.1.1.2),(x.1.2.1.1,x.1.2.1.2)),())),())).bind fun (y1:(((List ak)×Unit)×Unit)) =>
 some ((),((x.2.1.1,(x.2.1.2.1,y1.1)),())):=by kernel_rfl
theorem Xq(F:FT)(J:JT zL)(x:((ab×Unit)×(aC×Unit))):bY 117 zL Tryz.f117 F J x =
 J xL (aP Tryz.prog 117 0) (((0:Int),()),(((x.2.1.1,(x.2.1.2.1,x.2.1.2.2)),(((x.1.1.1,x.1.1.2),()),(((((0:Int),(0:Int)),(0:Int)),()),(((x.1.1.1,x.1.1.2),()),())))),())):=by kernel_rfl
theorem DY(F:FT)(J:JT zL)(x:((Int×Unit)×((aC×((ab×Unit)×((ab×Unit)×((ab×Unit)×Unit))))×Unit))):fV 117 0 zL Tryz.f117 xL F J x =
  cond (decide (x.1.1<(2:Int)))
   ((F 118 lq (((x.2.1.2.1.1.1,x.2.1.2.1.1.2),()),((x.2.1.1.1,(x.2.1.1.2.1,x.2.1.1.2.2)),()))).bind fun (y1:(((Option ((Fin 1)×Nat))×Unit)×(aC×Unit))) =>
   pf y1.1.1
    (none) fun (p2:((Fin 1)×Nat)) =>
   cond (p2.1.val==0)
    (((y1.2.1.1)[p2.2]?).bind fun (y3:ah) =>
    (F 140 Cx ((y3.2.1,((x.2.1.2.2.2.1.1.1,x.2.1.2.2.2.1.1.2),())),())).bind fun (y4:((ab×(Bool×Unit))×Unit)) =>
    cond (not ((y4.1.1.1.1==x.2.1.2.1.1.1.1)&&(y4.1.1.1.2==x.2.1.2.1.1.1.2)))
     (some (((y4.1.1.1,y4.1.1.2),()),((y1.2.1.1,(y1.2.1.2.1,y1.2.1.2.2)),())))
     (J xL (aP Tryz.prog 117 0) (((IntKind.wrap .i64 (x.1.1+(1:Int))),()),(((y1.2.1.1,(y1.2.1.2.1,y1.2.1.2.2)),(((x.2.1.2.1.1.1,x.2.1.2.1.1.2),()),(((x.2.1.2.2.1.1.1,x.2.1.2.2.1.1.2),()),(((y4.1.1.1,y4.1.1.2),()),())))),()))))
    (none))
   (some (((((0:Int),(0:Int)),(0:Int)),()),((x.2.1.1.1,(x.2.1.1.2.1,x.2.1.1.2.2)),()))):=by kernel_rfl
theorem Xr(F:FT)(J:JT lq)(x:((ab×Unit)×(aC×Unit))):bY 118 lq Tryz.f118 F J x =
 J tX (aP Tryz.prog 118 0) (((((List.length x.2.1.1):Nat):Int),((0:Int),())),(((x.2.1.1,(x.2.1.2.1,x.2.1.2.2)),(((x.1.1.1,x.1.1.2),()),())),())):=by kernel_rfl
theorem JB(F:FT)(J:JT lq)(x:((Int×(Int×Unit))×((aC×((ab×Unit)×Unit))×Unit))):fV 118 0 lq Tryz.f118 tX F J x =
  cond (decide (x.1.2.1<x.1.1))
   (cond ((decide ((0:Int)≤x.1.2.1))&&(decide (x.1.2.1<(((List.length x.2.1.1.1):Nat):Int))))
    (((x.2.1.1.1)[(Int.toNat x.1.2.1)]?).bind fun (y1:ah) =>
    (F 133 tS ((y1.2.1,((x.2.1.2.1.1.1,x.2.1.2.1.1.2),())),())).bind fun (y2:((Bool×Unit)×Unit)) =>
    cond y2.1.1
     (some (((some ((⟨0,by decide⟩:(Fin 1)),(Int.toNat x.1.2.1))),()),((x.2.1.1.1,(x.2.1.1.2.1,x.2.1.1.2.2)),())))
     (J tX (aP Tryz.prog 118 0) ((x.1.1,((IntKind.wrap .i64 (x.1.2.1+(1:Int))),())),(((x.2.1.1.1,(x.2.1.1.2.1,x.2.1.1.2.2)),(((x.2.1.2.1.1.1,x.2.1.2.1.1.2),()),())),()))))
    (none))
   (some ((none,()),((x.2.1.1.1,(x.2.1.1.2.1,x.2.1.1.2.2)),()))):=by kernel_rfl
theorem Xs(F:FT)(J:JT FL)(x:(((List ab)×(ab×Unit))×Unit)):bY 119 FL Tryz.f119 F J x =
  (F 134 lr ((x.1.1,((x.1.2.1.1,x.1.2.1.2),())),())).bind fun (y1:((Int×Unit)×Unit)) =>
  cond (decide (y1.1.1<(0:Int)))
   ((F 123 pX ((x.1.1,()),())).bind fun (y2:(((List ab)×Unit)×Unit)) =>
   some (y2.1,()))
   (cond (aW (List.length x.1.1) (0:Int) y1.1.1)
    (cond (aW (List.length x.1.1) (IntKind.wrap .i64 (y1.1.1+(1:Int))) (((List.length x.1.1):Nat):Int))
     ((F 135 m6 ((((cut x.1.1 (0:Int) y1.1.1)::((cut x.1.1 (IntKind.wrap .i64 (y1.1.1+(1:Int))) (((List.length x.1.1):Nat):Int))::([]:List (List ab)))),()),())).bind fun (y3:(((List ab)×Unit)×Unit)) =>
     some (y3.1,()))
     (none))
    (none)):=by kernel_rfl
theorem Xt(F:FT)(J:JT rN)(x:(((List ab)×(ab×(ab×Unit)))×Unit)):bY 121 rN Tryz.f121 F J x =
  (F 134 lr ((x.1.1,((x.1.2.1.1,x.1.2.1.2),())),())).bind fun (y1:((Int×Unit)×Unit)) =>
  cond (decide (y1.1.1<(0:Int)))
   ((F 123 pX ((x.1.1,()),())).bind fun (y2:(((List ab)×Unit)×Unit)) =>
   some (y2.1,()))
   ((F 133 tS ((x.1.1,((x.1.2.2.1.1,x.1.2.2.1.2),())),())).bind fun (y3:((Bool×Unit)×Unit)) =>
   cond y3.1.1
    ((F 123 pX ((x.1.1,()),())).bind fun (y4:(((List ab)×Unit)×Unit)) =>
    some (y4.1,()))
    (cond (aW (List.length x.1.1) (0:Int) y1.1.1)
     (cond (aW (List.length x.1.1) (IntKind.wrap .i64 (y1.1.1+(1:Int))) (((List.length x.1.1):Nat):Int))
      ((F 135 m6 ((((cut x.1.1 (0:Int) y1.1.1)::(((x.1.2.2.1.1,x.1.2.2.1.2)::([]:List ab))::((cut x.1.1 (IntKind.wrap .i64 (y1.1.1+(1:Int))) (((List.length x.1.1):Nat):Int))::([]:List (List ab))))),()),())).bind fun (y5:(((List ab)×Unit)×Unit)) =>
      some (y5.1,()))
      (none))
     (none))):=by kernel_rfl
theorem Xu(F:FT)(J:JT m0)(x:((ab×Unit)×Unit)):bY 122 m0 Tryz.f122 F J x =
 some (((x.1.1.1,(eg .xor .i64 x.1.1.2 (1:Int))),()),()):=by kernel_rfl
theorem Xv(F:FT)(J:JT pX)(x:(((List ab)×Unit)×Unit)):bY 123 pX Tryz.f123 F J x =
  cond ((((List.length x.1.1):Nat):Int)==(0:Int))
   (some ((([]:List ab),()),()))
   ((F 143141 jX (x.1,())).bind fun (y1:((ab×Unit)×Unit)) =>
   (F 134 lr ((x.1.1,((y1.1.1.1,y1.1.1.2),())),())).bind fun (y2:((Int×Unit)×Unit)) =>
   cond (aW (List.length x.1.1) y2.1.1 (((List.length x.1.1):Nat):Int))
    (cond (aW (List.length x.1.1) (0:Int) y2.1.1)
     ((F 143 m8 ((((cut x.1.1 y2.1.1 (((List.length x.1.1):Nat):Int))::((cut x.1.1 (0:Int) y2.1.1)::([]:List (List ab)))),()),())).bind fun (y3:(((List ab)×Unit)×Unit)) =>
     some (y3.1,()))
     (none))
    (none)):=by kernel_rfl
theorem Xw(F:FT)(J:JT FM)(x:((bB×Unit)×(aC×Unit))):bY 124 FM Tryz.f124 F J x =
  cond x.1.1.2.2.2.2.2.2.1
   ((F 115 l6 ((x.1.1.2.1,()),((x.2.1.1,(x.2.1.2.1,x.2.1.2.2)),()))).bind fun (y1:((Int×(Bool×Unit))×(aC×Unit))) =>
   cond y1.1.2.1
    (cond ((decide ((0:Int)≤y1.1.1))&&(decide (y1.1.1<(((List.length y1.2.1.2.1):Nat):Int))))
     (cond ((decide ((0:Int)≤y1.1.1))&&(decide (y1.1.1<(((List.length y1.2.1.2.1):Nat):Int))))
      (some (((some ((⟨1,by decide⟩:(Fin 2)),(Int.toNat y1.1.1))),((some ((⟨1,by decide⟩:(Fin 2)),(Int.toNat y1.1.1))),())),((y1.2.1.1,(y1.2.1.2.1,y1.2.1.2.2)),())))
      (none))
     (none))
    (some ((none,(none,())),((y1.2.1.1,(y1.2.1.2.1,y1.2.1.2.2)),()))))
   ((F 107 oO ((x.1.1.2.1,()),((x.2.1.1,(x.2.1.2.1,x.2.1.2.2)),()))).bind fun (y2:((Int×(Bool×Unit))×(aC×Unit))) =>
   cond y2.1.2.1
    (cond ((decide ((0:Int)≤y2.1.1))&&(decide (y2.1.1<(((List.length y2.2.1.1):Nat):Int))))
     (cond ((decide ((0:Int)≤y2.1.1))&&(decide (y2.1.1<(((List.length y2.2.1.1):Nat):Int))))
      (some (((some ((⟨0,by decide⟩:(Fin 2)),(Int.toNat y2.1.1))),((some ((⟨0,by decide⟩:(Fin 2)),(Int.toNat y2.1.1))),())),((y2.2.1.1,(y2.2.1.2.1,y2.2.1.2.2)),())))
      (none))
     (none))
    (some ((none,(none,())),((y2.2.1.1,(y2.2.1.2.1,y2.2.1.2.2)),())))):=by kernel_rfl
theorem Xx(F:FT)(J:JT Cv)(x:((ah×(ID×Unit))×Unit)):bY 126 Cv Tryz.f126 F J x =
 (F 127 zM ((x.1.1.1,(x.1.2.1,())),())).bind fun (y1:((Int×Unit)×Unit)) =>
 some (y1.1,()):=by kernel_rfl
theorem Xy(F:FT)(J:JT zM)(x:((ID×(ID×Unit))×Unit)):bY 127 zM Tryz.f127 F J x =
  cond ((x.1.1.1==x.1.2.1.1)&&(x.1.1.2==x.1.2.1.2))
   (some (((0:Int),()),()))
   ((F 145 zN ((x.1.1.1,(x.1.2.1.1,())),())).bind fun (y1:((Int×Unit)×Unit)) =>
   (F 145 zN ((x.1.1.2,(x.1.2.1.2,())),())).bind fun (y2:((Int×Unit)×Unit)) =>
   (F 144 tT (((y1.1.1::(y2.1.1::([]:List Int))),()),())).bind fun (y3:((Int×Unit)×Unit)) =>
   some (y3.1,())):=by kernel_rfl
theorem Xz(F:FT)(J:JT FN)(x:((ai×(ID×Unit))×Unit)):bY 131 FN Tryz.f131 F J x =
 (F 151149 jY ((x.1.1.1,(x.1.2.1,())),())).bind fun (y1:((ah×(Bool×Unit))×Unit)) =>
 (F 81 xh ((y1.1.1.2.1,()),())).bind fun (y2:(((List ab)×Unit)×Unit)) =>
 some (((y1.1.1.1,(y2.1.1,y1.1.1.2.2)),y1.1.2),()):=by kernel_rfl
theorem XA(F:FT)(J:JT wN)(x:((StateT×(ab×Unit))×Unit)):bY 132 wN Tryz.f132 F J x =
 J tY (aP Tryz.prog 132 0) (((IntKind.wrap .i64 ((((List.length x.1.1.2):Nat):Int)+(1:Int))),((0:Int),())),((((x.1.1.1,x.1.1.2),()),(((x.1.2.1.1,x.1.2.1.2),()),(((((0:Int),(0:Int)),(0:Int)),()),()))),())):=by kernel_rfl
theorem JC(F:FT)(J:JT wN)(x:((Int×(Int×Unit))×(((StateT×Unit)×((ab×Unit)×((ab×Unit)×Unit)))×Unit))):fV 132 0 wN Tryz.f132 tY F J x =
  cond (decide (x.1.2.1<x.1.1))
   ((F 151 tU ((x.2.1.1.1.1,((x.2.1.2.1.1.1,x.2.1.2.1.1.2),())),())).bind fun (y1:((ID×(Bool×Unit))×Unit)) =>
   cond y1.1.2.1
    (some (((x.2.1.2.1.1.1,x.2.1.2.1.1.2),()),()))
    ((F 152 FR ((x.2.1.1.1.2,((x.2.1.2.1.1.1,x.2.1.2.1.1.2),())),())).bind fun (y2:((ab×(Bool×Unit))×Unit)) =>
    cond (not y2.1.2.1)
     (some (((((0:Int),(0:Int)),(0:Int)),()),()))
     (J tY (aP Tryz.prog 132 0) ((x.1.1,((IntKind.wrap .i64 (x.1.2.1+(1:Int))),())),((((x.2.1.1.1.1,x.2.1.1.1.2),()),(((y2.1.1.1,y2.1.1.2),()),(((x.2.1.2.2.1.1.1,x.2.1.2.2.1.1.2),()),()))),())))))
   (some (((((0:Int),(0:Int)),(0:Int)),()),())):=by kernel_rfl
theorem XB(F:FT)(J:JT tS)(x:(((List ab)×(ab×Unit))×Unit)):bY 133 tS Tryz.f133 F J x =
 (F 134 lr ((x.1.1,((x.1.2.1.1,x.1.2.1.2),())),())).bind fun (y1:((Int×Unit)×Unit)) =>
 some (((decide (y1.1.1≥(0:Int))),()),()):=by kernel_rfl
theorem XC(F:FT)(J:JT lr)(x:(((List ab)×(ab×Unit))×Unit)):bY 134 lr Tryz.f134 F J x =
 J tZ (aP Tryz.prog 134 0) ((x.1.1,((((List.length x.1.1):Nat):Int),((0:Int),()))),((((x.1.2.1.1,x.1.2.1.2),()),()),())):=by kernel_rfl
theorem JD(F:FT)(J:JT lr)(x:(((List ab)×(Int×(Int×Unit)))×(((ab×Unit)×Unit)×Unit))):fV 134 0 lr Tryz.f134 tZ F J x =
  cond (decide (x.1.2.2.1<x.1.2.1))
   (((aV x.1.1 x.1.2.2.1)).bind fun (y1:ab) =>
   cond (((x.2.1.1.1.1.1==y1.1.1)&&(x.2.1.1.1.1.2==y1.1.2))&&(x.2.1.1.1.2==y1.2))
    (some (x.1.2.2,()))
    (J tZ (aP Tryz.prog 134 0) ((x.1.1,(x.1.2.1,((IntKind.wrap .i64 (x.1.2.2.1+(1:Int))),()))),((((x.2.1.1.1.1,x.2.1.1.1.2),()),()),()))))
   (some (((-1:Int),()),())):=by kernel_rfl
theorem XD(F:FT)(J:JT m6)(x:(((List (List ab))×Unit)×Unit)):bY 135 m6 Tryz.f135 F J x =
 (F 143 m8 (x.1,())).bind fun (y1:(((List ab)×Unit)×Unit)) =>
 (F 123 pX (y1.1,())).bind fun (y2:(((List ab)×Unit)×Unit)) =>
 some (y2.1,()):=by kernel_rfl
theorem XE(F:FT)(J:JT FO)(x:((ai×Unit)×Unit)):bY 136 FO Tryz.f136 F J x =
  (F 153 FU ((x.1.1,()),())).bind fun (y1:((Int×(Int×(Int×(Int×Unit))))×Unit)) =>
  cond ((2:Int)==(0:Int))
   (none)
   (some (((IntKind.wrap .i64 (y1.1.2.2.2.1 - (IntKind.wrap .i64 (Int.tdiv (IntKind.wrap .i64 ((IntKind.wrap .i64 (y1.1.1 - y1.1.2.1))+y1.1.2.2.1)) (2:Int))))),()),())):=by kernel_rfl
theorem XF(F:FT)(J:JT Cw)(x:((af×(ID×Unit))×Unit)):bY 138 Cw Tryz.f138 F J x =
 (F 127 zM ((x.1.1.1,(x.1.2.1,())),())).bind fun (y1:((Int×Unit)×Unit)) =>
 some (y1.1,()):=by kernel_rfl
theorem XG(F:FT)(J:JT FP)(x:(((List ak)×(ak×Unit))×Unit)):bY 139 FP Tryz.f139 F J x =
  (F 156154 iQ ((x.1.1,((x.1.2.1.1.1,x.1.2.1.1.2),())),())).bind fun (y1:((Int×(Bool×Unit))×Unit)) =>
  (F 61 Fy ((x.1.1,()),())).bind fun (y2:(((List ak)×Unit)×Unit)) =>
  cond y1.1.2.1
   (cond ((decide ((0:Int)≤y1.1.1))&&(decide (y1.1.1<(((List.length y2.1.1):Nat):Int))))
    (((y2.1.1)[(Int.toNat y1.1.1)]?).bind fun (y3:ak) =>
    some (((List.set y2.1.1 (Int.toNat y1.1.1) ((x.1.2.1.1.1,x.1.2.1.1.2),(x.1.2.1.2.1,x.1.2.1.2.2))),()),()))
    (none))
   (cond (decide ((((List.length x.1.1):Nat):Int)<(400:Int)))
    (cond (pj y2.1.1 y1.1.1 (((x.1.2.1.1.1,x.1.2.1.1.2),(x.1.2.1.2.1,x.1.2.1.2.2))::([]:List ak)))
     (some (((fD y2.1.1 y1.1.1 (((x.1.2.1.1.1,x.1.2.1.1.2),(x.1.2.1.2.1,x.1.2.1.2.2))::([]:List ak))),()),()))
     (none))
    (some (y2.1,()))):=by kernel_rfl
theorem XH(F:FT)(J:JT Cx)(x:(((List ab)×(ab×Unit))×Unit)):bY 140 Cx Tryz.f140 F J x =
 (F 157 zO ((x.1.1,((x.1.2.1.1,x.1.2.1.2),((IntKind.wrap .i64 ((((List.length x.1.1):Nat):Int) - (1:Int))),()))),())).bind fun (y1:((ab×(Bool×Unit))×Unit)) =>
 some (((y1.1.1.1,y1.1.1.2),y1.1.2),()):=by kernel_rfl
theorem XI(F:FT)(J:JT Cz)(x:((ab×(ab×Unit))×Unit)):bY 142 Cz Tryz.f142 F J x =
 (F 127 zM ((x.1.1.1,(x.1.2.1.1,())),())).bind fun (y1:((Int×Unit)×Unit)) =>
 (F 145 zN ((x.1.1.2,(x.1.2.1.2,())),())).bind fun (y2:((Int×Unit)×Unit)) =>
 (F 144 tT (((y1.1.1::(y2.1.1::([]:List Int))),()),())).bind fun (y3:((Int×Unit)×Unit)) =>
 some (y3.1,()):=by kernel_rfl
theorem XJ(F:FT)(J:JT m8)(x:(((List (List ab))×Unit)×Unit)):bY 143 m8 Tryz.f143 F J x =
 J ua (aP Tryz.prog 143 0) ((x.1.1,((0:Int),(x.1.1,((((List.length x.1.1):Nat):Int),((0:Int),()))))),((),())):=by kernel_rfl
theorem JE(F:FT)(J:JT m8)(x:(((List (List ab))×(Int×((List (List ab))×(Int×(Int×Unit)))))×(Unit×Unit))):fV 143 0 m8 Tryz.f143 ua F J x =
  cond (decide (x.1.2.2.2.2.1<x.1.2.2.2.1))
   (((aV x.1.2.2.1 x.1.2.2.2.2.1)).bind fun (y1:(List ab)) =>
   cond (decide ((IntKind.wrap .i64 (x.1.2.1+(((List.length y1):Nat):Int)))<(0:Int)))
    (none)
    (J ua (aP Tryz.prog 143 0) ((x.1.1,((IntKind.wrap .i64 (x.1.2.1+(((List.length y1):Nat):Int))),(x.1.2.2.1,(x.1.2.2.2.1,((IntKind.wrap .i64 (x.1.2.2.2.2.1+(1:Int))),()))))),((),()))))
   (cond (yn x.1.2.1)
    (J ub (aP Tryz.prog 143 1) ((x.1.1,((((List.length x.1.1):Nat):Int),((0:Int),()))),((),(([]:List ab),()))))
    (none)):=by kernel_rfl
theorem JF(F:FT)(J:JT m8)(x:(((List (List ab))×(Int×(Int×Unit)))×(Unit×((List ab)×Unit)))):fV 143 1 m8 Tryz.f143 ub F J x =
  cond (decide (x.1.2.2.1<x.1.2.1))
   (((aV x.1.1 x.1.2.2.1)).bind fun (y2:(List ab)) =>
   cond (aM (List.length x.2.2.1) (List.length y2))
    (J ub (aP Tryz.prog 143 1) ((x.1.1,(x.1.2.1,((IntKind.wrap .i64 (x.1.2.2.1+(1:Int))),()))),((),((x.2.2.1++y2),()))))
    (none))
   (some (x.2.2,())):=by kernel_rfl
theorem XK(F:FT)(J:JT tT)(x:(((List Int)×Unit)×Unit)):bY 144 tT Tryz.f144 F J x =
 J xM (aP Tryz.prog 144 0) (((0:Int),(x.1.1,((((List.length x.1.1):Nat):Int),((0:Int),())))),((),())):=by kernel_rfl
theorem xN(F:FT)(J:JT tT)(x:((Int×((List Int)×(Int×(Int×Unit))))×(Unit×Unit))):fV 144 0 tT Tryz.f144 xM F J x =
  cond (decide (x.1.2.2.2.1<x.1.2.2.1))
   (((aV x.1.2.1 x.1.2.2.2.1)).bind fun (y1:Int) =>
   cond (y1 != x.1.1)
    (some ((y1,()),()))
    (J xM (aP Tryz.prog 144 0) ((x.1.1,(x.1.2.1,(x.1.2.2.1,((IntKind.wrap .i64 (x.1.2.2.2.1+(1:Int))),())))),((),()))))
   (some ((x.1.1,()),())):=by kernel_rfl
theorem XL(F:FT)(J:JT zN)(x:((Int×(Int×Unit))×Unit)):bY 145 zN Tryz.f145 F J x =
  (F 159 zP ((x.1.1,()),())).bind fun (y1:((Bool×Unit)×Unit)) =>
  (F 159 zP (x.1.2,())).bind fun (y2:((Bool×Unit)×Unit)) =>
  cond y1.1.1
   (cond y2.1.1
    (some (((0:Int),()),()))
    (some (((-1:Int),()),())))
   (cond y2.1.1
    (some (((1:Int),()),()))
    (cond (decide (x.1.1<x.1.2.1))
     (some (((-1:Int),()),()))
     (cond (decide (x.1.1 > x.1.2.1))
      (some (((1:Int),()),()))
      (some (((0:Int),()),()))))):=by kernel_rfl
theorem XM(F:FT)(J:JT FQ)(x:((ah×Unit)×Unit)):bY 150 FQ Tryz.f150 F J x =
 some ((x.1.1.1,()),()):=by kernel_rfl
theorem XN(F:FT)(J:JT tU)(x:((ai×(ab×Unit))×Unit)):bY 151 tU Tryz.f151 F J x =
 J uc (aP Tryz.prog 151 0) ((x.1.1.1,((((List.length x.1.1.1):Nat):Int),((0:Int),()))),((((x.1.2.1.1,x.1.2.1.2),()),((((0:Int),(0:Int)),()),())),())):=by kernel_rfl
theorem JG(F:FT)(J:JT tU)(x:(((List ah)×(Int×(Int×Unit)))×(((ab×Unit)×((ID×Unit)×Unit))×Unit))):fV 151 0 tU Tryz.f151 uc F J x =
  cond (decide (x.1.2.2.1<x.1.2.1))
   (((aV x.1.1 x.1.2.2.1)).bind fun (y1:ah) =>
   (F 133 tS ((y1.2.1,((x.2.1.1.1.1,x.2.1.1.1.2),())),())).bind fun (y2:((Bool×Unit)×Unit)) =>
   cond y2.1.1
    (some ((y1.1,(true,())),()))
    (J uc (aP Tryz.prog 151 0) ((x.1.1,(x.1.2.1,((IntKind.wrap .i64 (x.1.2.2.1+(1:Int))),()))),((((x.2.1.1.1.1,x.2.1.1.1.2),()),((x.2.1.2.1.1,()),())),()))))
   (some ((((0:Int),(0:Int)),(false,())),())):=by kernel_rfl
theorem XO(F:FT)(J:JT FR)(x:(((List ak)×(ab×Unit))×Unit)):bY 152 FR Tryz.f152 F J x =
  (F 164162 iR ((x.1.1,()),(((x.1.2.1.1,x.1.2.1.2),()),()))).bind fun (y1:((Int×Unit)×((ab×Unit)×Unit))) =>
  cond (decide (y1.1.1<(0:Int)))
   (some (((((0:Int),(0:Int)),(0:Int)),(false,())),()))
   (((aV x.1.1 y1.1.1)).bind fun (y2:ak) =>
   some (((y2.2.1,y2.2.2),(true,())),())):=by kernel_rfl
theorem XP(F:FT)(J:JT FU)(x:((ai×Unit)×Unit)):bY 153 FU Tryz.f153 F J x =
 (F 166164 jZ ((x.1.1.1,()),())).bind fun (y1:((Int×Unit)×Unit)) =>
 (F 166 wO ((x.1.1,()),())).bind fun (y2:(((List (List ab))×Unit)×Unit)) =>
 (F 167 wP ((x.1.1,()),())).bind fun (y3:((Int×Unit)×Unit)) =>
 some (((((List.length x.1.1.1):Nat):Int),((((List.length x.1.1.2):Nat):Int),((IntKind.wrap .i64 ((((List.length y2.1.1):Nat):Int)+y1.1.1)),y3.1))),()):=by kernel_rfl
theorem XQ(F:FT)(J:JT CA)(x:((ak×(ab×Unit))×Unit)):bY 155 CA Tryz.f155 F J x =
 (F 142 Cz (((x.1.1.1.1,x.1.1.1.2),((x.1.2.1.1,x.1.2.1.2),())),())).bind fun (y1:((Int×Unit)×Unit)) =>
 some (y1.1,()):=by kernel_rfl
end Go.Vs
set_option maxRecDepth 1000000
set_option maxHeartbeats 0
namespace Go.Vs
open Go.Proofs
theorem SP(F:FT)(J:JT zO)(x:(((List ab)×(ab×(Int×Unit)))×Unit)):bY 157 zO Tryz.f157 F J x =
  (F 134 lr ((x.1.1,((x.1.2.1.1,x.1.2.1.2),())),())).bind fun (y1:((Int×Unit)×Unit)) =>
  cond (decide (y1.1.1<(0:Int)))
   (some (((((0:Int),(0:Int)),(0:Int)),(false,())),()))
   (cond ((((List.length x.1.1):Nat):Int)==(0:Int))
    (none)
    (((aV x.1.1 (Int.tmod (IntKind.wrap .i64 (y1.1.1+x.1.2.2.1)) (((List.length x.1.1):Nat):Int)))).bind fun (y2:ab) =>
    some (((y2.1,y2.2),(true,())),()))):=by kernel_rfl
theorem XR(F:FT)(J:JT zP)(x:((Int×Unit)×Unit)):bY 159 zP Tryz.f159 F J x =
 some (((x.1.1 != x.1.1),()),()):=by kernel_rfl
theorem XS(F:FT)(J:JT FV)(x:((ak×Unit)×((Int×(Int×(Int×Unit)))×Unit))):bY 163 FV Tryz.f163 F J x =
 some (((((x.1.1.1.1.1==x.2.1.1)&&(x.1.1.1.1.2==x.2.1.2.1))&&(x.1.1.1.2==x.2.1.2.2.1)),()),((x.2.1.1,(x.2.1.2.1,x.2.1.2.2)),())):=by kernel_rfl
theorem XT(F:FT)(J:JT FY)(x:((ah×Unit)×Unit)):bY 165 FY Tryz.f165 F J x =
 some ((((((List.length x.1.1.2.1):Nat):Int)==(0:Int)),()),()):=by kernel_rfl
theorem XU(F:FT)(J:JT tV)(x:((ai×Unit)×Unit)):bY 171 tV Tryz.f171 F J x =
 J ud (aP Tryz.prog 171 0) ((x.1.1.2,((((List.length x.1.1.2):Nat):Int),((0:Int),()))),((),(([]:List ab),()))):=by kernel_rfl
theorem JH(F:FT)(J:JT tV)(x:(((List af)×(Int×(Int×Unit)))×(Unit×((List ab)×Unit)))):fV 171 0 tV Tryz.f171 ud F J x =
  cond (decide (x.1.2.2.1<x.1.2.1))
   (((aV x.1.1 x.1.2.2.1)).bind fun (y1:af) =>
   (F 122 m0 (((y1.1,(0:Int)),()),())).bind fun (y2:((ab×Unit)×Unit)) =>
   cond (aM (List.length x.2.2.1) (List.length ((y1.1,(0:Int))::((y2.1.1.1,y2.1.1.2)::([]:List ab)))))
    (J ud (aP Tryz.prog 171 0) ((x.1.1,(x.1.2.1,((IntKind.wrap .i64 (x.1.2.2.1+(1:Int))),()))),((),((x.2.2.1++((y1.1,(0:Int))::((y2.1.1.1,y2.1.1.2)::([]:List ab)))),()))))
    (none))
   (some (x.2.2,())):=by kernel_rfl
theorem XV(F:FT)(J:JT CB)(x:((ai×(ab×Unit))×Unit)):bY 176 CB Tryz.f176 F J x =
  (F 151 tU ((x.1.1,((x.1.2.1.1,x.1.2.1.2),())),())).bind fun (y1:((ID×(Bool×Unit))×Unit)) =>
  cond (not y1.1.2.1)
   (some (((((0:Int),(0:Int)),(0:Int)),(false,())),()))
   ((F 122 m0 (((x.1.2.1.1,x.1.2.1.2),()),())).bind fun (y2:((ab×Unit)×Unit)) =>
   (F 179 wQ ((x.1.1,((y2.1.1.1,y2.1.1.2),())),())).bind fun (y3:((ab×(Bool×Unit))×Unit)) =>
   some (((y3.1.1.1,y3.1.1.2),y3.1.2),())):=by kernel_rfl
theorem XW(F:FT)(J:JT gF)(x:((ai×Unit)×Unit)):bY 177 gF Tryz.f177 F J x =
 J qN (aP Tryz.prog 177 0) ((x.1.1.1,((((List.length x.1.1.1):Nat):Int),((0:Int),()))),((),(([]:List Int),(([]:List (ab×Int)),())))):=by kernel_rfl
theorem JI(F:FT)(J:JT gF)(x:(((List ah)×(Int×(Int×Unit)))×(Unit×((List Int)×((List (ab×Int))×Unit))))):fV 177 0 gF Tryz.f177 qN F J x =
  cond (decide (x.1.2.2.1<x.1.2.1))
   (((aV x.1.1 x.1.2.2.1)).bind fun (y1:ah) =>
   cond (aM (List.length x.2.2.1) (List.length (x.1.2.2.1::([]:List Int))))
    (J ue (aP Tryz.prog 177 1) ((x.1.2.2.1,(x.1.1,(x.1.2.1,(x.1.2.2.1,(y1.2.1,((((List.length y1.2.1):Nat):Int),((0:Int),()))))))),((),((x.2.2.1++(x.1.2.2.1::([]:List Int))),x.2.2.2))))
    (none))
   (J oo (aP Tryz.prog 177 2) (x.2.2.2,((),(x.2.2.1,((none,x.2.2.2.1),()))))):=by kernel_rfl
theorem JJ(F:FT)(J:JT gF)(x:((Int×((List ah)×(Int×(Int×((List ab)×(Int×(Int×Unit)))))))×(Unit×((List Int)×((List (ab×Int))×Unit))))):fV 177 1 gF Tryz.f177 ue F J x =
  cond (decide (x.1.2.2.2.2.2.2.1<x.1.2.2.2.2.2.1))
   (((aV x.1.2.2.2.2.1 x.1.2.2.2.2.2.2.1)).bind fun (y2:ab) =>
   J ue (aP Tryz.prog 177 1) ((x.1.1,(x.1.2.1,(x.1.2.2.1,(x.1.2.2.2.1,(x.1.2.2.2.2.1,(x.1.2.2.2.2.2.1,((IntKind.wrap .i64 (x.1.2.2.2.2.2.2.1+(1:Int))),()))))))),((),(x.2.2.1,((lJ (.pair (.pair (.int .i64) (.int .i64)) (.int .i64)) (y2.1,y2.2) x.1.1 x.2.2.2.1),())))))
   (J qN (aP Tryz.prog 177 0) ((x.1.2.1,(x.1.2.2.1,((IntKind.wrap .i64 (x.1.2.2.2.1+(1:Int))),()))),((),(x.2.2.1,x.2.2.2)))):=by kernel_rfl
theorem JK(F:FT)(J:JT gF)(x:(((List (ab×Int))×Unit)×(Unit×((List Int)×(((Option (ab×Int))×(List (ab×Int)))×Unit))))):fV 177 2 gF Tryz.f177 oo F J x =
  cond (List.isEmpty x.2.2.2.1.2)
   (J uf (aP Tryz.prog 177 3) (((((List.length x.2.2.1):Nat):Int),((0:Int),())),((),(x.2.2.1,(([]:List Int),())))))
   (rf (List.length x.2.2.2.1.2) fun (j3:Nat) =>
   ((x.2.2.2.1.2)[j3]?).bind fun (y4:(ab×Int)) =>
   (F 122 m0 (((y4.1.1,y4.1.2),()),())).bind fun (y5:((ab×Unit)×Unit)) =>
   cond (Option.isSome (iD (.pair (.pair (.int .i64) (.int .i64)) (.int .i64)) (y5.1.1.1,y5.1.1.2) x.1.1))
    ((F 180 FZ ((y4.2,((Option.getD (iD (.pair (.pair (.int .i64) (.int .i64)) (.int .i64)) (y5.1.1.1,y5.1.1.2) x.1.1) (0:Int)),())),(x.2.2.1,()))).bind fun (y6:(Unit×((List Int)×Unit))) =>
    J oo (aP Tryz.prog 177 2) (x.1,((),(y6.2.1,(((some y4),(List.eraseIdx x.2.2.2.1.2 j3)),())))))
    (J oo (aP Tryz.prog 177 2) (x.1,((),(x.2.2.1,(((some y4),(List.eraseIdx x.2.2.2.1.2 j3)),())))))):=by kernel_rfl
theorem JM(F:FT)(J:JT gF)(x:((Int×(Int×Unit))×(Unit×((List Int)×((List Int)×Unit))))):fV 177 3 gF Tryz.f177 uf F J x =
  cond (decide (x.1.2.1<x.1.1))
   ((F 181 pY (x.1.2,(x.2.2.1,()))).bind fun (y7:((Int×Unit)×((List Int)×Unit))) =>
   cond (aM (List.length x.2.2.2.1) (List.length (y7.1.1::([]:List Int))))
    (J uf (aP Tryz.prog 177 3) ((x.1.1,((IntKind.wrap .i64 (x.1.2.1+(1:Int))),())),((),(y7.2.1,((x.2.2.2.1++(y7.1.1::([]:List Int))),())))))
    (none))
   (some (x.2.2.2,())):=by kernel_rfl
theorem XX(F:FT)(J:JT wQ)(x:((ai×(ab×Unit))×Unit)):bY 179 wQ Tryz.f179 F J x =
 J ug (aP Tryz.prog 179 0) ((x.1.1.1,((((List.length x.1.1.1):Nat):Int),((0:Int),()))),((((x.1.2.1.1,x.1.2.1.2),()),(((((0:Int),(0:Int)),(0:Int)),()),())),())):=by kernel_rfl
theorem JN(F:FT)(J:JT wQ)(x:(((List ah)×(Int×(Int×Unit)))×(((ab×Unit)×((ab×Unit)×Unit))×Unit))):fV 179 0 wQ Tryz.f179 ug F J x =
  cond (decide (x.1.2.2.1<x.1.2.1))
   (((aV x.1.1 x.1.2.2.1)).bind fun (y1:ah) =>
   (F 182 F2 ((y1.2.1,((x.2.1.1.1.1,x.2.1.1.1.2),())),())).bind fun (y2:((ab×(Bool×Unit))×Unit)) =>
   cond y2.1.2.1
    (some (((y2.1.1.1,y2.1.1.2),(true,())),()))
    (J ug (aP Tryz.prog 179 0) ((x.1.1,(x.1.2.1,((IntKind.wrap .i64 (x.1.2.2.1+(1:Int))),()))),((((x.2.1.1.1.1,x.2.1.1.1.2),()),(((x.2.1.2.1.1.1,x.2.1.2.1.1.2),()),())),()))))
   (some (((((0:Int),(0:Int)),(0:Int)),(false,())),())):=by kernel_rfl
theorem XY(F:FT)(J:JT FZ)(x:((Int×(Int×Unit))×((List Int)×Unit))):bY 180 FZ Tryz.f180 F J x =
  (F 181 pY ((x.1.1,()),x.2)).bind fun (y1:((Int×Unit)×((List Int)×Unit))) =>
  (F 181 pY (x.1.2,y1.2)).bind fun (y2:((Int×Unit)×((List Int)×Unit))) =>
  cond ((decide ((0:Int)≤(max y1.1.1 y2.1.1:Int)))&&(decide ((max y1.1.1 y2.1.1:Int)<(((List.length y2.2.1):Nat):Int))))
   (((y2.2.1)[(Int.toNat (max y1.1.1 y2.1.1:Int))]?).bind fun (y3:Int) =>
   some ((),((List.set y2.2.1 (Int.toNat (max y1.1.1 y2.1.1:Int)) (min y1.1.1 y2.1.1:Int)),())))
   (none):=by kernel_rfl
theorem XZ(F:FT)(J:JT pY)(x:((Int×Unit)×((List Int)×Unit))):bY 181 pY Tryz.f181 F J x =
 J qO (aP Tryz.prog 181 0) (x.1,((),x.2)):=by kernel_rfl
theorem JO(F:FT)(J:JT pY)(x:((Int×Unit)×(Unit×((List Int)×Unit)))):fV 181 0 pY Tryz.f181 qO F J x =
  cond ((decide ((0:Int)≤x.1.1))&&(decide (x.1.1<(((List.length x.2.2.1):Nat):Int))))
   (((x.2.2.1)[(Int.toNat x.1.1)]?).bind fun (y1:Int) =>
   cond (y1 != x.1.1)
    (cond ((decide ((0:Int)≤x.1.1))&&(decide (x.1.1<(((List.length x.2.2.1):Nat):Int))))
     (((x.2.2.1)[(Int.toNat x.1.1)]?).bind fun (y2:Int) =>
     cond ((decide ((0:Int)≤y2))&&(decide (y2<(((List.length x.2.2.1):Nat):Int))))
      (((x.2.2.1)[(Int.toNat y2)]?).bind fun (y3:Int) =>
      cond ((decide ((0:Int)≤x.1.1))&&(decide (x.1.1<(((List.length x.2.2.1):Nat):Int))))
       (((x.2.2.1)[(Int.toNat x.1.1)]?).bind fun (y4:Int) =>
       cond ((decide ((0:Int)≤x.1.1))&&(decide (x.1.1<(((List.length (List.set x.2.2.1 (Int.toNat x.1.1) y3)):Nat):Int))))
        ((((List.set x.2.2.1 (Int.toNat x.1.1) y3))[(Int.toNat x.1.1)]?).bind fun (y5:Int) =>
        J qO (aP Tryz.prog 181 0) ((y5,()),((),((List.set x.2.2.1 (Int.toNat x.1.1) y3),()))))
        (none))
       (none))
      (none))
     (none))
    (some (x.1,x.2.2)))
   (none):=by kernel_rfl
theorem X0(F:FT)(J:JT F2)(x:(((List ab)×(ab×Unit))×Unit)):bY 182 F2 Tryz.f182 F J x =
 (F 157 zO ((x.1.1,((x.1.2.1.1,x.1.2.1.2),((1:Int),()))),())).bind fun (y1:((ab×(Bool×Unit))×Unit)) =>
 some (((y1.1.1.1,y1.1.1.2),y1.1.2),()):=by kernel_rfl
theorem Ot(F:FT)(J:JT iO)(x:(((List ah)×(ID×Unit))×Unit)):bY 127125 iO Tryz.f125 F J x =
 J g8 (aP Tryz.prog 125 0) ((x.1.1,((((List.length x.1.1):Nat):Int),((0:Int),((((List.length x.1.1):Nat):Int),())))),(((x.1.2.1,()),()),())):=by kernel_rfl
theorem Ak(F:FT)(J:JT iO)(x:(((List ah)×(Int×(Int×(Int×Unit))))×(((ID×Unit)×Unit)×Unit))):fV 127125 0 iO Tryz.f125 g8 F J x =
  cond (decide (x.1.2.2.1<x.1.2.2.2.1))
   (cond (decide ((1:Int)<(0:Int)))
    (none)
    (((aV x.1.1 (IntKind.wrap .i64 (ku .u64 (IntKind.wrap .u64 (IntKind.wrap .i64 (x.1.2.2.1+x.1.2.2.2.1))) (1:Int))))).bind fun (y1:ah) =>
    (F 126 Cv (((y1.1,(y1.2.1,y1.2.2)),(x.2.1.1.1,())),())).bind fun (y2:((Int×Unit)×Unit)) =>
    cond (decide (y2.1.1<(0:Int)))
     (J g8 (aP Tryz.prog 125 0) ((x.1.1,(x.1.2.1,((IntKind.wrap .i64 ((IntKind.wrap .i64 (ku .u64 (IntKind.wrap .u64 (IntKind.wrap .i64 (x.1.2.2.1+x.1.2.2.2.1))) (1:Int)))+(1:Int))),x.1.2.2.2))),(((x.2.1.1.1,()),()),())))
     (J g8 (aP Tryz.prog 125 0) ((x.1.1,(x.1.2.1,(x.1.2.2.1,((IntKind.wrap .i64 (ku .u64 (IntKind.wrap .u64 (IntKind.wrap .i64 (x.1.2.2.1+x.1.2.2.2.1))) (1:Int))),())))),(((x.2.1.1.1,()),()),())))))
   (cond (decide (x.1.2.2.1<x.1.2.1))
    (((aV x.1.1 x.1.2.2.1)).bind fun (y3:ah) =>
    (F 126 Cv (((y3.1,(y3.2.1,y3.2.2)),(x.2.1.1.1,())),())).bind fun (y4:((Int×Unit)×Unit)) =>
    some ((x.1.2.2.1,((y4.1.1==(0:Int)),())),()))
    (some ((x.1.2.2.1,(false,())),()))):=by kernel_rfl
theorem Ou(F:FT)(J:JT iP)(x:(((List af)×(ID×Unit))×Unit)):bY 139137 iP Tryz.f137 F J x =
 J g9 (aP Tryz.prog 137 0) ((x.1.1,((((List.length x.1.1):Nat):Int),((0:Int),((((List.length x.1.1):Nat):Int),())))),(((x.1.2.1,()),()),())):=by kernel_rfl
theorem Al(F:FT)(J:JT iP)(x:(((List af)×(Int×(Int×(Int×Unit))))×(((ID×Unit)×Unit)×Unit))):fV 139137 0 iP Tryz.f137 g9 F J x =
  cond (decide (x.1.2.2.1<x.1.2.2.2.1))
   (cond (decide ((1:Int)<(0:Int)))
    (none)
    (((aV x.1.1 (IntKind.wrap .i64 (ku .u64 (IntKind.wrap .u64 (IntKind.wrap .i64 (x.1.2.2.1+x.1.2.2.2.1))) (1:Int))))).bind fun (y1:af) =>
    (F 138 Cw (((y1.1,y1.2),(x.2.1.1.1,())),())).bind fun (y2:((Int×Unit)×Unit)) =>
    cond (decide (y2.1.1<(0:Int)))
     (J g9 (aP Tryz.prog 137 0) ((x.1.1,(x.1.2.1,((IntKind.wrap .i64 ((IntKind.wrap .i64 (ku .u64 (IntKind.wrap .u64 (IntKind.wrap .i64 (x.1.2.2.1+x.1.2.2.2.1))) (1:Int)))+(1:Int))),x.1.2.2.2))),(((x.2.1.1.1,()),()),())))
     (J g9 (aP Tryz.prog 137 0) ((x.1.1,(x.1.2.1,(x.1.2.2.1,((IntKind.wrap .i64 (ku .u64 (IntKind.wrap .u64 (IntKind.wrap .i64 (x.1.2.2.1+x.1.2.2.2.1))) (1:Int))),())))),(((x.2.1.1.1,()),()),())))))
   (cond (decide (x.1.2.2.1<x.1.2.1))
    (((aV x.1.1 x.1.2.2.1)).bind fun (y3:af) =>
    (F 138 Cw (((y3.1,y3.2),(x.2.1.1.1,())),())).bind fun (y4:((Int×Unit)×Unit)) =>
    some ((x.1.2.2.1,((y4.1.1==(0:Int)),())),()))
    (some ((x.1.2.2.1,(false,())),()))):=by kernel_rfl
theorem Ov(F:FT)(J:JT jX)(x:(((List ab)×Unit)×Unit)):bY 143141 jX Tryz.f141 F J x =
  cond (decide ((((List.length x.1.1):Nat):Int)<(1:Int)))
   (none)
   (((aV x.1.1 (0:Int))).bind fun (y1:ab) =>
   J ju (aP Tryz.prog 141 0) ((x.1.1,((1:Int),())),((((((0:Int),(0:Int)),(0:Int)),()),(((y1.1,y1.2),()),())),()))):=by kernel_rfl
theorem Am(F:FT)(J:JT jX)(x:(((List ab)×(Int×Unit))×(((ab×Unit)×((ab×Unit)×Unit))×Unit))):fV 143141 0 jX Tryz.f141 ju F J x =
  cond (decide (x.1.2.1<(((List.length x.1.1):Nat):Int)))
   (((aV x.1.1 x.1.2.1)).bind fun (y2:ab) =>
   (F 142 Cz (((y2.1,y2.2),((x.2.1.2.1.1.1,x.2.1.2.1.1.2),())),())).bind fun (y3:((Int×Unit)×Unit)) =>
   cond (decide (y3.1.1<(0:Int)))
    (((aV x.1.1 x.1.2.1)).bind fun (y4:ab) =>
    J ju (aP Tryz.prog 141 0) ((x.1.1,((IntKind.wrap .i64 (x.1.2.1+(1:Int))),())),((((x.2.1.1.1.1,x.2.1.1.1.2),()),(((y4.1,y4.2),()),())),())))
    (J ju (aP Tryz.prog 141 0) ((x.1.1,((IntKind.wrap .i64 (x.1.2.1+(1:Int))),())),((((x.2.1.1.1.1,x.2.1.1.1.2),()),(((x.2.1.2.1.1.1,x.2.1.2.1.1.2),()),())),()))))
   (some (((x.2.1.2.1.1.1,x.2.1.2.1.1.2),()),())):=by kernel_rfl
theorem Ow(F:FT)(J:JT jY)(x:(((List ah)×(ID×Unit))×Unit)):bY 151149 jY Tryz.f149 F J x =
 J ly (aP Tryz.prog 149 0) ((x.1.1,((((List.length x.1.1):Nat):Int),((0:Int),()))),(((x.1.2.1,()),(((0:Int),((0:Int),(([]:List ab),((⟨#[]⟩:ByteArray),((0:Int),()))))),())),())):=by kernel_rfl
theorem Ao(F:FT)(J:JT jY)(x:(((List ah)×(Int×(Int×Unit)))×(((ID×Unit)×((Int×(Int×((List ab)×(ByteArray×(Int×Unit)))))×Unit))×Unit))):fV 151149 0 jY Tryz.f149 ly F J x =
  cond (decide (x.1.2.2.1<x.1.2.1))
   (((aV x.1.1 x.1.2.2.1)).bind fun (y1:ah) =>
   (F 150 FQ (((y1.1,(y1.2.1,y1.2.2)),()),())).bind fun (y2:((ID×Unit)×Unit)) =>
   cond ((y2.1.1.1==x.2.1.1.1.1)&&(y2.1.1.2==x.2.1.1.1.2))
    (some (((y1.1,(y1.2.1,y1.2.2)),(true,())),()))
    (J ly (aP Tryz.prog 149 0) ((x.1.1,(x.1.2.1,((IntKind.wrap .i64 (x.1.2.2.1+(1:Int))),()))),(((x.2.1.1.1,()),((x.2.1.2.1.1,(x.2.1.2.1.2.1,(x.2.1.2.1.2.2.1,(x.2.1.2.1.2.2.2.1,x.2.1.2.1.2.2.2.2)))),())),()))))
   (some (((((0:Int),(0:Int)),(([]:List ab),((⟨#[]⟩:ByteArray),(0:Int)))),(false,())),())):=by kernel_rfl
theorem Ox(F:FT)(J:JT iQ)(x:(((List ak)×(ab×Unit))×Unit)):bY 156154 iQ Tryz.f154 F J x =
 J hM (aP Tryz.prog 154 0) ((x.1.1,((((List.length x.1.1):Nat):Int),((0:Int),((((List.length x.1.1):Nat):Int),())))),((((x.1.2.1.1,x.1.2.1.2),()),()),())):=by kernel_rfl
theorem Ap(F:FT)(J:JT iQ)(x:(((List ak)×(Int×(Int×(Int×Unit))))×(((ab×Unit)×Unit)×Unit))):fV 156154 0 iQ Tryz.f154 hM F J x =
  cond (decide (x.1.2.2.1<x.1.2.2.2.1))
   (cond (decide ((1:Int)<(0:Int)))
    (none)
    (((aV x.1.1 (IntKind.wrap .i64 (ku .u64 (IntKind.wrap .u64 (IntKind.wrap .i64 (x.1.2.2.1+x.1.2.2.2.1))) (1:Int))))).bind fun (y1:ak) =>
    (F 155 CA ((((y1.1.1,y1.1.2),(y1.2.1,y1.2.2)),((x.2.1.1.1.1,x.2.1.1.1.2),())),())).bind fun (y2:((Int×Unit)×Unit)) =>
    cond (decide (y2.1.1<(0:Int)))
     (J hM (aP Tryz.prog 154 0) ((x.1.1,(x.1.2.1,((IntKind.wrap .i64 ((IntKind.wrap .i64 (ku .u64 (IntKind.wrap .u64 (IntKind.wrap .i64 (x.1.2.2.1+x.1.2.2.2.1))) (1:Int)))+(1:Int))),x.1.2.2.2))),((((x.2.1.1.1.1,x.2.1.1.1.2),()),()),())))
     (J hM (aP Tryz.prog 154 0) ((x.1.1,(x.1.2.1,(x.1.2.2.1,((IntKind.wrap .i64 (ku .u64 (IntKind.wrap .u64 (IntKind.wrap .i64 (x.1.2.2.1+x.1.2.2.2.1))) (1:Int))),())))),((((x.2.1.1.1.1,x.2.1.1.1.2),()),()),())))))
   (cond (decide (x.1.2.2.1<x.1.2.1))
    (((aV x.1.1 x.1.2.2.1)).bind fun (y3:ak) =>
    (F 155 CA ((((y3.1.1,y3.1.2),(y3.2.1,y3.2.2)),((x.2.1.1.1.1,x.2.1.1.1.2),())),())).bind fun (y4:((Int×Unit)×Unit)) =>
    some ((x.1.2.2.1,((y4.1.1==(0:Int)),())),()))
    (some ((x.1.2.2.1,(false,())),()))):=by kernel_rfl
theorem Oy(F:FT)(J:JT iR)(x:(((List ak)×Unit)×((ab×Unit)×Unit))):bY 164162 iR Tryz.f162 F J x =
 J jv (aP Tryz.prog 162 0) ((x.1.1,((((List.length x.1.1):Nat):Int),((0:Int),()))),((((x.2.1.1.1,x.2.1.1.2),()),()),())):=by kernel_rfl
theorem Aq(F:FT)(J:JT iR)(x:(((List ak)×(Int×(Int×Unit)))×(((ab×Unit)×Unit)×Unit))):fV 164162 0 iR Tryz.f162 jv F J x =
  cond (decide (x.1.2.2.1<x.1.2.1))
   (((aV x.1.1 x.1.2.2.1)).bind fun (y1:ak) =>
   (F 163 FV ((((y1.1.1,y1.1.2),(y1.2.1,y1.2.2)),()),((x.2.1.1.1.1.1,(x.2.1.1.1.1.2,(x.2.1.1.1.2,()))),()))).bind fun (y2:((Bool×Unit)×((Int×(Int×(Int×Unit)))×Unit))) =>
   cond y2.1.1
    (some (x.1.2.2,((((y2.2.1.1,y2.2.1.2.1),y2.2.1.2.2.1),()),())))
    (J jv (aP Tryz.prog 162 0) ((x.1.1,(x.1.2.1,((IntKind.wrap .i64 (x.1.2.2.1+(1:Int))),()))),(((((y2.2.1.1,y2.2.1.2.1),y2.2.1.2.2.1),()),()),()))))
   (some (((-1:Int),()),(((x.2.1.1.1.1,x.2.1.1.1.2),()),()))):=by kernel_rfl
theorem Oz(F:FT)(J:JT jZ)(x:(((List ah)×Unit)×Unit)):bY 166164 jZ Tryz.f164 F J x =
 J jw (aP Tryz.prog 164 0) (((0:Int),(x.1.1,((((List.length x.1.1):Nat):Int),((0:Int),())))),((),())):=by kernel_rfl
theorem Ar(F:FT)(J:JT jZ)(x:((Int×((List ah)×(Int×(Int×Unit))))×(Unit×Unit))):fV 166164 0 jZ Tryz.f164 jw F J x =
  cond (decide (x.1.2.2.2.1<x.1.2.2.1))
   (((aV x.1.2.1 x.1.2.2.2.1)).bind fun (y1:ah) =>
   (F 165 FY (((y1.1,(y1.2.1,y1.2.2)),()),())).bind fun (y2:((Bool×Unit)×Unit)) =>
   cond y2.1.1
    (J jw (aP Tryz.prog 164 0) (((IntKind.wrap .i64 (x.1.1+(1:Int))),(x.1.2.1,(x.1.2.2.1,((IntKind.wrap .i64 (x.1.2.2.2.1+(1:Int))),())))),((),())))
    (J jw (aP Tryz.prog 164 0) ((x.1.1,(x.1.2.1,(x.1.2.2.1,((IntKind.wrap .i64 (x.1.2.2.2.1+(1:Int))),())))),((),()))))
   (some ((x.1.1,()),())):=by kernel_rfl
end Go.Vs
