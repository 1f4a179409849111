/- Normal forms of the program's functions, the third part. -/
import Derived.Test.YtpldhjjpeldkaaaGreatEngineD
import Derived.KernelRfl
set_option linter.unusedVariables false
set_option maxRecDepth 1000000
set_option maxHeartbeats 0
namespace Go.Vs
open Go.Proofs
theorem afM(F:FT)(J:JT HO)(x:aaS):cp 85 HO Tryz.f85 F J x =
 (F 31 HC ((x.1.1,()),())).bind fun(y1:(((List (List ab))×Unit)×Unit)) =>
 J xq (aY Tryz.prog 85 0) (((((List.length y1.1.1):Nat):Int),((0:Int),())),(((x.1.1,()),()),())):=by kernel_rfl
theorem QI(F:FT)(J:JT HO)(x:(aaT×(aaS×Unit))):ib 85 0 HO Tryz.f85 xq F J x =
  cond (decide (x.1.2.1<(((List.length x.2.1.1.1.1):Nat):Int)))
   (((br x.2.1.1.1.1 x.1.2.1)).bind fun(y2:ag) =>
   cond ((((List.length y2.2.1):Nat):Int)==(0:Int))
    (J xq (aY Tryz.prog 85 0) (((IntKind.wrap .i64 (x.1.1+(1:Int))),((IntKind.wrap .i64 (x.1.2.1+(1:Int))),())),(((x.2.1.1.1,()),()),())))
    (J xq (aY Tryz.prog 85 0) ((x.1.1,((IntKind.wrap .i64 (x.1.2.1+(1:Int))),())),(((x.2.1.1.1,()),()),()))))
   ((F 32 HD ((x.2.1.1.1,()),())).bind fun(y3:((Int×Unit)×Unit)) =>
   some (((((List.length x.2.1.1.1.1):Nat):Int),((((List.length x.2.1.1.1.2):Nat):Int),(x.1.1,y3.1))),())):=by kernel_rfl
theorem afN(F:FT)(J:JT rl)(x:acg):cp 86 rl Tryz.f86 F J x =
  cond (decide (x.1.1.1≥(1:Int)))
   (cond (decide (x.1.1.1≤(8:Int)))
    (cond (decide (x.1.1.2≥(1:Int)))
     (some (((decide (x.1.1.2≤(1048576:Int))),()),()))
     (some ((false,()),())))
    (some ((false,()),())))
   (some ((false,()),())):=by kernel_rfl
theorem afO(F:FT)(J:JT Dx)(x:((pS×Unit)×Unit)):cp 87 Dx Tryz.f87 F J x =
  (F 86 rl ((x.1.1.1,()),())).bind fun(y1:((Bool×Unit)×Unit)) =>
  cond y1.1.1
   (cond (((x.1.1.2.1.1==(0:Int))&&(x.1.1.2.1.2==(0:Int)))&&(x.1.1.2.2==(0:Int)))
    (some ((true,()),()))
    ((F 106 HU (((x.1.1.2.1,x.1.1.2.2),()),())).bind fun(y2:((Bool×Unit)×Unit)) =>
    some (y2.1,())))
   (some ((false,()),())):=by kernel_rfl
theorem afP(F:FT)(J:JT xi)(x:((ByteArray×Unit)×Unit)):cp 88 xi Tryz.f88 F J x =
 J xt (aY Tryz.prog 88 0) (x.1,((),((x.1.1,0),()))):=by kernel_rfl
theorem QJ(F:FT)(J:JT xi)(x:((ByteArray×Unit)×(Unit×((ByteArray×Nat)×Unit)))):ib 88 0 xi Tryz.f88 xt F J x =
  cond (decide (x.2.2.1.2<(ByteArray.size x.2.2.1.1)))
   (cond (decide ((oZ x.2.2.1.1 x.2.2.1.2)<(32:Int)))
    (some ((false,()),()))
    (cond (decide ((oZ x.2.2.1.1 x.2.2.1.2)>(126:Int)))
     (some ((false,()),()))
     (J xt (aY Tryz.prog 88 0) (x.1,((),((x.2.2.1.1,(x.2.2.1.2+(Aw x.2.2.1.1 x.2.2.1.2))),()))))))
   (some (((decide ((((ByteArray.size x.1.1):Nat):Int)≤(16:Int))),()),())):=by kernel_rfl
theorem afQ(F:FT)(J:JT HP)(x:(aaN×Unit)):cp 89 HP Tryz.f89 F J x =
  cond (decide (x.1.1≥(-1099511627776:Int)))
   (some (((decide (x.1.1≤(1099511627776:Int))),()),()))
   (some ((false,()),())):=by kernel_rfl
theorem afR(F:FT)(J:JT HQ)(x:((ag×Unit)×abJ)):cp 90 HQ Tryz.f90 F J x =
  (F 107 qq ((x.1.1.1,()),((x.2.1.1,(x.2.1.2.1,x.2.1.2.2)),()))).bind fun(y1:((Int×(Bool×Unit))×(aF×Unit))) =>
  cond y1.1.2.1
   (some (((12:Int),()),((y1.2.1.1,(y1.2.1.2.1,y1.2.1.2.2)),())))
   (cond (decide ((((List.length y1.2.1.1):Nat):Int)≥(24:Int)))
    (some (((3:Int),()),((y1.2.1.1,(y1.2.1.2.1,y1.2.1.2.2)),())))
    (cond (qN y1.2.1.1 y1.1.1 ((x.1.1.1,(x.1.1.2.1,x.1.1.2.2))::([]:List ag)))
     (some (((0:Int),()),(((gD y1.2.1.1 y1.1.1 ((x.1.1.1,(x.1.1.2.1,x.1.1.2.2))::([]:List ag))),(y1.2.1.2.1,y1.2.1.2.2)),())))
     (none))):=by kernel_rfl
theorem afS(F:FT)(J:JT P7)(x:acM):cp 91 P7 Tryz.f91 F J x =
  (F 107 qq ((x.1.1.2.1,()),((x.2.1.1,(x.2.1.2.1,x.2.1.2.2)),()))).bind fun(y1:((Int×(Bool×Unit))×(aF×Unit))) =>
  cond (not y1.1.2.1)
   (some (((13:Int),()),((y1.2.1.1,(y1.2.1.2.1,y1.2.1.2.2)),())))
   (cond ((decide ((0:Int)≤y1.1.1))&&(decide (y1.1.1<(((List.length y1.2.1.1):Nat):Int))))
    (((y1.2.1.1)[(Int.toNat y1.1.1)]?).bind fun(y2:ag) =>
    cond (decide ((((List.length y2.2.1):Nat):Int)>(0:Int)))
     (some (((14:Int),()),((y1.2.1.1,(y1.2.1.2.1,y1.2.1.2.2)),())))
     (cond (jU y1.2.1.1 y1.1.1 (IntKind.wrap .i64 (y1.1.1+(1:Int))))
      (some (((0:Int),()),(((dx y1.2.1.1 y1.1.1 (IntKind.wrap .i64 (y1.1.1+(1:Int)))),(y1.2.1.2.1,y1.2.1.2.2)),())))
      (none)))
    (none)):=by kernel_rfl
theorem Xg(F:FT)(J:JT oC)(x:acM):cp 92 oC Tryz.f92 F J x =
  cond (pT x.2.1.1 x.2.1.2.1)
   ((F 110 yR ((x.1.1.2.1,()),((x.2.1.1,(x.2.1.2.1,x.2.1.2.2)),()))).bind fun(y1:((Int×Unit)×(aF×Unit))) =>
   cond (y1.1.1 != (0:Int))
    (some (y1.1,((y1.2.1.1,(y1.2.1.2.1,y1.2.1.2.2)),())))
    ((F 111 BB ((x.1.1.2.1,()),())).bind fun(y2:((ab×(ab×Unit))×Unit)) =>
    J mA (aY Tryz.prog 92 0) (((((List.length ((x.1.1.2.2.2.2.1.1,(x.1.1.2.2.2.2.1.2.1,x.1.1.2.2.2.2.1.2.2))::((x.1.1.2.2.2.2.2.1.1,(x.1.1.2.2.2.2.2.1.2.1,x.1.1.2.2.2.2.2.1.2.2))::([]:List pS)))):Nat):Int),((0:Int),())),(((y1.2.1.1,(y1.2.1.2.1,y1.2.1.2.2)),((((x.2.1.1,x.2.1.2.1),x.2.1.2.2.1),()),(((y2.1.1.1,y2.1.1.2),()),()))),(((y2.1.1.1,y2.1.1.2)::((y2.1.2.1.1,y2.1.2.1.2)::([]:List ab))),(((x.1.1.2.2.2.2.1.1,(x.1.1.2.2.2.2.1.2.1,x.1.1.2.2.2.2.1.2.2))::((x.1.1.2.2.2.2.2.1.1,(x.1.1.2.2.2.2.2.1.2.1,x.1.1.2.2.2.2.2.1.2.2))::([]:List pS))),()))))))
   (none):=by kernel_rfl
theorem xx(F:FT)(J:JT oC)(x:(aaT×((aF×(ab7×abE))×((List ab)×((List pS)×Unit))))):ib 92 0 oC Tryz.f92 mA F J x =
  cond (decide (x.1.2.1<x.1.1))
   (cond ((decide ((0:Int)≤x.1.2.1))&&(decide (x.1.2.1<(((List.length x.2.2.2.1):Nat):Int))))
    (((x.2.2.2.1)[(Int.toNat x.1.2.1)]?).bind fun(y3:pS) =>
    (F 112 HV (((x.2.1.2.1.1.1,x.2.1.2.1.1.2),((y3.1,(y3.2.1,y3.2.2)),())),())).bind fun(y4:((pS×(Int×Unit))×Unit)) =>
    cond (y4.1.2.1 != (0:Int))
     (some (y4.1.2,((x.2.1.1.1,(x.2.1.1.2.1,x.2.1.1.2.2)),())))
     (cond (x.1.2.1==(1:Int))
      (cond (((y3.2.1.1==x.2.1.2.2.1.1.1.1)&&(y3.2.1.2==x.2.1.2.2.1.1.1.2))&&(y3.2.2==x.2.1.2.2.1.1.2))
       ((F 107 qq ((y3.1,()),((x.2.1.1.1,(x.2.1.1.2.1,x.2.1.1.2.2)),()))).bind fun(y5:((Int×(Bool×Unit))×(aF×Unit))) =>
       cond ((decide ((0:Int)≤y5.1.1))&&(decide (y5.1.1<(((List.length y5.2.1.1):Nat):Int))))
        (((y5.2.1.1)[(Int.toNat y5.1.1)]?).bind fun(y6:ag) =>
        cond ((decide ((0:Int)≤x.1.2.1))&&(decide (x.1.2.1<(((List.length x.2.2.1):Nat):Int))))
         (((x.2.2.1)[(Int.toNat x.1.2.1)]?).bind fun(y7:ab) =>
         (F 113 BC ((y6.2.1,((y3.2.1,y3.2.2),((y7.1,y7.2),()))),())).bind fun(y8:(((List ab)×Unit)×Unit)) =>
         ((y5.2.1.1)[(Int.toNat y5.1.1)]?).bind fun(y9:ag) =>
         J mA (aY Tryz.prog 92 0) ((x.1.1,((IntKind.wrap .i64 (x.1.2.1+(1:Int))),())),((((List.set y5.2.1.1 (Int.toNat y5.1.1) (y9.1,(y8.1.1,y9.2.2))),(y5.2.1.2.1,y5.2.1.2.2)),(((x.2.1.2.1.1.1,x.2.1.2.1.1.2),()),(((x.2.1.2.2.1.1.1,x.2.1.2.2.1.1.2),()),()))),(x.2.2.1,x.2.2.2))))
         (none))
        (none))
       ((F 107 qq ((y4.1.1.1,()),((x.2.1.1.1,(x.2.1.1.2.1,x.2.1.1.2.2)),()))).bind fun(pW:((Int×(Bool×Unit))×(aF×Unit))) =>
       cond ((decide ((0:Int)≤pW.1.1))&&(decide (pW.1.1<(((List.length pW.2.1.1):Nat):Int))))
        (((pW.2.1.1)[(Int.toNat pW.1.1)]?).bind fun(lF:ag) =>
        cond ((decide ((0:Int)≤x.1.2.1))&&(decide (x.1.2.1<(((List.length x.2.2.1):Nat):Int))))
         (((x.2.2.1)[(Int.toNat x.1.2.1)]?).bind fun(nk:ab) =>
         (F 113 BC ((lF.2.1,((y4.1.1.2.1,y4.1.1.2.2),((nk.1,nk.2),()))),())).bind fun(ln:(((List ab)×Unit)×Unit)) =>
         ((pW.2.1.1)[(Int.toNat pW.1.1)]?).bind fun(wF:ag) =>
         J mA (aY Tryz.prog 92 0) ((x.1.1,((IntKind.wrap .i64 (x.1.2.1+(1:Int))),())),((((List.set pW.2.1.1 (Int.toNat pW.1.1) (wF.1,(ln.1.1,wF.2.2))),(pW.2.1.2.1,pW.2.1.2.2)),(((x.2.1.2.1.1.1,x.2.1.2.1.1.2),()),(((x.2.1.2.2.1.1.1,x.2.1.2.2.1.1.2),()),()))),(x.2.2.1,x.2.2.2))))
         (none))
        (none)))
      ((F 107 qq ((y4.1.1.1,()),((x.2.1.1.1,(x.2.1.1.2.1,x.2.1.1.2.2)),()))).bind fun(qu:((Int×(Bool×Unit))×(aF×Unit))) =>
      cond ((decide ((0:Int)≤qu.1.1))&&(decide (qu.1.1<(((List.length qu.2.1.1):Nat):Int))))
       (((qu.2.1.1)[(Int.toNat qu.1.1)]?).bind fun(Lu:ag) =>
       cond ((decide ((0:Int)≤x.1.2.1))&&(decide (x.1.2.1<(((List.length x.2.2.1):Nat):Int))))
        (((x.2.2.1)[(Int.toNat x.1.2.1)]?).bind fun(Nw:ab) =>
        (F 113 BC ((Lu.2.1,((y4.1.1.2.1,y4.1.1.2.2),((Nw.1,Nw.2),()))),())).bind fun(VB:(((List ab)×Unit)×Unit)) =>
        ((qu.2.1.1)[(Int.toNat qu.1.1)]?).bind fun(SY:ag) =>
        J mA (aY Tryz.prog 92 0) ((x.1.1,((IntKind.wrap .i64 (x.1.2.1+(1:Int))),())),((((List.set qu.2.1.1 (Int.toNat qu.1.1) (SY.1,(VB.1.1,SY.2.2))),(qu.2.1.2.1,qu.2.1.2.2)),(((x.2.1.2.1.1.1,x.2.1.2.1.1.2),()),(((x.2.1.2.2.1.1.1,x.2.1.2.2.1.1.2),()),()))),(x.2.2.1,x.2.2.2))))
        (none))
       (none))))
    (none))
   ((F 114 BD (((x.2.1.1.1,x.2.1.1.2.1),()),())).bind fun(Dz:((Bool×Unit)×Unit)) =>
   cond (not Dz.1.1)
    (some (((15:Int),()),((x.2.1.1.1,(x.2.1.1.2.1,x.2.1.1.2.2)),())))
    (some (((0:Int),()),((x.2.1.1.1,(x.2.1.1.2.1,x.2.1.1.2.2)),())))):=by kernel_rfl
theorem ZL(F:FT)(J:JT BA)(x:acM):cp 93 BA Tryz.f93 F J x =
  (F 115 nj ((x.1.1.2.1,()),((x.2.1.1,(x.2.1.2.1,x.2.1.2.2)),()))).bind fun(y1:((Int×(Bool×Unit))×(aF×Unit))) =>
  cond (not y1.1.2.1)
   (some (((13:Int),()),((y1.2.1.1,(y1.2.1.2.1,y1.2.1.2.2)),())))
   ((F 111 BB ((x.1.1.2.1,()),())).bind fun(y2:((ab×(ab×Unit))×Unit)) =>
   J FC (aY Tryz.prog 93 0) ((y1.1.1,((((List.length ((y2.1.1.1,y2.1.1.2)::((y2.1.2.1.1,y2.1.2.1.2)::([]:List ab)))):Nat):Int),((0:Int),()))),(((y1.2.1.1,(y1.2.1.2.1,y1.2.1.2.2)),(((y2.1.1.1,y2.1.1.2),()),(((y2.1.2.1.1,y2.1.2.1.2),()),()))),(((y2.1.1.1,y2.1.1.2)::((y2.1.2.1.1,y2.1.2.1.2)::([]:List ab))),())))):=by kernel_rfl
theorem Kg(F:FT)(J:JT BA)(x:((Int×aaT)×((aF×acb)×abC))):ib 93 0 BA Tryz.f93 FC F J x =
  cond (decide (x.1.2.2.1<x.1.2.1))
   (cond ((decide ((0:Int)≤x.1.2.2.1))&&(decide (x.1.2.2.1<(((List.length x.2.2.1):Nat):Int))))
    (((x.2.2.1)[(Int.toNat x.1.2.2.1)]?).bind fun(y3:ab) =>
    (F 117 BF (((y3.1,y3.2),()),((x.2.1.1.1,(x.2.1.1.2.1,x.2.1.1.2.2)),()))).bind fun(y4:((ab×Unit)×(aF×Unit))) =>
    (F 116 BE (((y3.1,y3.2),((y4.1.1.1,y4.1.1.2),())),((y4.2.1.1,(y4.2.1.2.1,y4.2.1.2.2)),()))).bind fun(y5:(Unit×(aF×Unit))) =>
    J FC (aY Tryz.prog 93 0) ((x.1.1,(x.1.2.1,((IntKind.wrap .i64 (x.1.2.2.1+(1:Int))),()))),(((y5.2.1.1,(y5.2.1.2.1,y5.2.1.2.2)),(((x.2.1.2.1.1.1,x.2.1.2.1.1.2),()),(((x.2.1.2.2.1.1.1,x.2.1.2.2.1.1.2),()),()))),x.2.2)))
    (none))
   (J xu (aY Tryz.prog 93 1) ((x.1.1,((((List.length ((x.2.1.2.1.1.1,x.2.1.2.1.1.2)::((x.2.1.2.2.1.1.1,x.2.1.2.2.1.1.2)::([]:List ab)))):Nat):Int),((0:Int),()))),(((x.2.1.1.1,(x.2.1.1.2.1,x.2.1.1.2.2)),()),(((x.2.1.2.1.1.1,x.2.1.2.1.1.2)::((x.2.1.2.2.1.1.1,x.2.1.2.2.1.1.2)::([]:List ab))),())))):=by kernel_rfl
theorem Kh(F:FT)(J:JT BA)(x:((Int×aaT)×(abJ×abC))):ib 93 1 BA Tryz.f93 xu F J x =
  cond (decide (x.1.2.2.1<x.1.2.1))
   (cond ((decide ((0:Int)≤x.1.2.2.1))&&(decide (x.1.2.2.1<(((List.length x.2.2.1):Nat):Int))))
    (((x.2.2.1)[(Int.toNat x.1.2.2.1)]?).bind fun(y6:ab) =>
    (F 118 mw (((y6.1,y6.2),()),((x.2.1.1.1,(x.2.1.1.2.1,x.2.1.1.2.2)),()))).bind fun(y7:(((Option ((Fin 1)×Nat))×Unit)×(aF×Unit))) =>
    qM y7.1.1
     (none) fun(p8:((Fin 1)×Nat)) =>
    cond (p8.1.val==0)
     (((y7.2.1.1)[p8.2]?).bind fun(y9:ag) =>
     (F 119 HW ((y9.2.1,((y6.1,y6.2),())),())).bind fun(pW:(((List ab)×Unit)×Unit)) =>
     ((y7.2.1.1)[p8.2]?).bind fun(lF:ag) =>
     J xu (aY Tryz.prog 93 1) ((x.1.1,(x.1.2.1,((IntKind.wrap .i64 (x.1.2.2.1+(1:Int))),()))),((((List.set y7.2.1.1 p8.2 (lF.1,(pW.1.1,lF.2.2))),(y7.2.1.2.1,y7.2.1.2.2)),()),x.2.2)))
     (none))
    (none))
   (cond (jU x.2.1.1.2.1 x.1.1 (IntKind.wrap .i64 (x.1.1+(1:Int))))
    (some (((0:Int),()),((x.2.1.1.1,((dx x.2.1.1.2.1 x.1.1 (IntKind.wrap .i64 (x.1.1+(1:Int)))),x.2.1.1.2.2)),())))
    (none)):=by kernel_rfl
theorem TV(F:FT)(J:JT zz)(x:acM):cp 94 zz Tryz.f94 F J x =
  (F 115 nj ((x.1.1.2.1,()),((x.2.1.1,(x.2.1.2.1,x.2.1.2.2)),()))).bind fun(y1:((Int×(Bool×Unit))×(aF×Unit))) =>
  (F 107 qq ((x.1.1.2.2.1,()),((y1.2.1.1,(y1.2.1.2.1,y1.2.1.2.2)),()))).bind fun(y2:((Int×(Bool×Unit))×(aF×Unit))) =>
  (F 115 nj ((x.1.1.2.2.2.1,()),((y2.2.1.1,(y2.2.1.2.1,y2.2.1.2.2)),()))).bind fun(y3:((Int×(Bool×Unit))×(aF×Unit))) =>
  cond (not y1.1.2.1)
   (some (((13:Int),()),((y3.2.1.1,(y3.2.1.2.1,y3.2.1.2.2)),())))
   (cond y2.1.2.1
    (some (((12:Int),()),((y3.2.1.1,(y3.2.1.2.1,y3.2.1.2.2)),())))
    (cond y3.1.2.1
     (some (((12:Int),()),((y3.2.1.1,(y3.2.1.2.1,y3.2.1.2.2)),())))
     (cond (decide ((1:Int)<(0:Int)))
      (none)
      ((F 118 mw (((x.1.1.2.1,(fz .xor .i64 (1:Int) (fz .and .i64 x.1.1.2.2.2.2.2.2.2.2 (1:Int)))),()),((y3.2.1.1,(y3.2.1.2.1,y3.2.1.2.2)),()))).bind fun(y4:(((Option ((Fin 1)×Nat))×Unit)×(aF×Unit))) =>
      qM y4.1.1
       (none) fun(p5:((Fin 1)×Nat)) =>
      cond (p5.1.val==0)
       (((y4.2.1.1)[p5.2]?).bind fun(y6:ag) =>
       (F 122 oD (((x.1.1.2.2.2.1,(lB .i64 x.1.1.2.2.2.2.2.2.2.2 (1:Int))),()),())).bind fun(y7:((ab×Unit)×Unit)) =>
       (F 121 tJ ((y6.2.1,((x.1.1.2.1,(fz .xor .i64 (1:Int) (fz .and .i64 x.1.1.2.2.2.2.2.2.2.2 (1:Int)))),((y7.1.1.1,y7.1.1.2),()))),())).bind fun(y8:(((List ab)×Unit)×Unit)) =>
       ((y4.2.1.1)[p5.2]?).bind fun(y9:ag) =>
       (F 123 rp ((((x.1.1.2.1,(fz .xor .i64 (1:Int) (fz .and .i64 x.1.1.2.2.2.2.2.2.2.2 (1:Int))))::((x.1.1.2.2.2.1,(lB .i64 x.1.1.2.2.2.2.2.2.2.2 (1:Int)))::([]:List ab))),()),())).bind fun(pW:(((List ab)×Unit)×Unit)) =>
       (F 90 HQ (((x.1.1.2.2.1,(pW.1.1,((⟨#[]⟩:ByteArray),(0:Int)))),()),(((List.set y4.2.1.1 p5.2 (y9.1,(y8.1.1,y9.2.2))),(y4.2.1.2.1,y4.2.1.2.2)),()))).bind fun(lF:((Int×Unit)×(aF×Unit))) =>
       cond (lF.1.1 != (0:Int))
        (some (lF.1,((lF.2.1.1,(lF.2.1.2.1,lF.2.1.2.2)),())))
        ((F 110 yR ((x.1.1.2.2.2.1,()),((lF.2.1.1,(lF.2.1.2.1,lF.2.1.2.2)),()))).bind fun(nk:((Int×Unit)×(aF×Unit))) =>
        some (nk.1,((nk.2.1.1,(nk.2.1.2.1,nk.2.1.2.2)),()))))
       (none))))):=by kernel_rfl
theorem ZM(F:FT)(J:JT rm)(x:acM):cp 95 rm Tryz.f95 F J x =
  (F 107 qq ((x.1.1.2.1,()),((x.2.1.1,(x.2.1.2.1,x.2.1.2.2)),()))).bind fun(y1:((Int×(Bool×Unit))×(aF×Unit))) =>
  cond (not y1.1.2.1)
   (some (((13:Int),()),((y1.2.1.1,(y1.2.1.2.1,y1.2.1.2.2)),())))
   (cond ((decide ((0:Int)≤y1.1.1))&&(decide (y1.1.1<(((List.length y1.2.1.1):Nat):Int))))
    (((y1.2.1.1)[(Int.toNat y1.1.1)]?).bind fun(y2:ag) =>
    cond ((((List.length y2.2.1):Nat):Int) != (2:Int))
     (some (((14:Int),()),((y1.2.1.1,(y1.2.1.2.1,y1.2.1.2.2)),())))
     (((br y2.2.1 (0:Int))).bind fun(y3:ab) =>
     ((br y2.2.1 (1:Int))).bind fun(y4:ab) =>
     cond ((y3.1.1==y4.1.1)&&(y3.1.2==y4.1.2))
      (some (((14:Int),()),((y1.2.1.1,(y1.2.1.2.1,y1.2.1.2.2)),())))
      (((br y2.2.1 (0:Int))).bind fun(y5:ab) =>
      ((br y2.2.1 (1:Int))).bind fun(y6:ab) =>
      cond ((y5.1.1==x.1.1.2.2.2.1.1)&&(y5.1.2==x.1.1.2.2.2.1.2))
       (cond (not ((y5.1.1==x.1.1.2.2.2.1.1)&&(y5.1.2==x.1.1.2.2.2.1.2)))
        (some (((14:Int),()),((y1.2.1.1,(y1.2.1.2.1,y1.2.1.2.2)),())))
        ((F 122 oD (((y5.1,y5.2),()),())).bind fun(y7:((ab×Unit)×Unit)) =>
        cond (jU y1.2.1.1 y1.1.1 (IntKind.wrap .i64 (y1.1.1+(1:Int))))
         ((F 118 mw (((y7.1.1.1,y7.1.1.2),()),(((dx y1.2.1.1 y1.1.1 (IntKind.wrap .i64 (y1.1.1+(1:Int)))),(y1.2.1.2.1,y1.2.1.2.2)),()))).bind fun(y8:(((Option ((Fin 1)×Nat))×Unit)×(aF×Unit))) =>
         qM y8.1.1
          (none) fun(p9:((Fin 1)×Nat)) =>
         cond (p9.1.val==0)
          (((y8.2.1.1)[p9.2]?).bind fun(pW:ag) =>
          (F 121 tJ ((pW.2.1,((y7.1.1.1,y7.1.1.2),((y6.1,y6.2),()))),())).bind fun(lF:(((List ab)×Unit)×Unit)) =>
          ((y8.2.1.1)[p9.2]?).bind fun(nk:ag) =>
          (F 115 nj ((y5.1,()),(((List.set y8.2.1.1 p9.2 (nk.1,(lF.1.1,nk.2.2))),(y8.2.1.2.1,y8.2.1.2.2)),()))).bind fun(ln:((Int×(Bool×Unit))×(aF×Unit))) =>
          cond (jU ln.2.1.2.1 ln.1.1 (IntKind.wrap .i64 (ln.1.1+(1:Int))))
           (J nO (aY Tryz.prog 95 0) (((0:Int),()),(((ln.2.1.1,((dx ln.2.1.2.1 ln.1.1 (IntKind.wrap .i64 (ln.1.1+(1:Int)))),ln.2.1.2.2)),(((y6.1,y6.2),()),(((y5.1,y5.2),()),(((y7.1.1.1,y7.1.1.2),()),())))),())))
           (none))
          (none))
         (none)))
       (cond (not ((y6.1.1==x.1.1.2.2.2.1.1)&&(y6.1.2==x.1.1.2.2.2.1.2)))
        (some (((14:Int),()),((y1.2.1.1,(y1.2.1.2.1,y1.2.1.2.2)),())))
        ((F 122 oD (((y6.1,y6.2),()),())).bind fun(wF:((ab×Unit)×Unit)) =>
        cond (jU y1.2.1.1 y1.1.1 (IntKind.wrap .i64 (y1.1.1+(1:Int))))
         ((F 118 mw (((wF.1.1.1,wF.1.1.2),()),(((dx y1.2.1.1 y1.1.1 (IntKind.wrap .i64 (y1.1.1+(1:Int)))),(y1.2.1.2.1,y1.2.1.2.2)),()))).bind fun(qu:(((Option ((Fin 1)×Nat))×Unit)×(aF×Unit))) =>
         qM qu.1.1
          (none) fun(p16:((Fin 1)×Nat)) =>
         cond (p16.1.val==0)
          (((qu.2.1.1)[p16.2]?).bind fun(Nw:ag) =>
          (F 121 tJ ((Nw.2.1,((wF.1.1.1,wF.1.1.2),((y5.1,y5.2),()))),())).bind fun(VB:(((List ab)×Unit)×Unit)) =>
          ((qu.2.1.1)[p16.2]?).bind fun(SY:ag) =>
          (F 115 nj ((y6.1,()),(((List.set qu.2.1.1 p16.2 (SY.1,(VB.1.1,SY.2.2))),(qu.2.1.2.1,qu.2.1.2.2)),()))).bind fun(Dz:((Int×(Bool×Unit))×(aF×Unit))) =>
          cond (jU Dz.2.1.2.1 Dz.1.1 (IntKind.wrap .i64 (Dz.1.1+(1:Int))))
           (J nO (aY Tryz.prog 95 0) (((0:Int),()),(((Dz.2.1.1,((dx Dz.2.1.2.1 Dz.1.1 (IntKind.wrap .i64 (Dz.1.1+(1:Int)))),Dz.2.1.2.2)),(((y5.1,y5.2),()),(((y6.1,y6.2),()),(((wF.1.1.1,wF.1.1.2),()),())))),())))
           (none))
          (none))
         (none))))))
    (none)):=by kernel_rfl
theorem xy(F:FT)(J:JT rm)(x:(aaN×((aF×(aaO×acb))×Unit))):ib 95 0 rm Tryz.f95 nO F J x =
  cond (decide (x.1.1<(2:Int)))
   (cond (x.2.1.2.2.1.1.2==x.1.1)
    ((F 116 BE (((x.2.1.2.2.1.1.1,x.2.1.2.2.1.1.2),((((0:Int),(0:Int)),(0:Int)),())),((x.2.1.1.1,(x.2.1.1.2.1,x.2.1.1.2.2)),()))).bind fun(TU:(Unit×(aF×Unit))) =>
    J nO (aY Tryz.prog 95 0) (((IntKind.wrap .i64 (x.1.1+(1:Int))),()),(((TU.2.1.1,(TU.2.1.2.1,TU.2.1.2.2)),(((x.2.1.2.1.1.1,x.2.1.2.1.1.2),()),(((x.2.1.2.2.1.1.1,x.2.1.2.2.1.1.2),()),(((x.2.1.2.2.2.1.1.1,x.2.1.2.2.2.1.1.2),()),())))),())))
    ((F 116 BE (((x.2.1.2.2.2.1.1.1,x.2.1.2.2.2.1.1.2),((x.2.1.2.1.1.1,x.2.1.2.1.1.2),())),((x.2.1.1.1,(x.2.1.1.2.1,x.2.1.1.2.2)),()))).bind fun(VC:(Unit×(aF×Unit))) =>
    J nO (aY Tryz.prog 95 0) (((IntKind.wrap .i64 (x.1.1+(1:Int))),()),(((VC.2.1.1,(VC.2.1.2.1,VC.2.1.2.2)),(((x.2.1.2.1.1.1,x.2.1.2.1.1.2),()),(((x.2.1.2.2.1.1.1,x.2.1.2.2.1.1.2),()),(((x.2.1.2.2.2.1.1.1,x.2.1.2.2.2.1.1.2),()),())))),()))))
   (some (((0:Int),()),((x.2.1.1.1,(x.2.1.1.2.1,x.2.1.1.2.2)),()))):=by kernel_rfl
theorem afT(F:FT)(J:JT P8)(x:acM):cp 96 P8 Tryz.f96 F J x =
  (F 124 HX (((x.1.1.1,(x.1.1.2.1,(x.1.1.2.2.1,(x.1.1.2.2.2.1,((x.1.1.2.2.2.2.1.1,(x.1.1.2.2.2.2.1.2.1,x.1.1.2.2.2.2.1.2.2)),((x.1.1.2.2.2.2.2.1.1,(x.1.1.2.2.2.2.2.1.2.1,x.1.1.2.2.2.2.2.1.2.2)),(x.1.1.2.2.2.2.2.2.1,x.1.1.2.2.2.2.2.2.2))))))),()),((x.2.1.1,(x.2.1.2.1,x.2.1.2.2)),()))).bind fun(y1:(((Option ((Fin 2)×Nat))×((Option ((Fin 2)×Nat))×Unit))×(aF×Unit))) =>
  qM y1.1.1
   (qM y1.1.2.1
    (some (((13:Int),()),((y1.2.1.1,(y1.2.1.2.1,y1.2.1.2.2)),()))) fun(p2:((Fin 2)×Nat)) =>
   cond (p2.1.val==0)
    (some (((13:Int),()),((y1.2.1.1,(y1.2.1.2.1,y1.2.1.2.2)),())))
    (cond (p2.1.val==1)
    (some (((13:Int),()),((y1.2.1.1,(y1.2.1.2.1,y1.2.1.2.2)),())))
    (none))) fun(p3:((Fin 2)×Nat)) =>
  cond (p3.1.val==0)
   (qM y1.1.2.1
    (cond (x.1.1.1==(7:Int))
     (((y1.2.1.1)[p3.2]?).bind fun(pW:ag) =>
     some (((0:Int),()),(((List.set y1.2.1.1 p3.2 (pW.1,(pW.2.1,(x.1.1.2.2.2.2.2.2.2.1,pW.2.2.2)))),(y1.2.1.2.1,y1.2.1.2.2)),())))
     (none)) fun(YE:((Fin 2)×Nat)) =>
   cond (YE.1.val==0)
    (cond (x.1.1.1==(7:Int))
     (((y1.2.1.1)[p3.2]?).bind fun(wF:ag) =>
     some (((0:Int),()),(((List.set y1.2.1.1 p3.2 (wF.1,(wF.2.1,(x.1.1.2.2.2.2.2.2.2.1,wF.2.2.2)))),(y1.2.1.2.1,y1.2.1.2.2)),())))
     (((y1.2.1.1)[YE.2]?).bind fun(qu:ag) =>
     some (((0:Int),()),(((List.set y1.2.1.1 YE.2 (qu.1,(qu.2.1,(qu.2.2.1,x.1.1.2.2.2.2.2.2.2.2)))),(y1.2.1.2.1,y1.2.1.2.2)),()))))
    (cond (YE.1.val==1)
    (cond (x.1.1.1==(7:Int))
     (((y1.2.1.1)[p3.2]?).bind fun(nk:ag) =>
     some (((0:Int),()),(((List.set y1.2.1.1 p3.2 (nk.1,(nk.2.1,(x.1.1.2.2.2.2.2.2.2.1,nk.2.2.2)))),(y1.2.1.2.1,y1.2.1.2.2)),())))
     (((y1.2.1.2.1)[YE.2]?).bind fun(ln:ah) =>
     some (((0:Int),()),((y1.2.1.1,((List.set y1.2.1.2.1 YE.2 (ln.1,(ln.2.1,x.1.1.2.2.2.2.2.2.2.2))),y1.2.1.2.2)),()))))
    (none)))
   (cond (p3.1.val==1)
   (qM y1.1.2.1
    (cond (x.1.1.1==(7:Int))
     (((y1.2.1.2.1)[p3.2]?).bind fun(y4:ah) =>
     some (((0:Int),()),((y1.2.1.1,((List.set y1.2.1.2.1 p3.2 (y4.1,(x.1.1.2.2.2.2.2.2.2.1,y4.2.2))),y1.2.1.2.2)),())))
     (none)) fun(p5:((Fin 2)×Nat)) =>
   cond (p5.1.val==0)
    (cond (x.1.1.1==(7:Int))
     (((y1.2.1.2.1)[p3.2]?).bind fun(y8:ah) =>
     some (((0:Int),()),((y1.2.1.1,((List.set y1.2.1.2.1 p3.2 (y8.1,(x.1.1.2.2.2.2.2.2.2.1,y8.2.2))),y1.2.1.2.2)),())))
     (((y1.2.1.1)[p5.2]?).bind fun(y9:ag) =>
     some (((0:Int),()),(((List.set y1.2.1.1 p5.2 (y9.1,(y9.2.1,(y9.2.2.1,x.1.1.2.2.2.2.2.2.2.2)))),(y1.2.1.2.1,y1.2.1.2.2)),()))))
    (cond (p5.1.val==1)
    (cond (x.1.1.1==(7:Int))
     (((y1.2.1.2.1)[p3.2]?).bind fun(y6:ah) =>
     some (((0:Int),()),((y1.2.1.1,((List.set y1.2.1.2.1 p3.2 (y6.1,(x.1.1.2.2.2.2.2.2.2.1,y6.2.2))),y1.2.1.2.2)),())))
     (((y1.2.1.2.1)[p5.2]?).bind fun(y7:ah) =>
     some (((0:Int),()),((y1.2.1.1,((List.set y1.2.1.2.1 p5.2 (y7.1,(y7.2.1,x.1.1.2.2.2.2.2.2.2.2))),y1.2.1.2.2)),()))))
    (none)))
   (none)):=by kernel_rfl
theorem afU(F:FT)(J:JT P9)(x:abE):cp 97 P9 Tryz.f97 F J x =
  (F 19 By ((x.1.1.1,()),())).bind fun(y1:((Bool×Unit)×Unit)) =>
  cond y1.1.1
   (cond (x.1.1.2==(0:Int))
    (some ((true,()),()))
    (some (((x.1.1.2==(1:Int)),()),())))
   (some ((false,()),())):=by kernel_rfl
theorem afV(F:FT)(J:JT HR)(x:((StateT×aaO)×Unit)):cp 98 HR Tryz.f98 F J x =
 J B5 (aY Tryz.prog 98 0) (((0:Int),()),((((x.1.1.1,x.1.1.2),()),(((x.1.2.1.1,x.1.2.1.2),()),(((((0:Int),(0:Int)),(0:Int)),()),()))),())):=by kernel_rfl
theorem QK(F:FT)(J:JT HR)(x:(aaN×((ab7×acb)×Unit))):ib 98 0 HR Tryz.f98 B5 F J x =
  cond (decide (x.1.1≤(((List.length x.2.1.1.1.2):Nat):Int)))
   ((F 20 rj ((x.2.1.1.1.1,((x.2.1.2.1.1.1,x.2.1.2.1.1.2),())),())).bind fun(y1:((ID×(Bool×Unit))×Unit)) =>
   cond y1.1.2.1
    (some (((x.2.1.2.1.1.1,x.2.1.2.1.1.2),()),()))
    ((F 101 tI ((x.2.1.1.1.2,((x.2.1.2.1.1.1,x.2.1.2.1.1.2),())),())).bind fun(y2:((ab×(Bool×Unit))×Unit)) =>
    cond (not y2.1.2.1)
     (some (((((0:Int),(0:Int)),(0:Int)),()),()))
     (J B5 (aY Tryz.prog 98 0) (((IntKind.wrap .i64 (x.1.1+(1:Int))),()),((((x.2.1.1.1.1,x.2.1.1.1.2),()),(((y2.1.1.1,y2.1.1.2),()),(((x.2.1.2.2.1.1.1,x.2.1.2.2.1.1.2),()),()))),())))))
   (some (((((0:Int),(0:Int)),(0:Int)),()),())):=by kernel_rfl
theorem afW(F:FT)(J:JT Dy)(x:((ai×(ID×abC))×Unit)):cp 99 Dy Tryz.f99 F J x =
 (F 38 Du ((x.1.1,()),())).bind fun(y1:((((List ag)×((List ah)×Unit))×Unit)×Unit)) =>
 J xw (aY Tryz.prog 99 0) ((x.1.2.2.1,((0:Int),())),(((x.1.2.1,()),((([]:List ag),(([]:List ah),())),((y1.1.1.1,y1.1.1.2),()))),())):=by kernel_rfl
theorem QL(F:FT)(J:JT Dy)(x:(acL×((aaU×ab6)×Unit))):ib 99 0 Dy Tryz.f99 xw F J x =
  cond (decide (x.1.2.1<(((List.length x.2.1.2.2.1.1):Nat):Int)))
   (cond ((decide ((0:Int)≤x.1.2.1))&&(decide (x.1.2.1<(((List.length x.2.1.2.2.1.1):Nat):Int))))
    (((x.2.1.2.2.1.1)[(Int.toNat x.1.2.1)]?).bind fun(y2:ag) =>
    cond ((y2.1.1==x.2.1.1.1.1)&&(y2.1.2==x.2.1.1.1.2))
     (cond ((decide ((0:Int)≤x.1.2.1))&&(decide (x.1.2.1<(((List.length x.2.1.2.2.1.1):Nat):Int))))
      (((x.2.1.2.2.1.1)[(Int.toNat x.1.2.1)]?).bind fun(y3:ag) =>
      J xw (aY Tryz.prog 99 0) ((x.1.1,((IntKind.wrap .i64 (x.1.2.1+(1:Int))),())),(((x.2.1.1.1,()),((x.2.1.2.1.1,x.2.1.2.1.2),(((List.set x.2.1.2.2.1.1 (Int.toNat x.1.2.1) (y3.1,(x.1.1,y3.2.2))),x.2.1.2.2.1.2),()))),())))
      (none))
     (J xw (aY Tryz.prog 99 0) ((x.1.1,((IntKind.wrap .i64 (x.1.2.1+(1:Int))),())),(((x.2.1.1.1,()),((x.2.1.2.1.1,x.2.1.2.1.2),((x.2.1.2.2.1.1,x.2.1.2.2.1.2),()))),()))))
    (none))
   (some (((x.2.1.2.2.1.1,x.2.1.2.2.1.2.1),()),())):=by kernel_rfl
theorem ZN(F:FT)(J:JT yP)(x:ab9):cp 100 yP Tryz.f100 F J x =
  (F 24 qB ((x.1.1,((x.1.2.2.1.1,x.1.2.2.1.2),())),())).bind fun(y1:((Int×Unit)×Unit)) =>
  cond (decide (y1.1.1≥(0:Int)))
   ((F 77 qC ((x.1.1,()),())).bind fun(y2:(((List ab)×Unit)×Unit)) =>
   some (y2.1,()))
   ((F 24 qB ((x.1.1,((x.1.2.1.1,x.1.2.1.2),())),())).bind fun(y3:((Int×Unit)×Unit)) =>
   J sG (aY Tryz.prog 100 0) ((x.1.1,((max (0:Int) y3.1.1:Int),((0:Int),()))),((((x.1.2.2.1.1,x.1.2.2.1.2),()),()),(([]:List ab),())))):=by kernel_rfl
theorem Lv(F:FT)(J:JT yP)(x:(acN×(abE×abC))):ib 100 0 yP Tryz.f100 sG F J x =
  cond (decide (x.1.2.2.1<(((List.length x.1.1):Nat):Int)))
   (((br x.1.1 x.1.2.2.1)).bind fun(y4:ab) =>
   cond (aP (List.length x.2.2.1) (List.length ((y4.1,y4.2)::([]:List ab))))
    (cond (x.1.2.2.1==x.1.2.1)
     (cond (aP (List.length (x.2.2.1++((y4.1,y4.2)::([]:List ab)))) (List.length ((x.2.1.1.1.1,x.2.1.1.1.2)::([]:List ab))))
      (J sG (aY Tryz.prog 100 0) ((x.1.1,(x.1.2.1,((IntKind.wrap .i64 (x.1.2.2.1+(1:Int))),()))),((((x.2.1.1.1.1,x.2.1.1.1.2),()),()),(((x.2.2.1++((y4.1,y4.2)::([]:List ab)))++((x.2.1.1.1.1,x.2.1.1.1.2)::([]:List ab))),()))))
      (none))
     (J sG (aY Tryz.prog 100 0) ((x.1.1,(x.1.2.1,((IntKind.wrap .i64 (x.1.2.2.1+(1:Int))),()))),((((x.2.1.1.1.1,x.2.1.1.1.2),()),()),((x.2.2.1++((y4.1,y4.2)::([]:List ab))),())))))
    (none))
   (cond ((((List.length x.1.1):Nat):Int)==(0:Int))
    (cond (aP (List.length x.2.2.1) (List.length ((x.2.1.1.1.1,x.2.1.1.1.2)::([]:List ab))))
     ((F 77 qC (((x.2.2.1++((x.2.1.1.1.1,x.2.1.1.1.2)::([]:List ab))),()),())).bind fun(y5:(((List ab)×Unit)×Unit)) =>
     some (y5.1,()))
     (none))
    ((F 77 qC (x.2.2,())).bind fun(y6:(((List ab)×Unit)×Unit)) =>
    some (y6.1,()))):=by kernel_rfl
theorem ZO(F:FT)(J:JT tI)(x:(((List aq)×aaO)×Unit)):cp 101 tI Tryz.f101 F J x =
 J vL (aY Tryz.prog 101 0) ((x.1.1,((0:Int),())),((((x.1.2.1.1,x.1.2.1.2),()),(((((0:Int),(0:Int)),(0:Int)),()),())),())):=by kernel_rfl
theorem Lw(F:FT)(J:JT tI)(x:(((List aq)×aaN)×(acb×Unit))):ib 101 0 tI Tryz.f101 vL F J x =
  cond (decide (x.1.2.1<(((List.length x.1.1):Nat):Int)))
   (((br x.1.1 x.1.2.1)).bind fun(y1:aq) =>
   cond (((y1.1.1.1==x.2.1.1.1.1.1)&&(y1.1.1.2==x.2.1.1.1.1.2))&&(y1.1.2==x.2.1.1.1.2))
    (((br x.1.1 x.1.2.1)).bind fun(y2:aq) =>
    some (((y2.2.1,y2.2.2),(true,())),()))
    (J vL (aY Tryz.prog 101 0) ((x.1.1,((IntKind.wrap .i64 (x.1.2.1+(1:Int))),())),((((x.2.1.1.1.1,x.2.1.1.1.2),()),(((x.2.1.2.1.1.1,x.2.1.2.1.1.2),()),())),()))))
   (some (((((0:Int),(0:Int)),(0:Int)),(false,())),())):=by kernel_rfl
theorem ZP(F:FT)(J:JT yQ)(x:abH):cp 102 yQ Tryz.f102 F J x =
 J sH (aY Tryz.prog 102 0) ((x.1.1,((0:Int),())),((((x.1.2.1.1,x.1.2.1.2),()),()),(([]:List ab),()))):=by kernel_rfl
theorem Lx(F:FT)(J:JT yQ)(x:(acL×(abE×abC))):ib 102 0 yQ Tryz.f102 sH F J x =
  cond (decide (x.1.2.1<(((List.length x.1.1):Nat):Int)))
   (((br x.1.1 x.1.2.1)).bind fun(y1:ab) =>
   cond (not (((y1.1.1==x.2.1.1.1.1.1)&&(y1.1.2==x.2.1.1.1.1.2))&&(y1.2==x.2.1.1.1.2)))
    (((br x.1.1 x.1.2.1)).bind fun(y2:ab) =>
    cond (aP (List.length x.2.2.1) (List.length ((y2.1,y2.2)::([]:List ab))))
     (J sH (aY Tryz.prog 102 0) ((x.1.1,((IntKind.wrap .i64 (x.1.2.1+(1:Int))),())),((((x.2.1.1.1.1,x.2.1.1.1.2),()),()),((x.2.2.1++((y2.1,y2.2)::([]:List ab))),()))))
     (none))
    (J sH (aY Tryz.prog 102 0) ((x.1.1,((IntKind.wrap .i64 (x.1.2.1+(1:Int))),())),((((x.2.1.1.1.1,x.2.1.1.1.2),()),()),x.2.2))))
   ((F 77 qC (x.2.2,())).bind fun(y3:(((List ab)×Unit)×Unit)) =>
   some (y3.1,())):=by kernel_rfl
theorem ZQ(F:FT)(J:JT HS)(x:ab9):cp 103 HS Tryz.f103 F J x =
  cond (aP (List.length ([]:List ab)) (List.length x.1.1))
   ((F 24 qB ((x.1.1,((x.1.2.1.1,x.1.2.1.2),())),())).bind fun(y1:((Int×Unit)×Unit)) =>
   cond (decide (y1.1.1≥(0:Int)))
    ((F 24 qB ((x.1.1,((x.1.2.2.1.1,x.1.2.2.1.2),())),())).bind fun(y2:((Int×Unit)×Unit)) =>
    cond (decide (y2.1.1<(0:Int)))
     (cond ((decide ((0:Int)≤y1.1.1))&&(decide (y1.1.1<(((List.length (([]:List ab)++x.1.1)):Nat):Int))))
      ((((([]:List ab)++x.1.1))[(Int.toNat y1.1.1)]?).bind fun(y3:ab) =>
      (F 77 qC (((List.set (([]:List ab)++x.1.1) (Int.toNat y1.1.1) (x.1.2.2.1.1,x.1.2.2.1.2)),()),())).bind fun(y4:(((List ab)×Unit)×Unit)) =>
      some (y4.1,()))
      (none))
     ((F 77 qC (((([]:List ab)++x.1.1),()),())).bind fun(y5:(((List ab)×Unit)×Unit)) =>
     some (y5.1,())))
    ((F 77 qC (((([]:List ab)++x.1.1),()),())).bind fun(y6:(((List ab)×Unit)×Unit)) =>
    some (y6.1,())))
   (none):=by kernel_rfl
theorem ZR(F:FT)(J:JT HT)(x:abH):cp 104 HT Tryz.f104 F J x =
  (F 24 qB ((x.1.1,((x.1.2.1.1,x.1.2.1.2),())),())).bind fun(y1:((Int×Unit)×Unit)) =>
  cond (decide (y1.1.1<(0:Int)))
   (some (((((0:Int),(0:Int)),(0:Int)),(false,())),()))
   (cond ((((List.length x.1.1):Nat):Int)==(0:Int))
    (none)
    (((br x.1.1 (Int.tmod (IntKind.wrap .i64 (y1.1.1+(1:Int))) (((List.length x.1.1):Nat):Int)))).bind fun(y2:ab) =>
    some (((y2.1,y2.2),(true,())),()))):=by kernel_rfl
theorem ZS(F:FT)(J:JT HU)(x:abE):cp 106 HU Tryz.f106 F J x =
  (F 86 rl ((x.1.1.1,()),())).bind fun(y1:((Bool×Unit)×Unit)) =>
  cond y1.1.1
   (some ((((fz .andNot .i64 x.1.1.2 (1:Int))==(0:Int)),()),()))
   (some ((false,()),())):=by kernel_rfl
theorem ZT(F:FT)(J:JT qq)(x:(aaU×abJ)):cp 107 qq Tryz.f107 F J x =
 (F 127125 jH ((x.2.1.1,(x.1.1,())),())).bind fun(y1:((Int×(Bool×Unit))×Unit)) =>
 some ((y1.1.1,y1.1.2),((x.2.1.1,(x.2.1.2.1,x.2.1.2.2)),())):=by kernel_rfl
theorem ZU(F:FT)(J:JT yR)(x:(aaU×abJ)):cp 110 yR Tryz.f110 F J x =
  (F 115 nj ((x.1.1,()),((x.2.1.1,(x.2.1.2.1,x.2.1.2.2)),()))).bind fun(y1:((Int×(Bool×Unit))×(aF×Unit))) =>
  cond y1.1.2.1
   (some (((12:Int),()),((y1.2.1.1,(y1.2.1.2.1,y1.2.1.2.2)),())))
   (cond (decide ((((List.length y1.2.1.2.1):Nat):Int)≥(40:Int)))
    (some (((3:Int),()),((y1.2.1.1,(y1.2.1.2.1,y1.2.1.2.2)),())))
    (cond (qN y1.2.1.2.1 y1.1.1 ((x.1.1,((⟨#[]⟩:ByteArray),(0:Int)))::([]:List ah)))
     (some (((0:Int),()),((y1.2.1.1,((gD y1.2.1.2.1 y1.1.1 ((x.1.1,((⟨#[]⟩:ByteArray),(0:Int)))::([]:List ah))),y1.2.1.2.2)),())))
     (none))):=by kernel_rfl
theorem VD(F:FT)(J:JT BB)(x:acg):cp 111 BB Tryz.f111 F J x =
 some (((x.1.1,(0:Int)),((x.1.1,(1:Int)),())),()):=by kernel_rfl
theorem ZV(F:FT)(J:JT HV)(x:((StateT×(pS×Unit))×Unit)):cp 112 HV Tryz.f112 F J x =
  (F 131 HY ((x.1.1.1,(x.1.2.1.1,())),())).bind fun(y1:((ag×(Bool×Unit))×Unit)) =>
  cond (not y1.1.2.1)
   (some (((((0:Int),(0:Int)),(((0:Int),(0:Int)),(0:Int))),((13:Int),())),()))
   ((F 132 yS (((x.1.1.1,x.1.1.2),((x.1.2.1.2.1,x.1.2.1.2.2),())),())).bind fun(y2:((ab×Unit)×Unit)) =>
   (F 133 vH ((y1.1.1.2.1,((y2.1.1.1,y2.1.1.2),())),())).bind fun(y3:((Bool×Unit)×Unit)) =>
   cond (not y3.1.1)
    (some (((x.1.2.1.1,(((0:Int),(0:Int)),(0:Int))),((0:Int),())),()))
    (some (((x.1.2.1.1,(y2.1.1.1,y2.1.1.2)),((0:Int),())),()))):=by kernel_rfl
theorem ZW(F:FT)(J:JT BC)(x:ab9):cp 113 BC Tryz.f113 F J x =
  (F 133 vH ((x.1.1,((x.1.2.2.1.1,x.1.2.2.1.2),())),())).bind fun(y1:((Bool×Unit)×Unit)) =>
  cond y1.1.1
   ((F 123 rp ((x.1.1,()),())).bind fun(y2:(((List ab)×Unit)×Unit)) =>
   some (y2.1,()))
   ((F 134 my ((x.1.1,((x.1.2.1.1,x.1.2.1.2),())),())).bind fun(y3:((Int×Unit)×Unit)) =>
   cond (bj (List.length x.1.1) (0:Int) (min (IntKind.wrap .i64 ((max y3.1.1 (0:Int):Int)+(1:Int))) (((List.length x.1.1):Nat):Int):Int))
    (cond (bj (List.length x.1.1) (min (IntKind.wrap .i64 ((max y3.1.1 (0:Int):Int)+(1:Int))) (((List.length x.1.1):Nat):Int):Int) (((List.length x.1.1):Nat):Int))
     ((F 135 oE ((((cut x.1.1 (0:Int) (min (IntKind.wrap .i64 ((max y3.1.1 (0:Int):Int)+(1:Int))) (((List.length x.1.1):Nat):Int):Int))::(((x.1.2.2.1.1,x.1.2.2.1.2)::([]:List ab))::((cut x.1.1 (min (IntKind.wrap .i64 ((max y3.1.1 (0:Int):Int)+(1:Int))) (((List.length x.1.1):Nat):Int):Int) (((List.length x.1.1):Nat):Int))::([]:List (List ab))))),()),())).bind fun(y4:(((List ab)×Unit)×Unit)) =>
     some (y4.1,()))
     (none))
    (none)):=by kernel_rfl
theorem ZX(F:FT)(J:JT BD)(x:aaS):cp 114 BD Tryz.f114 F J x =
 (F 136 HZ ((x.1.1,()),())).bind fun(y1:((Int×Unit)×Unit)) =>
 some (((y1.1.1==(0:Int)),()),()):=by kernel_rfl
theorem ZY(F:FT)(J:JT nj)(x:(aaU×abJ)):cp 115 nj Tryz.f115 F J x =
 (F 139137 jI ((x.2.1.2.1,(x.1.1,())),())).bind fun(y1:((Int×(Bool×Unit))×Unit)) =>
 some ((y1.1.1,y1.1.2),((x.2.1.1,(x.2.1.2.1,x.2.1.2.2)),())):=by kernel_rfl
theorem ZZ(F:FT)(J:JT BE)(x:((ab×aaO)×abJ)):cp 116 BE Tryz.f116 F J x =
 (F 139 H3 ((x.2.1.2.2.1,(((x.1.1.1,x.1.1.2),(x.1.2.1.1,x.1.2.1.2)),())),())).bind fun(y1:(((List aq)×Unit)×Unit)) =>
 some ((),((x.2.1.1,(x.2.1.2.1,y1.1)),())):=by kernel_rfl
theorem aaa(F:FT)(J:JT BF)(x:(aaO×abJ)):cp 117 BF Tryz.f117 F J x =
 J Ac (aY Tryz.prog 117 0) (((0:Int),()),(((x.2.1.1,(x.2.1.2.1,x.2.1.2.2)),(((x.1.1.1,x.1.1.2),()),(((((0:Int),(0:Int)),(0:Int)),()),(((x.1.1.1,x.1.1.2),()),())))),())):=by kernel_rfl
theorem FE(F:FT)(J:JT BF)(x:(aaN×((aF×(aaO×acb))×Unit))):ib 117 0 BF Tryz.f117 Ac F J x =
  cond (decide (x.1.1<(2:Int)))
   ((F 118 mw (((x.2.1.2.1.1.1,x.2.1.2.1.1.2),()),((x.2.1.1.1,(x.2.1.1.2.1,x.2.1.1.2.2)),()))).bind fun(y1:(((Option ((Fin 1)×Nat))×Unit)×(aF×Unit))) =>
   qM y1.1.1
    (none) fun(p2:((Fin 1)×Nat)) =>
   cond (p2.1.val==0)
    (((y1.2.1.1)[p2.2]?).bind fun(y3:ag) =>
    (F 140 Ei ((y3.2.1,((x.2.1.2.2.2.1.1.1,x.2.1.2.2.2.1.1.2),())),())).bind fun(y4:((ab×(Bool×Unit))×Unit)) =>
    cond (not ((y4.1.1.1.1==x.2.1.2.1.1.1.1)&&(y4.1.1.1.2==x.2.1.2.1.1.1.2)))
     (some (((y4.1.1.1,y4.1.1.2),()),((y1.2.1.1,(y1.2.1.2.1,y1.2.1.2.2)),())))
     (J Ac (aY Tryz.prog 117 0) (((IntKind.wrap .i64 (x.1.1+(1:Int))),()),(((y1.2.1.1,(y1.2.1.2.1,y1.2.1.2.2)),(((x.2.1.2.1.1.1,x.2.1.2.1.1.2),()),(((x.2.1.2.2.1.1.1,x.2.1.2.2.1.1.2),()),(((y4.1.1.1,y4.1.1.2),()),())))),()))))
    (none))
   (some (((((0:Int),(0:Int)),(0:Int)),()),((x.2.1.1.1,(x.2.1.1.2.1,x.2.1.1.2.2)),()))):=by kernel_rfl
theorem aab(F:FT)(J:JT mw)(x:(aaO×abJ)):cp 118 mw Tryz.f118 F J x =
 J vM (aY Tryz.prog 118 0) (((((List.length x.2.1.1):Nat):Int),((0:Int),())),(((x.2.1.1,(x.2.1.2.1,x.2.1.2.2)),(((x.1.1.1,x.1.1.2),()),())),())):=by kernel_rfl
theorem Ly(F:FT)(J:JT mw)(x:(aaT×((aF×abE)×Unit))):ib 118 0 mw Tryz.f118 vM F J x =
  cond (decide (x.1.2.1<x.1.1))
   (cond ((decide ((0:Int)≤x.1.2.1))&&(decide (x.1.2.1<(((List.length x.2.1.1.1):Nat):Int))))
    (((x.2.1.1.1)[(Int.toNat x.1.2.1)]?).bind fun(y1:ag) =>
    (F 133 vH ((y1.2.1,((x.2.1.2.1.1.1,x.2.1.2.1.1.2),())),())).bind fun(y2:((Bool×Unit)×Unit)) =>
    cond y2.1.1
     (some (((some ((⟨0,by decide⟩:(Fin 1)),(Int.toNat x.1.2.1))),()),((x.2.1.1.1,(x.2.1.1.2.1,x.2.1.1.2.2)),())))
     (J vM (aY Tryz.prog 118 0) ((x.1.1,((IntKind.wrap .i64 (x.1.2.1+(1:Int))),())),(((x.2.1.1.1,(x.2.1.1.2.1,x.2.1.1.2.2)),(((x.2.1.2.1.1.1,x.2.1.2.1.1.2),()),())),()))))
    (none))
   (some ((none,()),((x.2.1.1.1,(x.2.1.1.2.1,x.2.1.1.2.2)),()))):=by kernel_rfl
theorem aac(F:FT)(J:JT HW)(x:abH):cp 119 HW Tryz.f119 F J x =
  (F 134 my ((x.1.1,((x.1.2.1.1,x.1.2.1.2),())),())).bind fun(y1:((Int×Unit)×Unit)) =>
  cond (decide (y1.1.1<(0:Int)))
   ((F 123 rp ((x.1.1,()),())).bind fun(y2:(((List ab)×Unit)×Unit)) =>
   some (y2.1,()))
   (cond (bj (List.length x.1.1) (0:Int) y1.1.1)
    (cond (bj (List.length x.1.1) (IntKind.wrap .i64 (y1.1.1+(1:Int))) (((List.length x.1.1):Nat):Int))
     ((F 135 oE ((((cut x.1.1 (0:Int) y1.1.1)::((cut x.1.1 (IntKind.wrap .i64 (y1.1.1+(1:Int))) (((List.length x.1.1):Nat):Int))::([]:List (List ab)))),()),())).bind fun(y3:(((List ab)×Unit)×Unit)) =>
     some (y3.1,()))
     (none))
    (none)):=by kernel_rfl
theorem aad(F:FT)(J:JT tJ)(x:ab9):cp 121 tJ Tryz.f121 F J x =
  (F 134 my ((x.1.1,((x.1.2.1.1,x.1.2.1.2),())),())).bind fun(y1:((Int×Unit)×Unit)) =>
  cond (decide (y1.1.1<(0:Int)))
   ((F 123 rp ((x.1.1,()),())).bind fun(y2:(((List ab)×Unit)×Unit)) =>
   some (y2.1,()))
   ((F 133 vH ((x.1.1,((x.1.2.2.1.1,x.1.2.2.1.2),())),())).bind fun(y3:((Bool×Unit)×Unit)) =>
   cond y3.1.1
    ((F 123 rp ((x.1.1,()),())).bind fun(y4:(((List ab)×Unit)×Unit)) =>
    some (y4.1,()))
    (cond (bj (List.length x.1.1) (0:Int) y1.1.1)
     (cond (bj (List.length x.1.1) (IntKind.wrap .i64 (y1.1.1+(1:Int))) (((List.length x.1.1):Nat):Int))
      ((F 135 oE ((((cut x.1.1 (0:Int) y1.1.1)::(((x.1.2.2.1.1,x.1.2.2.1.2)::([]:List ab))::((cut x.1.1 (IntKind.wrap .i64 (y1.1.1+(1:Int))) (((List.length x.1.1):Nat):Int))::([]:List (List ab))))),()),())).bind fun(y5:(((List ab)×Unit)×Unit)) =>
      some (y5.1,()))
      (none))
     (none))):=by kernel_rfl
theorem aae(F:FT)(J:JT oD)(x:abE):cp 122 oD Tryz.f122 F J x =
 some (((x.1.1.1,(fz .xor .i64 x.1.1.2 (1:Int))),()),()):=by kernel_rfl
theorem aaf(F:FT)(J:JT rp)(x:(abC×Unit)):cp 123 rp Tryz.f123 F J x =
  cond ((((List.length x.1.1):Nat):Int)==(0:Int))
   (some ((([]:List ab),()),()))
   ((F 143141 kR (x.1,())).bind fun(y1:((ab×Unit)×Unit)) =>
   (F 134 my ((x.1.1,((y1.1.1.1,y1.1.1.2),())),())).bind fun(y2:((Int×Unit)×Unit)) =>
   cond (bj (List.length x.1.1) y2.1.1 (((List.length x.1.1):Nat):Int))
    (cond (bj (List.length x.1.1) (0:Int) y2.1.1)
     ((F 143 oF ((((cut x.1.1 y2.1.1 (((List.length x.1.1):Nat):Int))::((cut x.1.1 (0:Int) y2.1.1)::([]:List (List ab)))),()),())).bind fun(y3:(((List ab)×Unit)×Unit)) =>
     some (y3.1,()))
     (none))
    (none)):=by kernel_rfl
theorem aag(F:FT)(J:JT HX)(x:acM):cp 124 HX Tryz.f124 F J x =
  cond x.1.1.2.2.2.2.2.2.1
   ((F 115 nj ((x.1.1.2.1,()),((x.2.1.1,(x.2.1.2.1,x.2.1.2.2)),()))).bind fun(y1:((Int×(Bool×Unit))×(aF×Unit))) =>
   cond y1.1.2.1
    (cond ((decide ((0:Int)≤y1.1.1))&&(decide (y1.1.1<(((List.length y1.2.1.2.1):Nat):Int))))
     (cond ((decide ((0:Int)≤y1.1.1))&&(decide (y1.1.1<(((List.length y1.2.1.2.1):Nat):Int))))
      (some (((some ((⟨1,by decide⟩:(Fin 2)),(Int.toNat y1.1.1))),((some ((⟨1,by decide⟩:(Fin 2)),(Int.toNat y1.1.1))),())),((y1.2.1.1,(y1.2.1.2.1,y1.2.1.2.2)),())))
      (none))
     (none))
    (some ((none,(none,())),((y1.2.1.1,(y1.2.1.2.1,y1.2.1.2.2)),()))))
   ((F 107 qq ((x.1.1.2.1,()),((x.2.1.1,(x.2.1.2.1,x.2.1.2.2)),()))).bind fun(y2:((Int×(Bool×Unit))×(aF×Unit))) =>
   cond y2.1.2.1
    (cond ((decide ((0:Int)≤y2.1.1))&&(decide (y2.1.1<(((List.length y2.2.1.1):Nat):Int))))
     (cond ((decide ((0:Int)≤y2.1.1))&&(decide (y2.1.1<(((List.length y2.2.1.1):Nat):Int))))
      (some (((some ((⟨0,by decide⟩:(Fin 2)),(Int.toNat y2.1.1))),((some ((⟨0,by decide⟩:(Fin 2)),(Int.toNat y2.1.1))),())),((y2.2.1.1,(y2.2.1.2.1,y2.2.1.2.2)),())))
      (none))
     (none))
    (some ((none,(none,())),((y2.2.1.1,(y2.2.1.2.1,y2.2.1.2.2)),())))):=by kernel_rfl
theorem aah(F:FT)(J:JT Eg)(x:((ag×aaU)×Unit)):cp 126 Eg Tryz.f126 F J x =
 (F 127 BG ((x.1.1.1,(x.1.2.1,())),())).bind fun(y1:((Int×Unit)×Unit)) =>
 some (y1.1,()):=by kernel_rfl
theorem aai(F:FT)(J:JT BG)(x:((ID×aaU)×Unit)):cp 127 BG Tryz.f127 F J x =
  cond ((x.1.1.1==x.1.2.1.1)&&(x.1.1.2==x.1.2.1.2))
   (some (((0:Int),()),()))
   ((F 145 BH ((x.1.1.1,(x.1.2.1.1,())),())).bind fun(y1:((Int×Unit)×Unit)) =>
   (F 145 BH ((x.1.1.2,(x.1.2.1.2,())),())).bind fun(y2:((Int×Unit)×Unit)) =>
   (F 144 vI (((y1.1.1::(y2.1.1::([]:List Int))),()),())).bind fun(y3:((Int×Unit)×Unit)) =>
   some (y3.1,())):=by kernel_rfl
theorem aaj(F:FT)(J:JT HY)(x:((ai×aaU)×Unit)):cp 131 HY Tryz.f131 F J x =
 (F 151149 kS ((x.1.1.1,(x.1.2.1,())),())).bind fun(y1:((ag×(Bool×Unit))×Unit)) =>
 (F 81 zy ((y1.1.1.2.1,()),())).bind fun(y2:(((List ab)×Unit)×Unit)) =>
 some (((y1.1.1.1,(y2.1.1,y1.1.1.2.2)),y1.1.2),()):=by kernel_rfl
theorem aak(F:FT)(J:JT yS)(x:((StateT×aaO)×Unit)):cp 132 yS Tryz.f132 F J x =
 J vN (aY Tryz.prog 132 0) (((IntKind.wrap .i64 ((((List.length x.1.1.2):Nat):Int)+(1:Int))),((0:Int),())),((((x.1.1.1,x.1.1.2),()),(((x.1.2.1.1,x.1.2.1.2),()),(((((0:Int),(0:Int)),(0:Int)),()),()))),())):=by kernel_rfl
theorem LA(F:FT)(J:JT yS)(x:(aaT×((ab7×acb)×Unit))):ib 132 0 yS Tryz.f132 vN F J x =
  cond (decide (x.1.2.1<x.1.1))
   ((F 151 vJ ((x.2.1.1.1.1,((x.2.1.2.1.1.1,x.2.1.2.1.1.2),())),())).bind fun(y1:((ID×(Bool×Unit))×Unit)) =>
   cond y1.1.2.1
    (some (((x.2.1.2.1.1.1,x.2.1.2.1.1.2),()),()))
    ((F 152 H5 ((x.2.1.1.1.2,((x.2.1.2.1.1.1,x.2.1.2.1.1.2),())),())).bind fun(y2:((ab×(Bool×Unit))×Unit)) =>
    cond (not y2.1.2.1)
     (some (((((0:Int),(0:Int)),(0:Int)),()),()))
     (J vN (aY Tryz.prog 132 0) ((x.1.1,((IntKind.wrap .i64 (x.1.2.1+(1:Int))),())),((((x.2.1.1.1.1,x.2.1.1.1.2),()),(((y2.1.1.1,y2.1.1.2),()),(((x.2.1.2.2.1.1.1,x.2.1.2.2.1.1.2),()),()))),())))))
   (some (((((0:Int),(0:Int)),(0:Int)),()),())):=by kernel_rfl
theorem aal(F:FT)(J:JT vH)(x:abH):cp 133 vH Tryz.f133 F J x =
 (F 134 my ((x.1.1,((x.1.2.1.1,x.1.2.1.2),())),())).bind fun(y1:((Int×Unit)×Unit)) =>
 some (((decide (y1.1.1≥(0:Int))),()),()):=by kernel_rfl
theorem aam(F:FT)(J:JT my)(x:abH):cp 134 my Tryz.f134 F J x =
 J vO (aY Tryz.prog 134 0) ((x.1.1,((((List.length x.1.1):Nat):Int),((0:Int),()))),((((x.1.2.1.1,x.1.2.1.2),()),()),())):=by kernel_rfl
theorem LB(F:FT)(J:JT my)(x:(acN×(abE×Unit))):ib 134 0 my Tryz.f134 vO F J x =
  cond (decide (x.1.2.2.1<x.1.2.1))
   (((br x.1.1 x.1.2.2.1)).bind fun(y1:ab) =>
   cond (((x.2.1.1.1.1.1==y1.1.1)&&(x.2.1.1.1.1.2==y1.1.2))&&(x.2.1.1.1.2==y1.2))
    (some (x.1.2.2,()))
    (J vO (aY Tryz.prog 134 0) ((x.1.1,(x.1.2.1,((IntKind.wrap .i64 (x.1.2.2.1+(1:Int))),()))),((((x.2.1.1.1.1,x.2.1.1.1.2),()),()),()))))
   (some (((-1:Int),()),())):=by kernel_rfl
theorem aan(F:FT)(J:JT oE)(x:(((List (List ab))×Unit)×Unit)):cp 135 oE Tryz.f135 F J x =
 (F 143 oF (x.1,())).bind fun(y1:(((List ab)×Unit)×Unit)) =>
 (F 123 rp (y1.1,())).bind fun(y2:(((List ab)×Unit)×Unit)) =>
 some (y2.1,()):=by kernel_rfl
theorem aao(F:FT)(J:JT HZ)(x:aaS):cp 136 HZ Tryz.f136 F J x =
  (F 153 H6 ((x.1.1,()),())).bind fun(y1:((Int×(Int×(Int×(Int×Unit))))×Unit)) =>
  cond ((2:Int)==(0:Int))
   (none)
   (some (((IntKind.wrap .i64 (y1.1.2.2.2.1-(IntKind.wrap .i64 (Int.tdiv (IntKind.wrap .i64 ((IntKind.wrap .i64 (y1.1.1-y1.1.2.1))+y1.1.2.2.1)) (2:Int))))),()),())):=by kernel_rfl
theorem aap(F:FT)(J:JT Eh)(x:((ah×aaU)×Unit)):cp 138 Eh Tryz.f138 F J x =
 (F 127 BG ((x.1.1.1,(x.1.2.1,())),())).bind fun(y1:((Int×Unit)×Unit)) =>
 some (y1.1,()):=by kernel_rfl
theorem aaq(F:FT)(J:JT H3)(x:(((List aq)×(aq×Unit))×Unit)):cp 139 H3 Tryz.f139 F J x =
  (F 156154 jJ ((x.1.1,((x.1.2.1.1.1,x.1.2.1.1.2),())),())).bind fun(y1:((Int×(Bool×Unit))×Unit)) =>
  (F 61 Kf ((x.1.1,()),())).bind fun(y2:(((List aq)×Unit)×Unit)) =>
  cond y1.1.2.1
   (cond ((decide ((0:Int)≤y1.1.1))&&(decide (y1.1.1<(((List.length y2.1.1):Nat):Int))))
    (((y2.1.1)[(Int.toNat y1.1.1)]?).bind fun(y3:aq) =>
    some (((List.set y2.1.1 (Int.toNat y1.1.1) ((x.1.2.1.1.1,x.1.2.1.1.2),(x.1.2.1.2.1,x.1.2.1.2.2))),()),()))
    (none))
   (cond (decide ((((List.length x.1.1):Nat):Int)<(400:Int)))
    (cond (qN y2.1.1 y1.1.1 (((x.1.2.1.1.1,x.1.2.1.1.2),(x.1.2.1.2.1,x.1.2.1.2.2))::([]:List aq)))
     (some (((gD y2.1.1 y1.1.1 (((x.1.2.1.1.1,x.1.2.1.1.2),(x.1.2.1.2.1,x.1.2.1.2.2))::([]:List aq))),()),()))
     (none))
    (some (y2.1,()))):=by kernel_rfl
theorem aar(F:FT)(J:JT Ei)(x:abH):cp 140 Ei Tryz.f140 F J x =
 (F 157 BI ((x.1.1,((x.1.2.1.1,x.1.2.1.2),((IntKind.wrap .i64 ((((List.length x.1.1):Nat):Int)-(1:Int))),()))),())).bind fun(y1:((ab×(Bool×Unit))×Unit)) =>
 some (((y1.1.1.1,y1.1.1.2),y1.1.2),()):=by kernel_rfl
theorem aas(F:FT)(J:JT Ej)(x:((ab×aaO)×Unit)):cp 142 Ej Tryz.f142 F J x =
 (F 127 BG ((x.1.1.1,(x.1.2.1.1,())),())).bind fun(y1:((Int×Unit)×Unit)) =>
 (F 145 BH ((x.1.1.2,(x.1.2.1.2,())),())).bind fun(y2:((Int×Unit)×Unit)) =>
 (F 144 vI (((y1.1.1::(y2.1.1::([]:List Int))),()),())).bind fun(y3:((Int×Unit)×Unit)) =>
 some (y3.1,()):=by kernel_rfl
theorem aat(F:FT)(J:JT oF)(x:(((List (List ab))×Unit)×Unit)):cp 143 oF Tryz.f143 F J x =
 J vR (aY Tryz.prog 143 0) ((x.1.1,((0:Int),(x.1.1,((((List.length x.1.1):Nat):Int),((0:Int),()))))),((),())):=by kernel_rfl
theorem LC(F:FT)(J:JT oF)(x:(((List (List ab))×(Int×((List (List ab))×aaT)))×aca)):ib 143 0 oF Tryz.f143 vR F J x =
  cond (decide (x.1.2.2.2.2.1<x.1.2.2.2.1))
   (((br x.1.2.2.1 x.1.2.2.2.2.1)).bind fun(y1:(List ab)) =>
   cond (decide ((IntKind.wrap .i64 (x.1.2.1+(((List.length y1):Nat):Int)))<(0:Int)))
    (none)
    (J vR (aY Tryz.prog 143 0) ((x.1.1,((IntKind.wrap .i64 (x.1.2.1+(((List.length y1):Nat):Int))),(x.1.2.2.1,(x.1.2.2.2.1,((IntKind.wrap .i64 (x.1.2.2.2.2.1+(1:Int))),()))))),((),()))))
   (cond (AA x.1.2.1)
    (J vS (aY Tryz.prog 143 1) ((x.1.1,((((List.length x.1.1):Nat):Int),((0:Int),()))),((),(([]:List ab),()))))
    (none)):=by kernel_rfl
theorem LD(F:FT)(J:JT oF)(x:(((List (List ab))×aaT)×(Unit×abC))):ib 143 1 oF Tryz.f143 vS F J x =
  cond (decide (x.1.2.2.1<x.1.2.1))
   (((br x.1.1 x.1.2.2.1)).bind fun(y2:(List ab)) =>
   cond (aP (List.length x.2.2.1) (List.length y2))
    (J vS (aY Tryz.prog 143 1) ((x.1.1,(x.1.2.1,((IntKind.wrap .i64 (x.1.2.2.1+(1:Int))),()))),((),((x.2.2.1++y2),()))))
    (none))
   (some (x.2.2,())):=by kernel_rfl
theorem aau(F:FT)(J:JT vI)(x:(abP×Unit)):cp 144 vI Tryz.f144 F J x =
 J Ad (aY Tryz.prog 144 0) (((0:Int),(x.1.1,((((List.length x.1.1):Nat):Int),((0:Int),())))),((),())):=by kernel_rfl
theorem Ae(F:FT)(J:JT vI)(x:((Int×((List Int)×aaT))×aca)):ib 144 0 vI Tryz.f144 Ad F J x =
  cond (decide (x.1.2.2.2.1<x.1.2.2.1))
   (((br x.1.2.1 x.1.2.2.2.1)).bind fun(y1:Int) =>
   cond (y1 != x.1.1)
    (some ((y1,()),()))
    (J Ad (aY Tryz.prog 144 0) ((x.1.1,(x.1.2.1,(x.1.2.2.1,((IntKind.wrap .i64 (x.1.2.2.2.1+(1:Int))),())))),((),()))))
   (some ((x.1.1,()),())):=by kernel_rfl
theorem aav(F:FT)(J:JT BH)(x:(aaT×Unit)):cp 145 BH Tryz.f145 F J x =
  (F 159 BJ ((x.1.1,()),())).bind fun(y1:((Bool×Unit)×Unit)) =>
  (F 159 BJ (x.1.2,())).bind fun(y2:((Bool×Unit)×Unit)) =>
  cond y1.1.1
   (cond y2.1.1
    (some (((0:Int),()),()))
    (some (((-1:Int),()),())))
   (cond y2.1.1
    (some (((1:Int),()),()))
    (cond (decide (x.1.1<x.1.2.1))
     (some (((-1:Int),()),()))
     (cond (decide (x.1.1>x.1.2.1))
      (some (((1:Int),()),()))
      (some (((0:Int),()),()))))):=by kernel_rfl
theorem aaw(F:FT)(J:JT H4)(x:((ag×Unit)×Unit)):cp 150 H4 Tryz.f150 F J x =
 some ((x.1.1.1,()),()):=by kernel_rfl
theorem aax(F:FT)(J:JT vJ)(x:abW):cp 151 vJ Tryz.f151 F J x =
 J vT (aY Tryz.prog 151 0) ((x.1.1.1,((((List.length x.1.1.1):Nat):Int),((0:Int),()))),((((x.1.2.1.1,x.1.2.1.2),()),((((0:Int),(0:Int)),()),())),())):=by kernel_rfl
theorem LF(F:FT)(J:JT vJ)(x:(acP×((aaO×acg)×Unit))):ib 151 0 vJ Tryz.f151 vT F J x =
  cond (decide (x.1.2.2.1<x.1.2.1))
   (((br x.1.1 x.1.2.2.1)).bind fun(y1:ag) =>
   (F 133 vH ((y1.2.1,((x.2.1.1.1.1,x.2.1.1.1.2),())),())).bind fun(y2:((Bool×Unit)×Unit)) =>
   cond y2.1.1
    (some ((y1.1,(true,())),()))
    (J vT (aY Tryz.prog 151 0) ((x.1.1,(x.1.2.1,((IntKind.wrap .i64 (x.1.2.2.1+(1:Int))),()))),((((x.2.1.1.1.1,x.2.1.1.1.2),()),((x.2.1.2.1.1,()),())),()))))
   (some ((((0:Int),(0:Int)),(false,())),())):=by kernel_rfl
theorem aay(F:FT)(J:JT H5)(x:(((List aq)×aaO)×Unit)):cp 152 H5 Tryz.f152 F J x =
  (F 164162 jK ((x.1.1,()),(((x.1.2.1.1,x.1.2.1.2),()),()))).bind fun(y1:((Int×Unit)×((ab×Unit)×Unit))) =>
  cond (decide (y1.1.1<(0:Int)))
   (some (((((0:Int),(0:Int)),(0:Int)),(false,())),()))
   (((br x.1.1 y1.1.1)).bind fun(y2:aq) =>
   some (((y2.2.1,y2.2.2),(true,())),())):=by kernel_rfl
theorem aaz(F:FT)(J:JT H6)(x:aaS):cp 153 H6 Tryz.f153 F J x =
 (F 166164 kT ((x.1.1.1,()),())).bind fun(y1:((Int×Unit)×Unit)) =>
 (F 166 yT ((x.1.1,()),())).bind fun(y2:(((List (List ab))×Unit)×Unit)) =>
 (F 167 yU ((x.1.1,()),())).bind fun(y3:((Int×Unit)×Unit)) =>
 some (((((List.length x.1.1.1):Nat):Int),((((List.length x.1.1.2):Nat):Int),((IntKind.wrap .i64 ((((List.length y2.1.1):Nat):Int)+y1.1.1)),y3.1))),()):=by kernel_rfl
theorem aaA(F:FT)(J:JT Ek)(x:((aq×aaO)×Unit)):cp 155 Ek Tryz.f155 F J x =
 (F 142 Ej (((x.1.1.1.1,x.1.1.1.2),((x.1.2.1.1,x.1.2.1.2),())),())).bind fun(y1:((Int×Unit)×Unit)) =>
 some (y1.1,()):=by kernel_rfl
end Go.Vs
set_option maxRecDepth 1000000
set_option maxHeartbeats 0
namespace Go.Vs
open Go.Proofs
theorem VF(F:FT)(J:JT BI)(x:(((List ab)×(ab×aaN))×Unit)):cp 157 BI Tryz.f157 F J x =
  (F 134 my ((x.1.1,((x.1.2.1.1,x.1.2.1.2),())),())).bind fun(y1:((Int×Unit)×Unit)) =>
  cond (decide (y1.1.1<(0:Int)))
   (some (((((0:Int),(0:Int)),(0:Int)),(false,())),()))
   (cond ((((List.length x.1.1):Nat):Int)==(0:Int))
    (none)
    (((br x.1.1 (Int.tmod (IntKind.wrap .i64 (y1.1.1+x.1.2.2.1)) (((List.length x.1.1):Nat):Int)))).bind fun(y2:ab) =>
    some (((y2.1,y2.2),(true,())),()))):=by kernel_rfl
theorem aaB(F:FT)(J:JT BJ)(x:(aaN×Unit)):cp 159 BJ Tryz.f159 F J x =
 some (((x.1.1 != x.1.1),()),()):=by kernel_rfl
theorem aaC(F:FT)(J:JT H7)(x:((aq×Unit)×((Int×aaT)×Unit))):cp 163 H7 Tryz.f163 F J x =
 some (((((x.1.1.1.1.1==x.2.1.1)&&(x.1.1.1.1.2==x.2.1.2.1))&&(x.1.1.1.2==x.2.1.2.2.1)),()),((x.2.1.1,(x.2.1.2.1,x.2.1.2.2)),())):=by kernel_rfl
theorem aaD(F:FT)(J:JT H8)(x:((ag×Unit)×Unit)):cp 165 H8 Tryz.f165 F J x =
 some ((((((List.length x.1.1.2.1):Nat):Int)==(0:Int)),()),()):=by kernel_rfl
theorem aaE(F:FT)(J:JT vK)(x:aaS):cp 171 vK Tryz.f171 F J x =
 J vU (aY Tryz.prog 171 0) ((x.1.1.2,((((List.length x.1.1.2):Nat):Int),((0:Int),()))),((),(([]:List ab),()))):=by kernel_rfl
theorem LG(F:FT)(J:JT vK)(x:(((List ah)×aaT)×(Unit×abC))):ib 171 0 vK Tryz.f171 vU F J x =
  cond (decide (x.1.2.2.1<x.1.2.1))
   (((br x.1.1 x.1.2.2.1)).bind fun(y1:ah) =>
   (F 122 oD (((y1.1,(0:Int)),()),())).bind fun(y2:((ab×Unit)×Unit)) =>
   cond (aP (List.length x.2.2.1) (List.length ((y1.1,(0:Int))::((y2.1.1.1,y2.1.1.2)::([]:List ab)))))
    (J vU (aY Tryz.prog 171 0) ((x.1.1,(x.1.2.1,((IntKind.wrap .i64 (x.1.2.2.1+(1:Int))),()))),((),((x.2.2.1++((y1.1,(0:Int))::((y2.1.1.1,y2.1.1.2)::([]:List ab)))),()))))
    (none))
   (some (x.2.2,())):=by kernel_rfl
theorem aaF(F:FT)(J:JT El)(x:abW):cp 176 El Tryz.f176 F J x =
  (F 151 vJ ((x.1.1,((x.1.2.1.1,x.1.2.1.2),())),())).bind fun(y1:((ID×(Bool×Unit))×Unit)) =>
  cond (not y1.1.2.1)
   (some (((((0:Int),(0:Int)),(0:Int)),(false,())),()))
   ((F 122 oD (((x.1.2.1.1,x.1.2.1.2),()),())).bind fun(y2:((ab×Unit)×Unit)) =>
   (F 179 yV ((x.1.1,((y2.1.1.1,y2.1.1.2),())),())).bind fun(y3:((ab×(Bool×Unit))×Unit)) =>
   some (((y3.1.1.1,y3.1.1.2),y3.1.2),())):=by kernel_rfl
theorem aaG(F:FT)(J:JT iE)(x:aaS):cp 177 iE Tryz.f177 F J x =
 J sI (aY Tryz.prog 177 0) ((x.1.1.1,((((List.length x.1.1.1):Nat):Int),((0:Int),()))),((),(([]:List Int),(([]:List (ab×Int)),())))):=by kernel_rfl
theorem LH(F:FT)(J:JT iE)(x:(acP×(Unit×((List Int)×((List (ab×Int))×Unit))))):ib 177 0 iE Tryz.f177 sI F J x =
  cond (decide (x.1.2.2.1<x.1.2.1))
   (((br x.1.1 x.1.2.2.1)).bind fun(y1:ag) =>
   cond (aP (List.length x.2.2.1) (List.length (x.1.2.2.1::([]:List Int))))
    (J vW (aY Tryz.prog 177 1) ((x.1.2.2.1,(x.1.1,(x.1.2.1,(x.1.2.2.1,(y1.2.1,((((List.length y1.2.1):Nat):Int),((0:Int),()))))))),((),((x.2.2.1++(x.1.2.2.1::([]:List Int))),x.2.2.2))))
    (none))
   (J pV (aY Tryz.prog 177 2) (x.2.2.2,((),(x.2.2.1,((none,x.2.2.2.1),()))))):=by kernel_rfl
theorem LI(F:FT)(J:JT iE)(x:((Int×((List ag)×(Int×(Int×acN))))×(Unit×((List Int)×((List (ab×Int))×Unit))))):ib 177 1 iE Tryz.f177 vW F J x =
  cond (decide (x.1.2.2.2.2.2.2.1<x.1.2.2.2.2.2.1))
   (((br x.1.2.2.2.2.1 x.1.2.2.2.2.2.2.1)).bind fun(y2:ab) =>
   J vW (aY Tryz.prog 177 1) ((x.1.1,(x.1.2.1,(x.1.2.2.1,(x.1.2.2.2.1,(x.1.2.2.2.2.1,(x.1.2.2.2.2.2.1,((IntKind.wrap .i64 (x.1.2.2.2.2.2.2.1+(1:Int))),()))))))),((),(x.2.2.1,((mQ (.pair (.pair (.int .i64) (.int .i64)) (.int .i64)) (y2.1,y2.2) x.1.1 x.2.2.2.1),())))))
   (J sI (aY Tryz.prog 177 0) ((x.1.2.1,(x.1.2.2.1,((IntKind.wrap .i64 (x.1.2.2.2.1+(1:Int))),()))),((),(x.2.2.1,x.2.2.2)))):=by kernel_rfl
theorem LJ(F:FT)(J:JT iE)(x:(((List (ab×Int))×Unit)×(Unit×((List Int)×(((Option (ab×Int))×(List (ab×Int)))×Unit))))):ib 177 2 iE Tryz.f177 pV F J x =
  cond (List.isEmpty x.2.2.2.1.2)
   (J vX (aY Tryz.prog 177 3) (((((List.length x.2.2.1):Nat):Int),((0:Int),())),((),(x.2.2.1,(([]:List Int),())))))
   (ta (List.length x.2.2.2.1.2) fun(j3:Nat) =>
   ((x.2.2.2.1.2)[j3]?).bind fun(y4:(ab×Int)) =>
   (F 122 oD (((y4.1.1,y4.1.2),()),())).bind fun(y5:((ab×Unit)×Unit)) =>
   cond (Option.isSome (jy (.pair (.pair (.int .i64) (.int .i64)) (.int .i64)) (y5.1.1.1,y5.1.1.2) x.1.1))
    ((F 180 H9 ((y4.2,((Option.getD (jy (.pair (.pair (.int .i64) (.int .i64)) (.int .i64)) (y5.1.1.1,y5.1.1.2) x.1.1) (0:Int)),())),(x.2.2.1,()))).bind fun(y6:(Unit×((List Int)×Unit))) =>
    J pV (aY Tryz.prog 177 2) (x.1,((),(y6.2.1,(((some y4),(List.eraseIdx x.2.2.2.1.2 j3)),())))))
    (J pV (aY Tryz.prog 177 2) (x.1,((),(x.2.2.1,(((some y4),(List.eraseIdx x.2.2.2.1.2 j3)),())))))):=by kernel_rfl
theorem LK(F:FT)(J:JT iE)(x:(aaT×(Unit×((List Int)×abP)))):ib 177 3 iE Tryz.f177 vX F J x =
  cond (decide (x.1.2.1<x.1.1))
   ((F 181 rq (x.1.2,(x.2.2.1,()))).bind fun(y7:((Int×Unit)×((List Int)×Unit))) =>
   cond (aP (List.length x.2.2.2.1) (List.length (y7.1.1::([]:List Int))))
    (J vX (aY Tryz.prog 177 3) ((x.1.1,((IntKind.wrap .i64 (x.1.2.1+(1:Int))),())),((),(y7.2.1,((x.2.2.2.1++(y7.1.1::([]:List Int))),())))))
    (none))
   (some (x.2.2.2,())):=by kernel_rfl
theorem aaH(F:FT)(J:JT yV)(x:abW):cp 179 yV Tryz.f179 F J x =
 J vY (aY Tryz.prog 179 0) ((x.1.1.1,((((List.length x.1.1.1):Nat):Int),((0:Int),()))),((((x.1.2.1.1,x.1.2.1.2),()),(((((0:Int),(0:Int)),(0:Int)),()),())),())):=by kernel_rfl
theorem LL(F:FT)(J:JT yV)(x:(acP×(acb×Unit))):ib 179 0 yV Tryz.f179 vY F J x =
  cond (decide (x.1.2.2.1<x.1.2.1))
   (((br x.1.1 x.1.2.2.1)).bind fun(y1:ag) =>
   (F 182 Ia ((y1.2.1,((x.2.1.1.1.1,x.2.1.1.1.2),())),())).bind fun(y2:((ab×(Bool×Unit))×Unit)) =>
   cond y2.1.2.1
    (some (((y2.1.1.1,y2.1.1.2),(true,())),()))
    (J vY (aY Tryz.prog 179 0) ((x.1.1,(x.1.2.1,((IntKind.wrap .i64 (x.1.2.2.1+(1:Int))),()))),((((x.2.1.1.1.1,x.2.1.1.1.2),()),(((x.2.1.2.1.1.1,x.2.1.2.1.1.2),()),())),()))))
   (some (((((0:Int),(0:Int)),(0:Int)),(false,())),())):=by kernel_rfl
theorem aaI(F:FT)(J:JT H9)(x:(aaT×abP)):cp 180 H9 Tryz.f180 F J x =
  (F 181 rq ((x.1.1,()),x.2)).bind fun(y1:((Int×Unit)×((List Int)×Unit))) =>
  (F 181 rq (x.1.2,y1.2)).bind fun(y2:((Int×Unit)×((List Int)×Unit))) =>
  cond ((decide ((0:Int)≤(max y1.1.1 y2.1.1:Int)))&&(decide ((max y1.1.1 y2.1.1:Int)<(((List.length y2.2.1):Nat):Int))))
   (((y2.2.1)[(Int.toNat (max y1.1.1 y2.1.1:Int))]?).bind fun(y3:Int) =>
   some ((),((List.set y2.2.1 (Int.toNat (max y1.1.1 y2.1.1:Int)) (min y1.1.1 y2.1.1:Int)),())))
   (none):=by kernel_rfl
theorem aaJ(F:FT)(J:JT rq)(x:(aaN×abP)):cp 181 rq Tryz.f181 F J x =
 J sJ (aY Tryz.prog 181 0) (x.1,((),x.2)):=by kernel_rfl
theorem LM(F:FT)(J:JT rq)(x:(aaN×(Unit×abP))):ib 181 0 rq Tryz.f181 sJ F J x =
  cond ((decide ((0:Int)≤x.1.1))&&(decide (x.1.1<(((List.length x.2.2.1):Nat):Int))))
   (((x.2.2.1)[(Int.toNat x.1.1)]?).bind fun(y1:Int) =>
   cond (y1 != x.1.1)
    (cond ((decide ((0:Int)≤x.1.1))&&(decide (x.1.1<(((List.length x.2.2.1):Nat):Int))))
     (((x.2.2.1)[(Int.toNat x.1.1)]?).bind fun(y2:Int) =>
     cond ((decide ((0:Int)≤y2))&&(decide (y2<(((List.length x.2.2.1):Nat):Int))))
      (((x.2.2.1)[(Int.toNat y2)]?).bind fun(y3:Int) =>
      cond ((decide ((0:Int)≤x.1.1))&&(decide (x.1.1<(((List.length x.2.2.1):Nat):Int))))
       (((x.2.2.1)[(Int.toNat x.1.1)]?).bind fun(y4:Int) =>
       cond ((decide ((0:Int)≤x.1.1))&&(decide (x.1.1<(((List.length (List.set x.2.2.1 (Int.toNat x.1.1) y3)):Nat):Int))))
        ((((List.set x.2.2.1 (Int.toNat x.1.1) y3))[(Int.toNat x.1.1)]?).bind fun(y5:Int) =>
        J sJ (aY Tryz.prog 181 0) ((y5,()),((),((List.set x.2.2.1 (Int.toNat x.1.1) y3),()))))
        (none))
       (none))
      (none))
     (none))
    (some (x.1,x.2.2)))
   (none):=by kernel_rfl
theorem aaK(F:FT)(J:JT Ia)(x:abH):cp 182 Ia Tryz.f182 F J x =
 (F 157 BI ((x.1.1,((x.1.2.1.1,x.1.2.1.2),((1:Int),()))),())).bind fun(y1:((ab×(Bool×Unit))×Unit)) =>
 some (((y1.1.1.1,y1.1.1.2),y1.1.2),()):=by kernel_rfl
theorem QM(F:FT)(J:JT jH)(x:(((List ag)×aaU)×Unit)):cp 127125 jH Tryz.f125 F J x =
 J iX (aY Tryz.prog 125 0) ((x.1.1,((((List.length x.1.1):Nat):Int),((0:Int),((((List.length x.1.1):Nat):Int),())))),(((x.1.2.1,()),()),())):=by kernel_rfl
theorem B6(F:FT)(J:JT jH)(x:(((List ag)×(Int×aaT))×(acg×Unit))):ib 127125 0 jH Tryz.f125 iX F J x =
  cond (decide (x.1.2.2.1<x.1.2.2.2.1))
   (cond (decide ((1:Int)<(0:Int)))
    (none)
    (((br x.1.1 (IntKind.wrap .i64 (lB .u64 (IntKind.wrap .u64 (IntKind.wrap .i64 (x.1.2.2.1+x.1.2.2.2.1))) (1:Int))))).bind fun(y1:ag) =>
    (F 126 Eg (((y1.1,(y1.2.1,y1.2.2)),(x.2.1.1.1,())),())).bind fun(y2:((Int×Unit)×Unit)) =>
    cond (decide (y2.1.1<(0:Int)))
     (J iX (aY Tryz.prog 125 0) ((x.1.1,(x.1.2.1,((IntKind.wrap .i64 ((IntKind.wrap .i64 (lB .u64 (IntKind.wrap .u64 (IntKind.wrap .i64 (x.1.2.2.1+x.1.2.2.2.1))) (1:Int)))+(1:Int))),x.1.2.2.2))),(((x.2.1.1.1,()),()),())))
     (J iX (aY Tryz.prog 125 0) ((x.1.1,(x.1.2.1,(x.1.2.2.1,((IntKind.wrap .i64 (lB .u64 (IntKind.wrap .u64 (IntKind.wrap .i64 (x.1.2.2.1+x.1.2.2.2.1))) (1:Int))),())))),(((x.2.1.1.1,()),()),())))))
   (cond (decide (x.1.2.2.1<x.1.2.1))
    (((br x.1.1 x.1.2.2.1)).bind fun(y3:ag) =>
    (F 126 Eg (((y3.1,(y3.2.1,y3.2.2)),(x.2.1.1.1,())),())).bind fun(y4:((Int×Unit)×Unit)) =>
    some ((x.1.2.2.1,((y4.1.1==(0:Int)),())),()))
    (some ((x.1.2.2.1,(false,())),()))):=by kernel_rfl
theorem QN(F:FT)(J:JT jI)(x:(((List ah)×aaU)×Unit)):cp 139137 jI Tryz.f137 F J x =
 J iY (aY Tryz.prog 137 0) ((x.1.1,((((List.length x.1.1):Nat):Int),((0:Int),((((List.length x.1.1):Nat):Int),())))),(((x.1.2.1,()),()),())):=by kernel_rfl
theorem B7(F:FT)(J:JT jI)(x:(((List ah)×(Int×aaT))×(acg×Unit))):ib 139137 0 jI Tryz.f137 iY F J x =
  cond (decide (x.1.2.2.1<x.1.2.2.2.1))
   (cond (decide ((1:Int)<(0:Int)))
    (none)
    (((br x.1.1 (IntKind.wrap .i64 (lB .u64 (IntKind.wrap .u64 (IntKind.wrap .i64 (x.1.2.2.1+x.1.2.2.2.1))) (1:Int))))).bind fun(y1:ah) =>
    (F 138 Eh (((y1.1,y1.2),(x.2.1.1.1,())),())).bind fun(y2:((Int×Unit)×Unit)) =>
    cond (decide (y2.1.1<(0:Int)))
     (J iY (aY Tryz.prog 137 0) ((x.1.1,(x.1.2.1,((IntKind.wrap .i64 ((IntKind.wrap .i64 (lB .u64 (IntKind.wrap .u64 (IntKind.wrap .i64 (x.1.2.2.1+x.1.2.2.2.1))) (1:Int)))+(1:Int))),x.1.2.2.2))),(((x.2.1.1.1,()),()),())))
     (J iY (aY Tryz.prog 137 0) ((x.1.1,(x.1.2.1,(x.1.2.2.1,((IntKind.wrap .i64 (lB .u64 (IntKind.wrap .u64 (IntKind.wrap .i64 (x.1.2.2.1+x.1.2.2.2.1))) (1:Int))),())))),(((x.2.1.1.1,()),()),())))))
   (cond (decide (x.1.2.2.1<x.1.2.1))
    (((br x.1.1 x.1.2.2.1)).bind fun(y3:ah) =>
    (F 138 Eh (((y3.1,y3.2),(x.2.1.1.1,())),())).bind fun(y4:((Int×Unit)×Unit)) =>
    some ((x.1.2.2.1,((y4.1.1==(0:Int)),())),()))
    (some ((x.1.2.2.1,(false,())),()))):=by kernel_rfl
theorem QO(F:FT)(J:JT kR)(x:(abC×Unit)):cp 143141 kR Tryz.f141 F J x =
  cond (decide ((((List.length x.1.1):Nat):Int)<(1:Int)))
   (none)
   (((br x.1.1 (0:Int))).bind fun(y1:ab) =>
   J kf (aY Tryz.prog 141 0) ((x.1.1,((1:Int),())),((((((0:Int),(0:Int)),(0:Int)),()),(((y1.1,y1.2),()),())),()))):=by kernel_rfl
theorem B8(F:FT)(J:JT kR)(x:(acL×(acb×Unit))):ib 143141 0 kR Tryz.f141 kf F J x =
  cond (decide (x.1.2.1<(((List.length x.1.1):Nat):Int)))
   (((br x.1.1 x.1.2.1)).bind fun(y2:ab) =>
   (F 142 Ej (((y2.1,y2.2),((x.2.1.2.1.1.1,x.2.1.2.1.1.2),())),())).bind fun(y3:((Int×Unit)×Unit)) =>
   cond (decide (y3.1.1<(0:Int)))
    (((br x.1.1 x.1.2.1)).bind fun(y4:ab) =>
    J kf (aY Tryz.prog 141 0) ((x.1.1,((IntKind.wrap .i64 (x.1.2.1+(1:Int))),())),((((x.2.1.1.1.1,x.2.1.1.1.2),()),(((y4.1,y4.2),()),())),())))
    (J kf (aY Tryz.prog 141 0) ((x.1.1,((IntKind.wrap .i64 (x.1.2.1+(1:Int))),())),((((x.2.1.1.1.1,x.2.1.1.1.2),()),(((x.2.1.2.1.1.1,x.2.1.2.1.1.2),()),())),()))))
   (some (((x.2.1.2.1.1.1,x.2.1.2.1.1.2),()),())):=by kernel_rfl
theorem QP(F:FT)(J:JT kS)(x:(((List ag)×aaU)×Unit)):cp 151149 kS Tryz.f149 F J x =
 J mB (aY Tryz.prog 149 0) ((x.1.1,((((List.length x.1.1):Nat):Int),((0:Int),()))),(((x.1.2.1,()),(((0:Int),((0:Int),(([]:List ab),((⟨#[]⟩:ByteArray),((0:Int),()))))),())),())):=by kernel_rfl
theorem B9(F:FT)(J:JT kS)(x:(acP×(acK×Unit))):ib 151149 0 kS Tryz.f149 mB F J x =
  cond (decide (x.1.2.2.1<x.1.2.1))
   (((br x.1.1 x.1.2.2.1)).bind fun(y1:ag) =>
   (F 150 H4 (((y1.1,(y1.2.1,y1.2.2)),()),())).bind fun(y2:((ID×Unit)×Unit)) =>
   cond ((y2.1.1.1==x.2.1.1.1.1)&&(y2.1.1.2==x.2.1.1.1.2))
    (some (((y1.1,(y1.2.1,y1.2.2)),(true,())),()))
    (J mB (aY Tryz.prog 149 0) ((x.1.1,(x.1.2.1,((IntKind.wrap .i64 (x.1.2.2.1+(1:Int))),()))),(((x.2.1.1.1,()),((x.2.1.2.1.1,(x.2.1.2.1.2.1,(x.2.1.2.1.2.2.1,(x.2.1.2.1.2.2.2.1,x.2.1.2.1.2.2.2.2)))),())),()))))
   (some (((((0:Int),(0:Int)),(([]:List ab),((⟨#[]⟩:ByteArray),(0:Int)))),(false,())),())):=by kernel_rfl
theorem QQ(F:FT)(J:JT jJ)(x:(((List aq)×aaO)×Unit)):cp 156154 jJ Tryz.f154 F J x =
 J iZ (aY Tryz.prog 154 0) ((x.1.1,((((List.length x.1.1):Nat):Int),((0:Int),((((List.length x.1.1):Nat):Int),())))),((((x.1.2.1.1,x.1.2.1.2),()),()),())):=by kernel_rfl
theorem Ca(F:FT)(J:JT jJ)(x:(((List aq)×(Int×aaT))×(abE×Unit))):ib 156154 0 jJ Tryz.f154 iZ F J x =
  cond (decide (x.1.2.2.1<x.1.2.2.2.1))
   (cond (decide ((1:Int)<(0:Int)))
    (none)
    (((br x.1.1 (IntKind.wrap .i64 (lB .u64 (IntKind.wrap .u64 (IntKind.wrap .i64 (x.1.2.2.1+x.1.2.2.2.1))) (1:Int))))).bind fun(y1:aq) =>
    (F 155 Ek ((((y1.1.1,y1.1.2),(y1.2.1,y1.2.2)),((x.2.1.1.1.1,x.2.1.1.1.2),())),())).bind fun(y2:((Int×Unit)×Unit)) =>
    cond (decide (y2.1.1<(0:Int)))
     (J iZ (aY Tryz.prog 154 0) ((x.1.1,(x.1.2.1,((IntKind.wrap .i64 ((IntKind.wrap .i64 (lB .u64 (IntKind.wrap .u64 (IntKind.wrap .i64 (x.1.2.2.1+x.1.2.2.2.1))) (1:Int)))+(1:Int))),x.1.2.2.2))),((((x.2.1.1.1.1,x.2.1.1.1.2),()),()),())))
     (J iZ (aY Tryz.prog 154 0) ((x.1.1,(x.1.2.1,(x.1.2.2.1,((IntKind.wrap .i64 (lB .u64 (IntKind.wrap .u64 (IntKind.wrap .i64 (x.1.2.2.1+x.1.2.2.2.1))) (1:Int))),())))),((((x.2.1.1.1.1,x.2.1.1.1.2),()),()),())))))
   (cond (decide (x.1.2.2.1<x.1.2.1))
    (((br x.1.1 x.1.2.2.1)).bind fun(y3:aq) =>
    (F 155 Ek ((((y3.1.1,y3.1.2),(y3.2.1,y3.2.2)),((x.2.1.1.1.1,x.2.1.1.1.2),())),())).bind fun(y4:((Int×Unit)×Unit)) =>
    some ((x.1.2.2.1,((y4.1.1==(0:Int)),())),()))
    (some ((x.1.2.2.1,(false,())),()))):=by kernel_rfl
theorem QR(F:FT)(J:JT jK)(x:(((List aq)×Unit)×abE)):cp 164162 jK Tryz.f162 F J x =
 J kg (aY Tryz.prog 162 0) ((x.1.1,((((List.length x.1.1):Nat):Int),((0:Int),()))),((((x.2.1.1.1,x.2.1.1.2),()),()),())):=by kernel_rfl
theorem Cb(F:FT)(J:JT jK)(x:(((List aq)×aaT)×(abE×Unit))):ib 164162 0 jK Tryz.f162 kg F J x =
  cond (decide (x.1.2.2.1<x.1.2.1))
   (((br x.1.1 x.1.2.2.1)).bind fun(y1:aq) =>
   (F 163 H7 ((((y1.1.1,y1.1.2),(y1.2.1,y1.2.2)),()),((x.2.1.1.1.1.1,(x.2.1.1.1.1.2,(x.2.1.1.1.2,()))),()))).bind fun(y2:((Bool×Unit)×((Int×(Int×(Int×Unit)))×Unit))) =>
   cond y2.1.1
    (some (x.1.2.2,((((y2.2.1.1,y2.2.1.2.1),y2.2.1.2.2.1),()),())))
    (J kg (aY Tryz.prog 162 0) ((x.1.1,(x.1.2.1,((IntKind.wrap .i64 (x.1.2.2.1+(1:Int))),()))),(((((y2.2.1.1,y2.2.1.2.1),y2.2.1.2.2.1),()),()),()))))
   (some (((-1:Int),()),(((x.2.1.1.1.1,x.2.1.1.1.2),()),()))):=by kernel_rfl
theorem QS(F:FT)(J:JT kT)(x:(((List ag)×Unit)×Unit)):cp 166164 kT Tryz.f164 F J x =
 J kh (aY Tryz.prog 164 0) (((0:Int),(x.1.1,((((List.length x.1.1):Nat):Int),((0:Int),())))),((),())):=by kernel_rfl
theorem Cc(F:FT)(J:JT kT)(x:((Int×acP)×aca)):ib 166164 0 kT Tryz.f164 kh F J x =
  cond (decide (x.1.2.2.2.1<x.1.2.2.1))
   (((br x.1.2.1 x.1.2.2.2.1)).bind fun(y1:ag) =>
   (F 165 H8 (((y1.1,(y1.2.1,y1.2.2)),()),())).bind fun(y2:((Bool×Unit)×Unit)) =>
   cond y2.1.1
    (J kh (aY Tryz.prog 164 0) (((IntKind.wrap .i64 (x.1.1+(1:Int))),(x.1.2.1,(x.1.2.2.1,((IntKind.wrap .i64 (x.1.2.2.2.1+(1:Int))),())))),((),())))
    (J kh (aY Tryz.prog 164 0) ((x.1.1,(x.1.2.1,(x.1.2.2.1,((IntKind.wrap .i64 (x.1.2.2.2.1+(1:Int))),())))),((),()))))
   (some ((x.1.1,()),())):=by kernel_rfl
end Go.Vs
