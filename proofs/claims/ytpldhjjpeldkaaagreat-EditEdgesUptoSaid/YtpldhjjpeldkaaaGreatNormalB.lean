/- Normal forms of the program's functions, the second part. -/
import Derived.Test.YtpldhjjpeldkaaaGreatEngineD
import Derived.KernelRfl
set_option linter.unusedVariables false
set_option maxRecDepth 1000000
set_option maxHeartbeats 0
namespace Go.Vs
open Go.Proofs
theorem aeQ(F:FT)(J:JT PW)(x:ab3):cp 15 PW Tryz.f15 F J x =
  (F 45 Nm (((x.1.2.1.1,(x.1.2.1.2.1,(x.1.2.1.2.2.1,(x.1.2.1.2.2.2.1,((x.1.2.1.2.2.2.2.1.1,(x.1.2.1.2.2.2.2.1.2.1,x.1.2.1.2.2.2.2.1.2.2)),((x.1.2.1.2.2.2.2.2.1.1,(x.1.2.1.2.2.2.2.2.1.2.1,x.1.2.1.2.2.2.2.2.1.2.2)),(x.1.2.1.2.2.2.2.2.2.1,x.1.2.1.2.2.2.2.2.2.2))))))),()),())).bind fun(y1:((Int×Unit)×Unit)) =>
  cond (y1.1.1 != (0:Int))
   (some ((((([]:List ag),([]:List ah)),([]:List aq)),y1.1),()))
   ((F 18 kQ ((x.1.1.1,(x.1.2.1.2.1,())),())).bind fun(y2:((ag×(Bool×Unit))×Unit)) =>
   cond (x.1.2.1.1==(1:Int))
    (cond y2.1.2.1
     (some ((((([]:List ag),([]:List ah)),([]:List aq)),((12:Int),())),()))
     (cond (decide ((((List.length x.1.1.1.1):Nat):Int)≥(24:Int)))
      (some ((((([]:List ag),([]:List ah)),([]:List aq)),((3:Int),())),()))
      ((F 46 Fy ((x.1.1.1,((x.1.2.1.2.1,(([]:List ab),((⟨#[]⟩:ByteArray),(0:Int)))),())),())).bind fun(y3:((ai×Unit)×Unit)) =>
      some (((y3.1.1,x.1.1.2),((0:Int),())),()))))
    (cond (x.1.2.1.1==(2:Int))
     (cond (not y2.1.2.1)
      (some ((((([]:List ag),([]:List ah)),([]:List aq)),((13:Int),())),()))
      (cond (decide ((((List.length y2.1.1.2.1):Nat):Int)>(0:Int)))
       (some ((((([]:List ag),([]:List ah)),([]:List aq)),((14:Int),())),()))
       ((F 47 pU ((x.1.1.1,(x.1.2.1.2.1,(((0:Int),(0:Int)),()))),())).bind fun(y4:((ai×Unit)×Unit)) =>
       some (((y4.1.1,x.1.1.2),((0:Int),())),()))))
     (cond (x.1.2.1.1==(3:Int))
      ((F 48 P3 (((x.1.1.1,x.1.1.2),((x.1.2.1.1,(x.1.2.1.2.1,(x.1.2.1.2.2.1,(x.1.2.1.2.2.2.1,((x.1.2.1.2.2.2.2.1.1,(x.1.2.1.2.2.2.2.1.2.1,x.1.2.1.2.2.2.2.1.2.2)),((x.1.2.1.2.2.2.2.2.1.1,(x.1.2.1.2.2.2.2.2.1.2.1,x.1.2.1.2.2.2.2.2.1.2.2)),(x.1.2.1.2.2.2.2.2.2.1,x.1.2.1.2.2.2.2.2.2.2))))))),())),())).bind fun(y5:((StateT×(Int×Unit))×Unit)) =>
      some (((y5.1.1.1,y5.1.1.2),y5.1.2),()))
      (cond (x.1.2.1.1==(4:Int))
       ((F 49 P4 (((x.1.1.1,x.1.1.2),((x.1.2.1.1,(x.1.2.1.2.1,(x.1.2.1.2.2.1,(x.1.2.1.2.2.2.1,((x.1.2.1.2.2.2.2.1.1,(x.1.2.1.2.2.2.2.1.2.1,x.1.2.1.2.2.2.2.1.2.2)),((x.1.2.1.2.2.2.2.2.1.1,(x.1.2.1.2.2.2.2.2.1.2.1,x.1.2.1.2.2.2.2.2.1.2.2)),(x.1.2.1.2.2.2.2.2.2.1,x.1.2.1.2.2.2.2.2.2.2))))))),())),())).bind fun(y6:((StateT×(Int×Unit))×Unit)) =>
       some (((y6.1.1.1,y6.1.1.2),y6.1.2),()))
       (cond (x.1.2.1.1==(5:Int))
        ((F 50 P5 (((x.1.1.1,x.1.1.2),((x.1.2.1.1,(x.1.2.1.2.1,(x.1.2.1.2.2.1,(x.1.2.1.2.2.2.1,((x.1.2.1.2.2.2.2.1.1,(x.1.2.1.2.2.2.2.1.2.1,x.1.2.1.2.2.2.2.1.2.2)),((x.1.2.1.2.2.2.2.2.1.1,(x.1.2.1.2.2.2.2.2.1.2.1,x.1.2.1.2.2.2.2.2.1.2.2)),(x.1.2.1.2.2.2.2.2.2.1,x.1.2.1.2.2.2.2.2.2.2))))))),())),())).bind fun(y7:((StateT×(Int×Unit))×Unit)) =>
        some (((y7.1.1.1,y7.1.1.2),y7.1.2),()))
        (cond (x.1.2.1.1==(6:Int))
         ((F 51 zr (((x.1.1.1,x.1.1.2),((x.1.2.1.1,(x.1.2.1.2.1,(x.1.2.1.2.2.1,(x.1.2.1.2.2.2.1,((x.1.2.1.2.2.2.2.1.1,(x.1.2.1.2.2.2.2.1.2.1,x.1.2.1.2.2.2.2.1.2.2)),((x.1.2.1.2.2.2.2.2.1.1,(x.1.2.1.2.2.2.2.2.1.2.1,x.1.2.1.2.2.2.2.2.1.2.2)),(x.1.2.1.2.2.2.2.2.2.1,x.1.2.1.2.2.2.2.2.2.2))))))),())),())).bind fun(y8:((StateT×(Int×Unit))×Unit)) =>
         some (((y8.1.1.1,y8.1.1.2),y8.1.2),()))
         ((F 52 Bz (((x.1.1.1,x.1.1.2),((x.1.2.1.1,(x.1.2.1.2.1,(x.1.2.1.2.2.1,(x.1.2.1.2.2.2.1,((x.1.2.1.2.2.2.2.1.1,(x.1.2.1.2.2.2.2.1.2.1,x.1.2.1.2.2.2.2.1.2.2)),((x.1.2.1.2.2.2.2.2.1.1,(x.1.2.1.2.2.2.2.2.1.2.1,x.1.2.1.2.2.2.2.2.1.2.2)),(x.1.2.1.2.2.2.2.2.2.1,x.1.2.1.2.2.2.2.2.2.2))))))),())),())).bind fun(y9:((StateT×(Int×Unit))×Unit)) =>
         some (((y9.1.1.1,y9.1.1.2),y9.1.2),())))))))):=by kernel_rfl
theorem aeR(F:FT)(J:JT HB)(x:(((List (List bL))×Unit)×Unit)):cp 17 HB Tryz.f17 F J x =
 J BL (aY Tryz.prog 17 0) ((x.1.1,((0:Int),())),(((((([]:List ag),([]:List ah)),([]:List aq)),()),((((([]:List ag),([]:List ah)),([]:List aq)),()),())),())):=by kernel_rfl
theorem Qb(F:FT)(J:JT HB)(x:(((List (List bL))×aaN)×((ab7×(ab7×Unit))×Unit))):ib 17 0 HB Tryz.f17 BL F J x =
  cond (decide (x.1.2.1<(((List.length x.1.1):Nat):Int)))
   (cond (decide (x.1.2.1<(30:Int)))
    (((br x.1.1 x.1.2.1)).bind fun(y1:(List bL)) =>
    (F 34 Nl ((y1,()),())).bind fun(y2:(((List bL)×Unit)×Unit)) =>
    (F 37 P1 (((x.2.1.2.1.1.1,x.2.1.2.1.1.2),y2.1),())).bind fun(y3:((StateT×Unit)×Unit)) =>
    J BL (aY Tryz.prog 17 0) ((x.1.1,((IntKind.wrap .i64 (x.1.2.1+(1:Int))),())),((((x.2.1.1.1.1,x.2.1.1.1.2),()),(((y3.1.1.1,y3.1.1.2),()),())),())))
    (some (((x.2.1.2.1.1.1,x.2.1.2.1.1.2),()),())))
   (some (((x.2.1.2.1.1.1,x.2.1.2.1.1.2),()),())):=by kernel_rfl
theorem aeS(F:FT)(J:JT kQ)(x:((ai×aaU)×Unit)):cp 18 kQ Tryz.f18 F J x =
 J BM (aY Tryz.prog 18 0) (((0:Int),()),(((x.1.1,()),((x.1.2.1,()),(((0:Int),((0:Int),(([]:List ab),((⟨#[]⟩:ByteArray),((0:Int),()))))),()))),())):=by kernel_rfl
theorem Qc(F:FT)(J:JT kQ)(x:(aaN×((ab5×acK)×Unit))):ib 18 0 kQ Tryz.f18 BM F J x =
  cond (decide (x.1.1<(((List.length x.2.1.1.1.1):Nat):Int)))
   (((br x.2.1.1.1.1 x.1.1)).bind fun(y1:ag) =>
   cond ((y1.1.1==x.2.1.2.1.1.1)&&(y1.1.2==x.2.1.2.1.1.2))
    (((br x.2.1.1.1.1 x.1.1)).bind fun(y2:ag) =>
    some (((y2.1,(y2.2.1,y2.2.2)),(true,())),()))
    (J BM (aY Tryz.prog 18 0) (((IntKind.wrap .i64 (x.1.1+(1:Int))),()),(((x.2.1.1.1,()),((x.2.1.2.1.1,()),((x.2.1.2.2.1.1,(x.2.1.2.2.1.2.1,(x.2.1.2.2.1.2.2.1,(x.2.1.2.2.1.2.2.2.1,x.2.1.2.2.1.2.2.2.2)))),()))),()))))
   (some (((((0:Int),(0:Int)),(([]:List ab),((⟨#[]⟩:ByteArray),(0:Int)))),(false,())),())):=by kernel_rfl
theorem aeT(F:FT)(J:JT By)(x:acg):cp 19 By Tryz.f19 F J x =
  cond (decide (x.1.1.1≥(1:Int)))
   (cond (decide (x.1.1.1≤(8:Int)))
    (cond (decide (x.1.1.2≥(1:Int)))
     (some (((decide (x.1.1.2≤(1048576:Int))),()),()))
     (some ((false,()),())))
    (some ((false,()),())))
   (some ((false,()),())):=by kernel_rfl
theorem aeU(F:FT)(J:JT rj)(x:abW):cp 20 rj Tryz.f20 F J x =
 J BN (aY Tryz.prog 20 0) (((0:Int),()),(((x.1.1,()),(((x.1.2.1.1,x.1.2.1.2),()),((((0:Int),(0:Int)),()),()))),())):=by kernel_rfl
theorem Qd(F:FT)(J:JT rj)(x:(aaN×((ab5×(aaO×acg))×Unit))):ib 20 0 rj Tryz.f20 BN F J x =
  cond (decide (x.1.1<(((List.length x.2.1.1.1.1):Nat):Int)))
   (((br x.2.1.1.1.1 x.1.1)).bind fun(y1:ag) =>
   (F 24 qB ((y1.2.1,((x.2.1.2.1.1.1,x.2.1.2.1.1.2),())),())).bind fun(y2:((Int×Unit)×Unit)) =>
   cond (decide (y2.1.1≥(0:Int)))
    (((br x.2.1.1.1.1 x.1.1)).bind fun(y3:ag) =>
    some ((y3.1,(true,())),()))
    (J BN (aY Tryz.prog 20 0) (((IntKind.wrap .i64 (x.1.1+(1:Int))),()),(((x.2.1.1.1,()),(((x.2.1.2.1.1.1,x.2.1.2.1.1.2),()),((x.2.1.2.2.1.1,()),()))),()))))
   (some ((((0:Int),(0:Int)),(false,())),())):=by kernel_rfl
theorem aeV(F:FT)(J:JT xg)(x:((ai×aaU)×Unit)):cp 21 xg Tryz.f21 F J x =
 J BO (aY Tryz.prog 21 0) (((0:Int),()),(((x.1.1,()),((x.1.2.1,()),(((((0:Int),(0:Int)),((⟨#[]⟩:ByteArray),(0:Int))),()),()))),())):=by kernel_rfl
theorem Qe(F:FT)(J:JT xg)(x:(aaN×((ab5×(aaU×((ah×Unit)×Unit)))×Unit))):ib 21 0 xg Tryz.f21 BO F J x =
  cond (decide (x.1.1<(((List.length x.2.1.1.1.2):Nat):Int)))
   (((br x.2.1.1.1.2 x.1.1)).bind fun(y1:ah) =>
   cond ((y1.1.1==x.2.1.2.1.1.1)&&(y1.1.2==x.2.1.2.1.1.2))
    (((br x.2.1.1.1.2 x.1.1)).bind fun(y2:ah) =>
    some (((y2.1,y2.2),(true,())),()))
    (J BO (aY Tryz.prog 21 0) (((IntKind.wrap .i64 (x.1.1+(1:Int))),()),(((x.2.1.1.1,()),((x.2.1.2.1.1,()),(((x.2.1.2.2.1.1.1,x.2.1.2.2.1.1.2),()),()))),()))))
   (some (((((0:Int),(0:Int)),((⟨#[]⟩:ByteArray),(0:Int))),(false,())),())):=by kernel_rfl
theorem aeW(F:FT)(J:JT Dt)(x:abW):cp 22 Dt Tryz.f22 F J x =
  (F 54 Nn ((x.1.1,((x.1.2.1.1,x.1.2.1.2),())),())).bind fun(y1:((ab×(Bool×Unit))×Unit)) =>
  cond (not y1.1.2.1)
   (some ((([]:List ab),()),()))
   (cond (aP (List.length ([]:List ab)) (List.length ((x.1.2.1.1,x.1.2.1.2)::([]:List ab))))
    (J BP (aY Tryz.prog 22 0) ((),(((x.1.1,()),(((x.1.2.1.1,x.1.2.1.2),()),(((y1.1.1.1,y1.1.1.2),()),()))),((([]:List ab)++((x.1.2.1.1,x.1.2.1.2)::([]:List ab))),()))))
    (none)):=by kernel_rfl
theorem Qf(F:FT)(J:JT Dt)(x:(Unit×((ab5×acb)×abC))):ib 22 0 Dt Tryz.f22 BP F J x =
  cond (not (((x.2.1.2.2.1.1.1.1==x.2.1.2.1.1.1.1)&&(x.2.1.2.2.1.1.1.2==x.2.1.2.1.1.1.2))&&(x.2.1.2.2.1.1.2==x.2.1.2.1.1.2)))
   (cond (decide ((((List.length x.2.2.1):Nat):Int)<(82:Int)))
    (cond (aP (List.length x.2.2.1) (List.length ((x.2.1.2.2.1.1.1,x.2.1.2.2.1.1.2)::([]:List ab))))
     ((F 54 Nn ((x.2.1.1.1,((x.2.1.2.2.1.1.1,x.2.1.2.2.1.1.2),())),())).bind fun(y2:((ab×(Bool×Unit))×Unit)) =>
     J BP (aY Tryz.prog 22 0) ((),(((x.2.1.1.1,()),(((x.2.1.2.1.1.1,x.2.1.2.1.1.2),()),(((y2.1.1.1,y2.1.1.2),()),()))),((x.2.2.1++((x.2.1.2.2.1.1.1,x.2.1.2.2.1.1.2)::([]:List ab))),()))))
     (none))
    (some (x.2.2,())))
   (some (x.2.2,())):=by kernel_rfl
theorem aeX(F:FT)(J:JT zp)(x:abE):cp 23 zp Tryz.f23 F J x =
 some (((x.1.1.1,(IntKind.wrap .i64 ((1:Int)-x.1.1.2))),()),()):=by kernel_rfl
theorem aeY(F:FT)(J:JT qB)(x:abH):cp 24 qB Tryz.f24 F J x =
 J BQ (aY Tryz.prog 24 0) ((x.1.1,((0:Int),())),((((x.1.2.1.1,x.1.2.1.2),()),()),())):=by kernel_rfl
theorem Qg(F:FT)(J:JT qB)(x:(acL×(abE×Unit))):ib 24 0 qB Tryz.f24 BQ F J x =
  cond (decide (x.1.2.1<(((List.length x.1.1):Nat):Int)))
   (((br x.1.1 x.1.2.1)).bind fun(y1:ab) =>
   cond (((y1.1.1==x.2.1.1.1.1.1)&&(y1.1.2==x.2.1.1.1.1.2))&&(y1.2==x.2.1.1.1.2))
    (some (x.1.2,()))
    (J BQ (aY Tryz.prog 24 0) ((x.1.1,((IntKind.wrap .i64 (x.1.2.1+(1:Int))),())),((((x.2.1.1.1.1,x.2.1.1.1.2),()),()),()))))
   (some (((-1:Int),()),())):=by kernel_rfl
theorem aeZ(F:FT)(J:JT PX)(x:((ai×(ID×aaU))×Unit)):cp 25 PX Tryz.f25 F J x =
  (F 55 vG ((x.1.1,(x.1.2.1,())),())).bind fun(y1:((Int×Unit)×Unit)) =>
  (F 55 vG ((x.1.1,(x.1.2.2.1,())),())).bind fun(y2:((Int×Unit)×Unit)) =>
  (F 56 rk ((x.1.1,()),())).bind fun(y3:(((List Int)×Unit)×Unit)) =>
  cond (decide (y1.1.1≥(0:Int)))
   (cond (decide (y2.1.1≥(0:Int)))
    (cond ((decide ((0:Int)≤y1.1.1))&&(decide (y1.1.1<(((List.length y3.1.1):Nat):Int))))
     (((y3.1.1)[(Int.toNat y1.1.1)]?).bind fun(y4:Int) =>
     cond ((decide ((0:Int)≤y2.1.1))&&(decide (y2.1.1<(((List.length y3.1.1):Nat):Int))))
      (((y3.1.1)[(Int.toNat y2.1.1)]?).bind fun(y5:Int) =>
      some (((y4==y5),()),()))
      (none))
     (none))
    (some ((false,()),())))
   (some ((false,()),())):=by kernel_rfl
theorem ae0(F:FT)(J:JT zq)(x:abH):cp 26 zq Tryz.f26 F J x =
  (F 24 qB ((x.1.1,((x.1.2.1.1,x.1.2.1.2),())),())).bind fun(y1:((Int×Unit)×Unit)) =>
  cond (decide (y1.1.1<(0:Int)))
   (some (((((0:Int),(0:Int)),(0:Int)),(false,())),()))
   (cond ((((List.length x.1.1):Nat):Int)==(0:Int))
    (none)
    (((br x.1.1 (Int.tmod (IntKind.wrap .i64 ((IntKind.wrap .i64 (y1.1.1+(((List.length x.1.1):Nat):Int)))-(1:Int))) (((List.length x.1.1):Nat):Int)))).bind fun(y2:ab) =>
    some (((y2.1,y2.2),(true,())),()))):=by kernel_rfl
theorem ae1(F:FT)(J:JT xh)(x:((ai×ab5)×Unit)):cp 27 xh Tryz.f27 F J x =
  cond ((((List.length x.1.1.1):Nat):Int) != (((List.length x.1.2.1.1):Nat):Int))
   (some ((false,()),()))
   (cond ((((List.length x.1.1.2):Nat):Int) != (((List.length x.1.2.1.2):Nat):Int))
    (some ((false,()),()))
    (J BR (aY Tryz.prog 27 0) (((0:Int),()),(((x.1.1,()),((x.1.2.1,()),())),())))):=by kernel_rfl
theorem Qh(F:FT)(J:JT xh)(x:(aaN×((ab5×aaS)×Unit))):ib 27 0 xh Tryz.f27 BR F J x =
  cond (decide (x.1.1<(((List.length x.2.1.1.1.1):Nat):Int)))
   (((br x.2.1.1.1.1 x.1.1)).bind fun(y1:ag) =>
   ((br x.2.1.2.1.1.1 x.1.1)).bind fun(y2:ag) =>
   (F 57 HI ((y1.2.1,(y2.2.1,())),())).bind fun(y3:((Bool×Unit)×Unit)) =>
   cond (not ((y1.1.1==y2.1.1)&&(y1.1.2==y2.1.2)))
    (some ((false,()),()))
    (cond (not (y1.2.2.1==y2.2.2.1))
     (some ((false,()),()))
     (cond (y1.2.2.2 != y2.2.2.2)
      (some ((false,()),()))
      (cond (not y3.1.1)
       (some ((false,()),()))
       (J BR (aY Tryz.prog 27 0) (((IntKind.wrap .i64 (x.1.1+(1:Int))),()),(((x.2.1.1.1,()),((x.2.1.2.1.1,()),())),())))))))
   (J BS (aY Tryz.prog 27 1) (((0:Int),()),(((x.2.1.1.1,()),((x.2.1.2.1.1,()),())),()))):=by kernel_rfl
theorem Qi(F:FT)(J:JT xh)(x:(aaN×((ab5×aaS)×Unit))):ib 27 1 xh Tryz.f27 BS F J x =
  cond (decide (x.1.1<(((List.length x.2.1.1.1.2):Nat):Int)))
   (((br x.2.1.1.1.2 x.1.1)).bind fun(y4:ah) =>
   ((br x.2.1.2.1.1.2 x.1.1)).bind fun(y5:ah) =>
   cond (not (((y4.1.1==y5.1.1)&&(y4.1.2==y5.1.2))&&((y4.2.1==y5.2.1)&&(y4.2.2==y5.2.2))))
    (some ((false,()),()))
    (J BS (aY Tryz.prog 27 1) (((IntKind.wrap .i64 (x.1.1+(1:Int))),()),(((x.2.1.1.1,()),((x.2.1.2.1.1,()),())),()))))
   (some ((true,()),())):=by kernel_rfl
theorem ae2(F:FT)(J:JT Fx)(x:((ByteArray×Unit)×Unit)):cp 28 Fx Tryz.f28 F J x =
 J BT (aY Tryz.prog 28 0) ((x.1.1,((0:Int),())),((),())):=by kernel_rfl
theorem Qj(F:FT)(J:JT Fx)(x:((ByteArray×aaN)×aca)):ib 28 0 Fx Tryz.f28 BT F J x =
  cond (decide (x.1.2.1<(((ByteArray.size x.1.1):Nat):Int)))
   (((if 0≤x.1.2.1 then(x.1.1)[Int.toNat x.1.2.1]? else none)).bind fun(y1:UInt8) =>
   cond (decide (((UInt8.toNat y1:Nat):Int)<(32:Int)))
    (some ((false,()),()))
    (((if 0≤x.1.2.1 then(x.1.1)[Int.toNat x.1.2.1]? else none)).bind fun(y2:UInt8) =>
    cond (decide (((UInt8.toNat y2:Nat):Int)>(126:Int)))
     (some ((false,()),()))
     (J BT (aY Tryz.prog 28 0) ((x.1.1,((IntKind.wrap .i64 (x.1.2.1+(1:Int))),())),((),())))))
   (some (((decide ((((ByteArray.size x.1.1):Nat):Int)≤(16:Int))),()),())):=by kernel_rfl
theorem ae3(F:FT)(J:JT Nk)(x:(aaN×Unit)):cp 29 Nk Tryz.f29 F J x =
  cond (decide (x.1.1≥(-1099511627776:Int)))
   (some (((decide (x.1.1≤(1099511627776:Int))),()),()))
   (some ((false,()),())):=by kernel_rfl
theorem ae4(F:FT)(J:JT PY)(x:acE):cp 30 PY Tryz.f30 F J x =
  (F 58 Ke (x.1.2,())).bind fun(y1:((Int×Unit)×Unit)) =>
  cond (y1.1.1 != (0:Int))
   (some ((((([]:List ag),([]:List ah)),([]:List aq)),y1.1),()))
   ((F 44 HH (((x.1.1.1,x.1.1.2),x.1.2),())).bind fun(y2:((StateT×(Int×Unit))×Unit)) =>
   some (((y2.1.1.1,y2.1.1.2),y2.1.2),())):=by kernel_rfl
theorem ae5(F:FT)(J:JT HC)(x:aaS):cp 31 HC Tryz.f31 F J x =
 (F 59 Fz ((x.1.1,()),())).bind fun(y1:(((List ab)×Unit)×Unit)) =>
 J xj (aY Tryz.prog 31 0) (((0:Int),()),(((x.1.1,()),()),(([]:List (List ab)),(([]:List ab),y1.1)))):=by kernel_rfl
theorem Qk(F:FT)(J:JT HC)(x:(aaN×(aaS×((List (List ab))×((List ab)×abC))))):ib 31 0 HC Tryz.f31 xj F J x =
  cond (decide (x.1.1<(((List.length x.2.2.2.2.1):Nat):Int)))
   (cond ((decide ((0:Int)≤x.1.1))&&(decide (x.1.1<(((List.length x.2.2.2.2.1):Nat):Int))))
    (((x.2.2.2.2.1)[(Int.toNat x.1.1)]?).bind fun(y2:ab) =>
    (F 24 qB ((x.2.2.2.1,((y2.1,y2.2),())),())).bind fun(y3:((Int×Unit)×Unit)) =>
    cond (decide (y3.1.1≥(0:Int)))
     (J xj (aY Tryz.prog 31 0) (((IntKind.wrap .i64 (x.1.1+(1:Int))),()),(((x.2.1.1.1,()),()),(x.2.2.1,(x.2.2.2.1,x.2.2.2.2)))))
     (cond ((decide ((0:Int)≤x.1.1))&&(decide (x.1.1<(((List.length x.2.2.2.2.1):Nat):Int))))
      (((x.2.2.2.2.1)[(Int.toNat x.1.1)]?).bind fun(y4:ab) =>
      (F 22 Dt ((x.2.1.1.1,((y4.1,y4.2),())),())).bind fun(y5:(((List ab)×Unit)×Unit)) =>
      cond (aP (List.length x.2.2.1) (List.length (y5.1.1::([]:List (List ab)))))
       (cond (aP (List.length x.2.2.2.1) (List.length y5.1.1))
        (J xj (aY Tryz.prog 31 0) (((IntKind.wrap .i64 (x.1.1+(1:Int))),()),(((x.2.1.1.1,()),()),((x.2.2.1++(y5.1.1::([]:List (List ab)))),((x.2.2.2.1++y5.1.1),x.2.2.2.2)))))
        (none))
       (none))
      (none)))
    (none))
   (some ((x.2.2.1,()),())):=by kernel_rfl
theorem ae6(F:FT)(J:JT HD)(x:aaS):cp 32 HD Tryz.f32 F J x =
 (F 56 rk ((x.1.1,()),())).bind fun(y1:(((List Int)×Unit)×Unit)) =>
 J xk (aY Tryz.prog 32 0) (((0:Int),((0:Int),())),((),y1.1)):=by kernel_rfl
theorem Ql(F:FT)(J:JT HD)(x:(aaT×(Unit×abP))):ib 32 0 HD Tryz.f32 xk F J x =
  cond (decide (x.1.2.1<(((List.length x.2.2.1):Nat):Int)))
   (cond ((decide ((0:Int)≤x.1.2.1))&&(decide (x.1.2.1<(((List.length x.2.2.1):Nat):Int))))
    (((x.2.2.1)[(Int.toNat x.1.2.1)]?).bind fun(y2:Int) =>
    cond (y2==x.1.2.1)
     (J xk (aY Tryz.prog 32 0) (((IntKind.wrap .i64 (x.1.1+(1:Int))),((IntKind.wrap .i64 (x.1.2.1+(1:Int))),())),((),x.2.2)))
     (J xk (aY Tryz.prog 32 0) ((x.1.1,((IntKind.wrap .i64 (x.1.2.1+(1:Int))),())),((),x.2.2))))
    (none))
   (some ((x.1.1,()),())):=by kernel_rfl
theorem ae7(F:FT)(J:JT PZ)(x:aca):cp 33 PZ Tryz.f33 F J x =
 some ((((([]:List ag),([]:List ah)),([]:List aq)),()),()):=by kernel_rfl
theorem ae8(F:FT)(J:JT Nl)(x:(ab1×Unit)):cp 34 Nl Tryz.f34 F J x =
  cond (decide ((((List.length x.1.1):Nat):Int)>(8:Int)))
   (cond (bj (List.length x.1.1) (0:Int) (8:Int))
    (some (((cut x.1.1 (0:Int) (8:Int)),()),()))
    (none))
   (some (x.1,())):=by kernel_rfl
theorem ae9(F:FT)(J:JT HE)(x:acE):cp 35 HE Tryz.f35 F J x =
  (F 41 HF (x.1.2,())).bind fun(y1:((Int×Unit)×Unit)) =>
  cond (y1.1.1 != (0:Int))
   (some ((((([]:List ag),([]:List ah)),([]:List aq)),y1.1),()))
   (J BU (aY Tryz.prog 35 0) (((0:Int),()),((((x.1.1.1,x.1.1.2),()),(x.1.2,((([]:List ag),(([]:List ah),(([]:List aq),()))),()))),()))):=by kernel_rfl
theorem Qm(F:FT)(J:JT HE)(x:(aaN×((ab7×(ab1×abJ))×Unit))):ib 35 0 HE Tryz.f35 BU F J x =
  cond (decide (x.1.1<(((List.length x.2.1.2.1.1):Nat):Int)))
   (((br x.2.1.2.1.1 x.1.1)).bind fun(y2:bL) =>
   (F 15 PW (((x.2.1.1.1.1,x.2.1.1.1.2),((y2.1,(y2.2.1,(y2.2.2.1,(y2.2.2.2.1,((y2.2.2.2.2.1.1,(y2.2.2.2.2.1.2.1,y2.2.2.2.2.1.2.2)),((y2.2.2.2.2.2.1.1,(y2.2.2.2.2.2.1.2.1,y2.2.2.2.2.2.1.2.2)),(y2.2.2.2.2.2.2.1,y2.2.2.2.2.2.2.2))))))),())),())).bind fun(y3:((StateT×(Int×Unit))×Unit)) =>
   cond (y3.1.2.1 != (0:Int))
    (some ((((([]:List ag),([]:List ah)),([]:List aq)),y3.1.2),()))
    (J BU (aY Tryz.prog 35 0) (((IntKind.wrap .i64 (x.1.1+(1:Int))),()),((((y3.1.1.1,y3.1.1.2),()),(x.2.1.2.1,((x.2.1.2.2.1.1,(x.2.1.2.2.1.2.1,x.2.1.2.2.1.2.2)),()))),()))))
   (some (((x.2.1.1.1.1,x.2.1.1.1.2),((0:Int),())),())):=by kernel_rfl
theorem afa(F:FT)(J:JT P1)(x:acE):cp 37 P1 Tryz.f37 F J x =
  (F 35 HE (((x.1.1.1,x.1.1.2),x.1.2),())).bind fun(y1:((StateT×(Int×Unit))×Unit)) =>
  cond (y1.1.2.1 != (0:Int))
   (some (((x.1.1.1,x.1.1.2),()),()))
   (some (((y1.1.1.1,y1.1.1.2),()),())):=by kernel_rfl
theorem afb(F:FT)(J:JT Du)(x:aaS):cp 38 Du Tryz.f38 F J x =
  cond (aP (List.length ([]:List ah)) (List.length x.1.1.2))
   (J BV (aY Tryz.prog 38 0) (((0:Int),()),(((x.1.1,()),((([]:List ag),(([]:List ah),())),((([]:List ag),((([]:List ah)++x.1.1.2),())),()))),())))
   (none):=by kernel_rfl
theorem Qn(F:FT)(J:JT Du)(x:(aaN×((ab5×ab6)×Unit))):ib 38 0 Du Tryz.f38 BV F J x =
  cond (decide (x.1.1<(((List.length x.2.1.1.1.1):Nat):Int)))
   (((br x.2.1.1.1.1 x.1.1)).bind fun(y1:ag) =>
   cond (aP (List.length ([]:List ab)) (List.length y1.2.1))
    (cond (aP (List.length x.2.1.2.2.1.1) (List.length ((y1.1,((([]:List ab)++y1.2.1),y1.2.2))::([]:List ag))))
     (J BV (aY Tryz.prog 38 0) (((IntKind.wrap .i64 (x.1.1+(1:Int))),()),(((x.2.1.1.1,()),((x.2.1.2.1.1,x.2.1.2.1.2),(((x.2.1.2.2.1.1++((y1.1,((([]:List ab)++y1.2.1),y1.2.2))::([]:List ag))),x.2.1.2.2.1.2),()))),())))
     (none))
    (none))
   (some (((x.2.1.2.2.1.1,x.2.1.2.2.1.2),()),())):=by kernel_rfl
theorem afc(F:FT)(J:JT HF)(x:(ab1×Unit)):cp 41 HF Tryz.f41 F J x =
  cond (decide ((((List.length x.1.1):Nat):Int)<(1:Int)))
   (some (((3:Int),()),()))
   (cond (decide ((((List.length x.1.1):Nat):Int)>(6:Int)))
    (some (((3:Int),()),()))
    (J BW (aY Tryz.prog 41 0) (((0:Int),()),((x.1,()),())))):=by kernel_rfl
theorem Qo(F:FT)(J:JT HF)(x:(aaN×((ab1×Unit)×Unit))):ib 41 0 HF Tryz.f41 BW F J x =
  cond (decide (x.1.1<(((List.length x.2.1.1.1):Nat):Int)))
   (((br x.2.1.1.1 x.1.1)).bind fun(y1:bL) =>
   (F 45 Nm (((y1.1,(y1.2.1,(y1.2.2.1,(y1.2.2.2.1,((y1.2.2.2.2.1.1,(y1.2.2.2.2.1.2.1,y1.2.2.2.2.1.2.2)),((y1.2.2.2.2.2.1.1,(y1.2.2.2.2.2.1.2.1,y1.2.2.2.2.2.1.2.2)),(y1.2.2.2.2.2.2.1,y1.2.2.2.2.2.2.2))))))),()),())).bind fun(y2:((Int×Unit)×Unit)) =>
   cond (y2.1.1 != (0:Int))
    (some (y2.1,()))
    (J BW (aY Tryz.prog 41 0) (((IntKind.wrap .i64 (x.1.1+(1:Int))),()),((x.2.1.1,()),()))))
   (some (((0:Int),()),())):=by kernel_rfl
theorem afd(F:FT)(J:JT P2)(x:(aaN×Unit)):cp 42 P2 Tryz.f42 F J x =
 some (((((1:Int),(((1:Int),x.1.1),(((0:Int),(0:Int)),(((0:Int),(0:Int)),((((0:Int),(0:Int)),(((0:Int),(0:Int)),(0:Int))),((((0:Int),(0:Int)),(((0:Int),(0:Int)),(0:Int))),(false,((⟨#[]⟩:ByteArray),(0:Int)))))))))::([]:List bL)),()),()):=by kernel_rfl
theorem ZK(F:FT)(J:JT Dv)(x:(abI×Unit)):cp 43 Dv Tryz.f43 F J x =
  (F 65 HL (((x.1.1.1,(x.1.1.2.1,(x.1.1.2.2.1,(x.1.1.2.2.2.1,((x.1.1.2.2.2.2.1.1,(x.1.1.2.2.2.2.1.2.1,x.1.1.2.2.2.2.1.2.2)),((x.1.1.2.2.2.2.2.1.1,(x.1.1.2.2.2.2.2.1.2.1,x.1.1.2.2.2.2.2.1.2.2)),(x.1.1.2.2.2.2.2.2.1,x.1.1.2.2.2.2.2.2.2))))))),()),())).bind fun(y1:((bL×(Int×Unit))×Unit)) =>
  cond (not ((y1.1.1.1==x.1.1.1)&&(((y1.1.1.2.1.1==x.1.1.2.1.1)&&(y1.1.1.2.1.2==x.1.1.2.1.2))&&(((y1.1.1.2.2.1.1==x.1.1.2.2.1.1)&&(y1.1.1.2.2.1.2==x.1.1.2.2.1.2))&&(((y1.1.1.2.2.2.1.1==x.1.1.2.2.2.1.1)&&(y1.1.1.2.2.2.1.2==x.1.1.2.2.2.1.2))&&((((y1.1.1.2.2.2.2.1.1.1==x.1.1.2.2.2.2.1.1.1)&&(y1.1.1.2.2.2.2.1.1.2==x.1.1.2.2.2.2.1.1.2))&&(((y1.1.1.2.2.2.2.1.2.1.1==x.1.1.2.2.2.2.1.2.1.1)&&(y1.1.1.2.2.2.2.1.2.1.2==x.1.1.2.2.2.2.1.2.1.2))&&(y1.1.1.2.2.2.2.1.2.2==x.1.1.2.2.2.2.1.2.2)))&&((((y1.1.1.2.2.2.2.2.1.1.1==x.1.1.2.2.2.2.2.1.1.1)&&(y1.1.1.2.2.2.2.2.1.1.2==x.1.1.2.2.2.2.2.1.1.2))&&(((y1.1.1.2.2.2.2.2.1.2.1.1==x.1.1.2.2.2.2.2.1.2.1.1)&&(y1.1.1.2.2.2.2.2.1.2.1.2==x.1.1.2.2.2.2.2.1.2.1.2))&&(y1.1.1.2.2.2.2.2.1.2.2==x.1.1.2.2.2.2.2.1.2.2)))&&((y1.1.1.2.2.2.2.2.2.1==x.1.1.2.2.2.2.2.2.1)&&((y1.1.1.2.2.2.2.2.2.2.1==x.1.1.2.2.2.2.2.2.2.1)&&(y1.1.1.2.2.2.2.2.2.2.2==x.1.1.2.2.2.2.2.2.2.2))))))))))
   (some (((1:Int),()),()))
   (some (y1.1.2,())):=by kernel_rfl
theorem afe(F:FT)(J:JT HH)(x:acE):cp 44 HH Tryz.f44 F J x =
 (F 60 HJ ((x.1.1.1,()),())).bind fun(y1:((((List ag)×((List ah)×Unit))×Unit)×Unit)) =>
 (F 61 Kf ((x.1.1.2,()),())).bind fun(y2:(((List aq)×Unit)×Unit)) =>
 J FA (aY Tryz.prog 44 0) ((x.1.2.1,((((List.length x.1.2.1):Nat):Int),((0:Int),()))),(((([]:List ag),(([]:List ah),(([]:List aq),()))),((y1.1.1.1,(y1.1.1.2.1,y2.1)),())),())):=by kernel_rfl
theorem Qp(F:FT)(J:JT HH)(x:(((List bL)×aaT)×((aF×abJ)×Unit))):ib 44 0 HH Tryz.f44 FA F J x =
  cond (decide (x.1.2.2.1<x.1.2.1))
   (((br x.1.1 x.1.2.2.1)).bind fun(y3:bL) =>
   (F 66 zt (((y3.1,(y3.2.1,(y3.2.2.1,(y3.2.2.2.1,((y3.2.2.2.2.1.1,(y3.2.2.2.2.1.2.1,y3.2.2.2.2.1.2.2)),((y3.2.2.2.2.2.1.1,(y3.2.2.2.2.2.1.2.1,y3.2.2.2.2.2.1.2.2)),(y3.2.2.2.2.2.2.1,y3.2.2.2.2.2.2.2))))))),()),((x.2.1.2.1.1,(x.2.1.2.1.2.1,x.2.1.2.1.2.2)),()))).bind fun(y4:((Int×Unit)×(aF×Unit))) =>
   cond (y4.1.1 != (0:Int))
    (some ((((([]:List ag),([]:List ah)),([]:List aq)),y4.1),()))
    (J FA (aY Tryz.prog 44 0) ((x.1.1,(x.1.2.1,((IntKind.wrap .i64 (x.1.2.2.1+(1:Int))),()))),(((x.2.1.1.1,(x.2.1.1.2.1,x.2.1.1.2.2)),((y4.2.1.1,(y4.2.1.2.1,y4.2.1.2.2)),())),()))))
   (some ((((x.2.1.2.1.1,x.2.1.2.1.2.1),x.2.1.2.1.2.2.1),((0:Int),())),())):=by kernel_rfl
theorem aff(F:FT)(J:JT Nm)(x:(abI×Unit)):cp 45 Nm Tryz.f45 F J x =
  (F 19 By ((x.1.1.2.1,()),())).bind fun(y1:((Bool×Unit)×Unit)) =>
  cond (decide (x.1.1.1<(1:Int)))
   (some (((1:Int),()),()))
   (cond (decide (x.1.1.1>(8:Int)))
    (some (((1:Int),()),()))
    (cond (not y1.1.1)
     (some (((1:Int),()),()))
     ((F 67 Np (((x.1.1.1,(x.1.1.2.1,(x.1.1.2.2.1,(x.1.1.2.2.2.1,((x.1.1.2.2.2.2.1.1,(x.1.1.2.2.2.2.1.2.1,x.1.1.2.2.2.2.1.2.2)),((x.1.1.2.2.2.2.2.1.1,(x.1.1.2.2.2.2.2.1.2.1,x.1.1.2.2.2.2.2.1.2.2)),(x.1.1.2.2.2.2.2.2.1,x.1.1.2.2.2.2.2.2.2))))))),()),())).bind fun(y2:((bL×Unit)×Unit)) =>
     cond (not ((y2.1.1.1==(0:Int))&&(((y2.1.1.2.1.1==(0:Int))&&(y2.1.1.2.1.2==(0:Int)))&&(((y2.1.1.2.2.1.1==(0:Int))&&(y2.1.1.2.2.1.2==(0:Int)))&&(((y2.1.1.2.2.2.1.1==(0:Int))&&(y2.1.1.2.2.2.1.2==(0:Int)))&&((((y2.1.1.2.2.2.2.1.1.1==(0:Int))&&(y2.1.1.2.2.2.2.1.1.2==(0:Int)))&&(((y2.1.1.2.2.2.2.1.2.1.1==(0:Int))&&(y2.1.1.2.2.2.2.1.2.1.2==(0:Int)))&&(y2.1.1.2.2.2.2.1.2.2==(0:Int))))&&((((y2.1.1.2.2.2.2.2.1.1.1==(0:Int))&&(y2.1.1.2.2.2.2.2.1.1.2==(0:Int)))&&(((y2.1.1.2.2.2.2.2.1.2.1.1==(0:Int))&&(y2.1.1.2.2.2.2.2.1.2.1.2==(0:Int)))&&(y2.1.1.2.2.2.2.2.1.2.2==(0:Int))))&&((y2.1.1.2.2.2.2.2.2.1==false)&&((y2.1.1.2.2.2.2.2.2.2.1==(⟨#[]⟩:ByteArray))&&(y2.1.1.2.2.2.2.2.2.2.2==(0:Int)))))))))))
      (some (((1:Int),()),()))
      (cond (x.1.1.1==(3:Int))
       ((F 68 Nq (((x.1.1.2.2.2.2.1.1,(x.1.1.2.2.2.2.1.2.1,x.1.1.2.2.2.2.1.2.2)),()),())).bind fun(y3:((Bool×Unit)×Unit)) =>
       (F 68 Nq (((x.1.1.2.2.2.2.2.1.1,(x.1.1.2.2.2.2.2.1.2.1,x.1.1.2.2.2.2.2.1.2.2)),()),())).bind fun(y4:((Bool×Unit)×Unit)) =>
       cond (not y3.1.1)
        (some (((1:Int),()),()))
        (cond (not y4.1.1)
         (some (((1:Int),()),()))
         (some (((0:Int),()),()))))
       (cond (x.1.1.1==(5:Int))
        ((F 19 By ((x.1.1.2.2.1,()),())).bind fun(y5:((Bool×Unit)×Unit)) =>
        (F 19 By ((x.1.1.2.2.2.1,()),())).bind fun(y6:((Bool×Unit)×Unit)) =>
        cond (not y5.1.1)
         (some (((1:Int),()),()))
         (cond (not y6.1.1)
          (some (((1:Int),()),()))
          (cond (decide (x.1.1.2.2.2.2.2.2.2.2<(0:Int)))
           (some (((1:Int),()),()))
           (cond (decide (x.1.1.2.2.2.2.2.2.2.2>(3:Int)))
            (some (((1:Int),()),()))
            (some (((0:Int),()),()))))))
        (cond (x.1.1.1==(6:Int))
         ((F 19 By ((x.1.1.2.2.2.1,()),())).bind fun(y7:((Bool×Unit)×Unit)) =>
         cond (not y7.1.1)
          (some (((1:Int),()),()))
          (some (((0:Int),()),())))
         (cond (x.1.1.1==(8:Int))
          ((F 29 Nk ((x.1.1.2.2.2.2.2.2.2.2,()),())).bind fun(y8:((Bool×Unit)×Unit)) =>
          cond (not y8.1.1)
           (some (((1:Int),()),()))
           (some (((0:Int),()),())))
          (cond (x.1.1.1==(7:Int))
           ((F 28 Fx ((x.1.1.2.2.2.2.2.2.2.1,()),())).bind fun(y9:((Bool×Unit)×Unit)) =>
           cond (not y9.1.1)
            (some (((4:Int),()),()))
            (some (((0:Int),()),())))
           (some (((0:Int),()),())))))))))):=by kernel_rfl
theorem afg(F:FT)(J:JT Fy)(x:((ai×(ag×Unit))×Unit)):cp 46 Fy Tryz.f46 F J x =
 J uz (aY Tryz.prog 46 0) ((false,((0:Int),())),(((x.1.1,()),(((x.1.2.1.1,(x.1.2.1.2.1,x.1.2.1.2.2)),()),((([]:List ag),(([]:List ah),())),((([]:List ag),(x.1.1.2,())),())))),())):=by kernel_rfl
theorem Qq(F:FT)(J:JT Fy)(x:((Bool×aaN)×((ab5×((ag×Unit)×ab6))×Unit))):ib 46 0 Fy Tryz.f46 uz F J x =
  cond (decide (x.1.2.1<(((List.length x.2.1.1.1.1):Nat):Int)))
   (cond (not x.1.1)
    (((br x.2.1.1.1.1 x.1.2.1)).bind fun(y1:ag) =>
    (F 69 HM ((x.2.1.2.1.1.1,(y1.1,())),())).bind fun(y2:((Int×Unit)×Unit)) =>
    cond (decide (y2.1.1<(0:Int)))
     (cond (aP (List.length x.2.1.2.2.2.1.1) (List.length ((x.2.1.2.1.1.1,(x.2.1.2.1.1.2.1,x.2.1.2.1.1.2.2))::([]:List ag))))
      (((br x.2.1.1.1.1 x.1.2.1)).bind fun(y3:ag) =>
      cond (aP (List.length (x.2.1.2.2.2.1.1++((x.2.1.2.1.1.1,(x.2.1.2.1.1.2.1,x.2.1.2.1.1.2.2))::([]:List ag)))) (List.length ((y3.1,(y3.2.1,y3.2.2))::([]:List ag))))
       (J uz (aY Tryz.prog 46 0) ((true,((IntKind.wrap .i64 (x.1.2.1+(1:Int))),())),(((x.2.1.1.1,()),(((x.2.1.2.1.1.1,(x.2.1.2.1.1.2.1,x.2.1.2.1.1.2.2)),()),((x.2.1.2.2.1.1,x.2.1.2.2.1.2),((((x.2.1.2.2.2.1.1++((x.2.1.2.1.1.1,(x.2.1.2.1.1.2.1,x.2.1.2.1.1.2.2))::([]:List ag)))++((y3.1,(y3.2.1,y3.2.2))::([]:List ag))),x.2.1.2.2.2.1.2),())))),())))
       (none))
      (none))
     (((br x.2.1.1.1.1 x.1.2.1)).bind fun(y4:ag) =>
     cond (aP (List.length x.2.1.2.2.2.1.1) (List.length ((y4.1,(y4.2.1,y4.2.2))::([]:List ag))))
      (J uz (aY Tryz.prog 46 0) ((x.1.1,((IntKind.wrap .i64 (x.1.2.1+(1:Int))),())),(((x.2.1.1.1,()),(((x.2.1.2.1.1.1,(x.2.1.2.1.1.2.1,x.2.1.2.1.1.2.2)),()),((x.2.1.2.2.1.1,x.2.1.2.2.1.2),(((x.2.1.2.2.2.1.1++((y4.1,(y4.2.1,y4.2.2))::([]:List ag))),x.2.1.2.2.2.1.2),())))),())))
      (none)))
    (((br x.2.1.1.1.1 x.1.2.1)).bind fun(y5:ag) =>
    cond (aP (List.length x.2.1.2.2.2.1.1) (List.length ((y5.1,(y5.2.1,y5.2.2))::([]:List ag))))
     (J uz (aY Tryz.prog 46 0) ((x.1.1,((IntKind.wrap .i64 (x.1.2.1+(1:Int))),())),(((x.2.1.1.1,()),(((x.2.1.2.1.1.1,(x.2.1.2.1.1.2.1,x.2.1.2.1.1.2.2)),()),((x.2.1.2.2.1.1,x.2.1.2.2.1.2),(((x.2.1.2.2.2.1.1++((y5.1,(y5.2.1,y5.2.2))::([]:List ag))),x.2.1.2.2.2.1.2),())))),())))
     (none)))
   (cond (not x.1.1)
    (cond (aP (List.length x.2.1.2.2.2.1.1) (List.length ((x.2.1.2.1.1.1,(x.2.1.2.1.1.2.1,x.2.1.2.1.1.2.2))::([]:List ag))))
     (some ((((x.2.1.2.2.2.1.1++((x.2.1.2.1.1.1,(x.2.1.2.1.1.2.1,x.2.1.2.1.1.2.2))::([]:List ag))),x.2.1.2.2.2.1.2.1),()),()))
     (none))
    (some (((x.2.1.2.2.2.1.1,x.2.1.2.2.2.1.2.1),()),()))):=by kernel_rfl
theorem afh(F:FT)(J:JT pU)(x:((ai×(ID×aaU))×Unit)):cp 47 pU Tryz.f47 F J x =
 J xl (aY Tryz.prog 47 0) (((0:Int),()),(((x.1.1,()),((x.1.2.1,()),((x.1.2.2.1,()),((([]:List ag),(([]:List ah),())),((([]:List ag),(([]:List ah),())),()))))),())):=by kernel_rfl
theorem Qr(F:FT)(J:JT pU)(x:(aaN×((ab5×(aaU×(aaU×ab6)))×Unit))):ib 47 0 pU Tryz.f47 xl F J x =
  cond (decide (x.1.1<(((List.length x.2.1.1.1.1):Nat):Int)))
   (((br x.2.1.1.1.1 x.1.1)).bind fun(y1:ag) =>
   cond (not ((y1.1.1==x.2.1.2.1.1.1)&&(y1.1.2==x.2.1.2.1.1.2)))
    (((br x.2.1.1.1.1 x.1.1)).bind fun(y2:ag) =>
    cond (aP (List.length x.2.1.2.2.2.2.1.1) (List.length ((y2.1,(y2.2.1,y2.2.2))::([]:List ag))))
     (J xl (aY Tryz.prog 47 0) (((IntKind.wrap .i64 (x.1.1+(1:Int))),()),(((x.2.1.1.1,()),((x.2.1.2.1.1,()),((x.2.1.2.2.1.1,()),((x.2.1.2.2.2.1.1,x.2.1.2.2.2.1.2),(((x.2.1.2.2.2.2.1.1++((y2.1,(y2.2.1,y2.2.2))::([]:List ag))),x.2.1.2.2.2.2.1.2),()))))),())))
     (none))
    (J xl (aY Tryz.prog 47 0) (((IntKind.wrap .i64 (x.1.1+(1:Int))),()),(((x.2.1.1.1,()),((x.2.1.2.1.1,()),((x.2.1.2.2.1.1,()),((x.2.1.2.2.2.1.1,x.2.1.2.2.2.1.2),((x.2.1.2.2.2.2.1.1,x.2.1.2.2.2.2.1.2),()))))),()))))
   (J xm (aY Tryz.prog 47 1) (((0:Int),()),(((x.2.1.1.1,()),((x.2.1.2.2.1.1,()),((x.2.1.2.2.2.1.1,x.2.1.2.2.2.1.2),((x.2.1.2.2.2.2.1.1,x.2.1.2.2.2.2.1.2),())))),()))):=by kernel_rfl
theorem Qs(F:FT)(J:JT pU)(x:(aaN×((ab5×(aaU×ab6))×Unit))):ib 47 1 pU Tryz.f47 xm F J x =
  cond (decide (x.1.1<(((List.length x.2.1.1.1.2):Nat):Int)))
   (((br x.2.1.1.1.2 x.1.1)).bind fun(y3:ah) =>
   cond (not ((y3.1.1==x.2.1.2.1.1.1)&&(y3.1.2==x.2.1.2.1.1.2)))
    (((br x.2.1.1.1.2 x.1.1)).bind fun(y4:ah) =>
    cond (aP (List.length x.2.1.2.2.2.1.2.1) (List.length ((y4.1,y4.2)::([]:List ah))))
     (J xm (aY Tryz.prog 47 1) (((IntKind.wrap .i64 (x.1.1+(1:Int))),()),(((x.2.1.1.1,()),((x.2.1.2.1.1,()),((x.2.1.2.2.1.1,x.2.1.2.2.1.2),((x.2.1.2.2.2.1.1,((x.2.1.2.2.2.1.2.1++((y4.1,y4.2)::([]:List ah))),())),())))),())))
     (none))
    (J xm (aY Tryz.prog 47 1) (((IntKind.wrap .i64 (x.1.1+(1:Int))),()),(((x.2.1.1.1,()),((x.2.1.2.1.1,()),((x.2.1.2.2.1.1,x.2.1.2.2.1.2),((x.2.1.2.2.2.1.1,x.2.1.2.2.2.1.2),())))),()))))
   (some (((x.2.1.2.2.2.1.1,x.2.1.2.2.2.1.2.1),()),())):=by kernel_rfl
theorem afi(F:FT)(J:JT P3)(x:ab3):cp 48 P3 Tryz.f48 F J x =
  (F 21 xg ((x.1.1.1,(x.1.2.1.2.1,())),())).bind fun(y1:((ah×(Bool×Unit))×Unit)) =>
  cond y1.1.2.1
   (some ((((([]:List ag),([]:List ah)),([]:List aq)),((12:Int),())),()))
   (cond (decide ((((List.length x.1.1.1.2):Nat):Int)≥(40:Int)))
    (some ((((([]:List ag),([]:List ah)),([]:List aq)),((3:Int),())),()))
    ((F 70 Nr (((x.1.1.1,x.1.1.2),((x.1.2.1.2.2.2.2.1.1,(x.1.2.1.2.2.2.2.1.2.1,x.1.2.1.2.2.2.2.1.2.2)),())),())).bind fun(y2:((pS×(Int×Unit))×Unit)) =>
    (F 70 Nr (((x.1.1.1,x.1.1.2),((x.1.2.1.2.2.2.2.2.1.1,(x.1.2.1.2.2.2.2.2.1.2.1,x.1.2.1.2.2.2.2.2.1.2.2)),())),())).bind fun(y3:((pS×(Int×Unit))×Unit)) =>
    (F 18 kQ ((x.1.1.1,(x.1.2.1.2.2.2.2.2.1.1,())),())).bind fun(y4:((ag×(Bool×Unit))×Unit)) =>
    cond y4.1.2.1
     (cond (((x.1.2.1.2.2.2.2.2.1.2.1.1==x.1.2.1.2.1.1)&&(x.1.2.1.2.2.2.2.2.1.2.1.2==x.1.2.1.2.1.2))&&(x.1.2.1.2.2.2.2.2.1.2.2==(0:Int)))
      (cond (y2.1.2.1 != (0:Int))
       (some ((((([]:List ag),([]:List ah)),([]:List aq)),((13:Int),())),()))
       (cond (y3.1.2.1 != (0:Int))
        (some ((((([]:List ag),([]:List ah)),([]:List aq)),((13:Int),())),()))
        ((F 71 zu ((x.1.1.1,((x.1.2.1.2.1,((⟨#[]⟩:ByteArray),(0:Int))),())),())).bind fun(y5:((ai×Unit)×Unit)) =>
        (F 72 zw ((y5.1.1,((y2.1.1.1,(y2.1.1.2.1,y2.1.1.2.2)),((x.1.2.1.2.1,(0:Int)),()))),())).bind fun(y6:((ai×Unit)×Unit)) =>
        (F 72 zw ((y6.1.1,((x.1.2.1.2.2.2.2.2.1.1,(x.1.2.1.2.2.2.2.2.1.2.1,x.1.2.1.2.2.2.2.2.1.2.2)),((x.1.2.1.2.1,(1:Int)),()))),())).bind fun(y7:((ai×Unit)×Unit)) =>
        (F 64 HK ((y7.1.1,()),())).bind fun(y8:((Int×Unit)×Unit)) =>
        cond (y8.1.1 != (0:Int))
         (some ((((([]:List ag),([]:List ah)),([]:List aq)),((15:Int),())),()))
         (some (((y7.1.1,x.1.1.2),((0:Int),())),())))))
      (cond (y2.1.2.1 != (0:Int))
       (some ((((([]:List ag),([]:List ah)),([]:List aq)),((13:Int),())),()))
       (cond (y3.1.2.1 != (0:Int))
        (some ((((([]:List ag),([]:List ah)),([]:List aq)),((13:Int),())),()))
        ((F 71 zu ((x.1.1.1,((x.1.2.1.2.1,((⟨#[]⟩:ByteArray),(0:Int))),())),())).bind fun(y9:((ai×Unit)×Unit)) =>
        (F 72 zw ((y9.1.1,((y2.1.1.1,(y2.1.1.2.1,y2.1.1.2.2)),((x.1.2.1.2.1,(0:Int)),()))),())).bind fun(pW:((ai×Unit)×Unit)) =>
        (F 72 zw ((pW.1.1,((y3.1.1.1,(y3.1.1.2.1,y3.1.1.2.2)),((x.1.2.1.2.1,(1:Int)),()))),())).bind fun(lF:((ai×Unit)×Unit)) =>
        (F 64 HK ((lF.1.1,()),())).bind fun(nk:((Int×Unit)×Unit)) =>
        cond (nk.1.1 != (0:Int))
         (some ((((([]:List ag),([]:List ah)),([]:List aq)),((15:Int),())),()))
         (some (((lF.1.1,x.1.1.2),((0:Int),())),()))))))
     (cond (y2.1.2.1 != (0:Int))
      (some ((((([]:List ag),([]:List ah)),([]:List aq)),((13:Int),())),()))
      (cond (y3.1.2.1 != (0:Int))
       (some ((((([]:List ag),([]:List ah)),([]:List aq)),((13:Int),())),()))
       ((F 71 zu ((x.1.1.1,((x.1.2.1.2.1,((⟨#[]⟩:ByteArray),(0:Int))),())),())).bind fun(ln:((ai×Unit)×Unit)) =>
       (F 72 zw ((ln.1.1,((y2.1.1.1,(y2.1.1.2.1,y2.1.1.2.2)),((x.1.2.1.2.1,(0:Int)),()))),())).bind fun(wF:((ai×Unit)×Unit)) =>
       (F 72 zw ((wF.1.1,((y3.1.1.1,(y3.1.1.2.1,y3.1.1.2.2)),((x.1.2.1.2.1,(1:Int)),()))),())).bind fun(qu:((ai×Unit)×Unit)) =>
       (F 64 HK ((qu.1.1,()),())).bind fun(Lu:((Int×Unit)×Unit)) =>
       cond (Lu.1.1 != (0:Int))
        (some ((((([]:List ag),([]:List ah)),([]:List aq)),((15:Int),())),()))
        (some (((qu.1.1,x.1.1.2),((0:Int),())),()))))))):=by kernel_rfl
theorem afj(F:FT)(J:JT P4)(x:ab3):cp 49 P4 Tryz.f49 F J x =
  (F 21 xg ((x.1.1.1,(x.1.2.1.2.1,())),())).bind fun(y1:((ah×(Bool×Unit))×Unit)) =>
  cond (not y1.1.2.1)
   (some ((((([]:List ag),([]:List ah)),([]:List aq)),((13:Int),())),()))
   ((F 74 Ns ((x.1.1.1,((x.1.2.1.2.1,(0:Int)),())),())).bind fun(y2:((ab×Unit)×Unit)) =>
   (F 73 zx ((x.1.1.2,(((x.1.2.1.2.1,(0:Int)),(y2.1.1.1,y2.1.1.2)),())),())).bind fun(y3:(((List aq)×Unit)×Unit)) =>
   (F 74 Ns ((x.1.1.1,((x.1.2.1.2.1,(1:Int)),())),())).bind fun(y4:((ab×Unit)×Unit)) =>
   (F 73 zx ((y3.1.1,(((x.1.2.1.2.1,(1:Int)),(y4.1.1.1,y4.1.1.2)),())),())).bind fun(y5:(((List aq)×Unit)×Unit)) =>
   (F 75 Nt ((x.1.1.1,((x.1.2.1.2.1,(0:Int)),())),())).bind fun(y6:((ai×Unit)×Unit)) =>
   (F 75 Nt ((y6.1.1,((x.1.2.1.2.1,(1:Int)),())),())).bind fun(y7:((ai×Unit)×Unit)) =>
   (F 47 pU ((y7.1.1,(((0:Int),(0:Int)),(x.1.2.1.2.1,()))),())).bind fun(y8:((ai×Unit)×Unit)) =>
   some (((y8.1.1,y5.1.1),((0:Int),())),())):=by kernel_rfl
theorem afk(F:FT)(J:JT P5)(x:ab3):cp 50 P5 Tryz.f50 F J x =
  (F 21 xg ((x.1.1.1,(x.1.2.1.2.1,())),())).bind fun(y1:((ah×(Bool×Unit))×Unit)) =>
  cond (not y1.1.2.1)
   (some ((((([]:List ag),([]:List ah)),([]:List aq)),((13:Int),())),()))
   ((F 18 kQ ((x.1.1.1,(x.1.2.1.2.2.1,())),())).bind fun(y2:((ag×(Bool×Unit))×Unit)) =>
   (F 21 xg ((x.1.1.1,(x.1.2.1.2.2.2.1,())),())).bind fun(y3:((ah×(Bool×Unit))×Unit)) =>
   cond y2.1.2.1
    (some ((((([]:List ag),([]:List ah)),([]:List aq)),((12:Int),())),()))
    (cond y3.1.2.1
     (some ((((([]:List ag),([]:List ah)),([]:List aq)),((12:Int),())),()))
     (cond (decide ((((List.length x.1.1.1.1):Nat):Int)≥(24:Int)))
      (some ((((([]:List ag),([]:List ah)),([]:List aq)),((3:Int),())),()))
      (cond (decide ((((List.length x.1.1.1.2):Nat):Int)≥(40:Int)))
       (some ((((([]:List ag),([]:List ah)),([]:List aq)),((3:Int),())),()))
       (cond ((2:Int)==(0:Int))
        (none)
        (cond ((2:Int)==(0:Int))
         (none)
         ((F 23 zp (((x.1.2.1.2.2.2.1,(IntKind.wrap .i64 (Int.tdiv x.1.2.1.2.2.2.2.2.2.2.2 (2:Int)))),()),())).bind fun(y4:((ab×Unit)×Unit)) =>
         (F 76 HN ((x.1.1.1,((x.1.2.1.2.1,(IntKind.wrap .i64 ((1:Int)-(Int.tmod x.1.2.1.2.2.2.2.2.2.2.2 (2:Int))))),((y4.1.1.1,y4.1.1.2),()))),())).bind fun(y5:((ai×Unit)×Unit)) =>
         (F 71 zu ((y5.1.1,((x.1.2.1.2.2.2.1,((⟨#[]⟩:ByteArray),(0:Int))),())),())).bind fun(y6:((ai×Unit)×Unit)) =>
         (F 77 qC ((((x.1.2.1.2.1,(IntKind.wrap .i64 ((1:Int)-(Int.tmod x.1.2.1.2.2.2.2.2.2.2.2 (2:Int)))))::((x.1.2.1.2.2.2.1,(IntKind.wrap .i64 (Int.tdiv x.1.2.1.2.2.2.2.2.2.2.2 (2:Int))))::([]:List ab))),()),())).bind fun(y7:(((List ab)×Unit)×Unit)) =>
         (F 46 Fy ((y6.1.1,((x.1.2.1.2.2.1,(y7.1.1,((⟨#[]⟩:ByteArray),(0:Int)))),())),())).bind fun(y8:((ai×Unit)×Unit)) =>
         some (((y8.1.1,x.1.1.2),((0:Int),())),())))))))):=by kernel_rfl
theorem afl(F:FT)(J:JT zr)(x:ab3):cp 51 zr Tryz.f51 F J x =
  (F 18 kQ ((x.1.1.1,(x.1.2.1.2.1,())),())).bind fun(y1:((ag×(Bool×Unit))×Unit)) =>
  cond (not y1.1.2.1)
   (some ((((([]:List ag),([]:List ah)),([]:List aq)),((13:Int),())),()))
   (cond ((((List.length y1.1.1.2.1):Nat):Int) != (2:Int))
    (some ((((([]:List ag),([]:List ah)),([]:List aq)),((14:Int),())),()))
    (((br y1.1.1.2.1 (0:Int))).bind fun(y2:ab) =>
    ((br y1.1.1.2.1 (1:Int))).bind fun(y3:ab) =>
    cond ((y2.1.1==y3.1.1)&&(y2.1.2==y3.1.2))
     (some ((((([]:List ag),([]:List ah)),([]:List aq)),((14:Int),())),()))
     (((br y1.1.1.2.1 (0:Int))).bind fun(y4:ab) =>
     ((br y1.1.1.2.1 (1:Int))).bind fun(y5:ab) =>
     cond ((y4.1.1==x.1.2.1.2.2.2.1.1)&&(y4.1.2==x.1.2.1.2.2.2.1.2))
      (((br y1.1.1.2.1 (1:Int))).bind fun(y6:ab) =>
      ((br y1.1.1.2.1 (0:Int))).bind fun(y7:ab) =>
      cond (not ((y7.1.1==x.1.2.1.2.2.2.1.1)&&(y7.1.2==x.1.2.1.2.2.2.1.2)))
       (some ((((([]:List ag),([]:List ah)),([]:List aq)),((14:Int),())),()))
       ((F 23 zp (((y7.1,y7.2),()),())).bind fun(y8:((ab×Unit)×Unit)) =>
       (F 47 pU ((x.1.1.1,(x.1.2.1.2.1,(((0:Int),(0:Int)),()))),())).bind fun(y9:((ai×Unit)×Unit)) =>
       (F 76 HN ((y9.1.1,((y8.1.1.1,y8.1.1.2),((y6.1,y6.2),()))),())).bind fun(pW:((ai×Unit)×Unit)) =>
       (F 47 pU ((pW.1.1,(((0:Int),(0:Int)),(y7.1,()))),())).bind fun(lF:((ai×Unit)×Unit)) =>
       J mz (aY Tryz.prog 51 0) ((x.1.1.2,((0:Int),())),(((([]:List ag),(([]:List ah),(([]:List aq),()))),(((y6.1,y6.2),()),(((y7.1,y7.2),()),(((y8.1.1.1,y8.1.1.2),()),((lF.1.1,()),()))))),()))))
      (cond (not ((y5.1.1==x.1.2.1.2.2.2.1.1)&&(y5.1.2==x.1.2.1.2.2.2.1.2)))
       (some ((((([]:List ag),([]:List ah)),([]:List aq)),((14:Int),())),()))
       ((F 23 zp (((y5.1,y5.2),()),())).bind fun(nk:((ab×Unit)×Unit)) =>
       (F 47 pU ((x.1.1.1,(x.1.2.1.2.1,(((0:Int),(0:Int)),()))),())).bind fun(ln:((ai×Unit)×Unit)) =>
       (F 76 HN ((ln.1.1,((nk.1.1.1,nk.1.1.2),((y4.1,y4.2),()))),())).bind fun(wF:((ai×Unit)×Unit)) =>
       (F 47 pU ((wF.1.1,(((0:Int),(0:Int)),(y5.1,()))),())).bind fun(qu:((ai×Unit)×Unit)) =>
       J mz (aY Tryz.prog 51 0) ((x.1.1.2,((0:Int),())),(((([]:List ag),(([]:List ah),(([]:List aq),()))),(((y4.1,y4.2),()),(((y5.1,y5.2),()),(((nk.1.1.1,nk.1.1.2),()),((qu.1.1,()),()))))),()))))))):=by kernel_rfl
theorem Qt(F:FT)(J:JT zr)(x:(((List aq)×aaN)×((aF×(aaO×(aaO×(aaO×aaS))))×Unit))):ib 51 0 zr Tryz.f51 mz F J x =
  cond (decide (x.1.2.1<(2:Int)))
   (cond (((x.2.1.2.2.1.1.1.1==x.2.1.2.2.2.1.1.1.1)&&(x.2.1.2.2.1.1.1.2==x.2.1.2.2.2.1.1.1.2))&&(x.1.2.1==x.2.1.2.2.2.1.1.2))
    ((F 73 zx ((x.1.1,(((x.2.1.2.2.1.1.1,x.1.2.1),(x.2.1.2.1.1.1,x.2.1.2.1.1.2)),())),())).bind fun(Lu:(((List aq)×Unit)×Unit)) =>
    J mz (aY Tryz.prog 51 0) ((Lu.1.1,((IntKind.wrap .i64 (x.1.2.1+(1:Int))),())),(((x.2.1.1.1,(x.2.1.1.2.1,x.2.1.1.2.2)),(((x.2.1.2.1.1.1,x.2.1.2.1.1.2),()),(((x.2.1.2.2.1.1.1,x.2.1.2.2.1.1.2),()),(((x.2.1.2.2.2.1.1.1,x.2.1.2.2.2.1.1.2),()),((x.2.1.2.2.2.2.1.1,()),()))))),())))
    ((F 73 zx ((x.1.1,(((x.2.1.2.2.1.1.1,x.1.2.1),(((0:Int),(0:Int)),(0:Int))),())),())).bind fun(Nw:(((List aq)×Unit)×Unit)) =>
    J mz (aY Tryz.prog 51 0) ((Nw.1.1,((IntKind.wrap .i64 (x.1.2.1+(1:Int))),())),(((x.2.1.1.1,(x.2.1.1.2.1,x.2.1.1.2.2)),(((x.2.1.2.1.1.1,x.2.1.2.1.1.2),()),(((x.2.1.2.2.1.1.1,x.2.1.2.2.1.1.2),()),(((x.2.1.2.2.2.1.1.1,x.2.1.2.2.2.1.1.2),()),((x.2.1.2.2.2.2.1.1,()),()))))),()))))
   (some (((x.2.1.2.2.2.2.1.1,x.1.1),((0:Int),())),())):=by kernel_rfl
theorem afm(F:FT)(J:JT Bz)(x:ab3):cp 52 Bz Tryz.f52 F J x =
 (F 38 Du ((x.1.1.1,()),())).bind fun(y1:((((List ag)×((List ah)×Unit))×Unit)×Unit)) =>
 J rr (aY Tryz.prog 52 0) ((false,((0:Int),())),((((x.1.1.1,x.1.1.2),()),(((x.1.2.1.1,(x.1.2.1.2.1,(x.1.2.1.2.2.1,(x.1.2.1.2.2.2.1,((x.1.2.1.2.2.2.2.1.1,(x.1.2.1.2.2.2.2.1.2.1,x.1.2.1.2.2.2.2.1.2.2)),((x.1.2.1.2.2.2.2.2.1.1,(x.1.2.1.2.2.2.2.2.1.2.1,x.1.2.1.2.2.2.2.2.1.2.2)),(x.1.2.1.2.2.2.2.2.2.1,x.1.2.1.2.2.2.2.2.2.2))))))),()),((([]:List ag),(([]:List ah),(([]:List aq),()))),((y1.1.1.1,y1.1.1.2),())))),())):=by kernel_rfl
theorem Qu(F:FT)(J:JT Bz)(x:((Bool×aaN)×((ab7×(abI×(aF×(aaP×Unit))))×Unit))):ib 52 0 Bz Tryz.f52 rr F J x =
  cond (decide (x.1.2.1<(((List.length x.2.1.2.2.2.1.1):Nat):Int)))
   (cond (not x.2.1.2.1.1.2.2.2.2.2.2.1)
    (cond ((decide ((0:Int)≤x.1.2.1))&&(decide (x.1.2.1<(((List.length x.2.1.2.2.2.1.1):Nat):Int))))
     (((x.2.1.2.2.2.1.1)[(Int.toNat x.1.2.1)]?).bind fun(y2:ag) =>
     cond ((y2.1.1==x.2.1.2.1.1.2.1.1)&&(y2.1.2==x.2.1.2.1.1.2.1.2))
      (cond (x.2.1.2.1.1.1==(7:Int))
       (cond ((decide ((0:Int)≤x.1.2.1))&&(decide (x.1.2.1<(((List.length x.2.1.2.2.2.1.1):Nat):Int))))
        (((x.2.1.2.2.2.1.1)[(Int.toNat x.1.2.1)]?).bind fun(y3:ag) =>
        J rr (aY Tryz.prog 52 0) ((true,((IntKind.wrap .i64 (x.1.2.1+(1:Int))),())),((((x.2.1.1.1.1,x.2.1.1.1.2),()),(((x.2.1.2.1.1.1,(x.2.1.2.1.1.2.1,(x.2.1.2.1.1.2.2.1,(x.2.1.2.1.1.2.2.2.1,((x.2.1.2.1.1.2.2.2.2.1.1,(x.2.1.2.1.1.2.2.2.2.1.2.1,x.2.1.2.1.1.2.2.2.2.1.2.2)),((x.2.1.2.1.1.2.2.2.2.2.1.1,(x.2.1.2.1.1.2.2.2.2.2.1.2.1,x.2.1.2.1.1.2.2.2.2.2.1.2.2)),(x.2.1.2.1.1.2.2.2.2.2.2.1,x.2.1.2.1.1.2.2.2.2.2.2.2))))))),()),((x.2.1.2.2.1.1,(x.2.1.2.2.1.2.1,x.2.1.2.2.1.2.2)),(((List.set x.2.1.2.2.2.1.1 (Int.toNat x.1.2.1) (y3.1,(y3.2.1,(x.2.1.2.1.1.2.2.2.2.2.2.2.1,y3.2.2.2)))),x.2.1.2.2.2.1.2),())))),())))
        (none))
       (cond ((decide ((0:Int)≤x.1.2.1))&&(decide (x.1.2.1<(((List.length x.2.1.2.2.2.1.1):Nat):Int))))
        (((x.2.1.2.2.2.1.1)[(Int.toNat x.1.2.1)]?).bind fun(y4:ag) =>
        J rr (aY Tryz.prog 52 0) ((true,((IntKind.wrap .i64 (x.1.2.1+(1:Int))),())),((((x.2.1.1.1.1,x.2.1.1.1.2),()),(((x.2.1.2.1.1.1,(x.2.1.2.1.1.2.1,(x.2.1.2.1.1.2.2.1,(x.2.1.2.1.1.2.2.2.1,((x.2.1.2.1.1.2.2.2.2.1.1,(x.2.1.2.1.1.2.2.2.2.1.2.1,x.2.1.2.1.1.2.2.2.2.1.2.2)),((x.2.1.2.1.1.2.2.2.2.2.1.1,(x.2.1.2.1.1.2.2.2.2.2.1.2.1,x.2.1.2.1.1.2.2.2.2.2.1.2.2)),(x.2.1.2.1.1.2.2.2.2.2.2.1,x.2.1.2.1.1.2.2.2.2.2.2.2))))))),()),((x.2.1.2.2.1.1,(x.2.1.2.2.1.2.1,x.2.1.2.2.1.2.2)),(((List.set x.2.1.2.2.2.1.1 (Int.toNat x.1.2.1) (y4.1,(y4.2.1,(y4.2.2.1,x.2.1.2.1.1.2.2.2.2.2.2.2.2)))),x.2.1.2.2.2.1.2),())))),())))
        (none)))
      (J rr (aY Tryz.prog 52 0) ((x.1.1,((IntKind.wrap .i64 (x.1.2.1+(1:Int))),())),((((x.2.1.1.1.1,x.2.1.1.1.2),()),(((x.2.1.2.1.1.1,(x.2.1.2.1.1.2.1,(x.2.1.2.1.1.2.2.1,(x.2.1.2.1.1.2.2.2.1,((x.2.1.2.1.1.2.2.2.2.1.1,(x.2.1.2.1.1.2.2.2.2.1.2.1,x.2.1.2.1.1.2.2.2.2.1.2.2)),((x.2.1.2.1.1.2.2.2.2.2.1.1,(x.2.1.2.1.1.2.2.2.2.2.1.2.1,x.2.1.2.1.1.2.2.2.2.2.1.2.2)),(x.2.1.2.1.1.2.2.2.2.2.2.1,x.2.1.2.1.1.2.2.2.2.2.2.2))))))),()),((x.2.1.2.2.1.1,(x.2.1.2.2.1.2.1,x.2.1.2.2.1.2.2)),((x.2.1.2.2.2.1.1,x.2.1.2.2.2.1.2),())))),()))))
     (none))
    (J rr (aY Tryz.prog 52 0) ((x.1.1,((IntKind.wrap .i64 (x.1.2.1+(1:Int))),())),((((x.2.1.1.1.1,x.2.1.1.1.2),()),(((x.2.1.2.1.1.1,(x.2.1.2.1.1.2.1,(x.2.1.2.1.1.2.2.1,(x.2.1.2.1.1.2.2.2.1,((x.2.1.2.1.1.2.2.2.2.1.1,(x.2.1.2.1.1.2.2.2.2.1.2.1,x.2.1.2.1.1.2.2.2.2.1.2.2)),((x.2.1.2.1.1.2.2.2.2.2.1.1,(x.2.1.2.1.1.2.2.2.2.2.1.2.1,x.2.1.2.1.1.2.2.2.2.2.1.2.2)),(x.2.1.2.1.1.2.2.2.2.2.2.1,x.2.1.2.1.1.2.2.2.2.2.2.2))))))),()),((x.2.1.2.2.1.1,(x.2.1.2.2.1.2.1,x.2.1.2.2.1.2.2)),((x.2.1.2.2.2.1.1,x.2.1.2.2.2.1.2),())))),()))))
   (J ru (aY Tryz.prog 52 1) ((x.1.1,((0:Int),())),((((x.2.1.1.1.1,x.2.1.1.1.2),()),(((x.2.1.2.1.1.1,(x.2.1.2.1.1.2.1,(x.2.1.2.1.1.2.2.1,(x.2.1.2.1.1.2.2.2.1,((x.2.1.2.1.1.2.2.2.2.1.1,(x.2.1.2.1.1.2.2.2.2.1.2.1,x.2.1.2.1.1.2.2.2.2.1.2.2)),((x.2.1.2.1.1.2.2.2.2.2.1.1,(x.2.1.2.1.1.2.2.2.2.2.1.2.1,x.2.1.2.1.1.2.2.2.2.2.1.2.2)),(x.2.1.2.1.1.2.2.2.2.2.2.1,x.2.1.2.1.1.2.2.2.2.2.2.2))))))),()),((x.2.1.2.2.1.1,(x.2.1.2.2.1.2.1,x.2.1.2.2.1.2.2)),((x.2.1.2.2.2.1.1,x.2.1.2.2.2.1.2),())))),()))):=by kernel_rfl
theorem Qv(F:FT)(J:JT Bz)(x:((Bool×aaN)×((ab7×(abI×(aF×(aaP×Unit))))×Unit))):ib 52 1 Bz Tryz.f52 ru F J x =
  cond (decide (x.1.2.1<(((List.length x.2.1.2.2.2.1.2.1):Nat):Int)))
   (cond x.2.1.2.1.1.2.2.2.2.2.2.1
    (cond ((decide ((0:Int)≤x.1.2.1))&&(decide (x.1.2.1<(((List.length x.2.1.2.2.2.1.2.1):Nat):Int))))
     (((x.2.1.2.2.2.1.2.1)[(Int.toNat x.1.2.1)]?).bind fun(y5:ah) =>
     cond ((y5.1.1==x.2.1.2.1.1.2.1.1)&&(y5.1.2==x.2.1.2.1.1.2.1.2))
      (cond (x.2.1.2.1.1.1==(7:Int))
       (cond ((decide ((0:Int)≤x.1.2.1))&&(decide (x.1.2.1<(((List.length x.2.1.2.2.2.1.2.1):Nat):Int))))
        (((x.2.1.2.2.2.1.2.1)[(Int.toNat x.1.2.1)]?).bind fun(y6:ah) =>
        J ru (aY Tryz.prog 52 1) ((true,((IntKind.wrap .i64 (x.1.2.1+(1:Int))),())),((((x.2.1.1.1.1,x.2.1.1.1.2),()),(((x.2.1.2.1.1.1,(x.2.1.2.1.1.2.1,(x.2.1.2.1.1.2.2.1,(x.2.1.2.1.1.2.2.2.1,((x.2.1.2.1.1.2.2.2.2.1.1,(x.2.1.2.1.1.2.2.2.2.1.2.1,x.2.1.2.1.1.2.2.2.2.1.2.2)),((x.2.1.2.1.1.2.2.2.2.2.1.1,(x.2.1.2.1.1.2.2.2.2.2.1.2.1,x.2.1.2.1.1.2.2.2.2.2.1.2.2)),(x.2.1.2.1.1.2.2.2.2.2.2.1,x.2.1.2.1.1.2.2.2.2.2.2.2))))))),()),((x.2.1.2.2.1.1,(x.2.1.2.2.1.2.1,x.2.1.2.2.1.2.2)),((x.2.1.2.2.2.1.1,((List.set x.2.1.2.2.2.1.2.1 (Int.toNat x.1.2.1) (y6.1,(x.2.1.2.1.1.2.2.2.2.2.2.2.1,y6.2.2))),())),())))),())))
        (none))
       (cond ((decide ((0:Int)≤x.1.2.1))&&(decide (x.1.2.1<(((List.length x.2.1.2.2.2.1.2.1):Nat):Int))))
        (((x.2.1.2.2.2.1.2.1)[(Int.toNat x.1.2.1)]?).bind fun(y7:ah) =>
        J ru (aY Tryz.prog 52 1) ((true,((IntKind.wrap .i64 (x.1.2.1+(1:Int))),())),((((x.2.1.1.1.1,x.2.1.1.1.2),()),(((x.2.1.2.1.1.1,(x.2.1.2.1.1.2.1,(x.2.1.2.1.1.2.2.1,(x.2.1.2.1.1.2.2.2.1,((x.2.1.2.1.1.2.2.2.2.1.1,(x.2.1.2.1.1.2.2.2.2.1.2.1,x.2.1.2.1.1.2.2.2.2.1.2.2)),((x.2.1.2.1.1.2.2.2.2.2.1.1,(x.2.1.2.1.1.2.2.2.2.2.1.2.1,x.2.1.2.1.1.2.2.2.2.2.1.2.2)),(x.2.1.2.1.1.2.2.2.2.2.2.1,x.2.1.2.1.1.2.2.2.2.2.2.2))))))),()),((x.2.1.2.2.1.1,(x.2.1.2.2.1.2.1,x.2.1.2.2.1.2.2)),((x.2.1.2.2.2.1.1,((List.set x.2.1.2.2.2.1.2.1 (Int.toNat x.1.2.1) (y7.1,(y7.2.1,x.2.1.2.1.1.2.2.2.2.2.2.2.2))),())),())))),())))
        (none)))
      (J ru (aY Tryz.prog 52 1) ((x.1.1,((IntKind.wrap .i64 (x.1.2.1+(1:Int))),())),((((x.2.1.1.1.1,x.2.1.1.1.2),()),(((x.2.1.2.1.1.1,(x.2.1.2.1.1.2.1,(x.2.1.2.1.1.2.2.1,(x.2.1.2.1.1.2.2.2.1,((x.2.1.2.1.1.2.2.2.2.1.1,(x.2.1.2.1.1.2.2.2.2.1.2.1,x.2.1.2.1.1.2.2.2.2.1.2.2)),((x.2.1.2.1.1.2.2.2.2.2.1.1,(x.2.1.2.1.1.2.2.2.2.2.1.2.1,x.2.1.2.1.1.2.2.2.2.2.1.2.2)),(x.2.1.2.1.1.2.2.2.2.2.2.1,x.2.1.2.1.1.2.2.2.2.2.2.2))))))),()),((x.2.1.2.2.1.1,(x.2.1.2.2.1.2.1,x.2.1.2.2.1.2.2)),((x.2.1.2.2.2.1.1,x.2.1.2.2.2.1.2),())))),()))))
     (none))
    (J ru (aY Tryz.prog 52 1) ((x.1.1,((IntKind.wrap .i64 (x.1.2.1+(1:Int))),())),((((x.2.1.1.1.1,x.2.1.1.1.2),()),(((x.2.1.2.1.1.1,(x.2.1.2.1.1.2.1,(x.2.1.2.1.1.2.2.1,(x.2.1.2.1.1.2.2.2.1,((x.2.1.2.1.1.2.2.2.2.1.1,(x.2.1.2.1.1.2.2.2.2.1.2.1,x.2.1.2.1.1.2.2.2.2.1.2.2)),((x.2.1.2.1.1.2.2.2.2.2.1.1,(x.2.1.2.1.1.2.2.2.2.2.1.2.1,x.2.1.2.1.1.2.2.2.2.2.1.2.2)),(x.2.1.2.1.1.2.2.2.2.2.2.1,x.2.1.2.1.1.2.2.2.2.2.2.2))))))),()),((x.2.1.2.2.1.1,(x.2.1.2.2.1.2.1,x.2.1.2.2.1.2.2)),((x.2.1.2.2.2.1.1,x.2.1.2.2.2.1.2),())))),()))))
   (cond (not x.1.1)
    (some ((((([]:List ag),([]:List ah)),([]:List aq)),((13:Int),())),()))
    (some ((((x.2.1.2.2.2.1.1,x.2.1.2.2.2.1.2.1),x.2.1.1.1.2),((0:Int),())),()))):=by kernel_rfl
end Go.Vs
set_option maxRecDepth 1000000
set_option maxHeartbeats 0
namespace Go.Vs
open Go.Proofs
theorem afn(F:FT)(J:JT Nn)(x:abW):cp 54 Nn Tryz.f54 F J x =
  (F 20 rj ((x.1.1,((x.1.2.1.1,x.1.2.1.2),())),())).bind fun(y1:((ID×(Bool×Unit))×Unit)) =>
  cond (not y1.1.2.1)
   (some (((((0:Int),(0:Int)),(0:Int)),(false,())),()))
   ((F 23 zp (((x.1.2.1.1,x.1.2.1.2),()),())).bind fun(y2:((ab×Unit)×Unit)) =>
   (F 78 P6 ((x.1.1,((y2.1.1.1,y2.1.1.2),())),())).bind fun(y3:((ab×(Bool×Unit))×Unit)) =>
   some (((y3.1.1.1,y3.1.1.2),y3.1.2),())):=by kernel_rfl
theorem afo(F:FT)(J:JT vG)(x:((ai×aaU)×Unit)):cp 55 vG Tryz.f55 F J x =
 J BX (aY Tryz.prog 55 0) (((0:Int),()),(((x.1.1,()),((x.1.2.1,()),())),())):=by kernel_rfl
theorem Qw(F:FT)(J:JT vG)(x:(aaN×((ab5×acg)×Unit))):ib 55 0 vG Tryz.f55 BX F J x =
  cond (decide (x.1.1<(((List.length x.2.1.1.1.1):Nat):Int)))
   (((br x.2.1.1.1.1 x.1.1)).bind fun(y1:ag) =>
   cond ((y1.1.1==x.2.1.2.1.1.1)&&(y1.1.2==x.2.1.2.1.1.2))
    (some (x.1,()))
    (J BX (aY Tryz.prog 55 0) (((IntKind.wrap .i64 (x.1.1+(1:Int))),()),(((x.2.1.1.1,()),((x.2.1.2.1.1,()),())),()))))
   (some (((-1:Int),()),())):=by kernel_rfl
theorem afp(F:FT)(J:JT rk)(x:aaS):cp 56 rk Tryz.f56 F J x =
 J BY (aY Tryz.prog 56 0) (((0:Int),()),(((x.1.1,()),()),(([]:List Int),()))):=by kernel_rfl
theorem Qx(F:FT)(J:JT rk)(x:(aaN×(aaS×abP))):ib 56 0 rk Tryz.f56 BY F J x =
  cond (decide (x.1.1<(((List.length x.2.1.1.1.1):Nat):Int)))
   (cond (aP (List.length x.2.2.1) (List.length (x.1.1::([]:List Int))))
    (J BY (aY Tryz.prog 56 0) (((IntKind.wrap .i64 (x.1.1+(1:Int))),()),(((x.2.1.1.1,()),()),((x.2.2.1++(x.1.1::([]:List Int))),()))))
    (none))
   (J xn (aY Tryz.prog 56 1) (((0:Int),()),(((x.2.1.1.1,()),()),x.2.2))):=by kernel_rfl
theorem Qy(F:FT)(J:JT rk)(x:(aaN×(aaS×abP))):ib 56 1 rk Tryz.f56 xn F J x =
  cond (decide (x.1.1<(((List.length x.2.1.1.1.1):Nat):Int)))
   (J rv (aY Tryz.prog 56 2) ((x.1.1,((0:Int),())),(((x.2.1.1.1,()),()),x.2.2)))
   (some (x.2.2,())):=by kernel_rfl
theorem Qz(F:FT)(J:JT rk)(x:(aaT×(aaS×abP))):ib 56 2 rk Tryz.f56 rv F J x =
  cond (decide (x.1.2.1<(((List.length x.2.1.1.1.2):Nat):Int)))
   (((br x.2.1.1.1.2 x.1.2.1)).bind fun(y1:ah) =>
   (F 20 rj ((x.2.1.1.1,((y1.1,(0:Int)),())),())).bind fun(y2:((ID×(Bool×Unit))×Unit)) =>
   ((br x.2.1.1.1.2 x.1.2.1)).bind fun(y3:ah) =>
   (F 20 rj ((x.2.1.1.1,((y3.1,(1:Int)),())),())).bind fun(y4:((ID×(Bool×Unit))×Unit)) =>
   (F 55 vG ((x.2.1.1.1,(y2.1.1,())),())).bind fun(y5:((Int×Unit)×Unit)) =>
   (F 55 vG ((x.2.1.1.1,(y4.1.1,())),())).bind fun(y6:((Int×Unit)×Unit)) =>
   cond (decide (y5.1.1≥(0:Int)))
    (cond (decide (y6.1.1≥(0:Int)))
     (cond ((decide ((0:Int)≤y5.1.1))&&(decide (y5.1.1<(((List.length x.2.2.1):Nat):Int))))
      (((x.2.2.1)[(Int.toNat y5.1.1)]?).bind fun(y7:Int) =>
      cond ((decide ((0:Int)≤y6.1.1))&&(decide (y6.1.1<(((List.length x.2.2.1):Nat):Int))))
       (((x.2.2.1)[(Int.toNat y6.1.1)]?).bind fun(y8:Int) =>
       cond ((decide ((0:Int)≤y5.1.1))&&(decide (y5.1.1<(((List.length x.2.2.1):Nat):Int))))
        (((x.2.2.1)[(Int.toNat y5.1.1)]?).bind fun(y9:Int) =>
        cond ((decide ((0:Int)≤y6.1.1))&&(decide (y6.1.1<(((List.length (List.set x.2.2.1 (Int.toNat y5.1.1) (min y7 y8:Int))):Nat):Int))))
         ((((List.set x.2.2.1 (Int.toNat y5.1.1) (min y7 y8:Int)))[(Int.toNat y6.1.1)]?).bind fun(pW:Int) =>
         J rv (aY Tryz.prog 56 2) ((x.1.1,((IntKind.wrap .i64 (x.1.2.1+(1:Int))),())),(((x.2.1.1.1,()),()),((List.set (List.set x.2.2.1 (Int.toNat y5.1.1) (min y7 y8:Int)) (Int.toNat y6.1.1) (min y7 y8:Int)),()))))
         (none))
        (none))
       (none))
      (none))
     (J rv (aY Tryz.prog 56 2) ((x.1.1,((IntKind.wrap .i64 (x.1.2.1+(1:Int))),())),(((x.2.1.1.1,()),()),x.2.2))))
    (J rv (aY Tryz.prog 56 2) ((x.1.1,((IntKind.wrap .i64 (x.1.2.1+(1:Int))),())),(((x.2.1.1.1,()),()),x.2.2))))
   (J xn (aY Tryz.prog 56 1) (((IntKind.wrap .i64 (x.1.1+(1:Int))),()),(((x.2.1.1.1,()),()),x.2.2))):=by kernel_rfl
theorem afq(F:FT)(J:JT HI)(x:(((List ab)×abC)×Unit)):cp 57 HI Tryz.f57 F J x =
  cond ((((List.length x.1.1):Nat):Int) != (((List.length x.1.2.1):Nat):Int))
   (some ((false,()),()))
   (J BZ (aY Tryz.prog 57 0) ((x.1.1,(x.1.2.1,((0:Int),()))),((),()))):=by kernel_rfl
theorem QA(F:FT)(J:JT HI)(x:(((List ab)×acL)×aca)):ib 57 0 HI Tryz.f57 BZ F J x =
  cond (decide (x.1.2.2.1<(((List.length x.1.1):Nat):Int)))
   (((br x.1.1 x.1.2.2.1)).bind fun(y1:ab) =>
   ((br x.1.2.1 x.1.2.2.1)).bind fun(y2:ab) =>
   cond (not (((y1.1.1==y2.1.1)&&(y1.1.2==y2.1.2))&&(y1.2==y2.2)))
    (some ((false,()),()))
    (J BZ (aY Tryz.prog 57 0) ((x.1.1,(x.1.2.1,((IntKind.wrap .i64 (x.1.2.2.1+(1:Int))),()))),((),()))))
   (some ((true,()),())):=by kernel_rfl
theorem afr(F:FT)(J:JT Ke)(x:(ab1×Unit)):cp 58 Ke Tryz.f58 F J x =
  cond ((((List.length x.1.1):Nat):Int)==(0:Int))
   (some (((3:Int),()),()))
   (cond (decide ((((List.length x.1.1):Nat):Int)>(6:Int)))
    (some (((3:Int),()),()))
    (J FB (aY Tryz.prog 58 0) ((x.1.1,((((List.length x.1.1):Nat):Int),((0:Int),()))),((),())))):=by kernel_rfl
theorem QB(F:FT)(J:JT Ke)(x:(((List bL)×aaT)×aca)):ib 58 0 Ke Tryz.f58 FB F J x =
  cond (decide (x.1.2.2.1<x.1.2.1))
   (((br x.1.1 x.1.2.2.1)).bind fun(y1:bL) =>
   (F 43 Dv (((y1.1,(y1.2.1,(y1.2.2.1,(y1.2.2.2.1,((y1.2.2.2.2.1.1,(y1.2.2.2.2.1.2.1,y1.2.2.2.2.1.2.2)),((y1.2.2.2.2.2.1.1,(y1.2.2.2.2.2.1.2.1,y1.2.2.2.2.2.1.2.2)),(y1.2.2.2.2.2.2.1,y1.2.2.2.2.2.2.2))))))),()),())).bind fun(y2:((Int×Unit)×Unit)) =>
   cond (y2.1.1 != (0:Int))
    (some (y2.1,()))
    (J FB (aY Tryz.prog 58 0) ((x.1.1,(x.1.2.1,((IntKind.wrap .i64 (x.1.2.2.1+(1:Int))),()))),((),()))))
   (some (((0:Int),()),())):=by kernel_rfl
theorem afs(F:FT)(J:JT Fz)(x:aaS):cp 59 Fz Tryz.f59 F J x =
 J B2 (aY Tryz.prog 59 0) (((0:Int),()),(((x.1.1,()),()),(([]:List ab),()))):=by kernel_rfl
theorem QC(F:FT)(J:JT Fz)(x:(aaN×(aaS×abC))):ib 59 0 Fz Tryz.f59 B2 F J x =
  cond (decide (x.1.1<(((List.length x.2.1.1.1.2):Nat):Int)))
   (((br x.2.1.1.1.2 x.1.1)).bind fun(y1:ah) =>
   ((br x.2.1.1.1.2 x.1.1)).bind fun(y2:ah) =>
   cond (aP (List.length x.2.2.1) (List.length ((y1.1,(0:Int))::((y2.1,(1:Int))::([]:List ab)))))
    (J B2 (aY Tryz.prog 59 0) (((IntKind.wrap .i64 (x.1.1+(1:Int))),()),(((x.2.1.1.1,()),()),((x.2.2.1++((y1.1,(0:Int))::((y2.1,(1:Int))::([]:List ab)))),()))))
    (none))
   (some (x.2.2,())):=by kernel_rfl
theorem aft(F:FT)(J:JT HJ)(x:aaS):cp 60 HJ Tryz.f60 F J x =
 (F 79 Nu ((x.1.1.1,()),())).bind fun(y1:(((List ag)×Unit)×Unit)) =>
 (F 80 Nv ((x.1.1.2,()),())).bind fun(y2:(((List ah)×Unit)×Unit)) =>
 J B3 (aY Tryz.prog 60 0) (((((List.length y1.1.1):Nat):Int),((0:Int),())),(((([]:List ag),(([]:List ah),())),((y1.1.1,y2.1),())),())):=by kernel_rfl
theorem QD(F:FT)(J:JT HJ)(x:(aaT×(ab6×Unit))):ib 60 0 HJ Tryz.f60 B3 F J x =
  cond (decide (x.1.2.1<x.1.1))
   (cond ((decide ((0:Int)≤x.1.2.1))&&(decide (x.1.2.1<(((List.length x.2.1.2.1.1):Nat):Int))))
    (((x.2.1.2.1.1)[(Int.toNat x.1.2.1)]?).bind fun(y3:ag) =>
    (F 81 zy ((y3.2.1,()),())).bind fun(y4:(((List ab)×Unit)×Unit)) =>
    cond ((decide ((0:Int)≤x.1.2.1))&&(decide (x.1.2.1<(((List.length x.2.1.2.1.1):Nat):Int))))
     (((x.2.1.2.1.1)[(Int.toNat x.1.2.1)]?).bind fun(y5:ag) =>
     J B3 (aY Tryz.prog 60 0) ((x.1.1,((IntKind.wrap .i64 (x.1.2.1+(1:Int))),())),(((x.2.1.1.1,x.2.1.1.2),(((List.set x.2.1.2.1.1 (Int.toNat x.1.2.1) (y5.1,(y4.1.1,y5.2.2))),x.2.1.2.1.2),())),())))
     (none))
    (none))
   (some (((x.2.1.2.1.1,x.2.1.2.1.2),()),())):=by kernel_rfl
theorem afu(F:FT)(J:JT Kf)(x:(((List aq)×Unit)×Unit)):cp 61 Kf Tryz.f61 F J x =
  cond (List.isEmpty x.1.1)
   (ta 2 fun(j1:Nat) =>
   cond ((j1==0)==true)
    (some ((([]:List aq),()),()))
    (cond (aP (List.length ([]:List aq)) (List.length x.1.1))
     (some (((([]:List aq)++x.1.1),()),()))
     (none)))
   (cond (aP (List.length ([]:List aq)) (List.length x.1.1))
    (some (((([]:List aq)++x.1.1),()),()))
    (none)):=by kernel_rfl
theorem afv(F:FT)(J:JT No)(x:((ab×aaO)×Unit)):cp 62 No Tryz.f62 F J x =
  (F 69 HM ((x.1.1.1,(x.1.2.1.1,())),())).bind fun(y1:((Int×Unit)×Unit)) =>
  cond (y1.1.1 != (0:Int))
   (some (y1.1,()))
   (cond (decide (x.1.1.2<x.1.2.1.2))
    (some (((-1:Int),()),()))
    (cond (decide (x.1.1.2>x.1.2.1.2))
     (some (((1:Int),()),()))
     (some (((0:Int),()),())))):=by kernel_rfl
theorem afw(F:FT)(J:JT HK)(x:aaS):cp 64 HK Tryz.f64 F J x =
  (F 85 HO ((x.1.1,()),())).bind fun(y1:((Int×(Int×(Int×(Int×Unit))))×Unit)) =>
  cond ((2:Int)==(0:Int))
   (none)
   (some (((IntKind.wrap .i64 (Int.tdiv (IntKind.wrap .i64 ((IntKind.wrap .i64 ((IntKind.wrap .i64 ((IntKind.wrap .i64 ((2:Int)*y1.1.2.2.2.1))-y1.1.1))+y1.1.2.1))-y1.1.2.2.1)) (2:Int))),()),())):=by kernel_rfl
theorem Xf(F:FT)(J:JT HL)(x:(abI×Unit)):cp 65 HL Tryz.f65 F J x =
  (F 86 rl ((x.1.1.2.1,()),())).bind fun(y1:((Bool×Unit)×Unit)) =>
  cond (x.1.1.1==(1:Int))
   (cond (x.1.1.1==(1:Int))
    (cond (not y1.1.1)
     (some (((x.1.1.1,(x.1.1.2.1,(((0:Int),(0:Int)),(((0:Int),(0:Int)),((((0:Int),(0:Int)),(((0:Int),(0:Int)),(0:Int))),((((0:Int),(0:Int)),(((0:Int),(0:Int)),(0:Int))),(false,((⟨#[]⟩:ByteArray),(0:Int))))))))),((1:Int),())),()))
     (some (((x.1.1.1,(x.1.1.2.1,(((0:Int),(0:Int)),(((0:Int),(0:Int)),((((0:Int),(0:Int)),(((0:Int),(0:Int)),(0:Int))),((((0:Int),(0:Int)),(((0:Int),(0:Int)),(0:Int))),(false,((⟨#[]⟩:ByteArray),(0:Int))))))))),((0:Int),())),())))
    (cond (x.1.1.1==(6:Int))
     (cond y1.1.1
      ((F 86 rl ((x.1.1.2.2.2.1,()),())).bind fun(y2:((Bool×Unit)×Unit)) =>
      cond (not y2.1.1)
       (some (((x.1.1.1,(x.1.1.2.1,(((0:Int),(0:Int)),(x.1.1.2.2.2.1,((((0:Int),(0:Int)),(((0:Int),(0:Int)),(0:Int))),((((0:Int),(0:Int)),(((0:Int),(0:Int)),(0:Int))),(false,((⟨#[]⟩:ByteArray),(0:Int))))))))),((1:Int),())),()))
       (some (((x.1.1.1,(x.1.1.2.1,(((0:Int),(0:Int)),(x.1.1.2.2.2.1,((((0:Int),(0:Int)),(((0:Int),(0:Int)),(0:Int))),((((0:Int),(0:Int)),(((0:Int),(0:Int)),(0:Int))),(false,((⟨#[]⟩:ByteArray),(0:Int))))))))),((0:Int),())),())))
      (some (((x.1.1.1,(x.1.1.2.1,(((0:Int),(0:Int)),(x.1.1.2.2.2.1,((((0:Int),(0:Int)),(((0:Int),(0:Int)),(0:Int))),((((0:Int),(0:Int)),(((0:Int),(0:Int)),(0:Int))),(false,((⟨#[]⟩:ByteArray),(0:Int))))))))),((1:Int),())),())))
     (cond (x.1.1.1==(3:Int))
      (cond y1.1.1
       ((F 87 Dx (((x.1.1.2.2.2.2.1.1,(x.1.1.2.2.2.2.1.2.1,x.1.1.2.2.2.2.1.2.2)),()),())).bind fun(y3:((Bool×Unit)×Unit)) =>
       cond y3.1.1
        ((F 87 Dx (((x.1.1.2.2.2.2.2.1.1,(x.1.1.2.2.2.2.2.1.2.1,x.1.1.2.2.2.2.2.1.2.2)),()),())).bind fun(y4:((Bool×Unit)×Unit)) =>
        cond (not y4.1.1)
         (some (((x.1.1.1,(x.1.1.2.1,(((0:Int),(0:Int)),(((0:Int),(0:Int)),((x.1.1.2.2.2.2.1.1,(x.1.1.2.2.2.2.1.2.1,x.1.1.2.2.2.2.1.2.2)),((x.1.1.2.2.2.2.2.1.1,(x.1.1.2.2.2.2.2.1.2.1,x.1.1.2.2.2.2.2.1.2.2)),(false,((⟨#[]⟩:ByteArray),(0:Int))))))))),((1:Int),())),()))
         (some (((x.1.1.1,(x.1.1.2.1,(((0:Int),(0:Int)),(((0:Int),(0:Int)),((x.1.1.2.2.2.2.1.1,(x.1.1.2.2.2.2.1.2.1,x.1.1.2.2.2.2.1.2.2)),((x.1.1.2.2.2.2.2.1.1,(x.1.1.2.2.2.2.2.1.2.1,x.1.1.2.2.2.2.2.1.2.2)),(false,((⟨#[]⟩:ByteArray),(0:Int))))))))),((0:Int),())),())))
        (some (((x.1.1.1,(x.1.1.2.1,(((0:Int),(0:Int)),(((0:Int),(0:Int)),((x.1.1.2.2.2.2.1.1,(x.1.1.2.2.2.2.1.2.1,x.1.1.2.2.2.2.1.2.2)),((x.1.1.2.2.2.2.2.1.1,(x.1.1.2.2.2.2.2.1.2.1,x.1.1.2.2.2.2.2.1.2.2)),(false,((⟨#[]⟩:ByteArray),(0:Int))))))))),((1:Int),())),())))
       (some (((x.1.1.1,(x.1.1.2.1,(((0:Int),(0:Int)),(((0:Int),(0:Int)),((x.1.1.2.2.2.2.1.1,(x.1.1.2.2.2.2.1.2.1,x.1.1.2.2.2.2.1.2.2)),((x.1.1.2.2.2.2.2.1.1,(x.1.1.2.2.2.2.2.1.2.1,x.1.1.2.2.2.2.2.1.2.2)),(false,((⟨#[]⟩:ByteArray),(0:Int))))))))),((1:Int),())),())))
      (cond (x.1.1.1==(5:Int))
       (cond y1.1.1
        ((F 86 rl ((x.1.1.2.2.1,()),())).bind fun(y5:((Bool×Unit)×Unit)) =>
        cond y5.1.1
         ((F 86 rl ((x.1.1.2.2.2.1,()),())).bind fun(y6:((Bool×Unit)×Unit)) =>
         cond y6.1.1
          (cond (not ((fz .andNot .i64 x.1.1.2.2.2.2.2.2.2.2 (3:Int))==(0:Int)))
           (some (((x.1.1.1,(x.1.1.2.1,(x.1.1.2.2.1,(x.1.1.2.2.2.1,((((0:Int),(0:Int)),(((0:Int),(0:Int)),(0:Int))),((((0:Int),(0:Int)),(((0:Int),(0:Int)),(0:Int))),(false,((⟨#[]⟩:ByteArray),x.1.1.2.2.2.2.2.2.2.2)))))))),((1:Int),())),()))
           (some (((x.1.1.1,(x.1.1.2.1,(x.1.1.2.2.1,(x.1.1.2.2.2.1,((((0:Int),(0:Int)),(((0:Int),(0:Int)),(0:Int))),((((0:Int),(0:Int)),(((0:Int),(0:Int)),(0:Int))),(false,((⟨#[]⟩:ByteArray),x.1.1.2.2.2.2.2.2.2.2)))))))),((0:Int),())),())))
          (some (((x.1.1.1,(x.1.1.2.1,(x.1.1.2.2.1,(x.1.1.2.2.2.1,((((0:Int),(0:Int)),(((0:Int),(0:Int)),(0:Int))),((((0:Int),(0:Int)),(((0:Int),(0:Int)),(0:Int))),(false,((⟨#[]⟩:ByteArray),x.1.1.2.2.2.2.2.2.2.2)))))))),((1:Int),())),())))
         (some (((x.1.1.1,(x.1.1.2.1,(x.1.1.2.2.1,(x.1.1.2.2.2.1,((((0:Int),(0:Int)),(((0:Int),(0:Int)),(0:Int))),((((0:Int),(0:Int)),(((0:Int),(0:Int)),(0:Int))),(false,((⟨#[]⟩:ByteArray),x.1.1.2.2.2.2.2.2.2.2)))))))),((1:Int),())),())))
        (some (((x.1.1.1,(x.1.1.2.1,(x.1.1.2.2.1,(x.1.1.2.2.2.1,((((0:Int),(0:Int)),(((0:Int),(0:Int)),(0:Int))),((((0:Int),(0:Int)),(((0:Int),(0:Int)),(0:Int))),(false,((⟨#[]⟩:ByteArray),x.1.1.2.2.2.2.2.2.2.2)))))))),((1:Int),())),())))
       (cond (x.1.1.1==(7:Int))
        ((F 88 xi ((x.1.1.2.2.2.2.2.2.2.1,()),())).bind fun(y7:((Bool×Unit)×Unit)) =>
        cond (not y7.1.1)
         (cond (not y1.1.1)
          (some (((x.1.1.1,(x.1.1.2.1,(((0:Int),(0:Int)),(((0:Int),(0:Int)),((((0:Int),(0:Int)),(((0:Int),(0:Int)),(0:Int))),((((0:Int),(0:Int)),(((0:Int),(0:Int)),(0:Int))),(x.1.1.2.2.2.2.2.2.1,(x.1.1.2.2.2.2.2.2.2.1,(0:Int))))))))),((1:Int),())),()))
          (some (((x.1.1.1,(x.1.1.2.1,(((0:Int),(0:Int)),(((0:Int),(0:Int)),((((0:Int),(0:Int)),(((0:Int),(0:Int)),(0:Int))),((((0:Int),(0:Int)),(((0:Int),(0:Int)),(0:Int))),(x.1.1.2.2.2.2.2.2.1,(x.1.1.2.2.2.2.2.2.2.1,(0:Int))))))))),((4:Int),())),())))
         (cond (not y1.1.1)
          (some (((x.1.1.1,(x.1.1.2.1,(((0:Int),(0:Int)),(((0:Int),(0:Int)),((((0:Int),(0:Int)),(((0:Int),(0:Int)),(0:Int))),((((0:Int),(0:Int)),(((0:Int),(0:Int)),(0:Int))),(x.1.1.2.2.2.2.2.2.1,(x.1.1.2.2.2.2.2.2.2.1,(0:Int))))))))),((1:Int),())),()))
          (some (((x.1.1.1,(x.1.1.2.1,(((0:Int),(0:Int)),(((0:Int),(0:Int)),((((0:Int),(0:Int)),(((0:Int),(0:Int)),(0:Int))),((((0:Int),(0:Int)),(((0:Int),(0:Int)),(0:Int))),(x.1.1.2.2.2.2.2.2.1,(x.1.1.2.2.2.2.2.2.2.1,(0:Int))))))))),((0:Int),())),()))))
        (cond (x.1.1.1==(8:Int))
         (cond y1.1.1
          ((F 89 HP ((x.1.1.2.2.2.2.2.2.2.2,()),())).bind fun(y8:((Bool×Unit)×Unit)) =>
          cond (not y8.1.1)
           (some (((x.1.1.1,(x.1.1.2.1,(((0:Int),(0:Int)),(((0:Int),(0:Int)),((((0:Int),(0:Int)),(((0:Int),(0:Int)),(0:Int))),((((0:Int),(0:Int)),(((0:Int),(0:Int)),(0:Int))),(x.1.1.2.2.2.2.2.2.1,((⟨#[]⟩:ByteArray),x.1.1.2.2.2.2.2.2.2.2)))))))),((1:Int),())),()))
           (some (((x.1.1.1,(x.1.1.2.1,(((0:Int),(0:Int)),(((0:Int),(0:Int)),((((0:Int),(0:Int)),(((0:Int),(0:Int)),(0:Int))),((((0:Int),(0:Int)),(((0:Int),(0:Int)),(0:Int))),(x.1.1.2.2.2.2.2.2.1,((⟨#[]⟩:ByteArray),x.1.1.2.2.2.2.2.2.2.2)))))))),((0:Int),())),())))
          (some (((x.1.1.1,(x.1.1.2.1,(((0:Int),(0:Int)),(((0:Int),(0:Int)),((((0:Int),(0:Int)),(((0:Int),(0:Int)),(0:Int))),((((0:Int),(0:Int)),(((0:Int),(0:Int)),(0:Int))),(x.1.1.2.2.2.2.2.2.1,((⟨#[]⟩:ByteArray),x.1.1.2.2.2.2.2.2.2.2)))))))),((1:Int),())),())))
         (some (((x.1.1.1,(x.1.1.2.1,(((0:Int),(0:Int)),(((0:Int),(0:Int)),((((0:Int),(0:Int)),(((0:Int),(0:Int)),(0:Int))),((((0:Int),(0:Int)),(((0:Int),(0:Int)),(0:Int))),(false,((⟨#[]⟩:ByteArray),(0:Int))))))))),((1:Int),())),()))))))))
   (cond (x.1.1.1==(2:Int))
    (cond (x.1.1.1==(2:Int))
     (cond (not y1.1.1)
      (some (((x.1.1.1,(x.1.1.2.1,(((0:Int),(0:Int)),(((0:Int),(0:Int)),((((0:Int),(0:Int)),(((0:Int),(0:Int)),(0:Int))),((((0:Int),(0:Int)),(((0:Int),(0:Int)),(0:Int))),(false,((⟨#[]⟩:ByteArray),(0:Int))))))))),((1:Int),())),()))
      (some (((x.1.1.1,(x.1.1.2.1,(((0:Int),(0:Int)),(((0:Int),(0:Int)),((((0:Int),(0:Int)),(((0:Int),(0:Int)),(0:Int))),((((0:Int),(0:Int)),(((0:Int),(0:Int)),(0:Int))),(false,((⟨#[]⟩:ByteArray),(0:Int))))))))),((0:Int),())),())))
     (cond (x.1.1.1==(6:Int))
      (cond y1.1.1
       ((F 86 rl ((x.1.1.2.2.2.1,()),())).bind fun(y9:((Bool×Unit)×Unit)) =>
       cond (not y9.1.1)
        (some (((x.1.1.1,(x.1.1.2.1,(((0:Int),(0:Int)),(x.1.1.2.2.2.1,((((0:Int),(0:Int)),(((0:Int),(0:Int)),(0:Int))),((((0:Int),(0:Int)),(((0:Int),(0:Int)),(0:Int))),(false,((⟨#[]⟩:ByteArray),(0:Int))))))))),((1:Int),())),()))
        (some (((x.1.1.1,(x.1.1.2.1,(((0:Int),(0:Int)),(x.1.1.2.2.2.1,((((0:Int),(0:Int)),(((0:Int),(0:Int)),(0:Int))),((((0:Int),(0:Int)),(((0:Int),(0:Int)),(0:Int))),(false,((⟨#[]⟩:ByteArray),(0:Int))))))))),((0:Int),())),())))
       (some (((x.1.1.1,(x.1.1.2.1,(((0:Int),(0:Int)),(x.1.1.2.2.2.1,((((0:Int),(0:Int)),(((0:Int),(0:Int)),(0:Int))),((((0:Int),(0:Int)),(((0:Int),(0:Int)),(0:Int))),(false,((⟨#[]⟩:ByteArray),(0:Int))))))))),((1:Int),())),())))
      (cond (x.1.1.1==(3:Int))
       (cond y1.1.1
        ((F 87 Dx (((x.1.1.2.2.2.2.1.1,(x.1.1.2.2.2.2.1.2.1,x.1.1.2.2.2.2.1.2.2)),()),())).bind fun(pW:((Bool×Unit)×Unit)) =>
        cond pW.1.1
         ((F 87 Dx (((x.1.1.2.2.2.2.2.1.1,(x.1.1.2.2.2.2.2.1.2.1,x.1.1.2.2.2.2.2.1.2.2)),()),())).bind fun(lF:((Bool×Unit)×Unit)) =>
         cond (not lF.1.1)
          (some (((x.1.1.1,(x.1.1.2.1,(((0:Int),(0:Int)),(((0:Int),(0:Int)),((x.1.1.2.2.2.2.1.1,(x.1.1.2.2.2.2.1.2.1,x.1.1.2.2.2.2.1.2.2)),((x.1.1.2.2.2.2.2.1.1,(x.1.1.2.2.2.2.2.1.2.1,x.1.1.2.2.2.2.2.1.2.2)),(false,((⟨#[]⟩:ByteArray),(0:Int))))))))),((1:Int),())),()))
          (some (((x.1.1.1,(x.1.1.2.1,(((0:Int),(0:Int)),(((0:Int),(0:Int)),((x.1.1.2.2.2.2.1.1,(x.1.1.2.2.2.2.1.2.1,x.1.1.2.2.2.2.1.2.2)),((x.1.1.2.2.2.2.2.1.1,(x.1.1.2.2.2.2.2.1.2.1,x.1.1.2.2.2.2.2.1.2.2)),(false,((⟨#[]⟩:ByteArray),(0:Int))))))))),((0:Int),())),())))
         (some (((x.1.1.1,(x.1.1.2.1,(((0:Int),(0:Int)),(((0:Int),(0:Int)),((x.1.1.2.2.2.2.1.1,(x.1.1.2.2.2.2.1.2.1,x.1.1.2.2.2.2.1.2.2)),((x.1.1.2.2.2.2.2.1.1,(x.1.1.2.2.2.2.2.1.2.1,x.1.1.2.2.2.2.2.1.2.2)),(false,((⟨#[]⟩:ByteArray),(0:Int))))))))),((1:Int),())),())))
        (some (((x.1.1.1,(x.1.1.2.1,(((0:Int),(0:Int)),(((0:Int),(0:Int)),((x.1.1.2.2.2.2.1.1,(x.1.1.2.2.2.2.1.2.1,x.1.1.2.2.2.2.1.2.2)),((x.1.1.2.2.2.2.2.1.1,(x.1.1.2.2.2.2.2.1.2.1,x.1.1.2.2.2.2.2.1.2.2)),(false,((⟨#[]⟩:ByteArray),(0:Int))))))))),((1:Int),())),())))
       (cond (x.1.1.1==(5:Int))
        (cond y1.1.1
         ((F 86 rl ((x.1.1.2.2.1,()),())).bind fun(nk:((Bool×Unit)×Unit)) =>
         cond nk.1.1
          ((F 86 rl ((x.1.1.2.2.2.1,()),())).bind fun(ln:((Bool×Unit)×Unit)) =>
          cond ln.1.1
           (cond (not ((fz .andNot .i64 x.1.1.2.2.2.2.2.2.2.2 (3:Int))==(0:Int)))
            (some (((x.1.1.1,(x.1.1.2.1,(x.1.1.2.2.1,(x.1.1.2.2.2.1,((((0:Int),(0:Int)),(((0:Int),(0:Int)),(0:Int))),((((0:Int),(0:Int)),(((0:Int),(0:Int)),(0:Int))),(false,((⟨#[]⟩:ByteArray),x.1.1.2.2.2.2.2.2.2.2)))))))),((1:Int),())),()))
            (some (((x.1.1.1,(x.1.1.2.1,(x.1.1.2.2.1,(x.1.1.2.2.2.1,((((0:Int),(0:Int)),(((0:Int),(0:Int)),(0:Int))),((((0:Int),(0:Int)),(((0:Int),(0:Int)),(0:Int))),(false,((⟨#[]⟩:ByteArray),x.1.1.2.2.2.2.2.2.2.2)))))))),((0:Int),())),())))
           (some (((x.1.1.1,(x.1.1.2.1,(x.1.1.2.2.1,(x.1.1.2.2.2.1,((((0:Int),(0:Int)),(((0:Int),(0:Int)),(0:Int))),((((0:Int),(0:Int)),(((0:Int),(0:Int)),(0:Int))),(false,((⟨#[]⟩:ByteArray),x.1.1.2.2.2.2.2.2.2.2)))))))),((1:Int),())),())))
          (some (((x.1.1.1,(x.1.1.2.1,(x.1.1.2.2.1,(x.1.1.2.2.2.1,((((0:Int),(0:Int)),(((0:Int),(0:Int)),(0:Int))),((((0:Int),(0:Int)),(((0:Int),(0:Int)),(0:Int))),(false,((⟨#[]⟩:ByteArray),x.1.1.2.2.2.2.2.2.2.2)))))))),((1:Int),())),())))
         (some (((x.1.1.1,(x.1.1.2.1,(x.1.1.2.2.1,(x.1.1.2.2.2.1,((((0:Int),(0:Int)),(((0:Int),(0:Int)),(0:Int))),((((0:Int),(0:Int)),(((0:Int),(0:Int)),(0:Int))),(false,((⟨#[]⟩:ByteArray),x.1.1.2.2.2.2.2.2.2.2)))))))),((1:Int),())),())))
        (cond (x.1.1.1==(7:Int))
         ((F 88 xi ((x.1.1.2.2.2.2.2.2.2.1,()),())).bind fun(wF:((Bool×Unit)×Unit)) =>
         cond (not wF.1.1)
          (cond (not y1.1.1)
           (some (((x.1.1.1,(x.1.1.2.1,(((0:Int),(0:Int)),(((0:Int),(0:Int)),((((0:Int),(0:Int)),(((0:Int),(0:Int)),(0:Int))),((((0:Int),(0:Int)),(((0:Int),(0:Int)),(0:Int))),(x.1.1.2.2.2.2.2.2.1,(x.1.1.2.2.2.2.2.2.2.1,(0:Int))))))))),((1:Int),())),()))
           (some (((x.1.1.1,(x.1.1.2.1,(((0:Int),(0:Int)),(((0:Int),(0:Int)),((((0:Int),(0:Int)),(((0:Int),(0:Int)),(0:Int))),((((0:Int),(0:Int)),(((0:Int),(0:Int)),(0:Int))),(x.1.1.2.2.2.2.2.2.1,(x.1.1.2.2.2.2.2.2.2.1,(0:Int))))))))),((4:Int),())),())))
          (cond (not y1.1.1)
           (some (((x.1.1.1,(x.1.1.2.1,(((0:Int),(0:Int)),(((0:Int),(0:Int)),((((0:Int),(0:Int)),(((0:Int),(0:Int)),(0:Int))),((((0:Int),(0:Int)),(((0:Int),(0:Int)),(0:Int))),(x.1.1.2.2.2.2.2.2.1,(x.1.1.2.2.2.2.2.2.2.1,(0:Int))))))))),((1:Int),())),()))
           (some (((x.1.1.1,(x.1.1.2.1,(((0:Int),(0:Int)),(((0:Int),(0:Int)),((((0:Int),(0:Int)),(((0:Int),(0:Int)),(0:Int))),((((0:Int),(0:Int)),(((0:Int),(0:Int)),(0:Int))),(x.1.1.2.2.2.2.2.2.1,(x.1.1.2.2.2.2.2.2.2.1,(0:Int))))))))),((0:Int),())),()))))
         (cond (x.1.1.1==(8:Int))
          (cond y1.1.1
           ((F 89 HP ((x.1.1.2.2.2.2.2.2.2.2,()),())).bind fun(qu:((Bool×Unit)×Unit)) =>
           cond (not qu.1.1)
            (some (((x.1.1.1,(x.1.1.2.1,(((0:Int),(0:Int)),(((0:Int),(0:Int)),((((0:Int),(0:Int)),(((0:Int),(0:Int)),(0:Int))),((((0:Int),(0:Int)),(((0:Int),(0:Int)),(0:Int))),(x.1.1.2.2.2.2.2.2.1,((⟨#[]⟩:ByteArray),x.1.1.2.2.2.2.2.2.2.2)))))))),((1:Int),())),()))
            (some (((x.1.1.1,(x.1.1.2.1,(((0:Int),(0:Int)),(((0:Int),(0:Int)),((((0:Int),(0:Int)),(((0:Int),(0:Int)),(0:Int))),((((0:Int),(0:Int)),(((0:Int),(0:Int)),(0:Int))),(x.1.1.2.2.2.2.2.2.1,((⟨#[]⟩:ByteArray),x.1.1.2.2.2.2.2.2.2.2)))))))),((0:Int),())),())))
           (some (((x.1.1.1,(x.1.1.2.1,(((0:Int),(0:Int)),(((0:Int),(0:Int)),((((0:Int),(0:Int)),(((0:Int),(0:Int)),(0:Int))),((((0:Int),(0:Int)),(((0:Int),(0:Int)),(0:Int))),(x.1.1.2.2.2.2.2.2.1,((⟨#[]⟩:ByteArray),x.1.1.2.2.2.2.2.2.2.2)))))))),((1:Int),())),())))
          (some (((x.1.1.1,(x.1.1.2.1,(((0:Int),(0:Int)),(((0:Int),(0:Int)),((((0:Int),(0:Int)),(((0:Int),(0:Int)),(0:Int))),((((0:Int),(0:Int)),(((0:Int),(0:Int)),(0:Int))),(false,((⟨#[]⟩:ByteArray),(0:Int))))))))),((1:Int),())),()))))))))
    (cond (x.1.1.1==(4:Int))
     (cond (not y1.1.1)
      (some (((x.1.1.1,(x.1.1.2.1,(((0:Int),(0:Int)),(((0:Int),(0:Int)),((((0:Int),(0:Int)),(((0:Int),(0:Int)),(0:Int))),((((0:Int),(0:Int)),(((0:Int),(0:Int)),(0:Int))),(false,((⟨#[]⟩:ByteArray),(0:Int))))))))),((1:Int),())),()))
      (some (((x.1.1.1,(x.1.1.2.1,(((0:Int),(0:Int)),(((0:Int),(0:Int)),((((0:Int),(0:Int)),(((0:Int),(0:Int)),(0:Int))),((((0:Int),(0:Int)),(((0:Int),(0:Int)),(0:Int))),(false,((⟨#[]⟩:ByteArray),(0:Int))))))))),((0:Int),())),())))
     (cond (x.1.1.1==(6:Int))
      (cond y1.1.1
       ((F 86 rl ((x.1.1.2.2.2.1,()),())).bind fun(Lu:((Bool×Unit)×Unit)) =>
       cond (not Lu.1.1)
        (some (((x.1.1.1,(x.1.1.2.1,(((0:Int),(0:Int)),(x.1.1.2.2.2.1,((((0:Int),(0:Int)),(((0:Int),(0:Int)),(0:Int))),((((0:Int),(0:Int)),(((0:Int),(0:Int)),(0:Int))),(false,((⟨#[]⟩:ByteArray),(0:Int))))))))),((1:Int),())),()))
        (some (((x.1.1.1,(x.1.1.2.1,(((0:Int),(0:Int)),(x.1.1.2.2.2.1,((((0:Int),(0:Int)),(((0:Int),(0:Int)),(0:Int))),((((0:Int),(0:Int)),(((0:Int),(0:Int)),(0:Int))),(false,((⟨#[]⟩:ByteArray),(0:Int))))))))),((0:Int),())),())))
       (some (((x.1.1.1,(x.1.1.2.1,(((0:Int),(0:Int)),(x.1.1.2.2.2.1,((((0:Int),(0:Int)),(((0:Int),(0:Int)),(0:Int))),((((0:Int),(0:Int)),(((0:Int),(0:Int)),(0:Int))),(false,((⟨#[]⟩:ByteArray),(0:Int))))))))),((1:Int),())),())))
      (cond (x.1.1.1==(3:Int))
       (cond y1.1.1
        ((F 87 Dx (((x.1.1.2.2.2.2.1.1,(x.1.1.2.2.2.2.1.2.1,x.1.1.2.2.2.2.1.2.2)),()),())).bind fun(Nw:((Bool×Unit)×Unit)) =>
        cond Nw.1.1
         ((F 87 Dx (((x.1.1.2.2.2.2.2.1.1,(x.1.1.2.2.2.2.2.1.2.1,x.1.1.2.2.2.2.2.1.2.2)),()),())).bind fun(VB:((Bool×Unit)×Unit)) =>
         cond (not VB.1.1)
          (some (((x.1.1.1,(x.1.1.2.1,(((0:Int),(0:Int)),(((0:Int),(0:Int)),((x.1.1.2.2.2.2.1.1,(x.1.1.2.2.2.2.1.2.1,x.1.1.2.2.2.2.1.2.2)),((x.1.1.2.2.2.2.2.1.1,(x.1.1.2.2.2.2.2.1.2.1,x.1.1.2.2.2.2.2.1.2.2)),(false,((⟨#[]⟩:ByteArray),(0:Int))))))))),((1:Int),())),()))
          (some (((x.1.1.1,(x.1.1.2.1,(((0:Int),(0:Int)),(((0:Int),(0:Int)),((x.1.1.2.2.2.2.1.1,(x.1.1.2.2.2.2.1.2.1,x.1.1.2.2.2.2.1.2.2)),((x.1.1.2.2.2.2.2.1.1,(x.1.1.2.2.2.2.2.1.2.1,x.1.1.2.2.2.2.2.1.2.2)),(false,((⟨#[]⟩:ByteArray),(0:Int))))))))),((0:Int),())),())))
         (some (((x.1.1.1,(x.1.1.2.1,(((0:Int),(0:Int)),(((0:Int),(0:Int)),((x.1.1.2.2.2.2.1.1,(x.1.1.2.2.2.2.1.2.1,x.1.1.2.2.2.2.1.2.2)),((x.1.1.2.2.2.2.2.1.1,(x.1.1.2.2.2.2.2.1.2.1,x.1.1.2.2.2.2.2.1.2.2)),(false,((⟨#[]⟩:ByteArray),(0:Int))))))))),((1:Int),())),())))
        (some (((x.1.1.1,(x.1.1.2.1,(((0:Int),(0:Int)),(((0:Int),(0:Int)),((x.1.1.2.2.2.2.1.1,(x.1.1.2.2.2.2.1.2.1,x.1.1.2.2.2.2.1.2.2)),((x.1.1.2.2.2.2.2.1.1,(x.1.1.2.2.2.2.2.1.2.1,x.1.1.2.2.2.2.2.1.2.2)),(false,((⟨#[]⟩:ByteArray),(0:Int))))))))),((1:Int),())),())))
       (cond (x.1.1.1==(5:Int))
        (cond y1.1.1
         ((F 86 rl ((x.1.1.2.2.1,()),())).bind fun(SY:((Bool×Unit)×Unit)) =>
         cond SY.1.1
          ((F 86 rl ((x.1.1.2.2.2.1,()),())).bind fun(Dz:((Bool×Unit)×Unit)) =>
          cond Dz.1.1
           (cond (not ((fz .andNot .i64 x.1.1.2.2.2.2.2.2.2.2 (3:Int))==(0:Int)))
            (some (((x.1.1.1,(x.1.1.2.1,(x.1.1.2.2.1,(x.1.1.2.2.2.1,((((0:Int),(0:Int)),(((0:Int),(0:Int)),(0:Int))),((((0:Int),(0:Int)),(((0:Int),(0:Int)),(0:Int))),(false,((⟨#[]⟩:ByteArray),x.1.1.2.2.2.2.2.2.2.2)))))))),((1:Int),())),()))
            (some (((x.1.1.1,(x.1.1.2.1,(x.1.1.2.2.1,(x.1.1.2.2.2.1,((((0:Int),(0:Int)),(((0:Int),(0:Int)),(0:Int))),((((0:Int),(0:Int)),(((0:Int),(0:Int)),(0:Int))),(false,((⟨#[]⟩:ByteArray),x.1.1.2.2.2.2.2.2.2.2)))))))),((0:Int),())),())))
           (some (((x.1.1.1,(x.1.1.2.1,(x.1.1.2.2.1,(x.1.1.2.2.2.1,((((0:Int),(0:Int)),(((0:Int),(0:Int)),(0:Int))),((((0:Int),(0:Int)),(((0:Int),(0:Int)),(0:Int))),(false,((⟨#[]⟩:ByteArray),x.1.1.2.2.2.2.2.2.2.2)))))))),((1:Int),())),())))
          (some (((x.1.1.1,(x.1.1.2.1,(x.1.1.2.2.1,(x.1.1.2.2.2.1,((((0:Int),(0:Int)),(((0:Int),(0:Int)),(0:Int))),((((0:Int),(0:Int)),(((0:Int),(0:Int)),(0:Int))),(false,((⟨#[]⟩:ByteArray),x.1.1.2.2.2.2.2.2.2.2)))))))),((1:Int),())),())))
         (some (((x.1.1.1,(x.1.1.2.1,(x.1.1.2.2.1,(x.1.1.2.2.2.1,((((0:Int),(0:Int)),(((0:Int),(0:Int)),(0:Int))),((((0:Int),(0:Int)),(((0:Int),(0:Int)),(0:Int))),(false,((⟨#[]⟩:ByteArray),x.1.1.2.2.2.2.2.2.2.2)))))))),((1:Int),())),())))
        (cond (x.1.1.1==(7:Int))
         ((F 88 xi ((x.1.1.2.2.2.2.2.2.2.1,()),())).bind fun(TU:((Bool×Unit)×Unit)) =>
         cond (not TU.1.1)
          (cond (not y1.1.1)
           (some (((x.1.1.1,(x.1.1.2.1,(((0:Int),(0:Int)),(((0:Int),(0:Int)),((((0:Int),(0:Int)),(((0:Int),(0:Int)),(0:Int))),((((0:Int),(0:Int)),(((0:Int),(0:Int)),(0:Int))),(x.1.1.2.2.2.2.2.2.1,(x.1.1.2.2.2.2.2.2.2.1,(0:Int))))))))),((1:Int),())),()))
           (some (((x.1.1.1,(x.1.1.2.1,(((0:Int),(0:Int)),(((0:Int),(0:Int)),((((0:Int),(0:Int)),(((0:Int),(0:Int)),(0:Int))),((((0:Int),(0:Int)),(((0:Int),(0:Int)),(0:Int))),(x.1.1.2.2.2.2.2.2.1,(x.1.1.2.2.2.2.2.2.2.1,(0:Int))))))))),((4:Int),())),())))
          (cond (not y1.1.1)
           (some (((x.1.1.1,(x.1.1.2.1,(((0:Int),(0:Int)),(((0:Int),(0:Int)),((((0:Int),(0:Int)),(((0:Int),(0:Int)),(0:Int))),((((0:Int),(0:Int)),(((0:Int),(0:Int)),(0:Int))),(x.1.1.2.2.2.2.2.2.1,(x.1.1.2.2.2.2.2.2.2.1,(0:Int))))))))),((1:Int),())),()))
           (some (((x.1.1.1,(x.1.1.2.1,(((0:Int),(0:Int)),(((0:Int),(0:Int)),((((0:Int),(0:Int)),(((0:Int),(0:Int)),(0:Int))),((((0:Int),(0:Int)),(((0:Int),(0:Int)),(0:Int))),(x.1.1.2.2.2.2.2.2.1,(x.1.1.2.2.2.2.2.2.2.1,(0:Int))))))))),((0:Int),())),()))))
         (cond (x.1.1.1==(8:Int))
          (cond y1.1.1
           ((F 89 HP ((x.1.1.2.2.2.2.2.2.2.2,()),())).bind fun(VC:((Bool×Unit)×Unit)) =>
           cond (not VC.1.1)
            (some (((x.1.1.1,(x.1.1.2.1,(((0:Int),(0:Int)),(((0:Int),(0:Int)),((((0:Int),(0:Int)),(((0:Int),(0:Int)),(0:Int))),((((0:Int),(0:Int)),(((0:Int),(0:Int)),(0:Int))),(x.1.1.2.2.2.2.2.2.1,((⟨#[]⟩:ByteArray),x.1.1.2.2.2.2.2.2.2.2)))))))),((1:Int),())),()))
            (some (((x.1.1.1,(x.1.1.2.1,(((0:Int),(0:Int)),(((0:Int),(0:Int)),((((0:Int),(0:Int)),(((0:Int),(0:Int)),(0:Int))),((((0:Int),(0:Int)),(((0:Int),(0:Int)),(0:Int))),(x.1.1.2.2.2.2.2.2.1,((⟨#[]⟩:ByteArray),x.1.1.2.2.2.2.2.2.2.2)))))))),((0:Int),())),())))
           (some (((x.1.1.1,(x.1.1.2.1,(((0:Int),(0:Int)),(((0:Int),(0:Int)),((((0:Int),(0:Int)),(((0:Int),(0:Int)),(0:Int))),((((0:Int),(0:Int)),(((0:Int),(0:Int)),(0:Int))),(x.1.1.2.2.2.2.2.2.1,((⟨#[]⟩:ByteArray),x.1.1.2.2.2.2.2.2.2.2)))))))),((1:Int),())),())))
          (some (((x.1.1.1,(x.1.1.2.1,(((0:Int),(0:Int)),(((0:Int),(0:Int)),((((0:Int),(0:Int)),(((0:Int),(0:Int)),(0:Int))),((((0:Int),(0:Int)),(((0:Int),(0:Int)),(0:Int))),(false,((⟨#[]⟩:ByteArray),(0:Int))))))))),((1:Int),())),()))))))))):=by kernel_rfl
theorem FD(F:FT)(J:JT zt)(x:acM):cp 66 zt Tryz.f66 F J x =
  cond (x.1.1.1==(1:Int))
   ((F 90 HQ (((x.1.1.2.1,(([]:List ab),((⟨#[]⟩:ByteArray),(0:Int)))),()),((x.2.1.1,(x.2.1.2.1,x.2.1.2.2)),()))).bind fun(y1:((Int×Unit)×(aF×Unit))) =>
   some (y1.1,((y1.2.1.1,(y1.2.1.2.1,y1.2.1.2.2)),())))
   (cond (x.1.1.1==(2:Int))
    ((F 91 P7 (((x.1.1.1,(x.1.1.2.1,(x.1.1.2.2.1,(x.1.1.2.2.2.1,((x.1.1.2.2.2.2.1.1,(x.1.1.2.2.2.2.1.2.1,x.1.1.2.2.2.2.1.2.2)),((x.1.1.2.2.2.2.2.1.1,(x.1.1.2.2.2.2.2.1.2.1,x.1.1.2.2.2.2.2.1.2.2)),(x.1.1.2.2.2.2.2.2.1,x.1.1.2.2.2.2.2.2.2))))))),()),((x.2.1.1,(x.2.1.2.1,x.2.1.2.2)),()))).bind fun(y2:((Int×Unit)×(aF×Unit))) =>
    some (y2.1,((y2.2.1.1,(y2.2.1.2.1,y2.2.1.2.2)),())))
    (cond (x.1.1.1==(3:Int))
     ((F 92 oC (((x.1.1.1,(x.1.1.2.1,(x.1.1.2.2.1,(x.1.1.2.2.2.1,((x.1.1.2.2.2.2.1.1,(x.1.1.2.2.2.2.1.2.1,x.1.1.2.2.2.2.1.2.2)),((x.1.1.2.2.2.2.2.1.1,(x.1.1.2.2.2.2.2.1.2.1,x.1.1.2.2.2.2.2.1.2.2)),(x.1.1.2.2.2.2.2.2.1,x.1.1.2.2.2.2.2.2.2))))))),()),((x.2.1.1,(x.2.1.2.1,x.2.1.2.2)),()))).bind fun(y3:((Int×Unit)×(aF×Unit))) =>
     some (y3.1,((y3.2.1.1,(y3.2.1.2.1,y3.2.1.2.2)),())))
     (cond (x.1.1.1==(4:Int))
      ((F 93 BA (((x.1.1.1,(x.1.1.2.1,(x.1.1.2.2.1,(x.1.1.2.2.2.1,((x.1.1.2.2.2.2.1.1,(x.1.1.2.2.2.2.1.2.1,x.1.1.2.2.2.2.1.2.2)),((x.1.1.2.2.2.2.2.1.1,(x.1.1.2.2.2.2.2.1.2.1,x.1.1.2.2.2.2.2.1.2.2)),(x.1.1.2.2.2.2.2.2.1,x.1.1.2.2.2.2.2.2.2))))))),()),((x.2.1.1,(x.2.1.2.1,x.2.1.2.2)),()))).bind fun(y4:((Int×Unit)×(aF×Unit))) =>
      some (y4.1,((y4.2.1.1,(y4.2.1.2.1,y4.2.1.2.2)),())))
      (cond (x.1.1.1==(5:Int))
       ((F 94 zz (((x.1.1.1,(x.1.1.2.1,(x.1.1.2.2.1,(x.1.1.2.2.2.1,((x.1.1.2.2.2.2.1.1,(x.1.1.2.2.2.2.1.2.1,x.1.1.2.2.2.2.1.2.2)),((x.1.1.2.2.2.2.2.1.1,(x.1.1.2.2.2.2.2.1.2.1,x.1.1.2.2.2.2.2.1.2.2)),(x.1.1.2.2.2.2.2.2.1,x.1.1.2.2.2.2.2.2.2))))))),()),((x.2.1.1,(x.2.1.2.1,x.2.1.2.2)),()))).bind fun(y5:((Int×Unit)×(aF×Unit))) =>
       some (y5.1,((y5.2.1.1,(y5.2.1.2.1,y5.2.1.2.2)),())))
       (cond (x.1.1.1==(6:Int))
        ((F 95 rm (((x.1.1.1,(x.1.1.2.1,(x.1.1.2.2.1,(x.1.1.2.2.2.1,((x.1.1.2.2.2.2.1.1,(x.1.1.2.2.2.2.1.2.1,x.1.1.2.2.2.2.1.2.2)),((x.1.1.2.2.2.2.2.1.1,(x.1.1.2.2.2.2.2.1.2.1,x.1.1.2.2.2.2.2.1.2.2)),(x.1.1.2.2.2.2.2.2.1,x.1.1.2.2.2.2.2.2.2))))))),()),((x.2.1.1,(x.2.1.2.1,x.2.1.2.2)),()))).bind fun(y6:((Int×Unit)×(aF×Unit))) =>
        some (y6.1,((y6.2.1.1,(y6.2.1.2.1,y6.2.1.2.2)),())))
        ((F 96 P8 (((x.1.1.1,(x.1.1.2.1,(x.1.1.2.2.1,(x.1.1.2.2.2.1,((x.1.1.2.2.2.2.1.1,(x.1.1.2.2.2.2.1.2.1,x.1.1.2.2.2.2.1.2.2)),((x.1.1.2.2.2.2.2.1.1,(x.1.1.2.2.2.2.2.1.2.1,x.1.1.2.2.2.2.2.1.2.2)),(x.1.1.2.2.2.2.2.2.1,x.1.1.2.2.2.2.2.2.2))))))),()),((x.2.1.1,(x.2.1.2.1,x.2.1.2.2)),()))).bind fun(y7:((Int×Unit)×(aF×Unit))) =>
        some (y7.1,((y7.2.1.1,(y7.2.1.2.1,y7.2.1.2.2)),())))))))):=by kernel_rfl
theorem afx(F:FT)(J:JT Np)(x:(abI×Unit)):cp 67 Np Tryz.f67 F J x =
  cond (x.1.1.1==(3:Int))
   (some ((((0:Int),(((0:Int),(0:Int)),(x.1.1.2.2.1,(x.1.1.2.2.2.1,((((0:Int),(0:Int)),(((0:Int),(0:Int)),(0:Int))),((((0:Int),(0:Int)),(((0:Int),(0:Int)),(0:Int))),(x.1.1.2.2.2.2.2.2.1,x.1.1.2.2.2.2.2.2.2))))))),()),()))
   (cond (x.1.1.1==(5:Int))
    (some ((((0:Int),(((0:Int),(0:Int)),(((0:Int),(0:Int)),(((0:Int),(0:Int)),((x.1.1.2.2.2.2.1.1,(x.1.1.2.2.2.2.1.2.1,x.1.1.2.2.2.2.1.2.2)),((x.1.1.2.2.2.2.2.1.1,(x.1.1.2.2.2.2.2.1.2.1,x.1.1.2.2.2.2.2.1.2.2)),(x.1.1.2.2.2.2.2.2.1,(x.1.1.2.2.2.2.2.2.2.1,(0:Int))))))))),()),()))
    (cond (x.1.1.1==(6:Int))
     (some ((((0:Int),(((0:Int),(0:Int)),(x.1.1.2.2.1,(((0:Int),(0:Int)),((x.1.1.2.2.2.2.1.1,(x.1.1.2.2.2.2.1.2.1,x.1.1.2.2.2.2.1.2.2)),((x.1.1.2.2.2.2.2.1.1,(x.1.1.2.2.2.2.2.1.2.1,x.1.1.2.2.2.2.2.1.2.2)),(x.1.1.2.2.2.2.2.2.1,x.1.1.2.2.2.2.2.2.2))))))),()),()))
     (cond (x.1.1.1==(7:Int))
      (some ((((0:Int),(((0:Int),(0:Int)),(x.1.1.2.2.1,(x.1.1.2.2.2.1,((x.1.1.2.2.2.2.1.1,(x.1.1.2.2.2.2.1.2.1,x.1.1.2.2.2.2.1.2.2)),((x.1.1.2.2.2.2.2.1.1,(x.1.1.2.2.2.2.2.1.2.1,x.1.1.2.2.2.2.2.1.2.2)),(false,((⟨#[]⟩:ByteArray),x.1.1.2.2.2.2.2.2.2.2)))))))),()),()))
      (cond (x.1.1.1==(8:Int))
       (some ((((0:Int),(((0:Int),(0:Int)),(x.1.1.2.2.1,(x.1.1.2.2.2.1,((x.1.1.2.2.2.2.1.1,(x.1.1.2.2.2.2.1.2.1,x.1.1.2.2.2.2.1.2.2)),((x.1.1.2.2.2.2.2.1.1,(x.1.1.2.2.2.2.2.1.2.1,x.1.1.2.2.2.2.2.1.2.2)),(false,(x.1.1.2.2.2.2.2.2.2.1,(0:Int))))))))),()),()))
       (some ((((0:Int),(((0:Int),(0:Int)),(x.1.1.2.2.1,(x.1.1.2.2.2.1,((x.1.1.2.2.2.2.1.1,(x.1.1.2.2.2.2.1.2.1,x.1.1.2.2.2.2.1.2.2)),((x.1.1.2.2.2.2.2.1.1,(x.1.1.2.2.2.2.2.1.2.1,x.1.1.2.2.2.2.2.1.2.2)),(x.1.1.2.2.2.2.2.2.1,x.1.1.2.2.2.2.2.2.2))))))),()),())))))):=by kernel_rfl
theorem afy(F:FT)(J:JT Nq)(x:((pS×Unit)×Unit)):cp 68 Nq Tryz.f68 F J x =
  (F 19 By ((x.1.1.1,()),())).bind fun(y1:((Bool×Unit)×Unit)) =>
  (F 97 P9 (((x.1.1.2.1,x.1.1.2.2),()),())).bind fun(y2:((Bool×Unit)×Unit)) =>
  cond y1.1.1
   (cond y2.1.1
    (some ((true,()),()))
    (some (((((x.1.1.2.1.1==(0:Int))&&(x.1.1.2.1.2==(0:Int)))&&(x.1.1.2.2==(0:Int))),()),())))
   (some ((false,()),())):=by kernel_rfl
theorem afz(F:FT)(J:JT HM)(x:((ID×aaU)×Unit)):cp 69 HM Tryz.f69 F J x =
  cond ((x.1.1.1==x.1.2.1.1)&&(x.1.1.2==x.1.2.1.2))
   (some (((0:Int),()),()))
   (cond (decide (x.1.1.1<x.1.2.1.1))
    (some (((-1:Int),()),()))
    (cond (x.1.1.1==x.1.2.1.1)
     (cond (decide (x.1.1.2<x.1.2.1.2))
      (some (((-1:Int),()),()))
      (some (((1:Int),()),())))
     (some (((1:Int),()),())))):=by kernel_rfl
theorem afA(F:FT)(J:JT Nr)(x:((StateT×(pS×Unit))×Unit)):cp 70 Nr Tryz.f70 F J x =
  (F 18 kQ ((x.1.1.1,(x.1.2.1.1,())),())).bind fun(y1:((ag×(Bool×Unit))×Unit)) =>
  cond (not y1.1.2.1)
   (some (((((0:Int),(0:Int)),(((0:Int),(0:Int)),(0:Int))),((13:Int),())),()))
   ((F 98 HR (((x.1.1.1,x.1.1.2),((x.1.2.1.2.1,x.1.2.1.2.2),())),())).bind fun(y2:((ab×Unit)×Unit)) =>
   (F 24 qB ((y1.1.1.2.1,((y2.1.1.1,y2.1.1.2),())),())).bind fun(y3:((Int×Unit)×Unit)) =>
   cond (decide (y3.1.1<(0:Int)))
    (some (((x.1.2.1.1,(((0:Int),(0:Int)),(0:Int))),((0:Int),())),()))
    (some (((x.1.2.1.1,(y2.1.1.1,y2.1.1.2)),((0:Int),())),()))):=by kernel_rfl
theorem afB(F:FT)(J:JT zu)(x:((ai×(ah×Unit))×Unit)):cp 71 zu Tryz.f71 F J x =
 J uA (aY Tryz.prog 71 0) ((false,((0:Int),())),(((x.1.1,()),(((x.1.2.1.1,x.1.2.1.2),()),((([]:List ag),(([]:List ah),())),((x.1.1.1,(([]:List ah),())),())))),())):=by kernel_rfl
theorem QE(F:FT)(J:JT zu)(x:((Bool×aaN)×((ab5×((ah×Unit)×ab6))×Unit))):ib 71 0 zu Tryz.f71 uA F J x =
  cond (decide (x.1.2.1<(((List.length x.2.1.1.1.2):Nat):Int)))
   (cond (not x.1.1)
    (((br x.2.1.1.1.2 x.1.2.1)).bind fun(y1:ah) =>
    (F 69 HM ((x.2.1.2.1.1.1,(y1.1,())),())).bind fun(y2:((Int×Unit)×Unit)) =>
    cond (decide (y2.1.1<(0:Int)))
     (cond (aP (List.length x.2.1.2.2.2.1.2.1) (List.length ((x.2.1.2.1.1.1,x.2.1.2.1.1.2)::([]:List ah))))
      (((br x.2.1.1.1.2 x.1.2.1)).bind fun(y3:ah) =>
      cond (aP (List.length (x.2.1.2.2.2.1.2.1++((x.2.1.2.1.1.1,x.2.1.2.1.1.2)::([]:List ah)))) (List.length ((y3.1,y3.2)::([]:List ah))))
       (J uA (aY Tryz.prog 71 0) ((true,((IntKind.wrap .i64 (x.1.2.1+(1:Int))),())),(((x.2.1.1.1,()),(((x.2.1.2.1.1.1,x.2.1.2.1.1.2),()),((x.2.1.2.2.1.1,x.2.1.2.2.1.2),((x.2.1.2.2.2.1.1,(((x.2.1.2.2.2.1.2.1++((x.2.1.2.1.1.1,x.2.1.2.1.1.2)::([]:List ah)))++((y3.1,y3.2)::([]:List ah))),())),())))),())))
       (none))
      (none))
     (((br x.2.1.1.1.2 x.1.2.1)).bind fun(y4:ah) =>
     cond (aP (List.length x.2.1.2.2.2.1.2.1) (List.length ((y4.1,y4.2)::([]:List ah))))
      (J uA (aY Tryz.prog 71 0) ((x.1.1,((IntKind.wrap .i64 (x.1.2.1+(1:Int))),())),(((x.2.1.1.1,()),(((x.2.1.2.1.1.1,x.2.1.2.1.1.2),()),((x.2.1.2.2.1.1,x.2.1.2.2.1.2),((x.2.1.2.2.2.1.1,((x.2.1.2.2.2.1.2.1++((y4.1,y4.2)::([]:List ah))),())),())))),())))
      (none)))
    (((br x.2.1.1.1.2 x.1.2.1)).bind fun(y5:ah) =>
    cond (aP (List.length x.2.1.2.2.2.1.2.1) (List.length ((y5.1,y5.2)::([]:List ah))))
     (J uA (aY Tryz.prog 71 0) ((x.1.1,((IntKind.wrap .i64 (x.1.2.1+(1:Int))),())),(((x.2.1.1.1,()),(((x.2.1.2.1.1.1,x.2.1.2.1.1.2),()),((x.2.1.2.2.1.1,x.2.1.2.2.1.2),((x.2.1.2.2.2.1.1,((x.2.1.2.2.2.1.2.1++((y5.1,y5.2)::([]:List ah))),())),())))),())))
     (none)))
   (cond (not x.1.1)
    (cond (aP (List.length x.2.1.2.2.2.1.2.1) (List.length ((x.2.1.2.1.1.1,x.2.1.2.1.1.2)::([]:List ah))))
     (some (((x.2.1.2.2.2.1.1,(x.2.1.2.2.2.1.2.1++((x.2.1.2.1.1.1,x.2.1.2.1.1.2)::([]:List ah)))),()),()))
     (none))
    (some (((x.2.1.2.2.2.1.1,x.2.1.2.2.2.1.2.1),()),()))):=by kernel_rfl
theorem afC(F:FT)(J:JT zw)(x:((ai×(pS×aaO))×Unit)):cp 72 zw Tryz.f72 F J x =
 (F 18 kQ ((x.1.1,(x.1.2.1.1,())),())).bind fun(y1:((ag×(Bool×Unit))×Unit)) =>
 (F 100 yP ((y1.1.1.2.1,((x.1.2.1.2.1,x.1.2.1.2.2),((x.1.2.2.1.1,x.1.2.2.1.2),()))),())).bind fun(y2:(((List ab)×Unit)×Unit)) =>
 (F 99 Dy ((x.1.1,(x.1.2.1.1,y2.1)),())).bind fun(y3:((ai×Unit)×Unit)) =>
 some ((y3.1.1,()),()):=by kernel_rfl
theorem afD(F:FT)(J:JT zx)(x:(((List aq)×(aq×Unit))×Unit)):cp 73 zx Tryz.f73 F J x =
  (F 101 tI ((x.1.1,((x.1.2.1.1.1,x.1.2.1.1.2),())),())).bind fun(y1:((ab×(Bool×Unit))×Unit)) =>
  cond (not y1.1.2.1)
   (cond (decide ((((List.length x.1.1):Nat):Int)≥(400:Int)))
    (some ((x.1.1,()),()))
    (J ll (aY Tryz.prog 73 0) ((x.1.1,(false,((0:Int),()))),(((((x.1.2.1.1.1,x.1.2.1.1.2),(x.1.2.1.2.1,x.1.2.1.2.2)),()),()),(([]:List aq),())))))
   (J ll (aY Tryz.prog 73 0) ((x.1.1,(false,((0:Int),()))),(((((x.1.2.1.1.1,x.1.2.1.1.2),(x.1.2.1.2.1,x.1.2.1.2.2)),()),()),(([]:List aq),())))):=by kernel_rfl
theorem QF(F:FT)(J:JT zx)(x:(((List aq)×(Bool×aaN))×(((aq×Unit)×Unit)×((List aq)×Unit)))):ib 73 0 zx Tryz.f73 ll F J x =
  cond (decide (x.1.2.2.1<(((List.length x.1.1):Nat):Int)))
   (cond (not x.1.2.1)
    (((br x.1.1 x.1.2.2.1)).bind fun(y2:aq) =>
    (F 62 No (((x.2.1.1.1.1.1,x.2.1.1.1.1.2),((y2.1.1,y2.1.2),())),())).bind fun(y3:((Int×Unit)×Unit)) =>
    cond (decide (y3.1.1≤(0:Int)))
     (cond (aP (List.length x.2.2.1) (List.length (((x.2.1.1.1.1.1,x.2.1.1.1.1.2),(x.2.1.1.1.2.1,x.2.1.1.1.2.2))::([]:List aq))))
      (((br x.1.1 x.1.2.2.1)).bind fun(y4:aq) =>
      cond (not (((y4.1.1.1==x.2.1.1.1.1.1.1)&&(y4.1.1.2==x.2.1.1.1.1.1.2))&&(y4.1.2==x.2.1.1.1.1.2)))
       (((br x.1.1 x.1.2.2.1)).bind fun(y5:aq) =>
       cond (aP (List.length (x.2.2.1++(((x.2.1.1.1.1.1,x.2.1.1.1.1.2),(x.2.1.1.1.2.1,x.2.1.1.1.2.2))::([]:List aq)))) (List.length (((y5.1.1,y5.1.2),(y5.2.1,y5.2.2))::([]:List aq))))
        (J ll (aY Tryz.prog 73 0) ((x.1.1,(true,((IntKind.wrap .i64 (x.1.2.2.1+(1:Int))),()))),(((((x.2.1.1.1.1.1,x.2.1.1.1.1.2),(x.2.1.1.1.2.1,x.2.1.1.1.2.2)),()),()),(((x.2.2.1++(((x.2.1.1.1.1.1,x.2.1.1.1.1.2),(x.2.1.1.1.2.1,x.2.1.1.1.2.2))::([]:List aq)))++(((y5.1.1,y5.1.2),(y5.2.1,y5.2.2))::([]:List aq))),()))))
        (none))
       (J ll (aY Tryz.prog 73 0) ((x.1.1,(true,((IntKind.wrap .i64 (x.1.2.2.1+(1:Int))),()))),(((((x.2.1.1.1.1.1,x.2.1.1.1.1.2),(x.2.1.1.1.2.1,x.2.1.1.1.2.2)),()),()),((x.2.2.1++(((x.2.1.1.1.1.1,x.2.1.1.1.1.2),(x.2.1.1.1.2.1,x.2.1.1.1.2.2))::([]:List aq))),())))))
      (none))
     (((br x.1.1 x.1.2.2.1)).bind fun(y6:aq) =>
     cond (not (((y6.1.1.1==x.2.1.1.1.1.1.1)&&(y6.1.1.2==x.2.1.1.1.1.1.2))&&(y6.1.2==x.2.1.1.1.1.2)))
      (((br x.1.1 x.1.2.2.1)).bind fun(y7:aq) =>
      cond (aP (List.length x.2.2.1) (List.length (((y7.1.1,y7.1.2),(y7.2.1,y7.2.2))::([]:List aq))))
       (J ll (aY Tryz.prog 73 0) ((x.1.1,(x.1.2.1,((IntKind.wrap .i64 (x.1.2.2.1+(1:Int))),()))),(((((x.2.1.1.1.1.1,x.2.1.1.1.1.2),(x.2.1.1.1.2.1,x.2.1.1.1.2.2)),()),()),((x.2.2.1++(((y7.1.1,y7.1.2),(y7.2.1,y7.2.2))::([]:List aq))),()))))
       (none))
      (J ll (aY Tryz.prog 73 0) ((x.1.1,(x.1.2.1,((IntKind.wrap .i64 (x.1.2.2.1+(1:Int))),()))),(((((x.2.1.1.1.1.1,x.2.1.1.1.1.2),(x.2.1.1.1.2.1,x.2.1.1.1.2.2)),()),()),x.2.2)))))
    (((br x.1.1 x.1.2.2.1)).bind fun(y8:aq) =>
    cond (not (((y8.1.1.1==x.2.1.1.1.1.1.1)&&(y8.1.1.2==x.2.1.1.1.1.1.2))&&(y8.1.2==x.2.1.1.1.1.2)))
     (((br x.1.1 x.1.2.2.1)).bind fun(y9:aq) =>
     cond (aP (List.length x.2.2.1) (List.length (((y9.1.1,y9.1.2),(y9.2.1,y9.2.2))::([]:List aq))))
      (J ll (aY Tryz.prog 73 0) ((x.1.1,(x.1.2.1,((IntKind.wrap .i64 (x.1.2.2.1+(1:Int))),()))),(((((x.2.1.1.1.1.1,x.2.1.1.1.1.2),(x.2.1.1.1.2.1,x.2.1.1.1.2.2)),()),()),((x.2.2.1++(((y9.1.1,y9.1.2),(y9.2.1,y9.2.2))::([]:List aq))),()))))
      (none))
     (J ll (aY Tryz.prog 73 0) ((x.1.1,(x.1.2.1,((IntKind.wrap .i64 (x.1.2.2.1+(1:Int))),()))),(((((x.2.1.1.1.1.1,x.2.1.1.1.1.2),(x.2.1.1.1.2.1,x.2.1.1.1.2.2)),()),()),x.2.2)))))
   (cond (not x.1.2.1)
    (cond (aP (List.length x.2.2.1) (List.length (((x.2.1.1.1.1.1,x.2.1.1.1.1.2),(x.2.1.1.1.2.1,x.2.1.1.1.2.2))::([]:List aq))))
     (some (((x.2.2.1++(((x.2.1.1.1.1.1,x.2.1.1.1.1.2),(x.2.1.1.1.2.1,x.2.1.1.1.2.2))::([]:List aq))),()),()))
     (none))
    (some (x.2.2,()))):=by kernel_rfl
theorem afE(F:FT)(J:JT Ns)(x:abW):cp 74 Ns Tryz.f74 F J x =
  (F 20 rj ((x.1.1,((x.1.2.1.1,x.1.2.1.2),())),())).bind fun(y1:((ID×(Bool×Unit))×Unit)) =>
  (F 18 kQ ((x.1.1,(y1.1.1,())),())).bind fun(y2:((ag×(Bool×Unit))×Unit)) =>
  (F 26 zq ((y2.1.1.2.1,((x.1.2.1.1,x.1.2.1.2),())),())).bind fun(y3:((ab×(Bool×Unit))×Unit)) =>
  cond ((y3.1.1.1.1==x.1.2.1.1.1)&&(y3.1.1.1.2==x.1.2.1.1.2))
   ((F 26 zq ((y2.1.1.2.1,((y3.1.1.1,y3.1.1.2),())),())).bind fun(y4:((ab×(Bool×Unit))×Unit)) =>
   cond ((y4.1.1.1.1==x.1.2.1.1.1)&&(y4.1.1.1.2==x.1.2.1.1.2))
    (some (((((0:Int),(0:Int)),(0:Int)),()),()))
    (some (((y4.1.1.1,y4.1.1.2),()),())))
   (cond ((y3.1.1.1.1==x.1.2.1.1.1)&&(y3.1.1.1.2==x.1.2.1.1.2))
    (some (((((0:Int),(0:Int)),(0:Int)),()),()))
    (some (((y3.1.1.1,y3.1.1.2),()),()))):=by kernel_rfl
theorem afF(F:FT)(J:JT Nt)(x:abW):cp 75 Nt Tryz.f75 F J x =
 (F 20 rj ((x.1.1,((x.1.2.1.1,x.1.2.1.2),())),())).bind fun(y1:((ID×(Bool×Unit))×Unit)) =>
 (F 18 kQ ((x.1.1,(y1.1.1,())),())).bind fun(y2:((ag×(Bool×Unit))×Unit)) =>
 (F 102 yQ ((y2.1.1.2.1,((x.1.2.1.1,x.1.2.1.2),())),())).bind fun(y3:(((List ab)×Unit)×Unit)) =>
 (F 99 Dy ((x.1.1,(y1.1.1,y3.1)),())).bind fun(y4:((ai×Unit)×Unit)) =>
 some ((y4.1.1,()),()):=by kernel_rfl
theorem afG(F:FT)(J:JT HN)(x:((ai×(ab×aaO))×Unit)):cp 76 HN Tryz.f76 F J x =
 (F 20 rj ((x.1.1,((x.1.2.1.1,x.1.2.1.2),())),())).bind fun(y1:((ID×(Bool×Unit))×Unit)) =>
 (F 18 kQ ((x.1.1,(y1.1.1,())),())).bind fun(y2:((ag×(Bool×Unit))×Unit)) =>
 (F 103 HS ((y2.1.1.2.1,((x.1.2.1.1,x.1.2.1.2),((x.1.2.2.1.1,x.1.2.2.1.2),()))),())).bind fun(y3:(((List ab)×Unit)×Unit)) =>
 (F 99 Dy ((x.1.1,(y1.1.1,y3.1)),())).bind fun(y4:((ai×Unit)×Unit)) =>
 some ((y4.1.1,()),()):=by kernel_rfl
theorem afH(F:FT)(J:JT qC)(x:(abC×Unit)):cp 77 qC Tryz.f77 F J x =
 J xp (aY Tryz.prog 77 0) ((x.1.1,((0:Int),((0:Int),()))),((),())):=by kernel_rfl
theorem QG(F:FT)(J:JT qC)(x:(acN×aca)):ib 77 0 qC Tryz.f77 xp F J x =
  cond (decide (x.1.2.2.1<(((List.length x.1.1):Nat):Int)))
   (((br x.1.1 x.1.2.2.1)).bind fun(y1:ab) =>
   ((br x.1.1 x.1.2.1)).bind fun(y2:ab) =>
   (F 62 No (((y1.1,y1.2),((y2.1,y2.2),())),())).bind fun(y3:((Int×Unit)×Unit)) =>
   cond (decide (y3.1.1<(0:Int)))
    (J xp (aY Tryz.prog 77 0) ((x.1.1,(x.1.2.2.1,((IntKind.wrap .i64 (x.1.2.2.1+(1:Int))),()))),((),())))
    (J xp (aY Tryz.prog 77 0) ((x.1.1,(x.1.2.1,((IntKind.wrap .i64 (x.1.2.2.1+(1:Int))),()))),((),()))))
   (J B4 (aY Tryz.prog 77 1) ((x.1.1,(x.1.2.1,((0:Int),()))),((),(([]:List ab),())))):=by kernel_rfl
theorem QH(F:FT)(J:JT qC)(x:(acN×(Unit×abC))):ib 77 1 qC Tryz.f77 B4 F J x =
  cond (decide (x.1.2.2.1<(((List.length x.1.1):Nat):Int)))
   (cond ((((List.length x.1.1):Nat):Int)==(0:Int))
    (none)
    (((br x.1.1 (Int.tmod (IntKind.wrap .i64 (x.1.2.1+x.1.2.2.1)) (((List.length x.1.1):Nat):Int)))).bind fun(y4:ab) =>
    cond (aP (List.length x.2.2.1) (List.length ((y4.1,y4.2)::([]:List ab))))
     (J B4 (aY Tryz.prog 77 1) ((x.1.1,(x.1.2.1,((IntKind.wrap .i64 (x.1.2.2.1+(1:Int))),()))),((),((x.2.2.1++((y4.1,y4.2)::([]:List ab))),()))))
     (none)))
   (some (x.2.2,())):=by kernel_rfl
theorem afI(F:FT)(J:JT P6)(x:abW):cp 78 P6 Tryz.f78 F J x =
  (F 20 rj ((x.1.1,((x.1.2.1.1,x.1.2.1.2),())),())).bind fun(y1:((ID×(Bool×Unit))×Unit)) =>
  cond (not y1.1.2.1)
   (some (((((0:Int),(0:Int)),(0:Int)),(false,())),()))
   ((F 18 kQ ((x.1.1,(y1.1.1,())),())).bind fun(y2:((ag×(Bool×Unit))×Unit)) =>
   (F 104 HT ((y2.1.1.2.1,((x.1.2.1.1,x.1.2.1.2),())),())).bind fun(y3:((ab×(Bool×Unit))×Unit)) =>
   some (((y3.1.1.1,y3.1.1.2),y3.1.2),())):=by kernel_rfl
theorem afJ(F:FT)(J:JT Nu)(x:(((List ag)×Unit)×Unit)):cp 79 Nu Tryz.f79 F J x =
  cond (List.isEmpty x.1.1)
   (ta 2 fun(j1:Nat) =>
   cond ((j1==0)==true)
    (some ((([]:List ag),()),()))
    (cond (aP (List.length ([]:List ag)) (List.length x.1.1))
     (some (((([]:List ag)++x.1.1),()),()))
     (none)))
   (cond (aP (List.length ([]:List ag)) (List.length x.1.1))
    (some (((([]:List ag)++x.1.1),()),()))
    (none)):=by kernel_rfl
theorem afK(F:FT)(J:JT Nv)(x:(((List ah)×Unit)×Unit)):cp 80 Nv Tryz.f80 F J x =
  cond (List.isEmpty x.1.1)
   (ta 2 fun(j1:Nat) =>
   cond ((j1==0)==true)
    (some ((([]:List ah),()),()))
    (cond (aP (List.length ([]:List ah)) (List.length x.1.1))
     (some (((([]:List ah)++x.1.1),()),()))
     (none)))
   (cond (aP (List.length ([]:List ah)) (List.length x.1.1))
    (some (((([]:List ah)++x.1.1),()),()))
    (none)):=by kernel_rfl
theorem afL(F:FT)(J:JT zy)(x:(abC×Unit)):cp 81 zy Tryz.f81 F J x =
  cond (List.isEmpty x.1.1)
   (ta 2 fun(j1:Nat) =>
   cond ((j1==0)==true)
    (some ((([]:List ab),()),()))
    (cond (aP (List.length ([]:List ab)) (List.length x.1.1))
     (some (((([]:List ab)++x.1.1),()),()))
     (none)))
   (cond (aP (List.length ([]:List ab)) (List.length x.1.1))
    (some (((([]:List ab)++x.1.1),()),()))
    (none)):=by kernel_rfl
end Go.Vs
