/- Normal forms of the program's functions, the third part. -/
import Derived.Test.YtpkfpbpbkabkdaaGreatEngineD
import Derived.KernelRfl
set_option linter.unusedVariables false
set_option maxRecDepth 1000000
set_option maxHeartbeats 0
namespace Go.Vs
open Go.Proofs
theorem Y7(F:FT)(J:JT pJ)(x:(aaj×Unit)):dr 159 pJ Tryz.f159 F J x =
  cond (decide (x.1.1.1≥(1:Int)))
   (cond (decide (x.1.1.1≤(8:Int)))
    (cond (decide (x.1.1.2≥(1:Int)))
     (some (((decide (x.1.1.2≤(1048576:Int))),()),()))
     (some ((false,()),())))
    (some ((false,()),())))
   (some ((false,()),())):=by kernel_rfl
theorem Y8(F:FT)(J:JT AB)(x:((tq×Unit)×Unit)):dr 160 AB Tryz.f160 F J x =
  (F 159 pJ ((x.1.1.1,()),())).bind fun(y1:((Bool×Unit)×Unit)) =>
  cond y1.1.1
   (cond (((x.1.1.2.1.1==(0:Int))&&(x.1.1.2.1.2==(0:Int)))&&(x.1.1.2.2==(0:Int)))
    (some ((true,()),()))
    ((F 190 D9 (((x.1.1.2.1,x.1.1.2.2),()),())).bind fun(y2:((Bool×Unit)×Unit)) =>
    some (y2.1,())))
   (some ((false,()),())):=by kernel_rfl
theorem Y9(F:FT)(J:JT uL)(x:((ByteArray×Unit)×Unit)):dr 161 uL Tryz.f161 F J x =
 J uM (bA Tryz.prog 161 0) (x.1,((),((x.1.1,0),()))):=by kernel_rfl
theorem Mf(F:FT)(J:JT uL)(x:((ByteArray×Unit)×(Unit×((ByteArray×Nat)×Unit)))):nT 161 0 uL Tryz.f161 uM F J x =
  cond (decide (x.2.2.1.2<(ByteArray.size x.2.2.1.1)))
   (cond (decide ((nj x.2.2.1.1 x.2.2.1.2)<(32:Int)))
    (some ((false,()),()))
    (cond (decide ((nj x.2.2.1.1 x.2.2.1.2)>(126:Int)))
     (some ((false,()),()))
     (J uM (bA Tryz.prog 161 0) (x.1,((),((x.2.2.1.1,(x.2.2.1.2+(xi x.2.2.1.1 x.2.2.1.2))),()))))))
   (some (((decide ((((ByteArray.size x.1.1):Nat):Int)≤(16:Int))),()),())):=by kernel_rfl
theorem Za(F:FT)(J:JT D7)(x:(aaf×Unit)):dr 162 D7 Tryz.f162 F J x =
  cond (decide (x.1.1≥(-1099511627776:Int)))
   (some (((decide (x.1.1≤(1099511627776:Int))),()),()))
   (some ((false,()),())):=by kernel_rfl
theorem Zb(F:FT)(J:JT D8)(x:((aj×Unit)×aaz)):dr 152 D8 Tryz.f152 F J x =
  (F 175 oD ((x.1.1.1,()),((x.2.1.1,(x.2.1.2.1,x.2.1.2.2)),()))).bind fun(y1:((Int×(Bool×Unit))×(az×Unit))) =>
  cond y1.1.2.1
   (some (((12:Int),()),((y1.2.1.1,(y1.2.1.2.1,y1.2.1.2.2)),())))
   (cond (decide ((((List.length y1.2.1.1):Nat):Int)≥(24:Int)))
    (some (((3:Int),()),((y1.2.1.1,(y1.2.1.2.1,y1.2.1.2.2)),())))
    (cond (oW y1.2.1.1 y1.1.1 ((x.1.1.1,(x.1.1.2.1,x.1.1.2.2))::([]:List aj)))
     (some (((0:Int),()),(((fb y1.2.1.1 y1.1.1 ((x.1.1.1,(x.1.1.2.1,x.1.1.2.2))::([]:List aj))),(y1.2.1.2.1,y1.2.1.2.2)),())))
     (none))):=by kernel_rfl
theorem Zd(F:FT)(J:JT L9)(x:aae):dr 153 L9 Tryz.f153 F J x =
  (F 175 oD ((x.1.1.2.1,()),((x.2.1.1,(x.2.1.2.1,x.2.1.2.2)),()))).bind fun(y1:((Int×(Bool×Unit))×(az×Unit))) =>
  cond (not y1.1.2.1)
   (some (((13:Int),()),((y1.2.1.1,(y1.2.1.2.1,y1.2.1.2.2)),())))
   (cond ((decide ((0:Int)≤y1.1.1))&&(decide (y1.1.1<(((List.length y1.2.1.1):Nat):Int))))
    (((y1.2.1.1)[(Int.toNat y1.1.1)]?).bind fun(y2:aj) =>
    cond (decide ((((List.length y2.2.1):Nat):Int)>(0:Int)))
     (some (((14:Int),()),((y1.2.1.1,(y1.2.1.2.1,y1.2.1.2.2)),())))
     (cond (iK y1.2.1.1 y1.1.1 (IntKind.wrap .i64 (y1.1.1+(1:Int))))
      (some (((0:Int),()),(((cV y1.2.1.1 y1.1.1 (IntKind.wrap .i64 (y1.1.1+(1:Int)))),(y1.2.1.2.1,y1.2.1.2.2)),())))
      (none)))
    (none)):=by kernel_rfl
theorem RM(F:FT)(J:JT nQ)(x:aae):dr 154 nQ Tryz.f154 F J x =
  cond (nP x.2.1.1 x.2.1.2.1)
   ((F 178 vS ((x.1.1.2.1,()),((x.2.1.1,(x.2.1.2.1,x.2.1.2.2)),()))).bind fun(y1:((Int×Unit)×(az×Unit))) =>
   cond (y1.1.1 != (0:Int))
    (some (y1.1,((y1.2.1.1,(y1.2.1.2.1,y1.2.1.2.2)),())))
    ((F 179 yy ((x.1.1.2.1,()),())).bind fun(y2:((ab×(ab×Unit))×Unit)) =>
    J kV (bA Tryz.prog 154 0) (((((List.length ((x.1.1.2.2.2.2.1.1,(x.1.1.2.2.2.2.1.2.1,x.1.1.2.2.2.2.1.2.2))::((x.1.1.2.2.2.2.2.1.1,(x.1.1.2.2.2.2.2.1.2.1,x.1.1.2.2.2.2.2.1.2.2))::([]:List tq)))):Nat):Int),((0:Int),())),(((y1.2.1.1,(y1.2.1.2.1,y1.2.1.2.2)),((((x.2.1.1,x.2.1.2.1),x.2.1.2.2.1),()),(((y2.1.1.1,y2.1.1.2),()),()))),(((y2.1.1.1,y2.1.1.2)::((y2.1.2.1.1,y2.1.2.1.2)::([]:List ab))),(((x.1.1.2.2.2.2.1.1,(x.1.1.2.2.2.2.1.2.1,x.1.1.2.2.2.2.1.2.2))::((x.1.1.2.2.2.2.2.1.1,(x.1.1.2.2.2.2.2.1.2.1,x.1.1.2.2.2.2.2.1.2.2))::([]:List tq))),()))))))
   (none):=by kernel_rfl
theorem uO(F:FT)(J:JT nQ)(x:(aaa×((az×(aan×aal))×((List ab)×((List tq)×Unit))))):nT 154 0 nQ Tryz.f154 kV F J x =
  cond (decide (x.1.2.1<x.1.1))
   (cond ((decide ((0:Int)≤x.1.2.1))&&(decide (x.1.2.1<(((List.length x.2.2.2.1):Nat):Int))))
    (((x.2.2.2.1)[(Int.toNat x.1.2.1)]?).bind fun(y3:tq) =>
    (F 180 Ea (((x.2.1.2.1.1.1,x.2.1.2.1.1.2),((y3.1,(y3.2.1,y3.2.2)),())),())).bind fun(y4:((tq×(Int×Unit))×Unit)) =>
    cond (y4.1.2.1 != (0:Int))
     (some (y4.1.2,((x.2.1.1.1,(x.2.1.1.2.1,x.2.1.1.2.2)),())))
     (cond (x.1.2.1==(1:Int))
      (cond (((y3.2.1.1==x.2.1.2.2.1.1.1.1)&&(y3.2.1.2==x.2.1.2.2.1.1.1.2))&&(y3.2.2==x.2.1.2.2.1.1.2))
       ((F 175 oD ((y3.1,()),((x.2.1.1.1,(x.2.1.1.2.1,x.2.1.1.2.2)),()))).bind fun(y5:((Int×(Bool×Unit))×(az×Unit))) =>
       cond ((decide ((0:Int)≤y5.1.1))&&(decide (y5.1.1<(((List.length y5.2.1.1):Nat):Int))))
        (((y5.2.1.1)[(Int.toNat y5.1.1)]?).bind fun(y6:aj) =>
        cond ((decide ((0:Int)≤x.1.2.1))&&(decide (x.1.2.1<(((List.length x.2.2.1):Nat):Int))))
         (((x.2.2.1)[(Int.toNat x.1.2.1)]?).bind fun(y7:ab) =>
         (F 181 yz ((y6.2.1,((y3.2.1,y3.2.2),((y7.1,y7.2),()))),())).bind fun(y8:(((List ab)×Unit)×Unit)) =>
         ((y5.2.1.1)[(Int.toNat y5.1.1)]?).bind fun(y9:aj) =>
         J kV (bA Tryz.prog 154 0) ((x.1.1,((IntKind.wrap .i64 (x.1.2.1+(1:Int))),())),((((List.set y5.2.1.1 (Int.toNat y5.1.1) (y9.1,(y8.1.1,y9.2.2))),(y5.2.1.2.1,y5.2.1.2.2)),(((x.2.1.2.1.1.1,x.2.1.2.1.1.2),()),(((x.2.1.2.2.1.1.1,x.2.1.2.2.1.1.2),()),()))),(x.2.2.1,x.2.2.2))))
         (none))
        (none))
       ((F 175 oD ((y4.1.1.1,()),((x.2.1.1.1,(x.2.1.1.2.1,x.2.1.1.2.2)),()))).bind fun(rr:((Int×(Bool×Unit))×(az×Unit))) =>
       cond ((decide ((0:Int)≤rr.1.1))&&(decide (rr.1.1<(((List.length rr.2.1.1):Nat):Int))))
        (((rr.2.1.1)[(Int.toNat rr.1.1)]?).bind fun(mq:aj) =>
        cond ((decide ((0:Int)≤x.1.2.1))&&(decide (x.1.2.1<(((List.length x.2.2.1):Nat):Int))))
         (((x.2.2.1)[(Int.toNat x.1.2.1)]?).bind fun(pO:ab) =>
         (F 181 yz ((mq.2.1,((y4.1.1.2.1,y4.1.1.2.2),((pO.1,pO.2),()))),())).bind fun(ly:(((List ab)×Unit)×Unit)) =>
         ((rr.2.1.1)[(Int.toNat rr.1.1)]?).bind fun(FN:aj) =>
         J kV (bA Tryz.prog 154 0) ((x.1.1,((IntKind.wrap .i64 (x.1.2.1+(1:Int))),())),((((List.set rr.2.1.1 (Int.toNat rr.1.1) (FN.1,(ly.1.1,FN.2.2))),(rr.2.1.2.1,rr.2.1.2.2)),(((x.2.1.2.1.1.1,x.2.1.2.1.1.2),()),(((x.2.1.2.2.1.1.1,x.2.1.2.2.1.1.2),()),()))),(x.2.2.1,x.2.2.2))))
         (none))
        (none)))
      ((F 175 oD ((y4.1.1.1,()),((x.2.1.1.1,(x.2.1.1.2.1,x.2.1.1.2.2)),()))).bind fun(wm:((Int×(Bool×Unit))×(az×Unit))) =>
      cond ((decide ((0:Int)≤wm.1.1))&&(decide (wm.1.1<(((List.length wm.2.1.1):Nat):Int))))
       (((wm.2.1.1)[(Int.toNat wm.1.1)]?).bind fun(XL:aj) =>
       cond ((decide ((0:Int)≤x.1.2.1))&&(decide (x.1.2.1<(((List.length x.2.2.1):Nat):Int))))
        (((x.2.2.1)[(Int.toNat x.1.2.1)]?).bind fun(RL:ab) =>
        (F 181 yz ((XL.2.1,((y4.1.1.2.1,y4.1.1.2.2),((RL.1,RL.2),()))),())).bind fun(Tk:(((List ab)×Unit)×Unit)) =>
        ((wm.2.1.1)[(Int.toNat wm.1.1)]?).bind fun(QC:aj) =>
        J kV (bA Tryz.prog 154 0) ((x.1.1,((IntKind.wrap .i64 (x.1.2.1+(1:Int))),())),((((List.set wm.2.1.1 (Int.toNat wm.1.1) (QC.1,(Tk.1.1,QC.2.2))),(wm.2.1.2.1,wm.2.1.2.2)),(((x.2.1.2.1.1.1,x.2.1.2.1.1.2),()),(((x.2.1.2.2.1.1.1,x.2.1.2.2.1.1.2),()),()))),(x.2.2.1,x.2.2.2))))
        (none))
       (none))))
    (none))
   ((F 172 yC (((x.2.1.1.1,x.2.1.1.2.1),()),())).bind fun(Es:((Bool×Unit)×Unit)) =>
   cond (not Es.1.1)
    (some (((15:Int),()),((x.2.1.1.1,(x.2.1.1.2.1,x.2.1.1.2.2)),())))
    (some (((0:Int),()),((x.2.1.1.1,(x.2.1.1.2.1,x.2.1.1.2.2)),())))):=by kernel_rfl
theorem Up(F:FT)(J:JT yx)(x:aae):dr 155 yx Tryz.f155 F J x =
  (F 182 lM ((x.1.1.2.1,()),((x.2.1.1,(x.2.1.2.1,x.2.1.2.2)),()))).bind fun(y1:((Int×(Bool×Unit))×(az×Unit))) =>
  cond (not y1.1.2.1)
   (some (((13:Int),()),((y1.2.1.1,(y1.2.1.2.1,y1.2.1.2.2)),())))
   ((F 179 yy ((x.1.1.2.1,()),())).bind fun(y2:((ab×(ab×Unit))×Unit)) =>
   J CE (bA Tryz.prog 155 0) ((y1.1.1,((((List.length ((y2.1.1.1,y2.1.1.2)::((y2.1.2.1.1,y2.1.2.1.2)::([]:List ab)))):Nat):Int),((0:Int),()))),(((y1.2.1.1,(y1.2.1.2.1,y1.2.1.2.2)),(((y2.1.1.1,y2.1.1.2),()),(((y2.1.2.1.1,y2.1.2.1.2),()),()))),(((y2.1.1.1,y2.1.1.2)::((y2.1.2.1.1,y2.1.2.1.2)::([]:List ab))),())))):=by kernel_rfl
theorem GI(F:FT)(J:JT yx)(x:((Int×aaa)×((az×(aab×aal))×aap))):nT 155 0 yx Tryz.f155 CE F J x =
  cond (decide (x.1.2.2.1<x.1.2.1))
   (cond ((decide ((0:Int)≤x.1.2.2.1))&&(decide (x.1.2.2.1<(((List.length x.2.2.1):Nat):Int))))
    (((x.2.2.1)[(Int.toNat x.1.2.2.1)]?).bind fun(y3:ab) =>
    (F 184 yE (((y3.1,y3.2),()),((x.2.1.1.1,(x.2.1.1.2.1,x.2.1.1.2.2)),()))).bind fun(y4:((ab×Unit)×(az×Unit))) =>
    (F 183 yD (((y3.1,y3.2),((y4.1.1.1,y4.1.1.2),())),((y4.2.1.1,(y4.2.1.2.1,y4.2.1.2.2)),()))).bind fun(y5:(Unit×(az×Unit))) =>
    J CE (bA Tryz.prog 155 0) ((x.1.1,(x.1.2.1,((IntKind.wrap .i64 (x.1.2.2.1+(1:Int))),()))),(((y5.2.1.1,(y5.2.1.2.1,y5.2.1.2.2)),(((x.2.1.2.1.1.1,x.2.1.2.1.1.2),()),(((x.2.1.2.2.1.1.1,x.2.1.2.2.1.1.2),()),()))),x.2.2)))
    (none))
   (J uN (bA Tryz.prog 155 1) ((x.1.1,((((List.length ((x.2.1.2.1.1.1,x.2.1.2.1.1.2)::((x.2.1.2.2.1.1.1,x.2.1.2.2.1.1.2)::([]:List ab)))):Nat):Int),((0:Int),()))),(((x.2.1.1.1,(x.2.1.1.2.1,x.2.1.1.2.2)),()),(((x.2.1.2.1.1.1,x.2.1.2.1.1.2)::((x.2.1.2.2.1.1.1,x.2.1.2.2.1.1.2)::([]:List ab))),())))):=by kernel_rfl
theorem GJ(F:FT)(J:JT yx)(x:((Int×aaa)×(aaz×aap))):nT 155 1 yx Tryz.f155 uN F J x =
  cond (decide (x.1.2.2.1<x.1.2.1))
   (cond ((decide ((0:Int)≤x.1.2.2.1))&&(decide (x.1.2.2.1<(((List.length x.2.2.1):Nat):Int))))
    (((x.2.2.1)[(Int.toNat x.1.2.2.1)]?).bind fun(y6:ab) =>
    (F 185 kR (((y6.1,y6.2),()),((x.2.1.1.1,(x.2.1.1.2.1,x.2.1.1.2.2)),()))).bind fun(y7:(((Option ((Fin 1)×Nat))×Unit)×(az×Unit))) =>
    oV y7.1.1
     (none) fun(p8:((Fin 1)×Nat)) =>
    cond (p8.1.val==0)
     (((y7.2.1.1)[p8.2]?).bind fun(y9:aj) =>
     (F 141 Eb ((y9.2.1,((y6.1,y6.2),())),())).bind fun(rr:(((List ab)×Unit)×Unit)) =>
     ((y7.2.1.1)[p8.2]?).bind fun(mq:aj) =>
     J uN (bA Tryz.prog 155 1) ((x.1.1,(x.1.2.1,((IntKind.wrap .i64 (x.1.2.2.1+(1:Int))),()))),((((List.set y7.2.1.1 p8.2 (mq.1,(rr.1.1,mq.2.2))),(y7.2.1.2.1,y7.2.1.2.2)),()),x.2.2)))
     (none))
    (none))
   (cond (iK x.2.1.1.2.1 x.1.1 (IntKind.wrap .i64 (x.1.1+(1:Int))))
    (some (((0:Int),()),((x.2.1.1.1,((cV x.2.1.1.2.1 x.1.1 (IntKind.wrap .i64 (x.1.1+(1:Int)))),x.2.1.1.2.2)),())))
    (none)):=by kernel_rfl
theorem O3(F:FT)(J:JT wj)(x:aae):dr 156 wj Tryz.f156 F J x =
  (F 182 lM ((x.1.1.2.1,()),((x.2.1.1,(x.2.1.2.1,x.2.1.2.2)),()))).bind fun(y1:((Int×(Bool×Unit))×(az×Unit))) =>
  (F 175 oD ((x.1.1.2.2.1,()),((y1.2.1.1,(y1.2.1.2.1,y1.2.1.2.2)),()))).bind fun(y2:((Int×(Bool×Unit))×(az×Unit))) =>
  (F 182 lM ((x.1.1.2.2.2.1,()),((y2.2.1.1,(y2.2.1.2.1,y2.2.1.2.2)),()))).bind fun(y3:((Int×(Bool×Unit))×(az×Unit))) =>
  cond (not y1.1.2.1)
   (some (((13:Int),()),((y3.2.1.1,(y3.2.1.2.1,y3.2.1.2.2)),())))
   (cond y2.1.2.1
    (some (((12:Int),()),((y3.2.1.1,(y3.2.1.2.1,y3.2.1.2.2)),())))
    (cond y3.1.2.1
     (some (((12:Int),()),((y3.2.1.1,(y3.2.1.2.1,y3.2.1.2.2)),())))
     (cond (decide ((1:Int)<(0:Int)))
      (none)
      ((F 185 kR (((x.1.1.2.1,(dN .xor .i64 (1:Int) (dN .and .i64 x.1.1.2.2.2.2.2.2.2.2 (1:Int)))),()),((y3.2.1.1,(y3.2.1.2.1,y3.2.1.2.2)),()))).bind fun(y4:(((Option ((Fin 1)×Nat))×Unit)×(az×Unit))) =>
      oV y4.1.1
       (none) fun(p5:((Fin 1)×Nat)) =>
      cond (p5.1.val==0)
       (((y4.2.1.1)[p5.2]?).bind fun(y6:aj) =>
       (F 188 mK (((x.1.1.2.2.2.1,(j8 .i64 x.1.1.2.2.2.2.2.2.2.2 (1:Int))),()),())).bind fun(y7:((ab×Unit)×Unit)) =>
       (F 187 rp ((y6.2.1,((x.1.1.2.1,(dN .xor .i64 (1:Int) (dN .and .i64 x.1.1.2.2.2.2.2.2.2.2 (1:Int)))),((y7.1.1.1,y7.1.1.2),()))),())).bind fun(y8:(((List ab)×Unit)×Unit)) =>
       ((y4.2.1.1)[p5.2]?).bind fun(y9:aj) =>
       (F 169 pM ((((x.1.1.2.1,(dN .xor .i64 (1:Int) (dN .and .i64 x.1.1.2.2.2.2.2.2.2.2 (1:Int))))::((x.1.1.2.2.2.1,(j8 .i64 x.1.1.2.2.2.2.2.2.2.2 (1:Int)))::([]:List ab))),()),())).bind fun(rr:(((List ab)×Unit)×Unit)) =>
       (F 152 D8 (((x.1.1.2.2.1,(rr.1.1,((⟨#[]⟩:ByteArray),(0:Int)))),()),(((List.set y4.2.1.1 p5.2 (y9.1,(y8.1.1,y9.2.2))),(y4.2.1.2.1,y4.2.1.2.2)),()))).bind fun(mq:((Int×Unit)×(az×Unit))) =>
       cond (mq.1.1 != (0:Int))
        (some (mq.1,((mq.2.1.1,(mq.2.1.2.1,mq.2.1.2.2)),())))
        ((F 178 vS ((x.1.1.2.2.2.1,()),((mq.2.1.1,(mq.2.1.2.1,mq.2.1.2.2)),()))).bind fun(pO:((Int×Unit)×(az×Unit))) =>
        some (pO.1,((pO.2.1.1,(pO.2.1.2.1,pO.2.1.2.2)),()))))
       (none))))):=by kernel_rfl
theorem Uq(F:FT)(J:JT pK)(x:aae):dr 157 pK Tryz.f157 F J x =
  (F 175 oD ((x.1.1.2.1,()),((x.2.1.1,(x.2.1.2.1,x.2.1.2.2)),()))).bind fun(y1:((Int×(Bool×Unit))×(az×Unit))) =>
  cond (not y1.1.2.1)
   (some (((13:Int),()),((y1.2.1.1,(y1.2.1.2.1,y1.2.1.2.2)),())))
   (cond ((decide ((0:Int)≤y1.1.1))&&(decide (y1.1.1<(((List.length y1.2.1.1):Nat):Int))))
    (((y1.2.1.1)[(Int.toNat y1.1.1)]?).bind fun(y2:aj) =>
    cond ((((List.length y2.2.1):Nat):Int) != (2:Int))
     (some (((14:Int),()),((y1.2.1.1,(y1.2.1.2.1,y1.2.1.2.2)),())))
     (((cQ y2.2.1 (0:Int))).bind fun(y3:ab) =>
     ((cQ y2.2.1 (1:Int))).bind fun(y4:ab) =>
     cond ((y3.1.1==y4.1.1)&&(y3.1.2==y4.1.2))
      (some (((14:Int),()),((y1.2.1.1,(y1.2.1.2.1,y1.2.1.2.2)),())))
      (((cQ y2.2.1 (0:Int))).bind fun(y5:ab) =>
      ((cQ y2.2.1 (1:Int))).bind fun(y6:ab) =>
      cond ((y5.1.1==x.1.1.2.2.2.1.1)&&(y5.1.2==x.1.1.2.2.2.1.2))
       (cond (not ((y5.1.1==x.1.1.2.2.2.1.1)&&(y5.1.2==x.1.1.2.2.2.1.2)))
        (some (((14:Int),()),((y1.2.1.1,(y1.2.1.2.1,y1.2.1.2.2)),())))
        ((F 188 mK (((y5.1,y5.2),()),())).bind fun(y7:((ab×Unit)×Unit)) =>
        cond (iK y1.2.1.1 y1.1.1 (IntKind.wrap .i64 (y1.1.1+(1:Int))))
         ((F 185 kR (((y7.1.1.1,y7.1.1.2),()),(((cV y1.2.1.1 y1.1.1 (IntKind.wrap .i64 (y1.1.1+(1:Int)))),(y1.2.1.2.1,y1.2.1.2.2)),()))).bind fun(y8:(((Option ((Fin 1)×Nat))×Unit)×(az×Unit))) =>
         oV y8.1.1
          (none) fun(p9:((Fin 1)×Nat)) =>
         cond (p9.1.val==0)
          (((y8.2.1.1)[p9.2]?).bind fun(rr:aj) =>
          (F 187 rp ((rr.2.1,((y7.1.1.1,y7.1.1.2),((y6.1,y6.2),()))),())).bind fun(mq:(((List ab)×Unit)×Unit)) =>
          ((y8.2.1.1)[p9.2]?).bind fun(pO:aj) =>
          (F 182 lM ((y5.1,()),(((List.set y8.2.1.1 p9.2 (pO.1,(mq.1.1,pO.2.2))),(y8.2.1.2.1,y8.2.1.2.2)),()))).bind fun(ly:((Int×(Bool×Unit))×(az×Unit))) =>
          cond (iK ly.2.1.2.1 ly.1.1 (IntKind.wrap .i64 (ly.1.1+(1:Int))))
           (J mg (bA Tryz.prog 157 0) (((0:Int),()),(((ly.2.1.1,((cV ly.2.1.2.1 ly.1.1 (IntKind.wrap .i64 (ly.1.1+(1:Int)))),ly.2.1.2.2)),(((y6.1,y6.2),()),(((y5.1,y5.2),()),(((y7.1.1.1,y7.1.1.2),()),())))),())))
           (none))
          (none))
         (none)))
       (cond (not ((y6.1.1==x.1.1.2.2.2.1.1)&&(y6.1.2==x.1.1.2.2.2.1.2)))
        (some (((14:Int),()),((y1.2.1.1,(y1.2.1.2.1,y1.2.1.2.2)),())))
        ((F 188 mK (((y6.1,y6.2),()),())).bind fun(FN:((ab×Unit)×Unit)) =>
        cond (iK y1.2.1.1 y1.1.1 (IntKind.wrap .i64 (y1.1.1+(1:Int))))
         ((F 185 kR (((FN.1.1.1,FN.1.1.2),()),(((cV y1.2.1.1 y1.1.1 (IntKind.wrap .i64 (y1.1.1+(1:Int)))),(y1.2.1.2.1,y1.2.1.2.2)),()))).bind fun(wm:(((Option ((Fin 1)×Nat))×Unit)×(az×Unit))) =>
         oV wm.1.1
          (none) fun(XM:((Fin 1)×Nat)) =>
         cond (XM.1.val==0)
          (((wm.2.1.1)[XM.2]?).bind fun(RL:aj) =>
          (F 187 rp ((RL.2.1,((FN.1.1.1,FN.1.1.2),((y5.1,y5.2),()))),())).bind fun(Tk:(((List ab)×Unit)×Unit)) =>
          ((wm.2.1.1)[XM.2]?).bind fun(QC:aj) =>
          (F 182 lM ((y6.1,()),(((List.set wm.2.1.1 XM.2 (QC.1,(Tk.1.1,QC.2.2))),(wm.2.1.2.1,wm.2.1.2.2)),()))).bind fun(Es:((Int×(Bool×Unit))×(az×Unit))) =>
          cond (iK Es.2.1.2.1 Es.1.1 (IntKind.wrap .i64 (Es.1.1+(1:Int))))
           (J mg (bA Tryz.prog 157 0) (((0:Int),()),(((Es.2.1.1,((cV Es.2.1.2.1 Es.1.1 (IntKind.wrap .i64 (Es.1.1+(1:Int)))),Es.2.1.2.2)),(((y5.1,y5.2),()),(((y6.1,y6.2),()),(((FN.1.1.1,FN.1.1.2),()),())))),())))
           (none))
          (none))
         (none))))))
    (none)):=by kernel_rfl
theorem uP(F:FT)(J:JT pK)(x:(aaf×((az×(aab×(aab×aal)))×Unit))):nT 157 0 pK Tryz.f157 mg F J x =
  cond (decide (x.1.1<(2:Int)))
   (cond (x.2.1.2.2.1.1.2==x.1.1)
    ((F 183 yD (((x.2.1.2.2.1.1.1,x.2.1.2.2.1.1.2),((((0:Int),(0:Int)),(0:Int)),())),((x.2.1.1.1,(x.2.1.1.2.1,x.2.1.1.2.2)),()))).bind fun(Un:(Unit×(az×Unit))) =>
    J mg (bA Tryz.prog 157 0) (((IntKind.wrap .i64 (x.1.1+(1:Int))),()),(((Un.2.1.1,(Un.2.1.2.1,Un.2.1.2.2)),(((x.2.1.2.1.1.1,x.2.1.2.1.1.2),()),(((x.2.1.2.2.1.1.1,x.2.1.2.2.1.1.2),()),(((x.2.1.2.2.2.1.1.1,x.2.1.2.2.2.1.1.2),()),())))),())))
    ((F 183 yD (((x.2.1.2.2.2.1.1.1,x.2.1.2.2.2.1.1.2),((x.2.1.2.1.1.1,x.2.1.2.1.1.2),())),((x.2.1.1.1,(x.2.1.1.2.1,x.2.1.1.2.2)),()))).bind fun(Uo:(Unit×(az×Unit))) =>
    J mg (bA Tryz.prog 157 0) (((IntKind.wrap .i64 (x.1.1+(1:Int))),()),(((Uo.2.1.1,(Uo.2.1.2.1,Uo.2.1.2.2)),(((x.2.1.2.1.1.1,x.2.1.2.1.1.2),()),(((x.2.1.2.2.1.1.1,x.2.1.2.2.1.1.2),()),(((x.2.1.2.2.2.1.1.1,x.2.1.2.2.2.1.1.2),()),())))),()))))
   (some (((0:Int),()),((x.2.1.1.1,(x.2.1.1.2.1,x.2.1.1.2.2)),()))):=by kernel_rfl
theorem Ze(F:FT)(J:JT Ma)(x:aae):dr 158 Ma Tryz.f158 F J x =
  (F 189 Ec (((x.1.1.1,(x.1.1.2.1,(x.1.1.2.2.1,(x.1.1.2.2.2.1,((x.1.1.2.2.2.2.1.1,(x.1.1.2.2.2.2.1.2.1,x.1.1.2.2.2.2.1.2.2)),((x.1.1.2.2.2.2.2.1.1,(x.1.1.2.2.2.2.2.1.2.1,x.1.1.2.2.2.2.2.1.2.2)),(x.1.1.2.2.2.2.2.2.1,x.1.1.2.2.2.2.2.2.2))))))),()),((x.2.1.1,(x.2.1.2.1,x.2.1.2.2)),()))).bind fun(y1:(((Option ((Fin 2)×Nat))×((Option ((Fin 2)×Nat))×Unit))×(az×Unit))) =>
  oV y1.1.1
   (oV y1.1.2.1
    (some (((13:Int),()),((y1.2.1.1,(y1.2.1.2.1,y1.2.1.2.2)),()))) fun(p2:((Fin 2)×Nat)) =>
   cond (p2.1.val==0)
    (some (((13:Int),()),((y1.2.1.1,(y1.2.1.2.1,y1.2.1.2.2)),())))
    (cond (p2.1.val==1)
    (some (((13:Int),()),((y1.2.1.1,(y1.2.1.2.1,y1.2.1.2.2)),())))
    (none))) fun(p3:((Fin 2)×Nat)) =>
  cond (p3.1.val==0)
   (oV y1.1.2.1
    (cond (x.1.1.1==(7:Int))
     (((y1.2.1.1)[p3.2]?).bind fun(rr:aj) =>
     some (((0:Int),()),(((List.set y1.2.1.1 p3.2 (rr.1,(rr.2.1,(x.1.1.2.2.2.2.2.2.2.1,rr.2.2.2)))),(y1.2.1.2.1,y1.2.1.2.2)),())))
     (none)) fun(Tl:((Fin 2)×Nat)) =>
   cond (Tl.1.val==0)
    (cond (x.1.1.1==(7:Int))
     (((y1.2.1.1)[p3.2]?).bind fun(FN:aj) =>
     some (((0:Int),()),(((List.set y1.2.1.1 p3.2 (FN.1,(FN.2.1,(x.1.1.2.2.2.2.2.2.2.1,FN.2.2.2)))),(y1.2.1.2.1,y1.2.1.2.2)),())))
     (((y1.2.1.1)[Tl.2]?).bind fun(wm:aj) =>
     some (((0:Int),()),(((List.set y1.2.1.1 Tl.2 (wm.1,(wm.2.1,(wm.2.2.1,x.1.1.2.2.2.2.2.2.2.2)))),(y1.2.1.2.1,y1.2.1.2.2)),()))))
    (cond (Tl.1.val==1)
    (cond (x.1.1.1==(7:Int))
     (((y1.2.1.1)[p3.2]?).bind fun(pO:aj) =>
     some (((0:Int),()),(((List.set y1.2.1.1 p3.2 (pO.1,(pO.2.1,(x.1.1.2.2.2.2.2.2.2.1,pO.2.2.2)))),(y1.2.1.2.1,y1.2.1.2.2)),())))
     (((y1.2.1.2.1)[Tl.2]?).bind fun(ly:an) =>
     some (((0:Int),()),((y1.2.1.1,((List.set y1.2.1.2.1 Tl.2 (ly.1,(ly.2.1,x.1.1.2.2.2.2.2.2.2.2))),y1.2.1.2.2)),()))))
    (none)))
   (cond (p3.1.val==1)
   (oV y1.1.2.1
    (cond (x.1.1.1==(7:Int))
     (((y1.2.1.2.1)[p3.2]?).bind fun(y4:an) =>
     some (((0:Int),()),((y1.2.1.1,((List.set y1.2.1.2.1 p3.2 (y4.1,(x.1.1.2.2.2.2.2.2.2.1,y4.2.2))),y1.2.1.2.2)),())))
     (none)) fun(p5:((Fin 2)×Nat)) =>
   cond (p5.1.val==0)
    (cond (x.1.1.1==(7:Int))
     (((y1.2.1.2.1)[p3.2]?).bind fun(y8:an) =>
     some (((0:Int),()),((y1.2.1.1,((List.set y1.2.1.2.1 p3.2 (y8.1,(x.1.1.2.2.2.2.2.2.2.1,y8.2.2))),y1.2.1.2.2)),())))
     (((y1.2.1.1)[p5.2]?).bind fun(y9:aj) =>
     some (((0:Int),()),(((List.set y1.2.1.1 p5.2 (y9.1,(y9.2.1,(y9.2.2.1,x.1.1.2.2.2.2.2.2.2.2)))),(y1.2.1.2.1,y1.2.1.2.2)),()))))
    (cond (p5.1.val==1)
    (cond (x.1.1.1==(7:Int))
     (((y1.2.1.2.1)[p3.2]?).bind fun(y6:an) =>
     some (((0:Int),()),((y1.2.1.1,((List.set y1.2.1.2.1 p3.2 (y6.1,(x.1.1.2.2.2.2.2.2.2.1,y6.2.2))),y1.2.1.2.2)),())))
     (((y1.2.1.2.1)[p5.2]?).bind fun(y7:an) =>
     some (((0:Int),()),((y1.2.1.1,((List.set y1.2.1.2.1 p5.2 (y7.1,(y7.2.1,x.1.1.2.2.2.2.2.2.2.2))),y1.2.1.2.2)),()))))
    (none)))
   (none)):=by kernel_rfl
theorem Ur(F:FT)(J:JT D9)(x:aal):dr 190 D9 Tryz.f190 F J x =
  (F 159 pJ ((x.1.1.1,()),())).bind fun(y1:((Bool×Unit)×Unit)) =>
  cond y1.1.1
   (some ((((dN .andNot .i64 x.1.1.2 (1:Int))==(0:Int)),()),()))
   (some ((false,()),())):=by kernel_rfl
theorem Us(F:FT)(J:JT oD)(x:(aaj×aaz)):dr 175 oD Tryz.f175 F J x =
 (F 208206 iv ((x.2.1.1,(x.1.1,())),())).bind fun(y1:((Int×(Bool×Unit))×Unit)) =>
 some ((y1.1.1,y1.1.2),((x.2.1.1,(x.2.1.2.1,x.2.1.2.2)),())):=by kernel_rfl
theorem Ut(F:FT)(J:JT vS)(x:(aaj×aaz)):dr 178 vS Tryz.f178 F J x =
  (F 182 lM ((x.1.1,()),((x.2.1.1,(x.2.1.2.1,x.2.1.2.2)),()))).bind fun(y1:((Int×(Bool×Unit))×(az×Unit))) =>
  cond y1.1.2.1
   (some (((12:Int),()),((y1.2.1.1,(y1.2.1.2.1,y1.2.1.2.2)),())))
   (cond (decide ((((List.length y1.2.1.2.1):Nat):Int)≥(40:Int)))
    (some (((3:Int),()),((y1.2.1.1,(y1.2.1.2.1,y1.2.1.2.2)),())))
    (cond (oW y1.2.1.2.1 y1.1.1 ((x.1.1,((⟨#[]⟩:ByteArray),(0:Int)))::([]:List an)))
     (some (((0:Int),()),((y1.2.1.1,((fb y1.2.1.2.1 y1.1.1 ((x.1.1,((⟨#[]⟩:ByteArray),(0:Int)))::([]:List an))),y1.2.1.2.2)),())))
     (none))):=by kernel_rfl
theorem QD(F:FT)(J:JT yy)(x:(aaj×Unit)):dr 179 yy Tryz.f179 F J x =
 some (((x.1.1,(0:Int)),((x.1.1,(1:Int)),())),()):=by kernel_rfl
theorem Uu(F:FT)(J:JT Ea)(x:((StateT×(tq×Unit))×Unit)):dr 180 Ea Tryz.f180 F J x =
  (F 74 Ed ((x.1.1.1,(x.1.2.1.1,())),())).bind fun(y1:((aj×(Bool×Unit))×Unit)) =>
  cond (not y1.1.2.1)
   (some (((((0:Int),(0:Int)),(((0:Int),(0:Int)),(0:Int))),((13:Int),())),()))
   ((F 212 vT (((x.1.1.1,x.1.1.2),((x.1.2.1.2.1,x.1.2.1.2.2),())),())).bind fun(y2:((ab×Unit)×Unit)) =>
   (F 166 tu ((y1.1.1.2.1,((y2.1.1.1,y2.1.1.2),())),())).bind fun(y3:((Bool×Unit)×Unit)) =>
   cond (not y3.1.1)
    (some (((x.1.2.1.1,(((0:Int),(0:Int)),(0:Int))),((0:Int),())),()))
    (some (((x.1.2.1.1,(y2.1.1.1,y2.1.1.2)),((0:Int),())),()))):=by kernel_rfl
theorem Uv(F:FT)(J:JT yz)(x:(((List ab)×(ab×aab))×Unit)):dr 181 yz Tryz.f181 F J x =
  (F 166 tu ((x.1.1,((x.1.2.2.1.1,x.1.2.2.1.2),())),())).bind fun(y1:((Bool×Unit)×Unit)) =>
  cond y1.1.1
   ((F 169 pM ((x.1.1,()),())).bind fun(y2:(((List ab)×Unit)×Unit)) =>
   some (y2.1,()))
   ((F 168 kS ((x.1.1,((x.1.2.1.1,x.1.2.1.2),())),())).bind fun(y3:((Int×Unit)×Unit)) =>
   cond (aR (List.length x.1.1) (0:Int) (min (IntKind.wrap .i64 ((max y3.1.1 (0:Int):Int)+(1:Int))) (((List.length x.1.1):Nat):Int):Int))
    (cond (aR (List.length x.1.1) (min (IntKind.wrap .i64 ((max y3.1.1 (0:Int):Int)+(1:Int))) (((List.length x.1.1):Nat):Int):Int) (((List.length x.1.1):Nat):Int))
     ((F 170 mL ((((cut x.1.1 (0:Int) (min (IntKind.wrap .i64 ((max y3.1.1 (0:Int):Int)+(1:Int))) (((List.length x.1.1):Nat):Int):Int))::(((x.1.2.2.1.1,x.1.2.2.1.2)::([]:List ab))::((cut x.1.1 (min (IntKind.wrap .i64 ((max y3.1.1 (0:Int):Int)+(1:Int))) (((List.length x.1.1):Nat):Int):Int) (((List.length x.1.1):Nat):Int))::([]:List (List ab))))),()),())).bind fun(y4:(((List ab)×Unit)×Unit)) =>
     some (y4.1,()))
     (none))
    (none)):=by kernel_rfl
theorem Uw(F:FT)(J:JT yC)(x:aaw):dr 172 yC Tryz.f172 F J x =
 (F 204 Ee ((x.1.1,()),())).bind fun(y1:((Int×Unit)×Unit)) =>
 some (((y1.1.1==(0:Int)),()),()):=by kernel_rfl
theorem Ux(F:FT)(J:JT lM)(x:(aaj×aaz)):dr 182 lM Tryz.f182 F J x =
 (F 215213 iw ((x.2.1.2.1,(x.1.1,())),())).bind fun(y1:((Int×(Bool×Unit))×Unit)) =>
 some ((y1.1.1,y1.1.2),((x.2.1.1,(x.2.1.2.1,x.2.1.2.2)),())):=by kernel_rfl
theorem Uy(F:FT)(J:JT yD)(x:((ab×aab)×aaz)):dr 183 yD Tryz.f183 F J x =
 (F 215 Ef ((x.2.1.2.2.1,(((x.1.1.1,x.1.1.2),(x.1.2.1.1,x.1.2.1.2)),())),())).bind fun(y1:(((List aG)×Unit)×Unit)) =>
 some ((),((x.2.1.1,(x.2.1.2.1,y1.1)),())):=by kernel_rfl
theorem Uz(F:FT)(J:JT yE)(x:(aab×aaz)):dr 184 yE Tryz.f184 F J x =
 J wT (bA Tryz.prog 184 0) (((0:Int),()),(((x.2.1.1,(x.2.1.2.1,x.2.1.2.2)),(((x.1.1.1,x.1.1.2),()),(((((0:Int),(0:Int)),(0:Int)),()),(((x.1.1.1,x.1.1.2),()),())))),())):=by kernel_rfl
theorem CF(F:FT)(J:JT yE)(x:(aaf×((az×(aab×(aab×aal)))×Unit))):nT 184 0 yE Tryz.f184 wT F J x =
  cond (decide (x.1.1<(2:Int)))
   ((F 185 kR (((x.2.1.2.1.1.1,x.2.1.2.1.1.2),()),((x.2.1.1.1,(x.2.1.1.2.1,x.2.1.1.2.2)),()))).bind fun(y1:(((Option ((Fin 1)×Nat))×Unit)×(az×Unit))) =>
   oV y1.1.1
    (none) fun(p2:((Fin 1)×Nat)) =>
   cond (p2.1.val==0)
    (((y1.2.1.1)[p2.2]?).bind fun(y3:aj) =>
    (F 140 Bn ((y3.2.1,((x.2.1.2.2.2.1.1.1,x.2.1.2.2.2.1.1.2),())),())).bind fun(y4:((ab×(Bool×Unit))×Unit)) =>
    cond (not ((y4.1.1.1.1==x.2.1.2.1.1.1.1)&&(y4.1.1.1.2==x.2.1.2.1.1.1.2)))
     (some (((y4.1.1.1,y4.1.1.2),()),((y1.2.1.1,(y1.2.1.2.1,y1.2.1.2.2)),())))
     (J wT (bA Tryz.prog 184 0) (((IntKind.wrap .i64 (x.1.1+(1:Int))),()),(((y1.2.1.1,(y1.2.1.2.1,y1.2.1.2.2)),(((x.2.1.2.1.1.1,x.2.1.2.1.1.2),()),(((x.2.1.2.2.1.1.1,x.2.1.2.2.1.1.2),()),(((y4.1.1.1,y4.1.1.2),()),())))),()))))
    (none))
   (some (((((0:Int),(0:Int)),(0:Int)),()),((x.2.1.1.1,(x.2.1.1.2.1,x.2.1.1.2.2)),()))):=by kernel_rfl
theorem UA(F:FT)(J:JT kR)(x:(aab×aaz)):dr 185 kR Tryz.f185 F J x =
 J tB (bA Tryz.prog 185 0) (((((List.length x.2.1.1):Nat):Int),((0:Int),())),(((x.2.1.1,(x.2.1.2.1,x.2.1.2.2)),(((x.1.1.1,x.1.1.2),()),())),())):=by kernel_rfl
theorem H6(F:FT)(J:JT kR)(x:(aaa×((az×aal)×Unit))):nT 185 0 kR Tryz.f185 tB F J x =
  cond (decide (x.1.2.1<x.1.1))
   (cond ((decide ((0:Int)≤x.1.2.1))&&(decide (x.1.2.1<(((List.length x.2.1.1.1):Nat):Int))))
    (((x.2.1.1.1)[(Int.toNat x.1.2.1)]?).bind fun(y1:aj) =>
    (F 166 tu ((y1.2.1,((x.2.1.2.1.1.1,x.2.1.2.1.1.2),())),())).bind fun(y2:((Bool×Unit)×Unit)) =>
    cond y2.1.1
     (some (((some ((⟨0,by decide⟩:(Fin 1)),(Int.toNat x.1.2.1))),()),((x.2.1.1.1,(x.2.1.1.2.1,x.2.1.1.2.2)),())))
     (J tB (bA Tryz.prog 185 0) ((x.1.1,((IntKind.wrap .i64 (x.1.2.1+(1:Int))),())),(((x.2.1.1.1,(x.2.1.1.2.1,x.2.1.1.2.2)),(((x.2.1.2.1.1.1,x.2.1.2.1.1.2),()),())),()))))
    (none))
   (some ((none,()),((x.2.1.1.1,(x.2.1.1.2.1,x.2.1.1.2.2)),()))):=by kernel_rfl
theorem UB(F:FT)(J:JT Eb)(x:aat):dr 141 Eb Tryz.f141 F J x =
  (F 168 kS ((x.1.1,((x.1.2.1.1,x.1.2.1.2),())),())).bind fun(y1:((Int×Unit)×Unit)) =>
  cond (decide (y1.1.1<(0:Int)))
   ((F 169 pM ((x.1.1,()),())).bind fun(y2:(((List ab)×Unit)×Unit)) =>
   some (y2.1,()))
   (cond (aR (List.length x.1.1) (0:Int) y1.1.1)
    (cond (aR (List.length x.1.1) (IntKind.wrap .i64 (y1.1.1+(1:Int))) (((List.length x.1.1):Nat):Int))
     ((F 170 mL ((((cut x.1.1 (0:Int) y1.1.1)::((cut x.1.1 (IntKind.wrap .i64 (y1.1.1+(1:Int))) (((List.length x.1.1):Nat):Int))::([]:List (List ab)))),()),())).bind fun(y3:(((List ab)×Unit)×Unit)) =>
     some (y3.1,()))
     (none))
    (none)):=by kernel_rfl
theorem UC(F:FT)(J:JT rp)(x:(((List ab)×(ab×aab))×Unit)):dr 187 rp Tryz.f187 F J x =
  (F 168 kS ((x.1.1,((x.1.2.1.1,x.1.2.1.2),())),())).bind fun(y1:((Int×Unit)×Unit)) =>
  cond (decide (y1.1.1<(0:Int)))
   ((F 169 pM ((x.1.1,()),())).bind fun(y2:(((List ab)×Unit)×Unit)) =>
   some (y2.1,()))
   ((F 166 tu ((x.1.1,((x.1.2.2.1.1,x.1.2.2.1.2),())),())).bind fun(y3:((Bool×Unit)×Unit)) =>
   cond y3.1.1
    ((F 169 pM ((x.1.1,()),())).bind fun(y4:(((List ab)×Unit)×Unit)) =>
    some (y4.1,()))
    (cond (aR (List.length x.1.1) (0:Int) y1.1.1)
     (cond (aR (List.length x.1.1) (IntKind.wrap .i64 (y1.1.1+(1:Int))) (((List.length x.1.1):Nat):Int))
      ((F 170 mL ((((cut x.1.1 (0:Int) y1.1.1)::(((x.1.2.2.1.1,x.1.2.2.1.2)::([]:List ab))::((cut x.1.1 (IntKind.wrap .i64 (y1.1.1+(1:Int))) (((List.length x.1.1):Nat):Int))::([]:List (List ab))))),()),())).bind fun(y5:(((List ab)×Unit)×Unit)) =>
      some (y5.1,()))
      (none))
     (none))):=by kernel_rfl
theorem UD(F:FT)(J:JT mK)(x:aal):dr 188 mK Tryz.f188 F J x =
 some (((x.1.1.1,(dN .xor .i64 x.1.1.2 (1:Int))),()),()):=by kernel_rfl
theorem UE(F:FT)(J:JT pM)(x:(aap×Unit)):dr 169 pM Tryz.f169 F J x =
  cond ((((List.length x.1.1):Nat):Int)==(0:Int))
   (some ((([]:List ab),()),()))
   ((F 196194 jJ (x.1,())).bind fun(y1:((ab×Unit)×Unit)) =>
   (F 168 kS ((x.1.1,((y1.1.1.1,y1.1.1.2),())),())).bind fun(y2:((Int×Unit)×Unit)) =>
   cond (aR (List.length x.1.1) y2.1.1 (((List.length x.1.1):Nat):Int))
    (cond (aR (List.length x.1.1) (0:Int) y2.1.1)
     ((F 196 mM ((((cut x.1.1 y2.1.1 (((List.length x.1.1):Nat):Int))::((cut x.1.1 (0:Int) y2.1.1)::([]:List (List ab)))),()),())).bind fun(y3:(((List ab)×Unit)×Unit)) =>
     some (y3.1,()))
     (none))
    (none)):=by kernel_rfl
theorem UF(F:FT)(J:JT Ec)(x:aae):dr 189 Ec Tryz.f189 F J x =
  cond x.1.1.2.2.2.2.2.2.1
   ((F 182 lM ((x.1.1.2.1,()),((x.2.1.1,(x.2.1.2.1,x.2.1.2.2)),()))).bind fun(y1:((Int×(Bool×Unit))×(az×Unit))) =>
   cond y1.1.2.1
    (cond ((decide ((0:Int)≤y1.1.1))&&(decide (y1.1.1<(((List.length y1.2.1.2.1):Nat):Int))))
     (cond ((decide ((0:Int)≤y1.1.1))&&(decide (y1.1.1<(((List.length y1.2.1.2.1):Nat):Int))))
      (some (((some ((⟨1,by decide⟩:(Fin 2)),(Int.toNat y1.1.1))),((some ((⟨1,by decide⟩:(Fin 2)),(Int.toNat y1.1.1))),())),((y1.2.1.1,(y1.2.1.2.1,y1.2.1.2.2)),())))
      (none))
     (none))
    (some ((none,(none,())),((y1.2.1.1,(y1.2.1.2.1,y1.2.1.2.2)),()))))
   ((F 175 oD ((x.1.1.2.1,()),((x.2.1.1,(x.2.1.2.1,x.2.1.2.2)),()))).bind fun(y2:((Int×(Bool×Unit))×(az×Unit))) =>
   cond y2.1.2.1
    (cond ((decide ((0:Int)≤y2.1.1))&&(decide (y2.1.1<(((List.length y2.2.1.1):Nat):Int))))
     (cond ((decide ((0:Int)≤y2.1.1))&&(decide (y2.1.1<(((List.length y2.2.1.1):Nat):Int))))
      (some (((some ((⟨0,by decide⟩:(Fin 2)),(Int.toNat y2.1.1))),((some ((⟨0,by decide⟩:(Fin 2)),(Int.toNat y2.1.1))),())),((y2.2.1.1,(y2.2.1.2.1,y2.2.1.2.2)),())))
      (none))
     (none))
    (some ((none,(none,())),((y2.2.1.1,(y2.2.1.2.1,y2.2.1.2.2)),())))):=by kernel_rfl
theorem UG(F:FT)(J:JT Bl)(x:((aj×aaj)×Unit)):dr 207 Bl Tryz.f207 F J x =
 (F 208 yF ((x.1.1.1,(x.1.2.1,())),())).bind fun(y1:((Int×Unit)×Unit)) =>
 some (y1.1,()):=by kernel_rfl
theorem UH(F:FT)(J:JT yF)(x:((ID×aaj)×Unit)):dr 208 yF Tryz.f208 F J x =
  cond ((x.1.1.1==x.1.2.1.1)&&(x.1.1.2==x.1.2.1.2))
   (some (((0:Int),()),()))
   ((F 219 yG ((x.1.1.1,(x.1.2.1.1,())),())).bind fun(y1:((Int×Unit)×Unit)) =>
   (F 219 yG ((x.1.1.2,(x.1.2.1.2,())),())).bind fun(y2:((Int×Unit)×Unit)) =>
   (F 218 tv (((y1.1.1::(y2.1.1::([]:List Int))),()),())).bind fun(y3:((Int×Unit)×Unit)) =>
   some (y3.1,())):=by kernel_rfl
theorem UI(F:FT)(J:JT Ed)(x:((ak×aaj)×Unit)):dr 74 Ed Tryz.f74 F J x =
 (F 110108 jK ((x.1.1.1,(x.1.2.1,())),())).bind fun(y1:((aj×(Bool×Unit))×Unit)) =>
 (F 110 wi ((y1.1.1.2.1,()),())).bind fun(y2:(((List ab)×Unit)×Unit)) =>
 some (((y1.1.1.1,(y2.1.1,y1.1.1.2.2)),y1.1.2),()):=by kernel_rfl
theorem UJ(F:FT)(J:JT vT)(x:((StateT×aab)×Unit)):dr 212 vT Tryz.f212 F J x =
 J tC (bA Tryz.prog 212 0) (((IntKind.wrap .i64 ((((List.length x.1.1.2):Nat):Int)+(1:Int))),((0:Int),())),((((x.1.1.1,x.1.1.2),()),(((x.1.2.1.1,x.1.2.1.2),()),(((((0:Int),(0:Int)),(0:Int)),()),()))),())):=by kernel_rfl
theorem H7(F:FT)(J:JT vT)(x:(aaa×((aan×(aab×aal))×Unit))):nT 212 0 vT Tryz.f212 tC F J x =
  cond (decide (x.1.2.1<x.1.1))
   ((F 139 tw ((x.2.1.1.1.1,((x.2.1.2.1.1.1,x.2.1.2.1.1.2),())),())).bind fun(y1:((ID×(Bool×Unit))×Unit)) =>
   cond y1.1.2.1
    (some (((x.2.1.2.1.1.1,x.2.1.2.1.1.2),()),()))
    ((F 230 Eh ((x.2.1.1.1.2,((x.2.1.2.1.1.1,x.2.1.2.1.1.2),())),())).bind fun(y2:((ab×(Bool×Unit))×Unit)) =>
    cond (not y2.1.2.1)
     (some (((((0:Int),(0:Int)),(0:Int)),()),()))
     (J tC (bA Tryz.prog 212 0) ((x.1.1,((IntKind.wrap .i64 (x.1.2.1+(1:Int))),())),((((x.2.1.1.1.1,x.2.1.1.1.2),()),(((y2.1.1.1,y2.1.1.2),()),(((x.2.1.2.2.1.1.1,x.2.1.2.2.1.1.2),()),()))),())))))
   (some (((((0:Int),(0:Int)),(0:Int)),()),())):=by kernel_rfl
theorem UK(F:FT)(J:JT tu)(x:aat):dr 166 tu Tryz.f166 F J x =
 (F 168 kS ((x.1.1,((x.1.2.1.1,x.1.2.1.2),())),())).bind fun(y1:((Int×Unit)×Unit)) =>
 some (((decide (y1.1.1≥(0:Int))),()),()):=by kernel_rfl
theorem UL(F:FT)(J:JT kS)(x:aat):dr 168 kS Tryz.f168 F J x =
 J tD (bA Tryz.prog 168 0) ((x.1.1,((((List.length x.1.1):Nat):Int),((0:Int),()))),((((x.1.2.1.1,x.1.2.1.2),()),()),())):=by kernel_rfl
theorem H8(F:FT)(J:JT kS)(x:(((List ab)×aaa)×(aal×Unit))):nT 168 0 kS Tryz.f168 tD F J x =
  cond (decide (x.1.2.2.1<x.1.2.1))
   (((cQ x.1.1 x.1.2.2.1)).bind fun(y1:ab) =>
   cond (((x.2.1.1.1.1.1==y1.1.1)&&(x.2.1.1.1.1.2==y1.1.2))&&(x.2.1.1.1.2==y1.2))
    (some (x.1.2.2,()))
    (J tD (bA Tryz.prog 168 0) ((x.1.1,(x.1.2.1,((IntKind.wrap .i64 (x.1.2.2.1+(1:Int))),()))),((((x.2.1.1.1.1,x.2.1.1.1.2),()),()),()))))
   (some (((-1:Int),()),())):=by kernel_rfl
theorem UM(F:FT)(J:JT mL)(x:(((List (List ab))×Unit)×Unit)):dr 170 mL Tryz.f170 F J x =
 (F 196 mM (x.1,())).bind fun(y1:(((List ab)×Unit)×Unit)) =>
 (F 169 pM (y1.1,())).bind fun(y2:(((List ab)×Unit)×Unit)) =>
 some (y2.1,()):=by kernel_rfl
theorem UN(F:FT)(J:JT Ee)(x:aaw):dr 204 Ee Tryz.f204 F J x =
  (F 226 Ei ((x.1.1,()),())).bind fun(y1:((Int×(Int×(Int×(Int×Unit))))×Unit)) =>
  cond ((2:Int)==(0:Int))
   (none)
   (some (((IntKind.wrap .i64 (y1.1.2.2.2.1-(IntKind.wrap .i64 (Int.tdiv (IntKind.wrap .i64 ((IntKind.wrap .i64 (y1.1.1-y1.1.2.1))+y1.1.2.2.1)) (2:Int))))),()),())):=by kernel_rfl
theorem UO(F:FT)(J:JT Bm)(x:((an×aaj)×Unit)):dr 214 Bm Tryz.f214 F J x =
 (F 208 yF ((x.1.1.1,(x.1.2.1,())),())).bind fun(y1:((Int×Unit)×Unit)) =>
 some (y1.1,()):=by kernel_rfl
theorem UP(F:FT)(J:JT Ef)(x:(((List aG)×(aG×Unit))×Unit)):dr 215 Ef Tryz.f215 F J x =
  (F 233231 iy ((x.1.1,((x.1.2.1.1.1,x.1.2.1.1.2),())),())).bind fun(y1:((Int×(Bool×Unit))×Unit)) =>
  (F 97 D6 ((x.1.1,()),())).bind fun(y2:(((List aG)×Unit)×Unit)) =>
  cond y1.1.2.1
   (cond ((decide ((0:Int)≤y1.1.1))&&(decide (y1.1.1<(((List.length y2.1.1):Nat):Int))))
    (((y2.1.1)[(Int.toNat y1.1.1)]?).bind fun(y3:aG) =>
    some (((List.set y2.1.1 (Int.toNat y1.1.1) ((x.1.2.1.1.1,x.1.2.1.1.2),(x.1.2.1.2.1,x.1.2.1.2.2))),()),()))
    (none))
   (cond (decide ((((List.length x.1.1):Nat):Int)<(400:Int)))
    (cond (oW y2.1.1 y1.1.1 (((x.1.2.1.1.1,x.1.2.1.1.2),(x.1.2.1.2.1,x.1.2.1.2.2))::([]:List aG)))
     (some (((fb y2.1.1 y1.1.1 (((x.1.2.1.1.1,x.1.2.1.1.2),(x.1.2.1.2.1,x.1.2.1.2.2))::([]:List aG))),()),()))
     (none))
    (some (y2.1,()))):=by kernel_rfl
theorem UQ(F:FT)(J:JT Bn)(x:aat):dr 140 Bn Tryz.f140 F J x =
 (F 167 yH ((x.1.1,((x.1.2.1.1,x.1.2.1.2),((IntKind.wrap .i64 ((((List.length x.1.1):Nat):Int)-(1:Int))),()))),())).bind fun(y1:((ab×(Bool×Unit))×Unit)) =>
 some (((y1.1.1.1,y1.1.1.2),y1.1.2),()):=by kernel_rfl
theorem UR(F:FT)(J:JT Bo)(x:((ab×aab)×Unit)):dr 195 Bo Tryz.f195 F J x =
 (F 208 yF ((x.1.1.1,(x.1.2.1.1,())),())).bind fun(y1:((Int×Unit)×Unit)) =>
 (F 219 yG ((x.1.1.2,(x.1.2.1.2,())),())).bind fun(y2:((Int×Unit)×Unit)) =>
 (F 218 tv (((y1.1.1::(y2.1.1::([]:List Int))),()),())).bind fun(y3:((Int×Unit)×Unit)) =>
 some (y3.1,()):=by kernel_rfl
theorem US(F:FT)(J:JT mM)(x:(((List (List ab))×Unit)×Unit)):dr 196 mM Tryz.f196 F J x =
 J tE (bA Tryz.prog 196 0) ((x.1.1,((0:Int),(x.1.1,((((List.length x.1.1):Nat):Int),((0:Int),()))))),((),())):=by kernel_rfl
theorem H9(F:FT)(J:JT mM)(x:(((List (List ab))×(Int×((List (List ab))×aaa)))×(Unit×Unit))):nT 196 0 mM Tryz.f196 tE F J x =
  cond (decide (x.1.2.2.2.2.1<x.1.2.2.2.1))
   (((cQ x.1.2.2.1 x.1.2.2.2.2.1)).bind fun(y1:(List ab)) =>
   cond (decide ((IntKind.wrap .i64 (x.1.2.1+(((List.length y1):Nat):Int)))<(0:Int)))
    (none)
    (J tE (bA Tryz.prog 196 0) ((x.1.1,((IntKind.wrap .i64 (x.1.2.1+(((List.length y1):Nat):Int))),(x.1.2.2.1,(x.1.2.2.2.1,((IntKind.wrap .i64 (x.1.2.2.2.2.1+(1:Int))),()))))),((),()))))
   (cond (xm x.1.2.1)
    (J tF (bA Tryz.prog 196 1) ((x.1.1,((((List.length x.1.1):Nat):Int),((0:Int),()))),((),(([]:List ab),()))))
    (none)):=by kernel_rfl
theorem Ia(F:FT)(J:JT mM)(x:(((List (List ab))×aaa)×(Unit×aap))):nT 196 1 mM Tryz.f196 tF F J x =
  cond (decide (x.1.2.2.1<x.1.2.1))
   (((cQ x.1.1 x.1.2.2.1)).bind fun(y2:(List ab)) =>
   cond (bL (List.length x.2.2.1) (List.length y2))
    (J tF (bA Tryz.prog 196 1) ((x.1.1,(x.1.2.1,((IntKind.wrap .i64 (x.1.2.2.1+(1:Int))),()))),((),((x.2.2.1++y2),()))))
    (none))
   (some (x.2.2,())):=by kernel_rfl
theorem UT(F:FT)(J:JT tv)(x:(aaB×Unit)):dr 218 tv Tryz.f218 F J x =
 J wU (bA Tryz.prog 218 0) (((0:Int),(x.1.1,((((List.length x.1.1):Nat):Int),((0:Int),())))),((),())):=by kernel_rfl
theorem wV(F:FT)(J:JT tv)(x:((Int×((List Int)×aaa))×(Unit×Unit))):nT 218 0 tv Tryz.f218 wU F J x =
  cond (decide (x.1.2.2.2.1<x.1.2.2.1))
   (((cQ x.1.2.1 x.1.2.2.2.1)).bind fun(y1:Int) =>
   cond (y1 != x.1.1)
    (some ((y1,()),()))
    (J wU (bA Tryz.prog 218 0) ((x.1.1,(x.1.2.1,(x.1.2.2.1,((IntKind.wrap .i64 (x.1.2.2.2.1+(1:Int))),())))),((),()))))
   (some ((x.1.1,()),())):=by kernel_rfl
theorem UU(F:FT)(J:JT yG)(x:(aaa×Unit)):dr 219 yG Tryz.f219 F J x =
  (F 235 yI ((x.1.1,()),())).bind fun(y1:((Bool×Unit)×Unit)) =>
  (F 235 yI (x.1.2,())).bind fun(y2:((Bool×Unit)×Unit)) =>
  cond y1.1.1
   (cond y2.1.1
    (some (((0:Int),()),()))
    (some (((-1:Int),()),())))
   (cond y2.1.1
    (some (((1:Int),()),()))
    (cond (decide (x.1.1<x.1.2.1))
     (some (((-1:Int),()),()))
     (cond (decide (x.1.1>x.1.2.1))
      (some (((1:Int),()),()))
      (some (((0:Int),()),()))))):=by kernel_rfl
theorem UW(F:FT)(J:JT Eg)(x:((aj×Unit)×Unit)):dr 109 Eg Tryz.f109 F J x =
 some ((x.1.1.1,()),()):=by kernel_rfl
theorem UX(F:FT)(J:JT tw)(x:((ak×aab)×Unit)):dr 139 tw Tryz.f139 F J x =
 J tG (bA Tryz.prog 139 0) ((x.1.1.1,((((List.length x.1.1.1):Nat):Int),((0:Int),()))),((((x.1.2.1.1,x.1.2.1.2),()),((((0:Int),(0:Int)),()),())),())):=by kernel_rfl
theorem Ib(F:FT)(J:JT tw)(x:(aaF×((aab×(aaj×Unit))×Unit))):nT 139 0 tw Tryz.f139 tG F J x =
  cond (decide (x.1.2.2.1<x.1.2.1))
   (((cQ x.1.1 x.1.2.2.1)).bind fun(y1:aj) =>
   (F 166 tu ((y1.2.1,((x.2.1.1.1.1,x.2.1.1.1.2),())),())).bind fun(y2:((Bool×Unit)×Unit)) =>
   cond y2.1.1
    (some ((y1.1,(true,())),()))
    (J tG (bA Tryz.prog 139 0) ((x.1.1,(x.1.2.1,((IntKind.wrap .i64 (x.1.2.2.1+(1:Int))),()))),((((x.2.1.1.1.1,x.2.1.1.1.2),()),((x.2.1.2.1.1,()),())),()))))
   (some ((((0:Int),(0:Int)),(false,())),())):=by kernel_rfl
theorem UY(F:FT)(J:JT Eh)(x:(((List aG)×aab)×Unit)):dr 230 Eh Tryz.f230 F J x =
  (F 246244 iz ((x.1.1,()),(((x.1.2.1.1,x.1.2.1.2),()),()))).bind fun(y1:((Int×Unit)×((ab×Unit)×Unit))) =>
  cond (decide (y1.1.1<(0:Int)))
   (some (((((0:Int),(0:Int)),(0:Int)),(false,())),()))
   (((cQ x.1.1 y1.1.1)).bind fun(y2:aG) =>
   some (((y2.2.1,y2.2.2),(true,())),())):=by kernel_rfl
theorem UZ(F:FT)(J:JT Ei)(x:aaw):dr 226 Ei Tryz.f226 F J x =
 (F 240238 jL ((x.1.1.1,()),())).bind fun(y1:((Int×Unit)×Unit)) =>
 (F 240 vU ((x.1.1,()),())).bind fun(y2:(((List (List ab))×Unit)×Unit)) =>
 (F 241 vV ((x.1.1,()),())).bind fun(y3:((Int×Unit)×Unit)) =>
 some (((((List.length x.1.1.1):Nat):Int),((((List.length x.1.1.2):Nat):Int),((IntKind.wrap .i64 ((((List.length y2.1.1):Nat):Int)+y1.1.1)),y3.1))),()):=by kernel_rfl
theorem U3(F:FT)(J:JT Bp)(x:((aG×aab)×Unit)):dr 232 Bp Tryz.f232 F J x =
 (F 195 Bo (((x.1.1.1.1,x.1.1.1.2),((x.1.2.1.1,x.1.2.1.2),())),())).bind fun(y1:((Int×Unit)×Unit)) =>
 some (y1.1,()):=by kernel_rfl
end Go.Vs
set_option maxRecDepth 1000000
set_option maxHeartbeats 0
namespace Go.Vs
open Go.Proofs
theorem QE(F:FT)(J:JT yH)(x:(((List ab)×(ab×aaf))×Unit)):dr 167 yH Tryz.f167 F J x =
  (F 168 kS ((x.1.1,((x.1.2.1.1,x.1.2.1.2),())),())).bind fun(y1:((Int×Unit)×Unit)) =>
  cond (decide (y1.1.1<(0:Int)))
   (some (((((0:Int),(0:Int)),(0:Int)),(false,())),()))
   (cond ((((List.length x.1.1):Nat):Int)==(0:Int))
    (none)
    (((cQ x.1.1 (Int.tmod (IntKind.wrap .i64 (y1.1.1+x.1.2.2.1)) (((List.length x.1.1):Nat):Int)))).bind fun(y2:ab) =>
    some (((y2.1,y2.2),(true,())),()))):=by kernel_rfl
theorem U4(F:FT)(J:JT yI)(x:(aaf×Unit)):dr 235 yI Tryz.f235 F J x =
 some (((x.1.1 != x.1.1),()),()):=by kernel_rfl
theorem U5(F:FT)(J:JT Ej)(x:((aG×Unit)×((Int×aaa)×Unit))):dr 245 Ej Tryz.f245 F J x =
 some (((((x.1.1.1.1.1==x.2.1.1)&&(x.1.1.1.1.2==x.2.1.2.1))&&(x.1.1.1.2==x.2.1.2.2.1)),()),((x.2.1.1,(x.2.1.2.1,x.2.1.2.2)),())):=by kernel_rfl
theorem U6(F:FT)(J:JT Ek)(x:((aj×Unit)×Unit)):dr 239 Ek Tryz.f239 F J x =
 some ((((((List.length x.1.1.2.1):Nat):Int)==(0:Int)),()),()):=by kernel_rfl
theorem U7(F:FT)(J:JT tx)(x:aaw):dr 249 tx Tryz.f249 F J x =
 J tH (bA Tryz.prog 249 0) ((x.1.1.2,((((List.length x.1.1.2):Nat):Int),((0:Int),()))),((),(([]:List ab),()))):=by kernel_rfl
theorem Ic(F:FT)(J:JT tx)(x:(((List an)×aaa)×(Unit×aap))):nT 249 0 tx Tryz.f249 tH F J x =
  cond (decide (x.1.2.2.1<x.1.2.1))
   (((cQ x.1.1 x.1.2.2.1)).bind fun(y1:an) =>
   (F 188 mK (((y1.1,(0:Int)),()),())).bind fun(y2:((ab×Unit)×Unit)) =>
   cond (bL (List.length x.2.2.1) (List.length ((y1.1,(0:Int))::((y2.1.1.1,y2.1.1.2)::([]:List ab)))))
    (J tH (bA Tryz.prog 249 0) ((x.1.1,(x.1.2.1,((IntKind.wrap .i64 (x.1.2.2.1+(1:Int))),()))),((),((x.2.2.1++((y1.1,(0:Int))::((y2.1.1.1,y2.1.1.2)::([]:List ab)))),()))))
    (none))
   (some (x.2.2,())):=by kernel_rfl
theorem U8(F:FT)(J:JT Bq)(x:((ak×aab)×Unit)):dr 255 Bq Tryz.f255 F J x =
  (F 139 tw ((x.1.1,((x.1.2.1.1,x.1.2.1.2),())),())).bind fun(y1:((ID×(Bool×Unit))×Unit)) =>
  cond (not y1.1.2.1)
   (some (((((0:Int),(0:Int)),(0:Int)),(false,())),()))
   ((F 188 mK (((x.1.2.1.1,x.1.2.1.2),()),())).bind fun(y2:((ab×Unit)×Unit)) =>
   (F 258 vW ((x.1.1,((y2.1.1.1,y2.1.1.2),())),())).bind fun(y3:((ab×(Bool×Unit))×Unit)) =>
   some (((y3.1.1.1,y3.1.1.2),y3.1.2),())):=by kernel_rfl
theorem U9(F:FT)(J:JT gh)(x:aaw):dr 256 gh Tryz.f256 F J x =
 J qu (bA Tryz.prog 256 0) ((x.1.1.1,((((List.length x.1.1.1):Nat):Int),((0:Int),()))),((),(([]:List Int),(([]:List (ab×Int)),())))):=by kernel_rfl
theorem Ie(F:FT)(J:JT gh)(x:(aaF×(Unit×((List Int)×((List (ab×Int))×Unit))))):nT 256 0 gh Tryz.f256 qu F J x =
  cond (decide (x.1.2.2.1<x.1.2.1))
   (((cQ x.1.1 x.1.2.2.1)).bind fun(y1:aj) =>
   cond (bL (List.length x.2.2.1) (List.length (x.1.2.2.1::([]:List Int))))
    (J tI (bA Tryz.prog 256 1) ((x.1.2.2.1,(x.1.1,(x.1.2.1,(x.1.2.2.1,(y1.2.1,((((List.length y1.2.1):Nat):Int),((0:Int),()))))))),((),((x.2.2.1++(x.1.2.2.1::([]:List Int))),x.2.2.2))))
    (none))
   (J nR (bA Tryz.prog 256 2) (x.2.2.2,((),(x.2.2.1,((none,x.2.2.2.1),()))))):=by kernel_rfl
theorem Ig(F:FT)(J:JT gh)(x:((Int×((List aj)×(Int×(Int×((List ab)×aaa)))))×(Unit×((List Int)×((List (ab×Int))×Unit))))):nT 256 1 gh Tryz.f256 tI F J x =
  cond (decide (x.1.2.2.2.2.2.2.1<x.1.2.2.2.2.2.1))
   (((cQ x.1.2.2.2.2.1 x.1.2.2.2.2.2.2.1)).bind fun(y2:ab) =>
   J tI (bA Tryz.prog 256 1) ((x.1.1,(x.1.2.1,(x.1.2.2.1,(x.1.2.2.2.1,(x.1.2.2.2.2.1,(x.1.2.2.2.2.2.1,((IntKind.wrap .i64 (x.1.2.2.2.2.2.2.1+(1:Int))),()))))))),((),(x.2.2.1,((lq (.pair (.pair (.int .i64) (.int .i64)) (.int .i64)) (y2.1,y2.2) x.1.1 x.2.2.2.1),())))))
   (J qu (bA Tryz.prog 256 0) ((x.1.2.1,(x.1.2.2.1,((IntKind.wrap .i64 (x.1.2.2.2.1+(1:Int))),()))),((),(x.2.2.1,x.2.2.2)))):=by kernel_rfl
theorem Ih(F:FT)(J:JT gh)(x:(((List (ab×Int))×Unit)×(Unit×((List Int)×(((Option (ab×Int))×(List (ab×Int)))×Unit))))):nT 256 2 gh Tryz.f256 nR F J x =
  cond (List.isEmpty x.2.2.2.1.2)
   (J tJ (bA Tryz.prog 256 3) (((((List.length x.2.2.1):Nat):Int),((0:Int),())),((),(x.2.2.1,(([]:List Int),())))))
   (qM (List.length x.2.2.2.1.2) fun(j3:Nat) =>
   ((x.2.2.2.1.2)[j3]?).bind fun(y4:(ab×Int)) =>
   (F 188 mK (((y4.1.1,y4.1.2),()),())).bind fun(y5:((ab×Unit)×Unit)) =>
   cond (Option.isSome (ia (.pair (.pair (.int .i64) (.int .i64)) (.int .i64)) (y5.1.1.1,y5.1.1.2) x.1.1))
    ((F 259 El ((y4.2,((Option.getD (ia (.pair (.pair (.int .i64) (.int .i64)) (.int .i64)) (y5.1.1.1,y5.1.1.2) x.1.1) (0:Int)),())),(x.2.2.1,()))).bind fun(y6:(Unit×((List Int)×Unit))) =>
    J nR (bA Tryz.prog 256 2) (x.1,((),(y6.2.1,(((some y4),(List.eraseIdx x.2.2.2.1.2 j3)),())))))
    (J nR (bA Tryz.prog 256 2) (x.1,((),(x.2.2.1,(((some y4),(List.eraseIdx x.2.2.2.1.2 j3)),())))))):=by kernel_rfl
theorem Ii(F:FT)(J:JT gh)(x:(aaa×(Unit×((List Int)×aaB)))):nT 256 3 gh Tryz.f256 tJ F J x =
  cond (decide (x.1.2.1<x.1.1))
   ((F 260 pN (x.1.2,(x.2.2.1,()))).bind fun(y7:((Int×Unit)×((List Int)×Unit))) =>
   cond (bL (List.length x.2.2.2.1) (List.length (y7.1.1::([]:List Int))))
    (J tJ (bA Tryz.prog 256 3) ((x.1.1,((IntKind.wrap .i64 (x.1.2.1+(1:Int))),())),((),(y7.2.1,((x.2.2.2.1++(y7.1.1::([]:List Int))),())))))
    (none))
   (some (x.2.2.2,())):=by kernel_rfl
theorem Va(F:FT)(J:JT vW)(x:((ak×aab)×Unit)):dr 258 vW Tryz.f258 F J x =
 J tK (bA Tryz.prog 258 0) ((x.1.1.1,((((List.length x.1.1.1):Nat):Int),((0:Int),()))),((((x.1.2.1.1,x.1.2.1.2),()),(((((0:Int),(0:Int)),(0:Int)),()),())),())):=by kernel_rfl
theorem Ij(F:FT)(J:JT vW)(x:(aaF×((aab×aal)×Unit))):nT 258 0 vW Tryz.f258 tK F J x =
  cond (decide (x.1.2.2.1<x.1.2.1))
   (((cQ x.1.1 x.1.2.2.1)).bind fun(y1:aj) =>
   (F 261 Em ((y1.2.1,((x.2.1.1.1.1,x.2.1.1.1.2),())),())).bind fun(y2:((ab×(Bool×Unit))×Unit)) =>
   cond y2.1.2.1
    (some (((y2.1.1.1,y2.1.1.2),(true,())),()))
    (J tK (bA Tryz.prog 258 0) ((x.1.1,(x.1.2.1,((IntKind.wrap .i64 (x.1.2.2.1+(1:Int))),()))),((((x.2.1.1.1.1,x.2.1.1.1.2),()),(((x.2.1.2.1.1.1,x.2.1.2.1.1.2),()),())),()))))
   (some (((((0:Int),(0:Int)),(0:Int)),(false,())),())):=by kernel_rfl
theorem Vb(F:FT)(J:JT El)(x:(aaa×aaB)):dr 259 El Tryz.f259 F J x =
  (F 260 pN ((x.1.1,()),x.2)).bind fun(y1:((Int×Unit)×((List Int)×Unit))) =>
  (F 260 pN (x.1.2,y1.2)).bind fun(y2:((Int×Unit)×((List Int)×Unit))) =>
  cond ((decide ((0:Int)≤(max y1.1.1 y2.1.1:Int)))&&(decide ((max y1.1.1 y2.1.1:Int)<(((List.length y2.2.1):Nat):Int))))
   (((y2.2.1)[(Int.toNat (max y1.1.1 y2.1.1:Int))]?).bind fun(y3:Int) =>
   some ((),((List.set y2.2.1 (Int.toNat (max y1.1.1 y2.1.1:Int)) (min y1.1.1 y2.1.1:Int)),())))
   (none):=by kernel_rfl
theorem Vc(F:FT)(J:JT pN)(x:(aaf×aaB)):dr 260 pN Tryz.f260 F J x =
 J qv (bA Tryz.prog 260 0) (x.1,((),x.2)):=by kernel_rfl
theorem Ik(F:FT)(J:JT pN)(x:(aaf×(Unit×aaB))):nT 260 0 pN Tryz.f260 qv F J x =
  cond ((decide ((0:Int)≤x.1.1))&&(decide (x.1.1<(((List.length x.2.2.1):Nat):Int))))
   (((x.2.2.1)[(Int.toNat x.1.1)]?).bind fun(y1:Int) =>
   cond (y1 != x.1.1)
    (cond ((decide ((0:Int)≤x.1.1))&&(decide (x.1.1<(((List.length x.2.2.1):Nat):Int))))
     (((x.2.2.1)[(Int.toNat x.1.1)]?).bind fun(y2:Int) =>
     cond ((decide ((0:Int)≤y2))&&(decide (y2<(((List.length x.2.2.1):Nat):Int))))
      (((x.2.2.1)[(Int.toNat y2)]?).bind fun(y3:Int) =>
      cond ((decide ((0:Int)≤x.1.1))&&(decide (x.1.1<(((List.length x.2.2.1):Nat):Int))))
       (((x.2.2.1)[(Int.toNat x.1.1)]?).bind fun(y4:Int) =>
       cond ((decide ((0:Int)≤x.1.1))&&(decide (x.1.1<(((List.length (List.set x.2.2.1 (Int.toNat x.1.1) y3)):Nat):Int))))
        ((((List.set x.2.2.1 (Int.toNat x.1.1) y3))[(Int.toNat x.1.1)]?).bind fun(y5:Int) =>
        J qv (bA Tryz.prog 260 0) ((y5,()),((),((List.set x.2.2.1 (Int.toNat x.1.1) y3),()))))
        (none))
       (none))
      (none))
     (none))
    (some (x.1,x.2.2)))
   (none):=by kernel_rfl
theorem Vd(F:FT)(J:JT Em)(x:aat):dr 261 Em Tryz.f261 F J x =
 (F 167 yH ((x.1.1,((x.1.2.1.1,x.1.2.1.2),((1:Int),()))),())).bind fun(y1:((ab×(Bool×Unit))×Unit)) =>
 some (((y1.1.1.1,y1.1.1.2),y1.1.2),()):=by kernel_rfl
theorem Mg(F:FT)(J:JT iv)(x:(((List aj)×aaj)×Unit)):dr 208206 iv Tryz.f206 F J x =
 J gH (bA Tryz.prog 206 0) ((x.1.1,((((List.length x.1.1):Nat):Int),((0:Int),((((List.length x.1.1):Nat):Int),())))),(((x.1.2.1,()),()),())):=by kernel_rfl
theorem yN(F:FT)(J:JT iv)(x:(((List aj)×(Int×aaa))×((aaj×Unit)×Unit))):nT 208206 0 iv Tryz.f206 gH F J x =
  cond (decide (x.1.2.2.1<x.1.2.2.2.1))
   (cond (decide ((1:Int)<(0:Int)))
    (none)
    (((cQ x.1.1 (IntKind.wrap .i64 (j8 .u64 (IntKind.wrap .u64 (IntKind.wrap .i64 (x.1.2.2.1+x.1.2.2.2.1))) (1:Int))))).bind fun(y1:aj) =>
    (F 207 Bl (((y1.1,(y1.2.1,y1.2.2)),(x.2.1.1.1,())),())).bind fun(y2:((Int×Unit)×Unit)) =>
    cond (decide (y2.1.1<(0:Int)))
     (J gH (bA Tryz.prog 206 0) ((x.1.1,(x.1.2.1,((IntKind.wrap .i64 ((IntKind.wrap .i64 (j8 .u64 (IntKind.wrap .u64 (IntKind.wrap .i64 (x.1.2.2.1+x.1.2.2.2.1))) (1:Int)))+(1:Int))),x.1.2.2.2))),(((x.2.1.1.1,()),()),())))
     (J gH (bA Tryz.prog 206 0) ((x.1.1,(x.1.2.1,(x.1.2.2.1,((IntKind.wrap .i64 (j8 .u64 (IntKind.wrap .u64 (IntKind.wrap .i64 (x.1.2.2.1+x.1.2.2.2.1))) (1:Int))),())))),(((x.2.1.1.1,()),()),())))))
   (cond (decide (x.1.2.2.1<x.1.2.1))
    (((cQ x.1.1 x.1.2.2.1)).bind fun(y3:aj) =>
    (F 207 Bl (((y3.1,(y3.2.1,y3.2.2)),(x.2.1.1.1,())),())).bind fun(y4:((Int×Unit)×Unit)) =>
    some ((x.1.2.2.1,((y4.1.1==(0:Int)),())),()))
    (some ((x.1.2.2.1,(false,())),()))):=by kernel_rfl
theorem Mh(F:FT)(J:JT iw)(x:(((List an)×aaj)×Unit)):dr 215213 iw Tryz.f213 F J x =
 J gI (bA Tryz.prog 213 0) ((x.1.1,((((List.length x.1.1):Nat):Int),((0:Int),((((List.length x.1.1):Nat):Int),())))),(((x.1.2.1,()),()),())):=by kernel_rfl
theorem yO(F:FT)(J:JT iw)(x:(((List an)×(Int×aaa))×((aaj×Unit)×Unit))):nT 215213 0 iw Tryz.f213 gI F J x =
  cond (decide (x.1.2.2.1<x.1.2.2.2.1))
   (cond (decide ((1:Int)<(0:Int)))
    (none)
    (((cQ x.1.1 (IntKind.wrap .i64 (j8 .u64 (IntKind.wrap .u64 (IntKind.wrap .i64 (x.1.2.2.1+x.1.2.2.2.1))) (1:Int))))).bind fun(y1:an) =>
    (F 214 Bm (((y1.1,y1.2),(x.2.1.1.1,())),())).bind fun(y2:((Int×Unit)×Unit)) =>
    cond (decide (y2.1.1<(0:Int)))
     (J gI (bA Tryz.prog 213 0) ((x.1.1,(x.1.2.1,((IntKind.wrap .i64 ((IntKind.wrap .i64 (j8 .u64 (IntKind.wrap .u64 (IntKind.wrap .i64 (x.1.2.2.1+x.1.2.2.2.1))) (1:Int)))+(1:Int))),x.1.2.2.2))),(((x.2.1.1.1,()),()),())))
     (J gI (bA Tryz.prog 213 0) ((x.1.1,(x.1.2.1,(x.1.2.2.1,((IntKind.wrap .i64 (j8 .u64 (IntKind.wrap .u64 (IntKind.wrap .i64 (x.1.2.2.1+x.1.2.2.2.1))) (1:Int))),())))),(((x.2.1.1.1,()),()),())))))
   (cond (decide (x.1.2.2.1<x.1.2.1))
    (((cQ x.1.1 x.1.2.2.1)).bind fun(y3:an) =>
    (F 214 Bm (((y3.1,y3.2),(x.2.1.1.1,())),())).bind fun(y4:((Int×Unit)×Unit)) =>
    some ((x.1.2.2.1,((y4.1.1==(0:Int)),())),()))
    (some ((x.1.2.2.1,(false,())),()))):=by kernel_rfl
theorem Mi(F:FT)(J:JT jJ)(x:(aap×Unit)):dr 196194 jJ Tryz.f194 F J x =
  cond (decide ((((List.length x.1.1):Nat):Int)<(1:Int)))
   (none)
   (((cQ x.1.1 (0:Int))).bind fun(y1:ab) =>
   J je (bA Tryz.prog 194 0) ((x.1.1,((1:Int),())),((((((0:Int),(0:Int)),(0:Int)),()),(((y1.1,y1.2),()),())),()))):=by kernel_rfl
theorem yP(F:FT)(J:JT jJ)(x:(((List ab)×aaf)×((aab×aal)×Unit))):nT 196194 0 jJ Tryz.f194 je F J x =
  cond (decide (x.1.2.1<(((List.length x.1.1):Nat):Int)))
   (((cQ x.1.1 x.1.2.1)).bind fun(y2:ab) =>
   (F 195 Bo (((y2.1,y2.2),((x.2.1.2.1.1.1,x.2.1.2.1.1.2),())),())).bind fun(y3:((Int×Unit)×Unit)) =>
   cond (decide (y3.1.1<(0:Int)))
    (((cQ x.1.1 x.1.2.1)).bind fun(y4:ab) =>
    J je (bA Tryz.prog 194 0) ((x.1.1,((IntKind.wrap .i64 (x.1.2.1+(1:Int))),())),((((x.2.1.1.1.1,x.2.1.1.1.2),()),(((y4.1,y4.2),()),())),())))
    (J je (bA Tryz.prog 194 0) ((x.1.1,((IntKind.wrap .i64 (x.1.2.1+(1:Int))),())),((((x.2.1.1.1.1,x.2.1.1.1.2),()),(((x.2.1.2.1.1.1,x.2.1.2.1.1.2),()),())),()))))
   (some (((x.2.1.2.1.1.1,x.2.1.2.1.1.2),()),())):=by kernel_rfl
theorem Mj(F:FT)(J:JT jK)(x:(((List aj)×aaj)×Unit)):dr 110108 jK Tryz.f108 F J x =
 J kW (bA Tryz.prog 108 0) ((x.1.1,((((List.length x.1.1):Nat):Int),((0:Int),()))),(((x.1.2.1,()),(((0:Int),((0:Int),(([]:List ab),((⟨#[]⟩:ByteArray),((0:Int),()))))),())),())):=by kernel_rfl
theorem yQ(F:FT)(J:JT jK)(x:(aaF×((aaj×((Int×(Int×((List ab)×(ByteArray×aaf))))×Unit))×Unit))):nT 110108 0 jK Tryz.f108 kW F J x =
  cond (decide (x.1.2.2.1<x.1.2.1))
   (((cQ x.1.1 x.1.2.2.1)).bind fun(y1:aj) =>
   (F 109 Eg (((y1.1,(y1.2.1,y1.2.2)),()),())).bind fun(y2:((ID×Unit)×Unit)) =>
   cond ((y2.1.1.1==x.2.1.1.1.1)&&(y2.1.1.2==x.2.1.1.1.2))
    (some (((y1.1,(y1.2.1,y1.2.2)),(true,())),()))
    (J kW (bA Tryz.prog 108 0) ((x.1.1,(x.1.2.1,((IntKind.wrap .i64 (x.1.2.2.1+(1:Int))),()))),(((x.2.1.1.1,()),((x.2.1.2.1.1,(x.2.1.2.1.2.1,(x.2.1.2.1.2.2.1,(x.2.1.2.1.2.2.2.1,x.2.1.2.1.2.2.2.2)))),())),()))))
   (some (((((0:Int),(0:Int)),(([]:List ab),((⟨#[]⟩:ByteArray),(0:Int)))),(false,())),())):=by kernel_rfl
theorem Mk(F:FT)(J:JT iy)(x:(((List aG)×aab)×Unit)):dr 233231 iy Tryz.f231 F J x =
 J gK (bA Tryz.prog 231 0) ((x.1.1,((((List.length x.1.1):Nat):Int),((0:Int),((((List.length x.1.1):Nat):Int),())))),((((x.1.2.1.1,x.1.2.1.2),()),()),())):=by kernel_rfl
theorem yR(F:FT)(J:JT iy)(x:(((List aG)×(Int×aaa))×(aal×Unit))):nT 233231 0 iy Tryz.f231 gK F J x =
  cond (decide (x.1.2.2.1<x.1.2.2.2.1))
   (cond (decide ((1:Int)<(0:Int)))
    (none)
    (((cQ x.1.1 (IntKind.wrap .i64 (j8 .u64 (IntKind.wrap .u64 (IntKind.wrap .i64 (x.1.2.2.1+x.1.2.2.2.1))) (1:Int))))).bind fun(y1:aG) =>
    (F 232 Bp ((((y1.1.1,y1.1.2),(y1.2.1,y1.2.2)),((x.2.1.1.1.1,x.2.1.1.1.2),())),())).bind fun(y2:((Int×Unit)×Unit)) =>
    cond (decide (y2.1.1<(0:Int)))
     (J gK (bA Tryz.prog 231 0) ((x.1.1,(x.1.2.1,((IntKind.wrap .i64 ((IntKind.wrap .i64 (j8 .u64 (IntKind.wrap .u64 (IntKind.wrap .i64 (x.1.2.2.1+x.1.2.2.2.1))) (1:Int)))+(1:Int))),x.1.2.2.2))),((((x.2.1.1.1.1,x.2.1.1.1.2),()),()),())))
     (J gK (bA Tryz.prog 231 0) ((x.1.1,(x.1.2.1,(x.1.2.2.1,((IntKind.wrap .i64 (j8 .u64 (IntKind.wrap .u64 (IntKind.wrap .i64 (x.1.2.2.1+x.1.2.2.2.1))) (1:Int))),())))),((((x.2.1.1.1.1,x.2.1.1.1.2),()),()),())))))
   (cond (decide (x.1.2.2.1<x.1.2.1))
    (((cQ x.1.1 x.1.2.2.1)).bind fun(y3:aG) =>
    (F 232 Bp ((((y3.1.1,y3.1.2),(y3.2.1,y3.2.2)),((x.2.1.1.1.1,x.2.1.1.1.2),())),())).bind fun(y4:((Int×Unit)×Unit)) =>
    some ((x.1.2.2.1,((y4.1.1==(0:Int)),())),()))
    (some ((x.1.2.2.1,(false,())),()))):=by kernel_rfl
theorem Ml(F:FT)(J:JT iz)(x:(((List aG)×Unit)×aal)):dr 246244 iz Tryz.f244 F J x =
 J jf (bA Tryz.prog 244 0) ((x.1.1,((((List.length x.1.1):Nat):Int),((0:Int),()))),((((x.2.1.1.1,x.2.1.1.2),()),()),())):=by kernel_rfl
theorem yS(F:FT)(J:JT iz)(x:(((List aG)×aaa)×(aal×Unit))):nT 246244 0 iz Tryz.f244 jf F J x =
  cond (decide (x.1.2.2.1<x.1.2.1))
   (((cQ x.1.1 x.1.2.2.1)).bind fun(y1:aG) =>
   (F 245 Ej ((((y1.1.1,y1.1.2),(y1.2.1,y1.2.2)),()),((x.2.1.1.1.1.1,(x.2.1.1.1.1.2,(x.2.1.1.1.2,()))),()))).bind fun(y2:((Bool×Unit)×((Int×(Int×(Int×Unit)))×Unit))) =>
   cond y2.1.1
    (some (x.1.2.2,((((y2.2.1.1,y2.2.1.2.1),y2.2.1.2.2.1),()),())))
    (J jf (bA Tryz.prog 244 0) ((x.1.1,(x.1.2.1,((IntKind.wrap .i64 (x.1.2.2.1+(1:Int))),()))),(((((y2.2.1.1,y2.2.1.2.1),y2.2.1.2.2.1),()),()),()))))
   (some (((-1:Int),()),(((x.2.1.1.1.1,x.2.1.1.1.2),()),()))):=by kernel_rfl
theorem Mm(F:FT)(J:JT jL)(x:(((List aj)×Unit)×Unit)):dr 240238 jL Tryz.f238 F J x =
 J jg (bA Tryz.prog 238 0) (((0:Int),(x.1.1,((((List.length x.1.1):Nat):Int),((0:Int),())))),((),())):=by kernel_rfl
theorem yT(F:FT)(J:JT jL)(x:((Int×aaF)×(Unit×Unit))):nT 240238 0 jL Tryz.f238 jg F J x =
  cond (decide (x.1.2.2.2.1<x.1.2.2.1))
   (((cQ x.1.2.1 x.1.2.2.2.1)).bind fun(y1:aj) =>
   (F 239 Ek (((y1.1,(y1.2.1,y1.2.2)),()),())).bind fun(y2:((Bool×Unit)×Unit)) =>
   cond y2.1.1
    (J jg (bA Tryz.prog 238 0) (((IntKind.wrap .i64 (x.1.1+(1:Int))),(x.1.2.1,(x.1.2.2.1,((IntKind.wrap .i64 (x.1.2.2.2.1+(1:Int))),())))),((),())))
    (J jg (bA Tryz.prog 238 0) ((x.1.1,(x.1.2.1,(x.1.2.2.1,((IntKind.wrap .i64 (x.1.2.2.2.1+(1:Int))),())))),((),()))))
   (some ((x.1.1,()),())):=by kernel_rfl
end Go.Vs
