/- Normal forms of the program's functions, the third part. -/
import Derived.Test.YtpkfpbpbkabkdaaGreatEngineD
import Derived.KernelRfl
set_option linter.unusedVariables false
set_option maxRecDepth 1000000
set_option maxHeartbeats 0
namespace Go.Vs
open Go.Proofs
theorem aeQ(F:FT)(J:JT EE)(x:Q5):bS 136 EE Tryz.f136 F J x =
 (F 164 Gs ((x.1.1,()),())).bind fun(y1:Q25) =>
 J tp (aN Tryz.prog 136 0) (((lI y1.1.1),((0:Int),())),(((x.1.1,()),()),())):=by kernel_rfl
theorem PV(F:FT)(J:JT EE)(x:(aaf×(abk×Unit))):fH 136 0 EE Tryz.f136 tp F J x =
  cond (decide (x.1.2.1<(lI x.2.1.1.1.1)))
   (((aX x.2.1.1.1.1 x.1.2.1)).bind fun(y2:ag) =>
   cond ((lI y2.2.1)==0)
    (J tp (aN Tryz.prog 136 0) (((wI (x.1.1+1)),((wI (x.1.2.1+1)),())),(((x.2.1.1.1,()),()),())))
    (J tp (aN Tryz.prog 136 0) ((x.1.1,((wI (x.1.2.1+1)),())),(((x.2.1.1.1,()),()),()))))
   ((F 165 Gt ((x.2.1.1.1,()),())).bind fun(y3:Q2) =>
   some (((lI x.2.1.1.1.1),((lI x.2.1.1.1.2),(x.1.1,y3.1))),())):=by kernel_rfl
theorem aeR(F:FT)(J:JT qu)(x:abp):bS 159 qu Tryz.f159 F J x =
  cond (decide (x.1.1.1≥1))
   (cond (decide (x.1.1.1≤8))
    (cond (decide (x.1.1.2≥1))
     (some (((decide (x.1.1.2≤1048576)),()),()))
     (some ((false,()),())))
    (some ((false,()),())))
   (some ((false,()),())):=by kernel_rfl
theorem aeS(F:FT)(J:JT Ct)(x:Q27):bS 160 Ct Tryz.f160 F J x =
  (F 159 qu ((x.1.1.1,()),())).bind fun(y1:Q0) =>
  cond y1.1.1
   (cond (((x.1.1.2.1.1==0)&&(x.1.1.2.1.2==0))&&(x.1.1.2.2==0))
    (some ((true,()),()))
    ((F 190 GK ((x.1.1.2,()),())).bind fun(y2:Q0) =>
    some (y2.1,())))
   (some ((false,()),())):=by kernel_rfl
theorem aeT(F:FT)(J:JT vY)(x:((ByteArray×Unit)×Unit)):bS 161 vY Tryz.f161 F J x =
 J we (aN Tryz.prog 161 0) (x.1,((),((x.1.1,0),()))):=by kernel_rfl
theorem PW(F:FT)(J:JT vY)(x:((ByteArray×Unit)×(Unit×((ByteArray×Nat)×Unit)))):fH 161 0 vY Tryz.f161 we F J x =
  cond (decide (x.2.2.1.2<(ByteArray.size x.2.2.1.1)))
   (cond (decide ((od x.2.2.1.1 x.2.2.1.2)<32))
    (some ((false,()),()))
    (cond (decide ((od x.2.2.1.1 x.2.2.1.2)>126))
     (some ((false,()),()))
     (J we (aN Tryz.prog 161 0) (x.1,((),((x.2.2.1.1,(x.2.2.1.2+(yW x.2.2.1.1 x.2.2.1.2))),()))))))
   (some (((decide ((((ByteArray.size x.1.1):Nat):Int)≤16)),()),())):=by kernel_rfl
theorem aeU(F:FT)(J:JT GF)(x:Q2):bS 162 GF Tryz.f162 F J x =
  cond (decide (x.1.1≥(-1099511627776:Int)))
   (some (((decide (x.1.1≤1099511627776)),()),()))
   (some ((false,()),())):=by kernel_rfl
theorem aeV(F:FT)(J:JT GG)(x:((ag×Unit)×aa5)):bS 152 GG Tryz.f152 F J x =
  (F 175 po ((x.1.1.1,()),(x.2.1,()))).bind fun(y1:Jm) =>
  cond y1.1.2.1
   (some (((12:Int),()),(y1.2.1,())))
   (cond (decide ((lI y1.2.1.1)≥24))
    (some (((3:Int),()),(y1.2.1,())))
    (cond (pX y1.2.1.1 y1.1.1 (x.1.1::([]:List ag)))
     (some (((0:Int),()),(((fN y1.2.1.1 y1.1.1 (x.1.1::([]:List ag))),y1.2.1.2),())))
     (none))):=by kernel_rfl
theorem aeW(F:FT)(J:JT Pc)(x:UI):bS 153 Pc Tryz.f153 F J x =
  (F 175 po ((x.1.1.2.1,()),(x.2.1,()))).bind fun(y1:Jm) =>
  cond (not y1.1.2.1)
   (some (((13:Int),()),(y1.2.1,())))
   (cond ((decide ((0:Int)≤y1.1.1))&&(decide (y1.1.1<(lI y1.2.1.1))))
    (((y1.2.1.1)[(Int.toNat y1.1.1)]?).bind fun(y2:ag) =>
    cond (decide ((lI y2.2.1)>0))
     (some (((14:Int),()),(y1.2.1,())))
     (cond (jo y1.2.1.1 y1.1.1 (wI (y1.1.1+1)))
      (some (((0:Int),()),(((di y1.2.1.1 y1.1.1 (wI (y1.1.1+1))),y1.2.1.2),())))
      (none)))
    (none)):=by kernel_rfl
theorem Wc(F:FT)(J:JT oP)(x:UI):bS 154 oP Tryz.f154 F J x =
  cond (oM x.2.1.1 x.2.1.2.1)
   ((F 178 xu ((x.1.1.2.1,()),(x.2.1,()))).bind fun(y1:Pg) =>
   cond (y1.1.1 != 0)
    (some (y1.1,(y1.2.1,())))
    ((F 179 Ao ((x.1.1.2.1,()),())).bind fun(y2:Q33) =>
    J lQ (aN Tryz.prog 154 0) (((lI (x.1.1.2.2.2.2.1::(x.1.1.2.2.2.2.2.1::([]:List pn)))),((0:Int),())),((y1.2.1,((((x.2.1.1,x.2.1.2.1),x.2.1.2.2.1),()),((y2.1.1,()),()))),((y2.1.1::(y2.1.2.1::([]:List ab))),((x.1.1.2.2.2.2.1::(x.1.1.2.2.2.2.2.1::([]:List pn))),()))))))
   (none):=by kernel_rfl
theorem wi(F:FT)(J:JT oP)(x:(aaf×((aQ×(abd×aaZ))×((List ab)×((List pn)×Unit))))):fH 154 0 oP Tryz.f154 lQ F J x =
  cond (decide (x.1.2.1<x.1.1))
   (cond ((decide ((0:Int)≤x.1.2.1))&&(decide (x.1.2.1<(lI x.2.2.2.1))))
    (((x.2.2.2.1)[(Int.toNat x.1.2.1)]?).bind fun(y3:pn) =>
    (F 180 GL ((x.2.1.2.1.1,(y3,())),())).bind fun(y4:((pn×(Int×Unit))×Unit)) =>
    cond (y4.1.2.1 != 0)
     (some (y4.1.2,(x.2.1.1,())))
     (cond (x.1.2.1==1)
      (cond (((y3.2.1.1==x.2.1.2.2.1.1.1.1)&&(y3.2.1.2==x.2.1.2.2.1.1.1.2))&&(y3.2.2==x.2.1.2.2.1.1.2))
       ((F 175 po ((y3.1,()),(x.2.1.1,()))).bind fun(y5:Jm) =>
       cond ((decide ((0:Int)≤y5.1.1))&&(decide (y5.1.1<(lI y5.2.1.1))))
        (((y5.2.1.1)[(Int.toNat y5.1.1)]?).bind fun(y6:ag) =>
        cond ((decide ((0:Int)≤x.1.2.1))&&(decide (x.1.2.1<(lI x.2.2.1))))
         (((x.2.2.1)[(Int.toNat x.1.2.1)]?).bind fun(y7:ab) =>
         (F 181 Ap ((y6.2.1,(y3.2,(y7,()))),())).bind fun(y8:Q6) =>
         ((y5.2.1.1)[(Int.toNat y5.1.1)]?).bind fun(y9:ag) =>
         J lQ (aN Tryz.prog 154 0) ((x.1.1,((wI (x.1.2.1+1)),())),((((List.set y5.2.1.1 (Int.toNat y5.1.1) (y9.1,(y8.1.1,y9.2.2))),y5.2.1.2),((x.2.1.2.1.1,()),((x.2.1.2.2.1.1,()),()))),x.2.2)))
         (none))
        (none))
       ((F 175 po ((y4.1.1.1,()),(x.2.1.1,()))).bind fun(oR:Jm) =>
       cond ((decide ((0:Int)≤oR.1.1))&&(decide (oR.1.1<(lI oR.2.1.1))))
        (((oR.2.1.1)[(Int.toNat oR.1.1)]?).bind fun(mg:ag) =>
        cond ((decide ((0:Int)≤x.1.2.1))&&(decide (x.1.2.1<(lI x.2.2.1))))
         (((x.2.2.1)[(Int.toNat x.1.2.1)]?).bind fun(pM:ab) =>
         (F 181 Ap ((mg.2.1,(y4.1.1.2,(pM,()))),())).bind fun(kS:Q6) =>
         ((oR.2.1.1)[(Int.toNat oR.1.1)]?).bind fun(EH:ag) =>
         J lQ (aN Tryz.prog 154 0) ((x.1.1,((wI (x.1.2.1+1)),())),((((List.set oR.2.1.1 (Int.toNat oR.1.1) (EH.1,(kS.1.1,EH.2.2))),oR.2.1.2),((x.2.1.2.1.1,()),((x.2.1.2.2.1.1,()),()))),x.2.2)))
         (none))
        (none)))
      ((F 175 po ((y4.1.1.1,()),(x.2.1.1,()))).bind fun(tL:Jm) =>
      cond ((decide ((0:Int)≤tL.1.1))&&(decide (tL.1.1<(lI tL.2.1.1))))
       (((tL.2.1.1)[(Int.toNat tL.1.1)]?).bind fun(R1:ag) =>
       cond ((decide ((0:Int)≤x.1.2.1))&&(decide (x.1.2.1<(lI x.2.2.1))))
        (((x.2.2.1)[(Int.toNat x.1.2.1)]?).bind fun(R4:ab) =>
        (F 181 Ap ((R1.2.1,(y4.1.1.2,(R4,()))),())).bind fun(Jo:Q6) =>
        ((tL.2.1.1)[(Int.toNat tL.1.1)]?).bind fun(G6:ag) =>
        J lQ (aN Tryz.prog 154 0) ((x.1.1,((wI (x.1.2.1+1)),())),((((List.set tL.2.1.1 (Int.toNat tL.1.1) (G6.1,(Jo.1.1,G6.2.2))),tL.2.1.2),((x.2.1.2.1.1,()),((x.2.1.2.2.1.1,()),()))),x.2.2)))
        (none))
       (none))))
    (none))
   ((F 172 Aq (((x.2.1.1.1,x.2.1.1.2.1),()),())).bind fun(Dn:Q0) =>
   cond (not Dn.1.1)
    (some (((15:Int),()),(x.2.1.1,())))
    (some (((0:Int),()),(x.2.1.1,())))):=by kernel_rfl
theorem YO(F:FT)(J:JT Am)(x:UI):bS 155 Am Tryz.f155 F J x =
  (F 182 my ((x.1.1.2.1,()),(x.2.1,()))).bind fun(y1:Jm) =>
  cond (not y1.1.2.1)
   (some (((13:Int),()),(y1.2.1,())))
   ((F 179 Ao ((x.1.1.2.1,()),())).bind fun(y2:Q33) =>
   J EG (aN Tryz.prog 155 0) ((y1.1.1,((lI (y2.1.1::(y2.1.2.1::([]:List ab)))),((0:Int),()))),((y1.2.1,((y2.1.1,()),((y2.1.2.1,()),()))),((y2.1.1::(y2.1.2.1::([]:List ab))),())))):=by kernel_rfl
theorem Jq(F:FT)(J:JT Am)(x:((Int×aaf)×((aQ×(aae×aaZ))×aaX))):fH 155 0 Am Tryz.f155 EG F J x =
  cond (decide (x.1.2.2.1<x.1.2.1))
   (cond ((decide ((0:Int)≤x.1.2.2.1))&&(decide (x.1.2.2.1<(lI x.2.2.1))))
    (((x.2.2.1)[(Int.toNat x.1.2.2.1)]?).bind fun(y3:ab) =>
    (F 184 As ((y3,()),(x.2.1.1,()))).bind fun(y4:((ab×Unit)×(aQ×Unit))) =>
    (F 183 Ar ((y3,(y4.1.1,())),(y4.2.1,()))).bind fun(y5:(Unit×(aQ×Unit))) =>
    J EG (aN Tryz.prog 155 0) ((x.1.1,(x.1.2.1,((wI (x.1.2.2.1+1)),()))),((y5.2.1,((x.2.1.2.1.1,()),((x.2.1.2.2.1.1,()),()))),x.2.2)))
    (none))
   (J wg (aN Tryz.prog 155 1) ((x.1.1,((lI (x.2.1.2.1.1::(x.2.1.2.2.1.1::([]:List ab)))),((0:Int),()))),((x.2.1.1,()),((x.2.1.2.1.1::(x.2.1.2.2.1.1::([]:List ab))),())))):=by kernel_rfl
theorem Js(F:FT)(J:JT Am)(x:((Int×aaf)×(aa5×aaX))):fH 155 1 Am Tryz.f155 wg F J x =
  cond (decide (x.1.2.2.1<x.1.2.1))
   (cond ((decide ((0:Int)≤x.1.2.2.1))&&(decide (x.1.2.2.1<(lI x.2.2.1))))
    (((x.2.2.1)[(Int.toNat x.1.2.2.1)]?).bind fun(y6:ab) =>
    (F 185 lN ((y6,()),(x.2.1.1,()))).bind fun(y7:YL) =>
    pW y7.1.1
     (none) fun(p8:((Fin 1)×Nat)) =>
    cond (p8.1.val==0)
     (((y7.2.1.1)[p8.2]?).bind fun(y9:ag) =>
     (F 141 GM ((y9.2.1,(y6,())),())).bind fun(oR:Q6) =>
     ((y7.2.1.1)[p8.2]?).bind fun(mg:ag) =>
     J wg (aN Tryz.prog 155 1) ((x.1.1,(x.1.2.1,((wI (x.1.2.2.1+1)),()))),((((List.set y7.2.1.1 p8.2 (mg.1,(oR.1.1,mg.2.2))),y7.2.1.2),()),x.2.2)))
     (none))
    (none))
   (cond (jo x.2.1.1.2.1 x.1.1 (wI (x.1.1+1)))
    (some (((0:Int),()),((x.2.1.1.1,((di x.2.1.1.2.1 x.1.1 (wI (x.1.1+1))),x.2.1.1.2.2)),())))
    (none)):=by kernel_rfl
theorem S4(F:FT)(J:JT ya)(x:UI):bS 156 ya Tryz.f156 F J x =
  (F 182 my ((x.1.1.2.1,()),(x.2.1,()))).bind fun(y1:Jm) =>
  (F 175 po ((x.1.1.2.2.1,()),(y1.2.1,()))).bind fun(y2:Jm) =>
  (F 182 my ((x.1.1.2.2.2.1,()),(y2.2.1,()))).bind fun(y3:Jm) =>
  cond (not y1.1.2.1)
   (some (((13:Int),()),(y3.2.1,())))
   (cond y2.1.2.1
    (some (((12:Int),()),(y3.2.1,())))
    (cond y3.1.2.1
     (some (((12:Int),()),(y3.2.1,())))
     (cond (decide ((1:Int)<0))
      (none)
      ((F 185 lN (((x.1.1.2.1,(eP .xor .i64 (1:Int) (eP .and .i64 x.1.1.2.2.2.2.2.2.2.2 (1:Int)))),()),(y3.2.1,()))).bind fun(y4:YL) =>
      pW y4.1.1
       (none) fun(p5:((Fin 1)×Nat)) =>
      cond (p5.1.val==0)
       (((y4.2.1.1)[p5.2]?).bind fun(y6:ag) =>
       (F 188 nF (((x.1.1.2.2.2.1,(kO .i64 x.1.1.2.2.2.2.2.2.2.2 (1:Int))),()),())).bind fun(y7:EF) =>
       (F 187 sD ((y6.2.1,((x.1.1.2.1,(eP .xor .i64 (1:Int) (eP .and .i64 x.1.1.2.2.2.2.2.2.2.2 (1:Int)))),(y7.1.1,()))),())).bind fun(y8:Q6) =>
       ((y4.2.1.1)[p5.2]?).bind fun(y9:ag) =>
       (F 169 qw ((((x.1.1.2.1,(eP .xor .i64 (1:Int) (eP .and .i64 x.1.1.2.2.2.2.2.2.2.2 (1:Int))))::((x.1.1.2.2.2.1,(kO .i64 x.1.1.2.2.2.2.2.2.2.2 (1:Int)))::([]:List ab))),()),())).bind fun(oR:Q6) =>
       (F 152 GG (((x.1.1.2.2.1,(oR.1.1,(OB,(0:Int)))),()),(((List.set y4.2.1.1 p5.2 (y9.1,(y8.1.1,y9.2.2))),y4.2.1.2),()))).bind fun(mg:Pg) =>
       cond (mg.1.1 != 0)
        (some (mg.1,(mg.2.1,())))
        ((F 178 xu ((x.1.1.2.2.2.1,()),(mg.2.1,()))).bind fun(pM:Pg) =>
        some (pM.1,(pM.2.1,()))))
       (none))))):=by kernel_rfl
theorem YP(F:FT)(J:JT qv)(x:UI):bS 157 qv Tryz.f157 F J x =
  (F 175 po ((x.1.1.2.1,()),(x.2.1,()))).bind fun(y1:Jm) =>
  cond (not y1.1.2.1)
   (some (((13:Int),()),(y1.2.1,())))
   (cond ((decide ((0:Int)≤y1.1.1))&&(decide (y1.1.1<(lI y1.2.1.1))))
    (((y1.2.1.1)[(Int.toNat y1.1.1)]?).bind fun(y2:ag) =>
    cond ((lI y2.2.1) != 2)
     (some (((14:Int),()),(y1.2.1,())))
     (((aX y2.2.1 (0:Int))).bind fun(y3:ab) =>
     ((aX y2.2.1 (1:Int))).bind fun(y4:ab) =>
     cond ((y3.1.1==y4.1.1)&&(y3.1.2==y4.1.2))
      (some (((14:Int),()),(y1.2.1,())))
      (((aX y2.2.1 (0:Int))).bind fun(y5:ab) =>
      ((aX y2.2.1 (1:Int))).bind fun(y6:ab) =>
      cond ((y5.1.1==x.1.1.2.2.2.1.1)&&(y5.1.2==x.1.1.2.2.2.1.2))
       (cond (not ((y5.1.1==x.1.1.2.2.2.1.1)&&(y5.1.2==x.1.1.2.2.2.1.2)))
        (some (((14:Int),()),(y1.2.1,())))
        ((F 188 nF ((y5,()),())).bind fun(y7:EF) =>
        cond (jo y1.2.1.1 y1.1.1 (wI (y1.1.1+1)))
         ((F 185 lN ((y7.1.1,()),(((di y1.2.1.1 y1.1.1 (wI (y1.1.1+1))),y1.2.1.2),()))).bind fun(y8:YL) =>
         pW y8.1.1
          (none) fun(p9:((Fin 1)×Nat)) =>
         cond (p9.1.val==0)
          (((y8.2.1.1)[p9.2]?).bind fun(oR:ag) =>
          (F 187 sD ((oR.2.1,(y7.1.1,(y6,()))),())).bind fun(mg:Q6) =>
          ((y8.2.1.1)[p9.2]?).bind fun(pM:ag) =>
          (F 182 my ((y5.1,()),(((List.set y8.2.1.1 p9.2 (pM.1,(mg.1.1,pM.2.2))),y8.2.1.2),()))).bind fun(kS:Jm) =>
          cond (jo kS.2.1.2.1 kS.1.1 (wI (kS.1.1+1)))
           (J mV (aN Tryz.prog 157 0) (((0:Int),()),(((kS.2.1.1,((di kS.2.1.2.1 kS.1.1 (wI (kS.1.1+1))),kS.2.1.2.2)),((y6,()),((y5,()),((y7.1.1,()),())))),())))
           (none))
          (none))
         (none)))
       (cond (not ((y6.1.1==x.1.1.2.2.2.1.1)&&(y6.1.2==x.1.1.2.2.2.1.2)))
        (some (((14:Int),()),(y1.2.1,())))
        ((F 188 nF ((y6,()),())).bind fun(EH:EF) =>
        cond (jo y1.2.1.1 y1.1.1 (wI (y1.1.1+1)))
         ((F 185 lN ((EH.1.1,()),(((di y1.2.1.1 y1.1.1 (wI (y1.1.1+1))),y1.2.1.2),()))).bind fun(tL:YL) =>
         pW tL.1.1
          (none) fun(p16:((Fin 1)×Nat)) =>
         cond (p16.1.val==0)
          (((tL.2.1.1)[p16.2]?).bind fun(R4:ag) =>
          (F 187 sD ((R4.2.1,(EH.1.1,(y5,()))),())).bind fun(Jo:Q6) =>
          ((tL.2.1.1)[p16.2]?).bind fun(G6:ag) =>
          (F 182 my ((y6.1,()),(((List.set tL.2.1.1 p16.2 (G6.1,(Jo.1.1,G6.2.2))),tL.2.1.2),()))).bind fun(Dn:Jm) =>
          cond (jo Dn.2.1.2.1 Dn.1.1 (wI (Dn.1.1+1)))
           (J mV (aN Tryz.prog 157 0) (((0:Int),()),(((Dn.2.1.1,((di Dn.2.1.2.1 Dn.1.1 (wI (Dn.1.1+1))),Dn.2.1.2.2)),((y5,()),((y6,()),((EH.1.1,()),())))),())))
           (none))
          (none))
         (none))))))
    (none)):=by kernel_rfl
theorem wj(F:FT)(J:JT qv)(x:Q39):fH 157 0 qv Tryz.f157 mV F J x =
  cond (decide (x.1.1<2))
   (cond (x.2.1.2.2.1.1.2==x.1.1)
    ((F 183 Ar ((x.2.1.2.2.1.1,(OD,())),(x.2.1.1,()))).bind fun(YM:(Unit×(aQ×Unit))) =>
    J mV (aN Tryz.prog 157 0) (((wI (x.1.1+1)),()),((YM.2.1,((x.2.1.2.1.1,()),((x.2.1.2.2.1.1,()),((x.2.1.2.2.2.1.1,()),())))),())))
    ((F 183 Ar ((x.2.1.2.2.2.1.1,(x.2.1.2.1.1,())),(x.2.1.1,()))).bind fun(YN:(Unit×(aQ×Unit))) =>
    J mV (aN Tryz.prog 157 0) (((wI (x.1.1+1)),()),((YN.2.1,((x.2.1.2.1.1,()),((x.2.1.2.2.1.1,()),((x.2.1.2.2.2.1.1,()),())))),()))))
   (some (((0:Int),()),(x.2.1.1,()))):=by kernel_rfl
theorem aeX(F:FT)(J:JT Pd)(x:UI):bS 158 Pd Tryz.f158 F J x =
  (F 189 GN ((x.1.1,()),(x.2.1,()))).bind fun(y1:(((Option ((Fin 2)×Nat))×((Option ((Fin 2)×Nat))×Unit))×(aQ×Unit))) =>
  pW y1.1.1
   (pW y1.1.2.1
    (some (((13:Int),()),(y1.2.1,()))) fun(p2:((Fin 2)×Nat)) =>
   cond (p2.1.val==0)
    (some (((13:Int),()),(y1.2.1,())))
    (cond (p2.1.val==1)
    (some (((13:Int),()),(y1.2.1,())))
    (none))) fun(p3:((Fin 2)×Nat)) =>
  cond (p3.1.val==0)
   (pW y1.1.2.1
    (cond (x.1.1.1==7)
     (((y1.2.1.1)[p3.2]?).bind fun(oR:ag) =>
     some (((0:Int),()),(((List.set y1.2.1.1 p3.2 (oR.1,(oR.2.1,(x.1.1.2.2.2.2.2.2.2.1,oR.2.2.2)))),y1.2.1.2),())))
     (none)) fun(XM:((Fin 2)×Nat)) =>
   cond (XM.1.val==0)
    (cond (x.1.1.1==7)
     (((y1.2.1.1)[p3.2]?).bind fun(EH:ag) =>
     some (((0:Int),()),(((List.set y1.2.1.1 p3.2 (EH.1,(EH.2.1,(x.1.1.2.2.2.2.2.2.2.1,EH.2.2.2)))),y1.2.1.2),())))
     (((y1.2.1.1)[XM.2]?).bind fun(tL:ag) =>
     some (((0:Int),()),(((List.set y1.2.1.1 XM.2 (tL.1,(tL.2.1,(tL.2.2.1,x.1.1.2.2.2.2.2.2.2.2)))),y1.2.1.2),()))))
    (cond (XM.1.val==1)
    (cond (x.1.1.1==7)
     (((y1.2.1.1)[p3.2]?).bind fun(pM:ag) =>
     some (((0:Int),()),(((List.set y1.2.1.1 p3.2 (pM.1,(pM.2.1,(x.1.1.2.2.2.2.2.2.2.1,pM.2.2.2)))),y1.2.1.2),())))
     (((y1.2.1.2.1)[XM.2]?).bind fun(kS:ah) =>
     some (((0:Int),()),((y1.2.1.1,((List.set y1.2.1.2.1 XM.2 (kS.1,(kS.2.1,x.1.1.2.2.2.2.2.2.2.2))),y1.2.1.2.2)),()))))
    (none)))
   (cond (p3.1.val==1)
   (pW y1.1.2.1
    (cond (x.1.1.1==7)
     (((y1.2.1.2.1)[p3.2]?).bind fun(y4:ah) =>
     some (((0:Int),()),((y1.2.1.1,((List.set y1.2.1.2.1 p3.2 (y4.1,(x.1.1.2.2.2.2.2.2.2.1,y4.2.2))),y1.2.1.2.2)),())))
     (none)) fun(p5:((Fin 2)×Nat)) =>
   cond (p5.1.val==0)
    (cond (x.1.1.1==7)
     (((y1.2.1.2.1)[p3.2]?).bind fun(y8:ah) =>
     some (((0:Int),()),((y1.2.1.1,((List.set y1.2.1.2.1 p3.2 (y8.1,(x.1.1.2.2.2.2.2.2.2.1,y8.2.2))),y1.2.1.2.2)),())))
     (((y1.2.1.1)[p5.2]?).bind fun(y9:ag) =>
     some (((0:Int),()),(((List.set y1.2.1.1 p5.2 (y9.1,(y9.2.1,(y9.2.2.1,x.1.1.2.2.2.2.2.2.2.2)))),y1.2.1.2),()))))
    (cond (p5.1.val==1)
    (cond (x.1.1.1==7)
     (((y1.2.1.2.1)[p3.2]?).bind fun(y6:ah) =>
     some (((0:Int),()),((y1.2.1.1,((List.set y1.2.1.2.1 p3.2 (y6.1,(x.1.1.2.2.2.2.2.2.2.1,y6.2.2))),y1.2.1.2.2)),())))
     (((y1.2.1.2.1)[p5.2]?).bind fun(y7:ah) =>
     some (((0:Int),()),((y1.2.1.1,((List.set y1.2.1.2.1 p5.2 (y7.1,(y7.2.1,x.1.1.2.2.2.2.2.2.2.2))),y1.2.1.2.2)),()))))
    (none)))
   (none)):=by kernel_rfl
theorem aeY(F:FT)(J:JT Pe)(x:EF):bS 123 Pe Tryz.f123 F J x =
  (F 87 Aj ((x.1.1.1,()),())).bind fun(y1:Q0) =>
  cond y1.1.1
   (cond (x.1.1.2==0)
    (some ((true,()),()))
    (some (((x.1.1.2==1),()),())))
   (some ((false,()),())):=by kernel_rfl
theorem aeZ(F:FT)(J:JT GH)(x:((StateT×aae)×Unit)):bS 143 GH Tryz.f143 F J x =
 J AZ (aN Tryz.prog 143 0) (((0:Int),()),(((x.1.1,()),((x.1.2.1,()),((OD,()),()))),())):=by kernel_rfl
theorem PX(F:FT)(J:JT GH)(x:(aaa×((abd×(aae×aaZ))×Unit))):fH 143 0 GH Tryz.f143 AZ F J x =
  cond (decide (x.1.1≤(lI x.2.1.1.1.2)))
   ((F 124 tk ((x.2.1.1.1.1,(x.2.1.2.1.1,())),())).bind fun(y1:RZ) =>
   cond y1.1.2.1
    (some ((x.2.1.2.1.1,()),()))
    ((F 147 sB ((x.2.1.1.1.2,(x.2.1.2.1.1,())),())).bind fun(y2:KD) =>
    cond (not y2.1.2.1)
     (some ((OD,()),()))
     (J AZ (aN Tryz.prog 143 0) (((wI (x.1.1+1)),()),(((x.2.1.1.1,()),((y2.1.1,()),((x.2.1.2.2.1.1,()),()))),())))))
   (some ((OD,()),())):=by kernel_rfl
theorem ae0(F:FT)(J:JT Cu)(x:((aj×(ID×aaX))×Unit)):bS 145 Cu Tryz.f145 F J x =
 (F 21 Cr ((x.1.1,()),())).bind fun(y1:Q26) =>
 J wh (aN Tryz.prog 145 0) ((x.1.2.2.1,((0:Int),())),(((x.1.2.1,()),((([]:List ag),(([]:List ah),())),(y1.1.1,()))),())):=by kernel_rfl
theorem PY(F:FT)(J:JT Cu)(x:(abu×((aag×aab)×Unit))):fH 145 0 Cu Tryz.f145 wh F J x =
  cond (decide (x.1.2.1<(lI x.2.1.2.2.1.1)))
   (cond ((decide ((0:Int)≤x.1.2.1))&&(decide (x.1.2.1<(lI x.2.1.2.2.1.1))))
    (((x.2.1.2.2.1.1)[(Int.toNat x.1.2.1)]?).bind fun(y2:ag) =>
    cond ((y2.1.1==x.2.1.1.1.1)&&(y2.1.2==x.2.1.1.1.2))
     (cond ((decide ((0:Int)≤x.1.2.1))&&(decide (x.1.2.1<(lI x.2.1.2.2.1.1))))
      (((x.2.1.2.2.1.1)[(Int.toNat x.1.2.1)]?).bind fun(y3:ag) =>
      J wh (aN Tryz.prog 145 0) ((x.1.1,((wI (x.1.2.1+1)),())),(((x.2.1.1.1,()),(x.2.1.2.1,(((List.set x.2.1.2.2.1.1 (Int.toNat x.1.2.1) (y3.1,(x.1.1,y3.2.2))),x.2.1.2.2.1.2),()))),())))
      (none))
     (J wh (aN Tryz.prog 145 0) ((x.1.1,((wI (x.1.2.1+1)),())),(((x.2.1.1.1,()),(x.2.1.2.1,(x.2.1.2.2.1,()))),()))))
    (none))
   (some (((x.2.1.2.2.1.1,x.2.1.2.2.1.2.1),()),())):=by kernel_rfl
theorem YQ(F:FT)(J:JT xq)(x:Q34):bS 146 xq Tryz.f146 F J x =
  (F 144 qt ((x.1.1,(x.1.2.2.1,())),())).bind fun(y1:Q2) =>
  cond (decide (y1.1.1≥0))
   ((F 122 pK ((x.1.1,()),())).bind fun(y2:Q6) =>
   some (y2.1,()))
   ((F 144 qt ((x.1.1,(x.1.2.1,())),())).bind fun(y3:Q2) =>
   J rp (aN Tryz.prog 146 0) ((x.1.1,((max (0:Int) y3.1.1:Int),((0:Int),()))),(((x.1.2.2.1,()),()),(([]:List ab),())))):=by kernel_rfl
theorem KE(F:FT)(J:JT xq)(x:(abv×(aaZ×aaX))):fH 146 0 xq Tryz.f146 rp F J x =
  cond (decide (x.1.2.2.1<(lI x.1.1)))
   (((aX x.1.1 x.1.2.2.1)).bind fun(y4:ab) =>
   cond (aL (List.length x.2.2.1) (List.length (y4::([]:List ab))))
    (cond (x.1.2.2.1==x.1.2.1)
     (cond (aL (List.length (x.2.2.1++(y4::([]:List ab)))) (List.length (x.2.1.1.1::([]:List ab))))
      (J rp (aN Tryz.prog 146 0) ((x.1.1,(x.1.2.1,((wI (x.1.2.2.1+1)),()))),(((x.2.1.1.1,()),()),(((x.2.2.1++(y4::([]:List ab)))++(x.2.1.1.1::([]:List ab))),()))))
      (none))
     (J rp (aN Tryz.prog 146 0) ((x.1.1,(x.1.2.1,((wI (x.1.2.2.1+1)),()))),(((x.2.1.1.1,()),()),((x.2.2.1++(y4::([]:List ab))),())))))
    (none))
   (cond ((lI x.1.1)==0)
    (cond (aL (List.length x.2.2.1) (List.length (x.2.1.1.1::([]:List ab))))
     ((F 122 pK (((x.2.2.1++(x.2.1.1.1::([]:List ab))),()),())).bind fun(y5:Q6) =>
     some (y5.1,()))
     (none))
    ((F 122 pK (x.2.2,())).bind fun(y6:Q6) =>
    some (y6.1,()))):=by kernel_rfl
theorem YR(F:FT)(J:JT sB)(x:(((List aw)×aae)×Unit)):bS 147 sB Tryz.f147 F J x =
 J uI (aN Tryz.prog 147 0) ((x.1.1,((0:Int),())),(((x.1.2.1,()),((OD,()),())),())):=by kernel_rfl
theorem KF(F:FT)(J:JT sB)(x:(((List aw)×aaa)×((aae×aaZ)×Unit))):fH 147 0 sB Tryz.f147 uI F J x =
  cond (decide (x.1.2.1<(lI x.1.1)))
   (((aX x.1.1 x.1.2.1)).bind fun(y1:aw) =>
   cond (((y1.1.1.1==x.2.1.1.1.1.1)&&(y1.1.1.2==x.2.1.1.1.1.2))&&(y1.1.2==x.2.1.1.1.2))
    (((aX x.1.1 x.1.2.1)).bind fun(y2:aw) =>
    some ((y2.2,(true,())),()))
    (J uI (aN Tryz.prog 147 0) ((x.1.1,((wI (x.1.2.1+1)),())),(((x.2.1.1.1,()),((x.2.1.2.1.1,()),())),()))))
   (some ((OD,(false,())),())):=by kernel_rfl
theorem YS(F:FT)(J:JT xt)(x:SZ):bS 126 xt Tryz.f126 F J x =
 J rq (aN Tryz.prog 126 0) ((x.1.1,((0:Int),())),(((x.1.2.1,()),()),(([]:List ab),()))):=by kernel_rfl
theorem KG(F:FT)(J:JT xt)(x:(abu×(aaZ×aaX))):fH 126 0 xt Tryz.f126 rq F J x =
  cond (decide (x.1.2.1<(lI x.1.1)))
   (((aX x.1.1 x.1.2.1)).bind fun(y1:ab) =>
   cond (not (((y1.1.1==x.2.1.1.1.1.1)&&(y1.1.2==x.2.1.1.1.1.2))&&(y1.2==x.2.1.1.1.2)))
    (((aX x.1.1 x.1.2.1)).bind fun(y2:ab) =>
    cond (aL (List.length x.2.2.1) (List.length (y2::([]:List ab))))
     (J rq (aN Tryz.prog 126 0) ((x.1.1,((wI (x.1.2.1+1)),())),(((x.2.1.1.1,()),()),((x.2.2.1++(y2::([]:List ab))),()))))
     (none))
    (J rq (aN Tryz.prog 126 0) ((x.1.1,((wI (x.1.2.1+1)),())),(((x.2.1.1.1,()),()),x.2.2))))
   ((F 122 pK (x.2.2,())).bind fun(y3:Q6) =>
   some (y3.1,())):=by kernel_rfl
theorem YT(F:FT)(J:JT GI)(x:Q34):bS 149 GI Tryz.f149 F J x =
  cond (aL (List.length ([]:List ab)) (List.length x.1.1))
   ((F 144 qt ((x.1.1,(x.1.2.1,())),())).bind fun(y1:Q2) =>
   cond (decide (y1.1.1≥0))
    ((F 144 qt ((x.1.1,(x.1.2.2.1,())),())).bind fun(y2:Q2) =>
    cond (decide (y2.1.1<0))
     (cond ((decide ((0:Int)≤y1.1.1))&&(decide (y1.1.1<(lI (([]:List ab)++x.1.1)))))
      ((((([]:List ab)++x.1.1))[(Int.toNat y1.1.1)]?).bind fun(y3:ab) =>
      (F 122 pK (((List.set (([]:List ab)++x.1.1) (Int.toNat y1.1.1) x.1.2.2.1),()),())).bind fun(y4:Q6) =>
      some (y4.1,()))
      (none))
     ((F 122 pK (((([]:List ab)++x.1.1),()),())).bind fun(y5:Q6) =>
     some (y5.1,())))
    ((F 122 pK (((([]:List ab)++x.1.1),()),())).bind fun(y6:Q6) =>
    some (y6.1,())))
   (none):=by kernel_rfl
theorem YU(F:FT)(J:JT GJ)(x:SZ):bS 248 GJ Tryz.f248 F J x =
  (F 144 qt ((x.1.1,(x.1.2.1,())),())).bind fun(y1:Q2) =>
  cond (decide (y1.1.1<0))
   (some ((OD,(false,())),()))
   (cond ((lI x.1.1)==0)
    (none)
    (((aX x.1.1 (Int.tmod (wI (y1.1.1+1)) (lI x.1.1)))).bind fun(y2:ab) =>
    some ((y2,(true,())),()))):=by kernel_rfl
theorem YV(F:FT)(J:JT GK)(x:EF):bS 190 GK Tryz.f190 F J x =
  (F 159 qu ((x.1.1.1,()),())).bind fun(y1:Q0) =>
  cond y1.1.1
   (some ((((eP .andNot .i64 x.1.1.2 (1:Int))==0),()),()))
   (some ((false,()),())):=by kernel_rfl
theorem YW(F:FT)(J:JT po)(x:(aag×aa5)):bS 175 po Tryz.f175 F J x =
 (F 208206 iY ((x.2.1.1,(x.1.1,())),())).bind fun(y1:((Int×(Bool×Unit))×Unit)) =>
 some (y1.1,(x.2.1,())):=by kernel_rfl
theorem YX(F:FT)(J:JT xu)(x:(aag×aa5)):bS 178 xu Tryz.f178 F J x =
  (F 182 my ((x.1.1,()),(x.2.1,()))).bind fun(y1:Jm) =>
  cond y1.1.2.1
   (some (((12:Int),()),(y1.2.1,())))
   (cond (decide ((lI y1.2.1.2.1)≥40))
    (some (((3:Int),()),(y1.2.1,())))
    (cond (pX y1.2.1.2.1 y1.1.1 ((x.1.1,(OB,(0:Int)))::([]:List ah)))
     (some (((0:Int),()),((y1.2.1.1,((fN y1.2.1.2.1 y1.1.1 ((x.1.1,(OB,(0:Int)))::([]:List ah))),y1.2.1.2.2)),())))
     (none))):=by kernel_rfl
theorem UK(F:FT)(J:JT Ao)(x:abp):bS 179 Ao Tryz.f179 F J x =
 some (((x.1.1,(0:Int)),((x.1.1,(1:Int)),())),()):=by kernel_rfl
theorem YY(F:FT)(J:JT GL)(x:((StateT×(pn×Unit))×Unit)):bS 180 GL Tryz.f180 F J x =
  (F 74 GO ((x.1.1.1,(x.1.2.1.1,())),())).bind fun(y1:Q7) =>
  cond (not y1.1.2.1)
   (some ((OC,((13:Int),())),()))
   ((F 212 xw ((x.1.1,(x.1.2.1.2,())),())).bind fun(y2:EF) =>
   (F 166 uC ((y1.1.1.2.1,(y2.1.1,())),())).bind fun(y3:Q0) =>
   cond (not y3.1.1)
    (some (((x.1.2.1.1,OD),((0:Int),())),()))
    (some (((x.1.2.1.1,y2.1.1),((0:Int),())),()))):=by kernel_rfl
theorem YZ(F:FT)(J:JT Ap)(x:Q34):bS 181 Ap Tryz.f181 F J x =
  (F 166 uC ((x.1.1,(x.1.2.2.1,())),())).bind fun(y1:Q0) =>
  cond y1.1.1
   ((F 169 qw ((x.1.1,()),())).bind fun(y2:Q6) =>
   some (y2.1,()))
   ((F 168 lO ((x.1.1,(x.1.2.1,())),())).bind fun(y3:Q2) =>
   cond (aK (List.length x.1.1) (0:Int) (min (wI ((max y3.1.1 (0:Int):Int)+1)) (lI x.1.1):Int))
    (cond (aK (List.length x.1.1) (min (wI ((max y3.1.1 (0:Int):Int)+1)) (lI x.1.1):Int) (lI x.1.1))
     ((F 170 nG ((((cut x.1.1 (0:Int) (min (wI ((max y3.1.1 (0:Int):Int)+1)) (lI x.1.1):Int))::((x.1.2.2.1::([]:List ab))::((cut x.1.1 (min (wI ((max y3.1.1 (0:Int):Int)+1)) (lI x.1.1):Int) (lI x.1.1))::([]:List (List ab))))),()),())).bind fun(y4:Q6) =>
     some (y4.1,()))
     (none))
    (none)):=by kernel_rfl
theorem Y0(F:FT)(J:JT Aq)(x:Q5):bS 172 Aq Tryz.f172 F J x =
 (F 204 GQ ((x.1.1,()),())).bind fun(y1:Q2) =>
 some (((y1.1.1==0),()),()):=by kernel_rfl
theorem Y1(F:FT)(J:JT my)(x:(aag×aa5)):bS 182 my Tryz.f182 F J x =
 (F 215213 iZ ((x.2.1.2.1,(x.1.1,())),())).bind fun(y1:((Int×(Bool×Unit))×Unit)) =>
 some (y1.1,(x.2.1,())):=by kernel_rfl
theorem Y2(F:FT)(J:JT Ar)(x:((ab×aae)×aa5)):bS 183 Ar Tryz.f183 F J x =
 (F 215 GR ((x.2.1.2.2.1,((x.1.1,x.1.2.1),())),())).bind fun(y1:SX) =>
 some ((),((x.2.1.1,(x.2.1.2.1,y1.1)),())):=by kernel_rfl
theorem Y3(F:FT)(J:JT As)(x:(aae×aa5)):bS 184 As Tryz.f184 F J x =
 J yC (aN Tryz.prog 184 0) (((0:Int),()),((x.2.1,((x.1.1,()),((OD,()),((x.1.1,()),())))),())):=by kernel_rfl
theorem EI(F:FT)(J:JT As)(x:Q39):fH 184 0 As Tryz.f184 yC F J x =
  cond (decide (x.1.1<2))
   ((F 185 lN ((x.2.1.2.1.1,()),(x.2.1.1,()))).bind fun(y1:YL) =>
   pW y1.1.1
    (none) fun(p2:((Fin 1)×Nat)) =>
   cond (p2.1.val==0)
    (((y1.2.1.1)[p2.2]?).bind fun(y3:ag) =>
    (F 140 De ((y3.2.1,(x.2.1.2.2.2.1.1,())),())).bind fun(y4:KD) =>
    cond (not ((y4.1.1.1.1==x.2.1.2.1.1.1.1)&&(y4.1.1.1.2==x.2.1.2.1.1.1.2)))
     (some ((y4.1.1,()),(y1.2.1,())))
     (J yC (aN Tryz.prog 184 0) (((wI (x.1.1+1)),()),((y1.2.1,((x.2.1.2.1.1,()),((x.2.1.2.2.1.1,()),((y4.1.1,()),())))),()))))
    (none))
   (some ((OD,()),(x.2.1.1,()))):=by kernel_rfl
theorem Y4(F:FT)(J:JT lN)(x:(aae×aa5)):bS 185 lN Tryz.f185 F J x =
 J uJ (aN Tryz.prog 185 0) (((lI x.2.1.1),((0:Int),())),((x.2.1,((x.1.1,()),())),())):=by kernel_rfl
theorem KH(F:FT)(J:JT lN)(x:(aaf×((aQ×aaZ)×Unit))):fH 185 0 lN Tryz.f185 uJ F J x =
  cond (decide (x.1.2.1<x.1.1))
   (cond ((decide ((0:Int)≤x.1.2.1))&&(decide (x.1.2.1<(lI x.2.1.1.1))))
    (((x.2.1.1.1)[(Int.toNat x.1.2.1)]?).bind fun(y1:ag) =>
    (F 166 uC ((y1.2.1,(x.2.1.2.1.1,())),())).bind fun(y2:Q0) =>
    cond y2.1.1
     (some (((some ((⟨0,by decide⟩:(Fin 1)),(Int.toNat x.1.2.1))),()),(x.2.1.1,())))
     (J uJ (aN Tryz.prog 185 0) ((x.1.1,((wI (x.1.2.1+1)),())),((x.2.1.1,((x.2.1.2.1.1,()),())),()))))
    (none))
   (some ((none,()),(x.2.1.1,()))):=by kernel_rfl
theorem Y5(F:FT)(J:JT GM)(x:SZ):bS 141 GM Tryz.f141 F J x =
  (F 168 lO ((x.1.1,(x.1.2.1,())),())).bind fun(y1:Q2) =>
  cond (decide (y1.1.1<0))
   ((F 169 qw ((x.1.1,()),())).bind fun(y2:Q6) =>
   some (y2.1,()))
   (cond (aK (List.length x.1.1) (0:Int) y1.1.1)
    (cond (aK (List.length x.1.1) (wI (y1.1.1+1)) (lI x.1.1))
     ((F 170 nG ((((cut x.1.1 (0:Int) y1.1.1)::((cut x.1.1 (wI (y1.1.1+1)) (lI x.1.1))::([]:List (List ab)))),()),())).bind fun(y3:Q6) =>
     some (y3.1,()))
     (none))
    (none)):=by kernel_rfl
theorem Y6(F:FT)(J:JT sD)(x:Q34):bS 187 sD Tryz.f187 F J x =
  (F 168 lO ((x.1.1,(x.1.2.1,())),())).bind fun(y1:Q2) =>
  cond (decide (y1.1.1<0))
   ((F 169 qw ((x.1.1,()),())).bind fun(y2:Q6) =>
   some (y2.1,()))
   ((F 166 uC ((x.1.1,(x.1.2.2.1,())),())).bind fun(y3:Q0) =>
   cond y3.1.1
    ((F 169 qw ((x.1.1,()),())).bind fun(y4:Q6) =>
    some (y4.1,()))
    (cond (aK (List.length x.1.1) (0:Int) y1.1.1)
     (cond (aK (List.length x.1.1) (wI (y1.1.1+1)) (lI x.1.1))
      ((F 170 nG ((((cut x.1.1 (0:Int) y1.1.1)::((x.1.2.2.1::([]:List ab))::((cut x.1.1 (wI (y1.1.1+1)) (lI x.1.1))::([]:List (List ab))))),()),())).bind fun(y5:Q6) =>
      some (y5.1,()))
      (none))
     (none))):=by kernel_rfl
theorem Y7(F:FT)(J:JT nF)(x:EF):bS 188 nF Tryz.f188 F J x =
 some (((x.1.1.1,(eP .xor .i64 x.1.1.2 (1:Int))),()),()):=by kernel_rfl
theorem Y8(F:FT)(J:JT qw)(x:Q6):bS 169 qw Tryz.f169 F J x =
  cond ((lI x.1.1)==0)
   (some ((([]:List ab),()),()))
   ((F 196194 ke (x.1,())).bind fun(y1:EF) =>
   (F 168 lO ((x.1.1,(y1.1.1,())),())).bind fun(y2:Q2) =>
   cond (aK (List.length x.1.1) y2.1.1 (lI x.1.1))
    (cond (aK (List.length x.1.1) (0:Int) y2.1.1)
     ((F 196 nH ((((cut x.1.1 y2.1.1 (lI x.1.1))::((cut x.1.1 (0:Int) y2.1.1)::([]:List (List ab)))),()),())).bind fun(y3:Q6) =>
     some (y3.1,()))
     (none))
    (none)):=by kernel_rfl
theorem Y9(F:FT)(J:JT GN)(x:UI):bS 189 GN Tryz.f189 F J x =
  cond x.1.1.2.2.2.2.2.2.1
   ((F 182 my ((x.1.1.2.1,()),(x.2.1,()))).bind fun(y1:Jm) =>
   cond y1.1.2.1
    (cond ((decide ((0:Int)≤y1.1.1))&&(decide (y1.1.1<(lI y1.2.1.2.1))))
     (cond ((decide ((0:Int)≤y1.1.1))&&(decide (y1.1.1<(lI y1.2.1.2.1))))
      (some (((some ((⟨1,by decide⟩:(Fin 2)),(Int.toNat y1.1.1))),((some ((⟨1,by decide⟩:(Fin 2)),(Int.toNat y1.1.1))),())),(y1.2.1,())))
      (none))
     (none))
    (some ((none,(none,())),(y1.2.1,()))))
   ((F 175 po ((x.1.1.2.1,()),(x.2.1,()))).bind fun(y2:Jm) =>
   cond y2.1.2.1
    (cond ((decide ((0:Int)≤y2.1.1))&&(decide (y2.1.1<(lI y2.2.1.1))))
     (cond ((decide ((0:Int)≤y2.1.1))&&(decide (y2.1.1<(lI y2.2.1.1))))
      (some (((some ((⟨0,by decide⟩:(Fin 2)),(Int.toNat y2.1.1))),((some ((⟨0,by decide⟩:(Fin 2)),(Int.toNat y2.1.1))),())),(y2.2.1,())))
      (none))
     (none))
    (some ((none,(none,())),(y2.2.1,())))):=by kernel_rfl
theorem Za(F:FT)(J:JT Dc)(x:((ag×aag)×Unit)):bS 207 Dc Tryz.f207 F J x =
 (F 208 Au ((x.1.1.1,(x.1.2.1,())),())).bind fun(y1:Q2) =>
 some (y1.1,()):=by kernel_rfl
theorem Zb(F:FT)(J:JT Au)(x:((ID×aag)×Unit)):bS 208 Au Tryz.f208 F J x =
  cond ((x.1.1.1==x.1.2.1.1)&&(x.1.1.2==x.1.2.1.2))
   (some (((0:Int),()),()))
   ((F 219 Av ((x.1.1.1,(x.1.2.1.1,())),())).bind fun(y1:Q2) =>
   (F 219 Av ((x.1.1.2,(x.1.2.1.2,())),())).bind fun(y2:Q2) =>
   (F 218 uD (((y1.1.1::(y2.1.1::([]:List Int))),()),())).bind fun(y3:Q2) =>
   some (y3.1,())):=by kernel_rfl
theorem Zd(F:FT)(J:JT GO)(x:Q30):bS 74 GO Tryz.f74 F J x =
 (F 110108 kf ((x.1.1.1,(x.1.2.1,())),())).bind fun(y1:Q7) =>
 (F 110 xZ ((y1.1.1.2.1,()),())).bind fun(y2:Q6) =>
 some (((y1.1.1.1,(y2.1.1,y1.1.1.2.2)),y1.1.2),()):=by kernel_rfl
theorem Ze(F:FT)(J:JT xw)(x:((StateT×aae)×Unit)):bS 212 xw Tryz.f212 F J x =
 J uK (aN Tryz.prog 212 0) (((wI ((lI x.1.1.2)+1)),((0:Int),())),(((x.1.1,()),((x.1.2.1,()),((OD,()),()))),())):=by kernel_rfl
theorem KI(F:FT)(J:JT xw)(x:(aaf×((abd×(aae×aaZ))×Unit))):fH 212 0 xw Tryz.f212 uK F J x =
  cond (decide (x.1.2.1<x.1.1))
   ((F 139 uE ((x.2.1.1.1.1,(x.2.1.2.1.1,())),())).bind fun(y1:RZ) =>
   cond y1.1.2.1
    (some ((x.2.1.2.1.1,()),()))
    ((F 230 GU ((x.2.1.1.1.2,(x.2.1.2.1.1,())),())).bind fun(y2:KD) =>
    cond (not y2.1.2.1)
     (some ((OD,()),()))
     (J uK (aN Tryz.prog 212 0) ((x.1.1,((wI (x.1.2.1+1)),())),(((x.2.1.1.1,()),((y2.1.1,()),((x.2.1.2.2.1.1,()),()))),())))))
   (some ((OD,()),())):=by kernel_rfl
theorem Zg(F:FT)(J:JT uC)(x:SZ):bS 166 uC Tryz.f166 F J x =
 (F 168 lO ((x.1.1,(x.1.2.1,())),())).bind fun(y1:Q2) =>
 some (((decide (y1.1.1≥0)),()),()):=by kernel_rfl
theorem Zh(F:FT)(J:JT lO)(x:SZ):bS 168 lO Tryz.f168 F J x =
 J uL (aN Tryz.prog 168 0) ((x.1.1,((lI x.1.1),((0:Int),()))),(((x.1.2.1,()),()),())):=by kernel_rfl
theorem KJ(F:FT)(J:JT lO)(x:(abv×(aaZ×Unit))):fH 168 0 lO Tryz.f168 uL F J x =
  cond (decide (x.1.2.2.1<x.1.2.1))
   (((aX x.1.1 x.1.2.2.1)).bind fun(y1:ab) =>
   cond (((x.2.1.1.1.1.1==y1.1.1)&&(x.2.1.1.1.1.2==y1.1.2))&&(x.2.1.1.1.2==y1.2))
    (some (x.1.2.2,()))
    (J uL (aN Tryz.prog 168 0) ((x.1.1,(x.1.2.1,((wI (x.1.2.2.1+1)),()))),(((x.2.1.1.1,()),()),()))))
   (some (((-1:Int),()),())):=by kernel_rfl
theorem Zi(F:FT)(J:JT nG)(x:Q25):bS 170 nG Tryz.f170 F J x =
 (F 196 nH (x.1,())).bind fun(y1:Q6) =>
 (F 169 qw (y1.1,())).bind fun(y2:Q6) =>
 some (y2.1,()):=by kernel_rfl
theorem Zj(F:FT)(J:JT GQ)(x:Q5):bS 204 GQ Tryz.f204 F J x =
  (F 226 GW ((x.1.1,()),())).bind fun(y1:((Int×(Int×(Int×(Int×Unit))))×Unit)) =>
  cond ((2:Int)==0)
   (none)
   (some (((wI (y1.1.2.2.2.1-(wI (Int.tdiv (wI ((wI (y1.1.1-y1.1.2.1))+y1.1.2.2.1)) (2:Int))))),()),())):=by kernel_rfl
theorem Zk(F:FT)(J:JT Dd)(x:((ah×aag)×Unit)):bS 214 Dd Tryz.f214 F J x =
 (F 208 Au ((x.1.1.1,(x.1.2.1,())),())).bind fun(y1:Q2) =>
 some (y1.1,()):=by kernel_rfl
theorem Zl(F:FT)(J:JT GR)(x:(((List aw)×(aw×Unit))×Unit)):bS 215 GR Tryz.f215 F J x =
  (F 233231 jc ((x.1.1,(x.1.2.1.1,())),())).bind fun(y1:((Int×(Bool×Unit))×Unit)) =>
  (F 97 GA ((x.1.1,()),())).bind fun(y2:SX) =>
  cond y1.1.2.1
   (cond ((decide ((0:Int)≤y1.1.1))&&(decide (y1.1.1<(lI y2.1.1))))
    (((y2.1.1)[(Int.toNat y1.1.1)]?).bind fun(y3:aw) =>
    some (((List.set y2.1.1 (Int.toNat y1.1.1) x.1.2.1),()),()))
    (none))
   (cond (decide ((lI x.1.1)<400))
    (cond (pX y2.1.1 y1.1.1 (x.1.2.1::([]:List aw)))
     (some (((fN y2.1.1 y1.1.1 (x.1.2.1::([]:List aw))),()),()))
     (none))
    (some (y2.1,()))):=by kernel_rfl
theorem Zm(F:FT)(J:JT De)(x:SZ):bS 140 De Tryz.f140 F J x =
 (F 167 Aw ((x.1.1,(x.1.2.1,((wI ((lI x.1.1)-1)),()))),())).bind fun(y1:KD) =>
 some (y1.1,()):=by kernel_rfl
theorem Zn(F:FT)(J:JT Df)(x:Q33):bS 195 Df Tryz.f195 F J x =
 (F 208 Au ((x.1.1.1,(x.1.2.1.1,())),())).bind fun(y1:Q2) =>
 (F 219 Av ((x.1.1.2,(x.1.2.1.2,())),())).bind fun(y2:Q2) =>
 (F 218 uD (((y1.1.1::(y2.1.1::([]:List Int))),()),())).bind fun(y3:Q2) =>
 some (y3.1,()):=by kernel_rfl
theorem Zo(F:FT)(J:JT nH)(x:Q25):bS 196 nH Tryz.f196 F J x =
 J uM (aN Tryz.prog 196 0) ((x.1.1,((0:Int),(x.1.1,((lI x.1.1),((0:Int),()))))),((),())):=by kernel_rfl
theorem KK(F:FT)(J:JT nH)(x:(((List (List ab))×(Int×((List (List ab))×aaf)))×aa4)):fH 196 0 nH Tryz.f196 uM F J x =
  cond (decide (x.1.2.2.2.2.1<x.1.2.2.2.1))
   (((aX x.1.2.2.1 x.1.2.2.2.2.1)).bind fun(y1:(List ab)) =>
   cond (decide ((wI (x.1.2.1+(lI y1)))<0))
    (none)
    (J uM (aN Tryz.prog 196 0) ((x.1.1,((wI (x.1.2.1+(lI y1))),(x.1.2.2.1,(x.1.2.2.2.1,((wI (x.1.2.2.2.2.1+1)),()))))),((),()))))
   (cond (y0 x.1.2.1)
    (J uN (aN Tryz.prog 196 1) ((x.1.1,((lI x.1.1),((0:Int),()))),((),(([]:List ab),()))))
    (none)):=by kernel_rfl
theorem KM(F:FT)(J:JT nH)(x:(((List (List ab))×aaf)×(Unit×aaX))):fH 196 1 nH Tryz.f196 uN F J x =
  cond (decide (x.1.2.2.1<x.1.2.1))
   (((aX x.1.1 x.1.2.2.1)).bind fun(y2:(List ab)) =>
   cond (aL (List.length x.2.2.1) (List.length y2))
    (J uN (aN Tryz.prog 196 1) ((x.1.1,(x.1.2.1,((wI (x.1.2.2.1+1)),()))),((),((x.2.2.1++y2),()))))
    (none))
   (some (x.2.2,())):=by kernel_rfl
theorem Zp(F:FT)(J:JT uD)(x:(aa0×Unit)):bS 218 uD Tryz.f218 F J x =
 J yD (aN Tryz.prog 218 0) (((0:Int),(x.1.1,((lI x.1.1),((0:Int),())))),((),())):=by kernel_rfl
theorem yE(F:FT)(J:JT uD)(x:((Int×((List Int)×aaf))×aa4)):fH 218 0 uD Tryz.f218 yD F J x =
  cond (decide (x.1.2.2.2.1<x.1.2.2.1))
   (((aX x.1.2.1 x.1.2.2.2.1)).bind fun(y1:Int) =>
   cond (y1 != x.1.1)
    (some ((y1,()),()))
    (J yD (aN Tryz.prog 218 0) ((x.1.1,(x.1.2.1,(x.1.2.2.1,((wI (x.1.2.2.2.1+1)),())))),((),()))))
   (some ((x.1.1,()),())):=by kernel_rfl
theorem Zq(F:FT)(J:JT Av)(x:(aaf×Unit)):bS 219 Av Tryz.f219 F J x =
  (F 235 Ax ((x.1.1,()),())).bind fun(y1:Q0) =>
  (F 235 Ax (x.1.2,())).bind fun(y2:Q0) =>
  cond y1.1.1
   (cond y2.1.1
    (some (((0:Int),()),()))
    (some (((-1:Int),()),())))
   (cond y2.1.1
    (some (((1:Int),()),()))
    (cond (decide (x.1.1<x.1.2.1))
     (some (((-1:Int),()),()))
     (cond (decide (x.1.1>x.1.2.1))
      (some (((1:Int),()),()))
      (some (((0:Int),()),()))))):=by kernel_rfl
theorem Zr(F:FT)(J:JT GS)(x:((ag×Unit)×Unit)):bS 109 GS Tryz.f109 F J x =
 some ((x.1.1.1,()),()):=by kernel_rfl
theorem Zs(F:FT)(J:JT uE)(x:SY):bS 139 uE Tryz.f139 F J x =
 J uO (aN Tryz.prog 139 0) ((x.1.1.1,((lI x.1.1.1),((0:Int),()))),(((x.1.2.1,()),((OI,()),())),())):=by kernel_rfl
theorem KN(F:FT)(J:JT uE)(x:(abw×((aae×abp)×Unit))):fH 139 0 uE Tryz.f139 uO F J x =
  cond (decide (x.1.2.2.1<x.1.2.1))
   (((aX x.1.1 x.1.2.2.1)).bind fun(y1:ag) =>
   (F 166 uC ((y1.2.1,(x.2.1.1.1,())),())).bind fun(y2:Q0) =>
   cond y2.1.1
    (some ((y1.1,(true,())),()))
    (J uO (aN Tryz.prog 139 0) ((x.1.1,(x.1.2.1,((wI (x.1.2.2.1+1)),()))),(((x.2.1.1.1,()),((x.2.1.2.1.1,()),())),()))))
   (some ((OI,(false,())),())):=by kernel_rfl
theorem Zt(F:FT)(J:JT GU)(x:(((List aw)×aae)×Unit)):bS 230 GU Tryz.f230 F J x =
  (F 246244 je ((x.1.1,()),((x.1.2.1,()),()))).bind fun(y1:((Int×Unit)×((ab×Unit)×Unit))) =>
  cond (decide (y1.1.1<0))
   (some ((OD,(false,())),()))
   (((aX x.1.1 y1.1.1)).bind fun(y2:aw) =>
   some ((y2.2,(true,())),())):=by kernel_rfl
theorem Zu(F:FT)(J:JT GW)(x:Q5):bS 226 GW Tryz.f226 F J x =
 (F 240238 kg ((x.1.1.1,()),())).bind fun(y1:Q2) =>
 (F 240 xx ((x.1.1,()),())).bind fun(y2:Q25) =>
 (F 241 xy ((x.1.1,()),())).bind fun(y3:Q2) =>
 some (((lI x.1.1.1),((lI x.1.1.2),((wI ((lI y2.1.1)+y1.1.1)),y3.1))),()):=by kernel_rfl
theorem Zv(F:FT)(J:JT Dg)(x:((aw×aae)×Unit)):bS 232 Dg Tryz.f232 F J x =
 (F 195 Df ((x.1.1.1,(x.1.2.1,())),())).bind fun(y1:Q2) =>
 some (y1.1,()):=by kernel_rfl
end Go.Vs
set_option maxRecDepth 1000000
set_option maxHeartbeats 0
namespace Go.Vs
open Go.Proofs
theorem UL(F:FT)(J:JT Aw)(x:(((List ab)×(ab×aaa))×Unit)):bS 167 Aw Tryz.f167 F J x =
  (F 168 lO ((x.1.1,(x.1.2.1,())),())).bind fun(y1:Q2) =>
  cond (decide (y1.1.1<0))
   (some ((OD,(false,())),()))
   (cond ((lI x.1.1)==0)
    (none)
    (((aX x.1.1 (Int.tmod (wI (y1.1.1+x.1.2.2.1)) (lI x.1.1)))).bind fun(y2:ab) =>
    some ((y2,(true,())),()))):=by kernel_rfl
theorem Zw(F:FT)(J:JT Ax)(x:Q2):bS 235 Ax Tryz.f235 F J x =
 some (((x.1.1 != x.1.1),()),()):=by kernel_rfl
theorem Zx(F:FT)(J:JT GX)(x:((aw×Unit)×((Int×aaf)×Unit))):bS 245 GX Tryz.f245 F J x =
 some (((((x.1.1.1.1.1==x.2.1.1)&&(x.1.1.1.1.2==x.2.1.2.1))&&(x.1.1.1.2==x.2.1.2.2.1)),()),(x.2.1,())):=by kernel_rfl
theorem Zy(F:FT)(J:JT GY)(x:((ag×Unit)×Unit)):bS 239 GY Tryz.f239 F J x =
 some ((((lI x.1.1.2.1)==0),()),()):=by kernel_rfl
theorem Zz(F:FT)(J:JT uF)(x:Q5):bS 249 uF Tryz.f249 F J x =
 J uP (aN Tryz.prog 249 0) ((x.1.1.2,((lI x.1.1.2),((0:Int),()))),((),(([]:List ab),()))):=by kernel_rfl
theorem KO(F:FT)(J:JT uF)(x:(((List ah)×aaf)×(Unit×aaX))):fH 249 0 uF Tryz.f249 uP F J x =
  cond (decide (x.1.2.2.1<x.1.2.1))
   (((aX x.1.1 x.1.2.2.1)).bind fun(y1:ah) =>
   (F 188 nF (((y1.1,(0:Int)),()),())).bind fun(y2:EF) =>
   cond (aL (List.length x.2.2.1) (List.length ((y1.1,(0:Int))::(y2.1.1::([]:List ab)))))
    (J uP (aN Tryz.prog 249 0) ((x.1.1,(x.1.2.1,((wI (x.1.2.2.1+1)),()))),((),((x.2.2.1++((y1.1,(0:Int))::(y2.1.1::([]:List ab)))),()))))
    (none))
   (some (x.2.2,())):=by kernel_rfl
theorem ZA(F:FT)(J:JT Dh)(x:SY):bS 255 Dh Tryz.f255 F J x =
  (F 139 uE ((x.1.1,(x.1.2.1,())),())).bind fun(y1:RZ) =>
  cond (not y1.1.2.1)
   (some ((OD,(false,())),()))
   ((F 188 nF ((x.1.2.1,()),())).bind fun(y2:EF) =>
   (F 258 xz ((x.1.1,(y2.1.1,())),())).bind fun(y3:KD) =>
   some (y3.1,())):=by kernel_rfl
theorem ZB(F:FT)(J:JT gQ)(x:Q5):bS 256 gQ Tryz.f256 F J x =
 J rr (aN Tryz.prog 256 0) ((x.1.1.1,((lI x.1.1.1),((0:Int),()))),((),(([]:List Int),(([]:List (ab×Int)),())))):=by kernel_rfl
theorem KP(F:FT)(J:JT gQ)(x:(abw×(Unit×((List Int)×((List (ab×Int))×Unit))))):fH 256 0 gQ Tryz.f256 rr F J x =
  cond (decide (x.1.2.2.1<x.1.2.1))
   (((aX x.1.1 x.1.2.2.1)).bind fun(y1:ag) =>
   cond (aL (List.length x.2.2.1) (List.length (x.1.2.2.1::([]:List Int))))
    (J uQ (aN Tryz.prog 256 1) ((x.1.2.2.1,(x.1.1,(x.1.2.1,(x.1.2.2.1,(y1.2.1,((lI y1.2.1),((0:Int),()))))))),((),((x.2.2.1++(x.1.2.2.1::([]:List Int))),x.2.2.2))))
    (none))
   (J oQ (aN Tryz.prog 256 2) (x.2.2.2,((),(x.2.2.1,((none,x.2.2.2.1),()))))):=by kernel_rfl
theorem KQ(F:FT)(J:JT gQ)(x:((Int×((List ag)×(Int×(Int×abv))))×(Unit×((List Int)×((List (ab×Int))×Unit))))):fH 256 1 gQ Tryz.f256 uQ F J x =
  cond (decide (x.1.2.2.2.2.2.2.1<x.1.2.2.2.2.2.1))
   (((aX x.1.2.2.2.2.1 x.1.2.2.2.2.2.2.1)).bind fun(y2:ab) =>
   J uQ (aN Tryz.prog 256 1) ((x.1.1,(x.1.2.1,(x.1.2.2.1,(x.1.2.2.2.1,(x.1.2.2.2.2.1,(x.1.2.2.2.2.2.1,((wI (x.1.2.2.2.2.2.2.1+1)),()))))))),((),(x.2.2.1,((mb (.pair (.pair (.int .i64) (.int .i64)) (.int .i64)) y2 x.1.1 x.2.2.2.1),())))))
   (J rr (aN Tryz.prog 256 0) ((x.1.2.1,(x.1.2.2.1,((wI (x.1.2.2.2.1+1)),()))),((),x.2.2))):=by kernel_rfl
theorem KR(F:FT)(J:JT gQ)(x:(((List (ab×Int))×Unit)×(Unit×((List Int)×(((Option (ab×Int))×(List (ab×Int)))×Unit))))):fH 256 2 gQ Tryz.f256 oQ F J x =
  cond (List.isEmpty x.2.2.2.1.2)
   (J uR (aN Tryz.prog 256 3) (((lI x.2.2.1),((0:Int),())),((),(x.2.2.1,(([]:List Int),())))))
   (p6 (List.length x.2.2.2.1.2) fun(j3:Nat) =>
   ((x.2.2.2.1.2)[j3]?).bind fun(y4:(ab×Int)) =>
   (F 188 nF ((y4.1,()),())).bind fun(y5:EF) =>
   cond (Option.isSome (iL (.pair (.pair (.int .i64) (.int .i64)) (.int .i64)) y5.1.1 x.1.1))
    ((F 259 GZ ((y4.2,((Option.getD (iL (.pair (.pair (.int .i64) (.int .i64)) (.int .i64)) y5.1.1 x.1.1) (0:Int)),())),(x.2.2.1,()))).bind fun(y6:(Unit×((List Int)×Unit))) =>
    J oQ (aN Tryz.prog 256 2) (x.1,((),(y6.2.1,(((some y4),(List.eraseIdx x.2.2.2.1.2 j3)),())))))
    (J oQ (aN Tryz.prog 256 2) (x.1,((),(x.2.2.1,(((some y4),(List.eraseIdx x.2.2.2.1.2 j3)),())))))):=by kernel_rfl
theorem KS(F:FT)(J:JT gQ)(x:(aaf×(Unit×((List Int)×aa0)))):fH 256 3 gQ Tryz.f256 uR F J x =
  cond (decide (x.1.2.1<x.1.1))
   ((F 260 qx (x.1.2,(x.2.2.1,()))).bind fun(y7:Q35) =>
   cond (aL (List.length x.2.2.2.1) (List.length (y7.1.1::([]:List Int))))
    (J uR (aN Tryz.prog 256 3) ((x.1.1,((wI (x.1.2.1+1)),())),((),(y7.2.1,((x.2.2.2.1++(y7.1.1::([]:List Int))),())))))
    (none))
   (some (x.2.2.2,())):=by kernel_rfl
theorem ZC(F:FT)(J:JT xz)(x:SY):bS 258 xz Tryz.f258 F J x =
 J uS (aN Tryz.prog 258 0) ((x.1.1.1,((lI x.1.1.1),((0:Int),()))),(((x.1.2.1,()),((OD,()),())),())):=by kernel_rfl
theorem KT(F:FT)(J:JT xz)(x:(abw×((aae×aaZ)×Unit))):fH 258 0 xz Tryz.f258 uS F J x =
  cond (decide (x.1.2.2.1<x.1.2.1))
   (((aX x.1.1 x.1.2.2.1)).bind fun(y1:ag) =>
   (F 261 G1 ((y1.2.1,(x.2.1.1.1,())),())).bind fun(y2:KD) =>
   cond y2.1.2.1
    (some ((y2.1.1,(true,())),()))
    (J uS (aN Tryz.prog 258 0) ((x.1.1,(x.1.2.1,((wI (x.1.2.2.1+1)),()))),(((x.2.1.1.1,()),((x.2.1.2.1.1,()),())),()))))
   (some ((OD,(false,())),())):=by kernel_rfl
theorem ZD(F:FT)(J:JT GZ)(x:(aaf×aa0)):bS 259 GZ Tryz.f259 F J x =
  (F 260 qx ((x.1.1,()),x.2)).bind fun(y1:Q35) =>
  (F 260 qx (x.1.2,y1.2)).bind fun(y2:Q35) =>
  cond ((decide ((0:Int)≤(max y1.1.1 y2.1.1:Int)))&&(decide ((max y1.1.1 y2.1.1:Int)<(lI y2.2.1))))
   (((y2.2.1)[(Int.toNat (max y1.1.1 y2.1.1:Int))]?).bind fun(y3:Int) =>
   some ((),((List.set y2.2.1 (Int.toNat (max y1.1.1 y2.1.1:Int)) (min y1.1.1 y2.1.1:Int)),())))
   (none):=by kernel_rfl
theorem ZE(F:FT)(J:JT qx)(x:Q35):bS 260 qx Tryz.f260 F J x =
 J ru (aN Tryz.prog 260 0) (x.1,((),x.2)):=by kernel_rfl
theorem KU(F:FT)(J:JT qx)(x:(aaa×(Unit×aa0))):fH 260 0 qx Tryz.f260 ru F J x =
  cond ((decide ((0:Int)≤x.1.1))&&(decide (x.1.1<(lI x.2.2.1))))
   (((x.2.2.1)[(Int.toNat x.1.1)]?).bind fun(y1:Int) =>
   cond (y1 != x.1.1)
    (cond ((decide ((0:Int)≤x.1.1))&&(decide (x.1.1<(lI x.2.2.1))))
     (((x.2.2.1)[(Int.toNat x.1.1)]?).bind fun(y2:Int) =>
     cond ((decide ((0:Int)≤y2))&&(decide (y2<(lI x.2.2.1))))
      (((x.2.2.1)[(Int.toNat y2)]?).bind fun(y3:Int) =>
      cond ((decide ((0:Int)≤x.1.1))&&(decide (x.1.1<(lI x.2.2.1))))
       (((x.2.2.1)[(Int.toNat x.1.1)]?).bind fun(y4:Int) =>
       cond ((decide ((0:Int)≤x.1.1))&&(decide (x.1.1<(lI (List.set x.2.2.1 (Int.toNat x.1.1) y3)))))
        ((((List.set x.2.2.1 (Int.toNat x.1.1) y3))[(Int.toNat x.1.1)]?).bind fun(y5:Int) =>
        J ru (aN Tryz.prog 260 0) ((y5,()),((),((List.set x.2.2.1 (Int.toNat x.1.1) y3),()))))
        (none))
       (none))
      (none))
     (none))
    (some (x.1,x.2.2)))
   (none):=by kernel_rfl
theorem ZF(F:FT)(J:JT G1)(x:SZ):bS 261 G1 Tryz.f261 F J x =
 (F 167 Aw ((x.1.1,(x.1.2.1,((1:Int),()))),())).bind fun(y1:KD) =>
 some (y1.1,()):=by kernel_rfl
theorem PZ(F:FT)(J:JT iY)(x:(((List ag)×aag)×Unit)):bS 208206 iY Tryz.f206 F J x =
 J ia (aN Tryz.prog 206 0) ((x.1.1,((lI x.1.1),((0:Int),((lI x.1.1),())))),(((x.1.2.1,()),()),())):=by kernel_rfl
theorem A1(F:FT)(J:JT iY)(x:(((List ag)×(Int×aaf))×(abp×Unit))):fH 208206 0 iY Tryz.f206 ia F J x =
  cond (decide (x.1.2.2.1<x.1.2.2.2.1))
   (cond (decide ((1:Int)<0))
    (none)
    (((aX x.1.1 (wI (kO .u64 (IntKind.wrap .u64 (wI (x.1.2.2.1+x.1.2.2.2.1))) (1:Int))))).bind fun(y1:ag) =>
    (F 207 Dc ((y1,(x.2.1.1.1,())),())).bind fun(y2:Q2) =>
    cond (decide (y2.1.1<0))
     (J ia (aN Tryz.prog 206 0) ((x.1.1,(x.1.2.1,((wI ((wI (kO .u64 (IntKind.wrap .u64 (wI (x.1.2.2.1+x.1.2.2.2.1))) (1:Int)))+1)),x.1.2.2.2))),(((x.2.1.1.1,()),()),())))
     (J ia (aN Tryz.prog 206 0) ((x.1.1,(x.1.2.1,(x.1.2.2.1,((wI (kO .u64 (IntKind.wrap .u64 (wI (x.1.2.2.1+x.1.2.2.2.1))) (1:Int))),())))),(((x.2.1.1.1,()),()),())))))
   (cond (decide (x.1.2.2.1<x.1.2.1))
    (((aX x.1.1 x.1.2.2.1)).bind fun(y3:ag) =>
    (F 207 Dc ((y3,(x.2.1.1.1,())),())).bind fun(y4:Q2) =>
    some ((x.1.2.2.1,((y4.1.1==0),())),()))
    (some ((x.1.2.2.1,(false,())),()))):=by kernel_rfl
theorem P0(F:FT)(J:JT iZ)(x:(((List ah)×aag)×Unit)):bS 215213 iZ Tryz.f213 F J x =
 J ib (aN Tryz.prog 213 0) ((x.1.1,((lI x.1.1),((0:Int),((lI x.1.1),())))),(((x.1.2.1,()),()),())):=by kernel_rfl
theorem A2(F:FT)(J:JT iZ)(x:(((List ah)×(Int×aaf))×(abp×Unit))):fH 215213 0 iZ Tryz.f213 ib F J x =
  cond (decide (x.1.2.2.1<x.1.2.2.2.1))
   (cond (decide ((1:Int)<0))
    (none)
    (((aX x.1.1 (wI (kO .u64 (IntKind.wrap .u64 (wI (x.1.2.2.1+x.1.2.2.2.1))) (1:Int))))).bind fun(y1:ah) =>
    (F 214 Dd ((y1,(x.2.1.1.1,())),())).bind fun(y2:Q2) =>
    cond (decide (y2.1.1<0))
     (J ib (aN Tryz.prog 213 0) ((x.1.1,(x.1.2.1,((wI ((wI (kO .u64 (IntKind.wrap .u64 (wI (x.1.2.2.1+x.1.2.2.2.1))) (1:Int)))+1)),x.1.2.2.2))),(((x.2.1.1.1,()),()),())))
     (J ib (aN Tryz.prog 213 0) ((x.1.1,(x.1.2.1,(x.1.2.2.1,((wI (kO .u64 (IntKind.wrap .u64 (wI (x.1.2.2.1+x.1.2.2.2.1))) (1:Int))),())))),(((x.2.1.1.1,()),()),())))))
   (cond (decide (x.1.2.2.1<x.1.2.1))
    (((aX x.1.1 x.1.2.2.1)).bind fun(y3:ah) =>
    (F 214 Dd ((y3,(x.2.1.1.1,())),())).bind fun(y4:Q2) =>
    some ((x.1.2.2.1,((y4.1.1==0),())),()))
    (some ((x.1.2.2.1,(false,())),()))):=by kernel_rfl
theorem P1(F:FT)(J:JT ke)(x:Q6):bS 196194 ke Tryz.f194 F J x =
  cond (decide ((lI x.1.1)<1))
   (none)
   (((aX x.1.1 (0:Int))).bind fun(y1:ab) =>
   J jH (aN Tryz.prog 194 0) ((x.1.1,((1:Int),())),(((OD,()),((y1,()),())),()))):=by kernel_rfl
theorem A3(F:FT)(J:JT ke)(x:(abu×((aae×aaZ)×Unit))):fH 196194 0 ke Tryz.f194 jH F J x =
  cond (decide (x.1.2.1<(lI x.1.1)))
   (((aX x.1.1 x.1.2.1)).bind fun(y2:ab) =>
   (F 195 Df ((y2,(x.2.1.2.1.1,())),())).bind fun(y3:Q2) =>
   cond (decide (y3.1.1<0))
    (((aX x.1.1 x.1.2.1)).bind fun(y4:ab) =>
    J jH (aN Tryz.prog 194 0) ((x.1.1,((wI (x.1.2.1+1)),())),(((x.2.1.1.1,()),((y4,()),())),())))
    (J jH (aN Tryz.prog 194 0) ((x.1.1,((wI (x.1.2.1+1)),())),(((x.2.1.1.1,()),((x.2.1.2.1.1,()),())),()))))
   (some ((x.2.1.2.1.1,()),())):=by kernel_rfl
theorem P2(F:FT)(J:JT kf)(x:(((List ag)×aag)×Unit)):bS 110108 kf Tryz.f108 F J x =
 J lR (aN Tryz.prog 108 0) ((x.1.1,((lI x.1.1),((0:Int),()))),(((x.1.2.1,()),(((0:Int),((0:Int),(([]:List ab),(OB,((0:Int),()))))),())),())):=by kernel_rfl
theorem A4(F:FT)(J:JT kf)(x:(abw×(abr×Unit))):fH 110108 0 kf Tryz.f108 lR F J x =
  cond (decide (x.1.2.2.1<x.1.2.1))
   (((aX x.1.1 x.1.2.2.1)).bind fun(y1:ag) =>
   (F 109 GS ((y1,()),())).bind fun(y2:((ID×Unit)×Unit)) =>
   cond ((y2.1.1.1==x.2.1.1.1.1)&&(y2.1.1.2==x.2.1.1.1.2))
    (some ((y1,(true,())),()))
    (J lR (aN Tryz.prog 108 0) ((x.1.1,(x.1.2.1,((wI (x.1.2.2.1+1)),()))),(((x.2.1.1.1,()),(x.2.1.2.1,())),()))))
   (some (((OI,(([]:List ab),(OB,(0:Int)))),(false,())),())):=by kernel_rfl
theorem P3(F:FT)(J:JT jc)(x:(((List aw)×aae)×Unit)):bS 233231 jc Tryz.f231 F J x =
 J ic (aN Tryz.prog 231 0) ((x.1.1,((lI x.1.1),((0:Int),((lI x.1.1),())))),(((x.1.2.1,()),()),())):=by kernel_rfl
theorem A5(F:FT)(J:JT jc)(x:(((List aw)×(Int×aaf))×(aaZ×Unit))):fH 233231 0 jc Tryz.f231 ic F J x =
  cond (decide (x.1.2.2.1<x.1.2.2.2.1))
   (cond (decide ((1:Int)<0))
    (none)
    (((aX x.1.1 (wI (kO .u64 (IntKind.wrap .u64 (wI (x.1.2.2.1+x.1.2.2.2.1))) (1:Int))))).bind fun(y1:aw) =>
    (F 232 Dg ((y1,(x.2.1.1.1,())),())).bind fun(y2:Q2) =>
    cond (decide (y2.1.1<0))
     (J ic (aN Tryz.prog 231 0) ((x.1.1,(x.1.2.1,((wI ((wI (kO .u64 (IntKind.wrap .u64 (wI (x.1.2.2.1+x.1.2.2.2.1))) (1:Int)))+1)),x.1.2.2.2))),(((x.2.1.1.1,()),()),())))
     (J ic (aN Tryz.prog 231 0) ((x.1.1,(x.1.2.1,(x.1.2.2.1,((wI (kO .u64 (IntKind.wrap .u64 (wI (x.1.2.2.1+x.1.2.2.2.1))) (1:Int))),())))),(((x.2.1.1.1,()),()),())))))
   (cond (decide (x.1.2.2.1<x.1.2.1))
    (((aX x.1.1 x.1.2.2.1)).bind fun(y3:aw) =>
    (F 232 Dg ((y3,(x.2.1.1.1,())),())).bind fun(y4:Q2) =>
    some ((x.1.2.2.1,((y4.1.1==0),())),()))
    (some ((x.1.2.2.1,(false,())),()))):=by kernel_rfl
theorem P4(F:FT)(J:JT je)(x:(((List aw)×Unit)×aaZ)):bS 246244 je Tryz.f244 F J x =
 J jI (aN Tryz.prog 244 0) ((x.1.1,((lI x.1.1),((0:Int),()))),(((x.2.1.1,()),()),())):=by kernel_rfl
theorem A6(F:FT)(J:JT je)(x:(((List aw)×aaf)×(aaZ×Unit))):fH 246244 0 je Tryz.f244 jI F J x =
  cond (decide (x.1.2.2.1<x.1.2.1))
   (((aX x.1.1 x.1.2.2.1)).bind fun(y1:aw) =>
   (F 245 GX ((y1,()),((x.2.1.1.1.1.1,(x.2.1.1.1.1.2,(x.2.1.1.1.2,()))),()))).bind fun(y2:((Bool×Unit)×((Int×(Int×(Int×Unit)))×Unit))) =>
   cond y2.1.1
    (some (x.1.2.2,((((y2.2.1.1,y2.2.1.2.1),y2.2.1.2.2.1),()),())))
    (J jI (aN Tryz.prog 244 0) ((x.1.1,(x.1.2.1,((wI (x.1.2.2.1+1)),()))),(((((y2.2.1.1,y2.2.1.2.1),y2.2.1.2.2.1),()),()),()))))
   (some (((-1:Int),()),((x.2.1.1.1,()),()))):=by kernel_rfl
theorem P5(F:FT)(J:JT kg)(x:(((List ag)×Unit)×Unit)):bS 240238 kg Tryz.f238 F J x =
 J jJ (aN Tryz.prog 238 0) (((0:Int),(x.1.1,((lI x.1.1),((0:Int),())))),((),())):=by kernel_rfl
theorem A7(F:FT)(J:JT kg)(x:((Int×abw)×aa4)):fH 240238 0 kg Tryz.f238 jJ F J x =
  cond (decide (x.1.2.2.2.1<x.1.2.2.1))
   (((aX x.1.2.1 x.1.2.2.2.1)).bind fun(y1:ag) =>
   (F 239 GY ((y1,()),())).bind fun(y2:Q0) =>
   cond y2.1.1
    (J jJ (aN Tryz.prog 238 0) (((wI (x.1.1+1)),(x.1.2.1,(x.1.2.2.1,((wI (x.1.2.2.2.1+1)),())))),((),())))
    (J jJ (aN Tryz.prog 238 0) ((x.1.1,(x.1.2.1,(x.1.2.2.1,((wI (x.1.2.2.2.1+1)),())))),((),()))))
   (some ((x.1.1,()),())):=by kernel_rfl
end Go.Vs
