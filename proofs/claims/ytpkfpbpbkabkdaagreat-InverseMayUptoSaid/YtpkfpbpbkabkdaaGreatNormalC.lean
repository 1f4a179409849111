/- Normal forms of the program's functions, the third part. -/
import Derived.Test.YtpkfpbpbkabkdaaGreatEngineD
import Derived.KernelRfl
set_option linter.unusedVariables false
set_option maxRecDepth 1000000
set_option maxHeartbeats 0
namespace Go.Vs
open Go.Proofs
theorem QH(F:FT)(J:JT la)(x:(aa3×ack)):fw 135 2 la Tryz.f135 w5 F J x =
  cond (decide (x.1.1<(lI x.2.1.1.1.2)))
   (J ud (aN Tryz.prog 135 3) ((x.1.1,((0:Int),())),(((x.2.1.1.1,()),()),())))
   (some ((true,()),())):=by kernel_rfl
theorem QI(F:FT)(J:JT la)(x:(aa8×ack)):fw 135 3 la Tryz.f135 ud F J x =
  cond (decide (x.1.2.1<2))
   (((ba x.2.1.1.1.2 x.1.1)).bind fun(y8:ai) =>
   (F 163 ov ((x.2.1.1.1,((y8.1,x.1.2.1),())),())).bind fun(y9:Q2) =>
   cond (y9.1.1 != 1)
    (some ((false,()),()))
    (J ud (aN Tryz.prog 135 3) ((x.1.1,((wI (x.1.2.1+1)),())),(((x.2.1.1.1,()),()),()))))
   (J w5 (aN Tryz.prog 135 2) (((wI (x.1.1+1)),()),(((x.2.1.1.1,()),()),()))):=by kernel_rfl
theorem afG(F:FT)(J:JT Fb)(x:Q5):bX 136 Fb Tryz.f136 F J x =
 (F 164 Hc ((x.1.1,()),())).bind fun(y1:Q25) =>
 J ue (aN Tryz.prog 136 0) (((lI y1.1.1),((0:Int),())),(((x.1.1,()),()),())):=by kernel_rfl
theorem QJ(F:FT)(J:JT Fb)(x:(aa8×ack)):fw 136 0 Fb Tryz.f136 ue F J x =
  cond (decide (x.1.2.1<(lI x.2.1.1.1.1)))
   (((ba x.2.1.1.1.1 x.1.2.1)).bind fun(y2:ah) =>
   cond ((lI y2.2.1)==0)
    (J ue (aN Tryz.prog 136 0) (((wI (x.1.1+1)),((wI (x.1.2.1+1)),())),(((x.2.1.1.1,()),()),())))
    (J ue (aN Tryz.prog 136 0) ((x.1.1,((wI (x.1.2.1+1)),())),(((x.2.1.1.1,()),()),()))))
   ((F 165 Hd ((x.2.1.1.1,()),())).bind fun(y3:Q2) =>
   some (((lI x.2.1.1.1.1),((lI x.2.1.1.1.2),(x.1.1,y3.1))),())):=by kernel_rfl
theorem afH(F:FT)(J:JT rf)(x:acg):bX 159 rf Tryz.f159 F J x =
  cond (decide (x.1.1.1≥1))
   (cond (decide (x.1.1.1≤8))
    (cond (decide (x.1.1.2≥1))
     (some (((decide (x.1.1.2≤1048576)),()),()))
     (some ((false,()),())))
    (some ((false,()),())))
   (some ((false,()),())):=by kernel_rfl
theorem afI(F:FT)(J:JT C7)(x:Q27):bX 160 C7 Tryz.f160 F J x =
  (F 159 rf ((x.1.1.1,()),())).bind fun(y1:Q0) =>
  cond y1.1.1
   (cond (((x.1.1.2.1.1==0)&&(x.1.1.2.1.2==0))&&(x.1.1.2.2==0))
    (some ((true,()),()))
    ((F 190 Hm ((x.1.1.2,()),())).bind fun(y2:Q0) =>
    some (y2.1,())))
   (some ((false,()),())):=by kernel_rfl
theorem afJ(F:FT)(J:JT wR)(x:((ByteArray×Unit)×Unit)):bX 161 wR Tryz.f161 F J x =
 J w6 (aN Tryz.prog 161 0) (x.1,((),((x.1.1,0),()))):=by kernel_rfl
theorem QK(F:FT)(J:JT wR)(x:((ByteArray×Unit)×(Unit×((ByteArray×Nat)×Unit)))):fw 161 0 wR Tryz.f161 w6 F J x =
  cond (decide (x.2.2.1.2<(ByteArray.size x.2.2.1.1)))
   (cond (decide ((oV x.2.2.1.1 x.2.2.1.2)<32))
    (some ((false,()),()))
    (cond (decide ((oV x.2.2.1.1 x.2.2.1.2)>126))
     (some ((false,()),()))
     (J w6 (aN Tryz.prog 161 0) (x.1,((),((x.2.2.1.1,(x.2.2.1.2+(z7 x.2.2.1.1 x.2.2.1.2))),()))))))
   (some (((decide ((((ByteArray.size x.1.1):Nat):Int)≤16)),()),())):=by kernel_rfl
theorem afK(F:FT)(J:JT Hh)(x:Q2):bX 162 Hh Tryz.f162 F J x =
  cond (decide (x.1.1≥(-1099511627776:Int)))
   (some (((decide (x.1.1≤1099511627776)),()),()))
   (some ((false,()),())):=by kernel_rfl
theorem afL(F:FT)(J:JT Hi)(x:((ah×Unit)×acf)):bX 152 Hi Tryz.f152 F J x =
  (F 175 qh ((x.1.1.1,()),(x.2.1,()))).bind fun(y1:JZ) =>
  cond y1.1.2.1
   (some (((12:Int),()),(y1.2.1,())))
   (cond (decide ((lI y1.2.1.1)≥24))
    (some (((3:Int),()),(y1.2.1,())))
    (cond (qG y1.2.1.1 y1.1.1 (x.1.1::([]:List ah)))
     (some (((0:Int),()),(((gh y1.2.1.1 y1.1.1 (x.1.1::([]:List ah))),y1.2.1.2),())))
     (none))):=by kernel_rfl
theorem afM(F:FT)(J:JT P3)(x:VT):bX 153 P3 Tryz.f153 F J x =
  (F 175 qh ((x.1.1.2.1,()),(x.2.1,()))).bind fun(y1:JZ) =>
  cond (not y1.1.2.1)
   (some (((13:Int),()),(y1.2.1,())))
   (cond ((decide ((0:Int)≤y1.1.1))&&(decide (y1.1.1<(lI y1.2.1.1))))
    (((y1.2.1.1)[(Int.toNat y1.1.1)]?).bind fun(y2:ah) =>
    cond (decide ((lI y2.2.1)>0))
     (some (((14:Int),()),(y1.2.1,())))
     (cond (jG y1.2.1.1 y1.1.1 (wI (y1.1.1+1)))
      (some (((0:Int),()),(((dw y1.2.1.1 y1.1.1 (wI (y1.1.1+1))),y1.2.1.2),())))
      (none)))
    (none)):=by kernel_rfl
theorem Xp(F:FT)(J:JT ou)(x:VT):bX 154 ou Tryz.f154 F J x =
  cond (pI x.2.1.1 x.2.1.2.1)
   ((F 178 yv ((x.1.1.2.1,()),(x.2.1,()))).bind fun(y1:P8) =>
   cond (y1.1.1 != 0)
    (some (y1.1,(y1.2.1,())))
    ((F 179 Ba ((x.1.1.2.1,()),())).bind fun(y2:Q33) =>
    J mf (aN Tryz.prog 154 0) (((lI (x.1.1.2.2.2.2.1::(x.1.1.2.2.2.2.2.1::([]:List mF)))),((0:Int),())),((y1.2.1,((((x.2.1.1,x.2.1.2.1),x.2.1.2.2.1),()),((y2.1.1,()),()))),((y2.1.1::(y2.1.2.1::([]:List ae))),((x.1.1.2.2.2.2.1::(x.1.1.2.2.2.2.2.1::([]:List mF))),()))))))
   (none):=by kernel_rfl
theorem w9(F:FT)(J:JT ou)(x:(aa8×((aW×((StateT×Unit)×abP))×((List ae)×((List mF)×Unit))))):fw 154 0 ou Tryz.f154 mf F J x =
  cond (decide (x.1.2.1<x.1.1))
   (cond ((decide ((0:Int)≤x.1.2.1))&&(decide (x.1.2.1<(lI x.2.2.2.1))))
    (((x.2.2.2.1)[(Int.toNat x.1.2.1)]?).bind fun(y3:mF) =>
    (F 180 Ho ((x.2.1.2.1.1,(y3,())),())).bind fun(y4:((mF×(Int×Unit))×Unit)) =>
    cond (y4.1.2.1 != 0)
     (some (y4.1.2,(x.2.1.1,())))
     (cond (x.1.2.1==1)
      (cond (((y3.2.1.1==x.2.1.2.2.1.1.1.1)&&(y3.2.1.2==x.2.1.2.2.1.1.1.2))&&(y3.2.2==x.2.1.2.2.1.1.2))
       ((F 175 qh ((y3.1,()),(x.2.1.1,()))).bind fun(y5:JZ) =>
       cond ((decide ((0:Int)≤y5.1.1))&&(decide (y5.1.1<(lI y5.2.1.1))))
        (((y5.2.1.1)[(Int.toNat y5.1.1)]?).bind fun(y6:ah) =>
        cond ((decide ((0:Int)≤x.1.2.1))&&(decide (x.1.2.1<(lI x.2.2.1))))
         (((x.2.2.1)[(Int.toNat x.1.2.1)]?).bind fun(y7:ae) =>
         (F 181 Bb ((y6.2.1,(y3.2,(y7,()))),())).bind fun(y8:Q6) =>
         ((y5.2.1.1)[(Int.toNat y5.1.1)]?).bind fun(y9:ah) =>
         J mf (aN Tryz.prog 154 0) ((x.1.1,((wI (x.1.2.1+1)),())),((((List.set y5.2.1.1 (Int.toNat y5.1.1) (y9.1,(y8.1.1,y9.2.2))),y5.2.1.2),((x.2.1.2.1.1,()),((x.2.1.2.2.1.1,()),()))),x.2.2)))
         (none))
        (none))
       ((F 175 qh ((y4.1.1.1,()),(x.2.1.1,()))).bind fun(qi:JZ) =>
       cond ((decide ((0:Int)≤qi.1.1))&&(decide (qi.1.1<(lI qi.2.1.1))))
        (((qi.2.1.1)[(Int.toNat qi.1.1)]?).bind fun(mG:ah) =>
        cond ((decide ((0:Int)≤x.1.2.1))&&(decide (x.1.2.1<(lI x.2.2.1))))
         (((x.2.2.1)[(Int.toNat x.1.2.1)]?).bind fun(qj:ae) =>
         (F 181 Bb ((mG.2.1,(y4.1.1.2,(qj,()))),())).bind fun(lf:Q6) =>
         ((qi.2.1.1)[(Int.toNat qi.1.1)]?).bind fun(Fg:ah) =>
         J mf (aN Tryz.prog 154 0) ((x.1.1,((wI (x.1.2.1+1)),())),((((List.set qi.2.1.1 (Int.toNat qi.1.1) (Fg.1,(lf.1.1,Fg.2.2))),qi.2.1.2),((x.2.1.2.1.1,()),((x.2.1.2.2.1.1,()),()))),x.2.2)))
         (none))
        (none)))
      ((F 175 qh ((y4.1.1.1,()),(x.2.1.1,()))).bind fun(uA:JZ) =>
      cond ((decide ((0:Int)≤uA.1.1))&&(decide (uA.1.1<(lI uA.2.1.1))))
       (((uA.2.1.1)[(Int.toNat uA.1.1)]?).bind fun(Tp:ah) =>
       cond ((decide ((0:Int)≤x.1.2.1))&&(decide (x.1.2.1<(lI x.2.2.1))))
        (((x.2.2.1)[(Int.toNat x.1.2.1)]?).bind fun(VV:ae) =>
        (F 181 Bb ((Tp.2.1,(y4.1.1.2,(VV,()))),())).bind fun(YK:Q6) =>
        ((uA.2.1.1)[(Int.toNat uA.1.1)]?).bind fun(VW:ah) =>
        J mf (aN Tryz.prog 154 0) ((x.1.1,((wI (x.1.2.1+1)),())),((((List.set uA.2.1.1 (Int.toNat uA.1.1) (VW.1,(YK.1.1,VW.2.2))),uA.2.1.2),((x.2.1.2.1.1,()),((x.2.1.2.2.1.1,()),()))),x.2.2)))
        (none))
       (none))))
    (none))
   ((F 172 Bc (((x.2.1.1.1,x.2.1.1.2.1),()),())).bind fun(HH:Q0) =>
   cond (not HH.1.1)
    (some (((15:Int),()),(x.2.1.1,())))
    (some (((0:Int),()),(x.2.1.1,())))):=by kernel_rfl
theorem ZO(F:FT)(J:JT A9)(x:VT):bX 155 A9 Tryz.f155 F J x =
  (F 182 mV ((x.1.1.2.1,()),(x.2.1,()))).bind fun(y1:JZ) =>
  cond (not y1.1.2.1)
   (some (((13:Int),()),(y1.2.1,())))
   ((F 179 Ba ((x.1.1.2.1,()),())).bind fun(y2:Q33) =>
   J Ff (aN Tryz.prog 155 0) ((y1.1.1,((lI (y2.1.1::(y2.1.2.1::([]:List ae)))),((0:Int),()))),((y1.2.1,((y2.1.1,()),((y2.1.2.1,()),()))),((y2.1.1::(y2.1.2.1::([]:List ae))),())))):=by kernel_rfl
theorem J1(F:FT)(J:JT A9)(x:((Int×aa8)×((aW×(aa7×abP))×abO))):fw 155 0 A9 Tryz.f155 Ff F J x =
  cond (decide (x.1.2.2.1<x.1.2.1))
   (cond ((decide ((0:Int)≤x.1.2.2.1))&&(decide (x.1.2.2.1<(lI x.2.2.1))))
    (((x.2.2.1)[(Int.toNat x.1.2.2.1)]?).bind fun(y3:ae) =>
    (F 184 Bf ((y3,()),(x.2.1.1,()))).bind fun(y4:((ae×Unit)×(aW×Unit))) =>
    (F 183 Be ((y3,(y4.1.1,())),(y4.2.1,()))).bind fun(y5:(Unit×(aW×Unit))) =>
    J Ff (aN Tryz.prog 155 0) ((x.1.1,(x.1.2.1,((wI (x.1.2.2.1+1)),()))),((y5.2.1,((x.2.1.2.1.1,()),((x.2.1.2.2.1.1,()),()))),x.2.2)))
    (none))
   (J w7 (aN Tryz.prog 155 1) ((x.1.1,((lI (x.2.1.2.1.1::(x.2.1.2.2.1.1::([]:List ae)))),((0:Int),()))),((x.2.1.1,()),((x.2.1.2.1.1::(x.2.1.2.2.1.1::([]:List ae))),())))):=by kernel_rfl
theorem J2(F:FT)(J:JT A9)(x:((Int×aa8)×(acf×abO))):fw 155 1 A9 Tryz.f155 w7 F J x =
  cond (decide (x.1.2.2.1<x.1.2.1))
   (cond ((decide ((0:Int)≤x.1.2.2.1))&&(decide (x.1.2.2.1<(lI x.2.2.1))))
    (((x.2.2.1)[(Int.toNat x.1.2.2.1)]?).bind fun(y6:ae) =>
    (F 185 l8 ((y6,()),(x.2.1.1,()))).bind fun(y7:ZM) =>
    qF y7.1.1
     (none) fun(p8:((Fin 1)×Nat)) =>
    cond (p8.1.val==0)
     (((y7.2.1.1)[p8.2]?).bind fun(y9:ah) =>
     (F 141 Bg ((y9.2.1,(y6,())),())).bind fun(qi:Q6) =>
     ((y7.2.1.1)[p8.2]?).bind fun(mG:ah) =>
     J w7 (aN Tryz.prog 155 1) ((x.1.1,(x.1.2.1,((wI (x.1.2.2.1+1)),()))),((((List.set y7.2.1.1 p8.2 (mG.1,(qi.1.1,mG.2.2))),y7.2.1.2),()),x.2.2)))
     (none))
    (none))
   (cond (jG x.2.1.1.2.1 x.1.1 (wI (x.1.1+1)))
    (some (((0:Int),()),((x.2.1.1.1,((dw x.2.1.1.2.1 x.1.1 (wI (x.1.1+1))),x.2.1.1.2.2)),())))
    (none)):=by kernel_rfl
theorem Ud(F:FT)(J:JT zc)(x:VT):bX 156 zc Tryz.f156 F J x =
  (F 182 mV ((x.1.1.2.1,()),(x.2.1,()))).bind fun(y1:JZ) =>
  (F 175 qh ((x.1.1.2.2.1,()),(y1.2.1,()))).bind fun(y2:JZ) =>
  (F 182 mV ((x.1.1.2.2.2.1,()),(y2.2.1,()))).bind fun(y3:JZ) =>
  cond (not y1.1.2.1)
   (some (((13:Int),()),(y3.2.1,())))
   (cond y2.1.2.1
    (some (((12:Int),()),(y3.2.1,())))
    (cond y3.1.2.1
     (some (((12:Int),()),(y3.2.1,())))
     (cond (decide ((1:Int)<0))
      (none)
      ((F 185 l8 (((x.1.1.2.1,(cT .xor .i64 (1:Int) (cT .and .i64 x.1.1.2.2.2.2.2.2.2.2 (1:Int)))),()),(y3.2.1,()))).bind fun(y4:ZM) =>
      qF y4.1.1
       (none) fun(p5:((Fin 1)×Nat)) =>
      cond (p5.1.val==0)
       (((y4.2.1.1)[p5.2]?).bind fun(y6:ah) =>
       (F 188 ow (((x.1.1.2.2.2.1,(kZ .i64 x.1.1.2.2.2.2.2.2.2.2 (1:Int))),()),())).bind fun(y7:Fc) =>
       (F 187 th ((y6.2.1,((x.1.1.2.1,(cT .xor .i64 (1:Int) (cT .and .i64 x.1.1.2.2.2.2.2.2.2.2 (1:Int)))),(y7.1.1,()))),())).bind fun(y8:Q6) =>
       ((y4.2.1.1)[p5.2]?).bind fun(y9:ah) =>
       (F 169 ri ((((x.1.1.2.1,(cT .xor .i64 (1:Int) (cT .and .i64 x.1.1.2.2.2.2.2.2.2.2 (1:Int))))::((x.1.1.2.2.2.1,(kZ .i64 x.1.1.2.2.2.2.2.2.2.2 (1:Int)))::([]:List ae))),()),())).bind fun(qi:Q6) =>
       (F 152 Hi (((x.1.1.2.2.1,(qi.1.1,(OB,(0:Int)))),()),(((List.set y4.2.1.1 p5.2 (y9.1,(y8.1.1,y9.2.2))),y4.2.1.2),()))).bind fun(mG:P8) =>
       cond (mG.1.1 != 0)
        (some (mG.1,(mG.2.1,())))
        ((F 178 yv ((x.1.1.2.2.2.1,()),(mG.2.1,()))).bind fun(qj:P8) =>
        some (qj.1,(qj.2.1,()))))
       (none))))):=by kernel_rfl
theorem ZP(F:FT)(J:JT rh)(x:VT):bX 157 rh Tryz.f157 F J x =
  (F 175 qh ((x.1.1.2.1,()),(x.2.1,()))).bind fun(y1:JZ) =>
  cond (not y1.1.2.1)
   (some (((13:Int),()),(y1.2.1,())))
   (cond ((decide ((0:Int)≤y1.1.1))&&(decide (y1.1.1<(lI y1.2.1.1))))
    (((y1.2.1.1)[(Int.toNat y1.1.1)]?).bind fun(y2:ah) =>
    cond ((lI y2.2.1) != 2)
     (some (((14:Int),()),(y1.2.1,())))
     (((ba y2.2.1 (0:Int))).bind fun(y3:ae) =>
     ((ba y2.2.1 (1:Int))).bind fun(y4:ae) =>
     cond ((y3.1.1==y4.1.1)&&(y3.1.2==y4.1.2))
      (some (((14:Int),()),(y1.2.1,())))
      (((ba y2.2.1 (0:Int))).bind fun(y5:ae) =>
      ((ba y2.2.1 (1:Int))).bind fun(y6:ae) =>
      cond ((y5.1.1==x.1.1.2.2.2.1.1)&&(y5.1.2==x.1.1.2.2.2.1.2))
       (cond (not ((y5.1.1==x.1.1.2.2.2.1.1)&&(y5.1.2==x.1.1.2.2.2.1.2)))
        (some (((14:Int),()),(y1.2.1,())))
        ((F 188 ow ((y5,()),())).bind fun(y7:Fc) =>
        cond (jG y1.2.1.1 y1.1.1 (wI (y1.1.1+1)))
         ((F 185 l8 ((y7.1.1,()),(((dw y1.2.1.1 y1.1.1 (wI (y1.1.1+1))),y1.2.1.2),()))).bind fun(y8:ZM) =>
         qF y8.1.1
          (none) fun(p9:((Fin 1)×Nat)) =>
         cond (p9.1.val==0)
          (((y8.2.1.1)[p9.2]?).bind fun(qi:ah) =>
          (F 187 th ((qi.2.1,(y7.1.1,(y6,()))),())).bind fun(mG:Q6) =>
          ((y8.2.1.1)[p9.2]?).bind fun(qj:ah) =>
          (F 182 mV ((y5.1,()),(((List.set y8.2.1.1 p9.2 (qj.1,(mG.1.1,qj.2.2))),y8.2.1.2),()))).bind fun(lf:JZ) =>
          cond (jG lf.2.1.2.1 lf.1.1 (wI (lf.1.1+1)))
           (J nG (aN Tryz.prog 157 0) (((0:Int),()),(((lf.2.1.1,((dw lf.2.1.2.1 lf.1.1 (wI (lf.1.1+1))),lf.2.1.2.2)),((y6,()),((y5,()),((y7.1.1,()),())))),())))
           (none))
          (none))
         (none)))
       (cond (not ((y6.1.1==x.1.1.2.2.2.1.1)&&(y6.1.2==x.1.1.2.2.2.1.2)))
        (some (((14:Int),()),(y1.2.1,())))
        ((F 188 ow ((y6,()),())).bind fun(Fg:Fc) =>
        cond (jG y1.2.1.1 y1.1.1 (wI (y1.1.1+1)))
         ((F 185 l8 ((Fg.1.1,()),(((dw y1.2.1.1 y1.1.1 (wI (y1.1.1+1))),y1.2.1.2),()))).bind fun(uA:ZM) =>
         qF uA.1.1
          (none) fun(p16:((Fin 1)×Nat)) =>
         cond (p16.1.val==0)
          (((uA.2.1.1)[p16.2]?).bind fun(VV:ah) =>
          (F 187 th ((VV.2.1,(Fg.1.1,(y5,()))),())).bind fun(YK:Q6) =>
          ((uA.2.1.1)[p16.2]?).bind fun(VW:ah) =>
          (F 182 mV ((y6.1,()),(((List.set uA.2.1.1 p16.2 (VW.1,(YK.1.1,VW.2.2))),uA.2.1.2),()))).bind fun(HH:JZ) =>
          cond (jG HH.2.1.2.1 HH.1.1 (wI (HH.1.1+1)))
           (J nG (aN Tryz.prog 157 0) (((0:Int),()),(((HH.2.1.1,((dw HH.2.1.2.1 HH.1.1 (wI (HH.1.1+1))),HH.2.1.2.2)),((y5,()),((y6,()),((Fg.1.1,()),())))),())))
           (none))
          (none))
         (none))))))
    (none)):=by kernel_rfl
theorem xc(F:FT)(J:JT rh)(x:Q39):fw 157 0 rh Tryz.f157 nG F J x =
  cond (decide (x.1.1<2))
   (cond (x.2.1.2.2.1.1.2==x.1.1)
    ((F 183 Be ((x.2.1.2.2.1.1,(OD,())),(x.2.1.1,()))).bind fun(y21:(Unit×(aW×Unit))) =>
    J nG (aN Tryz.prog 157 0) (((wI (x.1.1+1)),()),((y21.2.1,((x.2.1.2.1.1,()),((x.2.1.2.2.1.1,()),((x.2.1.2.2.2.1.1,()),())))),())))
    ((F 183 Be ((x.2.1.2.2.2.1.1,(x.2.1.2.1.1,())),(x.2.1.1,()))).bind fun(y22:(Unit×(aW×Unit))) =>
    J nG (aN Tryz.prog 157 0) (((wI (x.1.1+1)),()),((y22.2.1,((x.2.1.2.1.1,()),((x.2.1.2.2.1.1,()),((x.2.1.2.2.2.1.1,()),())))),()))))
   (some (((0:Int),()),(x.2.1.1,()))):=by kernel_rfl
theorem afN(F:FT)(J:JT P4)(x:VT):bX 158 P4 Tryz.f158 F J x =
  (F 189 Hq ((x.1.1,()),(x.2.1,()))).bind fun(y1:(((Option ((Fin 2)×Nat))×((Option ((Fin 2)×Nat))×Unit))×(aW×Unit))) =>
  qF y1.1.1
   (qF y1.1.2.1
    (some (((13:Int),()),(y1.2.1,()))) fun(p2:((Fin 2)×Nat)) =>
   cond (p2.1.val==0)
    (some (((13:Int),()),(y1.2.1,())))
    (cond (p2.1.val==1)
    (some (((13:Int),()),(y1.2.1,())))
    (none))) fun(p3:((Fin 2)×Nat)) =>
  cond (p3.1.val==0)
   (qF y1.1.2.1
    (cond (x.1.1.1==7)
     (((y1.2.1.1)[p3.2]?).bind fun(qi:ah) =>
     some (((0:Int),()),(((List.set y1.2.1.1 p3.2 (qi.1,(qi.2.1,(x.1.1.2.2.2.2.2.2.2.1,qi.2.2.2)))),y1.2.1.2),())))
     (none)) fun(YL:((Fin 2)×Nat)) =>
   cond (YL.1.val==0)
    (cond (x.1.1.1==7)
     (((y1.2.1.1)[p3.2]?).bind fun(Fg:ah) =>
     some (((0:Int),()),(((List.set y1.2.1.1 p3.2 (Fg.1,(Fg.2.1,(x.1.1.2.2.2.2.2.2.2.1,Fg.2.2.2)))),y1.2.1.2),())))
     (((y1.2.1.1)[YL.2]?).bind fun(uA:ah) =>
     some (((0:Int),()),(((List.set y1.2.1.1 YL.2 (uA.1,(uA.2.1,(uA.2.2.1,x.1.1.2.2.2.2.2.2.2.2)))),y1.2.1.2),()))))
    (cond (YL.1.val==1)
    (cond (x.1.1.1==7)
     (((y1.2.1.1)[p3.2]?).bind fun(qj:ah) =>
     some (((0:Int),()),(((List.set y1.2.1.1 p3.2 (qj.1,(qj.2.1,(x.1.1.2.2.2.2.2.2.2.1,qj.2.2.2)))),y1.2.1.2),())))
     (((y1.2.1.2.1)[YL.2]?).bind fun(lf:ai) =>
     some (((0:Int),()),((y1.2.1.1,((List.set y1.2.1.2.1 YL.2 (lf.1,(lf.2.1,x.1.1.2.2.2.2.2.2.2.2))),y1.2.1.2.2)),()))))
    (none)))
   (cond (p3.1.val==1)
   (qF y1.1.2.1
    (cond (x.1.1.1==7)
     (((y1.2.1.2.1)[p3.2]?).bind fun(y4:ai) =>
     some (((0:Int),()),((y1.2.1.1,((List.set y1.2.1.2.1 p3.2 (y4.1,(x.1.1.2.2.2.2.2.2.2.1,y4.2.2))),y1.2.1.2.2)),())))
     (none)) fun(p5:((Fin 2)×Nat)) =>
   cond (p5.1.val==0)
    (cond (x.1.1.1==7)
     (((y1.2.1.2.1)[p3.2]?).bind fun(y8:ai) =>
     some (((0:Int),()),((y1.2.1.1,((List.set y1.2.1.2.1 p3.2 (y8.1,(x.1.1.2.2.2.2.2.2.2.1,y8.2.2))),y1.2.1.2.2)),())))
     (((y1.2.1.1)[p5.2]?).bind fun(y9:ah) =>
     some (((0:Int),()),(((List.set y1.2.1.1 p5.2 (y9.1,(y9.2.1,(y9.2.2.1,x.1.1.2.2.2.2.2.2.2.2)))),y1.2.1.2),()))))
    (cond (p5.1.val==1)
    (cond (x.1.1.1==7)
     (((y1.2.1.2.1)[p3.2]?).bind fun(y6:ai) =>
     some (((0:Int),()),((y1.2.1.1,((List.set y1.2.1.2.1 p3.2 (y6.1,(x.1.1.2.2.2.2.2.2.2.1,y6.2.2))),y1.2.1.2.2)),())))
     (((y1.2.1.2.1)[p5.2]?).bind fun(y7:ai) =>
     some (((0:Int),()),((y1.2.1.1,((List.set y1.2.1.2.1 p5.2 (y7.1,(y7.2.1,x.1.1.2.2.2.2.2.2.2.2))),y1.2.1.2.2)),()))))
    (none)))
   (none)):=by kernel_rfl
theorem afO(F:FT)(J:JT P5)(x:Fc):bX 123 P5 Tryz.f123 F J x =
  (F 87 yT ((x.1.1.1,()),())).bind fun(y1:Q0) =>
  cond y1.1.1
   (cond (x.1.1.2==0)
    (some ((true,()),()))
    (some (((x.1.1.2==1),()),())))
   (some ((false,()),())):=by kernel_rfl
theorem afP(F:FT)(J:JT Hj)(x:((StateT×aa7)×Unit)):bX 143 Hj Tryz.f143 F J x =
 J BD (aN Tryz.prog 143 0) (((0:Int),()),(((x.1.1,()),((x.1.2.1,()),((OD,()),()))),())):=by kernel_rfl
theorem QL(F:FT)(J:JT Hj)(x:(aa3×(((StateT×Unit)×(aa7×abP))×Unit))):fw 143 0 Hj Tryz.f143 BD F J x =
  cond (decide (x.1.1≤(lI x.2.1.1.1.2)))
   ((F 124 tZ ((x.2.1.1.1.1,(x.2.1.2.1.1,())),())).bind fun(y1:P7) =>
   cond y1.1.2.1
    (some ((x.2.1.2.1.1,()),()))
    ((F 147 tg ((x.2.1.1.1.2,(x.2.1.2.1.1,())),())).bind fun(y2:JY) =>
    cond (not y2.1.2.1)
     (some ((OD,()),()))
     (J BD (aN Tryz.prog 143 0) (((wI (x.1.1+1)),()),(((x.2.1.1.1,()),((y2.1.1,()),((x.2.1.2.2.1.1,()),()))),())))))
   (some ((OD,()),())):=by kernel_rfl
theorem afQ(F:FT)(J:JT C8)(x:((aj×(ID×abO))×Unit)):bX 145 C8 Tryz.f145 F J x =
 (F 21 C5 ((x.1.1,()),())).bind fun(y1:Q26) =>
 J w8 (aN Tryz.prog 145 0) ((x.1.2.2.1,((0:Int),())),(((x.1.2.1,()),((([]:List ah),(([]:List ai),())),(y1.1.1,()))),())):=by kernel_rfl
theorem QM(F:FT)(J:JT C8)(x:(ab0×((abM×aa4)×Unit))):fw 145 0 C8 Tryz.f145 w8 F J x =
  cond (decide (x.1.2.1<(lI x.2.1.2.2.1.1)))
   (cond ((decide ((0:Int)≤x.1.2.1))&&(decide (x.1.2.1<(lI x.2.1.2.2.1.1))))
    (((x.2.1.2.2.1.1)[(Int.toNat x.1.2.1)]?).bind fun(y2:ah) =>
    cond ((y2.1.1==x.2.1.1.1.1)&&(y2.1.2==x.2.1.1.1.2))
     (cond ((decide ((0:Int)≤x.1.2.1))&&(decide (x.1.2.1<(lI x.2.1.2.2.1.1))))
      (((x.2.1.2.2.1.1)[(Int.toNat x.1.2.1)]?).bind fun(y3:ah) =>
      J w8 (aN Tryz.prog 145 0) ((x.1.1,((wI (x.1.2.1+1)),())),(((x.2.1.1.1,()),(x.2.1.2.1,(((List.set x.2.1.2.2.1.1 (Int.toNat x.1.2.1) (y3.1,(x.1.1,y3.2.2))),x.2.1.2.2.1.2),()))),())))
      (none))
     (J w8 (aN Tryz.prog 145 0) ((x.1.1,((wI (x.1.2.1+1)),())),(((x.2.1.1.1,()),(x.2.1.2.1,(x.2.1.2.2.1,()))),()))))
    (none))
   (some (((x.2.1.2.2.1.1,x.2.1.2.2.1.2.1),()),())):=by kernel_rfl
theorem ZQ(F:FT)(J:JT yr)(x:Q34):bX 146 yr Tryz.f146 F J x =
  (F 144 q9 ((x.1.1,(x.1.2.2.1,())),())).bind fun(y1:Q2) =>
  cond (decide (y1.1.1≥0))
   ((F 122 pK ((x.1.1,()),())).bind fun(y2:Q6) =>
   some (y2.1,()))
   ((F 144 q9 ((x.1.1,(x.1.2.1,())),())).bind fun(y3:Q2) =>
   J sf (aN Tryz.prog 146 0) ((x.1.1,((max (0:Int) y3.1.1:Int),((0:Int),()))),(((x.1.2.2.1,()),()),(([]:List ae),())))):=by kernel_rfl
theorem Lb(F:FT)(J:JT yr)(x:(ab7×(abP×abO))):fw 146 0 yr Tryz.f146 sf F J x =
  cond (decide (x.1.2.2.1<(lI x.1.1)))
   (((ba x.1.1 x.1.2.2.1)).bind fun(y4:ae) =>
   cond (aO (List.length x.2.2.1) (List.length (y4::([]:List ae))))
    (cond (x.1.2.2.1==x.1.2.1)
     (cond (aO (List.length (x.2.2.1++(y4::([]:List ae)))) (List.length (x.2.1.1.1::([]:List ae))))
      (J sf (aN Tryz.prog 146 0) ((x.1.1,(x.1.2.1,((wI (x.1.2.2.1+1)),()))),(((x.2.1.1.1,()),()),(((x.2.2.1++(y4::([]:List ae)))++(x.2.1.1.1::([]:List ae))),()))))
      (none))
     (J sf (aN Tryz.prog 146 0) ((x.1.1,(x.1.2.1,((wI (x.1.2.2.1+1)),()))),(((x.2.1.1.1,()),()),((x.2.2.1++(y4::([]:List ae))),())))))
    (none))
   (cond ((lI x.1.1)==0)
    (cond (aO (List.length x.2.2.1) (List.length (x.2.1.1.1::([]:List ae))))
     ((F 122 pK (((x.2.2.1++(x.2.1.1.1::([]:List ae))),()),())).bind fun(y5:Q6) =>
     some (y5.1,()))
     (none))
    ((F 122 pK (x.2.2,())).bind fun(y6:Q6) =>
    some (y6.1,()))):=by kernel_rfl
theorem ZR(F:FT)(J:JT tg)(x:(((List az)×aa7)×Unit)):bX 147 tg Tryz.f147 F J x =
 J vn (aN Tryz.prog 147 0) ((x.1.1,((0:Int),())),(((x.1.2.1,()),((OD,()),())),())):=by kernel_rfl
theorem Lc(F:FT)(J:JT tg)(x:(((List az)×aa3)×((aa7×abP)×Unit))):fw 147 0 tg Tryz.f147 vn F J x =
  cond (decide (x.1.2.1<(lI x.1.1)))
   (((ba x.1.1 x.1.2.1)).bind fun(y1:az) =>
   cond (((y1.1.1.1==x.2.1.1.1.1.1)&&(y1.1.1.2==x.2.1.1.1.1.2))&&(y1.1.2==x.2.1.1.1.2))
    (((ba x.1.1 x.1.2.1)).bind fun(y2:az) =>
    some ((y2.2,(true,())),()))
    (J vn (aN Tryz.prog 147 0) ((x.1.1,((wI (x.1.2.1+1)),())),(((x.2.1.1.1,()),((x.2.1.2.1.1,()),())),()))))
   (some ((OD,(false,())),())):=by kernel_rfl
theorem ZS(F:FT)(J:JT yu)(x:Uc):bX 126 yu Tryz.f126 F J x =
 J si (aN Tryz.prog 126 0) ((x.1.1,((0:Int),())),(((x.1.2.1,()),()),(([]:List ae),()))):=by kernel_rfl
theorem Ld(F:FT)(J:JT yu)(x:(ab0×(abP×abO))):fw 126 0 yu Tryz.f126 si F J x =
  cond (decide (x.1.2.1<(lI x.1.1)))
   (((ba x.1.1 x.1.2.1)).bind fun(y1:ae) =>
   cond (not (((y1.1.1==x.2.1.1.1.1.1)&&(y1.1.2==x.2.1.1.1.1.2))&&(y1.2==x.2.1.1.1.2)))
    (((ba x.1.1 x.1.2.1)).bind fun(y2:ae) =>
    cond (aO (List.length x.2.2.1) (List.length (y2::([]:List ae))))
     (J si (aN Tryz.prog 126 0) ((x.1.1,((wI (x.1.2.1+1)),())),(((x.2.1.1.1,()),()),((x.2.2.1++(y2::([]:List ae))),()))))
     (none))
    (J si (aN Tryz.prog 126 0) ((x.1.1,((wI (x.1.2.1+1)),())),(((x.2.1.1.1,()),()),x.2.2))))
   ((F 122 pK (x.2.2,())).bind fun(y3:Q6) =>
   some (y3.1,())):=by kernel_rfl
theorem ZT(F:FT)(J:JT Hk)(x:Q34):bX 149 Hk Tryz.f149 F J x =
  cond (aO (List.length ([]:List ae)) (List.length x.1.1))
   ((F 144 q9 ((x.1.1,(x.1.2.1,())),())).bind fun(y1:Q2) =>
   cond (decide (y1.1.1≥0))
    ((F 144 q9 ((x.1.1,(x.1.2.2.1,())),())).bind fun(y2:Q2) =>
    cond (decide (y2.1.1<0))
     (cond ((decide ((0:Int)≤y1.1.1))&&(decide (y1.1.1<(lI (([]:List ae)++x.1.1)))))
      ((((([]:List ae)++x.1.1))[(Int.toNat y1.1.1)]?).bind fun(y3:ae) =>
      (F 122 pK (((List.set (([]:List ae)++x.1.1) (Int.toNat y1.1.1) x.1.2.2.1),()),())).bind fun(y4:Q6) =>
      some (y4.1,()))
      (none))
     ((F 122 pK (((([]:List ae)++x.1.1),()),())).bind fun(y5:Q6) =>
     some (y5.1,())))
    ((F 122 pK (((([]:List ae)++x.1.1),()),())).bind fun(y6:Q6) =>
    some (y6.1,())))
   (none):=by kernel_rfl
theorem ZU(F:FT)(J:JT Hl)(x:Uc):bX 248 Hl Tryz.f248 F J x =
  (F 144 q9 ((x.1.1,(x.1.2.1,())),())).bind fun(y1:Q2) =>
  cond (decide (y1.1.1<0))
   (some ((OD,(false,())),()))
   (cond ((lI x.1.1)==0)
    (none)
    (((ba x.1.1 (Int.tmod (wI (y1.1.1+1)) (lI x.1.1)))).bind fun(y2:ae) =>
    some ((y2,(true,())),()))):=by kernel_rfl
theorem ZV(F:FT)(J:JT ov)(x:Tn):bX 163 ov Tryz.f163 F J x =
 J sj (aN Tryz.prog 163 0) (((0:Int),((0:Int),())),(((x.1.1,()),((x.1.2.1,()),())),())):=by kernel_rfl
theorem Le(F:FT)(J:JT ov)(x:(aa8×((abT×abP)×Unit))):fw 163 0 ov Tryz.f163 sj F J x =
  cond (decide (x.1.2.1<(lI x.2.1.1.1.1)))
   (J pM (aN Tryz.prog 163 1) ((x.1.1,(x.1.2.1,((0:Int),()))),(((x.2.1.1.1,()),((x.2.1.2.1.1,()),())),())))
   (some ((x.1.1,()),())):=by kernel_rfl
theorem Lf(F:FT)(J:JT ov)(x:((Int×aa8)×((abT×abP)×Unit))):fw 163 1 ov Tryz.f163 pM F J x =
  ((ba x.2.1.1.1.1 x.1.2.1)).bind fun(y1:ah) =>
  cond (decide (x.1.2.2.1<(lI y1.2.1)))
   (((ba x.2.1.1.1.1 x.1.2.1)).bind fun(y2:ah) =>
   ((ba y2.2.1 x.1.2.2.1)).bind fun(y3:ae) =>
   cond (((y3.1.1==x.2.1.2.1.1.1.1)&&(y3.1.2==x.2.1.2.1.1.1.2))&&(y3.2==x.2.1.2.1.1.2))
    (J pM (aN Tryz.prog 163 1) (((wI (x.1.1+1)),(x.1.2.1,((wI (x.1.2.2.1+1)),()))),(((x.2.1.1.1,()),((x.2.1.2.1.1,()),())),())))
    (J pM (aN Tryz.prog 163 1) ((x.1.1,(x.1.2.1,((wI (x.1.2.2.1+1)),()))),(((x.2.1.1.1,()),((x.2.1.2.1.1,()),())),()))))
   (J sj (aN Tryz.prog 163 0) ((x.1.1,((wI (x.1.2.1+1)),())),(((x.2.1.1.1,()),((x.2.1.2.1.1,()),())),()))):=by kernel_rfl
theorem ZW(F:FT)(J:JT Hm)(x:Fc):bX 190 Hm Tryz.f190 F J x =
  (F 159 rf ((x.1.1.1,()),())).bind fun(y1:Q0) =>
  cond y1.1.1
   (some ((((cT .andNot .i64 x.1.1.2 (1:Int))==0),()),()))
   (some ((false,()),())):=by kernel_rfl
theorem ZX(F:FT)(J:JT qh)(x:(abM×acf)):bX 175 qh Tryz.f175 F J x =
 (F 208206 jt ((x.2.1.1,(x.1.1,())),())).bind fun(y1:((Int×(Bool×Unit))×Unit)) =>
 some (y1.1,(x.2.1,())):=by kernel_rfl
theorem ZY(F:FT)(J:JT yv)(x:(abM×acf)):bX 178 yv Tryz.f178 F J x =
  (F 182 mV ((x.1.1,()),(x.2.1,()))).bind fun(y1:JZ) =>
  cond y1.1.2.1
   (some (((12:Int),()),(y1.2.1,())))
   (cond (decide ((lI y1.2.1.2.1)≥40))
    (some (((3:Int),()),(y1.2.1,())))
    (cond (qG y1.2.1.2.1 y1.1.1 ((x.1.1,(OB,(0:Int)))::([]:List ai)))
     (some (((0:Int),()),((y1.2.1.1,((gh y1.2.1.2.1 y1.1.1 ((x.1.1,(OB,(0:Int)))::([]:List ai))),y1.2.1.2.2)),())))
     (none))):=by kernel_rfl
theorem VX(F:FT)(J:JT Ba)(x:acg):bX 179 Ba Tryz.f179 F J x =
 some (((x.1.1,(0:Int)),((x.1.1,(1:Int)),())),()):=by kernel_rfl
theorem ZZ(F:FT)(J:JT Ho)(x:((StateT×(mF×Unit))×Unit)):bX 180 Ho Tryz.f180 F J x =
  (F 74 ti ((x.1.1.1,(x.1.2.1.1,())),())).bind fun(y1:Q7) =>
  cond (not y1.1.2.1)
   (some ((OC,((13:Int),())),()))
   ((F 212 yw ((x.1.1,(x.1.2.1.2,())),())).bind fun(y2:Fc) =>
   (F 166 vh ((y1.1.1.2.1,(y2.1.1,())),())).bind fun(y3:Q0) =>
   cond (not y3.1.1)
    (some (((x.1.2.1.1,OD),((0:Int),())),()))
    (some (((x.1.2.1.1,y2.1.1),((0:Int),())),()))):=by kernel_rfl
theorem aaa(F:FT)(J:JT Bb)(x:Q34):bX 181 Bb Tryz.f181 F J x =
  (F 166 vh ((x.1.1,(x.1.2.2.1,())),())).bind fun(y1:Q0) =>
  cond y1.1.1
   ((F 169 ri ((x.1.1,()),())).bind fun(y2:Q6) =>
   some (y2.1,()))
   ((F 168 l9 ((x.1.1,(x.1.2.1,())),())).bind fun(y3:Q2) =>
   cond (bq (List.length x.1.1) (0:Int) (min (wI ((max y3.1.1 (0:Int):Int)+1)) (lI x.1.1):Int))
    (cond (bq (List.length x.1.1) (min (wI ((max y3.1.1 (0:Int):Int)+1)) (lI x.1.1):Int) (lI x.1.1))
     ((F 170 ox ((((cut x.1.1 (0:Int) (min (wI ((max y3.1.1 (0:Int):Int)+1)) (lI x.1.1):Int))::((x.1.2.2.1::([]:List ae))::((cut x.1.1 (min (wI ((max y3.1.1 (0:Int):Int)+1)) (lI x.1.1):Int) (lI x.1.1))::([]:List (List ae))))),()),())).bind fun(y4:Q6) =>
     some (y4.1,()))
     (none))
    (none)):=by kernel_rfl
theorem aab(F:FT)(J:JT Bc)(x:Q5):bX 172 Bc Tryz.f172 F J x =
 (F 204 Hr ((x.1.1,()),())).bind fun(y1:Q2) =>
 some (((y1.1.1==0),()),()):=by kernel_rfl
theorem aac(F:FT)(J:JT mV)(x:(abM×acf)):bX 182 mV Tryz.f182 F J x =
 (F 215213 ju ((x.2.1.2.1,(x.1.1,())),())).bind fun(y1:((Int×(Bool×Unit))×Unit)) =>
 some (y1.1,(x.2.1,())):=by kernel_rfl
theorem aad(F:FT)(J:JT Be)(x:((ae×aa7)×acf)):bX 183 Be Tryz.f183 F J x =
 (F 215 Hs ((x.2.1.2.2.1,((x.1.1,x.1.2.1),())),())).bind fun(y1:VS) =>
 some ((),((x.2.1.1,(x.2.1.2.1,y1.1)),())):=by kernel_rfl
theorem aae(F:FT)(J:JT Bf)(x:(aa7×acf)):bX 184 Bf Tryz.f184 F J x =
 J zH (aN Tryz.prog 184 0) (((0:Int),()),((x.2.1,((x.1.1,()),((OD,()),((x.1.1,()),())))),())):=by kernel_rfl
theorem Fh(F:FT)(J:JT Bf)(x:Q39):fw 184 0 Bf Tryz.f184 zH F J x =
  cond (decide (x.1.1<2))
   ((F 185 l8 ((x.2.1.2.1.1,()),(x.2.1.1,()))).bind fun(y1:ZM) =>
   qF y1.1.1
    (none) fun(p2:((Fin 1)×Nat)) =>
   cond (p2.1.val==0)
    (((y1.2.1.1)[p2.2]?).bind fun(y3:ah) =>
    (F 140 Bi ((y3.2.1,(x.2.1.2.2.2.1.1,())),())).bind fun(y4:JY) =>
    cond (not ((y4.1.1.1.1==x.2.1.2.1.1.1.1)&&(y4.1.1.1.2==x.2.1.2.1.1.1.2)))
     (some ((y4.1.1,()),(y1.2.1,())))
     (J zH (aN Tryz.prog 184 0) (((wI (x.1.1+1)),()),((y1.2.1,((x.2.1.2.1.1,()),((x.2.1.2.2.1.1,()),((y4.1.1,()),())))),()))))
    (none))
   (some ((OD,()),(x.2.1.1,()))):=by kernel_rfl
theorem aaf(F:FT)(J:JT l8)(x:(aa7×acf)):bX 185 l8 Tryz.f185 F J x =
 J vo (aN Tryz.prog 185 0) (((lI x.2.1.1),((0:Int),())),((x.2.1,((x.1.1,()),())),())):=by kernel_rfl
theorem Lg(F:FT)(J:JT l8)(x:(aa8×((aW×abP)×Unit))):fw 185 0 l8 Tryz.f185 vo F J x =
  cond (decide (x.1.2.1<x.1.1))
   (cond ((decide ((0:Int)≤x.1.2.1))&&(decide (x.1.2.1<(lI x.2.1.1.1))))
    (((x.2.1.1.1)[(Int.toNat x.1.2.1)]?).bind fun(y1:ah) =>
    (F 166 vh ((y1.2.1,(x.2.1.2.1.1,())),())).bind fun(y2:Q0) =>
    cond y2.1.1
     (some (((some ((⟨0,by decide⟩:(Fin 1)),(Int.toNat x.1.2.1))),()),(x.2.1.1,())))
     (J vo (aN Tryz.prog 185 0) ((x.1.1,((wI (x.1.2.1+1)),())),((x.2.1.1,((x.2.1.2.1.1,()),())),()))))
    (none))
   (some ((none,()),(x.2.1.1,()))):=by kernel_rfl
theorem aag(F:FT)(J:JT Bg)(x:Uc):bX 141 Bg Tryz.f141 F J x =
  (F 168 l9 ((x.1.1,(x.1.2.1,())),())).bind fun(y1:Q2) =>
  cond (decide (y1.1.1<0))
   ((F 169 ri ((x.1.1,()),())).bind fun(y2:Q6) =>
   some (y2.1,()))
   (cond (bq (List.length x.1.1) (0:Int) y1.1.1)
    (cond (bq (List.length x.1.1) (wI (y1.1.1+1)) (lI x.1.1))
     ((F 170 ox ((((cut x.1.1 (0:Int) y1.1.1)::((cut x.1.1 (wI (y1.1.1+1)) (lI x.1.1))::([]:List (List ae)))),()),())).bind fun(y3:Q6) =>
     some (y3.1,()))
     (none))
    (none)):=by kernel_rfl
theorem aah(F:FT)(J:JT th)(x:Q34):bX 187 th Tryz.f187 F J x =
  (F 168 l9 ((x.1.1,(x.1.2.1,())),())).bind fun(y1:Q2) =>
  cond (decide (y1.1.1<0))
   ((F 169 ri ((x.1.1,()),())).bind fun(y2:Q6) =>
   some (y2.1,()))
   ((F 166 vh ((x.1.1,(x.1.2.2.1,())),())).bind fun(y3:Q0) =>
   cond y3.1.1
    ((F 169 ri ((x.1.1,()),())).bind fun(y4:Q6) =>
    some (y4.1,()))
    (cond (bq (List.length x.1.1) (0:Int) y1.1.1)
     (cond (bq (List.length x.1.1) (wI (y1.1.1+1)) (lI x.1.1))
      ((F 170 ox ((((cut x.1.1 (0:Int) y1.1.1)::((x.1.2.2.1::([]:List ae))::((cut x.1.1 (wI (y1.1.1+1)) (lI x.1.1))::([]:List (List ae))))),()),())).bind fun(y5:Q6) =>
      some (y5.1,()))
      (none))
     (none))):=by kernel_rfl
theorem aai(F:FT)(J:JT ow)(x:Fc):bX 188 ow Tryz.f188 F J x =
 some (((x.1.1.1,(cT .xor .i64 x.1.1.2 (1:Int))),()),()):=by kernel_rfl
theorem aaj(F:FT)(J:JT ri)(x:Q6):bX 169 ri Tryz.f169 F J x =
  cond ((lI x.1.1)==0)
   (some ((([]:List ae),()),()))
   ((F 196194 ky (x.1,())).bind fun(y1:Fc) =>
   (F 168 l9 ((x.1.1,(y1.1.1,())),())).bind fun(y2:Q2) =>
   cond (bq (List.length x.1.1) y2.1.1 (lI x.1.1))
    (cond (bq (List.length x.1.1) (0:Int) y2.1.1)
     ((F 196 oy ((((cut x.1.1 y2.1.1 (lI x.1.1))::((cut x.1.1 (0:Int) y2.1.1)::([]:List (List ae)))),()),())).bind fun(y3:Q6) =>
     some (y3.1,()))
     (none))
    (none)):=by kernel_rfl
theorem aak(F:FT)(J:JT Hq)(x:VT):bX 189 Hq Tryz.f189 F J x =
  cond x.1.1.2.2.2.2.2.2.1
   ((F 182 mV ((x.1.1.2.1,()),(x.2.1,()))).bind fun(y1:JZ) =>
   cond y1.1.2.1
    (cond ((decide ((0:Int)≤y1.1.1))&&(decide (y1.1.1<(lI y1.2.1.2.1))))
     (cond ((decide ((0:Int)≤y1.1.1))&&(decide (y1.1.1<(lI y1.2.1.2.1))))
      (some (((some ((⟨1,by decide⟩:(Fin 2)),(Int.toNat y1.1.1))),((some ((⟨1,by decide⟩:(Fin 2)),(Int.toNat y1.1.1))),())),(y1.2.1,())))
      (none))
     (none))
    (some ((none,(none,())),(y1.2.1,()))))
   ((F 175 qh ((x.1.1.2.1,()),(x.2.1,()))).bind fun(y2:JZ) =>
   cond y2.1.2.1
    (cond ((decide ((0:Int)≤y2.1.1))&&(decide (y2.1.1<(lI y2.2.1.1))))
     (cond ((decide ((0:Int)≤y2.1.1))&&(decide (y2.1.1<(lI y2.2.1.1))))
      (some (((some ((⟨0,by decide⟩:(Fin 2)),(Int.toNat y2.1.1))),((some ((⟨0,by decide⟩:(Fin 2)),(Int.toNat y2.1.1))),())),(y2.2.1,())))
      (none))
     (none))
    (some ((none,(none,())),(y2.2.1,())))):=by kernel_rfl
theorem aal(F:FT)(J:JT DT)(x:((ah×abM)×Unit)):bX 207 DT Tryz.f207 F J x =
 (F 208 Bh ((x.1.1.1,(x.1.2.1,())),())).bind fun(y1:Q2) =>
 some (y1.1,()):=by kernel_rfl
theorem aam(F:FT)(J:JT Bh)(x:((ID×abM)×Unit)):bX 208 Bh Tryz.f208 F J x =
  cond ((x.1.1.1==x.1.2.1.1)&&(x.1.1.2==x.1.2.1.2))
   (some (((0:Int),()),()))
   ((F 219 Bj ((x.1.1.1,(x.1.2.1.1,())),())).bind fun(y1:Q2) =>
   (F 219 Bj ((x.1.1.2,(x.1.2.1.2,())),())).bind fun(y2:Q2) =>
   (F 218 vj (((y1.1.1::(y2.1.1::([]:List Int))),()),())).bind fun(y3:Q2) =>
   some (y3.1,())):=by kernel_rfl
theorem aan(F:FT)(J:JT ti)(x:ZL):bX 74 ti Tryz.f74 F J x =
 (F 110108 kz ((x.1.1.1,(x.1.2.1,())),())).bind fun(y1:Q7) =>
 (F 110 yZ ((y1.1.1.2.1,()),())).bind fun(y2:Q6) =>
 some (((y1.1.1.1,(y2.1.1,y1.1.1.2.2)),y1.1.2),()):=by kernel_rfl
theorem aao(F:FT)(J:JT yw)(x:((StateT×aa7)×Unit)):bX 212 yw Tryz.f212 F J x =
 J vp (aN Tryz.prog 212 0) (((wI ((lI x.1.1.2)+1)),((0:Int),())),(((x.1.1,()),((x.1.2.1,()),((OD,()),()))),())):=by kernel_rfl
theorem Lh(F:FT)(J:JT yw)(x:(aa8×(((StateT×Unit)×(aa7×abP))×Unit))):fw 212 0 yw Tryz.f212 vp F J x =
  cond (decide (x.1.2.1<x.1.1))
   ((F 139 tj ((x.2.1.1.1.1,(x.2.1.2.1.1,())),())).bind fun(y1:P7) =>
   cond y1.1.2.1
    (some ((x.2.1.2.1.1,()),()))
    ((F 230 Hu ((x.2.1.1.1.2,(x.2.1.2.1.1,())),())).bind fun(y2:JY) =>
    cond (not y2.1.2.1)
     (some ((OD,()),()))
     (J vp (aN Tryz.prog 212 0) ((x.1.1,((wI (x.1.2.1+1)),())),(((x.2.1.1.1,()),((y2.1.1,()),((x.2.1.2.2.1.1,()),()))),())))))
   (some ((OD,()),())):=by kernel_rfl
theorem aap(F:FT)(J:JT vh)(x:Uc):bX 166 vh Tryz.f166 F J x =
 (F 168 l9 ((x.1.1,(x.1.2.1,())),())).bind fun(y1:Q2) =>
 some (((decide (y1.1.1≥0)),()),()):=by kernel_rfl
theorem aaq(F:FT)(J:JT l9)(x:Uc):bX 168 l9 Tryz.f168 F J x =
 J vq (aN Tryz.prog 168 0) ((x.1.1,((lI x.1.1),((0:Int),()))),(((x.1.2.1,()),()),())):=by kernel_rfl
theorem Li(F:FT)(J:JT l9)(x:(ab7×(abP×Unit))):fw 168 0 l9 Tryz.f168 vq F J x =
  cond (decide (x.1.2.2.1<x.1.2.1))
   (((ba x.1.1 x.1.2.2.1)).bind fun(y1:ae) =>
   cond (((x.2.1.1.1.1.1==y1.1.1)&&(x.2.1.1.1.1.2==y1.1.2))&&(x.2.1.1.1.2==y1.2))
    (some (x.1.2.2,()))
    (J vq (aN Tryz.prog 168 0) ((x.1.1,(x.1.2.1,((wI (x.1.2.2.1+1)),()))),(((x.2.1.1.1,()),()),()))))
   (some (((-1:Int),()),())):=by kernel_rfl
theorem aar(F:FT)(J:JT ox)(x:Q25):bX 170 ox Tryz.f170 F J x =
 (F 196 oy (x.1,())).bind fun(y1:Q6) =>
 (F 169 ri (y1.1,())).bind fun(y2:Q6) =>
 some (y2.1,()):=by kernel_rfl
theorem aas(F:FT)(J:JT Hr)(x:Q5):bX 204 Hr Tryz.f204 F J x =
  (F 226 Hv ((x.1.1,()),())).bind fun(y1:((Int×(Int×(Int×(Int×Unit))))×Unit)) =>
  cond ((2:Int)==0)
   (none)
   (some (((wI (y1.1.2.2.2.1-(wI (Int.tdiv (wI ((wI (y1.1.1-y1.1.2.1))+y1.1.2.2.1)) (2:Int))))),()),())):=by kernel_rfl
theorem aat(F:FT)(J:JT DU)(x:((ai×abM)×Unit)):bX 214 DU Tryz.f214 F J x =
 (F 208 Bh ((x.1.1.1,(x.1.2.1,())),())).bind fun(y1:Q2) =>
 some (y1.1,()):=by kernel_rfl
theorem aau(F:FT)(J:JT Hs)(x:(((List az)×(az×Unit))×Unit)):bX 215 Hs Tryz.f215 F J x =
  (F 233231 jv ((x.1.1,(x.1.2.1.1,())),())).bind fun(y1:((Int×(Bool×Unit))×Unit)) =>
  (F 97 JW ((x.1.1,()),())).bind fun(y2:VS) =>
  cond y1.1.2.1
   (cond ((decide ((0:Int)≤y1.1.1))&&(decide (y1.1.1<(lI y2.1.1))))
    (((y2.1.1)[(Int.toNat y1.1.1)]?).bind fun(y3:az) =>
    some (((List.set y2.1.1 (Int.toNat y1.1.1) x.1.2.1),()),()))
    (none))
   (cond (decide ((lI x.1.1)<400))
    (cond (qG y2.1.1 y1.1.1 (x.1.2.1::([]:List az)))
     (some (((gh y2.1.1 y1.1.1 (x.1.2.1::([]:List az))),()),()))
     (none))
    (some (y2.1,()))):=by kernel_rfl
theorem aav(F:FT)(J:JT Bi)(x:Uc):bX 140 Bi Tryz.f140 F J x =
 (F 167 Bk ((x.1.1,(x.1.2.1,((wI ((lI x.1.1)-1)),()))),())).bind fun(y1:JY) =>
 some (y1.1,()):=by kernel_rfl
theorem aaw(F:FT)(J:JT DV)(x:Q33):bX 195 DV Tryz.f195 F J x =
 (F 208 Bh ((x.1.1.1,(x.1.2.1.1,())),())).bind fun(y1:Q2) =>
 (F 219 Bj ((x.1.1.2,(x.1.2.1.2,())),())).bind fun(y2:Q2) =>
 (F 218 vj (((y1.1.1::(y2.1.1::([]:List Int))),()),())).bind fun(y3:Q2) =>
 some (y3.1,()):=by kernel_rfl
theorem aax(F:FT)(J:JT oy)(x:Q25):bX 196 oy Tryz.f196 F J x =
 J vt (aN Tryz.prog 196 0) ((x.1.1,((0:Int),(x.1.1,((lI x.1.1),((0:Int),()))))),((),())):=by kernel_rfl
theorem Lj(F:FT)(J:JT oy)(x:(((List (List ae))×(Int×((List (List ae))×aa8)))×abZ)):fw 196 0 oy Tryz.f196 vt F J x =
  cond (decide (x.1.2.2.2.2.1<x.1.2.2.2.1))
   (((ba x.1.2.2.1 x.1.2.2.2.2.1)).bind fun(y1:(List ae)) =>
   cond (decide ((wI (x.1.2.1+(lI y1)))<0))
    (none)
    (J vt (aN Tryz.prog 196 0) ((x.1.1,((wI (x.1.2.1+(lI y1))),(x.1.2.2.1,(x.1.2.2.2.1,((wI (x.1.2.2.2.2.1+1)),()))))),((),()))))
   (cond (qH x.1.2.1)
    (J vu (aN Tryz.prog 196 1) ((x.1.1,((lI x.1.1),((0:Int),()))),((),(([]:List ae),()))))
    (none)):=by kernel_rfl
theorem Lk(F:FT)(J:JT oy)(x:(((List (List ae))×aa8)×(Unit×abO))):fw 196 1 oy Tryz.f196 vu F J x =
  cond (decide (x.1.2.2.1<x.1.2.1))
   (((ba x.1.1 x.1.2.2.1)).bind fun(y2:(List ae)) =>
   cond (aO (List.length x.2.2.1) (List.length y2))
    (J vu (aN Tryz.prog 196 1) ((x.1.1,(x.1.2.1,((wI (x.1.2.2.1+1)),()))),((),((x.2.2.1++y2),()))))
    (none))
   (some (x.2.2,())):=by kernel_rfl
theorem aay(F:FT)(J:JT vj)(x:(abS×Unit)):bX 218 vj Tryz.f218 F J x =
 J zJ (aN Tryz.prog 218 0) (((0:Int),(x.1.1,((lI x.1.1),((0:Int),())))),((),())):=by kernel_rfl
theorem zK(F:FT)(J:JT vj)(x:((Int×((List Int)×aa8))×abZ)):fw 218 0 vj Tryz.f218 zJ F J x =
  cond (decide (x.1.2.2.2.1<x.1.2.2.1))
   (((ba x.1.2.1 x.1.2.2.2.1)).bind fun(y1:Int) =>
   cond (y1 != x.1.1)
    (some ((y1,()),()))
    (J zJ (aN Tryz.prog 218 0) ((x.1.1,(x.1.2.1,(x.1.2.2.1,((wI (x.1.2.2.2.1+1)),())))),((),()))))
   (some ((x.1.1,()),())):=by kernel_rfl
theorem aaz(F:FT)(J:JT Bj)(x:(aa8×Unit)):bX 219 Bj Tryz.f219 F J x =
  (F 235 Bl ((x.1.1,()),())).bind fun(y1:Q0) =>
  (F 235 Bl (x.1.2,())).bind fun(y2:Q0) =>
  cond y1.1.1
   (cond y2.1.1
    (some (((0:Int),()),()))
    (some (((-1:Int),()),())))
   (cond y2.1.1
    (some (((1:Int),()),()))
    (cond (decide (x.1.1<x.1.2.1))
     (some (((-1:Int),()),()))
     (cond (decide (x.1.1>x.1.2.1))
      (some (((1:Int),()),()))
      (some (((0:Int),()),()))))):=by kernel_rfl
theorem aaA(F:FT)(J:JT Ht)(x:((ah×Unit)×Unit)):bX 109 Ht Tryz.f109 F J x =
 some ((x.1.1.1,()),()):=by kernel_rfl
theorem aaB(F:FT)(J:JT tj)(x:Tn):bX 139 tj Tryz.f139 F J x =
 J vv (aN Tryz.prog 139 0) ((x.1.1.1,((lI x.1.1.1),((0:Int),()))),(((x.1.2.1,()),((OI,()),())),())):=by kernel_rfl
theorem Ll(F:FT)(J:JT tj)(x:(acj×((aa7×acg)×Unit))):fw 139 0 tj Tryz.f139 vv F J x =
  cond (decide (x.1.2.2.1<x.1.2.1))
   (((ba x.1.1 x.1.2.2.1)).bind fun(y1:ah) =>
   (F 166 vh ((y1.2.1,(x.2.1.1.1,())),())).bind fun(y2:Q0) =>
   cond y2.1.1
    (some ((y1.1,(true,())),()))
    (J vv (aN Tryz.prog 139 0) ((x.1.1,(x.1.2.1,((wI (x.1.2.2.1+1)),()))),(((x.2.1.1.1,()),((x.2.1.2.1.1,()),())),()))))
   (some ((OI,(false,())),())):=by kernel_rfl
theorem aaC(F:FT)(J:JT Hu)(x:(((List az)×aa7)×Unit)):bX 230 Hu Tryz.f230 F J x =
  (F 246244 jw ((x.1.1,()),((x.1.2.1,()),()))).bind fun(y1:((Int×Unit)×((ae×Unit)×Unit))) =>
  cond (decide (y1.1.1<0))
   (some ((OD,(false,())),()))
   (((ba x.1.1 y1.1.1)).bind fun(y2:az) =>
   some ((y2.2,(true,())),())):=by kernel_rfl
theorem aaD(F:FT)(J:JT Hv)(x:Q5):bX 226 Hv Tryz.f226 F J x =
 (F 240238 kA ((x.1.1.1,()),())).bind fun(y1:Q2) =>
 (F 240 yx ((x.1.1,()),())).bind fun(y2:Q25) =>
 (F 241 yy ((x.1.1,()),())).bind fun(y3:Q2) =>
 some (((lI x.1.1.1),((lI x.1.1.2),((wI ((lI y2.1.1)+y1.1.1)),y3.1))),()):=by kernel_rfl
theorem aaE(F:FT)(J:JT DW)(x:((az×aa7)×Unit)):bX 232 DW Tryz.f232 F J x =
 (F 195 DV ((x.1.1.1,(x.1.2.1,())),())).bind fun(y1:Q2) =>
 some (y1.1,()):=by kernel_rfl
end Go.Vs
set_option maxRecDepth 1000000
set_option maxHeartbeats 0
namespace Go.Vs
open Go.Proofs
theorem VY(F:FT)(J:JT Bk)(x:(((List ae)×(ae×aa3))×Unit)):bX 167 Bk Tryz.f167 F J x =
  (F 168 l9 ((x.1.1,(x.1.2.1,())),())).bind fun(y1:Q2) =>
  cond (decide (y1.1.1<0))
   (some ((OD,(false,())),()))
   (cond ((lI x.1.1)==0)
    (none)
    (((ba x.1.1 (Int.tmod (wI (y1.1.1+x.1.2.2.1)) (lI x.1.1)))).bind fun(y2:ae) =>
    some ((y2,(true,())),()))):=by kernel_rfl
theorem aaF(F:FT)(J:JT Bl)(x:Q2):bX 235 Bl Tryz.f235 F J x =
 some (((x.1.1 != x.1.1),()),()):=by kernel_rfl
theorem aaG(F:FT)(J:JT Hw)(x:((az×Unit)×((Int×aa8)×Unit))):bX 245 Hw Tryz.f245 F J x =
 some (((((x.1.1.1.1.1==x.2.1.1)&&(x.1.1.1.1.2==x.2.1.2.1))&&(x.1.1.1.2==x.2.1.2.2.1)),()),(x.2.1,())):=by kernel_rfl
theorem aaH(F:FT)(J:JT Hy)(x:((ah×Unit)×Unit)):bX 239 Hy Tryz.f239 F J x =
 some ((((lI x.1.1.2.1)==0),()),()):=by kernel_rfl
theorem aaI(F:FT)(J:JT vl)(x:Q5):bX 249 vl Tryz.f249 F J x =
 J vw (aN Tryz.prog 249 0) ((x.1.1.2,((lI x.1.1.2),((0:Int),()))),((),(([]:List ae),()))):=by kernel_rfl
theorem Lm(F:FT)(J:JT vl)(x:(((List ai)×aa8)×(Unit×abO))):fw 249 0 vl Tryz.f249 vw F J x =
  cond (decide (x.1.2.2.1<x.1.2.1))
   (((ba x.1.1 x.1.2.2.1)).bind fun(y1:ai) =>
   (F 188 ow (((y1.1,(0:Int)),()),())).bind fun(y2:Fc) =>
   cond (aO (List.length x.2.2.1) (List.length ((y1.1,(0:Int))::(y2.1.1::([]:List ae)))))
    (J vw (aN Tryz.prog 249 0) ((x.1.1,(x.1.2.1,((wI (x.1.2.2.1+1)),()))),((),((x.2.2.1++((y1.1,(0:Int))::(y2.1.1::([]:List ae)))),()))))
    (none))
   (some (x.2.2,())):=by kernel_rfl
theorem aaJ(F:FT)(J:JT DX)(x:Tn):bX 255 DX Tryz.f255 F J x =
  (F 139 tj ((x.1.1,(x.1.2.1,())),())).bind fun(y1:P7) =>
  cond (not y1.1.2.1)
   (some ((OD,(false,())),()))
   ((F 188 ow ((x.1.2.1,()),())).bind fun(y2:Fc) =>
   (F 258 yz ((x.1.1,(y2.1.1,())),())).bind fun(y3:JY) =>
   some (y3.1,())):=by kernel_rfl
theorem aaK(F:FT)(J:JT ia)(x:Q5):bX 256 ia Tryz.f256 F J x =
 J so (aN Tryz.prog 256 0) ((x.1.1.1,((lI x.1.1.1),((0:Int),()))),((),(([]:List Int),(([]:List (ae×Int)),())))):=by kernel_rfl
theorem Ln(F:FT)(J:JT ia)(x:(acj×(Unit×((List Int)×((List (ae×Int))×Unit))))):fw 256 0 ia Tryz.f256 so F J x =
  cond (decide (x.1.2.2.1<x.1.2.1))
   (((ba x.1.1 x.1.2.2.1)).bind fun(y1:ah) =>
   cond (aO (List.length x.2.2.1) (List.length (x.1.2.2.1::([]:List Int))))
    (J vx (aN Tryz.prog 256 1) ((x.1.2.2.1,(x.1.1,(x.1.2.1,(x.1.2.2.1,(y1.2.1,((lI y1.2.1),((0:Int),()))))))),((),((x.2.2.1++(x.1.2.2.1::([]:List Int))),x.2.2.2))))
    (none))
   (J pN (aN Tryz.prog 256 2) (x.2.2.2,((),(x.2.2.1,((none,x.2.2.2.1),()))))):=by kernel_rfl
theorem Lo(F:FT)(J:JT ia)(x:((Int×((List ah)×(Int×(Int×ab7))))×(Unit×((List Int)×((List (ae×Int))×Unit))))):fw 256 1 ia Tryz.f256 vx F J x =
  cond (decide (x.1.2.2.2.2.2.2.1<x.1.2.2.2.2.2.1))
   (((ba x.1.2.2.2.2.1 x.1.2.2.2.2.2.2.1)).bind fun(y2:ae) =>
   J vx (aN Tryz.prog 256 1) ((x.1.1,(x.1.2.1,(x.1.2.2.1,(x.1.2.2.2.1,(x.1.2.2.2.2.1,(x.1.2.2.2.2.2.1,((wI (x.1.2.2.2.2.2.2.1+1)),()))))))),((),(x.2.2.1,((mC (.pair (.pair (.int .i64) (.int .i64)) (.int .i64)) y2 x.1.1 x.2.2.2.1),())))))
   (J so (aN Tryz.prog 256 0) ((x.1.2.1,(x.1.2.2.1,((wI (x.1.2.2.2.1+1)),()))),((),x.2.2))):=by kernel_rfl
theorem Lq(F:FT)(J:JT ia)(x:(((List (ae×Int))×Unit)×(Unit×((List Int)×(((Option (ae×Int))×(List (ae×Int)))×Unit))))):fw 256 2 ia Tryz.f256 pN F J x =
  cond (List.isEmpty x.2.2.2.1.2)
   (J vz (aN Tryz.prog 256 3) (((lI x.2.2.1),((0:Int),())),((),(x.2.2.1,(([]:List Int),())))))
   (sM (List.length x.2.2.2.1.2) fun(j3:Nat) =>
   ((x.2.2.2.1.2)[j3]?).bind fun(y4:(ae×Int)) =>
   (F 188 ow ((y4.1,()),())).bind fun(y5:Fc) =>
   cond (Option.isSome (jh (.pair (.pair (.int .i64) (.int .i64)) (.int .i64)) y5.1.1 x.1.1))
    ((F 259 Hz ((y4.2,((Option.getD (jh (.pair (.pair (.int .i64) (.int .i64)) (.int .i64)) y5.1.1 x.1.1) (0:Int)),())),(x.2.2.1,()))).bind fun(y6:(Unit×((List Int)×Unit))) =>
    J pN (aN Tryz.prog 256 2) (x.1,((),(y6.2.1,(((some y4),(List.eraseIdx x.2.2.2.1.2 j3)),())))))
    (J pN (aN Tryz.prog 256 2) (x.1,((),(x.2.2.1,(((some y4),(List.eraseIdx x.2.2.2.1.2 j3)),())))))):=by kernel_rfl
theorem Lr(F:FT)(J:JT ia)(x:(aa8×(Unit×((List Int)×abS)))):fw 256 3 ia Tryz.f256 vz F J x =
  cond (decide (x.1.2.1<x.1.1))
   ((F 260 rj (x.1.2,(x.2.2.1,()))).bind fun(y7:Q35) =>
   cond (aO (List.length x.2.2.2.1) (List.length (y7.1.1::([]:List Int))))
    (J vz (aN Tryz.prog 256 3) ((x.1.1,((wI (x.1.2.1+1)),())),((),(y7.2.1,((x.2.2.2.1++(y7.1.1::([]:List Int))),())))))
    (none))
   (some (x.2.2.2,())):=by kernel_rfl
theorem aaL(F:FT)(J:JT yz)(x:Tn):bX 258 yz Tryz.f258 F J x =
 J vA (aN Tryz.prog 258 0) ((x.1.1.1,((lI x.1.1.1),((0:Int),()))),(((x.1.2.1,()),((OD,()),())),())):=by kernel_rfl
theorem Ls(F:FT)(J:JT yz)(x:(acj×((aa7×abP)×Unit))):fw 258 0 yz Tryz.f258 vA F J x =
  cond (decide (x.1.2.2.1<x.1.2.1))
   (((ba x.1.1 x.1.2.2.1)).bind fun(y1:ah) =>
   (F 261 HA ((y1.2.1,(x.2.1.1.1,())),())).bind fun(y2:JY) =>
   cond y2.1.2.1
    (some ((y2.1.1,(true,())),()))
    (J vA (aN Tryz.prog 258 0) ((x.1.1,(x.1.2.1,((wI (x.1.2.2.1+1)),()))),(((x.2.1.1.1,()),((x.2.1.2.1.1,()),())),()))))
   (some ((OD,(false,())),())):=by kernel_rfl
theorem aaM(F:FT)(J:JT Hz)(x:(aa8×abS)):bX 259 Hz Tryz.f259 F J x =
  (F 260 rj ((x.1.1,()),x.2)).bind fun(y1:Q35) =>
  (F 260 rj (x.1.2,y1.2)).bind fun(y2:Q35) =>
  cond ((decide ((0:Int)≤(max y1.1.1 y2.1.1:Int)))&&(decide ((max y1.1.1 y2.1.1:Int)<(lI y2.2.1))))
   (((y2.2.1)[(Int.toNat (max y1.1.1 y2.1.1:Int))]?).bind fun(y3:Int) =>
   some ((),((List.set y2.2.1 (Int.toNat (max y1.1.1 y2.1.1:Int)) (min y1.1.1 y2.1.1:Int)),())))
   (none):=by kernel_rfl
theorem aaN(F:FT)(J:JT rj)(x:Q35):bX 260 rj Tryz.f260 F J x =
 J sq (aN Tryz.prog 260 0) (x.1,((),x.2)):=by kernel_rfl
theorem Lt(F:FT)(J:JT rj)(x:(aa3×(Unit×abS))):fw 260 0 rj Tryz.f260 sq F J x =
  cond ((decide ((0:Int)≤x.1.1))&&(decide (x.1.1<(lI x.2.2.1))))
   (((x.2.2.1)[(Int.toNat x.1.1)]?).bind fun(y1:Int) =>
   cond (y1 != x.1.1)
    (cond ((decide ((0:Int)≤x.1.1))&&(decide (x.1.1<(lI x.2.2.1))))
     (((x.2.2.1)[(Int.toNat x.1.1)]?).bind fun(y2:Int) =>
     cond ((decide ((0:Int)≤y2))&&(decide (y2<(lI x.2.2.1))))
      (((x.2.2.1)[(Int.toNat y2)]?).bind fun(y3:Int) =>
      cond ((decide ((0:Int)≤x.1.1))&&(decide (x.1.1<(lI x.2.2.1))))
       (((x.2.2.1)[(Int.toNat x.1.1)]?).bind fun(y4:Int) =>
       cond ((decide ((0:Int)≤x.1.1))&&(decide (x.1.1<(lI (List.set x.2.2.1 (Int.toNat x.1.1) y3)))))
        ((((List.set x.2.2.1 (Int.toNat x.1.1) y3))[(Int.toNat x.1.1)]?).bind fun(y5:Int) =>
        J sq (aN Tryz.prog 260 0) ((y5,()),((),((List.set x.2.2.1 (Int.toNat x.1.1) y3),()))))
        (none))
       (none))
      (none))
     (none))
    (some (x.1,x.2.2)))
   (none):=by kernel_rfl
theorem aaO(F:FT)(J:JT HA)(x:Uc):bX 261 HA Tryz.f261 F J x =
 (F 167 Bk ((x.1.1,(x.1.2.1,((1:Int),()))),())).bind fun(y1:JY) =>
 some (y1.1,()):=by kernel_rfl
theorem QN(F:FT)(J:JT jt)(x:(((List ah)×abM)×Unit)):bX 208206 jt Tryz.f206 F J x =
 J iD (aN Tryz.prog 206 0) ((x.1.1,((lI x.1.1),((0:Int),((lI x.1.1),())))),(((x.1.2.1,()),()),())):=by kernel_rfl
theorem BE(F:FT)(J:JT jt)(x:(((List ah)×(Int×aa8))×(acg×Unit))):fw 208206 0 jt Tryz.f206 iD F J x =
  cond (decide (x.1.2.2.1<x.1.2.2.2.1))
   (cond (decide ((1:Int)<0))
    (none)
    (((ba x.1.1 (wI (kZ .u64 (IntKind.wrap .u64 (wI (x.1.2.2.1+x.1.2.2.2.1))) (1:Int))))).bind fun(y1:ah) =>
    (F 207 DT ((y1,(x.2.1.1.1,())),())).bind fun(y2:Q2) =>
    cond (decide (y2.1.1<0))
     (J iD (aN Tryz.prog 206 0) ((x.1.1,(x.1.2.1,((wI ((wI (kZ .u64 (IntKind.wrap .u64 (wI (x.1.2.2.1+x.1.2.2.2.1))) (1:Int)))+1)),x.1.2.2.2))),(((x.2.1.1.1,()),()),())))
     (J iD (aN Tryz.prog 206 0) ((x.1.1,(x.1.2.1,(x.1.2.2.1,((wI (kZ .u64 (IntKind.wrap .u64 (wI (x.1.2.2.1+x.1.2.2.2.1))) (1:Int))),())))),(((x.2.1.1.1,()),()),())))))
   (cond (decide (x.1.2.2.1<x.1.2.1))
    (((ba x.1.1 x.1.2.2.1)).bind fun(y3:ah) =>
    (F 207 DT ((y3,(x.2.1.1.1,())),())).bind fun(y4:Q2) =>
    some ((x.1.2.2.1,((y4.1.1==0),())),()))
    (some ((x.1.2.2.1,(false,())),()))):=by kernel_rfl
theorem QO(F:FT)(J:JT ju)(x:(((List ai)×abM)×Unit)):bX 215213 ju Tryz.f213 F J x =
 J iE (aN Tryz.prog 213 0) ((x.1.1,((lI x.1.1),((0:Int),((lI x.1.1),())))),(((x.1.2.1,()),()),())):=by kernel_rfl
theorem BF(F:FT)(J:JT ju)(x:(((List ai)×(Int×aa8))×(acg×Unit))):fw 215213 0 ju Tryz.f213 iE F J x =
  cond (decide (x.1.2.2.1<x.1.2.2.2.1))
   (cond (decide ((1:Int)<0))
    (none)
    (((ba x.1.1 (wI (kZ .u64 (IntKind.wrap .u64 (wI (x.1.2.2.1+x.1.2.2.2.1))) (1:Int))))).bind fun(y1:ai) =>
    (F 214 DU ((y1,(x.2.1.1.1,())),())).bind fun(y2:Q2) =>
    cond (decide (y2.1.1<0))
     (J iE (aN Tryz.prog 213 0) ((x.1.1,(x.1.2.1,((wI ((wI (kZ .u64 (IntKind.wrap .u64 (wI (x.1.2.2.1+x.1.2.2.2.1))) (1:Int)))+1)),x.1.2.2.2))),(((x.2.1.1.1,()),()),())))
     (J iE (aN Tryz.prog 213 0) ((x.1.1,(x.1.2.1,(x.1.2.2.1,((wI (kZ .u64 (IntKind.wrap .u64 (wI (x.1.2.2.1+x.1.2.2.2.1))) (1:Int))),())))),(((x.2.1.1.1,()),()),())))))
   (cond (decide (x.1.2.2.1<x.1.2.1))
    (((ba x.1.1 x.1.2.2.1)).bind fun(y3:ai) =>
    (F 214 DU ((y3,(x.2.1.1.1,())),())).bind fun(y4:Q2) =>
    some ((x.1.2.2.1,((y4.1.1==0),())),()))
    (some ((x.1.2.2.1,(false,())),()))):=by kernel_rfl
theorem QP(F:FT)(J:JT ky)(x:Q6):bX 196194 ky Tryz.f194 F J x =
  cond (decide ((lI x.1.1)<1))
   (none)
   (((ba x.1.1 (0:Int))).bind fun(y1:ae) =>
   J jW (aN Tryz.prog 194 0) ((x.1.1,((1:Int),())),(((OD,()),((y1,()),())),()))):=by kernel_rfl
theorem BG(F:FT)(J:JT ky)(x:(ab0×((aa7×abP)×Unit))):fw 196194 0 ky Tryz.f194 jW F J x =
  cond (decide (x.1.2.1<(lI x.1.1)))
   (((ba x.1.1 x.1.2.1)).bind fun(y2:ae) =>
   (F 195 DV ((y2,(x.2.1.2.1.1,())),())).bind fun(y3:Q2) =>
   cond (decide (y3.1.1<0))
    (((ba x.1.1 x.1.2.1)).bind fun(y4:ae) =>
    J jW (aN Tryz.prog 194 0) ((x.1.1,((wI (x.1.2.1+1)),())),(((x.2.1.1.1,()),((y4,()),())),())))
    (J jW (aN Tryz.prog 194 0) ((x.1.1,((wI (x.1.2.1+1)),())),(((x.2.1.1.1,()),((x.2.1.2.1.1,()),())),()))))
   (some ((x.2.1.2.1.1,()),())):=by kernel_rfl
theorem QQ(F:FT)(J:JT kz)(x:(((List ah)×abM)×Unit)):bX 110108 kz Tryz.f108 F J x =
 J mg (aN Tryz.prog 108 0) ((x.1.1,((lI x.1.1),((0:Int),()))),(((x.1.2.1,()),(((0:Int),((0:Int),(([]:List ae),(OB,((0:Int),()))))),())),())):=by kernel_rfl
theorem BH(F:FT)(J:JT kz)(x:(acj×(aci×Unit))):fw 110108 0 kz Tryz.f108 mg F J x =
  cond (decide (x.1.2.2.1<x.1.2.1))
   (((ba x.1.1 x.1.2.2.1)).bind fun(y1:ah) =>
   (F 109 Ht ((y1,()),())).bind fun(y2:((ID×Unit)×Unit)) =>
   cond ((y2.1.1.1==x.2.1.1.1.1)&&(y2.1.1.2==x.2.1.1.1.2))
    (some ((y1,(true,())),()))
    (J mg (aN Tryz.prog 108 0) ((x.1.1,(x.1.2.1,((wI (x.1.2.2.1+1)),()))),(((x.2.1.1.1,()),(x.2.1.2.1,())),()))))
   (some (((OI,(([]:List ae),(OB,(0:Int)))),(false,())),())):=by kernel_rfl
theorem QR(F:FT)(J:JT jv)(x:(((List az)×aa7)×Unit)):bX 233231 jv Tryz.f231 F J x =
 J iF (aN Tryz.prog 231 0) ((x.1.1,((lI x.1.1),((0:Int),((lI x.1.1),())))),(((x.1.2.1,()),()),())):=by kernel_rfl
theorem BI(F:FT)(J:JT jv)(x:(((List az)×(Int×aa8))×(abP×Unit))):fw 233231 0 jv Tryz.f231 iF F J x =
  cond (decide (x.1.2.2.1<x.1.2.2.2.1))
   (cond (decide ((1:Int)<0))
    (none)
    (((ba x.1.1 (wI (kZ .u64 (IntKind.wrap .u64 (wI (x.1.2.2.1+x.1.2.2.2.1))) (1:Int))))).bind fun(y1:az) =>
    (F 232 DW ((y1,(x.2.1.1.1,())),())).bind fun(y2:Q2) =>
    cond (decide (y2.1.1<0))
     (J iF (aN Tryz.prog 231 0) ((x.1.1,(x.1.2.1,((wI ((wI (kZ .u64 (IntKind.wrap .u64 (wI (x.1.2.2.1+x.1.2.2.2.1))) (1:Int)))+1)),x.1.2.2.2))),(((x.2.1.1.1,()),()),())))
     (J iF (aN Tryz.prog 231 0) ((x.1.1,(x.1.2.1,(x.1.2.2.1,((wI (kZ .u64 (IntKind.wrap .u64 (wI (x.1.2.2.1+x.1.2.2.2.1))) (1:Int))),())))),(((x.2.1.1.1,()),()),())))))
   (cond (decide (x.1.2.2.1<x.1.2.1))
    (((ba x.1.1 x.1.2.2.1)).bind fun(y3:az) =>
    (F 232 DW ((y3,(x.2.1.1.1,())),())).bind fun(y4:Q2) =>
    some ((x.1.2.2.1,((y4.1.1==0),())),()))
    (some ((x.1.2.2.1,(false,())),()))):=by kernel_rfl
theorem QS(F:FT)(J:JT jw)(x:(((List az)×Unit)×abP)):bX 246244 jw Tryz.f244 F J x =
 J jX (aN Tryz.prog 244 0) ((x.1.1,((lI x.1.1),((0:Int),()))),(((x.2.1.1,()),()),())):=by kernel_rfl
theorem BJ(F:FT)(J:JT jw)(x:(((List az)×aa8)×(abP×Unit))):fw 246244 0 jw Tryz.f244 jX F J x =
  cond (decide (x.1.2.2.1<x.1.2.1))
   (((ba x.1.1 x.1.2.2.1)).bind fun(y1:az) =>
   (F 245 Hw ((y1,()),((x.2.1.1.1.1.1,(x.2.1.1.1.1.2,(x.2.1.1.1.2,()))),()))).bind fun(y2:((Bool×Unit)×((Int×(Int×(Int×Unit)))×Unit))) =>
   cond y2.1.1
    (some (x.1.2.2,((((y2.2.1.1,y2.2.1.2.1),y2.2.1.2.2.1),()),())))
    (J jX (aN Tryz.prog 244 0) ((x.1.1,(x.1.2.1,((wI (x.1.2.2.1+1)),()))),(((((y2.2.1.1,y2.2.1.2.1),y2.2.1.2.2.1),()),()),()))))
   (some (((-1:Int),()),((x.2.1.1.1,()),()))):=by kernel_rfl
theorem QT(F:FT)(J:JT kA)(x:(((List ah)×Unit)×Unit)):bX 240238 kA Tryz.f238 F J x =
 J jY (aN Tryz.prog 238 0) (((0:Int),(x.1.1,((lI x.1.1),((0:Int),())))),((),())):=by kernel_rfl
theorem BL(F:FT)(J:JT kA)(x:((Int×acj)×abZ)):fw 240238 0 kA Tryz.f238 jY F J x =
  cond (decide (x.1.2.2.2.1<x.1.2.2.1))
   (((ba x.1.2.1 x.1.2.2.2.1)).bind fun(y1:ah) =>
   (F 239 Hy ((y1,()),())).bind fun(y2:Q0) =>
   cond y2.1.1
    (J jY (aN Tryz.prog 238 0) (((wI (x.1.1+1)),(x.1.2.1,(x.1.2.2.1,((wI (x.1.2.2.2.1+1)),())))),((),())))
    (J jY (aN Tryz.prog 238 0) ((x.1.1,(x.1.2.1,(x.1.2.2.1,((wI (x.1.2.2.2.1+1)),())))),((),()))))
   (some ((x.1.1,()),())):=by kernel_rfl
end Go.Vs
