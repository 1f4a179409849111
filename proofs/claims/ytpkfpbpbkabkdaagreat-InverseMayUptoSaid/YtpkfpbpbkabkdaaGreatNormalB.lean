/- Normal forms of the program's functions, the second part. -/
import Derived.Test.YtpkfpbpbkabkdaaGreatEngineD
import Derived.KernelRfl
set_option linter.unusedVariables false
set_option maxRecDepth 1000000
set_option maxHeartbeats 0
namespace Go.Vs
open Go.Proofs
theorem aeM(F:FT)(J:JT PX)(x:Ub):bX 45 PX Tryz.f45 F J x =
  (F 46 M8 ((x.1.2.1,()),())).bind fun(y1:Q2) =>
  cond (y1.1.1 != 0)
   (some ((OS,y1.1),()))
   ((F 79 qp ((x.1.1.1,(x.1.2.1.2.1,())),())).bind fun(y2:Q7) =>
   cond (x.1.2.1.1==1)
    (cond y2.1.2.1
     (some ((OS,((12:Int),())),()))
     (cond (decide ((lI x.1.1.1.1)≥24))
      (some ((OS,((3:Int),())),()))
      ((F 80 E7 ((x.1.1.1,((x.1.2.1.2.1,(([]:List ae),(OB,(0:Int)))),())),())).bind fun(y3:Q5) =>
      some (((y3.1.1,x.1.1.2),((0:Int),())),()))))
    (cond (x.1.2.1.1==2)
     (cond (not y2.1.2.1)
      (some ((OS,((13:Int),())),()))
      (cond (decide ((lI y2.1.1.2.1)>0))
       (some ((OS,((14:Int),())),()))
       ((F 81 pJ ((x.1.1.1,(x.1.2.1.2.1,(OI,()))),())).bind fun(y4:Q5) =>
       some (((y4.1.1,x.1.1.2),((0:Int),())),()))))
     (cond (x.1.2.1.1==3)
      ((F 82 PY ((x.1.1,(x.1.2.1,())),())).bind fun(y5:Q1) =>
      some (y5.1,()))
      (cond (x.1.2.1.1==4)
       ((F 83 PZ ((x.1.1,(x.1.2.1,())),())).bind fun(y6:Q1) =>
       some (y6.1,()))
       (cond (x.1.2.1.1==5)
        ((F 84 P0 ((x.1.1,(x.1.2.1,())),())).bind fun(y7:Q1) =>
        some (y7.1,()))
        (cond (x.1.2.1.1==6)
         ((F 85 yV ((x.1.1,(x.1.2.1,())),())).bind fun(y8:Q1) =>
         some (y8.1,()))
         ((F 86 A7 ((x.1.1,(x.1.2.1,())),())).bind fun(y9:Q1) =>
         some (y9.1,())))))))):=by kernel_rfl
theorem aeN(F:FT)(J:JT qp)(x:ZL):bX 79 qp Tryz.f79 F J x =
 J Bn (aN Tryz.prog 79 0) (((0:Int),()),(((x.1.1,()),((x.1.2.1,()),(((0:Int),((0:Int),(([]:List ae),(OB,((0:Int),()))))),()))),())):=by kernel_rfl
theorem P9(F:FT)(J:JT qp)(x:(aa3×((abT×aci)×Unit))):fw 79 0 qp Tryz.f79 Bn F J x =
  cond (decide (x.1.1<(lI x.2.1.1.1.1)))
   (((ba x.2.1.1.1.1 x.1.1)).bind fun(y1:ah) =>
   cond ((y1.1.1==x.2.1.2.1.1.1)&&(y1.1.2==x.2.1.2.1.1.2))
    (((ba x.2.1.1.1.1 x.1.1)).bind fun(y2:ah) =>
    some ((y2,(true,())),()))
    (J Bn (aN Tryz.prog 79 0) (((wI (x.1.1+1)),()),(((x.2.1.1.1,()),((x.2.1.2.1.1,()),(x.2.1.2.2.1,()))),()))))
   (some (((OI,(([]:List ae),(OB,(0:Int)))),(false,())),())):=by kernel_rfl
theorem aeO(F:FT)(J:JT yT)(x:acg):bX 87 yT Tryz.f87 F J x =
  cond (decide (x.1.1.1≥1))
   (cond (decide (x.1.1.1≤8))
    (cond (decide (x.1.1.2≥1))
     (some (((decide (x.1.1.2≤1048576)),()),()))
     (some ((false,()),())))
    (some ((false,()),())))
   (some ((false,()),())):=by kernel_rfl
theorem aeP(F:FT)(J:JT tZ)(x:Tn):bX 124 tZ Tryz.f124 F J x =
 J Bo (aN Tryz.prog 124 0) (((0:Int),()),(((x.1.1,()),((x.1.2.1,()),((OI,()),()))),())):=by kernel_rfl
theorem Qa(F:FT)(J:JT tZ)(x:(aa3×((abT×(aa7×acg))×Unit))):fw 124 0 tZ Tryz.f124 Bo F J x =
  cond (decide (x.1.1<(lI x.2.1.1.1.1)))
   (((ba x.2.1.1.1.1 x.1.1)).bind fun(y1:ah) =>
   (F 144 q9 ((y1.2.1,(x.2.1.2.1.1,())),())).bind fun(y2:Q2) =>
   cond (decide (y2.1.1≥0))
    (((ba x.2.1.1.1.1 x.1.1)).bind fun(y3:ah) =>
    some ((y3.1,(true,())),()))
    (J Bo (aN Tryz.prog 124 0) (((wI (x.1.1+1)),()),(((x.2.1.1.1,()),((x.2.1.2.1.1,()),((x.2.1.2.2.1.1,()),()))),()))))
   (some ((OI,(false,())),())):=by kernel_rfl
theorem aeQ(F:FT)(J:JT wP)(x:ZL):bX 92 wP Tryz.f92 F J x =
 J Bp (aN Tryz.prog 92 0) (((0:Int),()),(((x.1.1,()),((x.1.2.1,()),(((OI,(OB,(0:Int))),()),()))),())):=by kernel_rfl
theorem Qb(F:FT)(J:JT wP)(x:(aa3×((abT×(abM×((ai×Unit)×Unit)))×Unit))):fw 92 0 wP Tryz.f92 Bp F J x =
  cond (decide (x.1.1<(lI x.2.1.1.1.2)))
   (((ba x.2.1.1.1.2 x.1.1)).bind fun(y1:ai) =>
   cond ((y1.1.1==x.2.1.2.1.1.1)&&(y1.1.2==x.2.1.2.1.1.2))
    (((ba x.2.1.1.1.2 x.1.1)).bind fun(y2:ai) =>
    some ((y2,(true,())),()))
    (J Bp (aN Tryz.prog 92 0) (((wI (x.1.1+1)),()),(((x.2.1.1.1,()),((x.2.1.2.1.1,()),((x.2.1.2.2.1.1,()),()))),()))))
   (some (((OI,(OB,(0:Int))),(false,())),())):=by kernel_rfl
theorem aeR(F:FT)(J:JT G9)(x:Tn):bX 192 G9 Tryz.f192 F J x =
  (F 216 M9 ((x.1.1,(x.1.2.1,())),())).bind fun(y1:JY) =>
  cond (not y1.1.2.1)
   (some ((([]:List ae),()),()))
   (cond (aO (List.length ([]:List ae)) (List.length (x.1.2.1::([]:List ae))))
    (J Bq (aN Tryz.prog 192 0) ((),(((x.1.1,()),((x.1.2.1,()),((y1.1.1,()),()))),((([]:List ae)++(x.1.2.1::([]:List ae))),()))))
    (none)):=by kernel_rfl
theorem Qc(F:FT)(J:JT G9)(x:(Unit×((abT×(aa7×abP))×abO))):fw 192 0 G9 Tryz.f192 Bq F J x =
  cond (not (((x.2.1.2.2.1.1.1.1==x.2.1.2.1.1.1.1)&&(x.2.1.2.2.1.1.1.2==x.2.1.2.1.1.1.2))&&(x.2.1.2.2.1.1.2==x.2.1.2.1.1.2)))
   (cond (decide ((lI x.2.2.1)<82))
    (cond (aO (List.length x.2.2.1) (List.length (x.2.1.2.2.1.1::([]:List ae))))
     ((F 216 M9 ((x.2.1.1.1,(x.2.1.2.2.1.1,())),())).bind fun(y2:JY) =>
     J Bq (aN Tryz.prog 192 0) ((),(((x.2.1.1.1,()),((x.2.1.2.1.1,()),((y2.1.1,()),()))),((x.2.2.1++(x.2.1.2.2.1.1::([]:List ae))),()))))
     (none))
    (some (x.2.2,())))
   (some (x.2.2,())):=by kernel_rfl
theorem aeS(F:FT)(J:JT C4)(x:Fc):bX 121 C4 Tryz.f121 F J x =
 some (((x.1.1.1,(wI ((1:Int)-x.1.1.2))),()),()):=by kernel_rfl
theorem aeT(F:FT)(J:JT q9)(x:Uc):bX 144 q9 Tryz.f144 F J x =
 J Br (aN Tryz.prog 144 0) ((x.1.1,((0:Int),())),(((x.1.2.1,()),()),())):=by kernel_rfl
theorem Qd(F:FT)(J:JT q9)(x:(ab0×(abP×Unit))):fw 144 0 q9 Tryz.f144 Br F J x =
  cond (decide (x.1.2.1<(lI x.1.1)))
   (((ba x.1.1 x.1.2.1)).bind fun(y1:ae) =>
   cond (((y1.1.1==x.2.1.1.1.1.1)&&(y1.1.2==x.2.1.1.1.1.2))&&(y1.2==x.2.1.1.1.2))
    (some (x.1.2,()))
    (J Br (aN Tryz.prog 144 0) ((x.1.1,((wI (x.1.2.1+1)),())),(((x.2.1.1.1,()),()),()))))
   (some (((-1:Int),()),())):=by kernel_rfl
theorem aeU(F:FT)(J:JT M6)(x:Uc):bX 148 M6 Tryz.f148 F J x =
  (F 144 q9 ((x.1.1,(x.1.2.1,())),())).bind fun(y1:Q2) =>
  cond (decide (y1.1.1<0))
   (some ((OD,(false,())),()))
   (cond ((lI x.1.1)==0)
    (none)
    (((ba x.1.1 (Int.tmod (wI ((wI (y1.1.1+(lI x.1.1)))-1)) (lI x.1.1)))).bind fun(y2:ae) =>
    some ((y2,(true,())),()))):=by kernel_rfl
theorem aeV(F:FT)(J:JT wQ)(x:((ByteArray×Unit)×Unit)):bX 91 wQ Tryz.f91 F J x =
 J Bu (aN Tryz.prog 91 0) ((x.1.1,((0:Int),())),((),())):=by kernel_rfl
theorem Qe(F:FT)(J:JT wQ)(x:((ByteArray×aa3)×abZ)):fw 91 0 wQ Tryz.f91 Bu F J x =
  cond (decide (x.1.2.1<(((ByteArray.size x.1.1):Nat):Int)))
   (((if 0≤x.1.2.1 then(x.1.1)[Int.toNat x.1.2.1]? else none)).bind fun(y1:UInt8) =>
   cond (decide (((UInt8.toNat y1:Nat):Int)<32))
    (some ((false,()),()))
    (((if 0≤x.1.2.1 then(x.1.1)[Int.toNat x.1.2.1]? else none)).bind fun(y2:UInt8) =>
    cond (decide (((UInt8.toNat y2:Nat):Int)>126))
     (some ((false,()),()))
     (J Bu (aN Tryz.prog 91 0) ((x.1.1,((wI (x.1.2.1+1)),())),((),())))))
   (some (((decide ((((ByteArray.size x.1.1):Nat):Int)≤16)),()),())):=by kernel_rfl
theorem aeW(F:FT)(J:JT yU)(x:Q2):bX 90 yU Tryz.f90 F J x =
  cond (decide (x.1.1≥(-1099511627776:Int)))
   (some (((decide (x.1.1≤1099511627776)),()),()))
   (some ((false,()),())):=by kernel_rfl
theorem aeX(F:FT)(J:JT Hc)(x:Q5):bX 164 Hc Tryz.f164 F J x =
 (F 191 E8 ((x.1.1,()),())).bind fun(y1:Q6) =>
 J wS (aN Tryz.prog 164 0) (((0:Int),()),(((x.1.1,()),()),(([]:List (List ae)),(([]:List ae),y1.1)))):=by kernel_rfl
theorem Qf(F:FT)(J:JT Hc)(x:(aa3×(aa9×((List (List ae))×((List ae)×abO))))):fw 164 0 Hc Tryz.f164 wS F J x =
  cond (decide (x.1.1<(lI x.2.2.2.2.1)))
   (cond ((decide ((0:Int)≤x.1.1))&&(decide (x.1.1<(lI x.2.2.2.2.1))))
    (((x.2.2.2.2.1)[(Int.toNat x.1.1)]?).bind fun(y2:ae) =>
    (F 144 q9 ((x.2.2.2.1,(y2,())),())).bind fun(y3:Q2) =>
    cond (decide (y3.1.1≥0))
     (J wS (aN Tryz.prog 164 0) (((wI (x.1.1+1)),()),(((x.2.1.1.1,()),()),x.2.2)))
     (cond ((decide ((0:Int)≤x.1.1))&&(decide (x.1.1<(lI x.2.2.2.2.1))))
      (((x.2.2.2.2.1)[(Int.toNat x.1.1)]?).bind fun(y4:ae) =>
      (F 192 G9 ((x.2.1.1.1,(y4,())),())).bind fun(y5:Q6) =>
      cond (aO (List.length x.2.2.1) (List.length (y5.1.1::([]:List (List ae)))))
       (cond (aO (List.length x.2.2.2.1) (List.length y5.1.1))
        (J wS (aN Tryz.prog 164 0) (((wI (x.1.1+1)),()),(((x.2.1.1.1,()),()),((x.2.2.1++(y5.1.1::([]:List (List ae)))),((x.2.2.2.1++y5.1.1),x.2.2.2.2)))))
        (none))
       (none))
      (none)))
    (none))
   (some ((x.2.2.1,()),())):=by kernel_rfl
theorem aeY(F:FT)(J:JT Hd)(x:Q5):bX 165 Hd Tryz.f165 F J x =
 (F 193 sO ((x.1.1,()),())).bind fun(y1:(((List Int)×Unit)×Unit)) =>
 J wT (aN Tryz.prog 165 0) (((0:Int),((0:Int),())),((),y1.1)):=by kernel_rfl
theorem Qg(F:FT)(J:JT Hd)(x:(aa8×(Unit×abS))):fw 165 0 Hd Tryz.f165 wT F J x =
  cond (decide (x.1.2.1<(lI x.2.2.1)))
   (cond ((decide ((0:Int)≤x.1.2.1))&&(decide (x.1.2.1<(lI x.2.2.1))))
    (((x.2.2.1)[(Int.toNat x.1.2.1)]?).bind fun(y2:Int) =>
    cond (y2==x.1.2.1)
     (J wT (aN Tryz.prog 165 0) (((wI (x.1.1+1)),((wI (x.1.2.1+1)),())),((),x.2.2)))
     (J wT (aN Tryz.prog 165 0) ((x.1.1,((wI (x.1.2.1+1)),())),((),x.2.2))))
    (none))
   (some ((x.1.1,()),())):=by kernel_rfl
theorem aeZ(F:FT)(J:JT C5)(x:Q5):bX 21 C5 Tryz.f21 F J x =
  cond (aO (List.length ([]:List ai)) (List.length x.1.1.2))
   (J Bv (aN Tryz.prog 21 0) (((0:Int),()),(((x.1.1,()),((([]:List ah),(([]:List ai),())),((([]:List ah),((([]:List ai)++x.1.1.2),())),()))),())))
   (none):=by kernel_rfl
theorem Qh(F:FT)(J:JT C5)(x:(aa3×((abT×aa4)×Unit))):fw 21 0 C5 Tryz.f21 Bv F J x =
  cond (decide (x.1.1<(lI x.2.1.1.1.1)))
   (((ba x.2.1.1.1.1 x.1.1)).bind fun(y1:ah) =>
   cond (aO (List.length ([]:List ae)) (List.length y1.2.1))
    (cond (aO (List.length x.2.1.2.2.1.1) (List.length ((y1.1,((([]:List ae)++y1.2.1),y1.2.2))::([]:List ah))))
     (J Bv (aN Tryz.prog 21 0) (((wI (x.1.1+1)),()),(((x.2.1.1.1,()),(x.2.1.2.1,(((x.2.1.2.2.1.1++((y1.1,((([]:List ae)++y1.2.1),y1.2.2))::([]:List ah))),x.2.1.2.2.1.2),()))),())))
     (none))
    (none))
   (some ((x.2.1.2.2.1,()),())):=by kernel_rfl
theorem ae0(F:FT)(J:JT E6)(x:Q5):bX 72 E6 Tryz.f72 F J x =
  (F 106 qq ((x.1.1,()),())).bind fun(y1:Q2) =>
  cond (y1.1.1 != 0)
   (some (y1.1,()))
   ((F 107 E9 ((x.1.1,()),())).bind fun(y2:Q2) =>
   cond (y2.1.1 != 0)
    (some (((11:Int),()),()))
    (some (((0:Int),()),()))):=by kernel_rfl
theorem ae1(F:FT)(J:JT M7)(x:(acd×Unit)):bX 104 M7 Tryz.f104 F J x =
  (F 132 P1 ((x.1.1,()),())).bind fun(y1:((bj×(Int×Unit))×Unit)) =>
  cond (not ((y1.1.1.1==x.1.1.1)&&(((y1.1.1.2.1.1==x.1.1.2.1.1)&&(y1.1.1.2.1.2==x.1.1.2.1.2))&&(((y1.1.1.2.2.1.1==x.1.1.2.2.1.1)&&(y1.1.1.2.2.1.2==x.1.1.2.2.1.2))&&(((y1.1.1.2.2.2.1.1==x.1.1.2.2.2.1.1)&&(y1.1.1.2.2.2.1.2==x.1.1.2.2.2.1.2))&&((((y1.1.1.2.2.2.2.1.1.1==x.1.1.2.2.2.2.1.1.1)&&(y1.1.1.2.2.2.2.1.1.2==x.1.1.2.2.2.2.1.1.2))&&(((y1.1.1.2.2.2.2.1.2.1.1==x.1.1.2.2.2.2.1.2.1.1)&&(y1.1.1.2.2.2.2.1.2.1.2==x.1.1.2.2.2.2.1.2.1.2))&&(y1.1.1.2.2.2.2.1.2.2==x.1.1.2.2.2.2.1.2.2)))&&((((y1.1.1.2.2.2.2.2.1.1.1==x.1.1.2.2.2.2.2.1.1.1)&&(y1.1.1.2.2.2.2.2.1.1.2==x.1.1.2.2.2.2.2.1.1.2))&&(((y1.1.1.2.2.2.2.2.1.2.1.1==x.1.1.2.2.2.2.2.1.2.1.1)&&(y1.1.1.2.2.2.2.2.1.2.1.2==x.1.1.2.2.2.2.2.1.2.1.2))&&(y1.1.1.2.2.2.2.2.1.2.2==x.1.1.2.2.2.2.2.1.2.2)))&&((y1.1.1.2.2.2.2.2.2.1==x.1.1.2.2.2.2.2.2.1)&&((y1.1.1.2.2.2.2.2.2.2.1==x.1.1.2.2.2.2.2.2.2.1)&&(y1.1.1.2.2.2.2.2.2.2.2==x.1.1.2.2.2.2.2.2.2.2))))))))))
   (some (((1:Int),()),()))
   (some (y1.1.2,())):=by kernel_rfl
theorem ae2(F:FT)(J:JT JV)(x:Q16):bX 103 JV Tryz.f103 F J x =
 (F 96 Hf ((x.1.1.1,()),())).bind fun(y1:Q26) =>
 (F 97 JW ((x.1.1.2,()),())).bind fun(y2:VS) =>
 J Fe (aN Tryz.prog 103 0) ((x.1.2.1,((lI x.1.2.1),((0:Int),()))),((OW,((y1.1.1.1,(y1.1.1.2.1,y2.1)),())),())):=by kernel_rfl
theorem Qi(F:FT)(J:JT JV)(x:(((List bj)×aa8)×((aW×acf)×Unit))):fw 103 0 JV Tryz.f103 Fe F J x =
  cond (decide (x.1.2.2.1<x.1.2.1))
   (((ba x.1.1 x.1.2.2.1)).bind fun(y3:bj) =>
   (F 131 A8 ((y3,()),(x.2.1.2.1,()))).bind fun(y4:P8) =>
   cond (y4.1.1 != 0)
    (some ((OS,y4.1),()))
    (J Fe (aN Tryz.prog 103 0) ((x.1.1,(x.1.2.1,((wI (x.1.2.2.1+1)),()))),((x.2.1.1,(y4.2.1,())),()))))
   (some ((((x.2.1.2.1.1,x.2.1.2.1.2.1),x.2.1.2.1.2.2.1),((0:Int),())),())):=by kernel_rfl
theorem ae3(F:FT)(J:JT M8)(x:(acd×Unit)):bX 46 M8 Tryz.f46 F J x =
  (F 87 yT ((x.1.1.2.1,()),())).bind fun(y1:Q0) =>
  cond (decide (x.1.1.1<1))
   (some (((1:Int),()),()))
   (cond (decide (x.1.1.1>8))
    (some (((1:Int),()),()))
    (cond (not y1.1.1)
     (some (((1:Int),()),()))
     ((F 88 Na ((x.1.1,()),())).bind fun(y2:((bj×Unit)×Unit)) =>
     cond (not ((y2.1.1.1==0)&&(((y2.1.1.2.1.1==0)&&(y2.1.1.2.1.2==0))&&(((y2.1.1.2.2.1.1==0)&&(y2.1.1.2.2.1.2==0))&&(((y2.1.1.2.2.2.1.1==0)&&(y2.1.1.2.2.2.1.2==0))&&((((y2.1.1.2.2.2.2.1.1.1==0)&&(y2.1.1.2.2.2.2.1.1.2==0))&&(((y2.1.1.2.2.2.2.1.2.1.1==0)&&(y2.1.1.2.2.2.2.1.2.1.2==0))&&(y2.1.1.2.2.2.2.1.2.2==0)))&&((((y2.1.1.2.2.2.2.2.1.1.1==0)&&(y2.1.1.2.2.2.2.2.1.1.2==0))&&(((y2.1.1.2.2.2.2.2.1.2.1.1==0)&&(y2.1.1.2.2.2.2.2.1.2.1.2==0))&&(y2.1.1.2.2.2.2.2.1.2.2==0)))&&((y2.1.1.2.2.2.2.2.2.1==false)&&((y2.1.1.2.2.2.2.2.2.2.1==OB)&&(y2.1.1.2.2.2.2.2.2.2.2==0))))))))))
      (some (((1:Int),()),()))
      (cond (x.1.1.1==3)
       ((F 89 Nb ((x.1.1.2.2.2.2.1,()),())).bind fun(y3:Q0) =>
       (F 89 Nb ((x.1.1.2.2.2.2.2.1,()),())).bind fun(y4:Q0) =>
       cond (not y3.1.1)
        (some (((1:Int),()),()))
        (cond (not y4.1.1)
         (some (((1:Int),()),()))
         (some (((0:Int),()),()))))
       (cond (x.1.1.1==5)
        ((F 87 yT ((x.1.1.2.2.1,()),())).bind fun(y5:Q0) =>
        (F 87 yT ((x.1.1.2.2.2.1,()),())).bind fun(y6:Q0) =>
        cond (not y5.1.1)
         (some (((1:Int),()),()))
         (cond (not y6.1.1)
          (some (((1:Int),()),()))
          (cond (decide (x.1.1.2.2.2.2.2.2.2.2<0))
           (some (((1:Int),()),()))
           (cond (decide (x.1.1.2.2.2.2.2.2.2.2>3))
            (some (((1:Int),()),()))
            (some (((0:Int),()),()))))))
        (cond (x.1.1.1==6)
         ((F 87 yT ((x.1.1.2.2.2.1,()),())).bind fun(y7:Q0) =>
         cond (not y7.1.1)
          (some (((1:Int),()),()))
          (some (((0:Int),()),())))
         (cond (x.1.1.1==8)
          ((F 90 yU ((x.1.1.2.2.2.2.2.2.2.2,()),())).bind fun(y8:Q0) =>
          cond (not y8.1.1)
           (some (((1:Int),()),()))
           (some (((0:Int),()),())))
          (cond (x.1.1.1==7)
           ((F 91 wQ ((x.1.1.2.2.2.2.2.2.2.1,()),())).bind fun(y9:Q0) =>
           cond (not y9.1.1)
            (some (((4:Int),()),()))
            (some (((0:Int),()),())))
           (some (((0:Int),()),())))))))))):=by kernel_rfl
theorem ae4(F:FT)(J:JT E7)(x:((aj×(ah×Unit))×Unit)):bX 80 E7 Tryz.f80 F J x =
 J ua (aN Tryz.prog 80 0) ((false,((0:Int),())),(((x.1.1,()),((x.1.2.1,()),((([]:List ah),(([]:List ai),())),((([]:List ah),(x.1.1.2,())),())))),())):=by kernel_rfl
theorem Qj(F:FT)(J:JT E7)(x:((Bool×aa3)×((abT×((ah×Unit)×aa4))×Unit))):fw 80 0 E7 Tryz.f80 ua F J x =
  cond (decide (x.1.2.1<(lI x.2.1.1.1.1)))
   (cond (not x.1.1)
    (((ba x.2.1.1.1.1 x.1.2.1)).bind fun(y1:ah) =>
    (F 105 Fa ((x.2.1.2.1.1.1,(y1.1,())),())).bind fun(y2:Q2) =>
    cond (decide (y2.1.1<0))
     (cond (aO (List.length x.2.1.2.2.2.1.1) (List.length (x.2.1.2.1.1::([]:List ah))))
      (((ba x.2.1.1.1.1 x.1.2.1)).bind fun(y3:ah) =>
      cond (aO (List.length (x.2.1.2.2.2.1.1++(x.2.1.2.1.1::([]:List ah)))) (List.length (y3::([]:List ah))))
       (J ua (aN Tryz.prog 80 0) ((true,((wI (x.1.2.1+1)),())),(((x.2.1.1.1,()),((x.2.1.2.1.1,()),(x.2.1.2.2.1,((((x.2.1.2.2.2.1.1++(x.2.1.2.1.1::([]:List ah)))++(y3::([]:List ah))),x.2.1.2.2.2.1.2),())))),())))
       (none))
      (none))
     (((ba x.2.1.1.1.1 x.1.2.1)).bind fun(y4:ah) =>
     cond (aO (List.length x.2.1.2.2.2.1.1) (List.length (y4::([]:List ah))))
      (J ua (aN Tryz.prog 80 0) ((x.1.1,((wI (x.1.2.1+1)),())),(((x.2.1.1.1,()),((x.2.1.2.1.1,()),(x.2.1.2.2.1,(((x.2.1.2.2.2.1.1++(y4::([]:List ah))),x.2.1.2.2.2.1.2),())))),())))
      (none)))
    (((ba x.2.1.1.1.1 x.1.2.1)).bind fun(y5:ah) =>
    cond (aO (List.length x.2.1.2.2.2.1.1) (List.length (y5::([]:List ah))))
     (J ua (aN Tryz.prog 80 0) ((x.1.1,((wI (x.1.2.1+1)),())),(((x.2.1.1.1,()),((x.2.1.2.1.1,()),(x.2.1.2.2.1,(((x.2.1.2.2.2.1.1++(y5::([]:List ah))),x.2.1.2.2.2.1.2),())))),())))
     (none)))
   (cond (not x.1.1)
    (cond (aO (List.length x.2.1.2.2.2.1.1) (List.length (x.2.1.2.1.1::([]:List ah))))
     (some ((((x.2.1.2.2.2.1.1++(x.2.1.2.1.1::([]:List ah))),x.2.1.2.2.2.1.2.1),()),()))
     (none))
    (some (((x.2.1.2.2.2.1.1,x.2.1.2.2.2.1.2.1),()),()))):=by kernel_rfl
theorem ae5(F:FT)(J:JT pJ)(x:((aj×(ID×abM))×Unit)):bX 81 pJ Tryz.f81 F J x =
 J wU (aN Tryz.prog 81 0) (((0:Int),()),(((x.1.1,()),((x.1.2.1,()),((x.1.2.2.1,()),((([]:List ah),(([]:List ai),())),((([]:List ah),(([]:List ai),())),()))))),())):=by kernel_rfl
theorem Qk(F:FT)(J:JT pJ)(x:(aa3×((abT×(abM×(abM×aa4)))×Unit))):fw 81 0 pJ Tryz.f81 wU F J x =
  cond (decide (x.1.1<(lI x.2.1.1.1.1)))
   (((ba x.2.1.1.1.1 x.1.1)).bind fun(y1:ah) =>
   cond (not ((y1.1.1==x.2.1.2.1.1.1)&&(y1.1.2==x.2.1.2.1.1.2)))
    (((ba x.2.1.1.1.1 x.1.1)).bind fun(y2:ah) =>
    cond (aO (List.length x.2.1.2.2.2.2.1.1) (List.length (y2::([]:List ah))))
     (J wU (aN Tryz.prog 81 0) (((wI (x.1.1+1)),()),(((x.2.1.1.1,()),((x.2.1.2.1.1,()),((x.2.1.2.2.1.1,()),(x.2.1.2.2.2.1,(((x.2.1.2.2.2.2.1.1++(y2::([]:List ah))),x.2.1.2.2.2.2.1.2),()))))),())))
     (none))
    (J wU (aN Tryz.prog 81 0) (((wI (x.1.1+1)),()),(((x.2.1.1.1,()),((x.2.1.2.1.1,()),((x.2.1.2.2.1.1,()),(x.2.1.2.2.2.1,(x.2.1.2.2.2.2.1,()))))),()))))
   (J wV (aN Tryz.prog 81 1) (((0:Int),()),(((x.2.1.1.1,()),((x.2.1.2.2.1.1,()),(x.2.1.2.2.2.1,(x.2.1.2.2.2.2.1,())))),()))):=by kernel_rfl
theorem Ql(F:FT)(J:JT pJ)(x:(aa3×((abT×(abM×aa4))×Unit))):fw 81 1 pJ Tryz.f81 wV F J x =
  cond (decide (x.1.1<(lI x.2.1.1.1.2)))
   (((ba x.2.1.1.1.2 x.1.1)).bind fun(y3:ai) =>
   cond (not ((y3.1.1==x.2.1.2.1.1.1)&&(y3.1.2==x.2.1.2.1.1.2)))
    (((ba x.2.1.1.1.2 x.1.1)).bind fun(y4:ai) =>
    cond (aO (List.length x.2.1.2.2.2.1.2.1) (List.length (y4::([]:List ai))))
     (J wV (aN Tryz.prog 81 1) (((wI (x.1.1+1)),()),(((x.2.1.1.1,()),((x.2.1.2.1.1,()),(x.2.1.2.2.1,((x.2.1.2.2.2.1.1,((x.2.1.2.2.2.1.2.1++(y4::([]:List ai))),())),())))),())))
     (none))
    (J wV (aN Tryz.prog 81 1) (((wI (x.1.1+1)),()),(((x.2.1.1.1,()),((x.2.1.2.1.1,()),(x.2.1.2.2.1,(x.2.1.2.2.2.1,())))),()))))
   (some (((x.2.1.2.2.2.1.1,x.2.1.2.2.2.1.2.1),()),())):=by kernel_rfl
theorem ae6(F:FT)(J:JT PY)(x:Ub):bX 82 PY Tryz.f82 F J x =
  (F 92 wP ((x.1.1.1,(x.1.2.1.2.1,())),())).bind fun(y1:Ua) =>
  cond y1.1.2.1
   (some ((OS,((12:Int),())),()))
   (cond (decide ((lI x.1.1.1.2)≥40))
    (some ((OS,((3:Int),())),()))
    ((F 114 Nc ((x.1.1,(x.1.2.1.2.2.2.2.1,())),())).bind fun(y2:((mF×(Int×Unit))×Unit)) =>
    (F 114 Nc ((x.1.1,(x.1.2.1.2.2.2.2.2.1,())),())).bind fun(y3:((mF×(Int×Unit))×Unit)) =>
    (F 79 qp ((x.1.1.1,(x.1.2.1.2.2.2.2.2.1.1,())),())).bind fun(y4:Q7) =>
    cond y4.1.2.1
     (cond (((x.1.2.1.2.2.2.2.2.1.2.1.1==x.1.2.1.2.1.1)&&(x.1.2.1.2.2.2.2.2.1.2.1.2==x.1.2.1.2.1.2))&&(x.1.2.1.2.2.2.2.2.1.2.2==0))
      (cond (y2.1.2.1 != 0)
       (some ((OS,((13:Int),())),()))
       (cond (y3.1.2.1 != 0)
        (some ((OS,((13:Int),())),()))
        ((F 115 yW ((x.1.1.1,((x.1.2.1.2.1,(OB,(0:Int))),())),())).bind fun(y5:Q5) =>
        (F 116 yX ((y5.1.1,(y2.1.1,((x.1.2.1.2.1,(0:Int)),()))),())).bind fun(y6:Q5) =>
        (F 116 yX ((y6.1.1,(x.1.2.1.2.2.2.2.2.1,((x.1.2.1.2.1,(1:Int)),()))),())).bind fun(y7:Q5) =>
        (F 107 E9 ((y7.1.1,()),())).bind fun(y8:Q2) =>
        cond (y8.1.1 != 0)
         (some ((OS,((15:Int),())),()))
         (some (((y7.1.1,x.1.1.2),((0:Int),())),())))))
      (cond (y2.1.2.1 != 0)
       (some ((OS,((13:Int),())),()))
       (cond (y3.1.2.1 != 0)
        (some ((OS,((13:Int),())),()))
        ((F 115 yW ((x.1.1.1,((x.1.2.1.2.1,(OB,(0:Int))),())),())).bind fun(y9:Q5) =>
        (F 116 yX ((y9.1.1,(y2.1.1,((x.1.2.1.2.1,(0:Int)),()))),())).bind fun(qi:Q5) =>
        (F 116 yX ((qi.1.1,(y3.1.1,((x.1.2.1.2.1,(1:Int)),()))),())).bind fun(mG:Q5) =>
        (F 107 E9 ((mG.1.1,()),())).bind fun(qj:Q2) =>
        cond (qj.1.1 != 0)
         (some ((OS,((15:Int),())),()))
         (some (((mG.1.1,x.1.1.2),((0:Int),())),()))))))
     (cond (y2.1.2.1 != 0)
      (some ((OS,((13:Int),())),()))
      (cond (y3.1.2.1 != 0)
       (some ((OS,((13:Int),())),()))
       ((F 115 yW ((x.1.1.1,((x.1.2.1.2.1,(OB,(0:Int))),())),())).bind fun(lf:Q5) =>
       (F 116 yX ((lf.1.1,(y2.1.1,((x.1.2.1.2.1,(0:Int)),()))),())).bind fun(Fg:Q5) =>
       (F 116 yX ((Fg.1.1,(y3.1.1,((x.1.2.1.2.1,(1:Int)),()))),())).bind fun(uA:Q5) =>
       (F 107 E9 ((uA.1.1,()),())).bind fun(Tp:Q2) =>
       cond (Tp.1.1 != 0)
        (some ((OS,((15:Int),())),()))
        (some (((uA.1.1,x.1.1.2),((0:Int),())),()))))))):=by kernel_rfl
theorem ae7(F:FT)(J:JT PZ)(x:Ub):bX 83 PZ Tryz.f83 F J x =
  (F 92 wP ((x.1.1.1,(x.1.2.1.2.1,())),())).bind fun(y1:Ua) =>
  cond (not y1.1.2.1)
   (some ((OS,((13:Int),())),()))
   ((F 118 Nd ((x.1.1.1,((x.1.2.1.2.1,(0:Int)),())),())).bind fun(y2:Fc) =>
   (F 117 yY ((x.1.1.2,(((x.1.2.1.2.1,(0:Int)),y2.1.1),())),())).bind fun(y3:VS) =>
   (F 118 Nd ((x.1.1.1,((x.1.2.1.2.1,(1:Int)),())),())).bind fun(y4:Fc) =>
   (F 117 yY ((y3.1.1,(((x.1.2.1.2.1,(1:Int)),y4.1.1),())),())).bind fun(y5:VS) =>
   (F 119 Ng ((x.1.1.1,((x.1.2.1.2.1,(0:Int)),())),())).bind fun(y6:Q5) =>
   (F 119 Ng ((y6.1.1,((x.1.2.1.2.1,(1:Int)),())),())).bind fun(y7:Q5) =>
   (F 81 pJ ((y7.1.1,(OI,(x.1.2.1.2.1,()))),())).bind fun(y8:Q5) =>
   some (((y8.1.1,y5.1.1),((0:Int),())),())):=by kernel_rfl
theorem ae8(F:FT)(J:JT P0)(x:Ub):bX 84 P0 Tryz.f84 F J x =
  (F 92 wP ((x.1.1.1,(x.1.2.1.2.1,())),())).bind fun(y1:Ua) =>
  cond (not y1.1.2.1)
   (some ((OS,((13:Int),())),()))
   ((F 79 qp ((x.1.1.1,(x.1.2.1.2.2.1,())),())).bind fun(y2:Q7) =>
   (F 92 wP ((x.1.1.1,(x.1.2.1.2.2.2.1,())),())).bind fun(y3:Ua) =>
   cond y2.1.2.1
    (some ((OS,((12:Int),())),()))
    (cond y3.1.2.1
     (some ((OS,((12:Int),())),()))
     (cond (decide ((lI x.1.1.1.1)≥24))
      (some ((OS,((3:Int),())),()))
      (cond (decide ((lI x.1.1.1.2)≥40))
       (some ((OS,((3:Int),())),()))
       (cond ((2:Int)==0)
        (none)
        (cond ((2:Int)==0)
         (none)
         ((F 121 C4 (((x.1.2.1.2.2.2.1,(wI (Int.tdiv x.1.2.1.2.2.2.2.2.2.2.2 (2:Int)))),()),())).bind fun(y4:Fc) =>
         (F 120 Hg ((x.1.1.1,((x.1.2.1.2.1,(wI ((1:Int)-(Int.tmod x.1.2.1.2.2.2.2.2.2.2.2 (2:Int))))),(y4.1.1,()))),())).bind fun(y5:Q5) =>
         (F 115 yW ((y5.1.1,((x.1.2.1.2.2.2.1,(OB,(0:Int))),())),())).bind fun(y6:Q5) =>
         (F 122 pK ((((x.1.2.1.2.1,(wI ((1:Int)-(Int.tmod x.1.2.1.2.2.2.2.2.2.2.2 (2:Int)))))::((x.1.2.1.2.2.2.1,(wI (Int.tdiv x.1.2.1.2.2.2.2.2.2.2.2 (2:Int))))::([]:List ae))),()),())).bind fun(y7:Q6) =>
         (F 80 E7 ((y6.1.1,((x.1.2.1.2.2.1,(y7.1.1,(OB,(0:Int)))),())),())).bind fun(y8:Q5) =>
         some (((y8.1.1,x.1.1.2),((0:Int),())),())))))))):=by kernel_rfl
theorem ae9(F:FT)(J:JT yV)(x:Ub):bX 85 yV Tryz.f85 F J x =
  (F 79 qp ((x.1.1.1,(x.1.2.1.2.1,())),())).bind fun(y1:Q7) =>
  cond (not y1.1.2.1)
   (some ((OS,((13:Int),())),()))
   (cond ((lI y1.1.1.2.1) != 2)
    (some ((OS,((14:Int),())),()))
    (((ba y1.1.1.2.1 (0:Int))).bind fun(y2:ae) =>
    ((ba y1.1.1.2.1 (1:Int))).bind fun(y3:ae) =>
    cond ((y2.1.1==y3.1.1)&&(y2.1.2==y3.1.2))
     (some ((OS,((14:Int),())),()))
     (((ba y1.1.1.2.1 (0:Int))).bind fun(y4:ae) =>
     ((ba y1.1.1.2.1 (1:Int))).bind fun(y5:ae) =>
     cond ((y4.1.1==x.1.2.1.2.2.2.1.1)&&(y4.1.2==x.1.2.1.2.2.2.1.2))
      (((ba y1.1.1.2.1 (1:Int))).bind fun(y6:ae) =>
      ((ba y1.1.1.2.1 (0:Int))).bind fun(y7:ae) =>
      cond (not ((y7.1.1==x.1.2.1.2.2.2.1.1)&&(y7.1.2==x.1.2.1.2.2.2.1.2)))
       (some ((OS,((14:Int),())),()))
       ((F 121 C4 ((y7,()),())).bind fun(y8:Fc) =>
       (F 81 pJ ((x.1.1.1,(x.1.2.1.2.1,(OI,()))),())).bind fun(y9:Q5) =>
       (F 120 Hg ((y9.1.1,(y8.1.1,(y6,()))),())).bind fun(qi:Q5) =>
       (F 81 pJ ((qi.1.1,(OI,(y7.1,()))),())).bind fun(mG:Q5) =>
       J mb (aN Tryz.prog 85 0) ((x.1.1.2,((0:Int),())),((OW,((y6,()),((y7,()),((y8.1.1,()),((mG.1.1,()),()))))),()))))
      (cond (not ((y5.1.1==x.1.2.1.2.2.2.1.1)&&(y5.1.2==x.1.2.1.2.2.2.1.2)))
       (some ((OS,((14:Int),())),()))
       ((F 121 C4 ((y5,()),())).bind fun(qj:Fc) =>
       (F 81 pJ ((x.1.1.1,(x.1.2.1.2.1,(OI,()))),())).bind fun(lf:Q5) =>
       (F 120 Hg ((lf.1.1,(qj.1.1,(y4,()))),())).bind fun(Fg:Q5) =>
       (F 81 pJ ((Fg.1.1,(OI,(y5.1,()))),())).bind fun(uA:Q5) =>
       J mb (aN Tryz.prog 85 0) ((x.1.1.2,((0:Int),())),((OW,((y4,()),((y5,()),((qj.1.1,()),((uA.1.1,()),()))))),()))))))):=by kernel_rfl
theorem Qm(F:FT)(J:JT yV)(x:(((List az)×aa3)×((aW×(aa7×(aa7×(aa7×aa9))))×Unit))):fw 85 0 yV Tryz.f85 mb F J x =
  cond (decide (x.1.2.1<2))
   (cond (((x.2.1.2.2.1.1.1.1==x.2.1.2.2.2.1.1.1.1)&&(x.2.1.2.2.1.1.1.2==x.2.1.2.2.2.1.1.1.2))&&(x.1.2.1==x.2.1.2.2.2.1.1.2))
    ((F 117 yY ((x.1.1,(((x.2.1.2.2.1.1.1,x.1.2.1),x.2.1.2.1.1),())),())).bind fun(Tp:VS) =>
    J mb (aN Tryz.prog 85 0) ((Tp.1.1,((wI (x.1.2.1+1)),())),((x.2.1.1,((x.2.1.2.1.1,()),((x.2.1.2.2.1.1,()),((x.2.1.2.2.2.1.1,()),((x.2.1.2.2.2.2.1.1,()),()))))),())))
    ((F 117 yY ((x.1.1,(((x.2.1.2.2.1.1.1,x.1.2.1),OD),())),())).bind fun(VV:VS) =>
    J mb (aN Tryz.prog 85 0) ((VV.1.1,((wI (x.1.2.1+1)),())),((x.2.1.1,((x.2.1.2.1.1,()),((x.2.1.2.2.1.1,()),((x.2.1.2.2.2.1.1,()),((x.2.1.2.2.2.2.1.1,()),()))))),()))))
   (some (((x.2.1.2.2.2.2.1.1,x.1.1),((0:Int),())),())):=by kernel_rfl
theorem afa(F:FT)(J:JT A7)(x:Ub):bX 86 A7 Tryz.f86 F J x =
 (F 21 C5 ((x.1.1.1,()),())).bind fun(y1:Q26) =>
 J rk (aN Tryz.prog 86 0) ((false,((0:Int),())),(((x.1.1,()),((x.1.2.1,()),(OW,(y1.1.1,())))),())):=by kernel_rfl
theorem Qn(F:FT)(J:JT A7)(x:Q38):fw 86 0 A7 Tryz.f86 rk F J x =
  cond (decide (x.1.2.1<(lI x.2.1.2.2.2.1.1)))
   (cond (not x.2.1.2.1.1.2.2.2.2.2.2.1)
    (cond ((decide ((0:Int)≤x.1.2.1))&&(decide (x.1.2.1<(lI x.2.1.2.2.2.1.1))))
     (((x.2.1.2.2.2.1.1)[(Int.toNat x.1.2.1)]?).bind fun(y2:ah) =>
     cond ((y2.1.1==x.2.1.2.1.1.2.1.1)&&(y2.1.2==x.2.1.2.1.1.2.1.2))
      (cond (x.2.1.2.1.1.1==7)
       (cond ((decide ((0:Int)≤x.1.2.1))&&(decide (x.1.2.1<(lI x.2.1.2.2.2.1.1))))
        (((x.2.1.2.2.2.1.1)[(Int.toNat x.1.2.1)]?).bind fun(y3:ah) =>
        J rk (aN Tryz.prog 86 0) ((true,((wI (x.1.2.1+1)),())),(((x.2.1.1.1,()),((x.2.1.2.1.1,()),(x.2.1.2.2.1,(((List.set x.2.1.2.2.2.1.1 (Int.toNat x.1.2.1) (y3.1,(y3.2.1,(x.2.1.2.1.1.2.2.2.2.2.2.2.1,y3.2.2.2)))),x.2.1.2.2.2.1.2),())))),())))
        (none))
       (cond ((decide ((0:Int)≤x.1.2.1))&&(decide (x.1.2.1<(lI x.2.1.2.2.2.1.1))))
        (((x.2.1.2.2.2.1.1)[(Int.toNat x.1.2.1)]?).bind fun(y4:ah) =>
        J rk (aN Tryz.prog 86 0) ((true,((wI (x.1.2.1+1)),())),(((x.2.1.1.1,()),((x.2.1.2.1.1,()),(x.2.1.2.2.1,(((List.set x.2.1.2.2.2.1.1 (Int.toNat x.1.2.1) (y4.1,(y4.2.1,(y4.2.2.1,x.2.1.2.1.1.2.2.2.2.2.2.2.2)))),x.2.1.2.2.2.1.2),())))),())))
        (none)))
      (J rk (aN Tryz.prog 86 0) ((x.1.1,((wI (x.1.2.1+1)),())),(((x.2.1.1.1,()),((x.2.1.2.1.1,()),(x.2.1.2.2.1,(x.2.1.2.2.2.1,())))),()))))
     (none))
    (J rk (aN Tryz.prog 86 0) ((x.1.1,((wI (x.1.2.1+1)),())),(((x.2.1.1.1,()),((x.2.1.2.1.1,()),(x.2.1.2.2.1,(x.2.1.2.2.2.1,())))),()))))
   (J rl (aN Tryz.prog 86 1) ((x.1.1,((0:Int),())),(((x.2.1.1.1,()),((x.2.1.2.1.1,()),(x.2.1.2.2.1,(x.2.1.2.2.2.1,())))),()))):=by kernel_rfl
theorem Qo(F:FT)(J:JT A7)(x:Q38):fw 86 1 A7 Tryz.f86 rl F J x =
  cond (decide (x.1.2.1<(lI x.2.1.2.2.2.1.2.1)))
   (cond x.2.1.2.1.1.2.2.2.2.2.2.1
    (cond ((decide ((0:Int)≤x.1.2.1))&&(decide (x.1.2.1<(lI x.2.1.2.2.2.1.2.1))))
     (((x.2.1.2.2.2.1.2.1)[(Int.toNat x.1.2.1)]?).bind fun(y5:ai) =>
     cond ((y5.1.1==x.2.1.2.1.1.2.1.1)&&(y5.1.2==x.2.1.2.1.1.2.1.2))
      (cond (x.2.1.2.1.1.1==7)
       (cond ((decide ((0:Int)≤x.1.2.1))&&(decide (x.1.2.1<(lI x.2.1.2.2.2.1.2.1))))
        (((x.2.1.2.2.2.1.2.1)[(Int.toNat x.1.2.1)]?).bind fun(y6:ai) =>
        J rl (aN Tryz.prog 86 1) ((true,((wI (x.1.2.1+1)),())),(((x.2.1.1.1,()),((x.2.1.2.1.1,()),(x.2.1.2.2.1,((x.2.1.2.2.2.1.1,((List.set x.2.1.2.2.2.1.2.1 (Int.toNat x.1.2.1) (y6.1,(x.2.1.2.1.1.2.2.2.2.2.2.2.1,y6.2.2))),())),())))),())))
        (none))
       (cond ((decide ((0:Int)≤x.1.2.1))&&(decide (x.1.2.1<(lI x.2.1.2.2.2.1.2.1))))
        (((x.2.1.2.2.2.1.2.1)[(Int.toNat x.1.2.1)]?).bind fun(y7:ai) =>
        J rl (aN Tryz.prog 86 1) ((true,((wI (x.1.2.1+1)),())),(((x.2.1.1.1,()),((x.2.1.2.1.1,()),(x.2.1.2.2.1,((x.2.1.2.2.2.1.1,((List.set x.2.1.2.2.2.1.2.1 (Int.toNat x.1.2.1) (y7.1,(y7.2.1,x.2.1.2.1.1.2.2.2.2.2.2.2.2))),())),())))),())))
        (none)))
      (J rl (aN Tryz.prog 86 1) ((x.1.1,((wI (x.1.2.1+1)),())),(((x.2.1.1.1,()),((x.2.1.2.1.1,()),(x.2.1.2.2.1,(x.2.1.2.2.2.1,())))),()))))
     (none))
    (J rl (aN Tryz.prog 86 1) ((x.1.1,((wI (x.1.2.1+1)),())),(((x.2.1.1.1,()),((x.2.1.2.1.1,()),(x.2.1.2.2.1,(x.2.1.2.2.2.1,())))),()))))
   (cond (not x.1.1)
    (some ((OS,((13:Int),())),()))
    (some ((((x.2.1.2.2.2.1.1,x.2.1.2.2.2.1.2.1),x.2.1.1.1.2),((0:Int),())),()))):=by kernel_rfl
end Go.Vs
set_option maxRecDepth 1000000
set_option maxHeartbeats 0
namespace Go.Vs
open Go.Proofs
theorem afb(F:FT)(J:JT M9)(x:Tn):bX 216 M9 Tryz.f216 F J x =
  (F 124 tZ ((x.1.1,(x.1.2.1,())),())).bind fun(y1:P7) =>
  cond (not y1.1.2.1)
   (some ((OD,(false,())),()))
   ((F 121 C4 ((x.1.2.1,()),())).bind fun(y2:Fc) =>
   (F 234 P2 ((x.1.1,(y2.1.1,())),())).bind fun(y3:JY) =>
   some (y3.1,())):=by kernel_rfl
theorem afc(F:FT)(J:JT C6)(x:ZL):bX 217 C6 Tryz.f217 F J x =
 J Bw (aN Tryz.prog 217 0) (((0:Int),()),(((x.1.1,()),((x.1.2.1,()),())),())):=by kernel_rfl
theorem Qp(F:FT)(J:JT C6)(x:(aa3×((abT×acg)×Unit))):fw 217 0 C6 Tryz.f217 Bw F J x =
  cond (decide (x.1.1<(lI x.2.1.1.1.1)))
   (((ba x.2.1.1.1.1 x.1.1)).bind fun(y1:ah) =>
   cond ((y1.1.1==x.2.1.2.1.1.1)&&(y1.1.2==x.2.1.2.1.1.2))
    (some (x.1,()))
    (J Bw (aN Tryz.prog 217 0) (((wI (x.1.1+1)),()),(((x.2.1.1.1,()),((x.2.1.2.1.1,()),())),()))))
   (some (((-1:Int),()),())):=by kernel_rfl
theorem afd(F:FT)(J:JT sO)(x:Q5):bX 193 sO Tryz.f193 F J x =
 J Bx (aN Tryz.prog 193 0) (((0:Int),()),(((x.1.1,()),()),(([]:List Int),()))):=by kernel_rfl
theorem Qq(F:FT)(J:JT sO)(x:(aa3×(aa9×abS))):fw 193 0 sO Tryz.f193 Bx F J x =
  cond (decide (x.1.1<(lI x.2.1.1.1.1)))
   (cond (aO (List.length x.2.2.1) (List.length (x.1.1::([]:List Int))))
    (J Bx (aN Tryz.prog 193 0) (((wI (x.1.1+1)),()),(((x.2.1.1.1,()),()),((x.2.2.1++(x.1.1::([]:List Int))),()))))
    (none))
   (J wW (aN Tryz.prog 193 1) (((0:Int),()),(((x.2.1.1.1,()),()),x.2.2))):=by kernel_rfl
theorem Qr(F:FT)(J:JT sO)(x:(aa3×(aa9×abS))):fw 193 1 sO Tryz.f193 wW F J x =
  cond (decide (x.1.1<(lI x.2.1.1.1.1)))
   (J rm (aN Tryz.prog 193 2) ((x.1.1,((0:Int),())),(((x.2.1.1.1,()),()),x.2.2)))
   (some (x.2.2,())):=by kernel_rfl
theorem Qs(F:FT)(J:JT sO)(x:(aa8×(aa9×abS))):fw 193 2 sO Tryz.f193 rm F J x =
  cond (decide (x.1.2.1<(lI x.2.1.1.1.2)))
   (((ba x.2.1.1.1.2 x.1.2.1)).bind fun(y1:ai) =>
   (F 124 tZ ((x.2.1.1.1,((y1.1,(0:Int)),())),())).bind fun(y2:P7) =>
   ((ba x.2.1.1.1.2 x.1.2.1)).bind fun(y3:ai) =>
   (F 124 tZ ((x.2.1.1.1,((y3.1,(1:Int)),())),())).bind fun(y4:P7) =>
   (F 217 C6 ((x.2.1.1.1,(y2.1.1,())),())).bind fun(y5:Q2) =>
   (F 217 C6 ((x.2.1.1.1,(y4.1.1,())),())).bind fun(y6:Q2) =>
   cond (decide (y5.1.1≥0))
    (cond (decide (y6.1.1≥0))
     (cond ((decide ((0:Int)≤y5.1.1))&&(decide (y5.1.1<(lI x.2.2.1))))
      (((x.2.2.1)[(Int.toNat y5.1.1)]?).bind fun(y7:Int) =>
      cond ((decide ((0:Int)≤y6.1.1))&&(decide (y6.1.1<(lI x.2.2.1))))
       (((x.2.2.1)[(Int.toNat y6.1.1)]?).bind fun(y8:Int) =>
       cond ((decide ((0:Int)≤y5.1.1))&&(decide (y5.1.1<(lI x.2.2.1))))
        (((x.2.2.1)[(Int.toNat y5.1.1)]?).bind fun(y9:Int) =>
        cond ((decide ((0:Int)≤y6.1.1))&&(decide (y6.1.1<(lI (List.set x.2.2.1 (Int.toNat y5.1.1) (min y7 y8:Int))))))
         ((((List.set x.2.2.1 (Int.toNat y5.1.1) (min y7 y8:Int)))[(Int.toNat y6.1.1)]?).bind fun(qi:Int) =>
         J rm (aN Tryz.prog 193 2) ((x.1.1,((wI (x.1.2.1+1)),())),(((x.2.1.1.1,()),()),((List.set (List.set x.2.2.1 (Int.toNat y5.1.1) (min y7 y8:Int)) (Int.toNat y6.1.1) (min y7 y8:Int)),()))))
         (none))
        (none))
       (none))
      (none))
     (J rm (aN Tryz.prog 193 2) ((x.1.1,((wI (x.1.2.1+1)),())),(((x.2.1.1.1,()),()),x.2.2))))
    (J rm (aN Tryz.prog 193 2) ((x.1.1,((wI (x.1.2.1+1)),())),(((x.2.1.1.1,()),()),x.2.2))))
   (J wW (aN Tryz.prog 193 1) (((wI (x.1.1+1)),()),(((x.2.1.1.1,()),()),x.2.2))):=by kernel_rfl
theorem afe(F:FT)(J:JT He)(x:(((List ae)×abO)×Unit)):bX 98 He Tryz.f98 F J x =
  cond ((lI x.1.1) != (lI x.1.2.1))
   (some ((false,()),()))
   (J By (aN Tryz.prog 98 0) ((x.1.1,(x.1.2.1,((0:Int),()))),((),()))):=by kernel_rfl
theorem Qt(F:FT)(J:JT He)(x:(((List ae)×ab0)×abZ)):fw 98 0 He Tryz.f98 By F J x =
  cond (decide (x.1.2.2.1<(lI x.1.1)))
   (((ba x.1.1 x.1.2.2.1)).bind fun(y1:ae) =>
   ((ba x.1.2.1 x.1.2.2.1)).bind fun(y2:ae) =>
   cond (not (((y1.1.1==y2.1.1)&&(y1.1.2==y2.1.2))&&(y1.2==y2.2)))
    (some ((false,()),()))
    (J By (aN Tryz.prog 98 0) ((x.1.1,(x.1.2.1,((wI (x.1.2.2.1+1)),()))),((),()))))
   (some ((true,()),())):=by kernel_rfl
theorem aff(F:FT)(J:JT E8)(x:Q5):bX 191 E8 Tryz.f191 F J x =
 J Bz (aN Tryz.prog 191 0) (((0:Int),()),(((x.1.1,()),()),(([]:List ae),()))):=by kernel_rfl
theorem Qu(F:FT)(J:JT E8)(x:(aa3×(aa9×abO))):fw 191 0 E8 Tryz.f191 Bz F J x =
  cond (decide (x.1.1<(lI x.2.1.1.1.2)))
   (((ba x.2.1.1.1.2 x.1.1)).bind fun(y1:ai) =>
   ((ba x.2.1.1.1.2 x.1.1)).bind fun(y2:ai) =>
   cond (aO (List.length x.2.2.1) (List.length ((y1.1,(0:Int))::((y2.1,(1:Int))::([]:List ae)))))
    (J Bz (aN Tryz.prog 191 0) (((wI (x.1.1+1)),()),(((x.2.1.1.1,()),()),((x.2.2.1++((y1.1,(0:Int))::((y2.1,(1:Int))::([]:List ae)))),()))))
    (none))
   (some (x.2.2,())):=by kernel_rfl
theorem afg(F:FT)(J:JT Hf)(x:Q5):bX 96 Hf Tryz.f96 F J x =
 (F 127 Nh ((x.1.1.1,()),())).bind fun(y1:(((List ah)×Unit)×Unit)) =>
 (F 128 Ni ((x.1.1.2,()),())).bind fun(y2:(((List ai)×Unit)×Unit)) =>
 J BA (aN Tryz.prog 96 0) (((lI y1.1.1),((0:Int),())),(((([]:List ah),(([]:List ai),())),((y1.1.1,y2.1),())),())):=by kernel_rfl
theorem Qv(F:FT)(J:JT Hf)(x:(aa8×(aa4×Unit))):fw 96 0 Hf Tryz.f96 BA F J x =
  cond (decide (x.1.2.1<x.1.1))
   (cond ((decide ((0:Int)≤x.1.2.1))&&(decide (x.1.2.1<(lI x.2.1.2.1.1))))
    (((x.2.1.2.1.1)[(Int.toNat x.1.2.1)]?).bind fun(y3:ah) =>
    (F 110 yZ ((y3.2.1,()),())).bind fun(y4:Q6) =>
    cond ((decide ((0:Int)≤x.1.2.1))&&(decide (x.1.2.1<(lI x.2.1.2.1.1))))
     (((x.2.1.2.1.1)[(Int.toNat x.1.2.1)]?).bind fun(y5:ah) =>
     J BA (aN Tryz.prog 96 0) ((x.1.1,((wI (x.1.2.1+1)),())),((x.2.1.1,(((List.set x.2.1.2.1.1 (Int.toNat x.1.2.1) (y5.1,(y4.1.1,y5.2.2))),x.2.1.2.1.2),())),())))
     (none))
    (none))
   (some ((x.2.1.2.1,()),())):=by kernel_rfl
theorem afh(F:FT)(J:JT JW)(x:VS):bX 97 JW Tryz.f97 F J x =
  cond (List.isEmpty x.1.1)
   (sM 2 fun(j1:Nat) =>
   cond ((j1==0)==true)
    (some ((([]:List az),()),()))
    (cond (aO (List.length ([]:List az)) (List.length x.1.1))
     (some (((([]:List az)++x.1.1),()),()))
     (none)))
   (cond (aO (List.length ([]:List az)) (List.length x.1.1))
    (some (((([]:List az)++x.1.1),()),()))
    (none)):=by kernel_rfl
theorem afi(F:FT)(J:JT JX)(x:Q33):bX 71 JX Tryz.f71 F J x =
  (F 105 Fa ((x.1.1.1,(x.1.2.1.1,())),())).bind fun(y1:Q2) =>
  cond (y1.1.1 != 0)
   (some (y1.1,()))
   (cond (decide (x.1.1.2<x.1.2.1.2))
    (some (((-1:Int),()),()))
    (cond (decide (x.1.1.2>x.1.2.1.2))
     (some (((1:Int),()),()))
     (some (((0:Int),()),())))):=by kernel_rfl
theorem afj(F:FT)(J:JT qq)(x:Q5):bX 106 qq Tryz.f106 F J x =
  cond (decide ((lI x.1.1.1)>24))
   (some (((3:Int),()),()))
   (cond (decide ((lI x.1.1.2)>40))
    (some (((3:Int),()),()))
    ((F 133 y0 ((x.1.1,()),())).bind fun(y1:(((List ID)×Unit)×Unit)) =>
    cond (bq (List.length y1.1.1) (0:Int) (lI x.1.1.1))
     ((F 134 vg (((cut y1.1.1 (0:Int) (lI x.1.1.1)),()),())).bind fun(y2:Q0) =>
     cond (bq (List.length y1.1.1) (lI x.1.1.1) (lI y1.1.1))
      ((F 134 vg (((cut y1.1.1 (lI x.1.1.1) (lI y1.1.1)),()),())).bind fun(y3:Q0) =>
      cond (not y2.1.1)
       (some (((10:Int),()),()))
       (cond (not y3.1.1)
        (some (((10:Int),()),()))
        ((F 135 la ((x.1.1,()),())).bind fun(y4:Q0) =>
        cond (not y4.1.1)
         (some (((10:Int),()),()))
         (J pO (aN Tryz.prog 106 0) (((lI x.1.1.1),(true,(true,((0:Int),())))),(((x.1.1,()),()),()))))))
      (none))
     (none))):=by kernel_rfl
theorem Qw(F:FT)(J:JT qq)(x:((Int×(Bool×(Bool×aa3)))×ack)):fw 106 0 qq Tryz.f106 pO F J x =
  cond (decide (x.1.2.2.2.1<x.1.1))
   (cond x.1.2.1
    (((ba x.2.1.1.1.1 x.1.2.2.2.1)).bind fun(y5:ah) =>
    (F 91 wQ ((y5.2.2.1,()),())).bind fun(y6:Q0) =>
    cond x.1.2.2.1
     (((ba x.2.1.1.1.1 x.1.2.2.2.1)).bind fun(y7:ah) =>
     (F 90 yU ((y7.2.2.2,()),())).bind fun(y8:Q0) =>
     J pO (aN Tryz.prog 106 0) ((x.1.1,(y6.1.1,(y8.1.1,((wI (x.1.2.2.2.1+1)),())))),(((x.2.1.1.1,()),()),())))
     (J pO (aN Tryz.prog 106 0) ((x.1.1,(y6.1.1,(false,((wI (x.1.2.2.2.1+1)),())))),(((x.2.1.1.1,()),()),()))))
    (cond x.1.2.2.1
     (((ba x.2.1.1.1.1 x.1.2.2.2.1)).bind fun(y9:ah) =>
     (F 90 yU ((y9.2.2.2,()),())).bind fun(qi:Q0) =>
     J pO (aN Tryz.prog 106 0) ((x.1.1,(false,(qi.1.1,((wI (x.1.2.2.2.1+1)),())))),(((x.2.1.1.1,()),()),())))
     (J pO (aN Tryz.prog 106 0) ((x.1.1,(false,(false,((wI (x.1.2.2.2.1+1)),())))),(((x.2.1.1.1,()),()),())))))
   (J pP (aN Tryz.prog 106 1) ((x.1.2.1,(x.1.2.2.1,((0:Int),()))),(((x.2.1.1.1,()),()),()))):=by kernel_rfl
theorem Qx(F:FT)(J:JT qq)(x:((Bool×(Bool×aa3))×ack)):fw 106 1 qq Tryz.f106 pP F J x =
  cond (decide (x.1.2.2.1<(lI x.2.1.1.1.2)))
   (cond x.1.1
    (((ba x.2.1.1.1.2 x.1.2.2.1)).bind fun(mG:ai) =>
    (F 91 wQ ((mG.2.1,()),())).bind fun(qj:Q0) =>
    cond x.1.2.1
     (((ba x.2.1.1.1.2 x.1.2.2.1)).bind fun(lf:ai) =>
     (F 90 yU ((lf.2.2,()),())).bind fun(Fg:Q0) =>
     J pP (aN Tryz.prog 106 1) ((qj.1.1,(Fg.1.1,((wI (x.1.2.2.1+1)),()))),(((x.2.1.1.1,()),()),())))
     (J pP (aN Tryz.prog 106 1) ((qj.1.1,(false,((wI (x.1.2.2.1+1)),()))),(((x.2.1.1.1,()),()),()))))
    (cond x.1.2.1
     (((ba x.2.1.1.1.2 x.1.2.2.1)).bind fun(uA:ai) =>
     (F 90 yU ((uA.2.2,()),())).bind fun(Tp:Q0) =>
     J pP (aN Tryz.prog 106 1) ((false,(Tp.1.1,((wI (x.1.2.2.1+1)),()))),(((x.2.1.1.1,()),()),())))
     (J pP (aN Tryz.prog 106 1) ((false,(false,((wI (x.1.2.2.1+1)),()))),(((x.2.1.1.1,()),()),())))))
   (cond (not x.1.1)
    (some (((4:Int),()),()))
    (cond (not x.1.2.1)
     (some (((1:Int),()),()))
     (some (((0:Int),()),())))):=by kernel_rfl
theorem afk(F:FT)(J:JT E9)(x:Q5):bX 107 E9 Tryz.f107 F J x =
  (F 136 Fb ((x.1.1,()),())).bind fun(y1:((Int×(Int×(Int×(Int×Unit))))×Unit)) =>
  cond ((2:Int)==0)
   (none)
   (some (((wI (Int.tdiv (wI ((wI ((wI ((wI ((2:Int)*y1.1.2.2.2.1))-y1.1.1))+y1.1.2.1))-y1.1.2.2.1)) (2:Int))),()),())):=by kernel_rfl
theorem afl(F:FT)(J:JT P1)(x:(acd×Unit)):bX 132 P1 Tryz.f132 F J x =
  (F 159 rf ((x.1.1.2.1,()),())).bind fun(y1:Q0) =>
  cond (x.1.1.1==1)
   (cond (x.1.1.1==1)
    (cond (not y1.1.1)
     (some (((x.1.1.1,(x.1.1.2.1,(OI,(OI,(OC,(OC,(false,(OB,(0:Int))))))))),((1:Int),())),()))
     (some (((x.1.1.1,(x.1.1.2.1,(OI,(OI,(OC,(OC,(false,(OB,(0:Int))))))))),((0:Int),())),())))
    (cond (x.1.1.1==6)
     (cond y1.1.1
      ((F 159 rf ((x.1.1.2.2.2.1,()),())).bind fun(y2:Q0) =>
      cond (not y2.1.1)
       (some (((x.1.1.1,(x.1.1.2.1,(OI,(x.1.1.2.2.2.1,(OC,(OC,(false,(OB,(0:Int))))))))),((1:Int),())),()))
       (some (((x.1.1.1,(x.1.1.2.1,(OI,(x.1.1.2.2.2.1,(OC,(OC,(false,(OB,(0:Int))))))))),((0:Int),())),())))
      (some (((x.1.1.1,(x.1.1.2.1,(OI,(x.1.1.2.2.2.1,(OC,(OC,(false,(OB,(0:Int))))))))),((1:Int),())),())))
     (cond (x.1.1.1==3)
      (cond y1.1.1
       ((F 160 C7 ((x.1.1.2.2.2.2.1,()),())).bind fun(y3:Q0) =>
       cond y3.1.1
        ((F 160 C7 ((x.1.1.2.2.2.2.2.1,()),())).bind fun(y4:Q0) =>
        cond (not y4.1.1)
         (some (((x.1.1.1,(x.1.1.2.1,(OI,(OI,(x.1.1.2.2.2.2.1,(x.1.1.2.2.2.2.2.1,(false,(OB,(0:Int))))))))),((1:Int),())),()))
         (some (((x.1.1.1,(x.1.1.2.1,(OI,(OI,(x.1.1.2.2.2.2.1,(x.1.1.2.2.2.2.2.1,(false,(OB,(0:Int))))))))),((0:Int),())),())))
        (some (((x.1.1.1,(x.1.1.2.1,(OI,(OI,(x.1.1.2.2.2.2.1,(x.1.1.2.2.2.2.2.1,(false,(OB,(0:Int))))))))),((1:Int),())),())))
       (some (((x.1.1.1,(x.1.1.2.1,(OI,(OI,(x.1.1.2.2.2.2.1,(x.1.1.2.2.2.2.2.1,(false,(OB,(0:Int))))))))),((1:Int),())),())))
      (cond (x.1.1.1==5)
       (cond y1.1.1
        ((F 159 rf ((x.1.1.2.2.1,()),())).bind fun(y5:Q0) =>
        cond y5.1.1
         ((F 159 rf ((x.1.1.2.2.2.1,()),())).bind fun(y6:Q0) =>
         cond y6.1.1
          (cond (not ((cT .andNot .i64 x.1.1.2.2.2.2.2.2.2.2 (3:Int))==0))
           (some (((x.1.1.1,(x.1.1.2.1,(x.1.1.2.2.1,(x.1.1.2.2.2.1,(OC,(OC,(false,(OB,x.1.1.2.2.2.2.2.2.2.2)))))))),((1:Int),())),()))
           (some (((x.1.1.1,(x.1.1.2.1,(x.1.1.2.2.1,(x.1.1.2.2.2.1,(OC,(OC,(false,(OB,x.1.1.2.2.2.2.2.2.2.2)))))))),((0:Int),())),())))
          (some (((x.1.1.1,(x.1.1.2.1,(x.1.1.2.2.1,(x.1.1.2.2.2.1,(OC,(OC,(false,(OB,x.1.1.2.2.2.2.2.2.2.2)))))))),((1:Int),())),())))
         (some (((x.1.1.1,(x.1.1.2.1,(x.1.1.2.2.1,(x.1.1.2.2.2.1,(OC,(OC,(false,(OB,x.1.1.2.2.2.2.2.2.2.2)))))))),((1:Int),())),())))
        (some (((x.1.1.1,(x.1.1.2.1,(x.1.1.2.2.1,(x.1.1.2.2.2.1,(OC,(OC,(false,(OB,x.1.1.2.2.2.2.2.2.2.2)))))))),((1:Int),())),())))
       (cond (x.1.1.1==7)
        ((F 161 wR ((x.1.1.2.2.2.2.2.2.2.1,()),())).bind fun(y7:Q0) =>
        cond (not y7.1.1)
         (cond (not y1.1.1)
          (some (((x.1.1.1,(x.1.1.2.1,(OI,(OI,(OC,(OC,(x.1.1.2.2.2.2.2.2.1,(x.1.1.2.2.2.2.2.2.2.1,(0:Int))))))))),((1:Int),())),()))
          (some (((x.1.1.1,(x.1.1.2.1,(OI,(OI,(OC,(OC,(x.1.1.2.2.2.2.2.2.1,(x.1.1.2.2.2.2.2.2.2.1,(0:Int))))))))),((4:Int),())),())))
         (cond (not y1.1.1)
          (some (((x.1.1.1,(x.1.1.2.1,(OI,(OI,(OC,(OC,(x.1.1.2.2.2.2.2.2.1,(x.1.1.2.2.2.2.2.2.2.1,(0:Int))))))))),((1:Int),())),()))
          (some (((x.1.1.1,(x.1.1.2.1,(OI,(OI,(OC,(OC,(x.1.1.2.2.2.2.2.2.1,(x.1.1.2.2.2.2.2.2.2.1,(0:Int))))))))),((0:Int),())),()))))
        (cond (x.1.1.1==8)
         (cond y1.1.1
          ((F 162 Hh ((x.1.1.2.2.2.2.2.2.2.2,()),())).bind fun(y8:Q0) =>
          cond (not y8.1.1)
           (some (((x.1.1.1,(x.1.1.2.1,(OI,(OI,(OC,(OC,(x.1.1.2.2.2.2.2.2.1,(OB,x.1.1.2.2.2.2.2.2.2.2)))))))),((1:Int),())),()))
           (some (((x.1.1.1,(x.1.1.2.1,(OI,(OI,(OC,(OC,(x.1.1.2.2.2.2.2.2.1,(OB,x.1.1.2.2.2.2.2.2.2.2)))))))),((0:Int),())),())))
          (some (((x.1.1.1,(x.1.1.2.1,(OI,(OI,(OC,(OC,(x.1.1.2.2.2.2.2.2.1,(OB,x.1.1.2.2.2.2.2.2.2.2)))))))),((1:Int),())),())))
         (some (((x.1.1.1,(x.1.1.2.1,(OI,(OI,(OC,(OC,(false,(OB,(0:Int))))))))),((1:Int),())),()))))))))
   (cond (x.1.1.1==2)
    (cond (x.1.1.1==2)
     (cond (not y1.1.1)
      (some (((x.1.1.1,(x.1.1.2.1,(OI,(OI,(OC,(OC,(false,(OB,(0:Int))))))))),((1:Int),())),()))
      (some (((x.1.1.1,(x.1.1.2.1,(OI,(OI,(OC,(OC,(false,(OB,(0:Int))))))))),((0:Int),())),())))
     (cond (x.1.1.1==6)
      (cond y1.1.1
       ((F 159 rf ((x.1.1.2.2.2.1,()),())).bind fun(y9:Q0) =>
       cond (not y9.1.1)
        (some (((x.1.1.1,(x.1.1.2.1,(OI,(x.1.1.2.2.2.1,(OC,(OC,(false,(OB,(0:Int))))))))),((1:Int),())),()))
        (some (((x.1.1.1,(x.1.1.2.1,(OI,(x.1.1.2.2.2.1,(OC,(OC,(false,(OB,(0:Int))))))))),((0:Int),())),())))
       (some (((x.1.1.1,(x.1.1.2.1,(OI,(x.1.1.2.2.2.1,(OC,(OC,(false,(OB,(0:Int))))))))),((1:Int),())),())))
      (cond (x.1.1.1==3)
       (cond y1.1.1
        ((F 160 C7 ((x.1.1.2.2.2.2.1,()),())).bind fun(qi:Q0) =>
        cond qi.1.1
         ((F 160 C7 ((x.1.1.2.2.2.2.2.1,()),())).bind fun(mG:Q0) =>
         cond (not mG.1.1)
          (some (((x.1.1.1,(x.1.1.2.1,(OI,(OI,(x.1.1.2.2.2.2.1,(x.1.1.2.2.2.2.2.1,(false,(OB,(0:Int))))))))),((1:Int),())),()))
          (some (((x.1.1.1,(x.1.1.2.1,(OI,(OI,(x.1.1.2.2.2.2.1,(x.1.1.2.2.2.2.2.1,(false,(OB,(0:Int))))))))),((0:Int),())),())))
         (some (((x.1.1.1,(x.1.1.2.1,(OI,(OI,(x.1.1.2.2.2.2.1,(x.1.1.2.2.2.2.2.1,(false,(OB,(0:Int))))))))),((1:Int),())),())))
        (some (((x.1.1.1,(x.1.1.2.1,(OI,(OI,(x.1.1.2.2.2.2.1,(x.1.1.2.2.2.2.2.1,(false,(OB,(0:Int))))))))),((1:Int),())),())))
       (cond (x.1.1.1==5)
        (cond y1.1.1
         ((F 159 rf ((x.1.1.2.2.1,()),())).bind fun(qj:Q0) =>
         cond qj.1.1
          ((F 159 rf ((x.1.1.2.2.2.1,()),())).bind fun(lf:Q0) =>
          cond lf.1.1
           (cond (not ((cT .andNot .i64 x.1.1.2.2.2.2.2.2.2.2 (3:Int))==0))
            (some (((x.1.1.1,(x.1.1.2.1,(x.1.1.2.2.1,(x.1.1.2.2.2.1,(OC,(OC,(false,(OB,x.1.1.2.2.2.2.2.2.2.2)))))))),((1:Int),())),()))
            (some (((x.1.1.1,(x.1.1.2.1,(x.1.1.2.2.1,(x.1.1.2.2.2.1,(OC,(OC,(false,(OB,x.1.1.2.2.2.2.2.2.2.2)))))))),((0:Int),())),())))
           (some (((x.1.1.1,(x.1.1.2.1,(x.1.1.2.2.1,(x.1.1.2.2.2.1,(OC,(OC,(false,(OB,x.1.1.2.2.2.2.2.2.2.2)))))))),((1:Int),())),())))
          (some (((x.1.1.1,(x.1.1.2.1,(x.1.1.2.2.1,(x.1.1.2.2.2.1,(OC,(OC,(false,(OB,x.1.1.2.2.2.2.2.2.2.2)))))))),((1:Int),())),())))
         (some (((x.1.1.1,(x.1.1.2.1,(x.1.1.2.2.1,(x.1.1.2.2.2.1,(OC,(OC,(false,(OB,x.1.1.2.2.2.2.2.2.2.2)))))))),((1:Int),())),())))
        (cond (x.1.1.1==7)
         ((F 161 wR ((x.1.1.2.2.2.2.2.2.2.1,()),())).bind fun(Fg:Q0) =>
         cond (not Fg.1.1)
          (cond (not y1.1.1)
           (some (((x.1.1.1,(x.1.1.2.1,(OI,(OI,(OC,(OC,(x.1.1.2.2.2.2.2.2.1,(x.1.1.2.2.2.2.2.2.2.1,(0:Int))))))))),((1:Int),())),()))
           (some (((x.1.1.1,(x.1.1.2.1,(OI,(OI,(OC,(OC,(x.1.1.2.2.2.2.2.2.1,(x.1.1.2.2.2.2.2.2.2.1,(0:Int))))))))),((4:Int),())),())))
          (cond (not y1.1.1)
           (some (((x.1.1.1,(x.1.1.2.1,(OI,(OI,(OC,(OC,(x.1.1.2.2.2.2.2.2.1,(x.1.1.2.2.2.2.2.2.2.1,(0:Int))))))))),((1:Int),())),()))
           (some (((x.1.1.1,(x.1.1.2.1,(OI,(OI,(OC,(OC,(x.1.1.2.2.2.2.2.2.1,(x.1.1.2.2.2.2.2.2.2.1,(0:Int))))))))),((0:Int),())),()))))
         (cond (x.1.1.1==8)
          (cond y1.1.1
           ((F 162 Hh ((x.1.1.2.2.2.2.2.2.2.2,()),())).bind fun(uA:Q0) =>
           cond (not uA.1.1)
            (some (((x.1.1.1,(x.1.1.2.1,(OI,(OI,(OC,(OC,(x.1.1.2.2.2.2.2.2.1,(OB,x.1.1.2.2.2.2.2.2.2.2)))))))),((1:Int),())),()))
            (some (((x.1.1.1,(x.1.1.2.1,(OI,(OI,(OC,(OC,(x.1.1.2.2.2.2.2.2.1,(OB,x.1.1.2.2.2.2.2.2.2.2)))))))),((0:Int),())),())))
           (some (((x.1.1.1,(x.1.1.2.1,(OI,(OI,(OC,(OC,(x.1.1.2.2.2.2.2.2.1,(OB,x.1.1.2.2.2.2.2.2.2.2)))))))),((1:Int),())),())))
          (some (((x.1.1.1,(x.1.1.2.1,(OI,(OI,(OC,(OC,(false,(OB,(0:Int))))))))),((1:Int),())),()))))))))
    (cond (x.1.1.1==4)
     (cond (not y1.1.1)
      (some (((x.1.1.1,(x.1.1.2.1,(OI,(OI,(OC,(OC,(false,(OB,(0:Int))))))))),((1:Int),())),()))
      (some (((x.1.1.1,(x.1.1.2.1,(OI,(OI,(OC,(OC,(false,(OB,(0:Int))))))))),((0:Int),())),())))
     (cond (x.1.1.1==6)
      (cond y1.1.1
       ((F 159 rf ((x.1.1.2.2.2.1,()),())).bind fun(Tp:Q0) =>
       cond (not Tp.1.1)
        (some (((x.1.1.1,(x.1.1.2.1,(OI,(x.1.1.2.2.2.1,(OC,(OC,(false,(OB,(0:Int))))))))),((1:Int),())),()))
        (some (((x.1.1.1,(x.1.1.2.1,(OI,(x.1.1.2.2.2.1,(OC,(OC,(false,(OB,(0:Int))))))))),((0:Int),())),())))
       (some (((x.1.1.1,(x.1.1.2.1,(OI,(x.1.1.2.2.2.1,(OC,(OC,(false,(OB,(0:Int))))))))),((1:Int),())),())))
      (cond (x.1.1.1==3)
       (cond y1.1.1
        ((F 160 C7 ((x.1.1.2.2.2.2.1,()),())).bind fun(VV:Q0) =>
        cond VV.1.1
         ((F 160 C7 ((x.1.1.2.2.2.2.2.1,()),())).bind fun(YK:Q0) =>
         cond (not YK.1.1)
          (some (((x.1.1.1,(x.1.1.2.1,(OI,(OI,(x.1.1.2.2.2.2.1,(x.1.1.2.2.2.2.2.1,(false,(OB,(0:Int))))))))),((1:Int),())),()))
          (some (((x.1.1.1,(x.1.1.2.1,(OI,(OI,(x.1.1.2.2.2.2.1,(x.1.1.2.2.2.2.2.1,(false,(OB,(0:Int))))))))),((0:Int),())),())))
         (some (((x.1.1.1,(x.1.1.2.1,(OI,(OI,(x.1.1.2.2.2.2.1,(x.1.1.2.2.2.2.2.1,(false,(OB,(0:Int))))))))),((1:Int),())),())))
        (some (((x.1.1.1,(x.1.1.2.1,(OI,(OI,(x.1.1.2.2.2.2.1,(x.1.1.2.2.2.2.2.1,(false,(OB,(0:Int))))))))),((1:Int),())),())))
       (cond (x.1.1.1==5)
        (cond y1.1.1
         ((F 159 rf ((x.1.1.2.2.1,()),())).bind fun(VW:Q0) =>
         cond VW.1.1
          ((F 159 rf ((x.1.1.2.2.2.1,()),())).bind fun(HH:Q0) =>
          cond HH.1.1
           (cond (not ((cT .andNot .i64 x.1.1.2.2.2.2.2.2.2.2 (3:Int))==0))
            (some (((x.1.1.1,(x.1.1.2.1,(x.1.1.2.2.1,(x.1.1.2.2.2.1,(OC,(OC,(false,(OB,x.1.1.2.2.2.2.2.2.2.2)))))))),((1:Int),())),()))
            (some (((x.1.1.1,(x.1.1.2.1,(x.1.1.2.2.1,(x.1.1.2.2.2.1,(OC,(OC,(false,(OB,x.1.1.2.2.2.2.2.2.2.2)))))))),((0:Int),())),())))
           (some (((x.1.1.1,(x.1.1.2.1,(x.1.1.2.2.1,(x.1.1.2.2.2.1,(OC,(OC,(false,(OB,x.1.1.2.2.2.2.2.2.2.2)))))))),((1:Int),())),())))
          (some (((x.1.1.1,(x.1.1.2.1,(x.1.1.2.2.1,(x.1.1.2.2.2.1,(OC,(OC,(false,(OB,x.1.1.2.2.2.2.2.2.2.2)))))))),((1:Int),())),())))
         (some (((x.1.1.1,(x.1.1.2.1,(x.1.1.2.2.1,(x.1.1.2.2.2.1,(OC,(OC,(false,(OB,x.1.1.2.2.2.2.2.2.2.2)))))))),((1:Int),())),())))
        (cond (x.1.1.1==7)
         ((F 161 wR ((x.1.1.2.2.2.2.2.2.2.1,()),())).bind fun(y21:Q0) =>
         cond (not y21.1.1)
          (cond (not y1.1.1)
           (some (((x.1.1.1,(x.1.1.2.1,(OI,(OI,(OC,(OC,(x.1.1.2.2.2.2.2.2.1,(x.1.1.2.2.2.2.2.2.2.1,(0:Int))))))))),((1:Int),())),()))
           (some (((x.1.1.1,(x.1.1.2.1,(OI,(OI,(OC,(OC,(x.1.1.2.2.2.2.2.2.1,(x.1.1.2.2.2.2.2.2.2.1,(0:Int))))))))),((4:Int),())),())))
          (cond (not y1.1.1)
           (some (((x.1.1.1,(x.1.1.2.1,(OI,(OI,(OC,(OC,(x.1.1.2.2.2.2.2.2.1,(x.1.1.2.2.2.2.2.2.2.1,(0:Int))))))))),((1:Int),())),()))
           (some (((x.1.1.1,(x.1.1.2.1,(OI,(OI,(OC,(OC,(x.1.1.2.2.2.2.2.2.1,(x.1.1.2.2.2.2.2.2.2.1,(0:Int))))))))),((0:Int),())),()))))
         (cond (x.1.1.1==8)
          (cond y1.1.1
           ((F 162 Hh ((x.1.1.2.2.2.2.2.2.2.2,()),())).bind fun(y22:Q0) =>
           cond (not y22.1.1)
            (some (((x.1.1.1,(x.1.1.2.1,(OI,(OI,(OC,(OC,(x.1.1.2.2.2.2.2.2.1,(OB,x.1.1.2.2.2.2.2.2.2.2)))))))),((1:Int),())),()))
            (some (((x.1.1.1,(x.1.1.2.1,(OI,(OI,(OC,(OC,(x.1.1.2.2.2.2.2.2.1,(OB,x.1.1.2.2.2.2.2.2.2.2)))))))),((0:Int),())),())))
           (some (((x.1.1.1,(x.1.1.2.1,(OI,(OI,(OC,(OC,(x.1.1.2.2.2.2.2.2.1,(OB,x.1.1.2.2.2.2.2.2.2.2)))))))),((1:Int),())),())))
          (some (((x.1.1.1,(x.1.1.2.1,(OI,(OI,(OC,(OC,(false,(OB,(0:Int))))))))),((1:Int),())),()))))))))):=by kernel_rfl
theorem J0(F:FT)(J:JT A8)(x:VT):bX 131 A8 Tryz.f131 F J x =
  cond (x.1.1.1==1)
   ((F 152 Hi (((x.1.1.2.1,(([]:List ae),(OB,(0:Int)))),()),(x.2.1,()))).bind fun(y1:P8) =>
   some (y1.1,(y1.2.1,())))
   (cond (x.1.1.1==2)
    ((F 153 P3 ((x.1.1,()),(x.2.1,()))).bind fun(y2:P8) =>
    some (y2.1,(y2.2.1,())))
    (cond (x.1.1.1==3)
     ((F 154 ou ((x.1.1,()),(x.2.1,()))).bind fun(y3:P8) =>
     some (y3.1,(y3.2.1,())))
     (cond (x.1.1.1==4)
      ((F 155 A9 ((x.1.1,()),(x.2.1,()))).bind fun(y4:P8) =>
      some (y4.1,(y4.2.1,())))
      (cond (x.1.1.1==5)
       ((F 156 zc ((x.1.1,()),(x.2.1,()))).bind fun(y5:P8) =>
       some (y5.1,(y5.2.1,())))
       (cond (x.1.1.1==6)
        ((F 157 rh ((x.1.1,()),(x.2.1,()))).bind fun(y6:P8) =>
        some (y6.1,(y6.2.1,())))
        ((F 158 P4 ((x.1.1,()),(x.2.1,()))).bind fun(y7:P8) =>
        some (y7.1,(y7.2.1,())))))))):=by kernel_rfl
theorem afo(F:FT)(J:JT Na)(x:(acd×Unit)):bX 88 Na Tryz.f88 F J x =
  cond (x.1.1.1==3)
   (some ((((0:Int),(OI,(x.1.1.2.2.1,(x.1.1.2.2.2.1,(OC,(OC,x.1.1.2.2.2.2.2.2)))))),()),()))
   (cond (x.1.1.1==5)
    (some ((((0:Int),(OI,(OI,(OI,(x.1.1.2.2.2.2.1,(x.1.1.2.2.2.2.2.1,(x.1.1.2.2.2.2.2.2.1,(x.1.1.2.2.2.2.2.2.2.1,(0:Int))))))))),()),()))
    (cond (x.1.1.1==6)
     (some ((((0:Int),(OI,(x.1.1.2.2.1,(OI,x.1.1.2.2.2.2)))),()),()))
     (cond (x.1.1.1==7)
      (some ((((0:Int),(OI,(x.1.1.2.2.1,(x.1.1.2.2.2.1,(x.1.1.2.2.2.2.1,(x.1.1.2.2.2.2.2.1,(false,(OB,x.1.1.2.2.2.2.2.2.2.2)))))))),()),()))
      (cond (x.1.1.1==8)
       (some ((((0:Int),(OI,(x.1.1.2.2.1,(x.1.1.2.2.2.1,(x.1.1.2.2.2.2.1,(x.1.1.2.2.2.2.2.1,(false,(x.1.1.2.2.2.2.2.2.2.1,(0:Int))))))))),()),()))
       (some ((((0:Int),(OI,x.1.1.2.2)),()),())))))):=by kernel_rfl
theorem afp(F:FT)(J:JT Nb)(x:Q27):bX 89 Nb Tryz.f89 F J x =
  (F 87 yT ((x.1.1.1,()),())).bind fun(y1:Q0) =>
  (F 123 P5 ((x.1.1.2,()),())).bind fun(y2:Q0) =>
  cond y1.1.1
   (cond y2.1.1
    (some ((true,()),()))
    (some (((((x.1.1.2.1.1==0)&&(x.1.1.2.1.2==0))&&(x.1.1.2.2==0)),()),())))
   (some ((false,()),())):=by kernel_rfl
theorem afq(F:FT)(J:JT Fa)(x:((ID×abM)×Unit)):bX 105 Fa Tryz.f105 F J x =
  cond ((x.1.1.1==x.1.2.1.1)&&(x.1.1.2==x.1.2.1.2))
   (some (((0:Int),()),()))
   (cond (decide (x.1.1.1<x.1.2.1.1))
    (some (((-1:Int),()),()))
    (cond (x.1.1.1==x.1.2.1.1)
     (cond (decide (x.1.1.2<x.1.2.1.2))
      (some (((-1:Int),()),()))
      (some (((1:Int),()),())))
     (some (((1:Int),()),())))):=by kernel_rfl
theorem afr(F:FT)(J:JT Nc)(x:((StateT×(mF×Unit))×Unit)):bX 114 Nc Tryz.f114 F J x =
  (F 79 qp ((x.1.1.1,(x.1.2.1.1,())),())).bind fun(y1:Q7) =>
  cond (not y1.1.2.1)
   (some ((OC,((13:Int),())),()))
   ((F 143 Hj ((x.1.1,(x.1.2.1.2,())),())).bind fun(y2:Fc) =>
   (F 144 q9 ((y1.1.1.2.1,(y2.1.1,())),())).bind fun(y3:Q2) =>
   cond (decide (y3.1.1<0))
    (some (((x.1.2.1.1,OD),((0:Int),())),()))
    (some (((x.1.2.1.1,y2.1.1),((0:Int),())),()))):=by kernel_rfl
theorem afs(F:FT)(J:JT yW)(x:((aj×(ai×Unit))×Unit)):bX 115 yW Tryz.f115 F J x =
 J ub (aN Tryz.prog 115 0) ((false,((0:Int),())),(((x.1.1,()),((x.1.2.1,()),((([]:List ah),(([]:List ai),())),((x.1.1.1,(([]:List ai),())),())))),())):=by kernel_rfl
theorem Qy(F:FT)(J:JT yW)(x:((Bool×aa3)×((abT×((ai×Unit)×aa4))×Unit))):fw 115 0 yW Tryz.f115 ub F J x =
  cond (decide (x.1.2.1<(lI x.2.1.1.1.2)))
   (cond (not x.1.1)
    (((ba x.2.1.1.1.2 x.1.2.1)).bind fun(y1:ai) =>
    (F 105 Fa ((x.2.1.2.1.1.1,(y1.1,())),())).bind fun(y2:Q2) =>
    cond (decide (y2.1.1<0))
     (cond (aO (List.length x.2.1.2.2.2.1.2.1) (List.length (x.2.1.2.1.1::([]:List ai))))
      (((ba x.2.1.1.1.2 x.1.2.1)).bind fun(y3:ai) =>
      cond (aO (List.length (x.2.1.2.2.2.1.2.1++(x.2.1.2.1.1::([]:List ai)))) (List.length (y3::([]:List ai))))
       (J ub (aN Tryz.prog 115 0) ((true,((wI (x.1.2.1+1)),())),(((x.2.1.1.1,()),((x.2.1.2.1.1,()),(x.2.1.2.2.1,((x.2.1.2.2.2.1.1,(((x.2.1.2.2.2.1.2.1++(x.2.1.2.1.1::([]:List ai)))++(y3::([]:List ai))),())),())))),())))
       (none))
      (none))
     (((ba x.2.1.1.1.2 x.1.2.1)).bind fun(y4:ai) =>
     cond (aO (List.length x.2.1.2.2.2.1.2.1) (List.length (y4::([]:List ai))))
      (J ub (aN Tryz.prog 115 0) ((x.1.1,((wI (x.1.2.1+1)),())),(((x.2.1.1.1,()),((x.2.1.2.1.1,()),(x.2.1.2.2.1,((x.2.1.2.2.2.1.1,((x.2.1.2.2.2.1.2.1++(y4::([]:List ai))),())),())))),())))
      (none)))
    (((ba x.2.1.1.1.2 x.1.2.1)).bind fun(y5:ai) =>
    cond (aO (List.length x.2.1.2.2.2.1.2.1) (List.length (y5::([]:List ai))))
     (J ub (aN Tryz.prog 115 0) ((x.1.1,((wI (x.1.2.1+1)),())),(((x.2.1.1.1,()),((x.2.1.2.1.1,()),(x.2.1.2.2.1,((x.2.1.2.2.2.1.1,((x.2.1.2.2.2.1.2.1++(y5::([]:List ai))),())),())))),())))
     (none)))
   (cond (not x.1.1)
    (cond (aO (List.length x.2.1.2.2.2.1.2.1) (List.length (x.2.1.2.1.1::([]:List ai))))
     (some (((x.2.1.2.2.2.1.1,(x.2.1.2.2.2.1.2.1++(x.2.1.2.1.1::([]:List ai)))),()),()))
     (none))
    (some (((x.2.1.2.2.2.1.1,x.2.1.2.2.2.1.2.1),()),()))):=by kernel_rfl
theorem aft(F:FT)(J:JT yX)(x:((aj×(mF×aa7))×Unit)):bX 116 yX Tryz.f116 F J x =
 (F 79 qp ((x.1.1,(x.1.2.1.1,())),())).bind fun(y1:Q7) =>
 (F 146 yr ((y1.1.1.2.1,(x.1.2.1.2,(x.1.2.2.1,()))),())).bind fun(y2:Q6) =>
 (F 145 C8 ((x.1.1,(x.1.2.1.1,y2.1)),())).bind fun(y3:Q5) =>
 some ((y3.1.1,()),()):=by kernel_rfl
theorem afu(F:FT)(J:JT yY)(x:(((List az)×(az×Unit))×Unit)):bX 117 yY Tryz.f117 F J x =
  (F 147 tg ((x.1.1,(x.1.2.1.1,())),())).bind fun(y1:JY) =>
  cond (not y1.1.2.1)
   (cond (decide ((lI x.1.1)≥400))
    (some ((x.1.1,()),()))
    (J kR (aN Tryz.prog 117 0) ((x.1.1,(false,((0:Int),()))),(((x.1.2.1,()),()),(([]:List az),())))))
   (J kR (aN Tryz.prog 117 0) ((x.1.1,(false,((0:Int),()))),(((x.1.2.1,()),()),(([]:List az),())))):=by kernel_rfl
theorem Qz(F:FT)(J:JT yY)(x:(((List az)×(Bool×aa3))×(((az×Unit)×Unit)×((List az)×Unit)))):fw 117 0 yY Tryz.f117 kR F J x =
  cond (decide (x.1.2.2.1<(lI x.1.1)))
   (cond (not x.1.2.1)
    (((ba x.1.1 x.1.2.2.1)).bind fun(y2:az) =>
    (F 71 JX ((x.2.1.1.1.1,(y2.1,())),())).bind fun(y3:Q2) =>
    cond (decide (y3.1.1≤0))
     (cond (aO (List.length x.2.2.1) (List.length (x.2.1.1.1::([]:List az))))
      (((ba x.1.1 x.1.2.2.1)).bind fun(y4:az) =>
      cond (not (((y4.1.1.1==x.2.1.1.1.1.1.1)&&(y4.1.1.2==x.2.1.1.1.1.1.2))&&(y4.1.2==x.2.1.1.1.1.2)))
       (((ba x.1.1 x.1.2.2.1)).bind fun(y5:az) =>
       cond (aO (List.length (x.2.2.1++(x.2.1.1.1::([]:List az)))) (List.length (y5::([]:List az))))
        (J kR (aN Tryz.prog 117 0) ((x.1.1,(true,((wI (x.1.2.2.1+1)),()))),(((x.2.1.1.1,()),()),(((x.2.2.1++(x.2.1.1.1::([]:List az)))++(y5::([]:List az))),()))))
        (none))
       (J kR (aN Tryz.prog 117 0) ((x.1.1,(true,((wI (x.1.2.2.1+1)),()))),(((x.2.1.1.1,()),()),((x.2.2.1++(x.2.1.1.1::([]:List az))),())))))
      (none))
     (((ba x.1.1 x.1.2.2.1)).bind fun(y6:az) =>
     cond (not (((y6.1.1.1==x.2.1.1.1.1.1.1)&&(y6.1.1.2==x.2.1.1.1.1.1.2))&&(y6.1.2==x.2.1.1.1.1.2)))
      (((ba x.1.1 x.1.2.2.1)).bind fun(y7:az) =>
      cond (aO (List.length x.2.2.1) (List.length (y7::([]:List az))))
       (J kR (aN Tryz.prog 117 0) ((x.1.1,(x.1.2.1,((wI (x.1.2.2.1+1)),()))),(((x.2.1.1.1,()),()),((x.2.2.1++(y7::([]:List az))),()))))
       (none))
      (J kR (aN Tryz.prog 117 0) ((x.1.1,(x.1.2.1,((wI (x.1.2.2.1+1)),()))),(((x.2.1.1.1,()),()),x.2.2)))))
    (((ba x.1.1 x.1.2.2.1)).bind fun(y8:az) =>
    cond (not (((y8.1.1.1==x.2.1.1.1.1.1.1)&&(y8.1.1.2==x.2.1.1.1.1.1.2))&&(y8.1.2==x.2.1.1.1.1.2)))
     (((ba x.1.1 x.1.2.2.1)).bind fun(y9:az) =>
     cond (aO (List.length x.2.2.1) (List.length (y9::([]:List az))))
      (J kR (aN Tryz.prog 117 0) ((x.1.1,(x.1.2.1,((wI (x.1.2.2.1+1)),()))),(((x.2.1.1.1,()),()),((x.2.2.1++(y9::([]:List az))),()))))
      (none))
     (J kR (aN Tryz.prog 117 0) ((x.1.1,(x.1.2.1,((wI (x.1.2.2.1+1)),()))),(((x.2.1.1.1,()),()),x.2.2)))))
   (cond (not x.1.2.1)
    (cond (aO (List.length x.2.2.1) (List.length (x.2.1.1.1::([]:List az))))
     (some (((x.2.2.1++(x.2.1.1.1::([]:List az))),()),()))
     (none))
    (some (x.2.2,()))):=by kernel_rfl
theorem afv(F:FT)(J:JT Nd)(x:Tn):bX 118 Nd Tryz.f118 F J x =
  (F 124 tZ ((x.1.1,(x.1.2.1,())),())).bind fun(y1:P7) =>
  (F 79 qp ((x.1.1,(y1.1.1,())),())).bind fun(y2:Q7) =>
  (F 148 M6 ((y2.1.1.2.1,(x.1.2.1,())),())).bind fun(y3:JY) =>
  cond ((y3.1.1.1.1==x.1.2.1.1.1)&&(y3.1.1.1.2==x.1.2.1.1.2))
   ((F 148 M6 ((y2.1.1.2.1,(y3.1.1,())),())).bind fun(y4:JY) =>
   cond ((y4.1.1.1.1==x.1.2.1.1.1)&&(y4.1.1.1.2==x.1.2.1.1.2))
    (some ((OD,()),()))
    (some ((y4.1.1,()),())))
   (cond ((y3.1.1.1.1==x.1.2.1.1.1)&&(y3.1.1.1.2==x.1.2.1.1.2))
    (some ((OD,()),()))
    (some ((y3.1.1,()),()))):=by kernel_rfl
theorem afw(F:FT)(J:JT Ng)(x:Tn):bX 119 Ng Tryz.f119 F J x =
 (F 124 tZ ((x.1.1,(x.1.2.1,())),())).bind fun(y1:P7) =>
 (F 79 qp ((x.1.1,(y1.1.1,())),())).bind fun(y2:Q7) =>
 (F 126 yu ((y2.1.1.2.1,(x.1.2.1,())),())).bind fun(y3:Q6) =>
 (F 145 C8 ((x.1.1,(y1.1.1,y3.1)),())).bind fun(y4:Q5) =>
 some ((y4.1.1,()),()):=by kernel_rfl
theorem afx(F:FT)(J:JT Hg)(x:((aj×(ae×aa7))×Unit)):bX 120 Hg Tryz.f120 F J x =
 (F 124 tZ ((x.1.1,(x.1.2.1,())),())).bind fun(y1:P7) =>
 (F 79 qp ((x.1.1,(y1.1.1,())),())).bind fun(y2:Q7) =>
 (F 149 Hk ((y2.1.1.2.1,(x.1.2.1,(x.1.2.2.1,()))),())).bind fun(y3:Q6) =>
 (F 145 C8 ((x.1.1,(y1.1.1,y3.1)),())).bind fun(y4:Q5) =>
 some ((y4.1.1,()),()):=by kernel_rfl
theorem afy(F:FT)(J:JT pK)(x:Q6):bX 122 pK Tryz.f122 F J x =
 J wX (aN Tryz.prog 122 0) ((x.1.1,((0:Int),((0:Int),()))),((),())):=by kernel_rfl
theorem QA(F:FT)(J:JT pK)(x:(ab7×abZ)):fw 122 0 pK Tryz.f122 wX F J x =
  cond (decide (x.1.2.2.1<(lI x.1.1)))
   (((ba x.1.1 x.1.2.2.1)).bind fun(y1:ae) =>
   ((ba x.1.1 x.1.2.1)).bind fun(y2:ae) =>
   (F 71 JX ((y1,(y2,())),())).bind fun(y3:Q2) =>
   cond (decide (y3.1.1<0))
    (J wX (aN Tryz.prog 122 0) ((x.1.1,(x.1.2.2.1,((wI (x.1.2.2.1+1)),()))),((),())))
    (J wX (aN Tryz.prog 122 0) ((x.1.1,(x.1.2.1,((wI (x.1.2.2.1+1)),()))),((),()))))
   (J BB (aN Tryz.prog 122 1) ((x.1.1,(x.1.2.1,((0:Int),()))),((),(([]:List ae),())))):=by kernel_rfl
theorem QB(F:FT)(J:JT pK)(x:(ab7×(Unit×abO))):fw 122 1 pK Tryz.f122 BB F J x =
  cond (decide (x.1.2.2.1<(lI x.1.1)))
   (cond ((lI x.1.1)==0)
    (none)
    (((ba x.1.1 (Int.tmod (wI (x.1.2.1+x.1.2.2.1)) (lI x.1.1)))).bind fun(y4:ae) =>
    cond (aO (List.length x.2.2.1) (List.length (y4::([]:List ae))))
     (J BB (aN Tryz.prog 122 1) ((x.1.1,(x.1.2.1,((wI (x.1.2.2.1+1)),()))),((),((x.2.2.1++(y4::([]:List ae))),()))))
     (none)))
   (some (x.2.2,())):=by kernel_rfl
theorem afz(F:FT)(J:JT P2)(x:Tn):bX 234 P2 Tryz.f234 F J x =
  (F 124 tZ ((x.1.1,(x.1.2.1,())),())).bind fun(y1:P7) =>
  cond (not y1.1.2.1)
   (some ((OD,(false,())),()))
   ((F 79 qp ((x.1.1,(y1.1.1,())),())).bind fun(y2:Q7) =>
   (F 248 Hl ((y2.1.1.2.1,(x.1.2.1,())),())).bind fun(y3:JY) =>
   some (y3.1,())):=by kernel_rfl
theorem afA(F:FT)(J:JT Nh)(x:(((List ah)×Unit)×Unit)):bX 127 Nh Tryz.f127 F J x =
  cond (List.isEmpty x.1.1)
   (sM 2 fun(j1:Nat) =>
   cond ((j1==0)==true)
    (some ((([]:List ah),()),()))
    (cond (aO (List.length ([]:List ah)) (List.length x.1.1))
     (some (((([]:List ah)++x.1.1),()),()))
     (none)))
   (cond (aO (List.length ([]:List ah)) (List.length x.1.1))
    (some (((([]:List ah)++x.1.1),()),()))
    (none)):=by kernel_rfl
theorem afB(F:FT)(J:JT Ni)(x:(((List ai)×Unit)×Unit)):bX 128 Ni Tryz.f128 F J x =
  cond (List.isEmpty x.1.1)
   (sM 2 fun(j1:Nat) =>
   cond ((j1==0)==true)
    (some ((([]:List ai),()),()))
    (cond (aO (List.length ([]:List ai)) (List.length x.1.1))
     (some (((([]:List ai)++x.1.1),()),()))
     (none)))
   (cond (aO (List.length ([]:List ai)) (List.length x.1.1))
    (some (((([]:List ai)++x.1.1),()),()))
    (none)):=by kernel_rfl
theorem afC(F:FT)(J:JT yZ)(x:Q6):bX 110 yZ Tryz.f110 F J x =
  cond (List.isEmpty x.1.1)
   (sM 2 fun(j1:Nat) =>
   cond ((j1==0)==true)
    (some ((([]:List ae),()),()))
    (cond (aO (List.length ([]:List ae)) (List.length x.1.1))
     (some (((([]:List ae)++x.1.1),()),()))
     (none)))
   (cond (aO (List.length ([]:List ae)) (List.length x.1.1))
    (some (((([]:List ae)++x.1.1),()),()))
    (none)):=by kernel_rfl
theorem afD(F:FT)(J:JT y0)(x:Q5):bX 133 y0 Tryz.f133 F J x =
 J BC (aN Tryz.prog 133 0) (((0:Int),()),(((x.1.1,()),()),(([]:List ID),()))):=by kernel_rfl
theorem QC(F:FT)(J:JT y0)(x:(aa3×(aa9×((List ID)×Unit)))):fw 133 0 y0 Tryz.f133 BC F J x =
  cond (decide (x.1.1<(lI x.2.1.1.1.1)))
   (((ba x.2.1.1.1.1 x.1.1)).bind fun(y1:ah) =>
   cond (aO (List.length x.2.2.1) (List.length (y1.1::([]:List ID))))
    (J BC (aN Tryz.prog 133 0) (((wI (x.1.1+1)),()),(((x.2.1.1.1,()),()),((x.2.2.1++(y1.1::([]:List ID))),()))))
    (none))
   (J wY (aN Tryz.prog 133 1) (((0:Int),()),(((x.2.1.1.1,()),()),x.2.2))):=by kernel_rfl
theorem QD(F:FT)(J:JT y0)(x:(aa3×(aa9×((List ID)×Unit)))):fw 133 1 y0 Tryz.f133 wY F J x =
  cond (decide (x.1.1<(lI x.2.1.1.1.2)))
   (((ba x.2.1.1.1.2 x.1.1)).bind fun(y2:ai) =>
   cond (aO (List.length x.2.2.1) (List.length (y2.1::([]:List ID))))
    (J wY (aN Tryz.prog 133 1) (((wI (x.1.1+1)),()),(((x.2.1.1.1,()),()),((x.2.2.1++(y2.1::([]:List ID))),()))))
    (none))
   (some (x.2.2,())):=by kernel_rfl
theorem afE(F:FT)(J:JT vg)(x:(((List ID)×Unit)×Unit)):bX 134 vg Tryz.f134 F J x =
 J wZ (aN Tryz.prog 134 0) ((x.1.1,((0:Int),())),((),())):=by kernel_rfl
theorem QE(F:FT)(J:JT vg)(x:(((List ID)×aa3)×abZ)):fw 134 0 vg Tryz.f134 wZ F J x =
  cond (decide (x.1.2.1<(lI x.1.1)))
   (((ba x.1.1 x.1.2.1)).bind fun(y1:ID) =>
   (F 87 yT ((y1,()),())).bind fun(y2:Q0) =>
   cond (not y2.1.1)
    (some ((false,()),()))
    (cond (decide (x.1.2.1>0))
     (((ba x.1.1 (wI (x.1.2.1-1)))).bind fun(y3:ID) =>
     ((ba x.1.1 x.1.2.1)).bind fun(y4:ID) =>
     (F 105 Fa ((y3,(y4,())),())).bind fun(y5:Q2) =>
     cond (decide (y5.1.1≥0))
      (some ((false,()),()))
      (J wZ (aN Tryz.prog 134 0) ((x.1.1,((wI (x.1.2.1+1)),())),((),()))))
     (J wZ (aN Tryz.prog 134 0) ((x.1.1,((wI (x.1.2.1+1)),())),((),())))))
   (some ((true,()),())):=by kernel_rfl
theorem afF(F:FT)(J:JT la)(x:Q5):bX 135 la Tryz.f135 F J x =
 J uc (aN Tryz.prog 135 0) (((0:Int),()),(((x.1.1,()),()),())):=by kernel_rfl
theorem QF(F:FT)(J:JT la)(x:(aa3×ack)):fw 135 0 la Tryz.f135 uc F J x =
  cond (decide (x.1.1<(lI x.2.1.1.1.1)))
   (((ba x.2.1.1.1.1 x.1.1)).bind fun(y1:ah) =>
   (F 122 pK ((y1.2.1,()),())).bind fun(y2:Q6) =>
   (F 98 He ((y1.2.1,y2.1),())).bind fun(y3:Q0) =>
   cond (not y3.1.1)
    (some ((false,()),()))
    (J w4 (aN Tryz.prog 135 1) ((x.1.1,(y1.2.1,((0:Int),()))),(((x.2.1.1.1,()),()),()))))
   (J w5 (aN Tryz.prog 135 2) (((0:Int),()),(((x.2.1.1.1,()),()),()))):=by kernel_rfl
theorem QG(F:FT)(J:JT la)(x:((Int×ab0)×ack)):fw 135 1 la Tryz.f135 w4 F J x =
  cond (decide (x.1.2.2.1<(lI x.1.2.1)))
   (((ba x.1.2.1 x.1.2.2.1)).bind fun(y4:ae) =>
   (F 92 wP ((x.2.1.1.1,(y4.1,())),())).bind fun(y5:Ua) =>
   cond (not y5.1.2.1)
    (some ((false,()),()))
    (((ba x.1.2.1 x.1.2.2.1)).bind fun(y6:ae) =>
    cond (decide (y6.2<0))
     (some ((false,()),()))
     (((ba x.1.2.1 x.1.2.2.1)).bind fun(y7:ae) =>
     cond (decide (y7.2>1))
      (some ((false,()),()))
      (J w4 (aN Tryz.prog 135 1) ((x.1.1,(x.1.2.1,((wI (x.1.2.2.1+1)),()))),(((x.2.1.1.1,()),()),()))))))
   (J uc (aN Tryz.prog 135 0) (((wI (x.1.1+1)),()),(((x.2.1.1.1,()),()),()))):=by kernel_rfl
end Go.Vs
