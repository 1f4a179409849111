/- Normal forms of the program's functions, the second part. -/
import Derived.Test.YtpkfpbpbkabkdaaGreatEngineD
import Derived.KernelRfl
set_option linter.unusedVariables false
set_option maxRecDepth 1000000
set_option maxHeartbeats 0
namespace Go.Vs
open Go.Proofs
theorem adU(F:FT)(J:JT O2)(x:XK):bS 45 O2 Tryz.f45 F J x =
  (F 46 Mq ((x.1.2.1,()),())).bind fun(y1:Q2) =>
  cond (y1.1.1 != 0)
   (some ((OS,y1.1),()))
   ((F 79 pJ ((x.1.1.1,(x.1.2.1.2.1,())),())).bind fun(y2:Q7) =>
   cond (x.1.2.1.1==1)
    (cond y2.1.2.1
     (some ((OS,((12:Int),())),()))
     (cond (decide ((lI x.1.1.1.1)≥24))
      (some ((OS,((3:Int),())),()))
      ((F 80 Ey ((x.1.1.1,((x.1.2.1.2.1,(([]:List ab),(OB,(0:Int)))),())),())).bind fun(y3:Q5) =>
      some (((y3.1.1,x.1.1.2),((0:Int),())),()))))
    (cond (x.1.2.1.1==2)
     (cond (not y2.1.2.1)
      (some ((OS,((13:Int),())),()))
      (cond (decide ((lI y2.1.1.2.1)>0))
       (some ((OS,((14:Int),())),()))
       ((F 81 oO ((x.1.1.1,(x.1.2.1.2.1,(OI,()))),())).bind fun(y4:Q5) =>
       some (((y4.1.1,x.1.1.2),((0:Int),())),()))))
     (cond (x.1.2.1.1==3)
      ((F 82 O6 ((x.1.1,(x.1.2.1,())),())).bind fun(y5:Q1) =>
      some (y5.1,()))
      (cond (x.1.2.1.1==4)
       ((F 83 O7 ((x.1.1,(x.1.2.1,())),())).bind fun(y6:Q1) =>
       some (y6.1,()))
       (cond (x.1.2.1.1==5)
        ((F 84 O8 ((x.1.1,(x.1.2.1,())),())).bind fun(y7:Q1) =>
        some (y7.1,()))
        (cond (x.1.2.1.1==6)
         ((F 85 xV ((x.1.1,(x.1.2.1,())),())).bind fun(y8:Q1) =>
         some (y8.1,()))
         ((F 86 Al ((x.1.1,(x.1.2.1,())),())).bind fun(y9:Q1) =>
         some (y9.1,())))))))):=by kernel_rfl
theorem adV(F:FT)(J:JT Gp)(x:((StateT×abd)×Unit)):bS 22 Gp Tryz.f22 F J x =
  (F 55 Ak ((x.1.1.1,(x.1.2.1.1,())),())).bind fun(y1:Q0) =>
  (F 65 Ez ((x.1.1.2,(x.1.2.1.2,())),())).bind fun(y2:Q0) =>
  cond y1.1.1
   (some (y2.1,()))
   (some ((false,()),())):=by kernel_rfl
theorem adW(F:FT)(J:JT pJ)(x:Q30):bS 79 pJ Tryz.f79 F J x =
 J AD (aN Tryz.prog 79 0) (((0:Int),()),(((x.1.1,()),((x.1.2.1,()),(((0:Int),((0:Int),(([]:List ab),(OB,((0:Int),()))))),()))),())):=by kernel_rfl
theorem Ph(F:FT)(J:JT pJ)(x:(aaa×((aaW×abr)×Unit))):fH 79 0 pJ Tryz.f79 AD F J x =
  cond (decide (x.1.1<(lI x.2.1.1.1.1)))
   (((aX x.2.1.1.1.1 x.1.1)).bind fun(y1:ag) =>
   cond ((y1.1.1==x.2.1.2.1.1.1)&&(y1.1.2==x.2.1.2.1.1.2))
    (((aX x.2.1.1.1.1 x.1.1)).bind fun(y2:ag) =>
    some ((y2,(true,())),()))
    (J AD (aN Tryz.prog 79 0) (((wI (x.1.1+1)),()),(((x.2.1.1.1,()),((x.2.1.2.1.1,()),(x.2.1.2.2.1,()))),()))))
   (some (((OI,(([]:List ab),(OB,(0:Int)))),(false,())),())):=by kernel_rfl
theorem adX(F:FT)(J:JT Aj)(x:abp):bS 87 Aj Tryz.f87 F J x =
  cond (decide (x.1.1.1≥1))
   (cond (decide (x.1.1.1≤8))
    (cond (decide (x.1.1.2≥1))
     (some (((decide (x.1.1.2≤1048576)),()),()))
     (some ((false,()),())))
    (some ((false,()),())))
   (some ((false,()),())):=by kernel_rfl
theorem adY(F:FT)(J:JT tk)(x:SY):bS 124 tk Tryz.f124 F J x =
 J AE (aN Tryz.prog 124 0) (((0:Int),()),(((x.1.1,()),((x.1.2.1,()),((OI,()),()))),())):=by kernel_rfl
theorem Pj(F:FT)(J:JT tk)(x:(aaa×((aaW×(aae×abp))×Unit))):fH 124 0 tk Tryz.f124 AE F J x =
  cond (decide (x.1.1<(lI x.2.1.1.1.1)))
   (((aX x.2.1.1.1.1 x.1.1)).bind fun(y1:ag) =>
   (F 144 qt ((y1.2.1,(x.2.1.2.1.1,())),())).bind fun(y2:Q2) =>
   cond (decide (y2.1.1≥0))
    (((aX x.2.1.1.1.1 x.1.1)).bind fun(y3:ag) =>
    some ((y3.1,(true,())),()))
    (J AE (aN Tryz.prog 124 0) (((wI (x.1.1+1)),()),(((x.2.1.1.1,()),((x.2.1.2.1.1,()),((x.2.1.2.2.1.1,()),()))),()))))
   (some ((OI,(false,())),())):=by kernel_rfl
theorem adZ(F:FT)(J:JT xU)(x:Q30):bS 92 xU Tryz.f92 F J x =
 J AF (aN Tryz.prog 92 0) (((0:Int),()),(((x.1.1,()),((x.1.2.1,()),(((OI,(OB,(0:Int))),()),()))),())):=by kernel_rfl
theorem Pk(F:FT)(J:JT xU)(x:(aaa×((aaW×(aag×((ah×Unit)×Unit)))×Unit))):fH 92 0 xU Tryz.f92 AF F J x =
  cond (decide (x.1.1<(lI x.2.1.1.1.2)))
   (((aX x.2.1.1.1.2 x.1.1)).bind fun(y1:ah) =>
   cond ((y1.1.1==x.2.1.2.1.1.1)&&(y1.1.2==x.2.1.2.1.1.2))
    (((aX x.2.1.1.1.2 x.1.1)).bind fun(y2:ah) =>
    some ((y2,(true,())),()))
    (J AF (aN Tryz.prog 92 0) (((wI (x.1.1+1)),()),(((x.2.1.1.1,()),((x.2.1.2.1.1,()),((x.2.1.2.2.1.1,()),()))),()))))
   (some (((OI,(OB,(0:Int))),(false,())),())):=by kernel_rfl
theorem ad0(F:FT)(J:JT Gq)(x:SY):bS 192 Gq Tryz.f192 F J x =
  (F 216 Mr ((x.1.1,(x.1.2.1,())),())).bind fun(y1:KD) =>
  cond (not y1.1.2.1)
   (some ((([]:List ab),()),()))
   (cond (aL (List.length ([]:List ab)) (List.length (x.1.2.1::([]:List ab))))
    (J AG (aN Tryz.prog 192 0) ((),(((x.1.1,()),((x.1.2.1,()),((y1.1.1,()),()))),((([]:List ab)++(x.1.2.1::([]:List ab))),()))))
    (none)):=by kernel_rfl
theorem Pn(F:FT)(J:JT Gq)(x:(Unit×((aaW×(aae×aaZ))×aaX))):fH 192 0 Gq Tryz.f192 AG F J x =
  cond (not (((x.2.1.2.2.1.1.1.1==x.2.1.2.1.1.1.1)&&(x.2.1.2.2.1.1.1.2==x.2.1.2.1.1.1.2))&&(x.2.1.2.2.1.1.2==x.2.1.2.1.1.2)))
   (cond (decide ((lI x.2.2.1)<82))
    (cond (aL (List.length x.2.2.1) (List.length (x.2.1.2.2.1.1::([]:List ab))))
     ((F 216 Mr ((x.2.1.1.1,(x.2.1.2.2.1.1,())),())).bind fun(y2:KD) =>
     J AG (aN Tryz.prog 192 0) ((),(((x.2.1.1.1,()),((x.2.1.2.1.1,()),((y2.1.1,()),()))),((x.2.2.1++(x.2.1.2.2.1.1::([]:List ab))),()))))
     (none))
    (some (x.2.2,())))
   (some (x.2.2,())):=by kernel_rfl
theorem ad1(F:FT)(J:JT Cq)(x:EF):bS 121 Cq Tryz.f121 F J x =
 some (((x.1.1.1,(wI ((1:Int)-x.1.1.2))),()),()):=by kernel_rfl
theorem ad2(F:FT)(J:JT qt)(x:SZ):bS 144 qt Tryz.f144 F J x =
 J AH (aN Tryz.prog 144 0) ((x.1.1,((0:Int),())),(((x.1.2.1,()),()),())):=by kernel_rfl
theorem Po(F:FT)(J:JT qt)(x:(abu×(aaZ×Unit))):fH 144 0 qt Tryz.f144 AH F J x =
  cond (decide (x.1.2.1<(lI x.1.1)))
   (((aX x.1.1 x.1.2.1)).bind fun(y1:ab) =>
   cond (((y1.1.1==x.2.1.1.1.1.1)&&(y1.1.2==x.2.1.1.1.1.2))&&(y1.2==x.2.1.1.1.2))
    (some (x.1.2,()))
    (J AH (aN Tryz.prog 144 0) ((x.1.1,((wI (x.1.2.1+1)),())),(((x.2.1.1.1,()),()),()))))
   (some (((-1:Int),()),())):=by kernel_rfl
theorem ad3(F:FT)(J:JT Mo)(x:SZ):bS 148 Mo Tryz.f148 F J x =
  (F 144 qt ((x.1.1,(x.1.2.1,())),())).bind fun(y1:Q2) =>
  cond (decide (y1.1.1<0))
   (some ((OD,(false,())),()))
   (cond ((lI x.1.1)==0)
    (none)
    (((aX x.1.1 (Int.tmod (wI ((wI (y1.1.1+(lI x.1.1)))-1)) (lI x.1.1)))).bind fun(y2:ab) =>
    some ((y2,(true,())),()))):=by kernel_rfl
theorem ad4(F:FT)(J:JT Ak)(x:((aj×aaW)×Unit)):bS 55 Ak Tryz.f55 F J x =
  cond ((lI x.1.1.1) != (lI x.1.2.1.1))
   (some ((false,()),()))
   (cond ((lI x.1.1.2) != (lI x.1.2.1.2))
    (some ((false,()),()))
    (J AI (aN Tryz.prog 55 0) (((0:Int),()),(((x.1.1,()),((x.1.2.1,()),())),())))):=by kernel_rfl
theorem Pp(F:FT)(J:JT Ak)(x:(aaa×((aaW×abk)×Unit))):fH 55 0 Ak Tryz.f55 AI F J x =
  cond (decide (x.1.1<(lI x.2.1.1.1.1)))
   (((aX x.2.1.1.1.1 x.1.1)).bind fun(y1:ag) =>
   ((aX x.2.1.2.1.1.1 x.1.1)).bind fun(y2:ag) =>
   (F 98 Gz ((y1.2.1,(y2.2.1,())),())).bind fun(y3:Q0) =>
   cond (not ((y1.1.1==y2.1.1)&&(y1.1.2==y2.1.2)))
    (some ((false,()),()))
    (cond (not (y1.2.2.1==y2.2.2.1))
     (some ((false,()),()))
     (cond (y1.2.2.2 != y2.2.2.2)
      (some ((false,()),()))
      (cond (not y3.1.1)
       (some ((false,()),()))
       (J AI (aN Tryz.prog 55 0) (((wI (x.1.1+1)),()),(((x.2.1.1.1,()),((x.2.1.2.1.1,()),())),())))))))
   (J AJ (aN Tryz.prog 55 1) (((0:Int),()),(((x.2.1.1.1,()),((x.2.1.2.1.1,()),())),()))):=by kernel_rfl
theorem Pq(F:FT)(J:JT Ak)(x:(aaa×((aaW×abk)×Unit))):fH 55 1 Ak Tryz.f55 AJ F J x =
  cond (decide (x.1.1<(lI x.2.1.1.1.2)))
   (((aX x.2.1.1.1.2 x.1.1)).bind fun(y4:ah) =>
   ((aX x.2.1.2.1.1.2 x.1.1)).bind fun(y5:ah) =>
   cond (not (((y4.1.1==y5.1.1)&&(y4.1.2==y5.1.2))&&((y4.2.1==y5.2.1)&&(y4.2.2==y5.2.2))))
    (some ((false,()),()))
    (J AJ (aN Tryz.prog 55 1) (((wI (x.1.1+1)),()),(((x.2.1.1.1,()),((x.2.1.2.1.1,()),())),()))))
   (some ((true,()),())):=by kernel_rfl
theorem ad5(F:FT)(J:JT Ex)(x:((ByteArray×Unit)×Unit)):bS 91 Ex Tryz.f91 F J x =
 J AK (aN Tryz.prog 91 0) ((x.1.1,((0:Int),())),((),())):=by kernel_rfl
theorem Pr(F:FT)(J:JT Ex)(x:((ByteArray×aaa)×aa4)):fH 91 0 Ex Tryz.f91 AK F J x =
  cond (decide (x.1.2.1<(((ByteArray.size x.1.1):Nat):Int)))
   (((if 0≤x.1.2.1 then(x.1.1)[Int.toNat x.1.2.1]? else none)).bind fun(y1:UInt8) =>
   cond (decide (((UInt8.toNat y1:Nat):Int)<32))
    (some ((false,()),()))
    (((if 0≤x.1.2.1 then(x.1.1)[Int.toNat x.1.2.1]? else none)).bind fun(y2:UInt8) =>
    cond (decide (((UInt8.toNat y2:Nat):Int)>126))
     (some ((false,()),()))
     (J AK (aN Tryz.prog 91 0) ((x.1.1,((wI (x.1.2.1+1)),())),((),())))))
   (some (((decide ((((ByteArray.size x.1.1):Nat):Int)≤16)),()),())):=by kernel_rfl
theorem ad6(F:FT)(J:JT Mp)(x:Q2):bS 90 Mp Tryz.f90 F J x =
  cond (decide (x.1.1≥(-1099511627776:Int)))
   (some (((decide (x.1.1≤1099511627776)),()),()))
   (some ((false,()),())):=by kernel_rfl
theorem ad7(F:FT)(J:JT O3)(x:XL):bS 63 O3 Tryz.f63 F J x =
  (F 66 EA (x.1.2,())).bind fun(y1:Q2) =>
  cond (y1.1.1 != 0)
   (some ((OS,y1.1),()))
   ((F 103 Gy (x.1,())).bind fun(y2:Q1) =>
   some (y2.1,())):=by kernel_rfl
theorem ad8(F:FT)(J:JT Gs)(x:Q5):bS 164 Gs Tryz.f164 F J x =
 (F 191 EB ((x.1.1,()),())).bind fun(y1:Q6) =>
 J vZ (aN Tryz.prog 164 0) (((0:Int),()),(((x.1.1,()),()),(([]:List (List ab)),(([]:List ab),y1.1)))):=by kernel_rfl
theorem Ps(F:FT)(J:JT Gs)(x:(aaa×(abk×((List (List ab))×((List ab)×aaX))))):fH 164 0 Gs Tryz.f164 vZ F J x =
  cond (decide (x.1.1<(lI x.2.2.2.2.1)))
   (cond ((decide ((0:Int)≤x.1.1))&&(decide (x.1.1<(lI x.2.2.2.2.1))))
    (((x.2.2.2.2.1)[(Int.toNat x.1.1)]?).bind fun(y2:ab) =>
    (F 144 qt ((x.2.2.2.1,(y2,())),())).bind fun(y3:Q2) =>
    cond (decide (y3.1.1≥0))
     (J vZ (aN Tryz.prog 164 0) (((wI (x.1.1+1)),()),(((x.2.1.1.1,()),()),x.2.2)))
     (cond ((decide ((0:Int)≤x.1.1))&&(decide (x.1.1<(lI x.2.2.2.2.1))))
      (((x.2.2.2.2.1)[(Int.toNat x.1.1)]?).bind fun(y4:ab) =>
      (F 192 Gq ((x.2.1.1.1,(y4,())),())).bind fun(y5:Q6) =>
      cond (aL (List.length x.2.2.1) (List.length (y5.1.1::([]:List (List ab)))))
       (cond (aL (List.length x.2.2.2.1) (List.length y5.1.1))
        (J vZ (aN Tryz.prog 164 0) (((wI (x.1.1+1)),()),(((x.2.1.1.1,()),()),((x.2.2.1++(y5.1.1::([]:List (List ab)))),((x.2.2.2.1++y5.1.1),x.2.2.2.2)))))
        (none))
       (none))
      (none)))
    (none))
   (some ((x.2.2.1,()),())):=by kernel_rfl
theorem ad9(F:FT)(J:JT Gt)(x:Q5):bS 165 Gt Tryz.f165 F J x =
 (F 193 rR ((x.1.1,()),())).bind fun(y1:(((List Int)×Unit)×Unit)) =>
 J v5 (aN Tryz.prog 165 0) (((0:Int),((0:Int),())),((),y1.1)):=by kernel_rfl
theorem Pu(F:FT)(J:JT Gt)(x:(aaf×(Unit×aa0))):fH 165 0 Gt Tryz.f165 v5 F J x =
  cond (decide (x.1.2.1<(lI x.2.2.1)))
   (cond ((decide ((0:Int)≤x.1.2.1))&&(decide (x.1.2.1<(lI x.2.2.1))))
    (((x.2.2.1)[(Int.toNat x.1.2.1)]?).bind fun(y2:Int) =>
    cond (y2==x.1.2.1)
     (J v5 (aN Tryz.prog 165 0) (((wI (x.1.1+1)),((wI (x.1.2.1+1)),())),((),x.2.2)))
     (J v5 (aN Tryz.prog 165 0) ((x.1.1,((wI (x.1.2.1+1)),())),((),x.2.2))))
    (none))
   (some ((x.1.1,()),())):=by kernel_rfl
theorem aea(F:FT)(J:JT Gu)(x:XL):bS 49 Gu Tryz.f49 F J x =
  (F 69 Gx (x.1.2,())).bind fun(y1:Q2) =>
  cond (y1.1.1 != 0)
   (some ((OS,y1.1),()))
   (J AL (aN Tryz.prog 49 0) (((0:Int),()),(((x.1.1,()),(x.1.2,(OW,()))),()))):=by kernel_rfl
theorem Pv(F:FT)(J:JT Gu)(x:(aaa×((abd×(abc×aa5))×Unit))):fH 49 0 Gu Tryz.f49 AL F J x =
  cond (decide (x.1.1<(lI x.2.1.2.1.1)))
   (((aX x.2.1.2.1.1 x.1.1)).bind fun(y2:ba) =>
   (F 45 O2 ((x.2.1.1.1,(y2,())),())).bind fun(y3:Q1) =>
   cond (y3.1.2.1 != 0)
    (some ((OS,y3.1.2),()))
    (J AL (aN Tryz.prog 49 0) (((wI (x.1.1+1)),()),(((y3.1.1,()),(x.2.1.2.1,(x.2.1.2.2.1,()))),()))))
   (some ((x.2.1.1.1,((0:Int),())),())):=by kernel_rfl
theorem aeb(F:FT)(J:JT Gv)(x:XL):bS 102 Gv Tryz.f102 F J x =
  (F 63 O3 (x.1,())).bind fun(y1:Q1) =>
  cond (y1.1.2.1 != 0)
   ((F 96 EC ((x.1.1.1,()),())).bind fun(y2:Q26) =>
   (F 97 GA ((x.1.1.2,()),())).bind fun(y3:SX) =>
   some ((((y2.1.1.1,y2.1.1.2.1),y3.1.1),()),()))
   (some ((y1.1.1,()),())):=by kernel_rfl
theorem aec(F:FT)(J:JT O4)(x:XL):bS 64 O4 Tryz.f64 F J x =
  (F 49 Gu (x.1,())).bind fun(y1:Q1) =>
  cond (y1.1.2.1 != 0)
   (some ((x.1.1,()),()))
   (some ((y1.1.1,()),())):=by kernel_rfl
theorem aed(F:FT)(J:JT Cr)(x:Q5):bS 21 Cr Tryz.f21 F J x =
  cond (aL (List.length ([]:List ah)) (List.length x.1.1.2))
   (J AM (aN Tryz.prog 21 0) (((0:Int),()),(((x.1.1,()),((([]:List ag),(([]:List ah),())),((([]:List ag),((([]:List ah)++x.1.1.2),())),()))),())))
   (none):=by kernel_rfl
theorem Pw(F:FT)(J:JT Cr)(x:(aaa×((aaW×aab)×Unit))):fH 21 0 Cr Tryz.f21 AM F J x =
  cond (decide (x.1.1<(lI x.2.1.1.1.1)))
   (((aX x.2.1.1.1.1 x.1.1)).bind fun(y1:ag) =>
   cond (aL (List.length ([]:List ab)) (List.length y1.2.1))
    (cond (aL (List.length x.2.1.2.2.1.1) (List.length ((y1.1,((([]:List ab)++y1.2.1),y1.2.2))::([]:List ag))))
     (J AM (aN Tryz.prog 21 0) (((wI (x.1.1+1)),()),(((x.2.1.1.1,()),(x.2.1.2.1,(((x.2.1.2.2.1.1++((y1.1,((([]:List ab)++y1.2.1),y1.2.2))::([]:List ag))),x.2.1.2.2.1.2),()))),())))
     (none))
    (none))
   (some ((x.2.1.2.2.1,()),())):=by kernel_rfl
theorem aee(F:FT)(J:JT Gx)(x:Q3):bS 69 Gx Tryz.f69 F J x =
  cond (decide ((lI x.1.1)<1))
   (some (((3:Int),()),()))
   (cond (decide ((lI x.1.1)>6))
    (some (((3:Int),()),()))
    (J AO (aN Tryz.prog 69 0) (((0:Int),()),((x.1,()),())))):=by kernel_rfl
theorem Px(F:FT)(J:JT Gx)(x:(aaa×((abc×Unit)×Unit))):fH 69 0 Gx Tryz.f69 AO F J x =
  cond (decide (x.1.1<(lI x.2.1.1.1)))
   (((aX x.2.1.1.1 x.1.1)).bind fun(y1:ba) =>
   (F 46 Mq ((y1,()),())).bind fun(y2:Q2) =>
   cond (y2.1.1 != 0)
    (some (y2.1,()))
    (J AO (aN Tryz.prog 69 0) (((wI (x.1.1+1)),()),((x.2.1.1,()),()))))
   (some (((0:Int),()),())):=by kernel_rfl
theorem aef(F:FT)(J:JT O5)(x:((ba×Unit)×Unit)):bS 104 O5 Tryz.f104 F J x =
  (F 132 O9 ((x.1.1,()),())).bind fun(y1:((ba×(Int×Unit))×Unit)) =>
  cond (not ((y1.1.1.1==x.1.1.1)&&(((y1.1.1.2.1.1==x.1.1.2.1.1)&&(y1.1.1.2.1.2==x.1.1.2.1.2))&&(((y1.1.1.2.2.1.1==x.1.1.2.2.1.1)&&(y1.1.1.2.2.1.2==x.1.1.2.2.1.2))&&(((y1.1.1.2.2.2.1.1==x.1.1.2.2.2.1.1)&&(y1.1.1.2.2.2.1.2==x.1.1.2.2.2.1.2))&&((((y1.1.1.2.2.2.2.1.1.1==x.1.1.2.2.2.2.1.1.1)&&(y1.1.1.2.2.2.2.1.1.2==x.1.1.2.2.2.2.1.1.2))&&(((y1.1.1.2.2.2.2.1.2.1.1==x.1.1.2.2.2.2.1.2.1.1)&&(y1.1.1.2.2.2.2.1.2.1.2==x.1.1.2.2.2.2.1.2.1.2))&&(y1.1.1.2.2.2.2.1.2.2==x.1.1.2.2.2.2.1.2.2)))&&((((y1.1.1.2.2.2.2.2.1.1.1==x.1.1.2.2.2.2.2.1.1.1)&&(y1.1.1.2.2.2.2.2.1.1.2==x.1.1.2.2.2.2.2.1.1.2))&&(((y1.1.1.2.2.2.2.2.1.2.1.1==x.1.1.2.2.2.2.2.1.2.1.1)&&(y1.1.1.2.2.2.2.2.1.2.1.2==x.1.1.2.2.2.2.2.1.2.1.2))&&(y1.1.1.2.2.2.2.2.1.2.2==x.1.1.2.2.2.2.2.1.2.2)))&&((y1.1.1.2.2.2.2.2.2.1==x.1.1.2.2.2.2.2.2.1)&&((y1.1.1.2.2.2.2.2.2.2.1==x.1.1.2.2.2.2.2.2.2.1)&&(y1.1.1.2.2.2.2.2.2.2.2==x.1.1.2.2.2.2.2.2.2.2))))))))))
   (some (((1:Int),()),()))
   (some (y1.1.2,())):=by kernel_rfl
theorem aeg(F:FT)(J:JT Gy)(x:XL):bS 103 Gy Tryz.f103 F J x =
 (F 96 EC ((x.1.1.1,()),())).bind fun(y1:Q26) =>
 (F 97 GA ((x.1.1.2,()),())).bind fun(y2:SX) =>
 J AP (aN Tryz.prog 103 0) ((x.1.2.1,((lI x.1.2.1),((0:Int),()))),((OW,((y1.1.1.1,(y1.1.1.2.1,y2.1)),())),())):=by kernel_rfl
theorem Py(F:FT)(J:JT Gy)(x:(((List ba)×aaf)×((aQ×aa5)×Unit))):fH 103 0 Gy Tryz.f103 AP F J x =
  cond (decide (x.1.2.2.1<x.1.2.1))
   (((aX x.1.1 x.1.2.2.1)).bind fun(y3:ba) =>
   (F 131 ED ((y3,()),(x.2.1.2.1,()))).bind fun(y4:Pg) =>
   cond (y4.1.1 != 0)
    (some ((OS,y4.1),()))
    (J AP (aN Tryz.prog 103 0) ((x.1.1,(x.1.2.1,((wI (x.1.2.2.1+1)),()))),((x.2.1.1,(y4.2.1,())),()))))
   (some ((((x.2.1.2.1.1,x.2.1.2.1.2.1),x.2.1.2.1.2.2.1),((0:Int),())),())):=by kernel_rfl
theorem aeh(F:FT)(J:JT Mq)(x:((ba×Unit)×Unit)):bS 46 Mq Tryz.f46 F J x =
  (F 87 Aj ((x.1.1.2.1,()),())).bind fun(y1:Q0) =>
  cond (decide (x.1.1.1<1))
   (some (((1:Int),()),()))
   (cond (decide (x.1.1.1>8))
    (some (((1:Int),()),()))
    (cond (not y1.1.1)
     (some (((1:Int),()),()))
     ((F 88 Mu ((x.1.1,()),())).bind fun(y2:((ba×Unit)×Unit)) =>
     cond (not ((y2.1.1.1==0)&&(((y2.1.1.2.1.1==0)&&(y2.1.1.2.1.2==0))&&(((y2.1.1.2.2.1.1==0)&&(y2.1.1.2.2.1.2==0))&&(((y2.1.1.2.2.2.1.1==0)&&(y2.1.1.2.2.2.1.2==0))&&((((y2.1.1.2.2.2.2.1.1.1==0)&&(y2.1.1.2.2.2.2.1.1.2==0))&&(((y2.1.1.2.2.2.2.1.2.1.1==0)&&(y2.1.1.2.2.2.2.1.2.1.2==0))&&(y2.1.1.2.2.2.2.1.2.2==0)))&&((((y2.1.1.2.2.2.2.2.1.1.1==0)&&(y2.1.1.2.2.2.2.2.1.1.2==0))&&(((y2.1.1.2.2.2.2.2.1.2.1.1==0)&&(y2.1.1.2.2.2.2.2.1.2.1.2==0))&&(y2.1.1.2.2.2.2.2.1.2.2==0)))&&((y2.1.1.2.2.2.2.2.2.1==false)&&((y2.1.1.2.2.2.2.2.2.2.1==OB)&&(y2.1.1.2.2.2.2.2.2.2.2==0))))))))))
      (some (((1:Int),()),()))
      (cond (x.1.1.1==3)
       ((F 89 Mv ((x.1.1.2.2.2.2.1,()),())).bind fun(y3:Q0) =>
       (F 89 Mv ((x.1.1.2.2.2.2.2.1,()),())).bind fun(y4:Q0) =>
       cond (not y3.1.1)
        (some (((1:Int),()),()))
        (cond (not y4.1.1)
         (some (((1:Int),()),()))
         (some (((0:Int),()),()))))
       (cond (x.1.1.1==5)
        ((F 87 Aj ((x.1.1.2.2.1,()),())).bind fun(y5:Q0) =>
        (F 87 Aj ((x.1.1.2.2.2.1,()),())).bind fun(y6:Q0) =>
        cond (not y5.1.1)
         (some (((1:Int),()),()))
         (cond (not y6.1.1)
          (some (((1:Int),()),()))
          (cond (decide (x.1.1.2.2.2.2.2.2.2.2<0))
           (some (((1:Int),()),()))
           (cond (decide (x.1.1.2.2.2.2.2.2.2.2>3))
            (some (((1:Int),()),()))
            (some (((0:Int),()),()))))))
        (cond (x.1.1.1==6)
         ((F 87 Aj ((x.1.1.2.2.2.1,()),())).bind fun(y7:Q0) =>
         cond (not y7.1.1)
          (some (((1:Int),()),()))
          (some (((0:Int),()),())))
         (cond (x.1.1.1==8)
          ((F 90 Mp ((x.1.1.2.2.2.2.2.2.2.2,()),())).bind fun(y8:Q0) =>
          cond (not y8.1.1)
           (some (((1:Int),()),()))
           (some (((0:Int),()),())))
          (cond (x.1.1.1==7)
           ((F 91 Ex ((x.1.1.2.2.2.2.2.2.2.1,()),())).bind fun(y9:Q0) =>
           cond (not y9.1.1)
            (some (((4:Int),()),()))
            (some (((0:Int),()),())))
           (some (((0:Int),()),())))))))))):=by kernel_rfl
theorem aei(F:FT)(J:JT Ey)(x:((aj×(ag×Unit))×Unit)):bS 80 Ey Tryz.f80 F J x =
 J tl (aN Tryz.prog 80 0) ((false,((0:Int),())),(((x.1.1,()),((x.1.2.1,()),((([]:List ag),(([]:List ah),())),((([]:List ag),(x.1.1.2,())),())))),())):=by kernel_rfl
theorem Pz(F:FT)(J:JT Ey)(x:((Bool×aaa)×((aaW×((ag×Unit)×aab))×Unit))):fH 80 0 Ey Tryz.f80 tl F J x =
  cond (decide (x.1.2.1<(lI x.2.1.1.1.1)))
   (cond (not x.1.1)
    (((aX x.2.1.1.1.1 x.1.2.1)).bind fun(y1:ag) =>
    (F 105 GC ((x.2.1.2.1.1.1,(y1.1,())),())).bind fun(y2:Q2) =>
    cond (decide (y2.1.1<0))
     (cond (aL (List.length x.2.1.2.2.2.1.1) (List.length (x.2.1.2.1.1::([]:List ag))))
      (((aX x.2.1.1.1.1 x.1.2.1)).bind fun(y3:ag) =>
      cond (aL (List.length (x.2.1.2.2.2.1.1++(x.2.1.2.1.1::([]:List ag)))) (List.length (y3::([]:List ag))))
       (J tl (aN Tryz.prog 80 0) ((true,((wI (x.1.2.1+1)),())),(((x.2.1.1.1,()),((x.2.1.2.1.1,()),(x.2.1.2.2.1,((((x.2.1.2.2.2.1.1++(x.2.1.2.1.1::([]:List ag)))++(y3::([]:List ag))),x.2.1.2.2.2.1.2),())))),())))
       (none))
      (none))
     (((aX x.2.1.1.1.1 x.1.2.1)).bind fun(y4:ag) =>
     cond (aL (List.length x.2.1.2.2.2.1.1) (List.length (y4::([]:List ag))))
      (J tl (aN Tryz.prog 80 0) ((x.1.1,((wI (x.1.2.1+1)),())),(((x.2.1.1.1,()),((x.2.1.2.1.1,()),(x.2.1.2.2.1,(((x.2.1.2.2.2.1.1++(y4::([]:List ag))),x.2.1.2.2.2.1.2),())))),())))
      (none)))
    (((aX x.2.1.1.1.1 x.1.2.1)).bind fun(y5:ag) =>
    cond (aL (List.length x.2.1.2.2.2.1.1) (List.length (y5::([]:List ag))))
     (J tl (aN Tryz.prog 80 0) ((x.1.1,((wI (x.1.2.1+1)),())),(((x.2.1.1.1,()),((x.2.1.2.1.1,()),(x.2.1.2.2.1,(((x.2.1.2.2.2.1.1++(y5::([]:List ag))),x.2.1.2.2.2.1.2),())))),())))
     (none)))
   (cond (not x.1.1)
    (cond (aL (List.length x.2.1.2.2.2.1.1) (List.length (x.2.1.2.1.1::([]:List ag))))
     (some ((((x.2.1.2.2.2.1.1++(x.2.1.2.1.1::([]:List ag))),x.2.1.2.2.2.1.2.1),()),()))
     (none))
    (some (((x.2.1.2.2.2.1.1,x.2.1.2.2.2.1.2.1),()),()))):=by kernel_rfl
theorem aej(F:FT)(J:JT oO)(x:((aj×(ID×aag))×Unit)):bS 81 oO Tryz.f81 F J x =
 J v7 (aN Tryz.prog 81 0) (((0:Int),()),(((x.1.1,()),((x.1.2.1,()),((x.1.2.2.1,()),((([]:List ag),(([]:List ah),())),((([]:List ag),(([]:List ah),())),()))))),())):=by kernel_rfl
theorem PA(F:FT)(J:JT oO)(x:(aaa×((aaW×(aag×(aag×aab)))×Unit))):fH 81 0 oO Tryz.f81 v7 F J x =
  cond (decide (x.1.1<(lI x.2.1.1.1.1)))
   (((aX x.2.1.1.1.1 x.1.1)).bind fun(y1:ag) =>
   cond (not ((y1.1.1==x.2.1.2.1.1.1)&&(y1.1.2==x.2.1.2.1.1.2)))
    (((aX x.2.1.1.1.1 x.1.1)).bind fun(y2:ag) =>
    cond (aL (List.length x.2.1.2.2.2.2.1.1) (List.length (y2::([]:List ag))))
     (J v7 (aN Tryz.prog 81 0) (((wI (x.1.1+1)),()),(((x.2.1.1.1,()),((x.2.1.2.1.1,()),((x.2.1.2.2.1.1,()),(x.2.1.2.2.2.1,(((x.2.1.2.2.2.2.1.1++(y2::([]:List ag))),x.2.1.2.2.2.2.1.2),()))))),())))
     (none))
    (J v7 (aN Tryz.prog 81 0) (((wI (x.1.1+1)),()),(((x.2.1.1.1,()),((x.2.1.2.1.1,()),((x.2.1.2.2.1.1,()),(x.2.1.2.2.2.1,(x.2.1.2.2.2.2.1,()))))),()))))
   (J wa (aN Tryz.prog 81 1) (((0:Int),()),(((x.2.1.1.1,()),((x.2.1.2.2.1.1,()),(x.2.1.2.2.2.1,(x.2.1.2.2.2.2.1,())))),()))):=by kernel_rfl
theorem PB(F:FT)(J:JT oO)(x:(aaa×((aaW×(aag×aab))×Unit))):fH 81 1 oO Tryz.f81 wa F J x =
  cond (decide (x.1.1<(lI x.2.1.1.1.2)))
   (((aX x.2.1.1.1.2 x.1.1)).bind fun(y3:ah) =>
   cond (not ((y3.1.1==x.2.1.2.1.1.1)&&(y3.1.2==x.2.1.2.1.1.2)))
    (((aX x.2.1.1.1.2 x.1.1)).bind fun(y4:ah) =>
    cond (aL (List.length x.2.1.2.2.2.1.2.1) (List.length (y4::([]:List ah))))
     (J wa (aN Tryz.prog 81 1) (((wI (x.1.1+1)),()),(((x.2.1.1.1,()),((x.2.1.2.1.1,()),(x.2.1.2.2.1,((x.2.1.2.2.2.1.1,((x.2.1.2.2.2.1.2.1++(y4::([]:List ah))),())),())))),())))
     (none))
    (J wa (aN Tryz.prog 81 1) (((wI (x.1.1+1)),()),(((x.2.1.1.1,()),((x.2.1.2.1.1,()),(x.2.1.2.2.1,(x.2.1.2.2.2.1,())))),()))))
   (some (((x.2.1.2.2.2.1.1,x.2.1.2.2.2.1.2.1),()),())):=by kernel_rfl
theorem aek(F:FT)(J:JT O6)(x:XK):bS 82 O6 Tryz.f82 F J x =
  (F 92 xU ((x.1.1.1,(x.1.2.1.2.1,())),())).bind fun(y1:Q10) =>
  cond y1.1.2.1
   (some ((OS,((12:Int),())),()))
   (cond (decide ((lI x.1.1.1.2)≥40))
    (some ((OS,((3:Int),())),()))
    ((F 114 Mw ((x.1.1,(x.1.2.1.2.2.2.2.1,())),())).bind fun(y2:((pn×(Int×Unit))×Unit)) =>
    (F 114 Mw ((x.1.1,(x.1.2.1.2.2.2.2.2.1,())),())).bind fun(y3:((pn×(Int×Unit))×Unit)) =>
    (F 79 pJ ((x.1.1.1,(x.1.2.1.2.2.2.2.2.1.1,())),())).bind fun(y4:Q7) =>
    cond y4.1.2.1
     (cond (((x.1.2.1.2.2.2.2.2.1.2.1.1==x.1.2.1.2.1.1)&&(x.1.2.1.2.2.2.2.2.1.2.1.2==x.1.2.1.2.1.2))&&(x.1.2.1.2.2.2.2.2.1.2.2==0))
      (cond (y2.1.2.1 != 0)
       (some ((OS,((13:Int),())),()))
       (cond (y3.1.2.1 != 0)
        (some ((OS,((13:Int),())),()))
        ((F 115 xW ((x.1.1.1,((x.1.2.1.2.1,(OB,(0:Int))),())),())).bind fun(y5:Q5) =>
        (F 116 xX ((y5.1.1,(y2.1.1,((x.1.2.1.2.1,(0:Int)),()))),())).bind fun(y6:Q5) =>
        (F 116 xX ((y6.1.1,(x.1.2.1.2.2.2.2.2.1,((x.1.2.1.2.1,(1:Int)),()))),())).bind fun(y7:Q5) =>
        (F 107 GB ((y7.1.1,()),())).bind fun(y8:Q2) =>
        cond (y8.1.1 != 0)
         (some ((OS,((15:Int),())),()))
         (some (((y7.1.1,x.1.1.2),((0:Int),())),())))))
      (cond (y2.1.2.1 != 0)
       (some ((OS,((13:Int),())),()))
       (cond (y3.1.2.1 != 0)
        (some ((OS,((13:Int),())),()))
        ((F 115 xW ((x.1.1.1,((x.1.2.1.2.1,(OB,(0:Int))),())),())).bind fun(y9:Q5) =>
        (F 116 xX ((y9.1.1,(y2.1.1,((x.1.2.1.2.1,(0:Int)),()))),())).bind fun(oR:Q5) =>
        (F 116 xX ((oR.1.1,(y3.1.1,((x.1.2.1.2.1,(1:Int)),()))),())).bind fun(mg:Q5) =>
        (F 107 GB ((mg.1.1,()),())).bind fun(pM:Q2) =>
        cond (pM.1.1 != 0)
         (some ((OS,((15:Int),())),()))
         (some (((mg.1.1,x.1.1.2),((0:Int),())),()))))))
     (cond (y2.1.2.1 != 0)
      (some ((OS,((13:Int),())),()))
      (cond (y3.1.2.1 != 0)
       (some ((OS,((13:Int),())),()))
       ((F 115 xW ((x.1.1.1,((x.1.2.1.2.1,(OB,(0:Int))),())),())).bind fun(kS:Q5) =>
       (F 116 xX ((kS.1.1,(y2.1.1,((x.1.2.1.2.1,(0:Int)),()))),())).bind fun(EH:Q5) =>
       (F 116 xX ((EH.1.1,(y3.1.1,((x.1.2.1.2.1,(1:Int)),()))),())).bind fun(tL:Q5) =>
       (F 107 GB ((tL.1.1,()),())).bind fun(R1:Q2) =>
       cond (R1.1.1 != 0)
        (some ((OS,((15:Int),())),()))
        (some (((tL.1.1,x.1.1.2),((0:Int),())),()))))))):=by kernel_rfl
theorem ael(F:FT)(J:JT O7)(x:XK):bS 83 O7 Tryz.f83 F J x =
  (F 92 xU ((x.1.1.1,(x.1.2.1.2.1,())),())).bind fun(y1:Q10) =>
  cond (not y1.1.2.1)
   (some ((OS,((13:Int),())),()))
   ((F 118 Mx ((x.1.1.1,((x.1.2.1.2.1,(0:Int)),())),())).bind fun(y2:EF) =>
   (F 117 xY ((x.1.1.2,(((x.1.2.1.2.1,(0:Int)),y2.1.1),())),())).bind fun(y3:SX) =>
   (F 118 Mx ((x.1.1.1,((x.1.2.1.2.1,(1:Int)),())),())).bind fun(y4:EF) =>
   (F 117 xY ((y3.1.1,(((x.1.2.1.2.1,(1:Int)),y4.1.1),())),())).bind fun(y5:SX) =>
   (F 119 My ((x.1.1.1,((x.1.2.1.2.1,(0:Int)),())),())).bind fun(y6:Q5) =>
   (F 119 My ((y6.1.1,((x.1.2.1.2.1,(1:Int)),())),())).bind fun(y7:Q5) =>
   (F 81 oO ((y7.1.1,(OI,(x.1.2.1.2.1,()))),())).bind fun(y8:Q5) =>
   some (((y8.1.1,y5.1.1),((0:Int),())),())):=by kernel_rfl
theorem aem(F:FT)(J:JT O8)(x:XK):bS 84 O8 Tryz.f84 F J x =
  (F 92 xU ((x.1.1.1,(x.1.2.1.2.1,())),())).bind fun(y1:Q10) =>
  cond (not y1.1.2.1)
   (some ((OS,((13:Int),())),()))
   ((F 79 pJ ((x.1.1.1,(x.1.2.1.2.2.1,())),())).bind fun(y2:Q7) =>
   (F 92 xU ((x.1.1.1,(x.1.2.1.2.2.2.1,())),())).bind fun(y3:Q10) =>
   cond y2.1.2.1
    (some ((OS,((12:Int),())),()))
    (cond y3.1.2.1
     (some ((OS,((12:Int),())),()))
     (cond (decide ((lI x.1.1.1.1)≥24))
      (some ((OS,((3:Int),())),()))
      (cond (decide ((lI x.1.1.1.2)≥40))
       (some ((OS,((3:Int),())),()))
       (cond ((2:Int)==0)
        (none)
        (cond ((2:Int)==0)
         (none)
         ((F 121 Cq (((x.1.2.1.2.2.2.1,(wI (Int.tdiv x.1.2.1.2.2.2.2.2.2.2.2 (2:Int)))),()),())).bind fun(y4:EF) =>
         (F 120 GD ((x.1.1.1,((x.1.2.1.2.1,(wI ((1:Int)-(Int.tmod x.1.2.1.2.2.2.2.2.2.2.2 (2:Int))))),(y4.1.1,()))),())).bind fun(y5:Q5) =>
         (F 115 xW ((y5.1.1,((x.1.2.1.2.2.2.1,(OB,(0:Int))),())),())).bind fun(y6:Q5) =>
         (F 122 pK ((((x.1.2.1.2.1,(wI ((1:Int)-(Int.tmod x.1.2.1.2.2.2.2.2.2.2.2 (2:Int)))))::((x.1.2.1.2.2.2.1,(wI (Int.tdiv x.1.2.1.2.2.2.2.2.2.2.2 (2:Int))))::([]:List ab))),()),())).bind fun(y7:Q6) =>
         (F 80 Ey ((y6.1.1,((x.1.2.1.2.2.1,(y7.1.1,(OB,(0:Int)))),())),())).bind fun(y8:Q5) =>
         some (((y8.1.1,x.1.1.2),((0:Int),())),())))))))):=by kernel_rfl
theorem aen(F:FT)(J:JT xV)(x:XK):bS 85 xV Tryz.f85 F J x =
  (F 79 pJ ((x.1.1.1,(x.1.2.1.2.1,())),())).bind fun(y1:Q7) =>
  cond (not y1.1.2.1)
   (some ((OS,((13:Int),())),()))
   (cond ((lI y1.1.1.2.1) != 2)
    (some ((OS,((14:Int),())),()))
    (((aX y1.1.1.2.1 (0:Int))).bind fun(y2:ab) =>
    ((aX y1.1.1.2.1 (1:Int))).bind fun(y3:ab) =>
    cond ((y2.1.1==y3.1.1)&&(y2.1.2==y3.1.2))
     (some ((OS,((14:Int),())),()))
     (((aX y1.1.1.2.1 (0:Int))).bind fun(y4:ab) =>
     ((aX y1.1.1.2.1 (1:Int))).bind fun(y5:ab) =>
     cond ((y4.1.1==x.1.2.1.2.2.2.1.1)&&(y4.1.2==x.1.2.1.2.2.2.1.2))
      (((aX y1.1.1.2.1 (1:Int))).bind fun(y6:ab) =>
      ((aX y1.1.1.2.1 (0:Int))).bind fun(y7:ab) =>
      cond (not ((y7.1.1==x.1.2.1.2.2.2.1.1)&&(y7.1.2==x.1.2.1.2.2.2.1.2)))
       (some ((OS,((14:Int),())),()))
       ((F 121 Cq ((y7,()),())).bind fun(y8:EF) =>
       (F 81 oO ((x.1.1.1,(x.1.2.1.2.1,(OI,()))),())).bind fun(y9:Q5) =>
       (F 120 GD ((y9.1.1,(y8.1.1,(y6,()))),())).bind fun(oR:Q5) =>
       (F 81 oO ((oR.1.1,(OI,(y7.1,()))),())).bind fun(mg:Q5) =>
       J lP (aN Tryz.prog 85 0) ((x.1.1.2,((0:Int),())),((OW,((y6,()),((y7,()),((y8.1.1,()),((mg.1.1,()),()))))),()))))
      (cond (not ((y5.1.1==x.1.2.1.2.2.2.1.1)&&(y5.1.2==x.1.2.1.2.2.2.1.2)))
       (some ((OS,((14:Int),())),()))
       ((F 121 Cq ((y5,()),())).bind fun(pM:EF) =>
       (F 81 oO ((x.1.1.1,(x.1.2.1.2.1,(OI,()))),())).bind fun(kS:Q5) =>
       (F 120 GD ((kS.1.1,(pM.1.1,(y4,()))),())).bind fun(EH:Q5) =>
       (F 81 oO ((EH.1.1,(OI,(y5.1,()))),())).bind fun(tL:Q5) =>
       J lP (aN Tryz.prog 85 0) ((x.1.1.2,((0:Int),())),((OW,((y4,()),((y5,()),((pM.1.1,()),((tL.1.1,()),()))))),()))))))):=by kernel_rfl
theorem PC(F:FT)(J:JT xV)(x:(((List aw)×aaa)×((aQ×(aae×(aae×(aae×abk))))×Unit))):fH 85 0 xV Tryz.f85 lP F J x =
  cond (decide (x.1.2.1<2))
   (cond (((x.2.1.2.2.1.1.1.1==x.2.1.2.2.2.1.1.1.1)&&(x.2.1.2.2.1.1.1.2==x.2.1.2.2.2.1.1.1.2))&&(x.1.2.1==x.2.1.2.2.2.1.1.2))
    ((F 117 xY ((x.1.1,(((x.2.1.2.2.1.1.1,x.1.2.1),x.2.1.2.1.1),())),())).bind fun(R1:SX) =>
    J lP (aN Tryz.prog 85 0) ((R1.1.1,((wI (x.1.2.1+1)),())),((x.2.1.1,((x.2.1.2.1.1,()),((x.2.1.2.2.1.1,()),((x.2.1.2.2.2.1.1,()),((x.2.1.2.2.2.2.1.1,()),()))))),())))
    ((F 117 xY ((x.1.1,(((x.2.1.2.2.1.1.1,x.1.2.1),OD),())),())).bind fun(R4:SX) =>
    J lP (aN Tryz.prog 85 0) ((R4.1.1,((wI (x.1.2.1+1)),())),((x.2.1.1,((x.2.1.2.1.1,()),((x.2.1.2.2.1.1,()),((x.2.1.2.2.2.1.1,()),((x.2.1.2.2.2.2.1.1,()),()))))),()))))
   (some (((x.2.1.2.2.2.2.1.1,x.1.1),((0:Int),())),())):=by kernel_rfl
theorem aeo(F:FT)(J:JT Al)(x:XK):bS 86 Al Tryz.f86 F J x =
 (F 21 Cr ((x.1.1.1,()),())).bind fun(y1:Q26) =>
 J qy (aN Tryz.prog 86 0) ((false,((0:Int),())),(((x.1.1,()),((x.1.2.1,()),(OW,(y1.1.1,())))),())):=by kernel_rfl
theorem PD(F:FT)(J:JT Al)(x:Q38):fH 86 0 Al Tryz.f86 qy F J x =
  cond (decide (x.1.2.1<(lI x.2.1.2.2.2.1.1)))
   (cond (not x.2.1.2.1.1.2.2.2.2.2.2.1)
    (cond ((decide ((0:Int)≤x.1.2.1))&&(decide (x.1.2.1<(lI x.2.1.2.2.2.1.1))))
     (((x.2.1.2.2.2.1.1)[(Int.toNat x.1.2.1)]?).bind fun(y2:ag) =>
     cond ((y2.1.1==x.2.1.2.1.1.2.1.1)&&(y2.1.2==x.2.1.2.1.1.2.1.2))
      (cond (x.2.1.2.1.1.1==7)
       (cond ((decide ((0:Int)≤x.1.2.1))&&(decide (x.1.2.1<(lI x.2.1.2.2.2.1.1))))
        (((x.2.1.2.2.2.1.1)[(Int.toNat x.1.2.1)]?).bind fun(y3:ag) =>
        J qy (aN Tryz.prog 86 0) ((true,((wI (x.1.2.1+1)),())),(((x.2.1.1.1,()),((x.2.1.2.1.1,()),(x.2.1.2.2.1,(((List.set x.2.1.2.2.2.1.1 (Int.toNat x.1.2.1) (y3.1,(y3.2.1,(x.2.1.2.1.1.2.2.2.2.2.2.2.1,y3.2.2.2)))),x.2.1.2.2.2.1.2),())))),())))
        (none))
       (cond ((decide ((0:Int)≤x.1.2.1))&&(decide (x.1.2.1<(lI x.2.1.2.2.2.1.1))))
        (((x.2.1.2.2.2.1.1)[(Int.toNat x.1.2.1)]?).bind fun(y4:ag) =>
        J qy (aN Tryz.prog 86 0) ((true,((wI (x.1.2.1+1)),())),(((x.2.1.1.1,()),((x.2.1.2.1.1,()),(x.2.1.2.2.1,(((List.set x.2.1.2.2.2.1.1 (Int.toNat x.1.2.1) (y4.1,(y4.2.1,(y4.2.2.1,x.2.1.2.1.1.2.2.2.2.2.2.2.2)))),x.2.1.2.2.2.1.2),())))),())))
        (none)))
      (J qy (aN Tryz.prog 86 0) ((x.1.1,((wI (x.1.2.1+1)),())),(((x.2.1.1.1,()),((x.2.1.2.1.1,()),(x.2.1.2.2.1,(x.2.1.2.2.2.1,())))),()))))
     (none))
    (J qy (aN Tryz.prog 86 0) ((x.1.1,((wI (x.1.2.1+1)),())),(((x.2.1.1.1,()),((x.2.1.2.1.1,()),(x.2.1.2.2.1,(x.2.1.2.2.2.1,())))),()))))
   (J qz (aN Tryz.prog 86 1) ((x.1.1,((0:Int),())),(((x.2.1.1.1,()),((x.2.1.2.1.1,()),(x.2.1.2.2.1,(x.2.1.2.2.2.1,())))),()))):=by kernel_rfl
theorem PE(F:FT)(J:JT Al)(x:Q38):fH 86 1 Al Tryz.f86 qz F J x =
  cond (decide (x.1.2.1<(lI x.2.1.2.2.2.1.2.1)))
   (cond x.2.1.2.1.1.2.2.2.2.2.2.1
    (cond ((decide ((0:Int)≤x.1.2.1))&&(decide (x.1.2.1<(lI x.2.1.2.2.2.1.2.1))))
     (((x.2.1.2.2.2.1.2.1)[(Int.toNat x.1.2.1)]?).bind fun(y5:ah) =>
     cond ((y5.1.1==x.2.1.2.1.1.2.1.1)&&(y5.1.2==x.2.1.2.1.1.2.1.2))
      (cond (x.2.1.2.1.1.1==7)
       (cond ((decide ((0:Int)≤x.1.2.1))&&(decide (x.1.2.1<(lI x.2.1.2.2.2.1.2.1))))
        (((x.2.1.2.2.2.1.2.1)[(Int.toNat x.1.2.1)]?).bind fun(y6:ah) =>
        J qz (aN Tryz.prog 86 1) ((true,((wI (x.1.2.1+1)),())),(((x.2.1.1.1,()),((x.2.1.2.1.1,()),(x.2.1.2.2.1,((x.2.1.2.2.2.1.1,((List.set x.2.1.2.2.2.1.2.1 (Int.toNat x.1.2.1) (y6.1,(x.2.1.2.1.1.2.2.2.2.2.2.2.1,y6.2.2))),())),())))),())))
        (none))
       (cond ((decide ((0:Int)≤x.1.2.1))&&(decide (x.1.2.1<(lI x.2.1.2.2.2.1.2.1))))
        (((x.2.1.2.2.2.1.2.1)[(Int.toNat x.1.2.1)]?).bind fun(y7:ah) =>
        J qz (aN Tryz.prog 86 1) ((true,((wI (x.1.2.1+1)),())),(((x.2.1.1.1,()),((x.2.1.2.1.1,()),(x.2.1.2.2.1,((x.2.1.2.2.2.1.1,((List.set x.2.1.2.2.2.1.2.1 (Int.toNat x.1.2.1) (y7.1,(y7.2.1,x.2.1.2.1.1.2.2.2.2.2.2.2.2))),())),())))),())))
        (none)))
      (J qz (aN Tryz.prog 86 1) ((x.1.1,((wI (x.1.2.1+1)),())),(((x.2.1.1.1,()),((x.2.1.2.1.1,()),(x.2.1.2.2.1,(x.2.1.2.2.2.1,())))),()))))
     (none))
    (J qz (aN Tryz.prog 86 1) ((x.1.1,((wI (x.1.2.1+1)),())),(((x.2.1.1.1,()),((x.2.1.2.1.1,()),(x.2.1.2.2.1,(x.2.1.2.2.2.1,())))),()))))
   (cond (not x.1.1)
    (some ((OS,((13:Int),())),()))
    (some ((((x.2.1.2.2.2.1.1,x.2.1.2.2.2.1.2.1),x.2.1.1.1.2),((0:Int),())),()))):=by kernel_rfl
theorem aep(F:FT)(J:JT Ez)(x:(((List aw)×((List aw)×Unit))×Unit)):bS 65 Ez Tryz.f65 F J x =
  cond ((lI x.1.1) != (lI x.1.2.1))
   (some ((false,()),()))
   (J AQ (aN Tryz.prog 65 0) ((x.1.1,(x.1.2.1,((0:Int),()))),((),()))):=by kernel_rfl
theorem PF(F:FT)(J:JT Ez)(x:(((List aw)×((List aw)×aaa))×aa4)):fH 65 0 Ez Tryz.f65 AQ F J x =
  cond (decide (x.1.2.2.1<(lI x.1.1)))
   (((aX x.1.1 x.1.2.2.1)).bind fun(y1:aw) =>
   ((aX x.1.2.1 x.1.2.2.1)).bind fun(y2:aw) =>
   cond (not ((((y1.1.1.1==y2.1.1.1)&&(y1.1.1.2==y2.1.1.2))&&(y1.1.2==y2.1.2))&&(((y1.2.1.1==y2.2.1.1)&&(y1.2.1.2==y2.2.1.2))&&(y1.2.2==y2.2.2))))
    (some ((false,()),()))
    (J AQ (aN Tryz.prog 65 0) ((x.1.1,(x.1.2.1,((wI (x.1.2.2.1+1)),()))),((),()))))
   (some ((true,()),())):=by kernel_rfl
end Go.Vs
set_option maxRecDepth 1000000
set_option maxHeartbeats 0
namespace Go.Vs
open Go.Proofs
theorem aeq(F:FT)(J:JT Mr)(x:SY):bS 216 Mr Tryz.f216 F J x =
  (F 124 tk ((x.1.1,(x.1.2.1,())),())).bind fun(y1:RZ) =>
  cond (not y1.1.2.1)
   (some ((OD,(false,())),()))
   ((F 121 Cq ((x.1.2.1,()),())).bind fun(y2:EF) =>
   (F 234 Pb ((x.1.1,(y2.1.1,())),())).bind fun(y3:KD) =>
   some (y3.1,())):=by kernel_rfl
theorem aer(F:FT)(J:JT Cs)(x:Q30):bS 217 Cs Tryz.f217 F J x =
 J AR (aN Tryz.prog 217 0) (((0:Int),()),(((x.1.1,()),((x.1.2.1,()),())),())):=by kernel_rfl
theorem PH(F:FT)(J:JT Cs)(x:(aaa×((aaW×abp)×Unit))):fH 217 0 Cs Tryz.f217 AR F J x =
  cond (decide (x.1.1<(lI x.2.1.1.1.1)))
   (((aX x.2.1.1.1.1 x.1.1)).bind fun(y1:ag) =>
   cond ((y1.1.1==x.2.1.2.1.1.1)&&(y1.1.2==x.2.1.2.1.1.2))
    (some (x.1,()))
    (J AR (aN Tryz.prog 217 0) (((wI (x.1.1+1)),()),(((x.2.1.1.1,()),((x.2.1.2.1.1,()),())),()))))
   (some (((-1:Int),()),())):=by kernel_rfl
theorem aes(F:FT)(J:JT rR)(x:Q5):bS 193 rR Tryz.f193 F J x =
 J AS (aN Tryz.prog 193 0) (((0:Int),()),(((x.1.1,()),()),(([]:List Int),()))):=by kernel_rfl
theorem PI(F:FT)(J:JT rR)(x:(aaa×(abk×aa0))):fH 193 0 rR Tryz.f193 AS F J x =
  cond (decide (x.1.1<(lI x.2.1.1.1.1)))
   (cond (aL (List.length x.2.2.1) (List.length (x.1.1::([]:List Int))))
    (J AS (aN Tryz.prog 193 0) (((wI (x.1.1+1)),()),(((x.2.1.1.1,()),()),((x.2.2.1++(x.1.1::([]:List Int))),()))))
    (none))
   (J wb (aN Tryz.prog 193 1) (((0:Int),()),(((x.2.1.1.1,()),()),x.2.2))):=by kernel_rfl
theorem PJ(F:FT)(J:JT rR)(x:(aaa×(abk×aa0))):fH 193 1 rR Tryz.f193 wb F J x =
  cond (decide (x.1.1<(lI x.2.1.1.1.1)))
   (J qA (aN Tryz.prog 193 2) ((x.1.1,((0:Int),())),(((x.2.1.1.1,()),()),x.2.2)))
   (some (x.2.2,())):=by kernel_rfl
theorem PL(F:FT)(J:JT rR)(x:(aaf×(abk×aa0))):fH 193 2 rR Tryz.f193 qA F J x =
  cond (decide (x.1.2.1<(lI x.2.1.1.1.2)))
   (((aX x.2.1.1.1.2 x.1.2.1)).bind fun(y1:ah) =>
   (F 124 tk ((x.2.1.1.1,((y1.1,(0:Int)),())),())).bind fun(y2:RZ) =>
   ((aX x.2.1.1.1.2 x.1.2.1)).bind fun(y3:ah) =>
   (F 124 tk ((x.2.1.1.1,((y3.1,(1:Int)),())),())).bind fun(y4:RZ) =>
   (F 217 Cs ((x.2.1.1.1,(y2.1.1,())),())).bind fun(y5:Q2) =>
   (F 217 Cs ((x.2.1.1.1,(y4.1.1,())),())).bind fun(y6:Q2) =>
   cond (decide (y5.1.1≥0))
    (cond (decide (y6.1.1≥0))
     (cond ((decide ((0:Int)≤y5.1.1))&&(decide (y5.1.1<(lI x.2.2.1))))
      (((x.2.2.1)[(Int.toNat y5.1.1)]?).bind fun(y7:Int) =>
      cond ((decide ((0:Int)≤y6.1.1))&&(decide (y6.1.1<(lI x.2.2.1))))
       (((x.2.2.1)[(Int.toNat y6.1.1)]?).bind fun(y8:Int) =>
       cond ((decide ((0:Int)≤y5.1.1))&&(decide (y5.1.1<(lI x.2.2.1))))
        (((x.2.2.1)[(Int.toNat y5.1.1)]?).bind fun(y9:Int) =>
        cond ((decide ((0:Int)≤y6.1.1))&&(decide (y6.1.1<(lI (List.set x.2.2.1 (Int.toNat y5.1.1) (min y7 y8:Int))))))
         ((((List.set x.2.2.1 (Int.toNat y5.1.1) (min y7 y8:Int)))[(Int.toNat y6.1.1)]?).bind fun(oR:Int) =>
         J qA (aN Tryz.prog 193 2) ((x.1.1,((wI (x.1.2.1+1)),())),(((x.2.1.1.1,()),()),((List.set (List.set x.2.2.1 (Int.toNat y5.1.1) (min y7 y8:Int)) (Int.toNat y6.1.1) (min y7 y8:Int)),()))))
         (none))
        (none))
       (none))
      (none))
     (J qA (aN Tryz.prog 193 2) ((x.1.1,((wI (x.1.2.1+1)),())),(((x.2.1.1.1,()),()),x.2.2))))
    (J qA (aN Tryz.prog 193 2) ((x.1.1,((wI (x.1.2.1+1)),())),(((x.2.1.1.1,()),()),x.2.2))))
   (J wb (aN Tryz.prog 193 1) (((wI (x.1.1+1)),()),(((x.2.1.1.1,()),()),x.2.2))):=by kernel_rfl
theorem aet(F:FT)(J:JT Gz)(x:(((List ab)×aaX)×Unit)):bS 98 Gz Tryz.f98 F J x =
  cond ((lI x.1.1) != (lI x.1.2.1))
   (some ((false,()),()))
   (J AT (aN Tryz.prog 98 0) ((x.1.1,(x.1.2.1,((0:Int),()))),((),()))):=by kernel_rfl
theorem PM(F:FT)(J:JT Gz)(x:(((List ab)×abu)×aa4)):fH 98 0 Gz Tryz.f98 AT F J x =
  cond (decide (x.1.2.2.1<(lI x.1.1)))
   (((aX x.1.1 x.1.2.2.1)).bind fun(y1:ab) =>
   ((aX x.1.2.1 x.1.2.2.1)).bind fun(y2:ab) =>
   cond (not (((y1.1.1==y2.1.1)&&(y1.1.2==y2.1.2))&&(y1.2==y2.2)))
    (some ((false,()),()))
    (J AT (aN Tryz.prog 98 0) ((x.1.1,(x.1.2.1,((wI (x.1.2.2.1+1)),()))),((),()))))
   (some ((true,()),())):=by kernel_rfl
theorem aeu(F:FT)(J:JT EA)(x:Q3):bS 66 EA Tryz.f66 F J x =
  cond ((lI x.1.1)==0)
   (some (((3:Int),()),()))
   (cond (decide ((lI x.1.1)>6))
    (some (((3:Int),()),()))
    (J AU (aN Tryz.prog 66 0) ((x.1.1,((lI x.1.1),((0:Int),()))),((),())))):=by kernel_rfl
theorem PN(F:FT)(J:JT EA)(x:(((List ba)×aaf)×aa4)):fH 66 0 EA Tryz.f66 AU F J x =
  cond (decide (x.1.2.2.1<x.1.2.1))
   (((aX x.1.1 x.1.2.2.1)).bind fun(y1:ba) =>
   (F 104 O5 ((y1,()),())).bind fun(y2:Q2) =>
   cond (y2.1.1 != 0)
    (some (y2.1,()))
    (J AU (aN Tryz.prog 66 0) ((x.1.1,(x.1.2.1,((wI (x.1.2.2.1+1)),()))),((),()))))
   (some (((0:Int),()),())):=by kernel_rfl
theorem aev(F:FT)(J:JT EB)(x:Q5):bS 191 EB Tryz.f191 F J x =
 J AW (aN Tryz.prog 191 0) (((0:Int),()),(((x.1.1,()),()),(([]:List ab),()))):=by kernel_rfl
theorem PO(F:FT)(J:JT EB)(x:(aaa×(abk×aaX))):fH 191 0 EB Tryz.f191 AW F J x =
  cond (decide (x.1.1<(lI x.2.1.1.1.2)))
   (((aX x.2.1.1.1.2 x.1.1)).bind fun(y1:ah) =>
   ((aX x.2.1.1.1.2 x.1.1)).bind fun(y2:ah) =>
   cond (aL (List.length x.2.2.1) (List.length ((y1.1,(0:Int))::((y2.1,(1:Int))::([]:List ab)))))
    (J AW (aN Tryz.prog 191 0) (((wI (x.1.1+1)),()),(((x.2.1.1.1,()),()),((x.2.2.1++((y1.1,(0:Int))::((y2.1,(1:Int))::([]:List ab)))),()))))
    (none))
   (some (x.2.2,())):=by kernel_rfl
theorem aew(F:FT)(J:JT EC)(x:Q5):bS 96 EC Tryz.f96 F J x =
 (F 127 Mz ((x.1.1.1,()),())).bind fun(y1:(((List ag)×Unit)×Unit)) =>
 (F 128 MA ((x.1.1.2,()),())).bind fun(y2:(((List ah)×Unit)×Unit)) =>
 J AX (aN Tryz.prog 96 0) (((lI y1.1.1),((0:Int),())),(((([]:List ag),(([]:List ah),())),((y1.1.1,y2.1),())),())):=by kernel_rfl
theorem PQ(F:FT)(J:JT EC)(x:(aaf×(aab×Unit))):fH 96 0 EC Tryz.f96 AX F J x =
  cond (decide (x.1.2.1<x.1.1))
   (cond ((decide ((0:Int)≤x.1.2.1))&&(decide (x.1.2.1<(lI x.2.1.2.1.1))))
    (((x.2.1.2.1.1)[(Int.toNat x.1.2.1)]?).bind fun(y3:ag) =>
    (F 110 xZ ((y3.2.1,()),())).bind fun(y4:Q6) =>
    cond ((decide ((0:Int)≤x.1.2.1))&&(decide (x.1.2.1<(lI x.2.1.2.1.1))))
     (((x.2.1.2.1.1)[(Int.toNat x.1.2.1)]?).bind fun(y5:ag) =>
     J AX (aN Tryz.prog 96 0) ((x.1.1,((wI (x.1.2.1+1)),())),((x.2.1.1,(((List.set x.2.1.2.1.1 (Int.toNat x.1.2.1) (y5.1,(y4.1.1,y5.2.2))),x.2.1.2.1.2),())),())))
     (none))
    (none))
   (some ((x.2.1.2.1,()),())):=by kernel_rfl
theorem aex(F:FT)(J:JT GA)(x:SX):bS 97 GA Tryz.f97 F J x =
  cond (List.isEmpty x.1.1)
   (p6 2 fun(j1:Nat) =>
   cond ((j1==0)==true)
    (some ((([]:List aw),()),()))
    (cond (aL (List.length ([]:List aw)) (List.length x.1.1))
     (some (((([]:List aw)++x.1.1),()),()))
     (none)))
   (cond (aL (List.length ([]:List aw)) (List.length x.1.1))
    (some (((([]:List aw)++x.1.1),()),()))
    (none)):=by kernel_rfl
theorem aey(F:FT)(J:JT Mt)(x:Q33):bS 71 Mt Tryz.f71 F J x =
  (F 105 GC ((x.1.1.1,(x.1.2.1.1,())),())).bind fun(y1:Q2) =>
  cond (y1.1.1 != 0)
   (some (y1.1,()))
   (cond (decide (x.1.1.2<x.1.2.1.2))
    (some (((-1:Int),()),()))
    (cond (decide (x.1.1.2>x.1.2.1.2))
     (some (((1:Int),()),()))
     (some (((0:Int),()),())))):=by kernel_rfl
theorem aez(F:FT)(J:JT GB)(x:Q5):bS 107 GB Tryz.f107 F J x =
  (F 136 EE ((x.1.1,()),())).bind fun(y1:((Int×(Int×(Int×(Int×Unit))))×Unit)) =>
  cond ((2:Int)==0)
   (none)
   (some (((wI (Int.tdiv (wI ((wI ((wI ((wI ((2:Int)*y1.1.2.2.2.1))-y1.1.1))+y1.1.2.1))-y1.1.2.2.1)) (2:Int))),()),())):=by kernel_rfl
theorem aeA(F:FT)(J:JT O9)(x:((ba×Unit)×Unit)):bS 132 O9 Tryz.f132 F J x =
  (F 159 qu ((x.1.1.2.1,()),())).bind fun(y1:Q0) =>
  cond (x.1.1.1==1)
   (cond (x.1.1.1==1)
    (cond (not y1.1.1)
     (some (((x.1.1.1,(x.1.1.2.1,(OI,(OI,(OC,(OC,(false,(OB,(0:Int))))))))),((1:Int),())),()))
     (some (((x.1.1.1,(x.1.1.2.1,(OI,(OI,(OC,(OC,(false,(OB,(0:Int))))))))),((0:Int),())),())))
    (cond (x.1.1.1==6)
     (cond y1.1.1
      ((F 159 qu ((x.1.1.2.2.2.1,()),())).bind fun(y2:Q0) =>
      cond (not y2.1.1)
       (some (((x.1.1.1,(x.1.1.2.1,(OI,(x.1.1.2.2.2.1,(OC,(OC,(false,(OB,(0:Int))))))))),((1:Int),())),()))
       (some (((x.1.1.1,(x.1.1.2.1,(OI,(x.1.1.2.2.2.1,(OC,(OC,(false,(OB,(0:Int))))))))),((0:Int),())),())))
      (some (((x.1.1.1,(x.1.1.2.1,(OI,(x.1.1.2.2.2.1,(OC,(OC,(false,(OB,(0:Int))))))))),((1:Int),())),())))
     (cond (x.1.1.1==3)
      (cond y1.1.1
       ((F 160 Ct ((x.1.1.2.2.2.2.1,()),())).bind fun(y3:Q0) =>
       cond y3.1.1
        ((F 160 Ct ((x.1.1.2.2.2.2.2.1,()),())).bind fun(y4:Q0) =>
        cond (not y4.1.1)
         (some (((x.1.1.1,(x.1.1.2.1,(OI,(OI,(x.1.1.2.2.2.2.1,(x.1.1.2.2.2.2.2.1,(false,(OB,(0:Int))))))))),((1:Int),())),()))
         (some (((x.1.1.1,(x.1.1.2.1,(OI,(OI,(x.1.1.2.2.2.2.1,(x.1.1.2.2.2.2.2.1,(false,(OB,(0:Int))))))))),((0:Int),())),())))
        (some (((x.1.1.1,(x.1.1.2.1,(OI,(OI,(x.1.1.2.2.2.2.1,(x.1.1.2.2.2.2.2.1,(false,(OB,(0:Int))))))))),((1:Int),())),())))
       (some (((x.1.1.1,(x.1.1.2.1,(OI,(OI,(x.1.1.2.2.2.2.1,(x.1.1.2.2.2.2.2.1,(false,(OB,(0:Int))))))))),((1:Int),())),())))
      (cond (x.1.1.1==5)
       (cond y1.1.1
        ((F 159 qu ((x.1.1.2.2.1,()),())).bind fun(y5:Q0) =>
        cond y5.1.1
         ((F 159 qu ((x.1.1.2.2.2.1,()),())).bind fun(y6:Q0) =>
         cond y6.1.1
          (cond (not ((eP .andNot .i64 x.1.1.2.2.2.2.2.2.2.2 (3:Int))==0))
           (some (((x.1.1.1,(x.1.1.2.1,(x.1.1.2.2.1,(x.1.1.2.2.2.1,(OC,(OC,(false,(OB,x.1.1.2.2.2.2.2.2.2.2)))))))),((1:Int),())),()))
           (some (((x.1.1.1,(x.1.1.2.1,(x.1.1.2.2.1,(x.1.1.2.2.2.1,(OC,(OC,(false,(OB,x.1.1.2.2.2.2.2.2.2.2)))))))),((0:Int),())),())))
          (some (((x.1.1.1,(x.1.1.2.1,(x.1.1.2.2.1,(x.1.1.2.2.2.1,(OC,(OC,(false,(OB,x.1.1.2.2.2.2.2.2.2.2)))))))),((1:Int),())),())))
         (some (((x.1.1.1,(x.1.1.2.1,(x.1.1.2.2.1,(x.1.1.2.2.2.1,(OC,(OC,(false,(OB,x.1.1.2.2.2.2.2.2.2.2)))))))),((1:Int),())),())))
        (some (((x.1.1.1,(x.1.1.2.1,(x.1.1.2.2.1,(x.1.1.2.2.2.1,(OC,(OC,(false,(OB,x.1.1.2.2.2.2.2.2.2.2)))))))),((1:Int),())),())))
       (cond (x.1.1.1==7)
        ((F 161 vY ((x.1.1.2.2.2.2.2.2.2.1,()),())).bind fun(y7:Q0) =>
        cond (not y7.1.1)
         (cond (not y1.1.1)
          (some (((x.1.1.1,(x.1.1.2.1,(OI,(OI,(OC,(OC,(x.1.1.2.2.2.2.2.2.1,(x.1.1.2.2.2.2.2.2.2.1,(0:Int))))))))),((1:Int),())),()))
          (some (((x.1.1.1,(x.1.1.2.1,(OI,(OI,(OC,(OC,(x.1.1.2.2.2.2.2.2.1,(x.1.1.2.2.2.2.2.2.2.1,(0:Int))))))))),((4:Int),())),())))
         (cond (not y1.1.1)
          (some (((x.1.1.1,(x.1.1.2.1,(OI,(OI,(OC,(OC,(x.1.1.2.2.2.2.2.2.1,(x.1.1.2.2.2.2.2.2.2.1,(0:Int))))))))),((1:Int),())),()))
          (some (((x.1.1.1,(x.1.1.2.1,(OI,(OI,(OC,(OC,(x.1.1.2.2.2.2.2.2.1,(x.1.1.2.2.2.2.2.2.2.1,(0:Int))))))))),((0:Int),())),()))))
        (cond (x.1.1.1==8)
         (cond y1.1.1
          ((F 162 GF ((x.1.1.2.2.2.2.2.2.2.2,()),())).bind fun(y8:Q0) =>
          cond (not y8.1.1)
           (some (((x.1.1.1,(x.1.1.2.1,(OI,(OI,(OC,(OC,(x.1.1.2.2.2.2.2.2.1,(OB,x.1.1.2.2.2.2.2.2.2.2)))))))),((1:Int),())),()))
           (some (((x.1.1.1,(x.1.1.2.1,(OI,(OI,(OC,(OC,(x.1.1.2.2.2.2.2.2.1,(OB,x.1.1.2.2.2.2.2.2.2.2)))))))),((0:Int),())),())))
          (some (((x.1.1.1,(x.1.1.2.1,(OI,(OI,(OC,(OC,(x.1.1.2.2.2.2.2.2.1,(OB,x.1.1.2.2.2.2.2.2.2.2)))))))),((1:Int),())),())))
         (some (((x.1.1.1,(x.1.1.2.1,(OI,(OI,(OC,(OC,(false,(OB,(0:Int))))))))),((1:Int),())),()))))))))
   (cond (x.1.1.1==2)
    (cond (x.1.1.1==2)
     (cond (not y1.1.1)
      (some (((x.1.1.1,(x.1.1.2.1,(OI,(OI,(OC,(OC,(false,(OB,(0:Int))))))))),((1:Int),())),()))
      (some (((x.1.1.1,(x.1.1.2.1,(OI,(OI,(OC,(OC,(false,(OB,(0:Int))))))))),((0:Int),())),())))
     (cond (x.1.1.1==6)
      (cond y1.1.1
       ((F 159 qu ((x.1.1.2.2.2.1,()),())).bind fun(y9:Q0) =>
       cond (not y9.1.1)
        (some (((x.1.1.1,(x.1.1.2.1,(OI,(x.1.1.2.2.2.1,(OC,(OC,(false,(OB,(0:Int))))))))),((1:Int),())),()))
        (some (((x.1.1.1,(x.1.1.2.1,(OI,(x.1.1.2.2.2.1,(OC,(OC,(false,(OB,(0:Int))))))))),((0:Int),())),())))
       (some (((x.1.1.1,(x.1.1.2.1,(OI,(x.1.1.2.2.2.1,(OC,(OC,(false,(OB,(0:Int))))))))),((1:Int),())),())))
      (cond (x.1.1.1==3)
       (cond y1.1.1
        ((F 160 Ct ((x.1.1.2.2.2.2.1,()),())).bind fun(oR:Q0) =>
        cond oR.1.1
         ((F 160 Ct ((x.1.1.2.2.2.2.2.1,()),())).bind fun(mg:Q0) =>
         cond (not mg.1.1)
          (some (((x.1.1.1,(x.1.1.2.1,(OI,(OI,(x.1.1.2.2.2.2.1,(x.1.1.2.2.2.2.2.1,(false,(OB,(0:Int))))))))),((1:Int),())),()))
          (some (((x.1.1.1,(x.1.1.2.1,(OI,(OI,(x.1.1.2.2.2.2.1,(x.1.1.2.2.2.2.2.1,(false,(OB,(0:Int))))))))),((0:Int),())),())))
         (some (((x.1.1.1,(x.1.1.2.1,(OI,(OI,(x.1.1.2.2.2.2.1,(x.1.1.2.2.2.2.2.1,(false,(OB,(0:Int))))))))),((1:Int),())),())))
        (some (((x.1.1.1,(x.1.1.2.1,(OI,(OI,(x.1.1.2.2.2.2.1,(x.1.1.2.2.2.2.2.1,(false,(OB,(0:Int))))))))),((1:Int),())),())))
       (cond (x.1.1.1==5)
        (cond y1.1.1
         ((F 159 qu ((x.1.1.2.2.1,()),())).bind fun(pM:Q0) =>
         cond pM.1.1
          ((F 159 qu ((x.1.1.2.2.2.1,()),())).bind fun(kS:Q0) =>
          cond kS.1.1
           (cond (not ((eP .andNot .i64 x.1.1.2.2.2.2.2.2.2.2 (3:Int))==0))
            (some (((x.1.1.1,(x.1.1.2.1,(x.1.1.2.2.1,(x.1.1.2.2.2.1,(OC,(OC,(false,(OB,x.1.1.2.2.2.2.2.2.2.2)))))))),((1:Int),())),()))
            (some (((x.1.1.1,(x.1.1.2.1,(x.1.1.2.2.1,(x.1.1.2.2.2.1,(OC,(OC,(false,(OB,x.1.1.2.2.2.2.2.2.2.2)))))))),((0:Int),())),())))
           (some (((x.1.1.1,(x.1.1.2.1,(x.1.1.2.2.1,(x.1.1.2.2.2.1,(OC,(OC,(false,(OB,x.1.1.2.2.2.2.2.2.2.2)))))))),((1:Int),())),())))
          (some (((x.1.1.1,(x.1.1.2.1,(x.1.1.2.2.1,(x.1.1.2.2.2.1,(OC,(OC,(false,(OB,x.1.1.2.2.2.2.2.2.2.2)))))))),((1:Int),())),())))
         (some (((x.1.1.1,(x.1.1.2.1,(x.1.1.2.2.1,(x.1.1.2.2.2.1,(OC,(OC,(false,(OB,x.1.1.2.2.2.2.2.2.2.2)))))))),((1:Int),())),())))
        (cond (x.1.1.1==7)
         ((F 161 vY ((x.1.1.2.2.2.2.2.2.2.1,()),())).bind fun(EH:Q0) =>
         cond (not EH.1.1)
          (cond (not y1.1.1)
           (some (((x.1.1.1,(x.1.1.2.1,(OI,(OI,(OC,(OC,(x.1.1.2.2.2.2.2.2.1,(x.1.1.2.2.2.2.2.2.2.1,(0:Int))))))))),((1:Int),())),()))
           (some (((x.1.1.1,(x.1.1.2.1,(OI,(OI,(OC,(OC,(x.1.1.2.2.2.2.2.2.1,(x.1.1.2.2.2.2.2.2.2.1,(0:Int))))))))),((4:Int),())),())))
          (cond (not y1.1.1)
           (some (((x.1.1.1,(x.1.1.2.1,(OI,(OI,(OC,(OC,(x.1.1.2.2.2.2.2.2.1,(x.1.1.2.2.2.2.2.2.2.1,(0:Int))))))))),((1:Int),())),()))
           (some (((x.1.1.1,(x.1.1.2.1,(OI,(OI,(OC,(OC,(x.1.1.2.2.2.2.2.2.1,(x.1.1.2.2.2.2.2.2.2.1,(0:Int))))))))),((0:Int),())),()))))
         (cond (x.1.1.1==8)
          (cond y1.1.1
           ((F 162 GF ((x.1.1.2.2.2.2.2.2.2.2,()),())).bind fun(tL:Q0) =>
           cond (not tL.1.1)
            (some (((x.1.1.1,(x.1.1.2.1,(OI,(OI,(OC,(OC,(x.1.1.2.2.2.2.2.2.1,(OB,x.1.1.2.2.2.2.2.2.2.2)))))))),((1:Int),())),()))
            (some (((x.1.1.1,(x.1.1.2.1,(OI,(OI,(OC,(OC,(x.1.1.2.2.2.2.2.2.1,(OB,x.1.1.2.2.2.2.2.2.2.2)))))))),((0:Int),())),())))
           (some (((x.1.1.1,(x.1.1.2.1,(OI,(OI,(OC,(OC,(x.1.1.2.2.2.2.2.2.1,(OB,x.1.1.2.2.2.2.2.2.2.2)))))))),((1:Int),())),())))
          (some (((x.1.1.1,(x.1.1.2.1,(OI,(OI,(OC,(OC,(false,(OB,(0:Int))))))))),((1:Int),())),()))))))))
    (cond (x.1.1.1==4)
     (cond (not y1.1.1)
      (some (((x.1.1.1,(x.1.1.2.1,(OI,(OI,(OC,(OC,(false,(OB,(0:Int))))))))),((1:Int),())),()))
      (some (((x.1.1.1,(x.1.1.2.1,(OI,(OI,(OC,(OC,(false,(OB,(0:Int))))))))),((0:Int),())),())))
     (cond (x.1.1.1==6)
      (cond y1.1.1
       ((F 159 qu ((x.1.1.2.2.2.1,()),())).bind fun(R1:Q0) =>
       cond (not R1.1.1)
        (some (((x.1.1.1,(x.1.1.2.1,(OI,(x.1.1.2.2.2.1,(OC,(OC,(false,(OB,(0:Int))))))))),((1:Int),())),()))
        (some (((x.1.1.1,(x.1.1.2.1,(OI,(x.1.1.2.2.2.1,(OC,(OC,(false,(OB,(0:Int))))))))),((0:Int),())),())))
       (some (((x.1.1.1,(x.1.1.2.1,(OI,(x.1.1.2.2.2.1,(OC,(OC,(false,(OB,(0:Int))))))))),((1:Int),())),())))
      (cond (x.1.1.1==3)
       (cond y1.1.1
        ((F 160 Ct ((x.1.1.2.2.2.2.1,()),())).bind fun(R4:Q0) =>
        cond R4.1.1
         ((F 160 Ct ((x.1.1.2.2.2.2.2.1,()),())).bind fun(Jo:Q0) =>
         cond (not Jo.1.1)
          (some (((x.1.1.1,(x.1.1.2.1,(OI,(OI,(x.1.1.2.2.2.2.1,(x.1.1.2.2.2.2.2.1,(false,(OB,(0:Int))))))))),((1:Int),())),()))
          (some (((x.1.1.1,(x.1.1.2.1,(OI,(OI,(x.1.1.2.2.2.2.1,(x.1.1.2.2.2.2.2.1,(false,(OB,(0:Int))))))))),((0:Int),())),())))
         (some (((x.1.1.1,(x.1.1.2.1,(OI,(OI,(x.1.1.2.2.2.2.1,(x.1.1.2.2.2.2.2.1,(false,(OB,(0:Int))))))))),((1:Int),())),())))
        (some (((x.1.1.1,(x.1.1.2.1,(OI,(OI,(x.1.1.2.2.2.2.1,(x.1.1.2.2.2.2.2.1,(false,(OB,(0:Int))))))))),((1:Int),())),())))
       (cond (x.1.1.1==5)
        (cond y1.1.1
         ((F 159 qu ((x.1.1.2.2.1,()),())).bind fun(G6:Q0) =>
         cond G6.1.1
          ((F 159 qu ((x.1.1.2.2.2.1,()),())).bind fun(Dn:Q0) =>
          cond Dn.1.1
           (cond (not ((eP .andNot .i64 x.1.1.2.2.2.2.2.2.2.2 (3:Int))==0))
            (some (((x.1.1.1,(x.1.1.2.1,(x.1.1.2.2.1,(x.1.1.2.2.2.1,(OC,(OC,(false,(OB,x.1.1.2.2.2.2.2.2.2.2)))))))),((1:Int),())),()))
            (some (((x.1.1.1,(x.1.1.2.1,(x.1.1.2.2.1,(x.1.1.2.2.2.1,(OC,(OC,(false,(OB,x.1.1.2.2.2.2.2.2.2.2)))))))),((0:Int),())),())))
           (some (((x.1.1.1,(x.1.1.2.1,(x.1.1.2.2.1,(x.1.1.2.2.2.1,(OC,(OC,(false,(OB,x.1.1.2.2.2.2.2.2.2.2)))))))),((1:Int),())),())))
          (some (((x.1.1.1,(x.1.1.2.1,(x.1.1.2.2.1,(x.1.1.2.2.2.1,(OC,(OC,(false,(OB,x.1.1.2.2.2.2.2.2.2.2)))))))),((1:Int),())),())))
         (some (((x.1.1.1,(x.1.1.2.1,(x.1.1.2.2.1,(x.1.1.2.2.2.1,(OC,(OC,(false,(OB,x.1.1.2.2.2.2.2.2.2.2)))))))),((1:Int),())),())))
        (cond (x.1.1.1==7)
         ((F 161 vY ((x.1.1.2.2.2.2.2.2.2.1,()),())).bind fun(YM:Q0) =>
         cond (not YM.1.1)
          (cond (not y1.1.1)
           (some (((x.1.1.1,(x.1.1.2.1,(OI,(OI,(OC,(OC,(x.1.1.2.2.2.2.2.2.1,(x.1.1.2.2.2.2.2.2.2.1,(0:Int))))))))),((1:Int),())),()))
           (some (((x.1.1.1,(x.1.1.2.1,(OI,(OI,(OC,(OC,(x.1.1.2.2.2.2.2.2.1,(x.1.1.2.2.2.2.2.2.2.1,(0:Int))))))))),((4:Int),())),())))
          (cond (not y1.1.1)
           (some (((x.1.1.1,(x.1.1.2.1,(OI,(OI,(OC,(OC,(x.1.1.2.2.2.2.2.2.1,(x.1.1.2.2.2.2.2.2.2.1,(0:Int))))))))),((1:Int),())),()))
           (some (((x.1.1.1,(x.1.1.2.1,(OI,(OI,(OC,(OC,(x.1.1.2.2.2.2.2.2.1,(x.1.1.2.2.2.2.2.2.2.1,(0:Int))))))))),((0:Int),())),()))))
         (cond (x.1.1.1==8)
          (cond y1.1.1
           ((F 162 GF ((x.1.1.2.2.2.2.2.2.2.2,()),())).bind fun(YN:Q0) =>
           cond (not YN.1.1)
            (some (((x.1.1.1,(x.1.1.2.1,(OI,(OI,(OC,(OC,(x.1.1.2.2.2.2.2.2.1,(OB,x.1.1.2.2.2.2.2.2.2.2)))))))),((1:Int),())),()))
            (some (((x.1.1.1,(x.1.1.2.1,(OI,(OI,(OC,(OC,(x.1.1.2.2.2.2.2.2.1,(OB,x.1.1.2.2.2.2.2.2.2.2)))))))),((0:Int),())),())))
           (some (((x.1.1.1,(x.1.1.2.1,(OI,(OI,(OC,(OC,(x.1.1.2.2.2.2.2.2.1,(OB,x.1.1.2.2.2.2.2.2.2.2)))))))),((1:Int),())),())))
          (some (((x.1.1.1,(x.1.1.2.1,(OI,(OI,(OC,(OC,(false,(OB,(0:Int))))))))),((1:Int),())),()))))))))):=by kernel_rfl
theorem Jp(F:FT)(J:JT ED)(x:UI):bS 131 ED Tryz.f131 F J x =
  cond (x.1.1.1==1)
   ((F 152 GG (((x.1.1.2.1,(([]:List ab),(OB,(0:Int)))),()),(x.2.1,()))).bind fun(y1:Pg) =>
   some (y1.1,(y1.2.1,())))
   (cond (x.1.1.1==2)
    ((F 153 Pc ((x.1.1,()),(x.2.1,()))).bind fun(y2:Pg) =>
    some (y2.1,(y2.2.1,())))
    (cond (x.1.1.1==3)
     ((F 154 oP ((x.1.1,()),(x.2.1,()))).bind fun(y3:Pg) =>
     some (y3.1,(y3.2.1,())))
     (cond (x.1.1.1==4)
      ((F 155 Am ((x.1.1,()),(x.2.1,()))).bind fun(y4:Pg) =>
      some (y4.1,(y4.2.1,())))
      (cond (x.1.1.1==5)
       ((F 156 ya ((x.1.1,()),(x.2.1,()))).bind fun(y5:Pg) =>
       some (y5.1,(y5.2.1,())))
       (cond (x.1.1.1==6)
        ((F 157 qv ((x.1.1,()),(x.2.1,()))).bind fun(y6:Pg) =>
        some (y6.1,(y6.2.1,())))
        ((F 158 Pd ((x.1.1,()),(x.2.1,()))).bind fun(y7:Pg) =>
        some (y7.1,(y7.2.1,())))))))):=by kernel_rfl
theorem aeB(F:FT)(J:JT Mu)(x:((ba×Unit)×Unit)):bS 88 Mu Tryz.f88 F J x =
  cond (x.1.1.1==3)
   (some ((((0:Int),(OI,(x.1.1.2.2.1,(x.1.1.2.2.2.1,(OC,(OC,x.1.1.2.2.2.2.2.2)))))),()),()))
   (cond (x.1.1.1==5)
    (some ((((0:Int),(OI,(OI,(OI,(x.1.1.2.2.2.2.1,(x.1.1.2.2.2.2.2.1,(x.1.1.2.2.2.2.2.2.1,(x.1.1.2.2.2.2.2.2.2.1,(0:Int))))))))),()),()))
    (cond (x.1.1.1==6)
     (some ((((0:Int),(OI,(x.1.1.2.2.1,(OI,x.1.1.2.2.2.2)))),()),()))
     (cond (x.1.1.1==7)
      (some ((((0:Int),(OI,(x.1.1.2.2.1,(x.1.1.2.2.2.1,(x.1.1.2.2.2.2.1,(x.1.1.2.2.2.2.2.1,(false,(OB,x.1.1.2.2.2.2.2.2.2.2)))))))),()),()))
      (cond (x.1.1.1==8)
       (some ((((0:Int),(OI,(x.1.1.2.2.1,(x.1.1.2.2.2.1,(x.1.1.2.2.2.2.1,(x.1.1.2.2.2.2.2.1,(false,(x.1.1.2.2.2.2.2.2.2.1,(0:Int))))))))),()),()))
       (some ((((0:Int),(OI,x.1.1.2.2)),()),())))))):=by kernel_rfl
theorem aeC(F:FT)(J:JT Mv)(x:Q27):bS 89 Mv Tryz.f89 F J x =
  (F 87 Aj ((x.1.1.1,()),())).bind fun(y1:Q0) =>
  (F 123 Pe ((x.1.1.2,()),())).bind fun(y2:Q0) =>
  cond y1.1.1
   (cond y2.1.1
    (some ((true,()),()))
    (some (((((x.1.1.2.1.1==0)&&(x.1.1.2.1.2==0))&&(x.1.1.2.2==0)),()),())))
   (some ((false,()),())):=by kernel_rfl
theorem aeD(F:FT)(J:JT GC)(x:((ID×aag)×Unit)):bS 105 GC Tryz.f105 F J x =
  cond ((x.1.1.1==x.1.2.1.1)&&(x.1.1.2==x.1.2.1.2))
   (some (((0:Int),()),()))
   (cond (decide (x.1.1.1<x.1.2.1.1))
    (some (((-1:Int),()),()))
    (cond (x.1.1.1==x.1.2.1.1)
     (cond (decide (x.1.1.2<x.1.2.1.2))
      (some (((-1:Int),()),()))
      (some (((1:Int),()),())))
     (some (((1:Int),()),())))):=by kernel_rfl
theorem aeE(F:FT)(J:JT Mw)(x:((StateT×(pn×Unit))×Unit)):bS 114 Mw Tryz.f114 F J x =
  (F 79 pJ ((x.1.1.1,(x.1.2.1.1,())),())).bind fun(y1:Q7) =>
  cond (not y1.1.2.1)
   (some ((OC,((13:Int),())),()))
   ((F 143 GH ((x.1.1,(x.1.2.1.2,())),())).bind fun(y2:EF) =>
   (F 144 qt ((y1.1.1.2.1,(y2.1.1,())),())).bind fun(y3:Q2) =>
   cond (decide (y3.1.1<0))
    (some (((x.1.2.1.1,OD),((0:Int),())),()))
    (some (((x.1.2.1.1,y2.1.1),((0:Int),())),()))):=by kernel_rfl
theorem aeF(F:FT)(J:JT xW)(x:((aj×(ah×Unit))×Unit)):bS 115 xW Tryz.f115 F J x =
 J tn (aN Tryz.prog 115 0) ((false,((0:Int),())),(((x.1.1,()),((x.1.2.1,()),((([]:List ag),(([]:List ah),())),((x.1.1.1,(([]:List ah),())),())))),())):=by kernel_rfl
theorem PR(F:FT)(J:JT xW)(x:((Bool×aaa)×((aaW×((ah×Unit)×aab))×Unit))):fH 115 0 xW Tryz.f115 tn F J x =
  cond (decide (x.1.2.1<(lI x.2.1.1.1.2)))
   (cond (not x.1.1)
    (((aX x.2.1.1.1.2 x.1.2.1)).bind fun(y1:ah) =>
    (F 105 GC ((x.2.1.2.1.1.1,(y1.1,())),())).bind fun(y2:Q2) =>
    cond (decide (y2.1.1<0))
     (cond (aL (List.length x.2.1.2.2.2.1.2.1) (List.length (x.2.1.2.1.1::([]:List ah))))
      (((aX x.2.1.1.1.2 x.1.2.1)).bind fun(y3:ah) =>
      cond (aL (List.length (x.2.1.2.2.2.1.2.1++(x.2.1.2.1.1::([]:List ah)))) (List.length (y3::([]:List ah))))
       (J tn (aN Tryz.prog 115 0) ((true,((wI (x.1.2.1+1)),())),(((x.2.1.1.1,()),((x.2.1.2.1.1,()),(x.2.1.2.2.1,((x.2.1.2.2.2.1.1,(((x.2.1.2.2.2.1.2.1++(x.2.1.2.1.1::([]:List ah)))++(y3::([]:List ah))),())),())))),())))
       (none))
      (none))
     (((aX x.2.1.1.1.2 x.1.2.1)).bind fun(y4:ah) =>
     cond (aL (List.length x.2.1.2.2.2.1.2.1) (List.length (y4::([]:List ah))))
      (J tn (aN Tryz.prog 115 0) ((x.1.1,((wI (x.1.2.1+1)),())),(((x.2.1.1.1,()),((x.2.1.2.1.1,()),(x.2.1.2.2.1,((x.2.1.2.2.2.1.1,((x.2.1.2.2.2.1.2.1++(y4::([]:List ah))),())),())))),())))
      (none)))
    (((aX x.2.1.1.1.2 x.1.2.1)).bind fun(y5:ah) =>
    cond (aL (List.length x.2.1.2.2.2.1.2.1) (List.length (y5::([]:List ah))))
     (J tn (aN Tryz.prog 115 0) ((x.1.1,((wI (x.1.2.1+1)),())),(((x.2.1.1.1,()),((x.2.1.2.1.1,()),(x.2.1.2.2.1,((x.2.1.2.2.2.1.1,((x.2.1.2.2.2.1.2.1++(y5::([]:List ah))),())),())))),())))
     (none)))
   (cond (not x.1.1)
    (cond (aL (List.length x.2.1.2.2.2.1.2.1) (List.length (x.2.1.2.1.1::([]:List ah))))
     (some (((x.2.1.2.2.2.1.1,(x.2.1.2.2.2.1.2.1++(x.2.1.2.1.1::([]:List ah)))),()),()))
     (none))
    (some (((x.2.1.2.2.2.1.1,x.2.1.2.2.2.1.2.1),()),()))):=by kernel_rfl
theorem aeG(F:FT)(J:JT xX)(x:((aj×(pn×aae))×Unit)):bS 116 xX Tryz.f116 F J x =
 (F 79 pJ ((x.1.1,(x.1.2.1.1,())),())).bind fun(y1:Q7) =>
 (F 146 xq ((y1.1.1.2.1,(x.1.2.1.2,(x.1.2.2.1,()))),())).bind fun(y2:Q6) =>
 (F 145 Cu ((x.1.1,(x.1.2.1.1,y2.1)),())).bind fun(y3:Q5) =>
 some ((y3.1.1,()),()):=by kernel_rfl
theorem aeH(F:FT)(J:JT xY)(x:(((List aw)×(aw×Unit))×Unit)):bS 117 xY Tryz.f117 F J x =
  (F 147 sB ((x.1.1,(x.1.2.1.1,())),())).bind fun(y1:KD) =>
  cond (not y1.1.2.1)
   (cond (decide ((lI x.1.1)≥400))
    (some ((x.1.1,()),()))
    (J kC (aN Tryz.prog 117 0) ((x.1.1,(false,((0:Int),()))),(((x.1.2.1,()),()),(([]:List aw),())))))
   (J kC (aN Tryz.prog 117 0) ((x.1.1,(false,((0:Int),()))),(((x.1.2.1,()),()),(([]:List aw),())))):=by kernel_rfl
theorem PS(F:FT)(J:JT xY)(x:(((List aw)×(Bool×aaa))×(((aw×Unit)×Unit)×((List aw)×Unit)))):fH 117 0 xY Tryz.f117 kC F J x =
  cond (decide (x.1.2.2.1<(lI x.1.1)))
   (cond (not x.1.2.1)
    (((aX x.1.1 x.1.2.2.1)).bind fun(y2:aw) =>
    (F 71 Mt ((x.2.1.1.1.1,(y2.1,())),())).bind fun(y3:Q2) =>
    cond (decide (y3.1.1≤0))
     (cond (aL (List.length x.2.2.1) (List.length (x.2.1.1.1::([]:List aw))))
      (((aX x.1.1 x.1.2.2.1)).bind fun(y4:aw) =>
      cond (not (((y4.1.1.1==x.2.1.1.1.1.1.1)&&(y4.1.1.2==x.2.1.1.1.1.1.2))&&(y4.1.2==x.2.1.1.1.1.2)))
       (((aX x.1.1 x.1.2.2.1)).bind fun(y5:aw) =>
       cond (aL (List.length (x.2.2.1++(x.2.1.1.1::([]:List aw)))) (List.length (y5::([]:List aw))))
        (J kC (aN Tryz.prog 117 0) ((x.1.1,(true,((wI (x.1.2.2.1+1)),()))),(((x.2.1.1.1,()),()),(((x.2.2.1++(x.2.1.1.1::([]:List aw)))++(y5::([]:List aw))),()))))
        (none))
       (J kC (aN Tryz.prog 117 0) ((x.1.1,(true,((wI (x.1.2.2.1+1)),()))),(((x.2.1.1.1,()),()),((x.2.2.1++(x.2.1.1.1::([]:List aw))),())))))
      (none))
     (((aX x.1.1 x.1.2.2.1)).bind fun(y6:aw) =>
     cond (not (((y6.1.1.1==x.2.1.1.1.1.1.1)&&(y6.1.1.2==x.2.1.1.1.1.1.2))&&(y6.1.2==x.2.1.1.1.1.2)))
      (((aX x.1.1 x.1.2.2.1)).bind fun(y7:aw) =>
      cond (aL (List.length x.2.2.1) (List.length (y7::([]:List aw))))
       (J kC (aN Tryz.prog 117 0) ((x.1.1,(x.1.2.1,((wI (x.1.2.2.1+1)),()))),(((x.2.1.1.1,()),()),((x.2.2.1++(y7::([]:List aw))),()))))
       (none))
      (J kC (aN Tryz.prog 117 0) ((x.1.1,(x.1.2.1,((wI (x.1.2.2.1+1)),()))),(((x.2.1.1.1,()),()),x.2.2)))))
    (((aX x.1.1 x.1.2.2.1)).bind fun(y8:aw) =>
    cond (not (((y8.1.1.1==x.2.1.1.1.1.1.1)&&(y8.1.1.2==x.2.1.1.1.1.1.2))&&(y8.1.2==x.2.1.1.1.1.2)))
     (((aX x.1.1 x.1.2.2.1)).bind fun(y9:aw) =>
     cond (aL (List.length x.2.2.1) (List.length (y9::([]:List aw))))
      (J kC (aN Tryz.prog 117 0) ((x.1.1,(x.1.2.1,((wI (x.1.2.2.1+1)),()))),(((x.2.1.1.1,()),()),((x.2.2.1++(y9::([]:List aw))),()))))
      (none))
     (J kC (aN Tryz.prog 117 0) ((x.1.1,(x.1.2.1,((wI (x.1.2.2.1+1)),()))),(((x.2.1.1.1,()),()),x.2.2)))))
   (cond (not x.1.2.1)
    (cond (aL (List.length x.2.2.1) (List.length (x.2.1.1.1::([]:List aw))))
     (some (((x.2.2.1++(x.2.1.1.1::([]:List aw))),()),()))
     (none))
    (some (x.2.2,()))):=by kernel_rfl
theorem aeI(F:FT)(J:JT Mx)(x:SY):bS 118 Mx Tryz.f118 F J x =
  (F 124 tk ((x.1.1,(x.1.2.1,())),())).bind fun(y1:RZ) =>
  (F 79 pJ ((x.1.1,(y1.1.1,())),())).bind fun(y2:Q7) =>
  (F 148 Mo ((y2.1.1.2.1,(x.1.2.1,())),())).bind fun(y3:KD) =>
  cond ((y3.1.1.1.1==x.1.2.1.1.1)&&(y3.1.1.1.2==x.1.2.1.1.2))
   ((F 148 Mo ((y2.1.1.2.1,(y3.1.1,())),())).bind fun(y4:KD) =>
   cond ((y4.1.1.1.1==x.1.2.1.1.1)&&(y4.1.1.1.2==x.1.2.1.1.2))
    (some ((OD,()),()))
    (some ((y4.1.1,()),())))
   (cond ((y3.1.1.1.1==x.1.2.1.1.1)&&(y3.1.1.1.2==x.1.2.1.1.2))
    (some ((OD,()),()))
    (some ((y3.1.1,()),()))):=by kernel_rfl
theorem aeJ(F:FT)(J:JT My)(x:SY):bS 119 My Tryz.f119 F J x =
 (F 124 tk ((x.1.1,(x.1.2.1,())),())).bind fun(y1:RZ) =>
 (F 79 pJ ((x.1.1,(y1.1.1,())),())).bind fun(y2:Q7) =>
 (F 126 xt ((y2.1.1.2.1,(x.1.2.1,())),())).bind fun(y3:Q6) =>
 (F 145 Cu ((x.1.1,(y1.1.1,y3.1)),())).bind fun(y4:Q5) =>
 some ((y4.1.1,()),()):=by kernel_rfl
theorem aeK(F:FT)(J:JT GD)(x:((aj×(ab×aae))×Unit)):bS 120 GD Tryz.f120 F J x =
 (F 124 tk ((x.1.1,(x.1.2.1,())),())).bind fun(y1:RZ) =>
 (F 79 pJ ((x.1.1,(y1.1.1,())),())).bind fun(y2:Q7) =>
 (F 149 GI ((y2.1.1.2.1,(x.1.2.1,(x.1.2.2.1,()))),())).bind fun(y3:Q6) =>
 (F 145 Cu ((x.1.1,(y1.1.1,y3.1)),())).bind fun(y4:Q5) =>
 some ((y4.1.1,()),()):=by kernel_rfl
theorem aeL(F:FT)(J:JT pK)(x:Q6):bS 122 pK Tryz.f122 F J x =
 J wc (aN Tryz.prog 122 0) ((x.1.1,((0:Int),((0:Int),()))),((),())):=by kernel_rfl
theorem PT(F:FT)(J:JT pK)(x:(abv×aa4)):fH 122 0 pK Tryz.f122 wc F J x =
  cond (decide (x.1.2.2.1<(lI x.1.1)))
   (((aX x.1.1 x.1.2.2.1)).bind fun(y1:ab) =>
   ((aX x.1.1 x.1.2.1)).bind fun(y2:ab) =>
   (F 71 Mt ((y1,(y2,())),())).bind fun(y3:Q2) =>
   cond (decide (y3.1.1<0))
    (J wc (aN Tryz.prog 122 0) ((x.1.1,(x.1.2.2.1,((wI (x.1.2.2.1+1)),()))),((),())))
    (J wc (aN Tryz.prog 122 0) ((x.1.1,(x.1.2.1,((wI (x.1.2.2.1+1)),()))),((),()))))
   (J AY (aN Tryz.prog 122 1) ((x.1.1,(x.1.2.1,((0:Int),()))),((),(([]:List ab),())))):=by kernel_rfl
theorem PU(F:FT)(J:JT pK)(x:(abv×(Unit×aaX))):fH 122 1 pK Tryz.f122 AY F J x =
  cond (decide (x.1.2.2.1<(lI x.1.1)))
   (cond ((lI x.1.1)==0)
    (none)
    (((aX x.1.1 (Int.tmod (wI (x.1.2.1+x.1.2.2.1)) (lI x.1.1)))).bind fun(y4:ab) =>
    cond (aL (List.length x.2.2.1) (List.length (y4::([]:List ab))))
     (J AY (aN Tryz.prog 122 1) ((x.1.1,(x.1.2.1,((wI (x.1.2.2.1+1)),()))),((),((x.2.2.1++(y4::([]:List ab))),()))))
     (none)))
   (some (x.2.2,())):=by kernel_rfl
theorem aeM(F:FT)(J:JT Pb)(x:SY):bS 234 Pb Tryz.f234 F J x =
  (F 124 tk ((x.1.1,(x.1.2.1,())),())).bind fun(y1:RZ) =>
  cond (not y1.1.2.1)
   (some ((OD,(false,())),()))
   ((F 79 pJ ((x.1.1,(y1.1.1,())),())).bind fun(y2:Q7) =>
   (F 248 GJ ((y2.1.1.2.1,(x.1.2.1,())),())).bind fun(y3:KD) =>
   some (y3.1,())):=by kernel_rfl
theorem aeN(F:FT)(J:JT Mz)(x:(((List ag)×Unit)×Unit)):bS 127 Mz Tryz.f127 F J x =
  cond (List.isEmpty x.1.1)
   (p6 2 fun(j1:Nat) =>
   cond ((j1==0)==true)
    (some ((([]:List ag),()),()))
    (cond (aL (List.length ([]:List ag)) (List.length x.1.1))
     (some (((([]:List ag)++x.1.1),()),()))
     (none)))
   (cond (aL (List.length ([]:List ag)) (List.length x.1.1))
    (some (((([]:List ag)++x.1.1),()),()))
    (none)):=by kernel_rfl
theorem aeO(F:FT)(J:JT MA)(x:(((List ah)×Unit)×Unit)):bS 128 MA Tryz.f128 F J x =
  cond (List.isEmpty x.1.1)
   (p6 2 fun(j1:Nat) =>
   cond ((j1==0)==true)
    (some ((([]:List ah),()),()))
    (cond (aL (List.length ([]:List ah)) (List.length x.1.1))
     (some (((([]:List ah)++x.1.1),()),()))
     (none)))
   (cond (aL (List.length ([]:List ah)) (List.length x.1.1))
    (some (((([]:List ah)++x.1.1),()),()))
    (none)):=by kernel_rfl
theorem aeP(F:FT)(J:JT xZ)(x:Q6):bS 110 xZ Tryz.f110 F J x =
  cond (List.isEmpty x.1.1)
   (p6 2 fun(j1:Nat) =>
   cond ((j1==0)==true)
    (some ((([]:List ab),()),()))
    (cond (aL (List.length ([]:List ab)) (List.length x.1.1))
     (some (((([]:List ab)++x.1.1),()),()))
     (none)))
   (cond (aL (List.length ([]:List ab)) (List.length x.1.1))
    (some (((([]:List ab)++x.1.1),()),()))
    (none)):=by kernel_rfl
end Go.Vs
