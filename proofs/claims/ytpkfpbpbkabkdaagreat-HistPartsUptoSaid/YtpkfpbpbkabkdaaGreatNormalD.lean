/- Normal forms of the program's functions, the fourth part. -/
import Derived.Test.YtpkfpbpbkabkdaaGreatEngineD
import Derived.KernelRfl
set_option linter.unusedVariables false
set_option maxRecDepth 1000000
set_option maxHeartbeats 0
namespace Go.Vs
open Go.Proofs
theorem ZG(F:FT)(J:JT uG)(x:(((List (List ba))×aaf)×Unit)):bS 6 uG Tryz.f6 F J x =
  (F 23 G3 ((),())).bind fun(y1:Q0) =>
  cond (not y1.1.1)
   (some ((false,()),()))
   (J rv (aN Tryz.prog 6 0) ((x.1.1,(x.1.2.1,(x.1.2.2.1,((0:Int),())))),(((OS,((0:Int),(([]:List (List ba)),()))),()),(([]:List (List ba)),())))):=by kernel_rfl
theorem KV(F:FT)(J:JT uG)(x:(((List (List ba))×(Int×aaf))×((cS×Unit)×((List (List ba))×Unit)))):fH 6 0 uG Tryz.f6 rv F J x =
  cond (decide (x.1.2.2.2.1<(lI x.1.1)))
   (cond (decide (x.1.2.2.2.1<60))
    (((aX x.1.1 x.1.2.2.2.1)).bind fun(y2:Q8) =>
    (F 30 Dk ((y2,()),())).bind fun(y3:Q3) =>
    (F 25 Di (y3.1,(x.2.1.1,()))).bind fun(y4:Q28) =>
    cond (y4.1.2.1==0)
     (((aX x.1.1 x.1.2.2.2.1)).bind fun(y5:Q8) =>
     (F 30 Dk ((y5,()),())).bind fun(y6:Q3) =>
     cond (aL (List.length x.2.2.1) (List.length (y6.1.1::([]:List (List ba)))))
      (J rv (aN Tryz.prog 6 0) ((x.1.1,(x.1.2.1,(x.1.2.2.1,((wI (x.1.2.2.2.1+1)),())))),((y4.2.1,()),((x.2.2.1++(y6.1.1::([]:List (List ba)))),()))))
      (none))
     (J rv (aN Tryz.prog 6 0) ((x.1.1,(x.1.2.1,(x.1.2.2.1,((wI (x.1.2.2.2.1+1)),())))),((y4.2.1,()),x.2.2))))
    ((F 27 Az ((x.1.2.2.1,()),(x.2.1.1,()))).bind fun(y7:Q9) =>
    (F 31 AB ((x.1.2.1,()),(y7.2.1,()))).bind fun(y8:Q36) =>
    (F 32 sE ((x.1.2.1,()),(y8.2.1,()))).bind fun(y9:(((List (List ba))×(Int×Unit))×(cS×Unit))) =>
    (F 29 AA ((),(y9.2.1,()))).bind fun(oR:Q9) =>
    cond (decide (x.1.2.1<oR.1.1))
     (cond (y8.1.2.1==26)
      (cond (y9.1.2.1==26)
       (cond ((lI y9.1.1)==0)
        (some ((((lI y8.1.1.1.1)==0),()),()))
        (some ((false,()),())))
       (some ((false,()),())))
      (some ((false,()),())))
     (cond (decide (x.1.2.1>(lI x.2.2.1)))
      (cond (y8.1.2.1==26)
       (cond (y9.1.2.1==26)
        (cond ((lI y9.1.1)==0)
         (some ((((lI y8.1.1.1.1)==0),()),()))
         (some ((false,()),())))
        (some ((false,()),())))
       (some ((false,()),())))
      (cond (aK (List.length x.2.2.1) (0:Int) x.1.2.1)
       ((F 20 pq ((OS,((cut x.2.2.1 (0:Int) x.1.2.1),())),())).bind fun(mg:Q4) =>
       (F 22 Gp ((y8.1.1,(mg.1.1,())),())).bind fun(pM:Q0) =>
       cond (aK (List.length x.2.2.1) x.1.2.1 (lI x.2.2.1))
        ((F 33 sF ((y9.1.1,((cut x.2.2.1 x.1.2.1 (lI x.2.2.1)),())),())).bind fun(kS:Q0) =>
        (F 20 pq ((y8.1.1,(y9.1.1,())),())).bind fun(EH:Q4) =>
        (F 34 Dl ((),(oR.2.1,()))).bind fun(tL:((StateT×Unit)×(cS×Unit))) =>
        (F 22 Gp ((EH.1.1,(tL.1.1,())),())).bind fun(R1:Q0) =>
        cond (y8.1.2.1==0)
         (cond (y9.1.2.1==0)
          (cond pM.1.1
           (cond kS.1.1
            (some (R1.1,()))
            (some ((false,()),())))
           (some ((false,()),())))
          (some ((false,()),())))
         (some ((false,()),())))
        (none))
       (none)))))
   ((F 27 Az ((x.1.2.2.1,()),(x.2.1.1,()))).bind fun(R4:Q9) =>
   (F 31 AB ((x.1.2.1,()),(R4.2.1,()))).bind fun(Jo:Q36) =>
   (F 32 sE ((x.1.2.1,()),(Jo.2.1,()))).bind fun(G6:(((List (List ba))×(Int×Unit))×(cS×Unit))) =>
   (F 29 AA ((),(G6.2.1,()))).bind fun(Dn:Q9) =>
   cond (decide (x.1.2.1<Dn.1.1))
    (cond (Jo.1.2.1==26)
     (cond (G6.1.2.1==26)
      (cond ((lI G6.1.1)==0)
       (some ((((lI Jo.1.1.1.1)==0),()),()))
       (some ((false,()),())))
      (some ((false,()),())))
     (some ((false,()),())))
    (cond (decide (x.1.2.1>(lI x.2.2.1)))
     (cond (Jo.1.2.1==26)
      (cond (G6.1.2.1==26)
       (cond ((lI G6.1.1)==0)
        (some ((((lI Jo.1.1.1.1)==0),()),()))
        (some ((false,()),())))
       (some ((false,()),())))
      (some ((false,()),())))
     (cond (aK (List.length x.2.2.1) (0:Int) x.1.2.1)
      ((F 20 pq ((OS,((cut x.2.2.1 (0:Int) x.1.2.1),())),())).bind fun(YM:Q4) =>
      (F 22 Gp ((Jo.1.1,(YM.1.1,())),())).bind fun(YN:Q0) =>
      cond (aK (List.length x.2.2.1) x.1.2.1 (lI x.2.2.1))
       ((F 33 sF ((G6.1.1,((cut x.2.2.1 x.1.2.1 (lI x.2.2.1)),())),())).bind fun(y23:Q0) =>
       (F 20 pq ((Jo.1.1,(G6.1.1,())),())).bind fun(y24:Q4) =>
       (F 34 Dl ((),(Dn.2.1,()))).bind fun(y25:((StateT×Unit)×(cS×Unit))) =>
       (F 22 Gp ((y24.1.1,(y25.1.1,())),())).bind fun(y26:Q0) =>
       cond (Jo.1.2.1==0)
        (cond (G6.1.2.1==0)
         (cond YN.1.1
          (cond y23.1.1
           (some (y26.1,()))
           (some ((false,()),())))
          (some ((false,()),())))
         (some ((false,()),())))
        (some ((false,()),())))
       (none))
      (none)))):=by kernel_rfl
theorem ZH(F:FT)(J:JT Ay)(x:Q29):bS 18 Ay Tryz.f18 F J x =
 (F 62060 kh (x.1,())).bind fun(y1:Q4) =>
 some ((y1.1.1,()),()):=by kernel_rfl
theorem ZI(F:FT)(J:JT pq)(x:Q29):bS 20 pq Tryz.f20 F J x =
 J uT (aN Tryz.prog 20 0) ((x.1.2.1,((0:Int),())),(((x.1.1,()),(OW,())),())):=by kernel_rfl
theorem KW(F:FT)(J:JT pq)(x:(((List (List ba))×aaa)×((abd×aa5)×Unit))):fH 20 0 pq Tryz.f20 uT F J x =
  cond (decide (x.1.2.1<(lI x.1.1)))
   (((aX x.1.1 x.1.2.1)).bind fun(y1:Q8) =>
   (F 64 O4 ((x.2.1.1.1,(y1,())),())).bind fun(y2:Q4) =>
   J uT (aN Tryz.prog 20 0) ((x.1.1,((wI (x.1.2.1+1)),())),(((y2.1.1,()),(x.2.1.2.1,())),())))
   (some ((x.2.1.1.1,()),())):=by kernel_rfl
theorem ZJ(F:FT)(J:JT G3)(x:aa4):bS 23 G3 Tryz.f23 F J x =
  (F 26 G4 (((1:Int),()),())).bind fun(y1:Q3) =>
  (F 25 Di (y1.1,((OS,((0:Int),(([]:List (List ba)),()))),()))).bind fun(y2:Q28) =>
  (F 27 Az (((1:Int),()),(y2.2.1,()))).bind fun(y3:Q9) =>
  cond (y2.1.1==1)
   (cond (y2.1.2.1==0)
    (cond (y3.1.1==0)
     ((F 29 AA ((),(y3.2.1,()))).bind fun(y4:Q9) =>
     cond (y4.1.1==1)
      ((F 28 uH ((),(y4.2.1,()))).bind fun(y5:Q9) =>
      some (((y5.1.1==1),()),()))
      (some ((false,()),())))
     (some ((false,()),())))
    (some ((false,()),())))
   (some ((false,()),())):=by kernel_rfl
theorem ZK(F:FT)(J:JT Di)(x:(abc×(cS×Unit))):bS 25 Di Tryz.f25 F J x =
  (F 66 EA (x.1,())).bind fun(y1:Q2) =>
  cond (y1.1.1 != 0)
   (some (((0:Int),y1.1),(x.2.1,())))
   (cond (decide ((lI x.2.1.2.2.1)≥64))
    (some (((0:Int),((20:Int),())),(x.2.1,())))
    (cond ((aK (List.length x.2.1.2.2.1) (0:Int) (lI x.2.1.2.2.1))&&(decide ((lI x.2.1.2.2.1)=(lI x.2.1.2.2.1))))
     ((F 67 Dm (x.1,())).bind fun(y2:Q3) =>
     cond (aL (List.length (cut x.2.1.2.2.1 (0:Int) (lI x.2.1.2.2.1))) (List.length (y2.1.1::([]:List (List ba)))))
      ((F 28 uH ((),((x.2.1.1,(x.2.1.2.1,(((cut x.2.1.2.2.1 (0:Int) (lI x.2.1.2.2.1))++(y2.1.1::([]:List (List ba)))),()))),()))).bind fun(y3:Q9) =>
      some ((y3.1.1,((0:Int),())),(y3.2.1,())))
      (none))
     (none))):=by kernel_rfl
theorem ZL(F:FT)(J:JT G4)(x:Q2):bS 26 G4 Tryz.f26 F J x =
 some (((((1:Int),(((1:Int),x.1.1),(OI,(OI,(OC,(OC,(false,(OB,(0:Int)))))))))::([]:List ba)),()),()):=by kernel_rfl
theorem ZM(F:FT)(J:JT Az)(x:Q9):bS 27 Az Tryz.f27 F J x =
  (F 31 AB (x.1,(x.2.1,()))).bind fun(y1:Q36) =>
  cond (y1.1.2.1==0)
   (cond (aK (List.length y1.2.1.2.2.1) (wI (x.1.1-y1.2.1.2.1)) (lI y1.2.1.2.2.1))
    (some (y1.1.2,((y1.1.1,(x.1.1,((cut y1.2.1.2.2.1 (wI (x.1.1-y1.2.1.2.1)) (lI y1.2.1.2.2.1)),()))),())))
    (none))
   (some (y1.1.2,(y1.2.1,()))):=by kernel_rfl
theorem ZN(F:FT)(J:JT uH)(x:Q32):bS 28 uH Tryz.f28 F J x =
 some (((wI (x.2.1.2.1+(lI x.2.1.2.2.1))),()),(x.2.1,())):=by kernel_rfl
theorem ZO(F:FT)(J:JT AA)(x:Q32):bS 29 AA Tryz.f29 F J x =
 some ((x.2.1.2.1,()),(x.2.1,())):=by kernel_rfl
theorem ZP(F:FT)(J:JT Dk)(x:Q3):bS 30 Dk Tryz.f30 F J x =
  cond (decide ((lI x.1.1)>8))
   (cond (aK (List.length x.1.1) (0:Int) (8:Int))
    (some (((cut x.1.1 (0:Int) (8:Int)),()),()))
    (none))
   (some (x.1,())):=by kernel_rfl
theorem ZQ(F:FT)(J:JT AB)(x:Q9):bS 31 AB Tryz.f31 F J x =
  cond (decide (x.1.1<x.2.1.2.1))
   (some ((OS,((26:Int),())),(x.2.1,())))
   ((F 28 uH ((),(x.2.1,()))).bind fun(y1:Q9) =>
   cond (decide (x.1.1>y1.1.1))
    (some ((OS,((26:Int),())),(y1.2.1,())))
    (cond (aK (List.length y1.2.1.2.2.1) (0:Int) (wI (x.1.1-y1.2.1.2.1)))
     ((F 18 Ay ((y1.2.1.1,((cut y1.2.1.2.2.1 (0:Int) (wI (x.1.1-y1.2.1.2.1))),())),())).bind fun(y2:Q4) =>
     some ((y2.1.1,((0:Int),())),(y1.2.1,())))
     (none))):=by kernel_rfl
theorem ZR(F:FT)(J:JT sE)(x:Q9):bS 32 sE Tryz.f32 F J x =
  cond (decide (x.1.1<x.2.1.2.1))
   (some ((([]:List (List ba)),((26:Int),())),(x.2.1,())))
   ((F 28 uH ((),(x.2.1,()))).bind fun(y1:Q9) =>
   cond (decide (x.1.1>y1.1.1))
    (some ((([]:List (List ba)),((26:Int),())),(y1.2.1,())))
    (cond (aK (List.length y1.2.1.2.2.1) (wI (x.1.1-y1.2.1.2.1)) (lI y1.2.1.2.2.1))
     (J ry (aN Tryz.prog 32 0) (((cut y1.2.1.2.2.1 (wI (x.1.1-y1.2.1.2.1)) (lI y1.2.1.2.2.1)),((lI (cut y1.2.1.2.2.1 (wI (x.1.1-y1.2.1.2.1)) (lI y1.2.1.2.2.1))),((0:Int),()))),((y1.2.1,()),(([]:List (List ba)),()))))
     (none))):=by kernel_rfl
theorem KX(F:FT)(J:JT sE)(x:(((List (List ba))×aaf)×((cS×Unit)×((List (List ba))×Unit)))):fH 32 0 sE Tryz.f32 ry F J x =
  cond (decide (x.1.2.2.1<x.1.2.1))
   (((aX x.1.1 x.1.2.2.1)).bind fun(y2:Q8) =>
   (F 67 Dm ((y2,()),())).bind fun(y3:Q3) =>
   cond (aL (List.length x.2.2.1) (List.length (y3.1.1::([]:List (List ba)))))
    (J ry (aN Tryz.prog 32 0) ((x.1.1,(x.1.2.1,((wI (x.1.2.2.1+1)),()))),((x.2.1.1,()),((x.2.2.1++(y3.1.1::([]:List (List ba)))),()))))
    (none))
   (some ((x.2.2.1,((0:Int),())),(x.2.1.1,()))):=by kernel_rfl
theorem ZS(F:FT)(J:JT sF)(x:(((List (List ba))×((List (List ba))×Unit))×Unit)):bS 33 sF Tryz.f33 F J x =
  cond ((lI x.1.1) != (lI x.1.2.1))
   (some ((false,()),()))
   (J uU (aN Tryz.prog 33 0) ((x.1.1,(x.1.2.1,((0:Int),()))),((),()))):=by kernel_rfl
theorem KY(F:FT)(J:JT sF)(x:(((List (List ba))×((List (List ba))×aaa))×aa4)):fH 33 0 sF Tryz.f33 uU F J x =
  cond (decide (x.1.2.2.1<(lI x.1.1)))
   (((aX x.1.1 x.1.2.2.1)).bind fun(y1:Q8) =>
   ((aX x.1.2.1 x.1.2.2.1)).bind fun(y2:Q8) =>
   (F 68 xC ((y1,(y2,())),())).bind fun(y3:Q0) =>
   cond (not y3.1.1)
    (some ((false,()),()))
    (J uU (aN Tryz.prog 33 0) ((x.1.1,(x.1.2.1,((wI (x.1.2.2.1+1)),()))),((),()))))
   (some ((true,()),())):=by kernel_rfl
theorem ZT(F:FT)(J:JT Dl)(x:Q32):bS 34 Dl Tryz.f34 F J x =
 (F 18 Ay ((x.2.1.1,x.2.1.2.2),())).bind fun(y1:Q4) =>
 some ((y1.1.1,()),(x.2.1,())):=by kernel_rfl
end Go.Vs
set_option maxRecDepth 1000000
set_option maxHeartbeats 0
namespace Go.Vs
open Go.Proofs
theorem ZU(F:FT)(J:JT G5)(x:XL):bS 61 G5 Tryz.f61 F J x =
 some ((),()):=by kernel_rfl
theorem ZV(F:FT)(J:JT Dm)(x:Q3):bS 67 Dm Tryz.f67 F J x =
  cond (List.isEmpty x.1.1)
   (p6 2 fun(j1:Nat) =>
   cond ((j1==0)==true)
    (some ((([]:List ba),()),()))
    (cond (aL (List.length ([]:List ba)) (List.length x.1.1))
     (some (((([]:List ba)++x.1.1),()),()))
     (none)))
   (cond (aL (List.length ([]:List ba)) (List.length x.1.1))
    (some (((([]:List ba)++x.1.1),()),()))
    (none)):=by kernel_rfl
theorem ZW(F:FT)(J:JT xC)(x:(((List ba)×abc)×Unit)):bS 68 xC Tryz.f68 F J x =
  cond ((lI x.1.1) != (lI x.1.2.1))
   (some ((false,()),()))
   (J uV (aN Tryz.prog 68 0) (((0:Int),()),(((x.1.1,()),(x.1.2,())),()))):=by kernel_rfl
theorem KZ(F:FT)(J:JT xC)(x:(aaa×((abc×(abc×Unit))×Unit))):fH 68 0 xC Tryz.f68 uV F J x =
  cond (decide (x.1.1<(lI x.2.1.1.1)))
   (((aX x.2.1.1.1 x.1.1)).bind fun(y1:ba) =>
   ((aX x.2.1.2.1.1 x.1.1)).bind fun(y2:ba) =>
   cond (not ((y1.1==y2.1)&&(((y1.2.1.1==y2.2.1.1)&&(y1.2.1.2==y2.2.1.2))&&(((y1.2.2.1.1==y2.2.2.1.1)&&(y1.2.2.1.2==y2.2.2.1.2))&&(((y1.2.2.2.1.1==y2.2.2.2.1.1)&&(y1.2.2.2.1.2==y2.2.2.2.1.2))&&((((y1.2.2.2.2.1.1.1==y2.2.2.2.2.1.1.1)&&(y1.2.2.2.2.1.1.2==y2.2.2.2.2.1.1.2))&&(((y1.2.2.2.2.1.2.1.1==y2.2.2.2.2.1.2.1.1)&&(y1.2.2.2.2.1.2.1.2==y2.2.2.2.2.1.2.1.2))&&(y1.2.2.2.2.1.2.2==y2.2.2.2.2.1.2.2)))&&((((y1.2.2.2.2.2.1.1.1==y2.2.2.2.2.2.1.1.1)&&(y1.2.2.2.2.2.1.1.2==y2.2.2.2.2.2.1.1.2))&&(((y1.2.2.2.2.2.1.2.1.1==y2.2.2.2.2.2.1.2.1.1)&&(y1.2.2.2.2.2.1.2.1.2==y2.2.2.2.2.2.1.2.1.2))&&(y1.2.2.2.2.2.1.2.2==y2.2.2.2.2.2.1.2.2)))&&((y1.2.2.2.2.2.2.1==y2.2.2.2.2.2.2.1)&&((y1.2.2.2.2.2.2.2.1==y2.2.2.2.2.2.2.2.1)&&(y1.2.2.2.2.2.2.2.2==y2.2.2.2.2.2.2.2.2))))))))))
    (some ((false,()),()))
    (J uV (aN Tryz.prog 68 0) (((wI (x.1.1+1)),()),((x.2.1.1,(x.2.1.2.1,())),()))))
   (some ((true,()),())):=by kernel_rfl
theorem P6(F:FT)(J:JT kh)(x:Q29):bS 62060 kh Tryz.f60 F J x =
 (F 102 Gv ((x.1.1,(([]:List ba),())),())).bind fun(y1:Q4) =>
 J lS (aN Tryz.prog 60 0) ((x.1.2.1,((lI x.1.2.1),((0:Int),()))),((OW,((y1.1.1,()),())),())):=by kernel_rfl
theorem A8(F:FT)(J:JT kh)(x:(((List (List ba))×aaf)×((aQ×(abd×Unit))×Unit))):fH 62060 0 kh Tryz.f60 lS F J x =
  cond (decide (x.1.2.2.1<x.1.2.1))
   (((aX x.1.1 x.1.2.2.1)).bind fun(y2:Q8) =>
   (F 61 G5 ((x.2.1.2.1.1,(y2,())),())).bind fun(y3:(Unit×Unit)) =>
   (F 102 Gv ((x.2.1.2.1.1,(y2,())),())).bind fun(y4:Q4) =>
   J lS (aN Tryz.prog 60 0) ((x.1.1,(x.1.2.1,((wI (x.1.2.2.1+1)),()))),((x.2.1.1,((y4.1.1,()),())),())))
   (some ((x.2.1.2.1.1,()),())):=by kernel_rfl
end Go.Vs
