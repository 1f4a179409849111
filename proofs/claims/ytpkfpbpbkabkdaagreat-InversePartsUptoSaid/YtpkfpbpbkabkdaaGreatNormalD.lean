/- Normal forms of the program's functions, the fourth part. -/
import Derived.Test.YtpkfpbpbkabkdaaGreatEngineD
import Derived.KernelRfl
set_option linter.unusedVariables false
set_option maxRecDepth 1000000
set_option maxHeartbeats 0
namespace Go.Vs
open Go.Proofs
theorem aa9(F:FT)(J:JT vl)(x:Q16):bU 9 vl Tryz.f9 F J x =
  (F 42 HO ((),())).bind fun(y1:Q0) =>
  (F 43 l8 ((x.1.1,()),())).bind fun(y2:Q0) =>
  cond (not y2.1.1)
   (some (y1.1,()))
   ((F 47 HP (x.1.2,())).bind fun(y3:Q3) =>
   (F 48 yE ((x.1.1,y3.1),())).bind fun(y4:Q24) =>
   (F 49 Hm ((x.1.1,y3.1),())).bind fun(y5:Q1) =>
   cond (y5.1.2.1 != 0)
    (cond y1.1.1
     (cond (y4.1.2.1==y5.1.2.1)
      (some ((((lI y4.1.1)==0),()),()))
      (some ((false,()),())))
     (some ((false,()),())))
    (J vA (aM Tryz.prog 9 0) ((y1.1.1,(y4.1.2.1,((0:Int),()))),(((x.1.1,()),(y3.1,())),(y4.1.1,(([]:List aZ),())))))):=by kernel_rfl
theorem LQ(F:FT)(J:JT vl)(x:((Bool×aaf)×((acg×(acb×Unit))×((List aZ)×acb)))):eR 9 0 vl Tryz.f9 vA F J x =
  cond (decide (x.1.2.2.1<(lI x.2.1.2.1.1)))
   (((aY x.2.1.2.1.1 x.1.2.2.1)).bind fun(y6:aZ) =>
   (F 44 Bv ((x.2.1.1.1,(y6,())),())).bind fun(y7:Q3) =>
   cond (decide ((lI y7.1.1)<1))
    (some ((false,()),()))
    (cond (decide ((lI y7.1.1)>5))
     (some ((false,()),()))
     (cond (aO (List.length ([]:List aZ)) (List.length y7.1.1))
      (cond (aO (List.length (([]:List aZ)++y7.1.1)) (List.length x.2.2.2.1))
       (((aY x.2.1.2.1.1 x.1.2.2.1)).bind fun(y8:aZ) =>
       (F 45 Ns ((x.2.1.1.1,(y8,())),())).bind fun(y9:Q1) =>
       J vA (aM Tryz.prog 9 0) ((x.1.1,(x.1.2.1,((wI (x.1.2.2.1+1)),()))),(((y9.1.1,()),(x.2.1.2.1,())),(x.2.2.1,(((([]:List aZ)++y7.1.1)++x.2.2.2.1),())))))
       (none))
      (none))))
   (cond x.1.1
    (cond (x.1.2.1==0)
     ((F 50 yF (x.2.2,())).bind fun(oU:Q0) =>
     some (oU.1,()))
     (some ((false,()),())))
    (some ((false,()),()))):=by kernel_rfl
theorem aba(F:FT)(J:JT HO)(x:ab9):bU 42 HO Tryz.f42 F J x =
  (F 44 Bv ((OS,(((1:Int),(((1:Int),(1:Int)),(OI,(OI,(OC,(OC,(false,(OB,(0:Int))))))))),())),())).bind fun(y1:Q3) =>
  cond ((lI y1.1.1)==1)
   (cond ((decide ((0:Int)≤0))&&(decide ((0:Int)<(lI y1.1.1))))
    (((y1.1.1)[(Int.toNat (0:Int))]?).bind fun(y2:aZ) =>
    some ((((y2.1==2)&&(((y2.2.1.1==1)&&(y2.2.1.2==1))&&(((y2.2.2.1.1==0)&&(y2.2.2.1.2==0))&&(((y2.2.2.2.1.1==0)&&(y2.2.2.2.1.2==0))&&((((y2.2.2.2.2.1.1.1==0)&&(y2.2.2.2.2.1.1.2==0))&&(((y2.2.2.2.2.1.2.1.1==0)&&(y2.2.2.2.2.1.2.1.2==0))&&(y2.2.2.2.2.1.2.2==0)))&&((((y2.2.2.2.2.2.1.1.1==0)&&(y2.2.2.2.2.2.1.1.2==0))&&(((y2.2.2.2.2.2.1.2.1.1==0)&&(y2.2.2.2.2.2.1.2.1.2==0))&&(y2.2.2.2.2.2.1.2.2==0)))&&((y2.2.2.2.2.2.2.1==false)&&((y2.2.2.2.2.2.2.2.1==OB)&&(y2.2.2.2.2.2.2.2.2==0))))))))),()),()))
    (none))
   (some ((false,()),())):=by kernel_rfl
theorem abb(F:FT)(J:JT l8)(x:Q4):bU 43 l8 Tryz.f43 F J x =
 J vB (aM Tryz.prog 43 0) (((1:Int),()),(((x.1.1,()),()),())):=by kernel_rfl
theorem Fv(F:FT)(J:JT l8)(x:(aaa×((acg×Unit)×Unit))):eR 43 0 l8 Tryz.f43 vB F J x =
  cond (decide (x.1.1<(lI x.2.1.1.1.2)))
   (((aY x.2.1.1.1.2 (wI (x.1.1-1)))).bind fun(y1:aA) =>
   ((aY x.2.1.1.1.2 x.1.1)).bind fun(y2:aA) =>
   (F 71 Kf ((y1.1,(y2.1,())),())).bind fun(y3:Q2) =>
   cond (decide (y3.1.1≥0))
    (some ((false,()),()))
    (J vB (aM Tryz.prog 43 0) (((wI (x.1.1+1)),()),(((x.2.1.1.1,()),()),()))))
   (cond (decide ((lI x.2.1.1.1.2)≤400))
    ((F 72 Fh ((x.2.1.1.1.1,()),())).bind fun(y4:Q2) =>
    some (((y4.1.1==0),()),()))
    (some ((false,()),()))):=by kernel_rfl
end Go.Vs
set_option maxRecDepth 1000000
set_option maxHeartbeats 0
namespace Go.Vs
open Go.Proofs
theorem abc(F:FT)(J:JT Bv)(x:Wb):bU 44 Bv Tryz.f44 F J x =
  (F 73 Kc ((x.1.1,(x.1.2.1,())),())).bind fun(y1:Q1) =>
  cond (y1.1.2.1 != 0)
   (some ((([]:List aZ),()),()))
   (cond (x.1.2.1.1==1)
    (some (((((2:Int),(x.1.2.1.2.1,(OI,(OI,(OC,(OC,(false,(OB,(0:Int)))))))))::([]:List aZ)),()),()))
    (cond (x.1.2.1.1==2)
     ((F 74 tg ((x.1.1.1,(x.1.2.1.2.1,())),())).bind fun(y2:Q7) =>
     (F 75 ti ((x.1.2.1.2.1,(false,(y2.1.1.2.2.1,(y2.1.1.2.2.2,())))),())).bind fun(y3:Q3) =>
     cond (aO (List.length (((1:Int),(x.1.2.1.2.1,(OI,(OI,(OC,(OC,(false,(OB,(0:Int)))))))))::([]:List aZ))) (List.length y3.1.1))
      (some ((((((1:Int),(x.1.2.1.2.1,(OI,(OI,(OC,(OC,(false,(OB,(0:Int)))))))))::([]:List aZ))++y3.1.1),()),()))
      (none))
     (cond (x.1.2.1.1==3)
      (some (((((4:Int),(x.1.2.1.2.1,(OI,(OI,(OC,(OC,(false,(OB,(0:Int)))))))))::([]:List aZ)),()),()))
      (cond (x.1.2.1.1==4)
       ((F 76 HQ ((x.1.1.1,(x.1.2.1,())),())).bind fun(y4:Q3) =>
       some (y4.1,()))
       (cond (x.1.2.1.1==5)
        (some (((((6:Int),(x.1.2.1.2.2.1,(OI,(x.1.2.1.2.2.2.1,(OC,(OC,(false,(OB,(0:Int)))))))))::([]:List aZ)),()),()))
        (cond (x.1.2.1.1==6)
         ((F 77 oy ((x.1.1.1,(x.1.2.1,())),())).bind fun(y5:Q3) =>
         some (y5.1,()))
         ((F 78 HR ((x.1.1.1,(x.1.2.1,())),())).bind fun(y6:Q3) =>
         some (y6.1,())))))))):=by kernel_rfl
theorem abd(F:FT)(J:JT HP)(x:Q3):bU 47 HP Tryz.f47 F J x =
  cond (decide ((lI x.1.1)>8))
   (cond (bj (List.length x.1.1) (0:Int) (8:Int))
    (some (((cut x.1.1 (0:Int) (8:Int)),()),()))
    (none))
   (some (x.1,())):=by kernel_rfl
theorem abe(F:FT)(J:JT yE)(x:Q16):bU 48 yE Tryz.f48 F J x =
  (F 63 Qh (x.1,())).bind fun(y1:Q1) =>
  cond (y1.1.2.1 != 0)
   (some ((([]:List aZ),y1.1.2),()))
   (J vC (aM Tryz.prog 48 0) ((x.1.2.1,((lI x.1.2.1),((0:Int),()))),(((x.1.1,()),()),(([]:List aZ),())))):=by kernel_rfl
theorem LR(F:FT)(J:JT yE)(x:(((List aZ)×aaf)×((acg×Unit)×acb))):eR 48 0 yE Tryz.f48 vC F J x =
  cond (decide (x.1.2.2.1<x.1.2.1))
   (((aY x.1.1 x.1.2.2.1)).bind fun(y2:aZ) =>
   (F 44 Bv ((x.2.1.1.1,(y2,())),())).bind fun(y3:Q3) =>
   cond (aO (List.length y3.1.1) (List.length x.2.2.1))
    ((F 73 Kc ((x.2.1.1.1,(y2,())),())).bind fun(y4:Q1) =>
    cond (y4.1.2.1 != 0)
     (some ((([]:List aZ),y4.1.2),()))
     (J vC (aM Tryz.prog 48 0) ((x.1.1,(x.1.2.1,((wI (x.1.2.2.1+1)),()))),(((y4.1.1,()),()),((y3.1.1++x.2.2.1),())))))
    (none))
   (some ((x.2.2.1,((0:Int),())),())):=by kernel_rfl
theorem abf(F:FT)(J:JT yF)(x:(((List aZ)×acb)×Unit)):bU 50 yF Tryz.f50 F J x =
  cond ((lI x.1.1) != (lI x.1.2.1))
   (some ((false,()),()))
   (J vD (aM Tryz.prog 50 0) ((x.1.1,(x.1.2.1,((0:Int),()))),((),()))):=by kernel_rfl
theorem LS(F:FT)(J:JT yF)(x:(((List aZ)×((List aZ)×aaa))×ab9)):eR 50 0 yF Tryz.f50 vD F J x =
  cond (decide (x.1.2.2.1<(lI x.1.1)))
   (((aY x.1.1 x.1.2.2.1)).bind fun(y1:aZ) =>
   ((aY x.1.2.1 x.1.2.2.1)).bind fun(y2:aZ) =>
   cond (not ((y1.1==y2.1)&&(((y1.2.1.1==y2.2.1.1)&&(y1.2.1.2==y2.2.1.2))&&(((y1.2.2.1.1==y2.2.2.1.1)&&(y1.2.2.1.2==y2.2.2.1.2))&&(((y1.2.2.2.1.1==y2.2.2.2.1.1)&&(y1.2.2.2.1.2==y2.2.2.2.1.2))&&((((y1.2.2.2.2.1.1.1==y2.2.2.2.2.1.1.1)&&(y1.2.2.2.2.1.1.2==y2.2.2.2.2.1.1.2))&&(((y1.2.2.2.2.1.2.1.1==y2.2.2.2.2.1.2.1.1)&&(y1.2.2.2.2.1.2.1.2==y2.2.2.2.2.1.2.1.2))&&(y1.2.2.2.2.1.2.2==y2.2.2.2.2.1.2.2)))&&((((y1.2.2.2.2.2.1.1.1==y2.2.2.2.2.2.1.1.1)&&(y1.2.2.2.2.2.1.1.2==y2.2.2.2.2.2.1.1.2))&&(((y1.2.2.2.2.2.1.2.1.1==y2.2.2.2.2.2.1.2.1.1)&&(y1.2.2.2.2.2.1.2.1.2==y2.2.2.2.2.2.1.2.1.2))&&(y1.2.2.2.2.2.1.2.2==y2.2.2.2.2.2.1.2.2)))&&((y1.2.2.2.2.2.2.1==y2.2.2.2.2.2.2.1)&&((y1.2.2.2.2.2.2.2.1==y2.2.2.2.2.2.2.2.1)&&(y1.2.2.2.2.2.2.2.2==y2.2.2.2.2.2.2.2.2))))))))))
    (some ((false,()),()))
    (J vD (aM Tryz.prog 50 0) ((x.1.1,(x.1.2.1,((wI (x.1.2.2.1+1)),()))),((),()))))
   (some ((true,()),())):=by kernel_rfl
theorem abg(F:FT)(J:JT ti)(x:((ID×(Bool×(ByteArray×aaa)))×Unit)):bU 75 ti Tryz.f75 F J x =
  cond (not (x.1.2.2.1==OB))
   (cond (aO 0 (List.length (((7:Int),(x.1.1,(OI,(OI,(OC,(OC,(x.1.2.1,(x.1.2.2.1,(0:Int)))))))))::([]:List aZ))))
    (cond (x.1.2.2.2.1 != 0)
     (cond (aO (List.length (((7:Int),(x.1.1,(OI,(OI,(OC,(OC,(x.1.2.1,(x.1.2.2.1,(0:Int)))))))))::([]:List aZ))) (List.length (((8:Int),(x.1.1,(OI,(OI,(OC,(OC,(x.1.2.1,(OB,x.1.2.2.2.1))))))))::([]:List aZ))))
      (some ((((((7:Int),(x.1.1,(OI,(OI,(OC,(OC,(x.1.2.1,(x.1.2.2.1,(0:Int)))))))))::([]:List aZ))++(((8:Int),(x.1.1,(OI,(OI,(OC,(OC,(x.1.2.1,(OB,x.1.2.2.2.1))))))))::([]:List aZ))),()),()))
      (none))
     (some (((((7:Int),(x.1.1,(OI,(OI,(OC,(OC,(x.1.2.1,(x.1.2.2.1,(0:Int)))))))))::([]:List aZ)),()),())))
    (none))
   (cond (x.1.2.2.2.1 != 0)
    (cond (aO 0 (List.length (((8:Int),(x.1.1,(OI,(OI,(OC,(OC,(x.1.2.1,(OB,x.1.2.2.2.1))))))))::([]:List aZ))))
     (some (((((8:Int),(x.1.1,(OI,(OI,(OC,(OC,(x.1.2.1,(OB,x.1.2.2.2.1))))))))::([]:List aZ)),()),()))
     (none))
    (some ((([]:List aZ),()),()))):=by kernel_rfl
theorem abh(F:FT)(J:JT HQ)(x:((aj×acx)×Unit)):bU 76 HQ Tryz.f76 F J x =
  (F 111 Bw ((x.1.1,(x.1.2.1.2.1,())),())).bind fun(y1:Ur) =>
  (F 112 D6 ((x.1.1,((x.1.2.1.2.1,(0:Int)),((x.1.2.1.2.1,(1:Int)),()))),())).bind fun(y2:Q27) =>
  (F 112 D6 ((x.1.1,((x.1.2.1.2.1,(1:Int)),(OD,()))),())).bind fun(y3:Q27) =>
  (F 75 ti ((x.1.2.1.2.1,(true,(y1.1.1.2.1,(y1.1.1.2.2,())))),())).bind fun(y4:Q3) =>
  cond (aO (List.length (((3:Int),(x.1.2.1.2.1,(OI,(OI,(y2.1.1,(y3.1.1,(false,(OB,(0:Int)))))))))::([]:List aZ))) (List.length y4.1.1))
   (some ((((((3:Int),(x.1.2.1.2.1,(OI,(OI,(y2.1.1,(y3.1.1,(false,(OB,(0:Int)))))))))::([]:List aZ))++y4.1.1),()),()))
   (none):=by kernel_rfl
theorem abi(F:FT)(J:JT oy)(x:((aj×acx)×Unit)):bU 77 oy Tryz.f77 F J x =
 (F 74 tg ((x.1.1,(x.1.2.1.2.1,())),())).bind fun(y1:Q7) =>
 (F 111 Bw ((x.1.1,(x.1.2.1.2.2.2.1,())),())).bind fun(y2:Ur) =>
 J jy (aM Tryz.prog 77 0) ((y1.1.1.2.1,((lI y1.1.1.2.1),((0:Int),()))),(((x.1.2.1,()),((y1.1.1,()),((y2.1.1,()),((((5:Int),(OI,(x.1.2.1.2.1,(x.1.2.1.2.2.2.1,(OC,(OC,(false,(OB,(0:Int))))))))),()),())))),())):=by kernel_rfl
theorem Fw(F:FT)(J:JT oy)(x:(acp×((acx×((ah×Unit)×((ai×Unit)×(acx×Unit))))×Unit))):eR 77 0 oy Tryz.f77 jy F J x =
  cond (decide (x.1.2.2.1<x.1.2.1))
   (((aY x.1.1 x.1.2.2.1)).bind fun(y3:ae) =>
   cond ((y3.1.1==x.2.1.1.1.2.2.2.1.1)&&(y3.1.2==x.2.1.1.1.2.2.2.1.2))
    (cond (decide ((1:Int)<0))
     (none)
     (J jy (aM Tryz.prog 77 0) ((x.1.1,(x.1.2.1,((wI (x.1.2.2.1+1)),()))),(((x.2.1.1.1,()),((x.2.1.2.1.1,()),((x.2.1.2.2.1.1,()),(((x.2.1.2.2.2.1.1.1,(x.2.1.2.2.2.1.1.2.1,(x.2.1.2.2.2.1.1.2.2.1,(x.2.1.2.2.2.1.1.2.2.2.1,(x.2.1.2.2.2.1.1.2.2.2.2.1,(x.2.1.2.2.2.1.1.2.2.2.2.2.1,(x.2.1.2.2.2.1.1.2.2.2.2.2.2.1,(x.2.1.2.2.2.1.1.2.2.2.2.2.2.2.1,(cU .or .i64 x.2.1.2.2.2.1.1.2.2.2.2.2.2.2.2 (Gq .i64 y3.2 (1:Int))))))))))),()),())))),()))))
    (J jy (aM Tryz.prog 77 0) ((x.1.1,(x.1.2.1,((wI (x.1.2.2.1+1)),()))),(((x.2.1.1.1,()),((x.2.1.2.1.1,()),((x.2.1.2.2.1.1,()),(((x.2.1.2.2.2.1.1.1,(y3.1,(x.2.1.2.2.2.1.1.2.2.1,(x.2.1.2.2.2.1.1.2.2.2.1,(x.2.1.2.2.2.1.1.2.2.2.2.1,(x.2.1.2.2.2.1.1.2.2.2.2.2.1,(x.2.1.2.2.2.1.1.2.2.2.2.2.2.1,(x.2.1.2.2.2.1.1.2.2.2.2.2.2.2.1,(cU .or .i64 x.2.1.2.2.2.1.1.2.2.2.2.2.2.2.2 (wI ((1:Int)-y3.2))))))))))),()),())))),()))))
   ((F 75 ti ((x.2.1.1.1.2.1,(false,(x.2.1.2.1.1.2.2.1,(x.2.1.2.1.1.2.2.2,())))),())).bind fun(y4:Q3) =>
   (F 75 ti ((x.2.1.1.1.2.2.2.1,(true,(x.2.1.2.2.1.1.2.1,(x.2.1.2.2.1.1.2.2,())))),())).bind fun(y5:Q3) =>
   (F 113 mV ((((x.2.1.2.2.2.1.1::([]:List aZ))::(y4.1.1::(y5.1.1::([]:List (List aZ))))),()),())).bind fun(y6:Q3) =>
   some (y6.1,())):=by kernel_rfl
theorem abj(F:FT)(J:JT HR)(x:((aj×acx)×Unit)):bU 78 HR Tryz.f78 F J x =
  (F 74 tg ((x.1.1,(x.1.2.1.2.1,())),())).bind fun(y1:Q7) =>
  cond x.1.2.1.2.2.2.2.2.2.1
   ((F 111 Bw ((x.1.1,(x.1.2.1.2.1,())),())).bind fun(y2:Ur) =>
   cond (x.1.2.1.1==7)
    (some ((((x.1.2.1.1,(x.1.2.1.2.1,(x.1.2.1.2.2.1,(x.1.2.1.2.2.2.1,(x.1.2.1.2.2.2.2.1,(x.1.2.1.2.2.2.2.2.1,(x.1.2.1.2.2.2.2.2.2.1,(y2.1.1.2.1,x.1.2.1.2.2.2.2.2.2.2.2))))))))::([]:List aZ)),()),()))
    (some ((((x.1.2.1.1,(x.1.2.1.2.1,(x.1.2.1.2.2.1,(x.1.2.1.2.2.2.1,(x.1.2.1.2.2.2.2.1,(x.1.2.1.2.2.2.2.2.1,(x.1.2.1.2.2.2.2.2.2.1,(x.1.2.1.2.2.2.2.2.2.2.1,y2.1.1.2.2))))))))::([]:List aZ)),()),())))
   (cond (x.1.2.1.1==7)
    (some ((((x.1.2.1.1,(x.1.2.1.2.1,(x.1.2.1.2.2.1,(x.1.2.1.2.2.2.1,(x.1.2.1.2.2.2.2.1,(x.1.2.1.2.2.2.2.2.1,(x.1.2.1.2.2.2.2.2.2.1,(y1.1.1.2.2.1,x.1.2.1.2.2.2.2.2.2.2.2))))))))::([]:List aZ)),()),()))
    (some ((((x.1.2.1.1,(x.1.2.1.2.1,(x.1.2.1.2.2.1,(x.1.2.1.2.2.2.1,(x.1.2.1.2.2.2.2.1,(x.1.2.1.2.2.2.2.2.1,(x.1.2.1.2.2.2.2.2.2.1,(x.1.2.1.2.2.2.2.2.2.2.1,y1.1.1.2.2.2))))))))::([]:List aZ)),()),()))):=by kernel_rfl
theorem abk(F:FT)(J:JT Bw)(x:Q30):bU 111 Bw Tryz.f111 F J x =
 (F 139137 ky ((x.1.1.2,(x.1.2.1,())),())).bind fun(y1:Ur) =>
 some (y1.1,()):=by kernel_rfl
theorem abl(F:FT)(J:JT D6)(x:((aj×(ae×aae))×Unit)):bU 112 D6 Tryz.f112 F J x =
  (F 139 th ((x.1.1,(x.1.2.1,())),())).bind fun(y1:Qr) =>
  (F 74 tg ((x.1.1,(y1.1.1,())),())).bind fun(y2:Q7) =>
  (F 141 Bn ((y2.1.1.2.1,(x.1.2.2.1,())),())).bind fun(y3:Q6) =>
  (F 140 Bp ((y3.1.1,(x.1.2.1,())),())).bind fun(y4:Kg) =>
  cond (not (((y4.1.1.1.1==x.1.2.1.1.1)&&(y4.1.1.1.2==x.1.2.1.1.2))&&(y4.1.1.2==x.1.2.1.2)))
   (some (((y1.1.1,y4.1.1),()),()))
   (some (((y1.1.1,OD),()),())):=by kernel_rfl
theorem abm(F:FT)(J:JT mV)(x:Q17):bU 113 mV Tryz.f113 F J x =
 J sq (aM Tryz.prog 113 0) ((x.1.1,((0:Int),(x.1.1,((lI x.1.1),((0:Int),()))))),((),())):=by kernel_rfl
theorem LU(F:FT)(J:JT mV)(x:(((List (List aZ))×(Int×((List (List aZ))×aaf)))×ab9)):eR 113 0 mV Tryz.f113 sq F J x =
  cond (decide (x.1.2.2.2.2.1<x.1.2.2.2.1))
   (((aY x.1.2.2.1 x.1.2.2.2.2.1)).bind fun(y1:Q8) =>
   cond (decide ((wI (x.1.2.1+(lI y1)))<0))
    (none)
    (J sq (aM Tryz.prog 113 0) ((x.1.1,((wI (x.1.2.1+(lI y1))),(x.1.2.2.1,(x.1.2.2.2.1,((wI (x.1.2.2.2.2.1+1)),()))))),((),()))))
   (cond (qG x.1.2.1)
    (J pR (aM Tryz.prog 113 1) ((x.1.1,((lI x.1.1),((0:Int),()))),((),(([]:List aZ),()))))
    (none)):=by kernel_rfl
theorem LV(F:FT)(J:JT mV)(x:(((List (List aZ))×aaf)×(Unit×acb))):eR 113 1 mV Tryz.f113 pR F J x =
  cond (decide (x.1.2.2.1<x.1.2.1))
   (((aY x.1.1 x.1.2.2.1)).bind fun(y2:Q8) =>
   cond (aO (List.length x.2.2.1) (List.length y2))
    (J pR (aM Tryz.prog 113 1) ((x.1.1,(x.1.2.1,((wI (x.1.2.2.1+1)),()))),((),((x.2.2.1++y2),()))))
    (none))
   (some (x.2.2,())):=by kernel_rfl
theorem abn(F:FT)(J:JT HS)(x:((ai×Unit)×Unit)):bU 138 HS Tryz.f138 F J x =
 some ((x.1.1.1,()),()):=by kernel_rfl
theorem Rq(F:FT)(J:JT ky)(x:(((List ai)×abr)×Unit)):bU 139137 ky Tryz.f137 F J x =
 J mf (aM Tryz.prog 137 0) ((x.1.1,((lI x.1.1),((0:Int),()))),(((x.1.2.1,()),(((OI,(OB,(0:Int))),()),())),())):=by kernel_rfl
theorem BY(F:FT)(J:JT ky)(x:(((List ai)×aaf)×((abr×((ai×Unit)×Unit))×Unit))):eR 139137 0 ky Tryz.f137 mf F J x =
  cond (decide (x.1.2.2.1<x.1.2.1))
   (((aY x.1.1 x.1.2.2.1)).bind fun(y1:ai) =>
   (F 138 HS ((y1,()),())).bind fun(y2:((ID×Unit)×Unit)) =>
   cond ((y2.1.1.1==x.2.1.1.1.1)&&(y2.1.1.2==x.2.1.1.1.2))
    (some ((y1,(true,())),()))
    (J mf (aM Tryz.prog 137 0) ((x.1.1,(x.1.2.1,((wI (x.1.2.2.1+1)),()))),(((x.2.1.1.1,()),((x.2.1.2.1.1,()),())),()))))
   (some (((OI,(OB,(0:Int))),(false,())),())):=by kernel_rfl
end Go.Vs
