/- Normal forms of the program's functions, the fourth part. -/
import Derived.Test.YtpkfpbpbkabkdaaGreatEngineD
import Derived.KernelRfl
set_option linter.unusedVariables false
set_option maxRecDepth 1000000
set_option maxHeartbeats 0
namespace Go.Vs
open Go.Proofs
theorem aaP(F:FT)(J:JT vm)(x:Ub):bX 8 vm Tryz.f8 F J x =
  (F 42 HC ((),())).bind fun(y1:Q0) =>
  (F 43 ma ((x.1.1,()),())).bind fun(y2:Q0) =>
  cond (not y2.1.1)
   (some (y1.1,()))
   ((F 44 DY ((x.1.1,(x.1.2.1,())),())).bind fun(y3:Q3) =>
   (F 45 PX ((x.1.1,(x.1.2.1,())),())).bind fun(y4:Q1) =>
   J vB (aN Tryz.prog 8 0) ((y1.1.1,(y4.1.2.1,((0:Int),()))),((),y3.1))):=by kernel_rfl
theorem Lu(F:FT)(J:JT vm)(x:((Bool×aa8)×(Unit×((List bj)×Unit)))):fw 8 0 vm Tryz.f8 vB F J x =
  cond (decide (x.1.2.2.1<(lI x.2.2.1)))
   (cond ((decide ((0:Int)≤x.1.2.2.1))&&(decide (x.1.2.2.1<(lI x.2.2.1))))
    (((x.2.2.1)[(Int.toNat x.1.2.2.1)]?).bind fun(y5:bj) =>
    (F 46 M8 ((y5,()),())).bind fun(y6:Q2) =>
    cond (y6.1.1 != 0)
     (some ((false,()),()))
     (J vB (aN Tryz.prog 8 0) ((x.1.1,(x.1.2.1,((wI (x.1.2.2.1+1)),()))),((),x.2.2))))
    (none))
   (cond x.1.1
    (some ((((x.1.2.1==0)==(decide ((lI x.2.2.1)>0))),()),()))
    (some ((false,()),()))):=by kernel_rfl
theorem aaQ(F:FT)(J:JT HC)(x:abZ):bX 42 HC Tryz.f42 F J x =
  (F 44 DY ((OS,(((1:Int),(((1:Int),(1:Int)),(OI,(OI,(OC,(OC,(false,(OB,(0:Int))))))))),())),())).bind fun(y1:Q3) =>
  cond ((lI y1.1.1)==1)
   (cond ((decide ((0:Int)≤0))&&(decide ((0:Int)<(lI y1.1.1))))
    (((y1.1.1)[(Int.toNat (0:Int))]?).bind fun(y2:bj) =>
    some ((((y2.1==2)&&(((y2.2.1.1==1)&&(y2.2.1.2==1))&&(((y2.2.2.1.1==0)&&(y2.2.2.1.2==0))&&(((y2.2.2.2.1.1==0)&&(y2.2.2.2.1.2==0))&&((((y2.2.2.2.2.1.1.1==0)&&(y2.2.2.2.2.1.1.2==0))&&(((y2.2.2.2.2.1.2.1.1==0)&&(y2.2.2.2.2.1.2.1.2==0))&&(y2.2.2.2.2.1.2.2==0)))&&((((y2.2.2.2.2.2.1.1.1==0)&&(y2.2.2.2.2.2.1.1.2==0))&&(((y2.2.2.2.2.2.1.2.1.1==0)&&(y2.2.2.2.2.2.1.2.1.2==0))&&(y2.2.2.2.2.2.1.2.2==0)))&&((y2.2.2.2.2.2.2.1==false)&&((y2.2.2.2.2.2.2.2.1==OB)&&(y2.2.2.2.2.2.2.2.2==0))))))))),()),()))
    (none))
   (some ((false,()),())):=by kernel_rfl
theorem aaR(F:FT)(J:JT ma)(x:Q4):bX 43 ma Tryz.f43 F J x =
 J vC (aN Tryz.prog 43 0) (((1:Int),()),(((x.1.1,()),()),())):=by kernel_rfl
theorem Fi(F:FT)(J:JT ma)(x:(aa3×(((StateT×Unit)×Unit)×Unit))):fw 43 0 ma Tryz.f43 vC F J x =
  cond (decide (x.1.1<(lI x.2.1.1.1.2)))
   (((ba x.2.1.1.1.2 (wI (x.1.1-1)))).bind fun(y1:az) =>
   ((ba x.2.1.1.1.2 x.1.1)).bind fun(y2:az) =>
   (F 71 JX ((y1.1,(y2.1,())),())).bind fun(y3:Q2) =>
   cond (decide (y3.1.1≥0))
    (some ((false,()),()))
    (J vC (aN Tryz.prog 43 0) (((wI (x.1.1+1)),()),(((x.2.1.1.1,()),()),()))))
   (cond (decide ((lI x.2.1.1.1.2)≤400))
    ((F 72 E6 ((x.2.1.1.1.1,()),())).bind fun(y4:Q2) =>
    some (((y4.1.1==0),()),()))
    (some ((false,()),()))):=by kernel_rfl
end Go.Vs
set_option maxRecDepth 1000000
set_option maxHeartbeats 0
namespace Go.Vs
open Go.Proofs
theorem aaS(F:FT)(J:JT DY)(x:Ub):bX 44 DY Tryz.f44 F J x =
  (F 73 M5 ((x.1.1,(x.1.2.1,())),())).bind fun(y1:Q1) =>
  cond (y1.1.2.1 != 0)
   (some ((([]:List bj),()),()))
   (cond (x.1.2.1.1==1)
    (some (((((2:Int),(x.1.2.1.2.1,(OI,(OI,(OC,(OC,(false,(OB,(0:Int)))))))))::([]:List bj)),()),()))
    (cond (x.1.2.1.1==2)
     ((F 74 ti ((x.1.1.1,(x.1.2.1.2.1,())),())).bind fun(y2:Q7) =>
     (F 75 tk ((x.1.2.1.2.1,(false,(y2.1.1.2.2.1,(y2.1.1.2.2.2,())))),())).bind fun(y3:Q3) =>
     cond (aO (List.length (((1:Int),(x.1.2.1.2.1,(OI,(OI,(OC,(OC,(false,(OB,(0:Int)))))))))::([]:List bj))) (List.length y3.1.1))
      (some ((((((1:Int),(x.1.2.1.2.1,(OI,(OI,(OC,(OC,(false,(OB,(0:Int)))))))))::([]:List bj))++y3.1.1),()),()))
      (none))
     (cond (x.1.2.1.1==3)
      (some (((((4:Int),(x.1.2.1.2.1,(OI,(OI,(OC,(OC,(false,(OB,(0:Int)))))))))::([]:List bj)),()),()))
      (cond (x.1.2.1.1==4)
       ((F 76 HD ((x.1.1.1,(x.1.2.1,())),())).bind fun(y4:Q3) =>
       some (y4.1,()))
       (cond (x.1.2.1.1==5)
        (some (((((6:Int),(x.1.2.1.2.2.1,(OI,(x.1.2.1.2.2.2.1,(OC,(OC,(false,(OB,(0:Int)))))))))::([]:List bj)),()),()))
        (cond (x.1.2.1.1==6)
         ((F 77 oz ((x.1.1.1,(x.1.2.1,())),())).bind fun(y5:Q3) =>
         some (y5.1,()))
         ((F 78 HE ((x.1.1.1,(x.1.2.1,())),())).bind fun(y6:Q3) =>
         some (y6.1,())))))))):=by kernel_rfl
theorem aaT(F:FT)(J:JT tk)(x:((ID×(Bool×(ByteArray×aa3)))×Unit)):bX 75 tk Tryz.f75 F J x =
  cond (not (x.1.2.2.1==OB))
   (cond (aO 0 (List.length (((7:Int),(x.1.1,(OI,(OI,(OC,(OC,(x.1.2.1,(x.1.2.2.1,(0:Int)))))))))::([]:List bj))))
    (cond (x.1.2.2.2.1 != 0)
     (cond (aO (List.length (((7:Int),(x.1.1,(OI,(OI,(OC,(OC,(x.1.2.1,(x.1.2.2.1,(0:Int)))))))))::([]:List bj))) (List.length (((8:Int),(x.1.1,(OI,(OI,(OC,(OC,(x.1.2.1,(OB,x.1.2.2.2.1))))))))::([]:List bj))))
      (some ((((((7:Int),(x.1.1,(OI,(OI,(OC,(OC,(x.1.2.1,(x.1.2.2.1,(0:Int)))))))))::([]:List bj))++(((8:Int),(x.1.1,(OI,(OI,(OC,(OC,(x.1.2.1,(OB,x.1.2.2.2.1))))))))::([]:List bj))),()),()))
      (none))
     (some (((((7:Int),(x.1.1,(OI,(OI,(OC,(OC,(x.1.2.1,(x.1.2.2.1,(0:Int)))))))))::([]:List bj)),()),())))
    (none))
   (cond (x.1.2.2.2.1 != 0)
    (cond (aO 0 (List.length (((8:Int),(x.1.1,(OI,(OI,(OC,(OC,(x.1.2.1,(OB,x.1.2.2.2.1))))))))::([]:List bj))))
     (some (((((8:Int),(x.1.1,(OI,(OI,(OC,(OC,(x.1.2.1,(OB,x.1.2.2.2.1))))))))::([]:List bj)),()),()))
     (none))
    (some ((([]:List bj),()),()))):=by kernel_rfl
theorem aaU(F:FT)(J:JT HD)(x:((aj×acd)×Unit)):bX 76 HD Tryz.f76 F J x =
  (F 111 Bm ((x.1.1,(x.1.2.1.2.1,())),())).bind fun(y1:Ua) =>
  (F 112 DZ ((x.1.1,((x.1.2.1.2.1,(0:Int)),((x.1.2.1.2.1,(1:Int)),()))),())).bind fun(y2:Q27) =>
  (F 112 DZ ((x.1.1,((x.1.2.1.2.1,(1:Int)),(OD,()))),())).bind fun(y3:Q27) =>
  (F 75 tk ((x.1.2.1.2.1,(true,(y1.1.1.2.1,(y1.1.1.2.2,())))),())).bind fun(y4:Q3) =>
  cond (aO (List.length (((3:Int),(x.1.2.1.2.1,(OI,(OI,(y2.1.1,(y3.1.1,(false,(OB,(0:Int)))))))))::([]:List bj))) (List.length y4.1.1))
   (some ((((((3:Int),(x.1.2.1.2.1,(OI,(OI,(y2.1.1,(y3.1.1,(false,(OB,(0:Int)))))))))::([]:List bj))++y4.1.1),()),()))
   (none):=by kernel_rfl
theorem aaV(F:FT)(J:JT oz)(x:((aj×acd)×Unit)):bX 77 oz Tryz.f77 F J x =
 (F 74 ti ((x.1.1,(x.1.2.1.2.1,())),())).bind fun(y1:Q7) =>
 (F 111 Bm ((x.1.1,(x.1.2.1.2.2.2.1,())),())).bind fun(y2:Ua) =>
 J jy (aN Tryz.prog 77 0) ((y1.1.1.2.1,((lI y1.1.1.2.1),((0:Int),()))),(((x.1.2.1,()),((y1.1.1,()),((y2.1.1,()),((((5:Int),(OI,(x.1.2.1.2.1,(x.1.2.1.2.2.2.1,(OC,(OC,(false,(OB,(0:Int))))))))),()),())))),())):=by kernel_rfl
theorem Fj(F:FT)(J:JT oz)(x:(ab7×((acd×((ah×Unit)×((ai×Unit)×(acd×Unit))))×Unit))):fw 77 0 oz Tryz.f77 jy F J x =
  cond (decide (x.1.2.2.1<x.1.2.1))
   (((ba x.1.1 x.1.2.2.1)).bind fun(y3:ae) =>
   cond ((y3.1.1==x.2.1.1.1.2.2.2.1.1)&&(y3.1.2==x.2.1.1.1.2.2.2.1.2))
    (cond (decide ((1:Int)<0))
     (none)
     (J jy (aN Tryz.prog 77 0) ((x.1.1,(x.1.2.1,((wI (x.1.2.2.1+1)),()))),(((x.2.1.1.1,()),((x.2.1.2.1.1,()),((x.2.1.2.2.1.1,()),(((x.2.1.2.2.2.1.1.1,(x.2.1.2.2.2.1.1.2.1,(x.2.1.2.2.2.1.1.2.2.1,(x.2.1.2.2.2.1.1.2.2.2.1,(x.2.1.2.2.2.1.1.2.2.2.2.1,(x.2.1.2.2.2.1.1.2.2.2.2.2.1,(x.2.1.2.2.2.1.1.2.2.2.2.2.2.1,(x.2.1.2.2.2.1.1.2.2.2.2.2.2.2.1,(cT .or .i64 x.2.1.2.2.2.1.1.2.2.2.2.2.2.2.2 (Gh .i64 y3.2 (1:Int))))))))))),()),())))),()))))
    (J jy (aN Tryz.prog 77 0) ((x.1.1,(x.1.2.1,((wI (x.1.2.2.1+1)),()))),(((x.2.1.1.1,()),((x.2.1.2.1.1,()),((x.2.1.2.2.1.1,()),(((x.2.1.2.2.2.1.1.1,(y3.1,(x.2.1.2.2.2.1.1.2.2.1,(x.2.1.2.2.2.1.1.2.2.2.1,(x.2.1.2.2.2.1.1.2.2.2.2.1,(x.2.1.2.2.2.1.1.2.2.2.2.2.1,(x.2.1.2.2.2.1.1.2.2.2.2.2.2.1,(x.2.1.2.2.2.1.1.2.2.2.2.2.2.2.1,(cT .or .i64 x.2.1.2.2.2.1.1.2.2.2.2.2.2.2.2 (wI ((1:Int)-y3.2))))))))))),()),())))),()))))
   ((F 75 tk ((x.2.1.1.1.2.1,(false,(x.2.1.2.1.1.2.2.1,(x.2.1.2.1.1.2.2.2,())))),())).bind fun(y4:Q3) =>
   (F 75 tk ((x.2.1.1.1.2.2.2.1,(true,(x.2.1.2.2.1.1.2.1,(x.2.1.2.2.1.1.2.2,())))),())).bind fun(y5:Q3) =>
   (F 113 mW ((((x.2.1.2.2.2.1.1::([]:List bj))::(y4.1.1::(y5.1.1::([]:List (List bj))))),()),())).bind fun(y6:Q3) =>
   some (y6.1,())):=by kernel_rfl
theorem aaW(F:FT)(J:JT HE)(x:((aj×acd)×Unit)):bX 78 HE Tryz.f78 F J x =
  (F 74 ti ((x.1.1,(x.1.2.1.2.1,())),())).bind fun(y1:Q7) =>
  cond x.1.2.1.2.2.2.2.2.2.1
   ((F 111 Bm ((x.1.1,(x.1.2.1.2.1,())),())).bind fun(y2:Ua) =>
   cond (x.1.2.1.1==7)
    (some ((((x.1.2.1.1,(x.1.2.1.2.1,(x.1.2.1.2.2.1,(x.1.2.1.2.2.2.1,(x.1.2.1.2.2.2.2.1,(x.1.2.1.2.2.2.2.2.1,(x.1.2.1.2.2.2.2.2.2.1,(y2.1.1.2.1,x.1.2.1.2.2.2.2.2.2.2.2))))))))::([]:List bj)),()),()))
    (some ((((x.1.2.1.1,(x.1.2.1.2.1,(x.1.2.1.2.2.1,(x.1.2.1.2.2.2.1,(x.1.2.1.2.2.2.2.1,(x.1.2.1.2.2.2.2.2.1,(x.1.2.1.2.2.2.2.2.2.1,(x.1.2.1.2.2.2.2.2.2.2.1,y2.1.1.2.2))))))))::([]:List bj)),()),())))
   (cond (x.1.2.1.1==7)
    (some ((((x.1.2.1.1,(x.1.2.1.2.1,(x.1.2.1.2.2.1,(x.1.2.1.2.2.2.1,(x.1.2.1.2.2.2.2.1,(x.1.2.1.2.2.2.2.2.1,(x.1.2.1.2.2.2.2.2.2.1,(y1.1.1.2.2.1,x.1.2.1.2.2.2.2.2.2.2.2))))))))::([]:List bj)),()),()))
    (some ((((x.1.2.1.1,(x.1.2.1.2.1,(x.1.2.1.2.2.1,(x.1.2.1.2.2.2.1,(x.1.2.1.2.2.2.2.1,(x.1.2.1.2.2.2.2.2.1,(x.1.2.1.2.2.2.2.2.2.1,(x.1.2.1.2.2.2.2.2.2.2.1,y1.1.1.2.2.2))))))))::([]:List bj)),()),()))):=by kernel_rfl
theorem aaX(F:FT)(J:JT Bm)(x:ZL):bX 111 Bm Tryz.f111 F J x =
 (F 139137 kB ((x.1.1.2,(x.1.2.1,())),())).bind fun(y1:Ua) =>
 some (y1.1,()):=by kernel_rfl
theorem aaY(F:FT)(J:JT DZ)(x:((aj×(ae×aa7))×Unit)):bX 112 DZ Tryz.f112 F J x =
  (F 139 tj ((x.1.1,(x.1.2.1,())),())).bind fun(y1:P7) =>
  (F 74 ti ((x.1.1,(y1.1.1,())),())).bind fun(y2:Q7) =>
  (F 141 Bg ((y2.1.1.2.1,(x.1.2.2.1,())),())).bind fun(y3:Q6) =>
  (F 140 Bi ((y3.1.1,(x.1.2.1,())),())).bind fun(y4:JY) =>
  cond (not (((y4.1.1.1.1==x.1.2.1.1.1)&&(y4.1.1.1.2==x.1.2.1.1.2))&&(y4.1.1.2==x.1.2.1.2)))
   (some (((y1.1.1,y4.1.1),()),()))
   (some (((y1.1.1,OD),()),())):=by kernel_rfl
theorem aaZ(F:FT)(J:JT mW)(x:Q17):bX 113 mW Tryz.f113 F J x =
 J sr (aN Tryz.prog 113 0) ((x.1.1,((0:Int),(x.1.1,((lI x.1.1),((0:Int),()))))),((),())):=by kernel_rfl
theorem Lv(F:FT)(J:JT mW)(x:(((List (List bj))×(Int×((List (List bj))×aa8)))×abZ)):fw 113 0 mW Tryz.f113 sr F J x =
  cond (decide (x.1.2.2.2.2.1<x.1.2.2.2.1))
   (((ba x.1.2.2.1 x.1.2.2.2.2.1)).bind fun(y1:Q8) =>
   cond (decide ((wI (x.1.2.1+(lI y1)))<0))
    (none)
    (J sr (aN Tryz.prog 113 0) ((x.1.1,((wI (x.1.2.1+(lI y1))),(x.1.2.2.1,(x.1.2.2.2.1,((wI (x.1.2.2.2.2.1+1)),()))))),((),()))))
   (cond (qH x.1.2.1)
    (J pQ (aN Tryz.prog 113 1) ((x.1.1,((lI x.1.1),((0:Int),()))),((),(([]:List bj),()))))
    (none)):=by kernel_rfl
theorem Lw(F:FT)(J:JT mW)(x:(((List (List bj))×aa8)×(Unit×((List bj)×Unit)))):fw 113 1 mW Tryz.f113 pQ F J x =
  cond (decide (x.1.2.2.1<x.1.2.1))
   (((ba x.1.1 x.1.2.2.1)).bind fun(y2:Q8) =>
   cond (aO (List.length x.2.2.1) (List.length y2))
    (J pQ (aN Tryz.prog 113 1) ((x.1.1,(x.1.2.1,((wI (x.1.2.2.1+1)),()))),((),((x.2.2.1++y2),()))))
    (none))
   (some (x.2.2,())):=by kernel_rfl
theorem aa0(F:FT)(J:JT HF)(x:((ai×Unit)×Unit)):bX 138 HF Tryz.f138 F J x =
 some ((x.1.1.1,()),()):=by kernel_rfl
theorem QU(F:FT)(J:JT kB)(x:(((List ai)×abM)×Unit)):bX 139137 kB Tryz.f137 F J x =
 J mh (aN Tryz.prog 137 0) ((x.1.1,((lI x.1.1),((0:Int),()))),(((x.1.2.1,()),(((OI,(OB,(0:Int))),()),())),())):=by kernel_rfl
theorem BM(F:FT)(J:JT kB)(x:(((List ai)×aa8)×((abM×((ai×Unit)×Unit))×Unit))):fw 139137 0 kB Tryz.f137 mh F J x =
  cond (decide (x.1.2.2.1<x.1.2.1))
   (((ba x.1.1 x.1.2.2.1)).bind fun(y1:ai) =>
   (F 138 HF ((y1,()),())).bind fun(y2:((ID×Unit)×Unit)) =>
   cond ((y2.1.1.1==x.2.1.1.1.1)&&(y2.1.1.2==x.2.1.1.1.2))
    (some ((y1,(true,())),()))
    (J mh (aN Tryz.prog 137 0) ((x.1.1,(x.1.2.1,((wI (x.1.2.2.1+1)),()))),(((x.2.1.1.1,()),((x.2.1.2.1.1,()),())),()))))
   (some (((OI,(OB,(0:Int))),(false,())),())):=by kernel_rfl
end Go.Vs
