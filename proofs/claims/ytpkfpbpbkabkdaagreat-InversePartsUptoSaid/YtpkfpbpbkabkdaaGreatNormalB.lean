/- Normal forms of the program's functions, the second part. -/
import Derived.Test.YtpkfpbpbkabkdaaGreatEngineD
import Derived.KernelRfl
set_option linter.unusedVariables false
set_option maxRecDepth 1000000
set_option maxHeartbeats 0
namespace Go.Vs
open Go.Proofs
theorem afc(F:FT)(J:JT Ns)(x:Wb):bU 45 Ns Tryz.f45 F J x =
  (F 46 Nu ((x.1.2.1,()),())).bind fun(y1:Q2) =>
  cond (y1.1.1 != 0)
   (some ((OS,y1.1),()))
   ((F 79 qq ((x.1.1.1,(x.1.2.1.2.1,())),())).bind fun(y2:Q7) =>
   cond (x.1.2.1.1==1)
    (cond y2.1.2.1
     (some ((OS,((12:Int),())),()))
     (cond (decide ((lI x.1.1.1.1)≥24))
      (some ((OS,((3:Int),())),()))
      ((F 80 Fi ((x.1.1.1,((x.1.2.1.2.1,(([]:List ae),(OB,(0:Int)))),())),())).bind fun(y3:Q5) =>
      some (((y3.1.1,x.1.1.2),((0:Int),())),()))))
    (cond (x.1.2.1.1==2)
     (cond (not y2.1.2.1)
      (some ((OS,((13:Int),())),()))
      (cond (decide ((lI y2.1.1.2.1)>0))
       (some ((OS,((14:Int),())),()))
       ((F 81 pK ((x.1.1.1,(x.1.2.1.2.1,(OI,()))),())).bind fun(y4:Q5) =>
       some (((y4.1.1,x.1.1.2),((0:Int),())),()))))
     (cond (x.1.2.1.1==3)
      ((F 82 Qi ((x.1.1,(x.1.2.1,())),())).bind fun(y5:Q1) =>
      some (y5.1,()))
      (cond (x.1.2.1.1==4)
       ((F 83 Qj ((x.1.1,(x.1.2.1,())),())).bind fun(y6:Q1) =>
       some (y6.1,()))
       (cond (x.1.2.1.1==5)
        ((F 84 Qk ((x.1.1,(x.1.2.1,())),())).bind fun(y7:Q1) =>
        some (y7.1,()))
        (cond (x.1.2.1.1==6)
         ((F 85 yZ ((x.1.1,(x.1.2.1,())),())).bind fun(y8:Q1) =>
         some (y8.1,()))
         ((F 86 Bf ((x.1.1,(x.1.2.1,())),())).bind fun(y9:Q1) =>
         some (y9.1,())))))))):=by kernel_rfl
theorem afd(F:FT)(J:JT qq)(x:Q30):bU 79 qq Tryz.f79 F J x =
 J Bx (aM Tryz.prog 79 0) (((0:Int),()),(((x.1.1,()),((x.1.2.1,()),(((0:Int),((0:Int),(([]:List ae),(OB,((0:Int),()))))),()))),())):=by kernel_rfl
theorem Qt(F:FT)(J:JT qq)(x:(aaa×((acd×acE)×Unit))):eR 79 0 qq Tryz.f79 Bx F J x =
  cond (decide (x.1.1<(lI x.2.1.1.1.1)))
   (((aY x.2.1.1.1.1 x.1.1)).bind fun(y1:ah) =>
   cond ((y1.1.1==x.2.1.2.1.1.1)&&(y1.1.2==x.2.1.2.1.1.2))
    (((aY x.2.1.1.1.1 x.1.1)).bind fun(y2:ah) =>
    some ((y2,(true,())),()))
    (J Bx (aM Tryz.prog 79 0) (((wI (x.1.1+1)),()),(((x.2.1.1.1,()),((x.2.1.2.1.1,()),(x.2.1.2.2.1,()))),()))))
   (some (((OI,(([]:List ae),(OB,(0:Int)))),(false,())),())):=by kernel_rfl
theorem afe(F:FT)(J:JT yX)(x:acC):bU 87 yX Tryz.f87 F J x =
  cond (decide (x.1.1.1≥1))
   (cond (decide (x.1.1.1≤8))
    (cond (decide (x.1.1.2≥1))
     (some (((decide (x.1.1.2≤1048576)),()),()))
     (some ((false,()),())))
    (some ((false,()),())))
   (some ((false,()),())):=by kernel_rfl
theorem aff(F:FT)(J:JT tX)(x:TH):bU 124 tX Tryz.f124 F J x =
 J By (aM Tryz.prog 124 0) (((0:Int),()),(((x.1.1,()),((x.1.2.1,()),((OI,()),()))),())):=by kernel_rfl
theorem Qu(F:FT)(J:JT tX)(x:(aaa×((acd×(aae×acC))×Unit))):eR 124 0 tX Tryz.f124 By F J x =
  cond (decide (x.1.1<(lI x.2.1.1.1.1)))
   (((aY x.2.1.1.1.1 x.1.1)).bind fun(y1:ah) =>
   (F 144 q8 ((y1.2.1,(x.2.1.2.1.1,())),())).bind fun(y2:Q2) =>
   cond (decide (y2.1.1≥0))
    (((aY x.2.1.1.1.1 x.1.1)).bind fun(y3:ah) =>
    some ((y3.1,(true,())),()))
    (J By (aM Tryz.prog 124 0) (((wI (x.1.1+1)),()),(((x.2.1.1.1,()),((x.2.1.2.1.1,()),((x.2.1.2.2.1.1,()),()))),()))))
   (some ((OI,(false,())),())):=by kernel_rfl
theorem afg(F:FT)(J:JT wQ)(x:Q30):bU 92 wQ Tryz.f92 F J x =
 J Bz (aM Tryz.prog 92 0) (((0:Int),()),(((x.1.1,()),((x.1.2.1,()),(((OI,(OB,(0:Int))),()),()))),())):=by kernel_rfl
theorem Qv(F:FT)(J:JT wQ)(x:(aaa×((acd×(abr×((ai×Unit)×Unit)))×Unit))):eR 92 0 wQ Tryz.f92 Bz F J x =
  cond (decide (x.1.1<(lI x.2.1.1.1.2)))
   (((aY x.2.1.1.1.2 x.1.1)).bind fun(y1:ai) =>
   cond ((y1.1.1==x.2.1.2.1.1.1)&&(y1.1.2==x.2.1.2.1.1.2))
    (((aY x.2.1.1.1.2 x.1.1)).bind fun(y2:ai) =>
    some ((y2,(true,())),()))
    (J Bz (aM Tryz.prog 92 0) (((wI (x.1.1+1)),()),(((x.2.1.1.1,()),((x.2.1.2.1.1,()),((x.2.1.2.2.1.1,()),()))),()))))
   (some (((OI,(OB,(0:Int))),(false,())),())):=by kernel_rfl
theorem afh(F:FT)(J:JT Hj)(x:TH):bU 192 Hj Tryz.f192 F J x =
  (F 216 Nv ((x.1.1,(x.1.2.1,())),())).bind fun(y1:Kg) =>
  cond (not y1.1.2.1)
   (some ((([]:List ae),()),()))
   (cond (aO (List.length ([]:List ae)) (List.length (x.1.2.1::([]:List ae))))
    (J BA (aM Tryz.prog 192 0) ((),(((x.1.1,()),((x.1.2.1,()),((y1.1.1,()),()))),((([]:List ae)++(x.1.2.1::([]:List ae))),()))))
    (none)):=by kernel_rfl
theorem Qw(F:FT)(J:JT Hj)(x:(Unit×((acd×(aae×abw))×abv))):eR 192 0 Hj Tryz.f192 BA F J x =
  cond (not (((x.2.1.2.2.1.1.1.1==x.2.1.2.1.1.1.1)&&(x.2.1.2.2.1.1.1.2==x.2.1.2.1.1.1.2))&&(x.2.1.2.2.1.1.2==x.2.1.2.1.1.2)))
   (cond (decide ((lI x.2.2.1)<82))
    (cond (aO (List.length x.2.2.1) (List.length (x.2.1.2.2.1.1::([]:List ae))))
     ((F 216 Nv ((x.2.1.1.1,(x.2.1.2.2.1.1,())),())).bind fun(y2:Kg) =>
     J BA (aM Tryz.prog 192 0) ((),(((x.2.1.1.1,()),((x.2.1.2.1.1,()),((y2.1.1,()),()))),((x.2.2.1++(x.2.1.2.2.1.1::([]:List ae))),()))))
     (none))
    (some (x.2.2,())))
   (some (x.2.2,())):=by kernel_rfl
theorem afi(F:FT)(J:JT Db)(x:Fp):bU 121 Db Tryz.f121 F J x =
 some (((x.1.1.1,(wI ((1:Int)-x.1.1.2))),()),()):=by kernel_rfl
theorem afj(F:FT)(J:JT q8)(x:Us):bU 144 q8 Tryz.f144 F J x =
 J BB (aM Tryz.prog 144 0) ((x.1.1,((0:Int),())),(((x.1.2.1,()),()),())):=by kernel_rfl
theorem Qx(F:FT)(J:JT q8)(x:(aco×(abw×Unit))):eR 144 0 q8 Tryz.f144 BB F J x =
  cond (decide (x.1.2.1<(lI x.1.1)))
   (((aY x.1.1 x.1.2.1)).bind fun(y1:ae) =>
   cond (((y1.1.1==x.2.1.1.1.1.1)&&(y1.1.2==x.2.1.1.1.1.2))&&(y1.2==x.2.1.1.1.2))
    (some (x.1.2,()))
    (J BB (aM Tryz.prog 144 0) ((x.1.1,((wI (x.1.2.1+1)),())),(((x.2.1.1.1,()),()),()))))
   (some (((-1:Int),()),())):=by kernel_rfl
theorem afk(F:FT)(J:JT Nt)(x:Us):bU 148 Nt Tryz.f148 F J x =
  (F 144 q8 ((x.1.1,(x.1.2.1,())),())).bind fun(y1:Q2) =>
  cond (decide (y1.1.1<0))
   (some ((OD,(false,())),()))
   (cond ((lI x.1.1)==0)
    (none)
    (((aY x.1.1 (Int.tmod (wI ((wI (y1.1.1+(lI x.1.1)))-1)) (lI x.1.1)))).bind fun(y2:ae) =>
    some ((y2,(true,())),()))):=by kernel_rfl
theorem afl(F:FT)(J:JT wR)(x:((ByteArray×Unit)×Unit)):bU 91 wR Tryz.f91 F J x =
 J BC (aM Tryz.prog 91 0) ((x.1.1,((0:Int),())),((),())):=by kernel_rfl
theorem Qy(F:FT)(J:JT wR)(x:((ByteArray×aaa)×ab9)):eR 91 0 wR Tryz.f91 BC F J x =
  cond (decide (x.1.2.1<(((ByteArray.size x.1.1):Nat):Int)))
   (((if 0≤x.1.2.1 then(x.1.1)[Int.toNat x.1.2.1]? else none)).bind fun(y1:UInt8) =>
   cond (decide (((UInt8.toNat y1:Nat):Int)<32))
    (some ((false,()),()))
    (((if 0≤x.1.2.1 then(x.1.1)[Int.toNat x.1.2.1]? else none)).bind fun(y2:UInt8) =>
    cond (decide (((UInt8.toNat y2:Nat):Int)>126))
     (some ((false,()),()))
     (J BC (aM Tryz.prog 91 0) ((x.1.1,((wI (x.1.2.1+1)),())),((),())))))
   (some (((decide ((((ByteArray.size x.1.1):Nat):Int)≤16)),()),())):=by kernel_rfl
theorem afm(F:FT)(J:JT yY)(x:Q2):bU 90 yY Tryz.f90 F J x =
  cond (decide (x.1.1≥(-1099511627776:Int)))
   (some (((decide (x.1.1≤1099511627776)),()),()))
   (some ((false,()),())):=by kernel_rfl
theorem afn(F:FT)(J:JT Qh)(x:Q16):bU 63 Qh Tryz.f63 F J x =
  (F 66 Hr (x.1.2,())).bind fun(y1:Q2) =>
  cond (y1.1.1 != 0)
   (some ((OS,y1.1),()))
   ((F 103 Dd (x.1,())).bind fun(y2:Q1) =>
   some (y2.1,())):=by kernel_rfl
theorem afo(F:FT)(J:JT Hk)(x:Q5):bU 164 Hk Tryz.f164 F J x =
 (F 191 Fj ((x.1.1,()),())).bind fun(y1:Q6) =>
 J wT (aM Tryz.prog 164 0) (((0:Int),()),(((x.1.1,()),()),(([]:List (List ae)),(([]:List ae),y1.1)))):=by kernel_rfl
theorem Qz(F:FT)(J:JT Hk)(x:(aaa×(abq×((List (List ae))×((List ae)×abv))))):eR 164 0 Hk Tryz.f164 wT F J x =
  cond (decide (x.1.1<(lI x.2.2.2.2.1)))
   (cond ((decide ((0:Int)≤x.1.1))&&(decide (x.1.1<(lI x.2.2.2.2.1))))
    (((x.2.2.2.2.1)[(Int.toNat x.1.1)]?).bind fun(y2:ae) =>
    (F 144 q8 ((x.2.2.2.1,(y2,())),())).bind fun(y3:Q2) =>
    cond (decide (y3.1.1≥0))
     (J wT (aM Tryz.prog 164 0) (((wI (x.1.1+1)),()),(((x.2.1.1.1,()),()),x.2.2)))
     (cond ((decide ((0:Int)≤x.1.1))&&(decide (x.1.1<(lI x.2.2.2.2.1))))
      (((x.2.2.2.2.1)[(Int.toNat x.1.1)]?).bind fun(y4:ae) =>
      (F 192 Hj ((x.2.1.1.1,(y4,())),())).bind fun(y5:Q6) =>
      cond (aO (List.length x.2.2.1) (List.length (y5.1.1::([]:List (List ae)))))
       (cond (aO (List.length x.2.2.2.1) (List.length y5.1.1))
        (J wT (aM Tryz.prog 164 0) (((wI (x.1.1+1)),()),(((x.2.1.1.1,()),()),((x.2.2.1++(y5.1.1::([]:List (List ae)))),((x.2.2.2.1++y5.1.1),x.2.2.2.2)))))
        (none))
       (none))
      (none)))
    (none))
   (some ((x.2.2.1,()),())):=by kernel_rfl
theorem afp(F:FT)(J:JT Hl)(x:Q5):bU 165 Hl Tryz.f165 F J x =
 (F 193 sM ((x.1.1,()),())).bind fun(y1:(((List Int)×Unit)×Unit)) =>
 J wU (aM Tryz.prog 165 0) (((0:Int),((0:Int),())),((),y1.1)):=by kernel_rfl
theorem QA(F:FT)(J:JT Hl)(x:(aaf×(Unit×abx))):eR 165 0 Hl Tryz.f165 wU F J x =
  cond (decide (x.1.2.1<(lI x.2.2.1)))
   (cond ((decide ((0:Int)≤x.1.2.1))&&(decide (x.1.2.1<(lI x.2.2.1))))
    (((x.2.2.1)[(Int.toNat x.1.2.1)]?).bind fun(y2:Int) =>
    cond (y2==x.1.2.1)
     (J wU (aM Tryz.prog 165 0) (((wI (x.1.1+1)),((wI (x.1.2.1+1)),())),((),x.2.2)))
     (J wU (aM Tryz.prog 165 0) ((x.1.1,((wI (x.1.2.1+1)),())),((),x.2.2))))
    (none))
   (some ((x.1.1,()),())):=by kernel_rfl
theorem afq(F:FT)(J:JT Hm)(x:Q16):bU 49 Hm Tryz.f49 F J x =
  (F 69 Ho (x.1.2,())).bind fun(y1:Q2) =>
  cond (y1.1.1 != 0)
   (some ((OS,y1.1),()))
   (J BD (aM Tryz.prog 49 0) (((0:Int),()),(((x.1.1,()),(x.1.2,(OW,()))),()))):=by kernel_rfl
theorem QB(F:FT)(J:JT Hm)(x:(aaa×((acg×(acb×ach))×Unit))):eR 49 0 Hm Tryz.f49 BD F J x =
  cond (decide (x.1.1<(lI x.2.1.2.1.1)))
   (((aY x.2.1.2.1.1 x.1.1)).bind fun(y2:aZ) =>
   (F 45 Ns ((x.2.1.1.1,(y2,())),())).bind fun(y3:Q1) =>
   cond (y3.1.2.1 != 0)
    (some ((OS,y3.1.2),()))
    (J BD (aM Tryz.prog 49 0) (((wI (x.1.1+1)),()),(((y3.1.1,()),(x.2.1.2.1,(x.2.1.2.2.1,()))),()))))
   (some ((x.2.1.1.1,((0:Int),())),())):=by kernel_rfl
theorem afr(F:FT)(J:JT Dc)(x:Q5):bU 21 Dc Tryz.f21 F J x =
  cond (aO (List.length ([]:List ai)) (List.length x.1.1.2))
   (J BE (aM Tryz.prog 21 0) (((0:Int),()),(((x.1.1,()),((([]:List ah),(([]:List ai),())),((([]:List ah),((([]:List ai)++x.1.1.2),())),()))),())))
   (none):=by kernel_rfl
theorem QC(F:FT)(J:JT Dc)(x:(aaa×((acd×aad)×Unit))):eR 21 0 Dc Tryz.f21 BE F J x =
  cond (decide (x.1.1<(lI x.2.1.1.1.1)))
   (((aY x.2.1.1.1.1 x.1.1)).bind fun(y1:ah) =>
   cond (aO (List.length ([]:List ae)) (List.length y1.2.1))
    (cond (aO (List.length x.2.1.2.2.1.1) (List.length ((y1.1,((([]:List ae)++y1.2.1),y1.2.2))::([]:List ah))))
     (J BE (aM Tryz.prog 21 0) (((wI (x.1.1+1)),()),(((x.2.1.1.1,()),(x.2.1.2.1,(((x.2.1.2.2.1.1++((y1.1,((([]:List ae)++y1.2.1),y1.2.2))::([]:List ah))),x.2.1.2.2.1.2),()))),())))
     (none))
    (none))
   (some ((x.2.1.2.2.1,()),())):=by kernel_rfl
theorem afs(F:FT)(J:JT Fh)(x:Q5):bU 72 Fh Tryz.f72 F J x =
  (F 106 qt ((x.1.1,()),())).bind fun(y1:Q2) =>
  cond (y1.1.1 != 0)
   (some (y1.1,()))
   ((F 107 Fk ((x.1.1,()),())).bind fun(y2:Q2) =>
   cond (y2.1.1 != 0)
    (some (((11:Int),()),()))
    (some (((0:Int),()),()))):=by kernel_rfl
theorem aft(F:FT)(J:JT Ho)(x:Q3):bU 69 Ho Tryz.f69 F J x =
  cond (decide ((lI x.1.1)<1))
   (some (((3:Int),()),()))
   (cond (decide ((lI x.1.1)>6))
    (some (((3:Int),()),()))
    (J BF (aM Tryz.prog 69 0) (((0:Int),()),((x.1,()),())))):=by kernel_rfl
theorem QD(F:FT)(J:JT Ho)(x:(aaa×((acb×Unit)×Unit))):eR 69 0 Ho Tryz.f69 BF F J x =
  cond (decide (x.1.1<(lI x.2.1.1.1)))
   (((aY x.2.1.1.1 x.1.1)).bind fun(y1:aZ) =>
   (F 46 Nu ((y1,()),())).bind fun(y2:Q2) =>
   cond (y2.1.1 != 0)
    (some (y2.1,()))
    (J BF (aM Tryz.prog 69 0) (((wI (x.1.1+1)),()),((x.2.1.1,()),()))))
   (some (((0:Int),()),())):=by kernel_rfl
theorem afu(F:FT)(J:JT Kd)(x:(acx×Unit)):bU 104 Kd Tryz.f104 F J x =
  (F 132 Ql ((x.1.1,()),())).bind fun(y1:((aZ×(Int×Unit))×Unit)) =>
  cond (not ((y1.1.1.1==x.1.1.1)&&(((y1.1.1.2.1.1==x.1.1.2.1.1)&&(y1.1.1.2.1.2==x.1.1.2.1.2))&&(((y1.1.1.2.2.1.1==x.1.1.2.2.1.1)&&(y1.1.1.2.2.1.2==x.1.1.2.2.1.2))&&(((y1.1.1.2.2.2.1.1==x.1.1.2.2.2.1.1)&&(y1.1.1.2.2.2.1.2==x.1.1.2.2.2.1.2))&&((((y1.1.1.2.2.2.2.1.1.1==x.1.1.2.2.2.2.1.1.1)&&(y1.1.1.2.2.2.2.1.1.2==x.1.1.2.2.2.2.1.1.2))&&(((y1.1.1.2.2.2.2.1.2.1.1==x.1.1.2.2.2.2.1.2.1.1)&&(y1.1.1.2.2.2.2.1.2.1.2==x.1.1.2.2.2.2.1.2.1.2))&&(y1.1.1.2.2.2.2.1.2.2==x.1.1.2.2.2.2.1.2.2)))&&((((y1.1.1.2.2.2.2.2.1.1.1==x.1.1.2.2.2.2.2.1.1.1)&&(y1.1.1.2.2.2.2.2.1.1.2==x.1.1.2.2.2.2.2.1.1.2))&&(((y1.1.1.2.2.2.2.2.1.2.1.1==x.1.1.2.2.2.2.2.1.2.1.1)&&(y1.1.1.2.2.2.2.2.1.2.1.2==x.1.1.2.2.2.2.2.1.2.1.2))&&(y1.1.1.2.2.2.2.2.1.2.2==x.1.1.2.2.2.2.2.1.2.2)))&&((y1.1.1.2.2.2.2.2.2.1==x.1.1.2.2.2.2.2.2.1)&&((y1.1.1.2.2.2.2.2.2.2.1==x.1.1.2.2.2.2.2.2.2.1)&&(y1.1.1.2.2.2.2.2.2.2.2==x.1.1.2.2.2.2.2.2.2.2))))))))))
   (some (((1:Int),()),()))
   (some (y1.1.2,())):=by kernel_rfl
theorem aah(F:FT)(J:JT Dd)(x:Q16):bU 103 Dd Tryz.f103 F J x =
 (F 96 Hs ((x.1.1.1,()),())).bind fun(y1:Q26) =>
 (F 97 Ke ((x.1.1.2,()),())).bind fun(y2:Wc) =>
 J BG (aM Tryz.prog 103 0) ((x.1.2.1,((lI x.1.2.1),((0:Int),()))),((OW,((y1.1.1.1,(y1.1.1.2.1,y2.1)),())),())):=by kernel_rfl
theorem Fs(F:FT)(J:JT Dd)(x:(((List aZ)×aaf)×((aV×ach)×Unit))):eR 103 0 Dd Tryz.f103 BG F J x =
  cond (decide (x.1.2.2.1<x.1.2.1))
   (((aY x.1.1 x.1.2.2.1)).bind fun(y3:aZ) =>
   (F 131 Bg ((y3,()),(x.2.1.2.1,()))).bind fun(y4:Qs) =>
   cond (y4.1.1 != 0)
    (some ((OS,y4.1),()))
    (J BG (aM Tryz.prog 103 0) ((x.1.1,(x.1.2.1,((wI (x.1.2.2.1+1)),()))),((x.2.1.1,(y4.2.1,())),()))))
   (some ((((x.2.1.2.1.1,x.2.1.2.1.2.1),x.2.1.2.1.2.2.1),((0:Int),())),())):=by kernel_rfl
theorem afv(F:FT)(J:JT Nu)(x:(acx×Unit)):bU 46 Nu Tryz.f46 F J x =
  (F 87 yX ((x.1.1.2.1,()),())).bind fun(y1:Q0) =>
  cond (decide (x.1.1.1<1))
   (some (((1:Int),()),()))
   (cond (decide (x.1.1.1>8))
    (some (((1:Int),()),()))
    (cond (not y1.1.1)
     (some (((1:Int),()),()))
     ((F 88 Nw ((x.1.1,()),())).bind fun(y2:((aZ×Unit)×Unit)) =>
     cond (not ((y2.1.1.1==0)&&(((y2.1.1.2.1.1==0)&&(y2.1.1.2.1.2==0))&&(((y2.1.1.2.2.1.1==0)&&(y2.1.1.2.2.1.2==0))&&(((y2.1.1.2.2.2.1.1==0)&&(y2.1.1.2.2.2.1.2==0))&&((((y2.1.1.2.2.2.2.1.1.1==0)&&(y2.1.1.2.2.2.2.1.1.2==0))&&(((y2.1.1.2.2.2.2.1.2.1.1==0)&&(y2.1.1.2.2.2.2.1.2.1.2==0))&&(y2.1.1.2.2.2.2.1.2.2==0)))&&((((y2.1.1.2.2.2.2.2.1.1.1==0)&&(y2.1.1.2.2.2.2.2.1.1.2==0))&&(((y2.1.1.2.2.2.2.2.1.2.1.1==0)&&(y2.1.1.2.2.2.2.2.1.2.1.2==0))&&(y2.1.1.2.2.2.2.2.1.2.2==0)))&&((y2.1.1.2.2.2.2.2.2.1==false)&&((y2.1.1.2.2.2.2.2.2.2.1==OB)&&(y2.1.1.2.2.2.2.2.2.2.2==0))))))))))
      (some (((1:Int),()),()))
      (cond (x.1.1.1==3)
       ((F 89 Nx ((x.1.1.2.2.2.2.1,()),())).bind fun(y3:Q0) =>
       (F 89 Nx ((x.1.1.2.2.2.2.2.1,()),())).bind fun(y4:Q0) =>
       cond (not y3.1.1)
        (some (((1:Int),()),()))
        (cond (not y4.1.1)
         (some (((1:Int),()),()))
         (some (((0:Int),()),()))))
       (cond (x.1.1.1==5)
        ((F 87 yX ((x.1.1.2.2.1,()),())).bind fun(y5:Q0) =>
        (F 87 yX ((x.1.1.2.2.2.1,()),())).bind fun(y6:Q0) =>
        cond (not y5.1.1)
         (some (((1:Int),()),()))
         (cond (not y6.1.1)
          (some (((1:Int),()),()))
          (cond (decide (x.1.1.2.2.2.2.2.2.2.2<0))
           (some (((1:Int),()),()))
           (cond (decide (x.1.1.2.2.2.2.2.2.2.2>3))
            (some (((1:Int),()),()))
            (some (((0:Int),()),()))))))
        (cond (x.1.1.1==6)
         ((F 87 yX ((x.1.1.2.2.2.1,()),())).bind fun(y7:Q0) =>
         cond (not y7.1.1)
          (some (((1:Int),()),()))
          (some (((0:Int),()),())))
         (cond (x.1.1.1==8)
          ((F 90 yY ((x.1.1.2.2.2.2.2.2.2.2,()),())).bind fun(y8:Q0) =>
          cond (not y8.1.1)
           (some (((1:Int),()),()))
           (some (((0:Int),()),())))
          (cond (x.1.1.1==7)
           ((F 91 wR ((x.1.1.2.2.2.2.2.2.2.1,()),())).bind fun(y9:Q0) =>
           cond (not y9.1.1)
            (some (((4:Int),()),()))
            (some (((0:Int),()),())))
           (some (((0:Int),()),())))))))))):=by kernel_rfl
theorem afw(F:FT)(J:JT Fi)(x:((aj×(ah×Unit))×Unit)):bU 80 Fi Tryz.f80 F J x =
 J tY (aM Tryz.prog 80 0) ((false,((0:Int),())),(((x.1.1,()),((x.1.2.1,()),((([]:List ah),(([]:List ai),())),((([]:List ah),(x.1.1.2,())),())))),())):=by kernel_rfl
theorem QE(F:FT)(J:JT Fi)(x:((Bool×aaa)×((acd×((ah×Unit)×aad))×Unit))):eR 80 0 Fi Tryz.f80 tY F J x =
  cond (decide (x.1.2.1<(lI x.2.1.1.1.1)))
   (cond (not x.1.1)
    (((aY x.2.1.1.1.1 x.1.2.1)).bind fun(y1:ah) =>
    (F 105 Fl ((x.2.1.2.1.1.1,(y1.1,())),())).bind fun(y2:Q2) =>
    cond (decide (y2.1.1<0))
     (cond (aO (List.length x.2.1.2.2.2.1.1) (List.length (x.2.1.2.1.1::([]:List ah))))
      (((aY x.2.1.1.1.1 x.1.2.1)).bind fun(y3:ah) =>
      cond (aO (List.length (x.2.1.2.2.2.1.1++(x.2.1.2.1.1::([]:List ah)))) (List.length (y3::([]:List ah))))
       (J tY (aM Tryz.prog 80 0) ((true,((wI (x.1.2.1+1)),())),(((x.2.1.1.1,()),((x.2.1.2.1.1,()),(x.2.1.2.2.1,((((x.2.1.2.2.2.1.1++(x.2.1.2.1.1::([]:List ah)))++(y3::([]:List ah))),x.2.1.2.2.2.1.2),())))),())))
       (none))
      (none))
     (((aY x.2.1.1.1.1 x.1.2.1)).bind fun(y4:ah) =>
     cond (aO (List.length x.2.1.2.2.2.1.1) (List.length (y4::([]:List ah))))
      (J tY (aM Tryz.prog 80 0) ((x.1.1,((wI (x.1.2.1+1)),())),(((x.2.1.1.1,()),((x.2.1.2.1.1,()),(x.2.1.2.2.1,(((x.2.1.2.2.2.1.1++(y4::([]:List ah))),x.2.1.2.2.2.1.2),())))),())))
      (none)))
    (((aY x.2.1.1.1.1 x.1.2.1)).bind fun(y5:ah) =>
    cond (aO (List.length x.2.1.2.2.2.1.1) (List.length (y5::([]:List ah))))
     (J tY (aM Tryz.prog 80 0) ((x.1.1,((wI (x.1.2.1+1)),())),(((x.2.1.1.1,()),((x.2.1.2.1.1,()),(x.2.1.2.2.1,(((x.2.1.2.2.2.1.1++(y5::([]:List ah))),x.2.1.2.2.2.1.2),())))),())))
     (none)))
   (cond (not x.1.1)
    (cond (aO (List.length x.2.1.2.2.2.1.1) (List.length (x.2.1.2.1.1::([]:List ah))))
     (some ((((x.2.1.2.2.2.1.1++(x.2.1.2.1.1::([]:List ah))),x.2.1.2.2.2.1.2.1),()),()))
     (none))
    (some (((x.2.1.2.2.2.1.1,x.2.1.2.2.2.1.2.1),()),()))):=by kernel_rfl
theorem afx(F:FT)(J:JT pK)(x:((aj×(ID×abr))×Unit)):bU 81 pK Tryz.f81 F J x =
 J wV (aM Tryz.prog 81 0) (((0:Int),()),(((x.1.1,()),((x.1.2.1,()),((x.1.2.2.1,()),((([]:List ah),(([]:List ai),())),((([]:List ah),(([]:List ai),())),()))))),())):=by kernel_rfl
theorem QF(F:FT)(J:JT pK)(x:(aaa×((acd×(abr×(abr×aad)))×Unit))):eR 81 0 pK Tryz.f81 wV F J x =
  cond (decide (x.1.1<(lI x.2.1.1.1.1)))
   (((aY x.2.1.1.1.1 x.1.1)).bind fun(y1:ah) =>
   cond (not ((y1.1.1==x.2.1.2.1.1.1)&&(y1.1.2==x.2.1.2.1.1.2)))
    (((aY x.2.1.1.1.1 x.1.1)).bind fun(y2:ah) =>
    cond (aO (List.length x.2.1.2.2.2.2.1.1) (List.length (y2::([]:List ah))))
     (J wV (aM Tryz.prog 81 0) (((wI (x.1.1+1)),()),(((x.2.1.1.1,()),((x.2.1.2.1.1,()),((x.2.1.2.2.1.1,()),(x.2.1.2.2.2.1,(((x.2.1.2.2.2.2.1.1++(y2::([]:List ah))),x.2.1.2.2.2.2.1.2),()))))),())))
     (none))
    (J wV (aM Tryz.prog 81 0) (((wI (x.1.1+1)),()),(((x.2.1.1.1,()),((x.2.1.2.1.1,()),((x.2.1.2.2.1.1,()),(x.2.1.2.2.2.1,(x.2.1.2.2.2.2.1,()))))),()))))
   (J wW (aM Tryz.prog 81 1) (((0:Int),()),(((x.2.1.1.1,()),((x.2.1.2.2.1.1,()),(x.2.1.2.2.2.1,(x.2.1.2.2.2.2.1,())))),()))):=by kernel_rfl
theorem QG(F:FT)(J:JT pK)(x:(aaa×((acd×(abr×aad))×Unit))):eR 81 1 pK Tryz.f81 wW F J x =
  cond (decide (x.1.1<(lI x.2.1.1.1.2)))
   (((aY x.2.1.1.1.2 x.1.1)).bind fun(y3:ai) =>
   cond (not ((y3.1.1==x.2.1.2.1.1.1)&&(y3.1.2==x.2.1.2.1.1.2)))
    (((aY x.2.1.1.1.2 x.1.1)).bind fun(y4:ai) =>
    cond (aO (List.length x.2.1.2.2.2.1.2.1) (List.length (y4::([]:List ai))))
     (J wW (aM Tryz.prog 81 1) (((wI (x.1.1+1)),()),(((x.2.1.1.1,()),((x.2.1.2.1.1,()),(x.2.1.2.2.1,((x.2.1.2.2.2.1.1,((x.2.1.2.2.2.1.2.1++(y4::([]:List ai))),())),())))),())))
     (none))
    (J wW (aM Tryz.prog 81 1) (((wI (x.1.1+1)),()),(((x.2.1.1.1,()),((x.2.1.2.1.1,()),(x.2.1.2.2.1,(x.2.1.2.2.2.1,())))),()))))
   (some (((x.2.1.2.2.2.1.1,x.2.1.2.2.2.1.2.1),()),())):=by kernel_rfl
theorem afy(F:FT)(J:JT Qi)(x:Wb):bU 82 Qi Tryz.f82 F J x =
  (F 92 wQ ((x.1.1.1,(x.1.2.1.2.1,())),())).bind fun(y1:Ur) =>
  cond y1.1.2.1
   (some ((OS,((12:Int),())),()))
   (cond (decide ((lI x.1.1.1.2)≥40))
    (some ((OS,((3:Int),())),()))
    ((F 114 Ny ((x.1.1,(x.1.2.1.2.2.2.2.1,())),())).bind fun(y2:((nF×(Int×Unit))×Unit)) =>
    (F 114 Ny ((x.1.1,(x.1.2.1.2.2.2.2.2.1,())),())).bind fun(y3:((nF×(Int×Unit))×Unit)) =>
    (F 79 qq ((x.1.1.1,(x.1.2.1.2.2.2.2.2.1.1,())),())).bind fun(y4:Q7) =>
    cond y4.1.2.1
     (cond (((x.1.2.1.2.2.2.2.2.1.2.1.1==x.1.2.1.2.1.1)&&(x.1.2.1.2.2.2.2.2.1.2.1.2==x.1.2.1.2.1.2))&&(x.1.2.1.2.2.2.2.2.1.2.2==0))
      (cond (y2.1.2.1 != 0)
       (some ((OS,((13:Int),())),()))
       (cond (y3.1.2.1 != 0)
        (some ((OS,((13:Int),())),()))
        ((F 115 y0 ((x.1.1.1,((x.1.2.1.2.1,(OB,(0:Int))),())),())).bind fun(y5:Q5) =>
        (F 116 zc ((y5.1.1,(y2.1.1,((x.1.2.1.2.1,(0:Int)),()))),())).bind fun(y6:Q5) =>
        (F 116 zc ((y6.1.1,(x.1.2.1.2.2.2.2.2.1,((x.1.2.1.2.1,(1:Int)),()))),())).bind fun(y7:Q5) =>
        (F 107 Fk ((y7.1.1,()),())).bind fun(y8:Q2) =>
        cond (y8.1.1 != 0)
         (some ((OS,((15:Int),())),()))
         (some (((y7.1.1,x.1.1.2),((0:Int),())),())))))
      (cond (y2.1.2.1 != 0)
       (some ((OS,((13:Int),())),()))
       (cond (y3.1.2.1 != 0)
        (some ((OS,((13:Int),())),()))
        ((F 115 y0 ((x.1.1.1,((x.1.2.1.2.1,(OB,(0:Int))),())),())).bind fun(y9:Q5) =>
        (F 116 zc ((y9.1.1,(y2.1.1,((x.1.2.1.2.1,(0:Int)),()))),())).bind fun(oU:Q5) =>
        (F 116 zc ((oU.1.1,(y3.1.1,((x.1.2.1.2.1,(1:Int)),()))),())).bind fun(mE:Q5) =>
        (F 107 Fk ((mE.1.1,()),())).bind fun(qk:Q2) =>
        cond (qk.1.1 != 0)
         (some ((OS,((15:Int),())),()))
         (some (((mE.1.1,x.1.1.2),((0:Int),())),()))))))
     (cond (y2.1.2.1 != 0)
      (some ((OS,((13:Int),())),()))
      (cond (y3.1.2.1 != 0)
       (some ((OS,((13:Int),())),()))
       ((F 115 y0 ((x.1.1.1,((x.1.2.1.2.1,(OB,(0:Int))),())),())).bind fun(la:Q5) =>
       (F 116 zc ((la.1.1,(y2.1.1,((x.1.2.1.2.1,(0:Int)),()))),())).bind fun(Ft:Q5) =>
       (F 116 zc ((Ft.1.1,(y3.1.1,((x.1.2.1.2.1,(1:Int)),()))),())).bind fun(uz:Q5) =>
       (F 107 Fk ((uz.1.1,()),())).bind fun(TI:Q2) =>
       cond (TI.1.1 != 0)
        (some ((OS,((15:Int),())),()))
        (some (((uz.1.1,x.1.1.2),((0:Int),())),()))))))):=by kernel_rfl
theorem afz(F:FT)(J:JT Qj)(x:Wb):bU 83 Qj Tryz.f83 F J x =
  (F 92 wQ ((x.1.1.1,(x.1.2.1.2.1,())),())).bind fun(y1:Ur) =>
  cond (not y1.1.2.1)
   (some ((OS,((13:Int),())),()))
   ((F 118 Nz ((x.1.1.1,((x.1.2.1.2.1,(0:Int)),())),())).bind fun(y2:Fp) =>
   (F 117 zd ((x.1.1.2,(((x.1.2.1.2.1,(0:Int)),y2.1.1),())),())).bind fun(y3:Wc) =>
   (F 118 Nz ((x.1.1.1,((x.1.2.1.2.1,(1:Int)),())),())).bind fun(y4:Fp) =>
   (F 117 zd ((y3.1.1,(((x.1.2.1.2.1,(1:Int)),y4.1.1),())),())).bind fun(y5:Wc) =>
   (F 119 NA ((x.1.1.1,((x.1.2.1.2.1,(0:Int)),())),())).bind fun(y6:Q5) =>
   (F 119 NA ((y6.1.1,((x.1.2.1.2.1,(1:Int)),())),())).bind fun(y7:Q5) =>
   (F 81 pK ((y7.1.1,(OI,(x.1.2.1.2.1,()))),())).bind fun(y8:Q5) =>
   some (((y8.1.1,y5.1.1),((0:Int),())),())):=by kernel_rfl
theorem afA(F:FT)(J:JT Qk)(x:Wb):bU 84 Qk Tryz.f84 F J x =
  (F 92 wQ ((x.1.1.1,(x.1.2.1.2.1,())),())).bind fun(y1:Ur) =>
  cond (not y1.1.2.1)
   (some ((OS,((13:Int),())),()))
   ((F 79 qq ((x.1.1.1,(x.1.2.1.2.2.1,())),())).bind fun(y2:Q7) =>
   (F 92 wQ ((x.1.1.1,(x.1.2.1.2.2.2.1,())),())).bind fun(y3:Ur) =>
   cond y2.1.2.1
    (some ((OS,((12:Int),())),()))
    (cond y3.1.2.1
     (some ((OS,((12:Int),())),()))
     (cond (decide ((lI x.1.1.1.1)≥24))
      (some ((OS,((3:Int),())),()))
      (cond (decide ((lI x.1.1.1.2)≥40))
       (some ((OS,((3:Int),())),()))
       (cond ((2:Int)==0)
        (none)
        (cond ((2:Int)==0)
         (none)
         ((F 121 Db (((x.1.2.1.2.2.2.1,(wI (Int.tdiv x.1.2.1.2.2.2.2.2.2.2.2 (2:Int)))),()),())).bind fun(y4:Fp) =>
         (F 120 Ht ((x.1.1.1,((x.1.2.1.2.1,(wI ((1:Int)-(Int.tmod x.1.2.1.2.2.2.2.2.2.2.2 (2:Int))))),(y4.1.1,()))),())).bind fun(y5:Q5) =>
         (F 115 y0 ((y5.1.1,((x.1.2.1.2.2.2.1,(OB,(0:Int))),())),())).bind fun(y6:Q5) =>
         (F 122 pM ((((x.1.2.1.2.1,(wI ((1:Int)-(Int.tmod x.1.2.1.2.2.2.2.2.2.2.2 (2:Int)))))::((x.1.2.1.2.2.2.1,(wI (Int.tdiv x.1.2.1.2.2.2.2.2.2.2.2 (2:Int))))::([]:List ae))),()),())).bind fun(y7:Q6) =>
         (F 80 Fi ((y6.1.1,((x.1.2.1.2.2.1,(y7.1.1,(OB,(0:Int)))),())),())).bind fun(y8:Q5) =>
         some (((y8.1.1,x.1.1.2),((0:Int),())),())))))))):=by kernel_rfl
theorem afB(F:FT)(J:JT yZ)(x:Wb):bU 85 yZ Tryz.f85 F J x =
  (F 79 qq ((x.1.1.1,(x.1.2.1.2.1,())),())).bind fun(y1:Q7) =>
  cond (not y1.1.2.1)
   (some ((OS,((13:Int),())),()))
   (cond ((lI y1.1.1.2.1) != 2)
    (some ((OS,((14:Int),())),()))
    (((aY y1.1.1.2.1 (0:Int))).bind fun(y2:ae) =>
    ((aY y1.1.1.2.1 (1:Int))).bind fun(y3:ae) =>
    cond ((y2.1.1==y3.1.1)&&(y2.1.2==y3.1.2))
     (some ((OS,((14:Int),())),()))
     (((aY y1.1.1.2.1 (0:Int))).bind fun(y4:ae) =>
     ((aY y1.1.1.2.1 (1:Int))).bind fun(y5:ae) =>
     cond ((y4.1.1==x.1.2.1.2.2.2.1.1)&&(y4.1.2==x.1.2.1.2.2.2.1.2))
      (((aY y1.1.1.2.1 (1:Int))).bind fun(y6:ae) =>
      ((aY y1.1.1.2.1 (0:Int))).bind fun(y7:ae) =>
      cond (not ((y7.1.1==x.1.2.1.2.2.2.1.1)&&(y7.1.2==x.1.2.1.2.2.2.1.2)))
       (some ((OS,((14:Int),())),()))
       ((F 121 Db ((y7,()),())).bind fun(y8:Fp) =>
       (F 81 pK ((x.1.1.1,(x.1.2.1.2.1,(OI,()))),())).bind fun(y9:Q5) =>
       (F 120 Ht ((y9.1.1,(y8.1.1,(y6,()))),())).bind fun(oU:Q5) =>
       (F 81 pK ((oU.1.1,(OI,(y7.1,()))),())).bind fun(mE:Q5) =>
       J l9 (aM Tryz.prog 85 0) ((x.1.1.2,((0:Int),())),((OW,((y6,()),((y7,()),((y8.1.1,()),((mE.1.1,()),()))))),()))))
      (cond (not ((y5.1.1==x.1.2.1.2.2.2.1.1)&&(y5.1.2==x.1.2.1.2.2.2.1.2)))
       (some ((OS,((14:Int),())),()))
       ((F 121 Db ((y5,()),())).bind fun(qk:Fp) =>
       (F 81 pK ((x.1.1.1,(x.1.2.1.2.1,(OI,()))),())).bind fun(la:Q5) =>
       (F 120 Ht ((la.1.1,(qk.1.1,(y4,()))),())).bind fun(Ft:Q5) =>
       (F 81 pK ((Ft.1.1,(OI,(y5.1,()))),())).bind fun(uz:Q5) =>
       J l9 (aM Tryz.prog 85 0) ((x.1.1.2,((0:Int),())),((OW,((y4,()),((y5,()),((qk.1.1,()),((uz.1.1,()),()))))),()))))))):=by kernel_rfl
theorem QH(F:FT)(J:JT yZ)(x:(((List aA)×aaa)×((aV×(aae×(aae×(aae×abq))))×Unit))):eR 85 0 yZ Tryz.f85 l9 F J x =
  cond (decide (x.1.2.1<2))
   (cond (((x.2.1.2.2.1.1.1.1==x.2.1.2.2.2.1.1.1.1)&&(x.2.1.2.2.1.1.1.2==x.2.1.2.2.2.1.1.1.2))&&(x.1.2.1==x.2.1.2.2.2.1.1.2))
    ((F 117 zd ((x.1.1,(((x.2.1.2.2.1.1.1,x.1.2.1),x.2.1.2.1.1),())),())).bind fun(TI:Wc) =>
    J l9 (aM Tryz.prog 85 0) ((TI.1.1,((wI (x.1.2.1+1)),())),((x.2.1.1,((x.2.1.2.1.1,()),((x.2.1.2.2.1.1,()),((x.2.1.2.2.2.1.1,()),((x.2.1.2.2.2.2.1.1,()),()))))),())))
    ((F 117 zd ((x.1.1,(((x.2.1.2.2.1.1.1,x.1.2.1),OD),())),())).bind fun(Wh:Wc) =>
    J l9 (aM Tryz.prog 85 0) ((Wh.1.1,((wI (x.1.2.1+1)),())),((x.2.1.1,((x.2.1.2.1.1,()),((x.2.1.2.2.1.1,()),((x.2.1.2.2.2.1.1,()),((x.2.1.2.2.2.2.1.1,()),()))))),()))))
   (some (((x.2.1.2.2.2.2.1.1,x.1.1),((0:Int),())),())):=by kernel_rfl
theorem afC(F:FT)(J:JT Bf)(x:Wb):bU 86 Bf Tryz.f86 F J x =
 (F 21 Dc ((x.1.1.1,()),())).bind fun(y1:Q26) =>
 J rj (aM Tryz.prog 86 0) ((false,((0:Int),())),(((x.1.1,()),((x.1.2.1,()),(OW,(y1.1.1,())))),())):=by kernel_rfl
theorem QI(F:FT)(J:JT Bf)(x:Q38):eR 86 0 Bf Tryz.f86 rj F J x =
  cond (decide (x.1.2.1<(lI x.2.1.2.2.2.1.1)))
   (cond (not x.2.1.2.1.1.2.2.2.2.2.2.1)
    (cond ((decide ((0:Int)≤x.1.2.1))&&(decide (x.1.2.1<(lI x.2.1.2.2.2.1.1))))
     (((x.2.1.2.2.2.1.1)[(Int.toNat x.1.2.1)]?).bind fun(y2:ah) =>
     cond ((y2.1.1==x.2.1.2.1.1.2.1.1)&&(y2.1.2==x.2.1.2.1.1.2.1.2))
      (cond (x.2.1.2.1.1.1==7)
       (cond ((decide ((0:Int)≤x.1.2.1))&&(decide (x.1.2.1<(lI x.2.1.2.2.2.1.1))))
        (((x.2.1.2.2.2.1.1)[(Int.toNat x.1.2.1)]?).bind fun(y3:ah) =>
        J rj (aM Tryz.prog 86 0) ((true,((wI (x.1.2.1+1)),())),(((x.2.1.1.1,()),((x.2.1.2.1.1,()),(x.2.1.2.2.1,(((List.set x.2.1.2.2.2.1.1 (Int.toNat x.1.2.1) (y3.1,(y3.2.1,(x.2.1.2.1.1.2.2.2.2.2.2.2.1,y3.2.2.2)))),x.2.1.2.2.2.1.2),())))),())))
        (none))
       (cond ((decide ((0:Int)≤x.1.2.1))&&(decide (x.1.2.1<(lI x.2.1.2.2.2.1.1))))
        (((x.2.1.2.2.2.1.1)[(Int.toNat x.1.2.1)]?).bind fun(y4:ah) =>
        J rj (aM Tryz.prog 86 0) ((true,((wI (x.1.2.1+1)),())),(((x.2.1.1.1,()),((x.2.1.2.1.1,()),(x.2.1.2.2.1,(((List.set x.2.1.2.2.2.1.1 (Int.toNat x.1.2.1) (y4.1,(y4.2.1,(y4.2.2.1,x.2.1.2.1.1.2.2.2.2.2.2.2.2)))),x.2.1.2.2.2.1.2),())))),())))
        (none)))
      (J rj (aM Tryz.prog 86 0) ((x.1.1,((wI (x.1.2.1+1)),())),(((x.2.1.1.1,()),((x.2.1.2.1.1,()),(x.2.1.2.2.1,(x.2.1.2.2.2.1,())))),()))))
     (none))
    (J rj (aM Tryz.prog 86 0) ((x.1.1,((wI (x.1.2.1+1)),())),(((x.2.1.1.1,()),((x.2.1.2.1.1,()),(x.2.1.2.2.1,(x.2.1.2.2.2.1,())))),()))))
   (J rk (aM Tryz.prog 86 1) ((x.1.1,((0:Int),())),(((x.2.1.1.1,()),((x.2.1.2.1.1,()),(x.2.1.2.2.1,(x.2.1.2.2.2.1,())))),()))):=by kernel_rfl
theorem QJ(F:FT)(J:JT Bf)(x:Q38):eR 86 1 Bf Tryz.f86 rk F J x =
  cond (decide (x.1.2.1<(lI x.2.1.2.2.2.1.2.1)))
   (cond x.2.1.2.1.1.2.2.2.2.2.2.1
    (cond ((decide ((0:Int)≤x.1.2.1))&&(decide (x.1.2.1<(lI x.2.1.2.2.2.1.2.1))))
     (((x.2.1.2.2.2.1.2.1)[(Int.toNat x.1.2.1)]?).bind fun(y5:ai) =>
     cond ((y5.1.1==x.2.1.2.1.1.2.1.1)&&(y5.1.2==x.2.1.2.1.1.2.1.2))
      (cond (x.2.1.2.1.1.1==7)
       (cond ((decide ((0:Int)≤x.1.2.1))&&(decide (x.1.2.1<(lI x.2.1.2.2.2.1.2.1))))
        (((x.2.1.2.2.2.1.2.1)[(Int.toNat x.1.2.1)]?).bind fun(y6:ai) =>
        J rk (aM Tryz.prog 86 1) ((true,((wI (x.1.2.1+1)),())),(((x.2.1.1.1,()),((x.2.1.2.1.1,()),(x.2.1.2.2.1,((x.2.1.2.2.2.1.1,((List.set x.2.1.2.2.2.1.2.1 (Int.toNat x.1.2.1) (y6.1,(x.2.1.2.1.1.2.2.2.2.2.2.2.1,y6.2.2))),())),())))),())))
        (none))
       (cond ((decide ((0:Int)≤x.1.2.1))&&(decide (x.1.2.1<(lI x.2.1.2.2.2.1.2.1))))
        (((x.2.1.2.2.2.1.2.1)[(Int.toNat x.1.2.1)]?).bind fun(y7:ai) =>
        J rk (aM Tryz.prog 86 1) ((true,((wI (x.1.2.1+1)),())),(((x.2.1.1.1,()),((x.2.1.2.1.1,()),(x.2.1.2.2.1,((x.2.1.2.2.2.1.1,((List.set x.2.1.2.2.2.1.2.1 (Int.toNat x.1.2.1) (y7.1,(y7.2.1,x.2.1.2.1.1.2.2.2.2.2.2.2.2))),())),())))),())))
        (none)))
      (J rk (aM Tryz.prog 86 1) ((x.1.1,((wI (x.1.2.1+1)),())),(((x.2.1.1.1,()),((x.2.1.2.1.1,()),(x.2.1.2.2.1,(x.2.1.2.2.2.1,())))),()))))
     (none))
    (J rk (aM Tryz.prog 86 1) ((x.1.1,((wI (x.1.2.1+1)),())),(((x.2.1.1.1,()),((x.2.1.2.1.1,()),(x.2.1.2.2.1,(x.2.1.2.2.2.1,())))),()))))
   (cond (not x.1.1)
    (some ((OS,((13:Int),())),()))
    (some ((((x.2.1.2.2.2.1.1,x.2.1.2.2.2.1.2.1),x.2.1.1.1.2),((0:Int),())),()))):=by kernel_rfl
end Go.Vs
set_option maxRecDepth 1000000
set_option maxHeartbeats 0
namespace Go.Vs
open Go.Proofs
theorem afD(F:FT)(J:JT Nv)(x:TH):bU 216 Nv Tryz.f216 F J x =
  (F 124 tX ((x.1.1,(x.1.2.1,())),())).bind fun(y1:Qr) =>
  cond (not y1.1.2.1)
   (some ((OD,(false,())),()))
   ((F 121 Db ((x.1.2.1,()),())).bind fun(y2:Fp) =>
   (F 234 Qm ((x.1.1,(y2.1.1,())),())).bind fun(y3:Kg) =>
   some (y3.1,())):=by kernel_rfl
theorem afE(F:FT)(J:JT De)(x:Q30):bU 217 De Tryz.f217 F J x =
 J BH (aM Tryz.prog 217 0) (((0:Int),()),(((x.1.1,()),((x.1.2.1,()),())),())):=by kernel_rfl
theorem QK(F:FT)(J:JT De)(x:(aaa×((acd×acC)×Unit))):eR 217 0 De Tryz.f217 BH F J x =
  cond (decide (x.1.1<(lI x.2.1.1.1.1)))
   (((aY x.2.1.1.1.1 x.1.1)).bind fun(y1:ah) =>
   cond ((y1.1.1==x.2.1.2.1.1.1)&&(y1.1.2==x.2.1.2.1.1.2))
    (some (x.1,()))
    (J BH (aM Tryz.prog 217 0) (((wI (x.1.1+1)),()),(((x.2.1.1.1,()),((x.2.1.2.1.1,()),())),()))))
   (some (((-1:Int),()),())):=by kernel_rfl
theorem afF(F:FT)(J:JT sM)(x:Q5):bU 193 sM Tryz.f193 F J x =
 J BI (aM Tryz.prog 193 0) (((0:Int),()),(((x.1.1,()),()),(([]:List Int),()))):=by kernel_rfl
theorem QL(F:FT)(J:JT sM)(x:(aaa×(abq×abx))):eR 193 0 sM Tryz.f193 BI F J x =
  cond (decide (x.1.1<(lI x.2.1.1.1.1)))
   (cond (aO (List.length x.2.2.1) (List.length (x.1.1::([]:List Int))))
    (J BI (aM Tryz.prog 193 0) (((wI (x.1.1+1)),()),(((x.2.1.1.1,()),()),((x.2.2.1++(x.1.1::([]:List Int))),()))))
    (none))
   (J wX (aM Tryz.prog 193 1) (((0:Int),()),(((x.2.1.1.1,()),()),x.2.2))):=by kernel_rfl
theorem QM(F:FT)(J:JT sM)(x:(aaa×(abq×abx))):eR 193 1 sM Tryz.f193 wX F J x =
  cond (decide (x.1.1<(lI x.2.1.1.1.1)))
   (J rl (aM Tryz.prog 193 2) ((x.1.1,((0:Int),())),(((x.2.1.1.1,()),()),x.2.2)))
   (some (x.2.2,())):=by kernel_rfl
theorem QN(F:FT)(J:JT sM)(x:(aaf×(abq×abx))):eR 193 2 sM Tryz.f193 rl F J x =
  cond (decide (x.1.2.1<(lI x.2.1.1.1.2)))
   (((aY x.2.1.1.1.2 x.1.2.1)).bind fun(y1:ai) =>
   (F 124 tX ((x.2.1.1.1,((y1.1,(0:Int)),())),())).bind fun(y2:Qr) =>
   ((aY x.2.1.1.1.2 x.1.2.1)).bind fun(y3:ai) =>
   (F 124 tX ((x.2.1.1.1,((y3.1,(1:Int)),())),())).bind fun(y4:Qr) =>
   (F 217 De ((x.2.1.1.1,(y2.1.1,())),())).bind fun(y5:Q2) =>
   (F 217 De ((x.2.1.1.1,(y4.1.1,())),())).bind fun(y6:Q2) =>
   cond (decide (y5.1.1≥0))
    (cond (decide (y6.1.1≥0))
     (cond ((decide ((0:Int)≤y5.1.1))&&(decide (y5.1.1<(lI x.2.2.1))))
      (((x.2.2.1)[(Int.toNat y5.1.1)]?).bind fun(y7:Int) =>
      cond ((decide ((0:Int)≤y6.1.1))&&(decide (y6.1.1<(lI x.2.2.1))))
       (((x.2.2.1)[(Int.toNat y6.1.1)]?).bind fun(y8:Int) =>
       cond ((decide ((0:Int)≤y5.1.1))&&(decide (y5.1.1<(lI x.2.2.1))))
        (((x.2.2.1)[(Int.toNat y5.1.1)]?).bind fun(y9:Int) =>
        cond ((decide ((0:Int)≤y6.1.1))&&(decide (y6.1.1<(lI (List.set x.2.2.1 (Int.toNat y5.1.1) (min y7 y8:Int))))))
         ((((List.set x.2.2.1 (Int.toNat y5.1.1) (min y7 y8:Int)))[(Int.toNat y6.1.1)]?).bind fun(oU:Int) =>
         J rl (aM Tryz.prog 193 2) ((x.1.1,((wI (x.1.2.1+1)),())),(((x.2.1.1.1,()),()),((List.set (List.set x.2.2.1 (Int.toNat y5.1.1) (min y7 y8:Int)) (Int.toNat y6.1.1) (min y7 y8:Int)),()))))
         (none))
        (none))
       (none))
      (none))
     (J rl (aM Tryz.prog 193 2) ((x.1.1,((wI (x.1.2.1+1)),())),(((x.2.1.1.1,()),()),x.2.2))))
    (J rl (aM Tryz.prog 193 2) ((x.1.1,((wI (x.1.2.1+1)),())),(((x.2.1.1.1,()),()),x.2.2))))
   (J wX (aM Tryz.prog 193 1) (((wI (x.1.1+1)),()),(((x.2.1.1.1,()),()),x.2.2))):=by kernel_rfl
theorem afG(F:FT)(J:JT Hq)(x:(((List ae)×abv)×Unit)):bU 98 Hq Tryz.f98 F J x =
  cond ((lI x.1.1) != (lI x.1.2.1))
   (some ((false,()),()))
   (J BJ (aM Tryz.prog 98 0) ((x.1.1,(x.1.2.1,((0:Int),()))),((),()))):=by kernel_rfl
theorem QO(F:FT)(J:JT Hq)(x:(((List ae)×aco)×ab9)):eR 98 0 Hq Tryz.f98 BJ F J x =
  cond (decide (x.1.2.2.1<(lI x.1.1)))
   (((aY x.1.1 x.1.2.2.1)).bind fun(y1:ae) =>
   ((aY x.1.2.1 x.1.2.2.1)).bind fun(y2:ae) =>
   cond (not (((y1.1.1==y2.1.1)&&(y1.1.2==y2.1.2))&&(y1.2==y2.2)))
    (some ((false,()),()))
    (J BJ (aM Tryz.prog 98 0) ((x.1.1,(x.1.2.1,((wI (x.1.2.2.1+1)),()))),((),()))))
   (some ((true,()),())):=by kernel_rfl
theorem afH(F:FT)(J:JT Hr)(x:Q3):bU 66 Hr Tryz.f66 F J x =
  cond ((lI x.1.1)==0)
   (some (((3:Int),()),()))
   (cond (decide ((lI x.1.1)>6))
    (some (((3:Int),()),()))
    (J BL (aM Tryz.prog 66 0) ((x.1.1,((lI x.1.1),((0:Int),()))),((),())))):=by kernel_rfl
theorem QP(F:FT)(J:JT Hr)(x:(((List aZ)×aaf)×ab9)):eR 66 0 Hr Tryz.f66 BL F J x =
  cond (decide (x.1.2.2.1<x.1.2.1))
   (((aY x.1.1 x.1.2.2.1)).bind fun(y1:aZ) =>
   (F 104 Kd ((y1,()),())).bind fun(y2:Q2) =>
   cond (y2.1.1 != 0)
    (some (y2.1,()))
    (J BL (aM Tryz.prog 66 0) ((x.1.1,(x.1.2.1,((wI (x.1.2.2.1+1)),()))),((),()))))
   (some (((0:Int),()),())):=by kernel_rfl
theorem afI(F:FT)(J:JT Fj)(x:Q5):bU 191 Fj Tryz.f191 F J x =
 J BM (aM Tryz.prog 191 0) (((0:Int),()),(((x.1.1,()),()),(([]:List ae),()))):=by kernel_rfl
theorem QQ(F:FT)(J:JT Fj)(x:(aaa×(abq×abv))):eR 191 0 Fj Tryz.f191 BM F J x =
  cond (decide (x.1.1<(lI x.2.1.1.1.2)))
   (((aY x.2.1.1.1.2 x.1.1)).bind fun(y1:ai) =>
   ((aY x.2.1.1.1.2 x.1.1)).bind fun(y2:ai) =>
   cond (aO (List.length x.2.2.1) (List.length ((y1.1,(0:Int))::((y2.1,(1:Int))::([]:List ae)))))
    (J BM (aM Tryz.prog 191 0) (((wI (x.1.1+1)),()),(((x.2.1.1.1,()),()),((x.2.2.1++((y1.1,(0:Int))::((y2.1,(1:Int))::([]:List ae)))),()))))
    (none))
   (some (x.2.2,())):=by kernel_rfl
theorem afJ(F:FT)(J:JT Hs)(x:Q5):bU 96 Hs Tryz.f96 F J x =
 (F 127 NB ((x.1.1.1,()),())).bind fun(y1:(((List ah)×Unit)×Unit)) =>
 (F 128 NC ((x.1.1.2,()),())).bind fun(y2:(((List ai)×Unit)×Unit)) =>
 J BN (aM Tryz.prog 96 0) (((lI y1.1.1),((0:Int),())),(((([]:List ah),(([]:List ai),())),((y1.1.1,y2.1),())),())):=by kernel_rfl
theorem QR(F:FT)(J:JT Hs)(x:(aaf×(aad×Unit))):eR 96 0 Hs Tryz.f96 BN F J x =
  cond (decide (x.1.2.1<x.1.1))
   (cond ((decide ((0:Int)≤x.1.2.1))&&(decide (x.1.2.1<(lI x.2.1.2.1.1))))
    (((x.2.1.2.1.1)[(Int.toNat x.1.2.1)]?).bind fun(y3:ah) =>
    (F 110 ze ((y3.2.1,()),())).bind fun(y4:Q6) =>
    cond ((decide ((0:Int)≤x.1.2.1))&&(decide (x.1.2.1<(lI x.2.1.2.1.1))))
     (((x.2.1.2.1.1)[(Int.toNat x.1.2.1)]?).bind fun(y5:ah) =>
     J BN (aM Tryz.prog 96 0) ((x.1.1,((wI (x.1.2.1+1)),())),((x.2.1.1,(((List.set x.2.1.2.1.1 (Int.toNat x.1.2.1) (y5.1,(y4.1.1,y5.2.2))),x.2.1.2.1.2),())),())))
     (none))
    (none))
   (some ((x.2.1.2.1,()),())):=by kernel_rfl
theorem afK(F:FT)(J:JT Ke)(x:Wc):bU 97 Ke Tryz.f97 F J x =
  cond (List.isEmpty x.1.1)
   (sK 2 fun(j1:Nat) =>
   cond ((j1==0)==true)
    (some ((([]:List aA),()),()))
    (cond (aO (List.length ([]:List aA)) (List.length x.1.1))
     (some (((([]:List aA)++x.1.1),()),()))
     (none)))
   (cond (aO (List.length ([]:List aA)) (List.length x.1.1))
    (some (((([]:List aA)++x.1.1),()),()))
    (none)):=by kernel_rfl
theorem afL(F:FT)(J:JT Kf)(x:Q33):bU 71 Kf Tryz.f71 F J x =
  (F 105 Fl ((x.1.1.1,(x.1.2.1.1,())),())).bind fun(y1:Q2) =>
  cond (y1.1.1 != 0)
   (some (y1.1,()))
   (cond (decide (x.1.1.2<x.1.2.1.2))
    (some (((-1:Int),()),()))
    (cond (decide (x.1.1.2>x.1.2.1.2))
     (some (((1:Int),()),()))
     (some (((0:Int),()),())))):=by kernel_rfl
theorem afM(F:FT)(J:JT qt)(x:Q5):bU 106 qt Tryz.f106 F J x =
  cond (decide ((lI x.1.1.1)>24))
   (some (((3:Int),()),()))
   (cond (decide ((lI x.1.1.2)>40))
    (some (((3:Int),()),()))
    ((F 133 zg ((x.1.1,()),())).bind fun(y1:(((List ID)×Unit)×Unit)) =>
    cond (bj (List.length y1.1.1) (0:Int) (lI x.1.1.1))
     ((F 134 vf (((cut y1.1.1 (0:Int) (lI x.1.1.1)),()),())).bind fun(y2:Q0) =>
     cond (bj (List.length y1.1.1) (lI x.1.1.1) (lI y1.1.1))
      ((F 134 vf (((cut y1.1.1 (lI x.1.1.1) (lI y1.1.1)),()),())).bind fun(y3:Q0) =>
      cond (not y2.1.1)
       (some (((10:Int),()),()))
       (cond (not y3.1.1)
        (some (((10:Int),()),()))
        ((F 135 k9 ((x.1.1,()),())).bind fun(y4:Q0) =>
        cond (not y4.1.1)
         (some (((10:Int),()),()))
         (J pP (aM Tryz.prog 106 0) (((lI x.1.1.1),(true,(true,((0:Int),())))),(((x.1.1,()),()),()))))))
      (none))
     (none))):=by kernel_rfl
theorem QS(F:FT)(J:JT qt)(x:((Int×(Bool×(Bool×aaa)))×acH)):eR 106 0 qt Tryz.f106 pP F J x =
  cond (decide (x.1.2.2.2.1<x.1.1))
   (cond x.1.2.1
    (((aY x.2.1.1.1.1 x.1.2.2.2.1)).bind fun(y5:ah) =>
    (F 91 wR ((y5.2.2.1,()),())).bind fun(y6:Q0) =>
    cond x.1.2.2.1
     (((aY x.2.1.1.1.1 x.1.2.2.2.1)).bind fun(y7:ah) =>
     (F 90 yY ((y7.2.2.2,()),())).bind fun(y8:Q0) =>
     J pP (aM Tryz.prog 106 0) ((x.1.1,(y6.1.1,(y8.1.1,((wI (x.1.2.2.2.1+1)),())))),(((x.2.1.1.1,()),()),())))
     (J pP (aM Tryz.prog 106 0) ((x.1.1,(y6.1.1,(false,((wI (x.1.2.2.2.1+1)),())))),(((x.2.1.1.1,()),()),()))))
    (cond x.1.2.2.1
     (((aY x.2.1.1.1.1 x.1.2.2.2.1)).bind fun(y9:ah) =>
     (F 90 yY ((y9.2.2.2,()),())).bind fun(oU:Q0) =>
     J pP (aM Tryz.prog 106 0) ((x.1.1,(false,(oU.1.1,((wI (x.1.2.2.2.1+1)),())))),(((x.2.1.1.1,()),()),())))
     (J pP (aM Tryz.prog 106 0) ((x.1.1,(false,(false,((wI (x.1.2.2.2.1+1)),())))),(((x.2.1.1.1,()),()),())))))
   (J pQ (aM Tryz.prog 106 1) ((x.1.2.1,(x.1.2.2.1,((0:Int),()))),(((x.2.1.1.1,()),()),()))):=by kernel_rfl
theorem QT(F:FT)(J:JT qt)(x:((Bool×(Bool×aaa))×acH)):eR 106 1 qt Tryz.f106 pQ F J x =
  cond (decide (x.1.2.2.1<(lI x.2.1.1.1.2)))
   (cond x.1.1
    (((aY x.2.1.1.1.2 x.1.2.2.1)).bind fun(mE:ai) =>
    (F 91 wR ((mE.2.1,()),())).bind fun(qk:Q0) =>
    cond x.1.2.1
     (((aY x.2.1.1.1.2 x.1.2.2.1)).bind fun(la:ai) =>
     (F 90 yY ((la.2.2,()),())).bind fun(Ft:Q0) =>
     J pQ (aM Tryz.prog 106 1) ((qk.1.1,(Ft.1.1,((wI (x.1.2.2.1+1)),()))),(((x.2.1.1.1,()),()),())))
     (J pQ (aM Tryz.prog 106 1) ((qk.1.1,(false,((wI (x.1.2.2.1+1)),()))),(((x.2.1.1.1,()),()),()))))
    (cond x.1.2.1
     (((aY x.2.1.1.1.2 x.1.2.2.1)).bind fun(uz:ai) =>
     (F 90 yY ((uz.2.2,()),())).bind fun(TI:Q0) =>
     J pQ (aM Tryz.prog 106 1) ((false,(TI.1.1,((wI (x.1.2.2.1+1)),()))),(((x.2.1.1.1,()),()),())))
     (J pQ (aM Tryz.prog 106 1) ((false,(false,((wI (x.1.2.2.1+1)),()))),(((x.2.1.1.1,()),()),())))))
   (cond (not x.1.1)
    (some (((4:Int),()),()))
    (cond (not x.1.2.1)
     (some (((1:Int),()),()))
     (some (((0:Int),()),())))):=by kernel_rfl
theorem afN(F:FT)(J:JT Fk)(x:Q5):bU 107 Fk Tryz.f107 F J x =
  (F 136 Fm ((x.1.1,()),())).bind fun(y1:((Int×(Int×(Int×(Int×Unit))))×Unit)) =>
  cond ((2:Int)==0)
   (none)
   (some (((wI (Int.tdiv (wI ((wI ((wI ((wI ((2:Int)*y1.1.2.2.2.1))-y1.1.1))+y1.1.2.1))-y1.1.2.2.1)) (2:Int))),()),())):=by kernel_rfl
theorem afO(F:FT)(J:JT Ql)(x:(acx×Unit)):bU 132 Ql Tryz.f132 F J x =
  (F 159 q9 ((x.1.1.2.1,()),())).bind fun(y1:Q0) =>
  cond (x.1.1.1==1)
   (cond (x.1.1.1==1)
    (cond (not y1.1.1)
     (some (((x.1.1.1,(x.1.1.2.1,(OI,(OI,(OC,(OC,(false,(OB,(0:Int))))))))),((1:Int),())),()))
     (some (((x.1.1.1,(x.1.1.2.1,(OI,(OI,(OC,(OC,(false,(OB,(0:Int))))))))),((0:Int),())),())))
    (cond (x.1.1.1==6)
     (cond y1.1.1
      ((F 159 q9 ((x.1.1.2.2.2.1,()),())).bind fun(y2:Q0) =>
      cond (not y2.1.1)
       (some (((x.1.1.1,(x.1.1.2.1,(OI,(x.1.1.2.2.2.1,(OC,(OC,(false,(OB,(0:Int))))))))),((1:Int),())),()))
       (some (((x.1.1.1,(x.1.1.2.1,(OI,(x.1.1.2.2.2.1,(OC,(OC,(false,(OB,(0:Int))))))))),((0:Int),())),())))
      (some (((x.1.1.1,(x.1.1.2.1,(OI,(x.1.1.2.2.2.1,(OC,(OC,(false,(OB,(0:Int))))))))),((1:Int),())),())))
     (cond (x.1.1.1==3)
      (cond y1.1.1
       ((F 160 Df ((x.1.1.2.2.2.2.1,()),())).bind fun(y3:Q0) =>
       cond y3.1.1
        ((F 160 Df ((x.1.1.2.2.2.2.2.1,()),())).bind fun(y4:Q0) =>
        cond (not y4.1.1)
         (some (((x.1.1.1,(x.1.1.2.1,(OI,(OI,(x.1.1.2.2.2.2.1,(x.1.1.2.2.2.2.2.1,(false,(OB,(0:Int))))))))),((1:Int),())),()))
         (some (((x.1.1.1,(x.1.1.2.1,(OI,(OI,(x.1.1.2.2.2.2.1,(x.1.1.2.2.2.2.2.1,(false,(OB,(0:Int))))))))),((0:Int),())),())))
        (some (((x.1.1.1,(x.1.1.2.1,(OI,(OI,(x.1.1.2.2.2.2.1,(x.1.1.2.2.2.2.2.1,(false,(OB,(0:Int))))))))),((1:Int),())),())))
       (some (((x.1.1.1,(x.1.1.2.1,(OI,(OI,(x.1.1.2.2.2.2.1,(x.1.1.2.2.2.2.2.1,(false,(OB,(0:Int))))))))),((1:Int),())),())))
      (cond (x.1.1.1==5)
       (cond y1.1.1
        ((F 159 q9 ((x.1.1.2.2.1,()),())).bind fun(y5:Q0) =>
        cond y5.1.1
         ((F 159 q9 ((x.1.1.2.2.2.1,()),())).bind fun(y6:Q0) =>
         cond y6.1.1
          (cond (not ((cU .andNot .i64 x.1.1.2.2.2.2.2.2.2.2 (3:Int))==0))
           (some (((x.1.1.1,(x.1.1.2.1,(x.1.1.2.2.1,(x.1.1.2.2.2.1,(OC,(OC,(false,(OB,x.1.1.2.2.2.2.2.2.2.2)))))))),((1:Int),())),()))
           (some (((x.1.1.1,(x.1.1.2.1,(x.1.1.2.2.1,(x.1.1.2.2.2.1,(OC,(OC,(false,(OB,x.1.1.2.2.2.2.2.2.2.2)))))))),((0:Int),())),())))
          (some (((x.1.1.1,(x.1.1.2.1,(x.1.1.2.2.1,(x.1.1.2.2.2.1,(OC,(OC,(false,(OB,x.1.1.2.2.2.2.2.2.2.2)))))))),((1:Int),())),())))
         (some (((x.1.1.1,(x.1.1.2.1,(x.1.1.2.2.1,(x.1.1.2.2.2.1,(OC,(OC,(false,(OB,x.1.1.2.2.2.2.2.2.2.2)))))))),((1:Int),())),())))
        (some (((x.1.1.1,(x.1.1.2.1,(x.1.1.2.2.1,(x.1.1.2.2.2.1,(OC,(OC,(false,(OB,x.1.1.2.2.2.2.2.2.2.2)))))))),((1:Int),())),())))
       (cond (x.1.1.1==7)
        ((F 161 wS ((x.1.1.2.2.2.2.2.2.2.1,()),())).bind fun(y7:Q0) =>
        cond (not y7.1.1)
         (cond (not y1.1.1)
          (some (((x.1.1.1,(x.1.1.2.1,(OI,(OI,(OC,(OC,(x.1.1.2.2.2.2.2.2.1,(x.1.1.2.2.2.2.2.2.2.1,(0:Int))))))))),((1:Int),())),()))
          (some (((x.1.1.1,(x.1.1.2.1,(OI,(OI,(OC,(OC,(x.1.1.2.2.2.2.2.2.1,(x.1.1.2.2.2.2.2.2.2.1,(0:Int))))))))),((4:Int),())),())))
         (cond (not y1.1.1)
          (some (((x.1.1.1,(x.1.1.2.1,(OI,(OI,(OC,(OC,(x.1.1.2.2.2.2.2.2.1,(x.1.1.2.2.2.2.2.2.2.1,(0:Int))))))))),((1:Int),())),()))
          (some (((x.1.1.1,(x.1.1.2.1,(OI,(OI,(OC,(OC,(x.1.1.2.2.2.2.2.2.1,(x.1.1.2.2.2.2.2.2.2.1,(0:Int))))))))),((0:Int),())),()))))
        (cond (x.1.1.1==8)
         (cond y1.1.1
          ((F 162 Hu ((x.1.1.2.2.2.2.2.2.2.2,()),())).bind fun(y8:Q0) =>
          cond (not y8.1.1)
           (some (((x.1.1.1,(x.1.1.2.1,(OI,(OI,(OC,(OC,(x.1.1.2.2.2.2.2.2.1,(OB,x.1.1.2.2.2.2.2.2.2.2)))))))),((1:Int),())),()))
           (some (((x.1.1.1,(x.1.1.2.1,(OI,(OI,(OC,(OC,(x.1.1.2.2.2.2.2.2.1,(OB,x.1.1.2.2.2.2.2.2.2.2)))))))),((0:Int),())),())))
          (some (((x.1.1.1,(x.1.1.2.1,(OI,(OI,(OC,(OC,(x.1.1.2.2.2.2.2.2.1,(OB,x.1.1.2.2.2.2.2.2.2.2)))))))),((1:Int),())),())))
         (some (((x.1.1.1,(x.1.1.2.1,(OI,(OI,(OC,(OC,(false,(OB,(0:Int))))))))),((1:Int),())),()))))))))
   (cond (x.1.1.1==2)
    (cond (x.1.1.1==2)
     (cond (not y1.1.1)
      (some (((x.1.1.1,(x.1.1.2.1,(OI,(OI,(OC,(OC,(false,(OB,(0:Int))))))))),((1:Int),())),()))
      (some (((x.1.1.1,(x.1.1.2.1,(OI,(OI,(OC,(OC,(false,(OB,(0:Int))))))))),((0:Int),())),())))
     (cond (x.1.1.1==6)
      (cond y1.1.1
       ((F 159 q9 ((x.1.1.2.2.2.1,()),())).bind fun(y9:Q0) =>
       cond (not y9.1.1)
        (some (((x.1.1.1,(x.1.1.2.1,(OI,(x.1.1.2.2.2.1,(OC,(OC,(false,(OB,(0:Int))))))))),((1:Int),())),()))
        (some (((x.1.1.1,(x.1.1.2.1,(OI,(x.1.1.2.2.2.1,(OC,(OC,(false,(OB,(0:Int))))))))),((0:Int),())),())))
       (some (((x.1.1.1,(x.1.1.2.1,(OI,(x.1.1.2.2.2.1,(OC,(OC,(false,(OB,(0:Int))))))))),((1:Int),())),())))
      (cond (x.1.1.1==3)
       (cond y1.1.1
        ((F 160 Df ((x.1.1.2.2.2.2.1,()),())).bind fun(oU:Q0) =>
        cond oU.1.1
         ((F 160 Df ((x.1.1.2.2.2.2.2.1,()),())).bind fun(mE:Q0) =>
         cond (not mE.1.1)
          (some (((x.1.1.1,(x.1.1.2.1,(OI,(OI,(x.1.1.2.2.2.2.1,(x.1.1.2.2.2.2.2.1,(false,(OB,(0:Int))))))))),((1:Int),())),()))
          (some (((x.1.1.1,(x.1.1.2.1,(OI,(OI,(x.1.1.2.2.2.2.1,(x.1.1.2.2.2.2.2.1,(false,(OB,(0:Int))))))))),((0:Int),())),())))
         (some (((x.1.1.1,(x.1.1.2.1,(OI,(OI,(x.1.1.2.2.2.2.1,(x.1.1.2.2.2.2.2.1,(false,(OB,(0:Int))))))))),((1:Int),())),())))
        (some (((x.1.1.1,(x.1.1.2.1,(OI,(OI,(x.1.1.2.2.2.2.1,(x.1.1.2.2.2.2.2.1,(false,(OB,(0:Int))))))))),((1:Int),())),())))
       (cond (x.1.1.1==5)
        (cond y1.1.1
         ((F 159 q9 ((x.1.1.2.2.1,()),())).bind fun(qk:Q0) =>
         cond qk.1.1
          ((F 159 q9 ((x.1.1.2.2.2.1,()),())).bind fun(la:Q0) =>
          cond la.1.1
           (cond (not ((cU .andNot .i64 x.1.1.2.2.2.2.2.2.2.2 (3:Int))==0))
            (some (((x.1.1.1,(x.1.1.2.1,(x.1.1.2.2.1,(x.1.1.2.2.2.1,(OC,(OC,(false,(OB,x.1.1.2.2.2.2.2.2.2.2)))))))),((1:Int),())),()))
            (some (((x.1.1.1,(x.1.1.2.1,(x.1.1.2.2.1,(x.1.1.2.2.2.1,(OC,(OC,(false,(OB,x.1.1.2.2.2.2.2.2.2.2)))))))),((0:Int),())),())))
           (some (((x.1.1.1,(x.1.1.2.1,(x.1.1.2.2.1,(x.1.1.2.2.2.1,(OC,(OC,(false,(OB,x.1.1.2.2.2.2.2.2.2.2)))))))),((1:Int),())),())))
          (some (((x.1.1.1,(x.1.1.2.1,(x.1.1.2.2.1,(x.1.1.2.2.2.1,(OC,(OC,(false,(OB,x.1.1.2.2.2.2.2.2.2.2)))))))),((1:Int),())),())))
         (some (((x.1.1.1,(x.1.1.2.1,(x.1.1.2.2.1,(x.1.1.2.2.2.1,(OC,(OC,(false,(OB,x.1.1.2.2.2.2.2.2.2.2)))))))),((1:Int),())),())))
        (cond (x.1.1.1==7)
         ((F 161 wS ((x.1.1.2.2.2.2.2.2.2.1,()),())).bind fun(Ft:Q0) =>
         cond (not Ft.1.1)
          (cond (not y1.1.1)
           (some (((x.1.1.1,(x.1.1.2.1,(OI,(OI,(OC,(OC,(x.1.1.2.2.2.2.2.2.1,(x.1.1.2.2.2.2.2.2.2.1,(0:Int))))))))),((1:Int),())),()))
           (some (((x.1.1.1,(x.1.1.2.1,(OI,(OI,(OC,(OC,(x.1.1.2.2.2.2.2.2.1,(x.1.1.2.2.2.2.2.2.2.1,(0:Int))))))))),((4:Int),())),())))
          (cond (not y1.1.1)
           (some (((x.1.1.1,(x.1.1.2.1,(OI,(OI,(OC,(OC,(x.1.1.2.2.2.2.2.2.1,(x.1.1.2.2.2.2.2.2.2.1,(0:Int))))))))),((1:Int),())),()))
           (some (((x.1.1.1,(x.1.1.2.1,(OI,(OI,(OC,(OC,(x.1.1.2.2.2.2.2.2.1,(x.1.1.2.2.2.2.2.2.2.1,(0:Int))))))))),((0:Int),())),()))))
         (cond (x.1.1.1==8)
          (cond y1.1.1
           ((F 162 Hu ((x.1.1.2.2.2.2.2.2.2.2,()),())).bind fun(uz:Q0) =>
           cond (not uz.1.1)
            (some (((x.1.1.1,(x.1.1.2.1,(OI,(OI,(OC,(OC,(x.1.1.2.2.2.2.2.2.1,(OB,x.1.1.2.2.2.2.2.2.2.2)))))))),((1:Int),())),()))
            (some (((x.1.1.1,(x.1.1.2.1,(OI,(OI,(OC,(OC,(x.1.1.2.2.2.2.2.2.1,(OB,x.1.1.2.2.2.2.2.2.2.2)))))))),((0:Int),())),())))
           (some (((x.1.1.1,(x.1.1.2.1,(OI,(OI,(OC,(OC,(x.1.1.2.2.2.2.2.2.1,(OB,x.1.1.2.2.2.2.2.2.2.2)))))))),((1:Int),())),())))
          (some (((x.1.1.1,(x.1.1.2.1,(OI,(OI,(OC,(OC,(false,(OB,(0:Int))))))))),((1:Int),())),()))))))))
    (cond (x.1.1.1==4)
     (cond (not y1.1.1)
      (some (((x.1.1.1,(x.1.1.2.1,(OI,(OI,(OC,(OC,(false,(OB,(0:Int))))))))),((1:Int),())),()))
      (some (((x.1.1.1,(x.1.1.2.1,(OI,(OI,(OC,(OC,(false,(OB,(0:Int))))))))),((0:Int),())),())))
     (cond (x.1.1.1==6)
      (cond y1.1.1
       ((F 159 q9 ((x.1.1.2.2.2.1,()),())).bind fun(TI:Q0) =>
       cond (not TI.1.1)
        (some (((x.1.1.1,(x.1.1.2.1,(OI,(x.1.1.2.2.2.1,(OC,(OC,(false,(OB,(0:Int))))))))),((1:Int),())),()))
        (some (((x.1.1.1,(x.1.1.2.1,(OI,(x.1.1.2.2.2.1,(OC,(OC,(false,(OB,(0:Int))))))))),((0:Int),())),())))
       (some (((x.1.1.1,(x.1.1.2.1,(OI,(x.1.1.2.2.2.1,(OC,(OC,(false,(OB,(0:Int))))))))),((1:Int),())),())))
      (cond (x.1.1.1==3)
       (cond y1.1.1
        ((F 160 Df ((x.1.1.2.2.2.2.1,()),())).bind fun(Wh:Q0) =>
        cond Wh.1.1
         ((F 160 Df ((x.1.1.2.2.2.2.2.1,()),())).bind fun(Y2:Q0) =>
         cond (not Y2.1.1)
          (some (((x.1.1.1,(x.1.1.2.1,(OI,(OI,(x.1.1.2.2.2.2.1,(x.1.1.2.2.2.2.2.1,(false,(OB,(0:Int))))))))),((1:Int),())),()))
          (some (((x.1.1.1,(x.1.1.2.1,(OI,(OI,(x.1.1.2.2.2.2.1,(x.1.1.2.2.2.2.2.1,(false,(OB,(0:Int))))))))),((0:Int),())),())))
         (some (((x.1.1.1,(x.1.1.2.1,(OI,(OI,(x.1.1.2.2.2.2.1,(x.1.1.2.2.2.2.2.1,(false,(OB,(0:Int))))))))),((1:Int),())),())))
        (some (((x.1.1.1,(x.1.1.2.1,(OI,(OI,(x.1.1.2.2.2.2.1,(x.1.1.2.2.2.2.2.1,(false,(OB,(0:Int))))))))),((1:Int),())),())))
       (cond (x.1.1.1==5)
        (cond y1.1.1
         ((F 159 q9 ((x.1.1.2.2.1,()),())).bind fun(Wi:Q0) =>
         cond Wi.1.1
          ((F 159 q9 ((x.1.1.2.2.2.1,()),())).bind fun(HT:Q0) =>
          cond HT.1.1
           (cond (not ((cU .andNot .i64 x.1.1.2.2.2.2.2.2.2.2 (3:Int))==0))
            (some (((x.1.1.1,(x.1.1.2.1,(x.1.1.2.2.1,(x.1.1.2.2.2.1,(OC,(OC,(false,(OB,x.1.1.2.2.2.2.2.2.2.2)))))))),((1:Int),())),()))
            (some (((x.1.1.1,(x.1.1.2.1,(x.1.1.2.2.1,(x.1.1.2.2.2.1,(OC,(OC,(false,(OB,x.1.1.2.2.2.2.2.2.2.2)))))))),((0:Int),())),())))
           (some (((x.1.1.1,(x.1.1.2.1,(x.1.1.2.2.1,(x.1.1.2.2.2.1,(OC,(OC,(false,(OB,x.1.1.2.2.2.2.2.2.2.2)))))))),((1:Int),())),())))
          (some (((x.1.1.1,(x.1.1.2.1,(x.1.1.2.2.1,(x.1.1.2.2.2.1,(OC,(OC,(false,(OB,x.1.1.2.2.2.2.2.2.2.2)))))))),((1:Int),())),())))
         (some (((x.1.1.1,(x.1.1.2.1,(x.1.1.2.2.1,(x.1.1.2.2.2.1,(OC,(OC,(false,(OB,x.1.1.2.2.2.2.2.2.2.2)))))))),((1:Int),())),())))
        (cond (x.1.1.1==7)
         ((F 161 wS ((x.1.1.2.2.2.2.2.2.2.1,()),())).bind fun(y21:Q0) =>
         cond (not y21.1.1)
          (cond (not y1.1.1)
           (some (((x.1.1.1,(x.1.1.2.1,(OI,(OI,(OC,(OC,(x.1.1.2.2.2.2.2.2.1,(x.1.1.2.2.2.2.2.2.2.1,(0:Int))))))))),((1:Int),())),()))
           (some (((x.1.1.1,(x.1.1.2.1,(OI,(OI,(OC,(OC,(x.1.1.2.2.2.2.2.2.1,(x.1.1.2.2.2.2.2.2.2.1,(0:Int))))))))),((4:Int),())),())))
          (cond (not y1.1.1)
           (some (((x.1.1.1,(x.1.1.2.1,(OI,(OI,(OC,(OC,(x.1.1.2.2.2.2.2.2.1,(x.1.1.2.2.2.2.2.2.2.1,(0:Int))))))))),((1:Int),())),()))
           (some (((x.1.1.1,(x.1.1.2.1,(OI,(OI,(OC,(OC,(x.1.1.2.2.2.2.2.2.1,(x.1.1.2.2.2.2.2.2.2.1,(0:Int))))))))),((0:Int),())),()))))
         (cond (x.1.1.1==8)
          (cond y1.1.1
           ((F 162 Hu ((x.1.1.2.2.2.2.2.2.2.2,()),())).bind fun(y22:Q0) =>
           cond (not y22.1.1)
            (some (((x.1.1.1,(x.1.1.2.1,(OI,(OI,(OC,(OC,(x.1.1.2.2.2.2.2.2.1,(OB,x.1.1.2.2.2.2.2.2.2.2)))))))),((1:Int),())),()))
            (some (((x.1.1.1,(x.1.1.2.1,(OI,(OI,(OC,(OC,(x.1.1.2.2.2.2.2.2.1,(OB,x.1.1.2.2.2.2.2.2.2.2)))))))),((0:Int),())),())))
           (some (((x.1.1.1,(x.1.1.2.1,(OI,(OI,(OC,(OC,(x.1.1.2.2.2.2.2.2.1,(OB,x.1.1.2.2.2.2.2.2.2.2)))))))),((1:Int),())),())))
          (some (((x.1.1.1,(x.1.1.2.1,(OI,(OI,(OC,(OC,(false,(OB,(0:Int))))))))),((1:Int),())),()))))))))):=by kernel_rfl
theorem Ki(F:FT)(J:JT Bg)(x:We):bU 131 Bg Tryz.f131 F J x =
  cond (x.1.1.1==1)
   ((F 152 Hv (((x.1.1.2.1,(([]:List ae),(OB,(0:Int)))),()),(x.2.1,()))).bind fun(y1:Qs) =>
   some (y1.1,(y1.2.1,())))
   (cond (x.1.1.1==2)
    ((F 153 Qn ((x.1.1,()),(x.2.1,()))).bind fun(y2:Qs) =>
    some (y2.1,(y2.2.1,())))
    (cond (x.1.1.1==3)
     ((F 154 oq ((x.1.1,()),(x.2.1,()))).bind fun(y3:Qs) =>
     some (y3.1,(y3.2.1,())))
     (cond (x.1.1.1==4)
      ((F 155 Bh ((x.1.1,()),(x.2.1,()))).bind fun(y4:Qs) =>
      some (y4.1,(y4.2.1,())))
      (cond (x.1.1.1==5)
       ((F 156 zh ((x.1.1,()),(x.2.1,()))).bind fun(y5:Qs) =>
       some (y5.1,(y5.2.1,())))
       (cond (x.1.1.1==6)
        ((F 157 rf ((x.1.1,()),(x.2.1,()))).bind fun(y6:Qs) =>
        some (y6.1,(y6.2.1,())))
        ((F 158 Qo ((x.1.1,()),(x.2.1,()))).bind fun(y7:Qs) =>
        some (y7.1,(y7.2.1,())))))))):=by kernel_rfl
theorem afR(F:FT)(J:JT Nw)(x:(acx×Unit)):bU 88 Nw Tryz.f88 F J x =
  cond (x.1.1.1==3)
   (some ((((0:Int),(OI,(x.1.1.2.2.1,(x.1.1.2.2.2.1,(OC,(OC,x.1.1.2.2.2.2.2.2)))))),()),()))
   (cond (x.1.1.1==5)
    (some ((((0:Int),(OI,(OI,(OI,(x.1.1.2.2.2.2.1,(x.1.1.2.2.2.2.2.1,(x.1.1.2.2.2.2.2.2.1,(x.1.1.2.2.2.2.2.2.2.1,(0:Int))))))))),()),()))
    (cond (x.1.1.1==6)
     (some ((((0:Int),(OI,(x.1.1.2.2.1,(OI,x.1.1.2.2.2.2)))),()),()))
     (cond (x.1.1.1==7)
      (some ((((0:Int),(OI,(x.1.1.2.2.1,(x.1.1.2.2.2.1,(x.1.1.2.2.2.2.1,(x.1.1.2.2.2.2.2.1,(false,(OB,x.1.1.2.2.2.2.2.2.2.2)))))))),()),()))
      (cond (x.1.1.1==8)
       (some ((((0:Int),(OI,(x.1.1.2.2.1,(x.1.1.2.2.2.1,(x.1.1.2.2.2.2.1,(x.1.1.2.2.2.2.2.1,(false,(x.1.1.2.2.2.2.2.2.2.1,(0:Int))))))))),()),()))
       (some ((((0:Int),(OI,x.1.1.2.2)),()),())))))):=by kernel_rfl
theorem afS(F:FT)(J:JT Nx)(x:Q27):bU 89 Nx Tryz.f89 F J x =
  (F 87 yX ((x.1.1.1,()),())).bind fun(y1:Q0) =>
  (F 123 Qp ((x.1.1.2,()),())).bind fun(y2:Q0) =>
  cond y1.1.1
   (cond y2.1.1
    (some ((true,()),()))
    (some (((((x.1.1.2.1.1==0)&&(x.1.1.2.1.2==0))&&(x.1.1.2.2==0)),()),())))
   (some ((false,()),())):=by kernel_rfl
theorem afT(F:FT)(J:JT Fl)(x:((ID×abr)×Unit)):bU 105 Fl Tryz.f105 F J x =
  cond ((x.1.1.1==x.1.2.1.1)&&(x.1.1.2==x.1.2.1.2))
   (some (((0:Int),()),()))
   (cond (decide (x.1.1.1<x.1.2.1.1))
    (some (((-1:Int),()),()))
    (cond (x.1.1.1==x.1.2.1.1)
     (cond (decide (x.1.1.2<x.1.2.1.2))
      (some (((-1:Int),()),()))
      (some (((1:Int),()),())))
     (some (((1:Int),()),())))):=by kernel_rfl
theorem afU(F:FT)(J:JT Ny)(x:((StateT×(nF×Unit))×Unit)):bU 114 Ny Tryz.f114 F J x =
  (F 79 qq ((x.1.1.1,(x.1.2.1.1,())),())).bind fun(y1:Q7) =>
  cond (not y1.1.2.1)
   (some ((OC,((13:Int),())),()))
   ((F 143 Hw ((x.1.1,(x.1.2.1.2,())),())).bind fun(y2:Fp) =>
   (F 144 q8 ((y1.1.1.2.1,(y2.1.1,())),())).bind fun(y3:Q2) =>
   cond (decide (y3.1.1<0))
    (some (((x.1.2.1.1,OD),((0:Int),())),()))
    (some (((x.1.2.1.1,y2.1.1),((0:Int),())),()))):=by kernel_rfl
theorem afV(F:FT)(J:JT y0)(x:((aj×(ai×Unit))×Unit)):bU 115 y0 Tryz.f115 F J x =
 J tZ (aM Tryz.prog 115 0) ((false,((0:Int),())),(((x.1.1,()),((x.1.2.1,()),((([]:List ah),(([]:List ai),())),((x.1.1.1,(([]:List ai),())),())))),())):=by kernel_rfl
theorem QU(F:FT)(J:JT y0)(x:((Bool×aaa)×((acd×((ai×Unit)×aad))×Unit))):eR 115 0 y0 Tryz.f115 tZ F J x =
  cond (decide (x.1.2.1<(lI x.2.1.1.1.2)))
   (cond (not x.1.1)
    (((aY x.2.1.1.1.2 x.1.2.1)).bind fun(y1:ai) =>
    (F 105 Fl ((x.2.1.2.1.1.1,(y1.1,())),())).bind fun(y2:Q2) =>
    cond (decide (y2.1.1<0))
     (cond (aO (List.length x.2.1.2.2.2.1.2.1) (List.length (x.2.1.2.1.1::([]:List ai))))
      (((aY x.2.1.1.1.2 x.1.2.1)).bind fun(y3:ai) =>
      cond (aO (List.length (x.2.1.2.2.2.1.2.1++(x.2.1.2.1.1::([]:List ai)))) (List.length (y3::([]:List ai))))
       (J tZ (aM Tryz.prog 115 0) ((true,((wI (x.1.2.1+1)),())),(((x.2.1.1.1,()),((x.2.1.2.1.1,()),(x.2.1.2.2.1,((x.2.1.2.2.2.1.1,(((x.2.1.2.2.2.1.2.1++(x.2.1.2.1.1::([]:List ai)))++(y3::([]:List ai))),())),())))),())))
       (none))
      (none))
     (((aY x.2.1.1.1.2 x.1.2.1)).bind fun(y4:ai) =>
     cond (aO (List.length x.2.1.2.2.2.1.2.1) (List.length (y4::([]:List ai))))
      (J tZ (aM Tryz.prog 115 0) ((x.1.1,((wI (x.1.2.1+1)),())),(((x.2.1.1.1,()),((x.2.1.2.1.1,()),(x.2.1.2.2.1,((x.2.1.2.2.2.1.1,((x.2.1.2.2.2.1.2.1++(y4::([]:List ai))),())),())))),())))
      (none)))
    (((aY x.2.1.1.1.2 x.1.2.1)).bind fun(y5:ai) =>
    cond (aO (List.length x.2.1.2.2.2.1.2.1) (List.length (y5::([]:List ai))))
     (J tZ (aM Tryz.prog 115 0) ((x.1.1,((wI (x.1.2.1+1)),())),(((x.2.1.1.1,()),((x.2.1.2.1.1,()),(x.2.1.2.2.1,((x.2.1.2.2.2.1.1,((x.2.1.2.2.2.1.2.1++(y5::([]:List ai))),())),())))),())))
     (none)))
   (cond (not x.1.1)
    (cond (aO (List.length x.2.1.2.2.2.1.2.1) (List.length (x.2.1.2.1.1::([]:List ai))))
     (some (((x.2.1.2.2.2.1.1,(x.2.1.2.2.2.1.2.1++(x.2.1.2.1.1::([]:List ai)))),()),()))
     (none))
    (some (((x.2.1.2.2.2.1.1,x.2.1.2.2.2.1.2.1),()),()))):=by kernel_rfl
theorem afW(F:FT)(J:JT zc)(x:((aj×(nF×aae))×Unit)):bU 116 zc Tryz.f116 F J x =
 (F 79 qq ((x.1.1,(x.1.2.1.1,())),())).bind fun(y1:Q7) =>
 (F 146 yv ((y1.1.1.2.1,(x.1.2.1.2,(x.1.2.2.1,()))),())).bind fun(y2:Q6) =>
 (F 145 Dg ((x.1.1,(x.1.2.1.1,y2.1)),())).bind fun(y3:Q5) =>
 some ((y3.1.1,()),()):=by kernel_rfl
theorem afX(F:FT)(J:JT zd)(x:(((List aA)×(aA×Unit))×Unit)):bU 117 zd Tryz.f117 F J x =
  (F 147 td ((x.1.1,(x.1.2.1.1,())),())).bind fun(y1:Kg) =>
  cond (not y1.1.2.1)
   (cond (decide ((lI x.1.1)≥400))
    (some ((x.1.1,()),()))
    (J kQ (aM Tryz.prog 117 0) ((x.1.1,(false,((0:Int),()))),(((x.1.2.1,()),()),(([]:List aA),())))))
   (J kQ (aM Tryz.prog 117 0) ((x.1.1,(false,((0:Int),()))),(((x.1.2.1,()),()),(([]:List aA),())))):=by kernel_rfl
theorem QV(F:FT)(J:JT zd)(x:(((List aA)×(Bool×aaa))×(((aA×Unit)×Unit)×((List aA)×Unit)))):eR 117 0 zd Tryz.f117 kQ F J x =
  cond (decide (x.1.2.2.1<(lI x.1.1)))
   (cond (not x.1.2.1)
    (((aY x.1.1 x.1.2.2.1)).bind fun(y2:aA) =>
    (F 71 Kf ((x.2.1.1.1.1,(y2.1,())),())).bind fun(y3:Q2) =>
    cond (decide (y3.1.1≤0))
     (cond (aO (List.length x.2.2.1) (List.length (x.2.1.1.1::([]:List aA))))
      (((aY x.1.1 x.1.2.2.1)).bind fun(y4:aA) =>
      cond (not (((y4.1.1.1==x.2.1.1.1.1.1.1)&&(y4.1.1.2==x.2.1.1.1.1.1.2))&&(y4.1.2==x.2.1.1.1.1.2)))
       (((aY x.1.1 x.1.2.2.1)).bind fun(y5:aA) =>
       cond (aO (List.length (x.2.2.1++(x.2.1.1.1::([]:List aA)))) (List.length (y5::([]:List aA))))
        (J kQ (aM Tryz.prog 117 0) ((x.1.1,(true,((wI (x.1.2.2.1+1)),()))),(((x.2.1.1.1,()),()),(((x.2.2.1++(x.2.1.1.1::([]:List aA)))++(y5::([]:List aA))),()))))
        (none))
       (J kQ (aM Tryz.prog 117 0) ((x.1.1,(true,((wI (x.1.2.2.1+1)),()))),(((x.2.1.1.1,()),()),((x.2.2.1++(x.2.1.1.1::([]:List aA))),())))))
      (none))
     (((aY x.1.1 x.1.2.2.1)).bind fun(y6:aA) =>
     cond (not (((y6.1.1.1==x.2.1.1.1.1.1.1)&&(y6.1.1.2==x.2.1.1.1.1.1.2))&&(y6.1.2==x.2.1.1.1.1.2)))
      (((aY x.1.1 x.1.2.2.1)).bind fun(y7:aA) =>
      cond (aO (List.length x.2.2.1) (List.length (y7::([]:List aA))))
       (J kQ (aM Tryz.prog 117 0) ((x.1.1,(x.1.2.1,((wI (x.1.2.2.1+1)),()))),(((x.2.1.1.1,()),()),((x.2.2.1++(y7::([]:List aA))),()))))
       (none))
      (J kQ (aM Tryz.prog 117 0) ((x.1.1,(x.1.2.1,((wI (x.1.2.2.1+1)),()))),(((x.2.1.1.1,()),()),x.2.2)))))
    (((aY x.1.1 x.1.2.2.1)).bind fun(y8:aA) =>
    cond (not (((y8.1.1.1==x.2.1.1.1.1.1.1)&&(y8.1.1.2==x.2.1.1.1.1.1.2))&&(y8.1.2==x.2.1.1.1.1.2)))
     (((aY x.1.1 x.1.2.2.1)).bind fun(y9:aA) =>
     cond (aO (List.length x.2.2.1) (List.length (y9::([]:List aA))))
      (J kQ (aM Tryz.prog 117 0) ((x.1.1,(x.1.2.1,((wI (x.1.2.2.1+1)),()))),(((x.2.1.1.1,()),()),((x.2.2.1++(y9::([]:List aA))),()))))
      (none))
     (J kQ (aM Tryz.prog 117 0) ((x.1.1,(x.1.2.1,((wI (x.1.2.2.1+1)),()))),(((x.2.1.1.1,()),()),x.2.2)))))
   (cond (not x.1.2.1)
    (cond (aO (List.length x.2.2.1) (List.length (x.2.1.1.1::([]:List aA))))
     (some (((x.2.2.1++(x.2.1.1.1::([]:List aA))),()),()))
     (none))
    (some (x.2.2,()))):=by kernel_rfl
theorem afY(F:FT)(J:JT Nz)(x:TH):bU 118 Nz Tryz.f118 F J x =
  (F 124 tX ((x.1.1,(x.1.2.1,())),())).bind fun(y1:Qr) =>
  (F 79 qq ((x.1.1,(y1.1.1,())),())).bind fun(y2:Q7) =>
  (F 148 Nt ((y2.1.1.2.1,(x.1.2.1,())),())).bind fun(y3:Kg) =>
  cond ((y3.1.1.1.1==x.1.2.1.1.1)&&(y3.1.1.1.2==x.1.2.1.1.2))
   ((F 148 Nt ((y2.1.1.2.1,(y3.1.1,())),())).bind fun(y4:Kg) =>
   cond ((y4.1.1.1.1==x.1.2.1.1.1)&&(y4.1.1.1.2==x.1.2.1.1.2))
    (some ((OD,()),()))
    (some ((y4.1.1,()),())))
   (cond ((y3.1.1.1.1==x.1.2.1.1.1)&&(y3.1.1.1.2==x.1.2.1.1.2))
    (some ((OD,()),()))
    (some ((y3.1.1,()),()))):=by kernel_rfl
theorem afZ(F:FT)(J:JT NA)(x:TH):bU 119 NA Tryz.f119 F J x =
 (F 124 tX ((x.1.1,(x.1.2.1,())),())).bind fun(y1:Qr) =>
 (F 79 qq ((x.1.1,(y1.1.1,())),())).bind fun(y2:Q7) =>
 (F 126 yw ((y2.1.1.2.1,(x.1.2.1,())),())).bind fun(y3:Q6) =>
 (F 145 Dg ((x.1.1,(y1.1.1,y3.1)),())).bind fun(y4:Q5) =>
 some ((y4.1.1,()),()):=by kernel_rfl
theorem af0(F:FT)(J:JT Ht)(x:((aj×(ae×aae))×Unit)):bU 120 Ht Tryz.f120 F J x =
 (F 124 tX ((x.1.1,(x.1.2.1,())),())).bind fun(y1:Qr) =>
 (F 79 qq ((x.1.1,(y1.1.1,())),())).bind fun(y2:Q7) =>
 (F 149 Hy ((y2.1.1.2.1,(x.1.2.1,(x.1.2.2.1,()))),())).bind fun(y3:Q6) =>
 (F 145 Dg ((x.1.1,(y1.1.1,y3.1)),())).bind fun(y4:Q5) =>
 some ((y4.1.1,()),()):=by kernel_rfl
theorem af1(F:FT)(J:JT pM)(x:Q6):bU 122 pM Tryz.f122 F J x =
 J wY (aM Tryz.prog 122 0) ((x.1.1,((0:Int),((0:Int),()))),((),())):=by kernel_rfl
theorem QW(F:FT)(J:JT pM)(x:(acp×ab9)):eR 122 0 pM Tryz.f122 wY F J x =
  cond (decide (x.1.2.2.1<(lI x.1.1)))
   (((aY x.1.1 x.1.2.2.1)).bind fun(y1:ae) =>
   ((aY x.1.1 x.1.2.1)).bind fun(y2:ae) =>
   (F 71 Kf ((y1,(y2,())),())).bind fun(y3:Q2) =>
   cond (decide (y3.1.1<0))
    (J wY (aM Tryz.prog 122 0) ((x.1.1,(x.1.2.2.1,((wI (x.1.2.2.1+1)),()))),((),())))
    (J wY (aM Tryz.prog 122 0) ((x.1.1,(x.1.2.1,((wI (x.1.2.2.1+1)),()))),((),()))))
   (J BO (aM Tryz.prog 122 1) ((x.1.1,(x.1.2.1,((0:Int),()))),((),(([]:List ae),())))):=by kernel_rfl
theorem QX(F:FT)(J:JT pM)(x:(acp×(Unit×abv))):eR 122 1 pM Tryz.f122 BO F J x =
  cond (decide (x.1.2.2.1<(lI x.1.1)))
   (cond ((lI x.1.1)==0)
    (none)
    (((aY x.1.1 (Int.tmod (wI (x.1.2.1+x.1.2.2.1)) (lI x.1.1)))).bind fun(y4:ae) =>
    cond (aO (List.length x.2.2.1) (List.length (y4::([]:List ae))))
     (J BO (aM Tryz.prog 122 1) ((x.1.1,(x.1.2.1,((wI (x.1.2.2.1+1)),()))),((),((x.2.2.1++(y4::([]:List ae))),()))))
     (none)))
   (some (x.2.2,())):=by kernel_rfl
theorem af2(F:FT)(J:JT Qm)(x:TH):bU 234 Qm Tryz.f234 F J x =
  (F 124 tX ((x.1.1,(x.1.2.1,())),())).bind fun(y1:Qr) =>
  cond (not y1.1.2.1)
   (some ((OD,(false,())),()))
   ((F 79 qq ((x.1.1,(y1.1.1,())),())).bind fun(y2:Q7) =>
   (F 248 Hz ((y2.1.1.2.1,(x.1.2.1,())),())).bind fun(y3:Kg) =>
   some (y3.1,())):=by kernel_rfl
theorem af3(F:FT)(J:JT NB)(x:(((List ah)×Unit)×Unit)):bU 127 NB Tryz.f127 F J x =
  cond (List.isEmpty x.1.1)
   (sK 2 fun(j1:Nat) =>
   cond ((j1==0)==true)
    (some ((([]:List ah),()),()))
    (cond (aO (List.length ([]:List ah)) (List.length x.1.1))
     (some (((([]:List ah)++x.1.1),()),()))
     (none)))
   (cond (aO (List.length ([]:List ah)) (List.length x.1.1))
    (some (((([]:List ah)++x.1.1),()),()))
    (none)):=by kernel_rfl
theorem af4(F:FT)(J:JT NC)(x:(((List ai)×Unit)×Unit)):bU 128 NC Tryz.f128 F J x =
  cond (List.isEmpty x.1.1)
   (sK 2 fun(j1:Nat) =>
   cond ((j1==0)==true)
    (some ((([]:List ai),()),()))
    (cond (aO (List.length ([]:List ai)) (List.length x.1.1))
     (some (((([]:List ai)++x.1.1),()),()))
     (none)))
   (cond (aO (List.length ([]:List ai)) (List.length x.1.1))
    (some (((([]:List ai)++x.1.1),()),()))
    (none)):=by kernel_rfl
theorem af5(F:FT)(J:JT ze)(x:Q6):bU 110 ze Tryz.f110 F J x =
  cond (List.isEmpty x.1.1)
   (sK 2 fun(j1:Nat) =>
   cond ((j1==0)==true)
    (some ((([]:List ae),()),()))
    (cond (aO (List.length ([]:List ae)) (List.length x.1.1))
     (some (((([]:List ae)++x.1.1),()),()))
     (none)))
   (cond (aO (List.length ([]:List ae)) (List.length x.1.1))
    (some (((([]:List ae)++x.1.1),()),()))
    (none)):=by kernel_rfl
theorem af6(F:FT)(J:JT zg)(x:Q5):bU 133 zg Tryz.f133 F J x =
 J BP (aM Tryz.prog 133 0) (((0:Int),()),(((x.1.1,()),()),(([]:List ID),()))):=by kernel_rfl
theorem QY(F:FT)(J:JT zg)(x:(aaa×(abq×((List ID)×Unit)))):eR 133 0 zg Tryz.f133 BP F J x =
  cond (decide (x.1.1<(lI x.2.1.1.1.1)))
   (((aY x.2.1.1.1.1 x.1.1)).bind fun(y1:ah) =>
   cond (aO (List.length x.2.2.1) (List.length (y1.1::([]:List ID))))
    (J BP (aM Tryz.prog 133 0) (((wI (x.1.1+1)),()),(((x.2.1.1.1,()),()),((x.2.2.1++(y1.1::([]:List ID))),()))))
    (none))
   (J wZ (aM Tryz.prog 133 1) (((0:Int),()),(((x.2.1.1.1,()),()),x.2.2))):=by kernel_rfl
theorem QZ(F:FT)(J:JT zg)(x:(aaa×(abq×((List ID)×Unit)))):eR 133 1 zg Tryz.f133 wZ F J x =
  cond (decide (x.1.1<(lI x.2.1.1.1.2)))
   (((aY x.2.1.1.1.2 x.1.1)).bind fun(y2:ai) =>
   cond (aO (List.length x.2.2.1) (List.length (y2.1::([]:List ID))))
    (J wZ (aM Tryz.prog 133 1) (((wI (x.1.1+1)),()),(((x.2.1.1.1,()),()),((x.2.2.1++(y2.1::([]:List ID))),()))))
    (none))
   (some (x.2.2,())):=by kernel_rfl
theorem af7(F:FT)(J:JT vf)(x:(((List ID)×Unit)×Unit)):bU 134 vf Tryz.f134 F J x =
 J w4 (aM Tryz.prog 134 0) ((x.1.1,((0:Int),())),((),())):=by kernel_rfl
theorem Ra(F:FT)(J:JT vf)(x:(((List ID)×aaa)×ab9)):eR 134 0 vf Tryz.f134 w4 F J x =
  cond (decide (x.1.2.1<(lI x.1.1)))
   (((aY x.1.1 x.1.2.1)).bind fun(y1:ID) =>
   (F 87 yX ((y1,()),())).bind fun(y2:Q0) =>
   cond (not y2.1.1)
    (some ((false,()),()))
    (cond (decide (x.1.2.1>0))
     (((aY x.1.1 (wI (x.1.2.1-1)))).bind fun(y3:ID) =>
     ((aY x.1.1 x.1.2.1)).bind fun(y4:ID) =>
     (F 105 Fl ((y3,(y4,())),())).bind fun(y5:Q2) =>
     cond (decide (y5.1.1≥0))
      (some ((false,()),()))
      (J w4 (aM Tryz.prog 134 0) ((x.1.1,((wI (x.1.2.1+1)),())),((),()))))
     (J w4 (aM Tryz.prog 134 0) ((x.1.1,((wI (x.1.2.1+1)),())),((),())))))
   (some ((true,()),())):=by kernel_rfl
theorem af8(F:FT)(J:JT k9)(x:Q5):bU 135 k9 Tryz.f135 F J x =
 J ua (aM Tryz.prog 135 0) (((0:Int),()),(((x.1.1,()),()),())):=by kernel_rfl
theorem Rb(F:FT)(J:JT k9)(x:(aaa×acH)):eR 135 0 k9 Tryz.f135 ua F J x =
  cond (decide (x.1.1<(lI x.2.1.1.1.1)))
   (((aY x.2.1.1.1.1 x.1.1)).bind fun(y1:ah) =>
   (F 122 pM ((y1.2.1,()),())).bind fun(y2:Q6) =>
   (F 98 Hq ((y1.2.1,y2.1),())).bind fun(y3:Q0) =>
   cond (not y3.1.1)
    (some ((false,()),()))
    (J w5 (aM Tryz.prog 135 1) ((x.1.1,(y1.2.1,((0:Int),()))),(((x.2.1.1.1,()),()),()))))
   (J w6 (aM Tryz.prog 135 2) (((0:Int),()),(((x.2.1.1.1,()),()),()))):=by kernel_rfl
theorem Rc(F:FT)(J:JT k9)(x:((Int×aco)×acH)):eR 135 1 k9 Tryz.f135 w5 F J x =
  cond (decide (x.1.2.2.1<(lI x.1.2.1)))
   (((aY x.1.2.1 x.1.2.2.1)).bind fun(y4:ae) =>
   (F 92 wQ ((x.2.1.1.1,(y4.1,())),())).bind fun(y5:Ur) =>
   cond (not y5.1.2.1)
    (some ((false,()),()))
    (((aY x.1.2.1 x.1.2.2.1)).bind fun(y6:ae) =>
    cond (decide (y6.2<0))
     (some ((false,()),()))
     (((aY x.1.2.1 x.1.2.2.1)).bind fun(y7:ae) =>
     cond (decide (y7.2>1))
      (some ((false,()),()))
      (J w5 (aM Tryz.prog 135 1) ((x.1.1,(x.1.2.1,((wI (x.1.2.2.1+1)),()))),(((x.2.1.1.1,()),()),()))))))
   (J ua (aM Tryz.prog 135 0) (((wI (x.1.1+1)),()),(((x.2.1.1.1,()),()),()))):=by kernel_rfl
end Go.Vs
