/- Normal forms of the program's functions, the third part. -/
import Derived.Test.YtpkfpbpbkabkdaaGreatEngineD
import Derived.KernelRfl
set_option linter.unusedVariables false
set_option maxRecDepth 1000000
set_option maxHeartbeats 0
namespace Go.Vs
open Go.Proofs
theorem Rd(F:FT)(J:JT k9)(x:(aaa×acH)):eR 135 2 k9 Tryz.f135 w6 F J x =
  cond (decide (x.1.1<(lI x.2.1.1.1.2)))
   (J ub (aM Tryz.prog 135 3) ((x.1.1,((0:Int),())),(((x.2.1.1.1,()),()),())))
   (some ((true,()),())):=by kernel_rfl
theorem Re(F:FT)(J:JT k9)(x:(aaf×acH)):eR 135 3 k9 Tryz.f135 ub F J x =
  cond (decide (x.1.2.1<2))
   (((aY x.2.1.1.1.2 x.1.1)).bind fun(y8:ai) =>
   (F 163 ou ((x.2.1.1.1,((y8.1,x.1.2.1),())),())).bind fun(y9:Q2) =>
   cond (y9.1.1 != 1)
    (some ((false,()),()))
    (J ub (aM Tryz.prog 135 3) ((x.1.1,((wI (x.1.2.1+1)),())),(((x.2.1.1.1,()),()),()))))
   (J w6 (aM Tryz.prog 135 2) (((wI (x.1.1+1)),()),(((x.2.1.1.1,()),()),()))):=by kernel_rfl
theorem af9(F:FT)(J:JT Fm)(x:Q5):bU 136 Fm Tryz.f136 F J x =
 (F 164 Hk ((x.1.1,()),())).bind fun(y1:Q25) =>
 J uc (aM Tryz.prog 136 0) (((lI y1.1.1),((0:Int),())),(((x.1.1,()),()),())):=by kernel_rfl
theorem Rf(F:FT)(J:JT Fm)(x:(aaf×acH)):eR 136 0 Fm Tryz.f136 uc F J x =
  cond (decide (x.1.2.1<(lI x.2.1.1.1.1)))
   (((aY x.2.1.1.1.1 x.1.2.1)).bind fun(y2:ah) =>
   cond ((lI y2.2.1)==0)
    (J uc (aM Tryz.prog 136 0) (((wI (x.1.1+1)),((wI (x.1.2.1+1)),())),(((x.2.1.1.1,()),()),())))
    (J uc (aM Tryz.prog 136 0) ((x.1.1,((wI (x.1.2.1+1)),())),(((x.2.1.1.1,()),()),()))))
   ((F 165 Hl ((x.2.1.1.1,()),())).bind fun(y3:Q2) =>
   some (((lI x.2.1.1.1.1),((lI x.2.1.1.1.2),(x.1.1,y3.1))),())):=by kernel_rfl
theorem aga(F:FT)(J:JT q9)(x:acC):bU 159 q9 Tryz.f159 F J x =
  cond (decide (x.1.1.1≥1))
   (cond (decide (x.1.1.1≤8))
    (cond (decide (x.1.1.2≥1))
     (some (((decide (x.1.1.2≤1048576)),()),()))
     (some ((false,()),())))
    (some ((false,()),())))
   (some ((false,()),())):=by kernel_rfl
theorem agb(F:FT)(J:JT Df)(x:Q27):bU 160 Df Tryz.f160 F J x =
  (F 159 q9 ((x.1.1.1,()),())).bind fun(y1:Q0) =>
  cond y1.1.1
   (cond (((x.1.1.2.1.1==0)&&(x.1.1.2.1.2==0))&&(x.1.1.2.2==0))
    (some ((true,()),()))
    ((F 190 HA ((x.1.1.2,()),())).bind fun(y2:Q0) =>
    some (y2.1,())))
   (some ((false,()),())):=by kernel_rfl
theorem agc(F:FT)(J:JT wS)(x:((ByteArray×Unit)×Unit)):bU 161 wS Tryz.f161 F J x =
 J w7 (aM Tryz.prog 161 0) (x.1,((),((x.1.1,0),()))):=by kernel_rfl
theorem Rg(F:FT)(J:JT wS)(x:((ByteArray×Unit)×(Unit×((ByteArray×Nat)×Unit)))):eR 161 0 wS Tryz.f161 w7 F J x =
  cond (decide (x.2.2.1.2<(ByteArray.size x.2.2.1.1)))
   (cond (decide ((oW x.2.2.1.1 x.2.2.1.2)<32))
    (some ((false,()),()))
    (cond (decide ((oW x.2.2.1.1 x.2.2.1.2)>126))
     (some ((false,()),()))
     (J w7 (aM Tryz.prog 161 0) (x.1,((),((x.2.2.1.1,(x.2.2.1.2+(Af x.2.2.1.1 x.2.2.1.2))),()))))))
   (some (((decide ((((ByteArray.size x.1.1):Nat):Int)≤16)),()),())):=by kernel_rfl
theorem agd(F:FT)(J:JT Hu)(x:Q2):bU 162 Hu Tryz.f162 F J x =
  cond (decide (x.1.1≥(-1099511627776:Int)))
   (some (((decide (x.1.1≤1099511627776)),()),()))
   (some ((false,()),())):=by kernel_rfl
theorem age(F:FT)(J:JT Hv)(x:((ah×Unit)×ach)):bU 152 Hv Tryz.f152 F J x =
  (F 175 qj ((x.1.1.1,()),(x.2.1,()))).bind fun(y1:Kh) =>
  cond y1.1.2.1
   (some (((12:Int),()),(y1.2.1,())))
   (cond (decide ((lI y1.2.1.1)≥24))
    (some (((3:Int),()),(y1.2.1,())))
    (cond (qF y1.2.1.1 y1.1.1 (x.1.1::([]:List ah)))
     (some (((0:Int),()),(((fY y1.2.1.1 y1.1.1 (x.1.1::([]:List ah))),y1.2.1.2),())))
     (none))):=by kernel_rfl
theorem agf(F:FT)(J:JT Qn)(x:We):bU 153 Qn Tryz.f153 F J x =
  (F 175 qj ((x.1.1.2.1,()),(x.2.1,()))).bind fun(y1:Kh) =>
  cond (not y1.1.2.1)
   (some (((13:Int),()),(y1.2.1,())))
   (cond ((decide ((0:Int)≤y1.1.1))&&(decide (y1.1.1<(lI y1.2.1.1))))
    (((y1.2.1.1)[(Int.toNat y1.1.1)]?).bind fun(y2:ah) =>
    cond (decide ((lI y2.2.1)>0))
     (some (((14:Int),()),(y1.2.1,())))
     (cond (jC y1.2.1.1 y1.1.1 (wI (y1.1.1+1)))
      (some (((0:Int),()),(((du y1.2.1.1 y1.1.1 (wI (y1.1.1+1))),y1.2.1.2),())))
      (none)))
    (none)):=by kernel_rfl
theorem XD(F:FT)(J:JT oq)(x:We):bU 154 oq Tryz.f154 F J x =
  cond (pJ x.2.1.1 x.2.1.2.1)
   ((F 178 yx ((x.1.1.2.1,()),(x.2.1,()))).bind fun(y1:Qs) =>
   cond (y1.1.1 != 0)
    (some (y1.1,(y1.2.1,())))
    ((F 179 Bi ((x.1.1.2.1,()),())).bind fun(y2:Q33) =>
    J ma (aM Tryz.prog 154 0) (((lI (x.1.1.2.2.2.2.1::(x.1.1.2.2.2.2.2.1::([]:List nF)))),((0:Int),())),((y1.2.1,((((x.2.1.1,x.2.1.2.1),x.2.1.2.2.1),()),((y2.1.1,()),()))),((y2.1.1::(y2.1.2.1::([]:List ae))),((x.1.1.2.2.2.2.1::(x.1.1.2.2.2.2.2.1::([]:List nF))),()))))))
   (none):=by kernel_rfl
theorem xc(F:FT)(J:JT oq)(x:(aaf×((aV×(acg×abw))×((List ae)×((List nF)×Unit))))):eR 154 0 oq Tryz.f154 ma F J x =
  cond (decide (x.1.2.1<x.1.1))
   (cond ((decide ((0:Int)≤x.1.2.1))&&(decide (x.1.2.1<(lI x.2.2.2.1))))
    (((x.2.2.2.1)[(Int.toNat x.1.2.1)]?).bind fun(y3:nF) =>
    (F 180 HB ((x.2.1.2.1.1,(y3,())),())).bind fun(y4:((nF×(Int×Unit))×Unit)) =>
    cond (y4.1.2.1 != 0)
     (some (y4.1.2,(x.2.1.1,())))
     (cond (x.1.2.1==1)
      (cond (((y3.2.1.1==x.2.1.2.2.1.1.1.1)&&(y3.2.1.2==x.2.1.2.2.1.1.1.2))&&(y3.2.2==x.2.1.2.2.1.1.2))
       ((F 175 qj ((y3.1,()),(x.2.1.1,()))).bind fun(y5:Kh) =>
       cond ((decide ((0:Int)≤y5.1.1))&&(decide (y5.1.1<(lI y5.2.1.1))))
        (((y5.2.1.1)[(Int.toNat y5.1.1)]?).bind fun(y6:ah) =>
        cond ((decide ((0:Int)≤x.1.2.1))&&(decide (x.1.2.1<(lI x.2.2.1))))
         (((x.2.2.1)[(Int.toNat x.1.2.1)]?).bind fun(y7:ae) =>
         (F 181 Bj ((y6.2.1,(y3.2,(y7,()))),())).bind fun(y8:Q6) =>
         ((y5.2.1.1)[(Int.toNat y5.1.1)]?).bind fun(y9:ah) =>
         J ma (aM Tryz.prog 154 0) ((x.1.1,((wI (x.1.2.1+1)),())),((((List.set y5.2.1.1 (Int.toNat y5.1.1) (y9.1,(y8.1.1,y9.2.2))),y5.2.1.2),((x.2.1.2.1.1,()),((x.2.1.2.2.1.1,()),()))),x.2.2)))
         (none))
        (none))
       ((F 175 qj ((y4.1.1.1,()),(x.2.1.1,()))).bind fun(oU:Kh) =>
       cond ((decide ((0:Int)≤oU.1.1))&&(decide (oU.1.1<(lI oU.2.1.1))))
        (((oU.2.1.1)[(Int.toNat oU.1.1)]?).bind fun(mE:ah) =>
        cond ((decide ((0:Int)≤x.1.2.1))&&(decide (x.1.2.1<(lI x.2.2.1))))
         (((x.2.2.1)[(Int.toNat x.1.2.1)]?).bind fun(qk:ae) =>
         (F 181 Bj ((mE.2.1,(y4.1.1.2,(qk,()))),())).bind fun(la:Q6) =>
         ((oU.2.1.1)[(Int.toNat oU.1.1)]?).bind fun(Ft:ah) =>
         J ma (aM Tryz.prog 154 0) ((x.1.1,((wI (x.1.2.1+1)),())),((((List.set oU.2.1.1 (Int.toNat oU.1.1) (Ft.1,(la.1.1,Ft.2.2))),oU.2.1.2),((x.2.1.2.1.1,()),((x.2.1.2.2.1.1,()),()))),x.2.2)))
         (none))
        (none)))
      ((F 175 qj ((y4.1.1.1,()),(x.2.1.1,()))).bind fun(uz:Kh) =>
      cond ((decide ((0:Int)≤uz.1.1))&&(decide (uz.1.1<(lI uz.2.1.1))))
       (((uz.2.1.1)[(Int.toNat uz.1.1)]?).bind fun(TI:ah) =>
       cond ((decide ((0:Int)≤x.1.2.1))&&(decide (x.1.2.1<(lI x.2.2.1))))
        (((x.2.2.1)[(Int.toNat x.1.2.1)]?).bind fun(Wh:ae) =>
        (F 181 Bj ((TI.2.1,(y4.1.1.2,(Wh,()))),())).bind fun(Y2:Q6) =>
        ((uz.2.1.1)[(Int.toNat uz.1.1)]?).bind fun(Wi:ah) =>
        J ma (aM Tryz.prog 154 0) ((x.1.1,((wI (x.1.2.1+1)),())),((((List.set uz.2.1.1 (Int.toNat uz.1.1) (Wi.1,(Y2.1.1,Wi.2.2))),uz.2.1.2),((x.2.1.2.1.1,()),((x.2.1.2.2.1.1,()),()))),x.2.2)))
        (none))
       (none))))
    (none))
   ((F 172 Bk (((x.2.1.1.1,x.2.1.1.2.1),()),())).bind fun(HT:Q0) =>
   cond (not HT.1.1)
    (some (((15:Int),()),(x.2.1.1,())))
    (some (((0:Int),()),(x.2.1.1,())))):=by kernel_rfl
theorem aai(F:FT)(J:JT Bh)(x:We):bU 155 Bh Tryz.f155 F J x =
  (F 182 mU ((x.1.1.2.1,()),(x.2.1,()))).bind fun(y1:Kh) =>
  cond (not y1.1.2.1)
   (some (((13:Int),()),(y1.2.1,())))
   ((F 179 Bi ((x.1.1.2.1,()),())).bind fun(y2:Q33) =>
   J Fq (aM Tryz.prog 155 0) ((y1.1.1,((lI (y2.1.1::(y2.1.2.1::([]:List ae)))),((0:Int),()))),((y1.2.1,((y2.1.1,()),((y2.1.2.1,()),()))),((y2.1.1::(y2.1.2.1::([]:List ae))),())))):=by kernel_rfl
theorem Kj(F:FT)(J:JT Bh)(x:((Int×aaf)×((aV×(aae×abw))×abv))):eR 155 0 Bh Tryz.f155 Fq F J x =
  cond (decide (x.1.2.2.1<x.1.2.1))
   (cond ((decide ((0:Int)≤x.1.2.2.1))&&(decide (x.1.2.2.1<(lI x.2.2.1))))
    (((x.2.2.1)[(Int.toNat x.1.2.2.1)]?).bind fun(y3:ae) =>
    (F 184 Bm ((y3,()),(x.2.1.1,()))).bind fun(y4:((ae×Unit)×(aV×Unit))) =>
    (F 183 Bl ((y3,(y4.1.1,())),(y4.2.1,()))).bind fun(y5:(Unit×(aV×Unit))) =>
    J Fq (aM Tryz.prog 155 0) ((x.1.1,(x.1.2.1,((wI (x.1.2.2.1+1)),()))),((y5.2.1,((x.2.1.2.1.1,()),((x.2.1.2.2.1.1,()),()))),x.2.2)))
    (none))
   (J w8 (aM Tryz.prog 155 1) ((x.1.1,((lI (x.2.1.2.1.1::(x.2.1.2.2.1.1::([]:List ae)))),((0:Int),()))),((x.2.1.1,()),((x.2.1.2.1.1::(x.2.1.2.2.1.1::([]:List ae))),())))):=by kernel_rfl
theorem Kk(F:FT)(J:JT Bh)(x:((Int×aaf)×(ach×abv))):eR 155 1 Bh Tryz.f155 w8 F J x =
  cond (decide (x.1.2.2.1<x.1.2.1))
   (cond ((decide ((0:Int)≤x.1.2.2.1))&&(decide (x.1.2.2.1<(lI x.2.2.1))))
    (((x.2.2.1)[(Int.toNat x.1.2.2.1)]?).bind fun(y6:ae) =>
    (F 185 lZ ((y6,()),(x.2.1.1,()))).bind fun(y7:Q31) =>
    qE y7.1.1
     (none) fun(p8:((Fin 1)×Nat)) =>
    cond (p8.1.val==0)
     (((y7.2.1.1)[p8.2]?).bind fun(y9:ah) =>
     (F 141 Bn ((y9.2.1,(y6,())),())).bind fun(oU:Q6) =>
     ((y7.2.1.1)[p8.2]?).bind fun(mE:ah) =>
     J w8 (aM Tryz.prog 155 1) ((x.1.1,(x.1.2.1,((wI (x.1.2.2.1+1)),()))),((((List.set y7.2.1.1 p8.2 (mE.1,(oU.1.1,mE.2.2))),y7.2.1.2),()),x.2.2)))
     (none))
    (none))
   (cond (jC x.2.1.1.2.1 x.1.1 (wI (x.1.1+1)))
    (some (((0:Int),()),((x.2.1.1.1,((du x.2.1.1.2.1 x.1.1 (wI (x.1.1+1))),x.2.1.1.2.2)),())))
    (none)):=by kernel_rfl
theorem Ut(F:FT)(J:JT zh)(x:We):bU 156 zh Tryz.f156 F J x =
  (F 182 mU ((x.1.1.2.1,()),(x.2.1,()))).bind fun(y1:Kh) =>
  (F 175 qj ((x.1.1.2.2.1,()),(y1.2.1,()))).bind fun(y2:Kh) =>
  (F 182 mU ((x.1.1.2.2.2.1,()),(y2.2.1,()))).bind fun(y3:Kh) =>
  cond (not y1.1.2.1)
   (some (((13:Int),()),(y3.2.1,())))
   (cond y2.1.2.1
    (some (((12:Int),()),(y3.2.1,())))
    (cond y3.1.2.1
     (some (((12:Int),()),(y3.2.1,())))
     (cond (decide ((1:Int)<0))
      (none)
      ((F 185 lZ (((x.1.1.2.1,(cU .xor .i64 (1:Int) (cU .and .i64 x.1.1.2.2.2.2.2.2.2.2 (1:Int)))),()),(y3.2.1,()))).bind fun(y4:Q31) =>
      qE y4.1.1
       (none) fun(p5:((Fin 1)×Nat)) =>
      cond (p5.1.val==0)
       (((y4.2.1.1)[p5.2]?).bind fun(y6:ah) =>
       (F 188 ov (((x.1.1.2.2.2.1,(kY .i64 x.1.1.2.2.2.2.2.2.2.2 (1:Int))),()),())).bind fun(y7:Fp) =>
       (F 187 tf ((y6.2.1,((x.1.1.2.1,(cU .xor .i64 (1:Int) (cU .and .i64 x.1.1.2.2.2.2.2.2.2.2 (1:Int)))),(y7.1.1,()))),())).bind fun(y8:Q6) =>
       ((y4.2.1.1)[p5.2]?).bind fun(y9:ah) =>
       (F 169 rh ((((x.1.1.2.1,(cU .xor .i64 (1:Int) (cU .and .i64 x.1.1.2.2.2.2.2.2.2.2 (1:Int))))::((x.1.1.2.2.2.1,(kY .i64 x.1.1.2.2.2.2.2.2.2.2 (1:Int)))::([]:List ae))),()),())).bind fun(oU:Q6) =>
       (F 152 Hv (((x.1.1.2.2.1,(oU.1.1,(OB,(0:Int)))),()),(((List.set y4.2.1.1 p5.2 (y9.1,(y8.1.1,y9.2.2))),y4.2.1.2),()))).bind fun(mE:Qs) =>
       cond (mE.1.1 != 0)
        (some (mE.1,(mE.2.1,())))
        ((F 178 yx ((x.1.1.2.2.2.1,()),(mE.2.1,()))).bind fun(qk:Qs) =>
        some (qk.1,(qk.2.1,()))))
       (none))))):=by kernel_rfl
theorem aaj(F:FT)(J:JT rf)(x:We):bU 157 rf Tryz.f157 F J x =
  (F 175 qj ((x.1.1.2.1,()),(x.2.1,()))).bind fun(y1:Kh) =>
  cond (not y1.1.2.1)
   (some (((13:Int),()),(y1.2.1,())))
   (cond ((decide ((0:Int)≤y1.1.1))&&(decide (y1.1.1<(lI y1.2.1.1))))
    (((y1.2.1.1)[(Int.toNat y1.1.1)]?).bind fun(y2:ah) =>
    cond ((lI y2.2.1) != 2)
     (some (((14:Int),()),(y1.2.1,())))
     (((aY y2.2.1 (0:Int))).bind fun(y3:ae) =>
     ((aY y2.2.1 (1:Int))).bind fun(y4:ae) =>
     cond ((y3.1.1==y4.1.1)&&(y3.1.2==y4.1.2))
      (some (((14:Int),()),(y1.2.1,())))
      (((aY y2.2.1 (0:Int))).bind fun(y5:ae) =>
      ((aY y2.2.1 (1:Int))).bind fun(y6:ae) =>
      cond ((y5.1.1==x.1.1.2.2.2.1.1)&&(y5.1.2==x.1.1.2.2.2.1.2))
       (cond (not ((y5.1.1==x.1.1.2.2.2.1.1)&&(y5.1.2==x.1.1.2.2.2.1.2)))
        (some (((14:Int),()),(y1.2.1,())))
        ((F 188 ov ((y5,()),())).bind fun(y7:Fp) =>
        cond (jC y1.2.1.1 y1.1.1 (wI (y1.1.1+1)))
         ((F 185 lZ ((y7.1.1,()),(((du y1.2.1.1 y1.1.1 (wI (y1.1.1+1))),y1.2.1.2),()))).bind fun(y8:Q31) =>
         qE y8.1.1
          (none) fun(p9:((Fin 1)×Nat)) =>
         cond (p9.1.val==0)
          (((y8.2.1.1)[p9.2]?).bind fun(oU:ah) =>
          (F 187 tf ((oU.2.1,(y7.1.1,(y6,()))),())).bind fun(mE:Q6) =>
          ((y8.2.1.1)[p9.2]?).bind fun(qk:ah) =>
          (F 182 mU ((y5.1,()),(((List.set y8.2.1.1 p9.2 (qk.1,(mE.1.1,qk.2.2))),y8.2.1.2),()))).bind fun(la:Kh) =>
          cond (jC la.2.1.2.1 la.1.1 (wI (la.1.1+1)))
           (J nG (aM Tryz.prog 157 0) (((0:Int),()),(((la.2.1.1,((du la.2.1.2.1 la.1.1 (wI (la.1.1+1))),la.2.1.2.2)),((y6,()),((y5,()),((y7.1.1,()),())))),())))
           (none))
          (none))
         (none)))
       (cond (not ((y6.1.1==x.1.1.2.2.2.1.1)&&(y6.1.2==x.1.1.2.2.2.1.2)))
        (some (((14:Int),()),(y1.2.1,())))
        ((F 188 ov ((y6,()),())).bind fun(Ft:Fp) =>
        cond (jC y1.2.1.1 y1.1.1 (wI (y1.1.1+1)))
         ((F 185 lZ ((Ft.1.1,()),(((du y1.2.1.1 y1.1.1 (wI (y1.1.1+1))),y1.2.1.2),()))).bind fun(uz:Q31) =>
         qE uz.1.1
          (none) fun(p16:((Fin 1)×Nat)) =>
         cond (p16.1.val==0)
          (((uz.2.1.1)[p16.2]?).bind fun(Wh:ah) =>
          (F 187 tf ((Wh.2.1,(Ft.1.1,(y5,()))),())).bind fun(Y2:Q6) =>
          ((uz.2.1.1)[p16.2]?).bind fun(Wi:ah) =>
          (F 182 mU ((y6.1,()),(((List.set uz.2.1.1 p16.2 (Wi.1,(Y2.1.1,Wi.2.2))),uz.2.1.2),()))).bind fun(HT:Kh) =>
          cond (jC HT.2.1.2.1 HT.1.1 (wI (HT.1.1+1)))
           (J nG (aM Tryz.prog 157 0) (((0:Int),()),(((HT.2.1.1,((du HT.2.1.2.1 HT.1.1 (wI (HT.1.1+1))),HT.2.1.2.2)),((y5,()),((y6,()),((Ft.1.1,()),())))),())))
           (none))
          (none))
         (none))))))
    (none)):=by kernel_rfl
theorem xd(F:FT)(J:JT rf)(x:Q39):eR 157 0 rf Tryz.f157 nG F J x =
  cond (decide (x.1.1<2))
   (cond (x.2.1.2.2.1.1.2==x.1.1)
    ((F 183 Bl ((x.2.1.2.2.1.1,(OD,())),(x.2.1.1,()))).bind fun(y21:(Unit×(aV×Unit))) =>
    J nG (aM Tryz.prog 157 0) (((wI (x.1.1+1)),()),((y21.2.1,((x.2.1.2.1.1,()),((x.2.1.2.2.1.1,()),((x.2.1.2.2.2.1.1,()),())))),())))
    ((F 183 Bl ((x.2.1.2.2.2.1.1,(x.2.1.2.1.1,())),(x.2.1.1,()))).bind fun(y22:(Unit×(aV×Unit))) =>
    J nG (aM Tryz.prog 157 0) (((wI (x.1.1+1)),()),((y22.2.1,((x.2.1.2.1.1,()),((x.2.1.2.2.1.1,()),((x.2.1.2.2.2.1.1,()),())))),()))))
   (some (((0:Int),()),(x.2.1.1,()))):=by kernel_rfl
theorem agh(F:FT)(J:JT Qo)(x:We):bU 158 Qo Tryz.f158 F J x =
  (F 189 HC ((x.1.1,()),(x.2.1,()))).bind fun(y1:(((Option ((Fin 2)×Nat))×((Option ((Fin 2)×Nat))×Unit))×(aV×Unit))) =>
  qE y1.1.1
   (qE y1.1.2.1
    (some (((13:Int),()),(y1.2.1,()))) fun(p2:((Fin 2)×Nat)) =>
   cond (p2.1.val==0)
    (some (((13:Int),()),(y1.2.1,())))
    (cond (p2.1.val==1)
    (some (((13:Int),()),(y1.2.1,())))
    (none))) fun(p3:((Fin 2)×Nat)) =>
  cond (p3.1.val==0)
   (qE y1.1.2.1
    (cond (x.1.1.1==7)
     (((y1.2.1.1)[p3.2]?).bind fun(oU:ah) =>
     some (((0:Int),()),(((List.set y1.2.1.1 p3.2 (oU.1,(oU.2.1,(x.1.1.2.2.2.2.2.2.2.1,oU.2.2.2)))),y1.2.1.2),())))
     (none)) fun(Y3:((Fin 2)×Nat)) =>
   cond (Y3.1.val==0)
    (cond (x.1.1.1==7)
     (((y1.2.1.1)[p3.2]?).bind fun(Ft:ah) =>
     some (((0:Int),()),(((List.set y1.2.1.1 p3.2 (Ft.1,(Ft.2.1,(x.1.1.2.2.2.2.2.2.2.1,Ft.2.2.2)))),y1.2.1.2),())))
     (((y1.2.1.1)[Y3.2]?).bind fun(uz:ah) =>
     some (((0:Int),()),(((List.set y1.2.1.1 Y3.2 (uz.1,(uz.2.1,(uz.2.2.1,x.1.1.2.2.2.2.2.2.2.2)))),y1.2.1.2),()))))
    (cond (Y3.1.val==1)
    (cond (x.1.1.1==7)
     (((y1.2.1.1)[p3.2]?).bind fun(qk:ah) =>
     some (((0:Int),()),(((List.set y1.2.1.1 p3.2 (qk.1,(qk.2.1,(x.1.1.2.2.2.2.2.2.2.1,qk.2.2.2)))),y1.2.1.2),())))
     (((y1.2.1.2.1)[Y3.2]?).bind fun(la:ai) =>
     some (((0:Int),()),((y1.2.1.1,((List.set y1.2.1.2.1 Y3.2 (la.1,(la.2.1,x.1.1.2.2.2.2.2.2.2.2))),y1.2.1.2.2)),()))))
    (none)))
   (cond (p3.1.val==1)
   (qE y1.1.2.1
    (cond (x.1.1.1==7)
     (((y1.2.1.2.1)[p3.2]?).bind fun(y4:ai) =>
     some (((0:Int),()),((y1.2.1.1,((List.set y1.2.1.2.1 p3.2 (y4.1,(x.1.1.2.2.2.2.2.2.2.1,y4.2.2))),y1.2.1.2.2)),())))
     (none)) fun(p5:((Fin 2)×Nat)) =>
   cond (p5.1.val==0)
    (cond (x.1.1.1==7)
     (((y1.2.1.2.1)[p3.2]?).bind fun(y8:ai) =>
     some (((0:Int),()),((y1.2.1.1,((List.set y1.2.1.2.1 p3.2 (y8.1,(x.1.1.2.2.2.2.2.2.2.1,y8.2.2))),y1.2.1.2.2)),())))
     (((y1.2.1.1)[p5.2]?).bind fun(y9:ah) =>
     some (((0:Int),()),(((List.set y1.2.1.1 p5.2 (y9.1,(y9.2.1,(y9.2.2.1,x.1.1.2.2.2.2.2.2.2.2)))),y1.2.1.2),()))))
    (cond (p5.1.val==1)
    (cond (x.1.1.1==7)
     (((y1.2.1.2.1)[p3.2]?).bind fun(y6:ai) =>
     some (((0:Int),()),((y1.2.1.1,((List.set y1.2.1.2.1 p3.2 (y6.1,(x.1.1.2.2.2.2.2.2.2.1,y6.2.2))),y1.2.1.2.2)),())))
     (((y1.2.1.2.1)[p5.2]?).bind fun(y7:ai) =>
     some (((0:Int),()),((y1.2.1.1,((List.set y1.2.1.2.1 p5.2 (y7.1,(y7.2.1,x.1.1.2.2.2.2.2.2.2.2))),y1.2.1.2.2)),()))))
    (none)))
   (none)):=by kernel_rfl
theorem agi(F:FT)(J:JT Qp)(x:Fp):bU 123 Qp Tryz.f123 F J x =
  (F 87 yX ((x.1.1.1,()),())).bind fun(y1:Q0) =>
  cond y1.1.1
   (cond (x.1.1.2==0)
    (some ((true,()),()))
    (some (((x.1.1.2==1),()),())))
   (some ((false,()),())):=by kernel_rfl
theorem agj(F:FT)(J:JT Hw)(x:((StateT×aae)×Unit)):bU 143 Hw Tryz.f143 F J x =
 J BQ (aM Tryz.prog 143 0) (((0:Int),()),(((x.1.1,()),((x.1.2.1,()),((OD,()),()))),())):=by kernel_rfl
theorem Rh(F:FT)(J:JT Hw)(x:(aaa×((acg×(aae×abw))×Unit))):eR 143 0 Hw Tryz.f143 BQ F J x =
  cond (decide (x.1.1≤(lI x.2.1.1.1.2)))
   ((F 124 tX ((x.2.1.1.1.1,(x.2.1.2.1.1,())),())).bind fun(y1:Qr) =>
   cond y1.1.2.1
    (some ((x.2.1.2.1.1,()),()))
    ((F 147 td ((x.2.1.1.1.2,(x.2.1.2.1.1,())),())).bind fun(y2:Kg) =>
    cond (not y2.1.2.1)
     (some ((OD,()),()))
     (J BQ (aM Tryz.prog 143 0) (((wI (x.1.1+1)),()),(((x.2.1.1.1,()),((y2.1.1,()),((x.2.1.2.2.1.1,()),()))),())))))
   (some ((OD,()),())):=by kernel_rfl
theorem agk(F:FT)(J:JT Dg)(x:((aj×(ID×abv))×Unit)):bU 145 Dg Tryz.f145 F J x =
 (F 21 Dc ((x.1.1,()),())).bind fun(y1:Q26) =>
 J w9 (aM Tryz.prog 145 0) ((x.1.2.2.1,((0:Int),())),(((x.1.2.1,()),((([]:List ah),(([]:List ai),())),(y1.1.1,()))),())):=by kernel_rfl
theorem Ri(F:FT)(J:JT Dg)(x:(aco×((abr×aad)×Unit))):eR 145 0 Dg Tryz.f145 w9 F J x =
  cond (decide (x.1.2.1<(lI x.2.1.2.2.1.1)))
   (cond ((decide ((0:Int)≤x.1.2.1))&&(decide (x.1.2.1<(lI x.2.1.2.2.1.1))))
    (((x.2.1.2.2.1.1)[(Int.toNat x.1.2.1)]?).bind fun(y2:ah) =>
    cond ((y2.1.1==x.2.1.1.1.1)&&(y2.1.2==x.2.1.1.1.2))
     (cond ((decide ((0:Int)≤x.1.2.1))&&(decide (x.1.2.1<(lI x.2.1.2.2.1.1))))
      (((x.2.1.2.2.1.1)[(Int.toNat x.1.2.1)]?).bind fun(y3:ah) =>
      J w9 (aM Tryz.prog 145 0) ((x.1.1,((wI (x.1.2.1+1)),())),(((x.2.1.1.1,()),(x.2.1.2.1,(((List.set x.2.1.2.2.1.1 (Int.toNat x.1.2.1) (y3.1,(x.1.1,y3.2.2))),x.2.1.2.2.1.2),()))),())))
      (none))
     (J w9 (aM Tryz.prog 145 0) ((x.1.1,((wI (x.1.2.1+1)),())),(((x.2.1.1.1,()),(x.2.1.2.1,(x.2.1.2.2.1,()))),()))))
    (none))
   (some (((x.2.1.2.2.1.1,x.2.1.2.2.1.2.1),()),())):=by kernel_rfl
theorem aak(F:FT)(J:JT yv)(x:Q34):bU 146 yv Tryz.f146 F J x =
  (F 144 q8 ((x.1.1,(x.1.2.2.1,())),())).bind fun(y1:Q2) =>
  cond (decide (y1.1.1≥0))
   ((F 122 pM ((x.1.1,()),())).bind fun(y2:Q6) =>
   some (y2.1,()))
   ((F 144 q8 ((x.1.1,(x.1.2.1,())),())).bind fun(y3:Q2) =>
   J sd (aM Tryz.prog 146 0) ((x.1.1,((max (0:Int) y3.1.1:Int),((0:Int),()))),(((x.1.2.2.1,()),()),(([]:List ae),())))):=by kernel_rfl
theorem Lw(F:FT)(J:JT yv)(x:(acp×(abw×abv))):eR 146 0 yv Tryz.f146 sd F J x =
  cond (decide (x.1.2.2.1<(lI x.1.1)))
   (((aY x.1.1 x.1.2.2.1)).bind fun(y4:ae) =>
   cond (aO (List.length x.2.2.1) (List.length (y4::([]:List ae))))
    (cond (x.1.2.2.1==x.1.2.1)
     (cond (aO (List.length (x.2.2.1++(y4::([]:List ae)))) (List.length (x.2.1.1.1::([]:List ae))))
      (J sd (aM Tryz.prog 146 0) ((x.1.1,(x.1.2.1,((wI (x.1.2.2.1+1)),()))),(((x.2.1.1.1,()),()),(((x.2.2.1++(y4::([]:List ae)))++(x.2.1.1.1::([]:List ae))),()))))
      (none))
     (J sd (aM Tryz.prog 146 0) ((x.1.1,(x.1.2.1,((wI (x.1.2.2.1+1)),()))),(((x.2.1.1.1,()),()),((x.2.2.1++(y4::([]:List ae))),())))))
    (none))
   (cond ((lI x.1.1)==0)
    (cond (aO (List.length x.2.2.1) (List.length (x.2.1.1.1::([]:List ae))))
     ((F 122 pM (((x.2.2.1++(x.2.1.1.1::([]:List ae))),()),())).bind fun(y5:Q6) =>
     some (y5.1,()))
     (none))
    ((F 122 pM (x.2.2,())).bind fun(y6:Q6) =>
    some (y6.1,()))):=by kernel_rfl
theorem aal(F:FT)(J:JT td)(x:(((List aA)×aae)×Unit)):bU 147 td Tryz.f147 F J x =
 J vm (aM Tryz.prog 147 0) ((x.1.1,((0:Int),())),(((x.1.2.1,()),((OD,()),())),())):=by kernel_rfl
theorem Lx(F:FT)(J:JT td)(x:(((List aA)×aaa)×((aae×abw)×Unit))):eR 147 0 td Tryz.f147 vm F J x =
  cond (decide (x.1.2.1<(lI x.1.1)))
   (((aY x.1.1 x.1.2.1)).bind fun(y1:aA) =>
   cond (((y1.1.1.1==x.2.1.1.1.1.1)&&(y1.1.1.2==x.2.1.1.1.1.2))&&(y1.1.2==x.2.1.1.1.2))
    (((aY x.1.1 x.1.2.1)).bind fun(y2:aA) =>
    some ((y2.2,(true,())),()))
    (J vm (aM Tryz.prog 147 0) ((x.1.1,((wI (x.1.2.1+1)),())),(((x.2.1.1.1,()),((x.2.1.2.1.1,()),())),()))))
   (some ((OD,(false,())),())):=by kernel_rfl
theorem aam(F:FT)(J:JT yw)(x:Us):bU 126 yw Tryz.f126 F J x =
 J sf (aM Tryz.prog 126 0) ((x.1.1,((0:Int),())),(((x.1.2.1,()),()),(([]:List ae),()))):=by kernel_rfl
theorem Ly(F:FT)(J:JT yw)(x:(aco×(abw×abv))):eR 126 0 yw Tryz.f126 sf F J x =
  cond (decide (x.1.2.1<(lI x.1.1)))
   (((aY x.1.1 x.1.2.1)).bind fun(y1:ae) =>
   cond (not (((y1.1.1==x.2.1.1.1.1.1)&&(y1.1.2==x.2.1.1.1.1.2))&&(y1.2==x.2.1.1.1.2)))
    (((aY x.1.1 x.1.2.1)).bind fun(y2:ae) =>
    cond (aO (List.length x.2.2.1) (List.length (y2::([]:List ae))))
     (J sf (aM Tryz.prog 126 0) ((x.1.1,((wI (x.1.2.1+1)),())),(((x.2.1.1.1,()),()),((x.2.2.1++(y2::([]:List ae))),()))))
     (none))
    (J sf (aM Tryz.prog 126 0) ((x.1.1,((wI (x.1.2.1+1)),())),(((x.2.1.1.1,()),()),x.2.2))))
   ((F 122 pM (x.2.2,())).bind fun(y3:Q6) =>
   some (y3.1,())):=by kernel_rfl
theorem aan(F:FT)(J:JT Hy)(x:Q34):bU 149 Hy Tryz.f149 F J x =
  cond (aO (List.length ([]:List ae)) (List.length x.1.1))
   ((F 144 q8 ((x.1.1,(x.1.2.1,())),())).bind fun(y1:Q2) =>
   cond (decide (y1.1.1≥0))
    ((F 144 q8 ((x.1.1,(x.1.2.2.1,())),())).bind fun(y2:Q2) =>
    cond (decide (y2.1.1<0))
     (cond ((decide ((0:Int)≤y1.1.1))&&(decide (y1.1.1<(lI (([]:List ae)++x.1.1)))))
      ((((([]:List ae)++x.1.1))[(Int.toNat y1.1.1)]?).bind fun(y3:ae) =>
      (F 122 pM (((List.set (([]:List ae)++x.1.1) (Int.toNat y1.1.1) x.1.2.2.1),()),())).bind fun(y4:Q6) =>
      some (y4.1,()))
      (none))
     ((F 122 pM (((([]:List ae)++x.1.1),()),())).bind fun(y5:Q6) =>
     some (y5.1,())))
    ((F 122 pM (((([]:List ae)++x.1.1),()),())).bind fun(y6:Q6) =>
    some (y6.1,())))
   (none):=by kernel_rfl
theorem aao(F:FT)(J:JT Hz)(x:Us):bU 248 Hz Tryz.f248 F J x =
  (F 144 q8 ((x.1.1,(x.1.2.1,())),())).bind fun(y1:Q2) =>
  cond (decide (y1.1.1<0))
   (some ((OD,(false,())),()))
   (cond ((lI x.1.1)==0)
    (none)
    (((aY x.1.1 (Int.tmod (wI (y1.1.1+1)) (lI x.1.1)))).bind fun(y2:ae) =>
    some ((y2,(true,())),()))):=by kernel_rfl
theorem aap(F:FT)(J:JT ou)(x:TH):bU 163 ou Tryz.f163 F J x =
 J si (aM Tryz.prog 163 0) (((0:Int),((0:Int),())),(((x.1.1,()),((x.1.2.1,()),())),())):=by kernel_rfl
theorem LA(F:FT)(J:JT ou)(x:(aaf×((acd×abw)×Unit))):eR 163 0 ou Tryz.f163 si F J x =
  cond (decide (x.1.2.1<(lI x.2.1.1.1.1)))
   (J pN (aM Tryz.prog 163 1) ((x.1.1,(x.1.2.1,((0:Int),()))),(((x.2.1.1.1,()),((x.2.1.2.1.1,()),())),())))
   (some ((x.1.1,()),())):=by kernel_rfl
theorem LB(F:FT)(J:JT ou)(x:((Int×aaf)×((acd×abw)×Unit))):eR 163 1 ou Tryz.f163 pN F J x =
  ((aY x.2.1.1.1.1 x.1.2.1)).bind fun(y1:ah) =>
  cond (decide (x.1.2.2.1<(lI y1.2.1)))
   (((aY x.2.1.1.1.1 x.1.2.1)).bind fun(y2:ah) =>
   ((aY y2.2.1 x.1.2.2.1)).bind fun(y3:ae) =>
   cond (((y3.1.1==x.2.1.2.1.1.1.1)&&(y3.1.2==x.2.1.2.1.1.1.2))&&(y3.2==x.2.1.2.1.1.2))
    (J pN (aM Tryz.prog 163 1) (((wI (x.1.1+1)),(x.1.2.1,((wI (x.1.2.2.1+1)),()))),(((x.2.1.1.1,()),((x.2.1.2.1.1,()),())),())))
    (J pN (aM Tryz.prog 163 1) ((x.1.1,(x.1.2.1,((wI (x.1.2.2.1+1)),()))),(((x.2.1.1.1,()),((x.2.1.2.1.1,()),())),()))))
   (J si (aM Tryz.prog 163 0) ((x.1.1,((wI (x.1.2.1+1)),())),(((x.2.1.1.1,()),((x.2.1.2.1.1,()),())),()))):=by kernel_rfl
theorem aaq(F:FT)(J:JT HA)(x:Fp):bU 190 HA Tryz.f190 F J x =
  (F 159 q9 ((x.1.1.1,()),())).bind fun(y1:Q0) =>
  cond y1.1.1
   (some ((((cU .andNot .i64 x.1.1.2 (1:Int))==0),()),()))
   (some ((false,()),())):=by kernel_rfl
theorem aar(F:FT)(J:JT qj)(x:(abr×ach)):bU 175 qj Tryz.f175 F J x =
 (F 208206 jt ((x.2.1.1,(x.1.1,())),())).bind fun(y1:((Int×(Bool×Unit))×Unit)) =>
 some (y1.1,(x.2.1,())):=by kernel_rfl
theorem aas(F:FT)(J:JT yx)(x:(abr×ach)):bU 178 yx Tryz.f178 F J x =
  (F 182 mU ((x.1.1,()),(x.2.1,()))).bind fun(y1:Kh) =>
  cond y1.1.2.1
   (some (((12:Int),()),(y1.2.1,())))
   (cond (decide ((lI y1.2.1.2.1)≥40))
    (some (((3:Int),()),(y1.2.1,())))
    (cond (qF y1.2.1.2.1 y1.1.1 ((x.1.1,(OB,(0:Int)))::([]:List ai)))
     (some (((0:Int),()),((y1.2.1.1,((fY y1.2.1.2.1 y1.1.1 ((x.1.1,(OB,(0:Int)))::([]:List ai))),y1.2.1.2.2)),())))
     (none))):=by kernel_rfl
theorem Wj(F:FT)(J:JT Bi)(x:acC):bU 179 Bi Tryz.f179 F J x =
 some (((x.1.1,(0:Int)),((x.1.1,(1:Int)),())),()):=by kernel_rfl
theorem aat(F:FT)(J:JT HB)(x:((StateT×(nF×Unit))×Unit)):bU 180 HB Tryz.f180 F J x =
  (F 74 tg ((x.1.1.1,(x.1.2.1.1,())),())).bind fun(y1:Q7) =>
  cond (not y1.1.2.1)
   (some ((OC,((13:Int),())),()))
   ((F 212 yy ((x.1.1,(x.1.2.1.2,())),())).bind fun(y2:Fp) =>
   (F 166 vg ((y1.1.1.2.1,(y2.1.1,())),())).bind fun(y3:Q0) =>
   cond (not y3.1.1)
    (some (((x.1.2.1.1,OD),((0:Int),())),()))
    (some (((x.1.2.1.1,y2.1.1),((0:Int),())),()))):=by kernel_rfl
theorem aau(F:FT)(J:JT Bj)(x:Q34):bU 181 Bj Tryz.f181 F J x =
  (F 166 vg ((x.1.1,(x.1.2.2.1,())),())).bind fun(y1:Q0) =>
  cond y1.1.1
   ((F 169 rh ((x.1.1,()),())).bind fun(y2:Q6) =>
   some (y2.1,()))
   ((F 168 l6 ((x.1.1,(x.1.2.1,())),())).bind fun(y3:Q2) =>
   cond (bj (List.length x.1.1) (0:Int) (min (wI ((max y3.1.1 (0:Int):Int)+1)) (lI x.1.1):Int))
    (cond (bj (List.length x.1.1) (min (wI ((max y3.1.1 (0:Int):Int)+1)) (lI x.1.1):Int) (lI x.1.1))
     ((F 170 ow ((((cut x.1.1 (0:Int) (min (wI ((max y3.1.1 (0:Int):Int)+1)) (lI x.1.1):Int))::((x.1.2.2.1::([]:List ae))::((cut x.1.1 (min (wI ((max y3.1.1 (0:Int):Int)+1)) (lI x.1.1):Int) (lI x.1.1))::([]:List (List ae))))),()),())).bind fun(y4:Q6) =>
     some (y4.1,()))
     (none))
    (none)):=by kernel_rfl
theorem aav(F:FT)(J:JT Bk)(x:Q5):bU 172 Bk Tryz.f172 F J x =
 (F 204 HD ((x.1.1,()),())).bind fun(y1:Q2) =>
 some (((y1.1.1==0),()),()):=by kernel_rfl
theorem aaw(F:FT)(J:JT mU)(x:(abr×ach)):bU 182 mU Tryz.f182 F J x =
 (F 215213 ju ((x.2.1.2.1,(x.1.1,())),())).bind fun(y1:((Int×(Bool×Unit))×Unit)) =>
 some (y1.1,(x.2.1,())):=by kernel_rfl
theorem aax(F:FT)(J:JT Bl)(x:((ae×aae)×ach)):bU 183 Bl Tryz.f183 F J x =
 (F 215 HE ((x.2.1.2.2.1,((x.1.1,x.1.2.1),())),())).bind fun(y1:Wc) =>
 some ((),((x.2.1.1,(x.2.1.2.1,y1.1)),())):=by kernel_rfl
theorem aay(F:FT)(J:JT Bm)(x:(aae×ach)):bU 184 Bm Tryz.f184 F J x =
 J zN (aM Tryz.prog 184 0) (((0:Int),()),((x.2.1,((x.1.1,()),((OD,()),((x.1.1,()),())))),())):=by kernel_rfl
theorem Fu(F:FT)(J:JT Bm)(x:Q39):eR 184 0 Bm Tryz.f184 zN F J x =
  cond (decide (x.1.1<2))
   ((F 185 lZ ((x.2.1.2.1.1,()),(x.2.1.1,()))).bind fun(y1:Q31) =>
   qE y1.1.1
    (none) fun(p2:((Fin 1)×Nat)) =>
   cond (p2.1.val==0)
    (((y1.2.1.1)[p2.2]?).bind fun(y3:ah) =>
    (F 140 Bp ((y3.2.1,(x.2.1.2.2.2.1.1,())),())).bind fun(y4:Kg) =>
    cond (not ((y4.1.1.1.1==x.2.1.2.1.1.1.1)&&(y4.1.1.1.2==x.2.1.2.1.1.1.2)))
     (some ((y4.1.1,()),(y1.2.1,())))
     (J zN (aM Tryz.prog 184 0) (((wI (x.1.1+1)),()),((y1.2.1,((x.2.1.2.1.1,()),((x.2.1.2.2.1.1,()),((y4.1.1,()),())))),()))))
    (none))
   (some ((OD,()),(x.2.1.1,()))):=by kernel_rfl
theorem aaz(F:FT)(J:JT lZ)(x:(aae×ach)):bU 185 lZ Tryz.f185 F J x =
 J vn (aM Tryz.prog 185 0) (((lI x.2.1.1),((0:Int),())),((x.2.1,((x.1.1,()),())),())):=by kernel_rfl
theorem LC(F:FT)(J:JT lZ)(x:(aaf×((aV×abw)×Unit))):eR 185 0 lZ Tryz.f185 vn F J x =
  cond (decide (x.1.2.1<x.1.1))
   (cond ((decide ((0:Int)≤x.1.2.1))&&(decide (x.1.2.1<(lI x.2.1.1.1))))
    (((x.2.1.1.1)[(Int.toNat x.1.2.1)]?).bind fun(y1:ah) =>
    (F 166 vg ((y1.2.1,(x.2.1.2.1.1,())),())).bind fun(y2:Q0) =>
    cond y2.1.1
     (some (((some ((⟨0,by decide⟩:(Fin 1)),(Int.toNat x.1.2.1))),()),(x.2.1.1,())))
     (J vn (aM Tryz.prog 185 0) ((x.1.1,((wI (x.1.2.1+1)),())),((x.2.1.1,((x.2.1.2.1.1,()),())),()))))
    (none))
   (some ((none,()),(x.2.1.1,()))):=by kernel_rfl
theorem aaA(F:FT)(J:JT Bn)(x:Us):bU 141 Bn Tryz.f141 F J x =
  (F 168 l6 ((x.1.1,(x.1.2.1,())),())).bind fun(y1:Q2) =>
  cond (decide (y1.1.1<0))
   ((F 169 rh ((x.1.1,()),())).bind fun(y2:Q6) =>
   some (y2.1,()))
   (cond (bj (List.length x.1.1) (0:Int) y1.1.1)
    (cond (bj (List.length x.1.1) (wI (y1.1.1+1)) (lI x.1.1))
     ((F 170 ow ((((cut x.1.1 (0:Int) y1.1.1)::((cut x.1.1 (wI (y1.1.1+1)) (lI x.1.1))::([]:List (List ae)))),()),())).bind fun(y3:Q6) =>
     some (y3.1,()))
     (none))
    (none)):=by kernel_rfl
theorem aaB(F:FT)(J:JT tf)(x:Q34):bU 187 tf Tryz.f187 F J x =
  (F 168 l6 ((x.1.1,(x.1.2.1,())),())).bind fun(y1:Q2) =>
  cond (decide (y1.1.1<0))
   ((F 169 rh ((x.1.1,()),())).bind fun(y2:Q6) =>
   some (y2.1,()))
   ((F 166 vg ((x.1.1,(x.1.2.2.1,())),())).bind fun(y3:Q0) =>
   cond y3.1.1
    ((F 169 rh ((x.1.1,()),())).bind fun(y4:Q6) =>
    some (y4.1,()))
    (cond (bj (List.length x.1.1) (0:Int) y1.1.1)
     (cond (bj (List.length x.1.1) (wI (y1.1.1+1)) (lI x.1.1))
      ((F 170 ow ((((cut x.1.1 (0:Int) y1.1.1)::((x.1.2.2.1::([]:List ae))::((cut x.1.1 (wI (y1.1.1+1)) (lI x.1.1))::([]:List (List ae))))),()),())).bind fun(y5:Q6) =>
      some (y5.1,()))
      (none))
     (none))):=by kernel_rfl
theorem aaC(F:FT)(J:JT ov)(x:Fp):bU 188 ov Tryz.f188 F J x =
 some (((x.1.1.1,(cU .xor .i64 x.1.1.2 (1:Int))),()),()):=by kernel_rfl
theorem aaD(F:FT)(J:JT rh)(x:Q6):bU 169 rh Tryz.f169 F J x =
  cond ((lI x.1.1)==0)
   (some ((([]:List ae),()),()))
   ((F 196194 kt (x.1,())).bind fun(y1:Fp) =>
   (F 168 l6 ((x.1.1,(y1.1.1,())),())).bind fun(y2:Q2) =>
   cond (bj (List.length x.1.1) y2.1.1 (lI x.1.1))
    (cond (bj (List.length x.1.1) (0:Int) y2.1.1)
     ((F 196 ox ((((cut x.1.1 y2.1.1 (lI x.1.1))::((cut x.1.1 (0:Int) y2.1.1)::([]:List (List ae)))),()),())).bind fun(y3:Q6) =>
     some (y3.1,()))
     (none))
    (none)):=by kernel_rfl
theorem aaE(F:FT)(J:JT HC)(x:We):bU 189 HC Tryz.f189 F J x =
  cond x.1.1.2.2.2.2.2.2.1
   ((F 182 mU ((x.1.1.2.1,()),(x.2.1,()))).bind fun(y1:Kh) =>
   cond y1.1.2.1
    (cond ((decide ((0:Int)≤y1.1.1))&&(decide (y1.1.1<(lI y1.2.1.2.1))))
     (cond ((decide ((0:Int)≤y1.1.1))&&(decide (y1.1.1<(lI y1.2.1.2.1))))
      (some (((some ((⟨1,by decide⟩:(Fin 2)),(Int.toNat y1.1.1))),((some ((⟨1,by decide⟩:(Fin 2)),(Int.toNat y1.1.1))),())),(y1.2.1,())))
      (none))
     (none))
    (some ((none,(none,())),(y1.2.1,()))))
   ((F 175 qj ((x.1.1.2.1,()),(x.2.1,()))).bind fun(y2:Kh) =>
   cond y2.1.2.1
    (cond ((decide ((0:Int)≤y2.1.1))&&(decide (y2.1.1<(lI y2.2.1.1))))
     (cond ((decide ((0:Int)≤y2.1.1))&&(decide (y2.1.1<(lI y2.2.1.1))))
      (some (((some ((⟨0,by decide⟩:(Fin 2)),(Int.toNat y2.1.1))),((some ((⟨0,by decide⟩:(Fin 2)),(Int.toNat y2.1.1))),())),(y2.2.1,())))
      (none))
     (none))
    (some ((none,(none,())),(y2.2.1,())))):=by kernel_rfl
theorem aaF(F:FT)(J:JT D1)(x:((ah×abr)×Unit)):bU 207 D1 Tryz.f207 F J x =
 (F 208 Bo ((x.1.1.1,(x.1.2.1,())),())).bind fun(y1:Q2) =>
 some (y1.1,()):=by kernel_rfl
theorem aaG(F:FT)(J:JT Bo)(x:((ID×abr)×Unit)):bU 208 Bo Tryz.f208 F J x =
  cond ((x.1.1.1==x.1.2.1.1)&&(x.1.1.2==x.1.2.1.2))
   (some (((0:Int),()),()))
   ((F 219 Bq ((x.1.1.1,(x.1.2.1.1,())),())).bind fun(y1:Q2) =>
   (F 219 Bq ((x.1.1.2,(x.1.2.1.2,())),())).bind fun(y2:Q2) =>
   (F 218 vh (((y1.1.1::(y2.1.1::([]:List Int))),()),())).bind fun(y3:Q2) =>
   some (y3.1,())):=by kernel_rfl
theorem aaH(F:FT)(J:JT tg)(x:Q30):bU 74 tg Tryz.f74 F J x =
 (F 110108 ku ((x.1.1.1,(x.1.2.1,())),())).bind fun(y1:Q7) =>
 (F 110 ze ((y1.1.1.2.1,()),())).bind fun(y2:Q6) =>
 some (((y1.1.1.1,(y2.1.1,y1.1.1.2.2)),y1.1.2),()):=by kernel_rfl
theorem aaI(F:FT)(J:JT yy)(x:((StateT×aae)×Unit)):bU 212 yy Tryz.f212 F J x =
 J vo (aM Tryz.prog 212 0) (((wI ((lI x.1.1.2)+1)),((0:Int),())),(((x.1.1,()),((x.1.2.1,()),((OD,()),()))),())):=by kernel_rfl
theorem LD(F:FT)(J:JT yy)(x:(aaf×((acg×(aae×abw))×Unit))):eR 212 0 yy Tryz.f212 vo F J x =
  cond (decide (x.1.2.1<x.1.1))
   ((F 139 th ((x.2.1.1.1.1,(x.2.1.2.1.1,())),())).bind fun(y1:Qr) =>
   cond y1.1.2.1
    (some ((x.2.1.2.1.1,()),()))
    ((F 230 HH ((x.2.1.1.1.2,(x.2.1.2.1.1,())),())).bind fun(y2:Kg) =>
    cond (not y2.1.2.1)
     (some ((OD,()),()))
     (J vo (aM Tryz.prog 212 0) ((x.1.1,((wI (x.1.2.1+1)),())),(((x.2.1.1.1,()),((y2.1.1,()),((x.2.1.2.2.1.1,()),()))),())))))
   (some ((OD,()),())):=by kernel_rfl
theorem aaJ(F:FT)(J:JT vg)(x:Us):bU 166 vg Tryz.f166 F J x =
 (F 168 l6 ((x.1.1,(x.1.2.1,())),())).bind fun(y1:Q2) =>
 some (((decide (y1.1.1≥0)),()),()):=by kernel_rfl
theorem aaK(F:FT)(J:JT l6)(x:Us):bU 168 l6 Tryz.f168 F J x =
 J vp (aM Tryz.prog 168 0) ((x.1.1,((lI x.1.1),((0:Int),()))),(((x.1.2.1,()),()),())):=by kernel_rfl
theorem LF(F:FT)(J:JT l6)(x:(acp×(abw×Unit))):eR 168 0 l6 Tryz.f168 vp F J x =
  cond (decide (x.1.2.2.1<x.1.2.1))
   (((aY x.1.1 x.1.2.2.1)).bind fun(y1:ae) =>
   cond (((x.2.1.1.1.1.1==y1.1.1)&&(x.2.1.1.1.1.2==y1.1.2))&&(x.2.1.1.1.2==y1.2))
    (some (x.1.2.2,()))
    (J vp (aM Tryz.prog 168 0) ((x.1.1,(x.1.2.1,((wI (x.1.2.2.1+1)),()))),(((x.2.1.1.1,()),()),()))))
   (some (((-1:Int),()),())):=by kernel_rfl
theorem aaL(F:FT)(J:JT ow)(x:Q25):bU 170 ow Tryz.f170 F J x =
 (F 196 ox (x.1,())).bind fun(y1:Q6) =>
 (F 169 rh (y1.1,())).bind fun(y2:Q6) =>
 some (y2.1,()):=by kernel_rfl
theorem aaM(F:FT)(J:JT HD)(x:Q5):bU 204 HD Tryz.f204 F J x =
  (F 226 HI ((x.1.1,()),())).bind fun(y1:((Int×(Int×(Int×(Int×Unit))))×Unit)) =>
  cond ((2:Int)==0)
   (none)
   (some (((wI (y1.1.2.2.2.1-(wI (Int.tdiv (wI ((wI (y1.1.1-y1.1.2.1))+y1.1.2.2.1)) (2:Int))))),()),())):=by kernel_rfl
theorem aaN(F:FT)(J:JT D2)(x:((ai×abr)×Unit)):bU 214 D2 Tryz.f214 F J x =
 (F 208 Bo ((x.1.1.1,(x.1.2.1,())),())).bind fun(y1:Q2) =>
 some (y1.1,()):=by kernel_rfl
theorem aaO(F:FT)(J:JT HE)(x:(((List aA)×(aA×Unit))×Unit)):bU 215 HE Tryz.f215 F J x =
  (F 233231 jv ((x.1.1,(x.1.2.1.1,())),())).bind fun(y1:((Int×(Bool×Unit))×Unit)) =>
  (F 97 Ke ((x.1.1,()),())).bind fun(y2:Wc) =>
  cond y1.1.2.1
   (cond ((decide ((0:Int)≤y1.1.1))&&(decide (y1.1.1<(lI y2.1.1))))
    (((y2.1.1)[(Int.toNat y1.1.1)]?).bind fun(y3:aA) =>
    some (((List.set y2.1.1 (Int.toNat y1.1.1) x.1.2.1),()),()))
    (none))
   (cond (decide ((lI x.1.1)<400))
    (cond (qF y2.1.1 y1.1.1 (x.1.2.1::([]:List aA)))
     (some (((fY y2.1.1 y1.1.1 (x.1.2.1::([]:List aA))),()),()))
     (none))
    (some (y2.1,()))):=by kernel_rfl
theorem aaP(F:FT)(J:JT Bp)(x:Us):bU 140 Bp Tryz.f140 F J x =
 (F 167 Br ((x.1.1,(x.1.2.1,((wI ((lI x.1.1)-1)),()))),())).bind fun(y1:Kg) =>
 some (y1.1,()):=by kernel_rfl
theorem aaQ(F:FT)(J:JT D3)(x:Q33):bU 195 D3 Tryz.f195 F J x =
 (F 208 Bo ((x.1.1.1,(x.1.2.1.1,())),())).bind fun(y1:Q2) =>
 (F 219 Bq ((x.1.1.2,(x.1.2.1.2,())),())).bind fun(y2:Q2) =>
 (F 218 vh (((y1.1.1::(y2.1.1::([]:List Int))),()),())).bind fun(y3:Q2) =>
 some (y3.1,()):=by kernel_rfl
theorem aaR(F:FT)(J:JT ox)(x:Q25):bU 196 ox Tryz.f196 F J x =
 J vq (aM Tryz.prog 196 0) ((x.1.1,((0:Int),(x.1.1,((lI x.1.1),((0:Int),()))))),((),())):=by kernel_rfl
theorem LG(F:FT)(J:JT ox)(x:(((List (List ae))×(Int×((List (List ae))×aaf)))×ab9)):eR 196 0 ox Tryz.f196 vq F J x =
  cond (decide (x.1.2.2.2.2.1<x.1.2.2.2.1))
   (((aY x.1.2.2.1 x.1.2.2.2.2.1)).bind fun(y1:(List ae)) =>
   cond (decide ((wI (x.1.2.1+(lI y1)))<0))
    (none)
    (J vq (aM Tryz.prog 196 0) ((x.1.1,((wI (x.1.2.1+(lI y1))),(x.1.2.2.1,(x.1.2.2.2.1,((wI (x.1.2.2.2.2.1+1)),()))))),((),()))))
   (cond (qG x.1.2.1)
    (J vt (aM Tryz.prog 196 1) ((x.1.1,((lI x.1.1),((0:Int),()))),((),(([]:List ae),()))))
    (none)):=by kernel_rfl
theorem LH(F:FT)(J:JT ox)(x:(((List (List ae))×aaf)×(Unit×abv))):eR 196 1 ox Tryz.f196 vt F J x =
  cond (decide (x.1.2.2.1<x.1.2.1))
   (((aY x.1.1 x.1.2.2.1)).bind fun(y2:(List ae)) =>
   cond (aO (List.length x.2.2.1) (List.length y2))
    (J vt (aM Tryz.prog 196 1) ((x.1.1,(x.1.2.1,((wI (x.1.2.2.1+1)),()))),((),((x.2.2.1++y2),()))))
    (none))
   (some (x.2.2,())):=by kernel_rfl
theorem aaS(F:FT)(J:JT vh)(x:(abx×Unit)):bU 218 vh Tryz.f218 F J x =
 J zO (aM Tryz.prog 218 0) (((0:Int),(x.1.1,((lI x.1.1),((0:Int),())))),((),())):=by kernel_rfl
theorem zP(F:FT)(J:JT vh)(x:((Int×((List Int)×aaf))×ab9)):eR 218 0 vh Tryz.f218 zO F J x =
  cond (decide (x.1.2.2.2.1<x.1.2.2.1))
   (((aY x.1.2.1 x.1.2.2.2.1)).bind fun(y1:Int) =>
   cond (y1 != x.1.1)
    (some ((y1,()),()))
    (J zO (aM Tryz.prog 218 0) ((x.1.1,(x.1.2.1,(x.1.2.2.1,((wI (x.1.2.2.2.1+1)),())))),((),()))))
   (some ((x.1.1,()),())):=by kernel_rfl
theorem aaT(F:FT)(J:JT Bq)(x:(aaf×Unit)):bU 219 Bq Tryz.f219 F J x =
  (F 235 Bu ((x.1.1,()),())).bind fun(y1:Q0) =>
  (F 235 Bu (x.1.2,())).bind fun(y2:Q0) =>
  cond y1.1.1
   (cond y2.1.1
    (some (((0:Int),()),()))
    (some (((-1:Int),()),())))
   (cond y2.1.1
    (some (((1:Int),()),()))
    (cond (decide (x.1.1<x.1.2.1))
     (some (((-1:Int),()),()))
     (cond (decide (x.1.1>x.1.2.1))
      (some (((1:Int),()),()))
      (some (((0:Int),()),()))))):=by kernel_rfl
theorem aaU(F:FT)(J:JT HF)(x:((ah×Unit)×Unit)):bU 109 HF Tryz.f109 F J x =
 some ((x.1.1.1,()),()):=by kernel_rfl
theorem aaV(F:FT)(J:JT th)(x:TH):bU 139 th Tryz.f139 F J x =
 J vu (aM Tryz.prog 139 0) ((x.1.1.1,((lI x.1.1.1),((0:Int),()))),(((x.1.2.1,()),((OI,()),())),())):=by kernel_rfl
theorem LI(F:FT)(J:JT th)(x:(acF×((aae×acC)×Unit))):eR 139 0 th Tryz.f139 vu F J x =
  cond (decide (x.1.2.2.1<x.1.2.1))
   (((aY x.1.1 x.1.2.2.1)).bind fun(y1:ah) =>
   (F 166 vg ((y1.2.1,(x.2.1.1.1,())),())).bind fun(y2:Q0) =>
   cond y2.1.1
    (some ((y1.1,(true,())),()))
    (J vu (aM Tryz.prog 139 0) ((x.1.1,(x.1.2.1,((wI (x.1.2.2.1+1)),()))),(((x.2.1.1.1,()),((x.2.1.2.1.1,()),())),()))))
   (some ((OI,(false,())),())):=by kernel_rfl
theorem aaW(F:FT)(J:JT HH)(x:(((List aA)×aae)×Unit)):bU 230 HH Tryz.f230 F J x =
  (F 246244 jw ((x.1.1,()),((x.1.2.1,()),()))).bind fun(y1:((Int×Unit)×((ae×Unit)×Unit))) =>
  cond (decide (y1.1.1<0))
   (some ((OD,(false,())),()))
   (((aY x.1.1 y1.1.1)).bind fun(y2:aA) =>
   some ((y2.2,(true,())),())):=by kernel_rfl
theorem aaX(F:FT)(J:JT HI)(x:Q5):bU 226 HI Tryz.f226 F J x =
 (F 240238 kx ((x.1.1.1,()),())).bind fun(y1:Q2) =>
 (F 240 yz ((x.1.1,()),())).bind fun(y2:Q25) =>
 (F 241 yC ((x.1.1,()),())).bind fun(y3:Q2) =>
 some (((lI x.1.1.1),((lI x.1.1.2),((wI ((lI y2.1.1)+y1.1.1)),y3.1))),()):=by kernel_rfl
theorem aaY(F:FT)(J:JT D4)(x:((aA×aae)×Unit)):bU 232 D4 Tryz.f232 F J x =
 (F 195 D3 ((x.1.1.1,(x.1.2.1,())),())).bind fun(y1:Q2) =>
 some (y1.1,()):=by kernel_rfl
end Go.Vs
set_option maxRecDepth 1000000
set_option maxHeartbeats 0
namespace Go.Vs
open Go.Proofs
theorem Wl(F:FT)(J:JT Br)(x:(((List ae)×(ae×aaa))×Unit)):bU 167 Br Tryz.f167 F J x =
  (F 168 l6 ((x.1.1,(x.1.2.1,())),())).bind fun(y1:Q2) =>
  cond (decide (y1.1.1<0))
   (some ((OD,(false,())),()))
   (cond ((lI x.1.1)==0)
    (none)
    (((aY x.1.1 (Int.tmod (wI (y1.1.1+x.1.2.2.1)) (lI x.1.1)))).bind fun(y2:ae) =>
    some ((y2,(true,())),()))):=by kernel_rfl
theorem aaZ(F:FT)(J:JT Bu)(x:Q2):bU 235 Bu Tryz.f235 F J x =
 some (((x.1.1 != x.1.1),()),()):=by kernel_rfl
theorem aa0(F:FT)(J:JT HJ)(x:((aA×Unit)×((Int×aaf)×Unit))):bU 245 HJ Tryz.f245 F J x =
 some (((((x.1.1.1.1.1==x.2.1.1)&&(x.1.1.1.1.2==x.2.1.2.1))&&(x.1.1.1.2==x.2.1.2.2.1)),()),(x.2.1,())):=by kernel_rfl
theorem aa1(F:FT)(J:JT HK)(x:((ah×Unit)×Unit)):bU 239 HK Tryz.f239 F J x =
 some ((((lI x.1.1.2.1)==0),()),()):=by kernel_rfl
theorem aa2(F:FT)(J:JT vj)(x:Q5):bU 249 vj Tryz.f249 F J x =
 J vv (aM Tryz.prog 249 0) ((x.1.1.2,((lI x.1.1.2),((0:Int),()))),((),(([]:List ae),()))):=by kernel_rfl
theorem LJ(F:FT)(J:JT vj)(x:(((List ai)×aaf)×(Unit×abv))):eR 249 0 vj Tryz.f249 vv F J x =
  cond (decide (x.1.2.2.1<x.1.2.1))
   (((aY x.1.1 x.1.2.2.1)).bind fun(y1:ai) =>
   (F 188 ov (((y1.1,(0:Int)),()),())).bind fun(y2:Fp) =>
   cond (aO (List.length x.2.2.1) (List.length ((y1.1,(0:Int))::(y2.1.1::([]:List ae)))))
    (J vv (aM Tryz.prog 249 0) ((x.1.1,(x.1.2.1,((wI (x.1.2.2.1+1)),()))),((),((x.2.2.1++((y1.1,(0:Int))::(y2.1.1::([]:List ae)))),()))))
    (none))
   (some (x.2.2,())):=by kernel_rfl
theorem aa3(F:FT)(J:JT D5)(x:TH):bU 255 D5 Tryz.f255 F J x =
  (F 139 th ((x.1.1,(x.1.2.1,())),())).bind fun(y1:Qr) =>
  cond (not y1.1.2.1)
   (some ((OD,(false,())),()))
   ((F 188 ov ((x.1.2.1,()),())).bind fun(y2:Fp) =>
   (F 258 yD ((x.1.1,(y2.1.1,())),())).bind fun(y3:Kg) =>
   some (y3.1,())):=by kernel_rfl
theorem aa4(F:FT)(J:JT hZ)(x:Q5):bU 256 hZ Tryz.f256 F J x =
 J sj (aM Tryz.prog 256 0) ((x.1.1.1,((lI x.1.1.1),((0:Int),()))),((),(([]:List Int),(([]:List (ae×Int)),())))):=by kernel_rfl
theorem LK(F:FT)(J:JT hZ)(x:(acF×(Unit×((List Int)×((List (ae×Int))×Unit))))):eR 256 0 hZ Tryz.f256 sj F J x =
  cond (decide (x.1.2.2.1<x.1.2.1))
   (((aY x.1.1 x.1.2.2.1)).bind fun(y1:ah) =>
   cond (aO (List.length x.2.2.1) (List.length (x.1.2.2.1::([]:List Int))))
    (J vw (aM Tryz.prog 256 1) ((x.1.2.2.1,(x.1.1,(x.1.2.1,(x.1.2.2.1,(y1.2.1,((lI y1.2.1),((0:Int),()))))))),((),((x.2.2.1++(x.1.2.2.1::([]:List Int))),x.2.2.2))))
    (none))
   (J pO (aM Tryz.prog 256 2) (x.2.2.2,((),(x.2.2.1,((none,x.2.2.2.1),()))))):=by kernel_rfl
theorem LL(F:FT)(J:JT hZ)(x:((Int×((List ah)×(Int×(Int×acp))))×(Unit×((List Int)×((List (ae×Int))×Unit))))):eR 256 1 hZ Tryz.f256 vw F J x =
  cond (decide (x.1.2.2.2.2.2.2.1<x.1.2.2.2.2.2.1))
   (((aY x.1.2.2.2.2.1 x.1.2.2.2.2.2.2.1)).bind fun(y2:ae) =>
   J vw (aM Tryz.prog 256 1) ((x.1.1,(x.1.2.1,(x.1.2.2.1,(x.1.2.2.2.1,(x.1.2.2.2.2.1,(x.1.2.2.2.2.2.1,((wI (x.1.2.2.2.2.2.2.1+1)),()))))))),((),(x.2.2.1,((mB (.pair (.pair (.int .i64) (.int .i64)) (.int .i64)) y2 x.1.1 x.2.2.2.1),())))))
   (J sj (aM Tryz.prog 256 0) ((x.1.2.1,(x.1.2.2.1,((wI (x.1.2.2.2.1+1)),()))),((),x.2.2))):=by kernel_rfl
theorem LM(F:FT)(J:JT hZ)(x:(((List (ae×Int))×Unit)×(Unit×((List Int)×(((Option (ae×Int))×(List (ae×Int)))×Unit))))):eR 256 2 hZ Tryz.f256 pO F J x =
  cond (List.isEmpty x.2.2.2.1.2)
   (J vx (aM Tryz.prog 256 3) (((lI x.2.2.1),((0:Int),())),((),(x.2.2.1,(([]:List Int),())))))
   (sK (List.length x.2.2.2.1.2) fun(j3:Nat) =>
   ((x.2.2.2.1.2)[j3]?).bind fun(y4:(ae×Int)) =>
   (F 188 ov ((y4.1,()),())).bind fun(y5:Fp) =>
   cond (Option.isSome (jh (.pair (.pair (.int .i64) (.int .i64)) (.int .i64)) y5.1.1 x.1.1))
    ((F 259 HL ((y4.2,((Option.getD (jh (.pair (.pair (.int .i64) (.int .i64)) (.int .i64)) y5.1.1 x.1.1) (0:Int)),())),(x.2.2.1,()))).bind fun(y6:(Unit×((List Int)×Unit))) =>
    J pO (aM Tryz.prog 256 2) (x.1,((),(y6.2.1,(((some y4),(List.eraseIdx x.2.2.2.1.2 j3)),())))))
    (J pO (aM Tryz.prog 256 2) (x.1,((),(x.2.2.1,(((some y4),(List.eraseIdx x.2.2.2.1.2 j3)),())))))):=by kernel_rfl
theorem LN(F:FT)(J:JT hZ)(x:(aaf×(Unit×((List Int)×abx)))):eR 256 3 hZ Tryz.f256 vx F J x =
  cond (decide (x.1.2.1<x.1.1))
   ((F 260 ri (x.1.2,(x.2.2.1,()))).bind fun(y7:Q35) =>
   cond (aO (List.length x.2.2.2.1) (List.length (y7.1.1::([]:List Int))))
    (J vx (aM Tryz.prog 256 3) ((x.1.1,((wI (x.1.2.1+1)),())),((),(y7.2.1,((x.2.2.2.1++(y7.1.1::([]:List Int))),())))))
    (none))
   (some (x.2.2.2,())):=by kernel_rfl
theorem aa5(F:FT)(J:JT yD)(x:TH):bU 258 yD Tryz.f258 F J x =
 J vz (aM Tryz.prog 258 0) ((x.1.1.1,((lI x.1.1.1),((0:Int),()))),(((x.1.2.1,()),((OD,()),())),())):=by kernel_rfl
theorem LO(F:FT)(J:JT yD)(x:(acF×((aae×abw)×Unit))):eR 258 0 yD Tryz.f258 vz F J x =
  cond (decide (x.1.2.2.1<x.1.2.1))
   (((aY x.1.1 x.1.2.2.1)).bind fun(y1:ah) =>
   (F 261 HM ((y1.2.1,(x.2.1.1.1,())),())).bind fun(y2:Kg) =>
   cond y2.1.2.1
    (some ((y2.1.1,(true,())),()))
    (J vz (aM Tryz.prog 258 0) ((x.1.1,(x.1.2.1,((wI (x.1.2.2.1+1)),()))),(((x.2.1.1.1,()),((x.2.1.2.1.1,()),())),()))))
   (some ((OD,(false,())),())):=by kernel_rfl
theorem aa6(F:FT)(J:JT HL)(x:(aaf×abx)):bU 259 HL Tryz.f259 F J x =
  (F 260 ri ((x.1.1,()),x.2)).bind fun(y1:Q35) =>
  (F 260 ri (x.1.2,y1.2)).bind fun(y2:Q35) =>
  cond ((decide ((0:Int)≤(max y1.1.1 y2.1.1:Int)))&&(decide ((max y1.1.1 y2.1.1:Int)<(lI y2.2.1))))
   (((y2.2.1)[(Int.toNat (max y1.1.1 y2.1.1:Int))]?).bind fun(y3:Int) =>
   some ((),((List.set y2.2.1 (Int.toNat (max y1.1.1 y2.1.1:Int)) (min y1.1.1 y2.1.1:Int)),())))
   (none):=by kernel_rfl
theorem aa7(F:FT)(J:JT ri)(x:Q35):bU 260 ri Tryz.f260 F J x =
 J so (aM Tryz.prog 260 0) (x.1,((),x.2)):=by kernel_rfl
theorem LP(F:FT)(J:JT ri)(x:(aaa×(Unit×abx))):eR 260 0 ri Tryz.f260 so F J x =
  cond ((decide ((0:Int)≤x.1.1))&&(decide (x.1.1<(lI x.2.2.1))))
   (((x.2.2.1)[(Int.toNat x.1.1)]?).bind fun(y1:Int) =>
   cond (y1 != x.1.1)
    (cond ((decide ((0:Int)≤x.1.1))&&(decide (x.1.1<(lI x.2.2.1))))
     (((x.2.2.1)[(Int.toNat x.1.1)]?).bind fun(y2:Int) =>
     cond ((decide ((0:Int)≤y2))&&(decide (y2<(lI x.2.2.1))))
      (((x.2.2.1)[(Int.toNat y2)]?).bind fun(y3:Int) =>
      cond ((decide ((0:Int)≤x.1.1))&&(decide (x.1.1<(lI x.2.2.1))))
       (((x.2.2.1)[(Int.toNat x.1.1)]?).bind fun(y4:Int) =>
       cond ((decide ((0:Int)≤x.1.1))&&(decide (x.1.1<(lI (List.set x.2.2.1 (Int.toNat x.1.1) y3)))))
        ((((List.set x.2.2.1 (Int.toNat x.1.1) y3))[(Int.toNat x.1.1)]?).bind fun(y5:Int) =>
        J so (aM Tryz.prog 260 0) ((y5,()),((),((List.set x.2.2.1 (Int.toNat x.1.1) y3),()))))
        (none))
       (none))
      (none))
     (none))
    (some (x.1,x.2.2)))
   (none):=by kernel_rfl
theorem aa8(F:FT)(J:JT HM)(x:Us):bU 261 HM Tryz.f261 F J x =
 (F 167 Br ((x.1.1,(x.1.2.1,((1:Int),()))),())).bind fun(y1:Kg) =>
 some (y1.1,()):=by kernel_rfl
theorem Rj(F:FT)(J:JT jt)(x:(((List ah)×abr)×Unit)):bU 208206 jt Tryz.f206 F J x =
 J iC (aM Tryz.prog 206 0) ((x.1.1,((lI x.1.1),((0:Int),((lI x.1.1),())))),(((x.1.2.1,()),()),())):=by kernel_rfl
theorem BR(F:FT)(J:JT jt)(x:(((List ah)×(Int×aaf))×(acC×Unit))):eR 208206 0 jt Tryz.f206 iC F J x =
  cond (decide (x.1.2.2.1<x.1.2.2.2.1))
   (cond (decide ((1:Int)<0))
    (none)
    (((aY x.1.1 (wI (kY .u64 (IntKind.wrap .u64 (wI (x.1.2.2.1+x.1.2.2.2.1))) (1:Int))))).bind fun(y1:ah) =>
    (F 207 D1 ((y1,(x.2.1.1.1,())),())).bind fun(y2:Q2) =>
    cond (decide (y2.1.1<0))
     (J iC (aM Tryz.prog 206 0) ((x.1.1,(x.1.2.1,((wI ((wI (kY .u64 (IntKind.wrap .u64 (wI (x.1.2.2.1+x.1.2.2.2.1))) (1:Int)))+1)),x.1.2.2.2))),(((x.2.1.1.1,()),()),())))
     (J iC (aM Tryz.prog 206 0) ((x.1.1,(x.1.2.1,(x.1.2.2.1,((wI (kY .u64 (IntKind.wrap .u64 (wI (x.1.2.2.1+x.1.2.2.2.1))) (1:Int))),())))),(((x.2.1.1.1,()),()),())))))
   (cond (decide (x.1.2.2.1<x.1.2.1))
    (((aY x.1.1 x.1.2.2.1)).bind fun(y3:ah) =>
    (F 207 D1 ((y3,(x.2.1.1.1,())),())).bind fun(y4:Q2) =>
    some ((x.1.2.2.1,((y4.1.1==0),())),()))
    (some ((x.1.2.2.1,(false,())),()))):=by kernel_rfl
theorem Rk(F:FT)(J:JT ju)(x:(((List ai)×abr)×Unit)):bU 215213 ju Tryz.f213 F J x =
 J iD (aM Tryz.prog 213 0) ((x.1.1,((lI x.1.1),((0:Int),((lI x.1.1),())))),(((x.1.2.1,()),()),())):=by kernel_rfl
theorem BS(F:FT)(J:JT ju)(x:(((List ai)×(Int×aaf))×(acC×Unit))):eR 215213 0 ju Tryz.f213 iD F J x =
  cond (decide (x.1.2.2.1<x.1.2.2.2.1))
   (cond (decide ((1:Int)<0))
    (none)
    (((aY x.1.1 (wI (kY .u64 (IntKind.wrap .u64 (wI (x.1.2.2.1+x.1.2.2.2.1))) (1:Int))))).bind fun(y1:ai) =>
    (F 214 D2 ((y1,(x.2.1.1.1,())),())).bind fun(y2:Q2) =>
    cond (decide (y2.1.1<0))
     (J iD (aM Tryz.prog 213 0) ((x.1.1,(x.1.2.1,((wI ((wI (kY .u64 (IntKind.wrap .u64 (wI (x.1.2.2.1+x.1.2.2.2.1))) (1:Int)))+1)),x.1.2.2.2))),(((x.2.1.1.1,()),()),())))
     (J iD (aM Tryz.prog 213 0) ((x.1.1,(x.1.2.1,(x.1.2.2.1,((wI (kY .u64 (IntKind.wrap .u64 (wI (x.1.2.2.1+x.1.2.2.2.1))) (1:Int))),())))),(((x.2.1.1.1,()),()),())))))
   (cond (decide (x.1.2.2.1<x.1.2.1))
    (((aY x.1.1 x.1.2.2.1)).bind fun(y3:ai) =>
    (F 214 D2 ((y3,(x.2.1.1.1,())),())).bind fun(y4:Q2) =>
    some ((x.1.2.2.1,((y4.1.1==0),())),()))
    (some ((x.1.2.2.1,(false,())),()))):=by kernel_rfl
theorem Rl(F:FT)(J:JT kt)(x:Q6):bU 196194 kt Tryz.f194 F J x =
  cond (decide ((lI x.1.1)<1))
   (none)
   (((aY x.1.1 (0:Int))).bind fun(y1:ae) =>
   J jT (aM Tryz.prog 194 0) ((x.1.1,((1:Int),())),(((OD,()),((y1,()),())),()))):=by kernel_rfl
theorem BT(F:FT)(J:JT kt)(x:(aco×((aae×abw)×Unit))):eR 196194 0 kt Tryz.f194 jT F J x =
  cond (decide (x.1.2.1<(lI x.1.1)))
   (((aY x.1.1 x.1.2.1)).bind fun(y2:ae) =>
   (F 195 D3 ((y2,(x.2.1.2.1.1,())),())).bind fun(y3:Q2) =>
   cond (decide (y3.1.1<0))
    (((aY x.1.1 x.1.2.1)).bind fun(y4:ae) =>
    J jT (aM Tryz.prog 194 0) ((x.1.1,((wI (x.1.2.1+1)),())),(((x.2.1.1.1,()),((y4,()),())),())))
    (J jT (aM Tryz.prog 194 0) ((x.1.1,((wI (x.1.2.1+1)),())),(((x.2.1.1.1,()),((x.2.1.2.1.1,()),())),()))))
   (some ((x.2.1.2.1.1,()),())):=by kernel_rfl
theorem Rm(F:FT)(J:JT ku)(x:(((List ah)×abr)×Unit)):bU 110108 ku Tryz.f108 F J x =
 J mb (aM Tryz.prog 108 0) ((x.1.1,((lI x.1.1),((0:Int),()))),(((x.1.2.1,()),(((0:Int),((0:Int),(([]:List ae),(OB,((0:Int),()))))),())),())):=by kernel_rfl
theorem BU(F:FT)(J:JT ku)(x:(acF×(acE×Unit))):eR 110108 0 ku Tryz.f108 mb F J x =
  cond (decide (x.1.2.2.1<x.1.2.1))
   (((aY x.1.1 x.1.2.2.1)).bind fun(y1:ah) =>
   (F 109 HF ((y1,()),())).bind fun(y2:((ID×Unit)×Unit)) =>
   cond ((y2.1.1.1==x.2.1.1.1.1)&&(y2.1.1.2==x.2.1.1.1.2))
    (some ((y1,(true,())),()))
    (J mb (aM Tryz.prog 108 0) ((x.1.1,(x.1.2.1,((wI (x.1.2.2.1+1)),()))),(((x.2.1.1.1,()),(x.2.1.2.1,())),()))))
   (some (((OI,(([]:List ae),(OB,(0:Int)))),(false,())),())):=by kernel_rfl
theorem Rn(F:FT)(J:JT jv)(x:(((List aA)×aae)×Unit)):bU 233231 jv Tryz.f231 F J x =
 J iE (aM Tryz.prog 231 0) ((x.1.1,((lI x.1.1),((0:Int),((lI x.1.1),())))),(((x.1.2.1,()),()),())):=by kernel_rfl
theorem BV(F:FT)(J:JT jv)(x:(((List aA)×(Int×aaf))×(abw×Unit))):eR 233231 0 jv Tryz.f231 iE F J x =
  cond (decide (x.1.2.2.1<x.1.2.2.2.1))
   (cond (decide ((1:Int)<0))
    (none)
    (((aY x.1.1 (wI (kY .u64 (IntKind.wrap .u64 (wI (x.1.2.2.1+x.1.2.2.2.1))) (1:Int))))).bind fun(y1:aA) =>
    (F 232 D4 ((y1,(x.2.1.1.1,())),())).bind fun(y2:Q2) =>
    cond (decide (y2.1.1<0))
     (J iE (aM Tryz.prog 231 0) ((x.1.1,(x.1.2.1,((wI ((wI (kY .u64 (IntKind.wrap .u64 (wI (x.1.2.2.1+x.1.2.2.2.1))) (1:Int)))+1)),x.1.2.2.2))),(((x.2.1.1.1,()),()),())))
     (J iE (aM Tryz.prog 231 0) ((x.1.1,(x.1.2.1,(x.1.2.2.1,((wI (kY .u64 (IntKind.wrap .u64 (wI (x.1.2.2.1+x.1.2.2.2.1))) (1:Int))),())))),(((x.2.1.1.1,()),()),())))))
   (cond (decide (x.1.2.2.1<x.1.2.1))
    (((aY x.1.1 x.1.2.2.1)).bind fun(y3:aA) =>
    (F 232 D4 ((y3,(x.2.1.1.1,())),())).bind fun(y4:Q2) =>
    some ((x.1.2.2.1,((y4.1.1==0),())),()))
    (some ((x.1.2.2.1,(false,())),()))):=by kernel_rfl
theorem Ro(F:FT)(J:JT jw)(x:(((List aA)×Unit)×abw)):bU 246244 jw Tryz.f244 F J x =
 J jU (aM Tryz.prog 244 0) ((x.1.1,((lI x.1.1),((0:Int),()))),(((x.2.1.1,()),()),())):=by kernel_rfl
theorem BW(F:FT)(J:JT jw)(x:(((List aA)×aaf)×(abw×Unit))):eR 246244 0 jw Tryz.f244 jU F J x =
  cond (decide (x.1.2.2.1<x.1.2.1))
   (((aY x.1.1 x.1.2.2.1)).bind fun(y1:aA) =>
   (F 245 HJ ((y1,()),((x.2.1.1.1.1.1,(x.2.1.1.1.1.2,(x.2.1.1.1.2,()))),()))).bind fun(y2:((Bool×Unit)×((Int×(Int×(Int×Unit)))×Unit))) =>
   cond y2.1.1
    (some (x.1.2.2,((((y2.2.1.1,y2.2.1.2.1),y2.2.1.2.2.1),()),())))
    (J jU (aM Tryz.prog 244 0) ((x.1.1,(x.1.2.1,((wI (x.1.2.2.1+1)),()))),(((((y2.2.1.1,y2.2.1.2.1),y2.2.1.2.2.1),()),()),()))))
   (some (((-1:Int),()),((x.2.1.1.1,()),()))):=by kernel_rfl
theorem Rp(F:FT)(J:JT kx)(x:(((List ah)×Unit)×Unit)):bU 240238 kx Tryz.f238 F J x =
 J jV (aM Tryz.prog 238 0) (((0:Int),(x.1.1,((lI x.1.1),((0:Int),())))),((),())):=by kernel_rfl
theorem BX(F:FT)(J:JT kx)(x:((Int×acF)×ab9)):eR 240238 0 kx Tryz.f238 jV F J x =
  cond (decide (x.1.2.2.2.1<x.1.2.2.1))
   (((aY x.1.2.1 x.1.2.2.2.1)).bind fun(y1:ah) =>
   (F 239 HK ((y1,()),())).bind fun(y2:Q0) =>
   cond y2.1.1
    (J jV (aM Tryz.prog 238 0) (((wI (x.1.1+1)),(x.1.2.1,(x.1.2.2.1,((wI (x.1.2.2.2.1+1)),())))),((),())))
    (J jV (aM Tryz.prog 238 0) ((x.1.1,(x.1.2.1,(x.1.2.2.1,((wI (x.1.2.2.2.1+1)),())))),((),()))))
   (some ((x.1.1,()),())):=by kernel_rfl
end Go.Vs
