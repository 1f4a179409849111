/- Normal forms of the program's functions, the third part. -/
import Derived.Test.YtpkfpbpbkabkdaaGreatEngineD
import Derived.KernelRfl
set_option linter.unusedVariables false
set_option maxRecDepth 1000000
set_option maxHeartbeats 0
namespace Go.Vs
open Go.Proofs
theorem Zk(F:FT)(J:JT pH)(x:(aan×Unit)):dt 159 pH Tryz.f159 F J x =
  cond (decide (x.1.1.1≥(1:Int)))
   (cond (decide (x.1.1.1≤(8:Int)))
    (cond (decide (x.1.1.2≥(1:Int)))
     (some (((decide (x.1.1.2≤(1048576:Int))),()),()))
     (some ((false,()),())))
    (some ((false,()),())))
   (some ((false,()),())):=by kernel_rfl
theorem Zl(F:FT)(J:JT AG)(x:((tn×Unit)×Unit)):dt 160 AG Tryz.f160 F J x =
  (F 159 pH ((x.1.1.1,()),())).bind fun(y1:((Bool×Unit)×Unit)) =>
  cond y1.1.1
   (cond (((x.1.1.2.1.1==(0:Int))&&(x.1.1.2.1.2==(0:Int)))&&(x.1.1.2.2==(0:Int)))
    (some ((true,()),()))
    ((F 190 Eh (((x.1.1.2.1,x.1.1.2.2),()),())).bind fun(y2:((Bool×Unit)×Unit)) =>
    some (y2.1,())))
   (some ((false,()),())):=by kernel_rfl
theorem Zm(F:FT)(J:JT uO)(x:((ByteArray×Unit)×Unit)):dt 161 uO Tryz.f161 F J x =
 J uP (bY Tryz.prog 161 0) (x.1,((),((x.1.1,0),()))):=by kernel_rfl
theorem Mk(F:FT)(J:JT uO)(x:((ByteArray×Unit)×(Unit×((ByteArray×Nat)×Unit)))):qw 161 0 uO Tryz.f161 uP F J x =
  cond (decide (x.2.2.1.2<(ByteArray.size x.2.2.1.1)))
   (cond (decide ((nj x.2.2.1.1 x.2.2.1.2)<(32:Int)))
    (some ((false,()),()))
    (cond (decide ((nj x.2.2.1.1 x.2.2.1.2)>(126:Int)))
     (some ((false,()),()))
     (J uP (bY Tryz.prog 161 0) (x.1,((),((x.2.2.1.1,(x.2.2.1.2+(xl x.2.2.1.1 x.2.2.1.2))),()))))))
   (some (((decide ((((ByteArray.size x.1.1):Nat):Int)≤(16:Int))),()),())):=by kernel_rfl
theorem Zn(F:FT)(J:JT Ef)(x:(aau×Unit)):dt 162 Ef Tryz.f162 F J x =
  cond (decide (x.1.1≥(-1099511627776:Int)))
   (some (((decide (x.1.1≤(1099511627776:Int))),()),()))
   (some ((false,()),())):=by kernel_rfl
theorem Zo(F:FT)(J:JT Eg)(x:((ah×Unit)×aaB)):dt 152 Eg Tryz.f152 F J x =
  (F 175 oy ((x.1.1.1,()),((x.2.1.1,(x.2.1.2.1,x.2.1.2.2)),()))).bind fun(y1:((Int×(Bool×Unit))×(aB×Unit))) =>
  cond y1.1.2.1
   (some (((12:Int),()),((y1.2.1.1,(y1.2.1.2.1,y1.2.1.2.2)),())))
   (cond (decide ((((List.length y1.2.1.1):Nat):Int)≥(24:Int)))
    (some (((3:Int),()),((y1.2.1.1,(y1.2.1.2.1,y1.2.1.2.2)),())))
    (cond (oU y1.2.1.1 y1.1.1 ((x.1.1.1,(x.1.1.2.1,x.1.1.2.2))::([]:List ah)))
     (some (((0:Int),()),(((fh y1.2.1.1 y1.1.1 ((x.1.1.1,(x.1.1.2.1,x.1.1.2.2))::([]:List ah))),(y1.2.1.2.1,y1.2.1.2.2)),())))
     (none))):=by kernel_rfl
theorem Zp(F:FT)(J:JT Me)(x:aam):dt 153 Me Tryz.f153 F J x =
  (F 175 oy ((x.1.1.2.1,()),((x.2.1.1,(x.2.1.2.1,x.2.1.2.2)),()))).bind fun(y1:((Int×(Bool×Unit))×(aB×Unit))) =>
  cond (not y1.1.2.1)
   (some (((13:Int),()),((y1.2.1.1,(y1.2.1.2.1,y1.2.1.2.2)),())))
   (cond ((decide ((0:Int)≤y1.1.1))&&(decide (y1.1.1<(((List.length y1.2.1.1):Nat):Int))))
    (((y1.2.1.1)[(Int.toNat y1.1.1)]?).bind fun(y2:ah) =>
    cond (decide ((((List.length y2.2.1):Nat):Int)>(0:Int)))
     (some (((14:Int),()),((y1.2.1.1,(y1.2.1.2.1,y1.2.1.2.2)),())))
     (cond (iM y1.2.1.1 y1.1.1 (IntKind.wrap .i64 (y1.1.1+(1:Int))))
      (some (((0:Int),()),(((cX y1.2.1.1 y1.1.1 (IntKind.wrap .i64 (y1.1.1+(1:Int)))),(y1.2.1.2.1,y1.2.1.2.2)),())))
      (none)))
    (none)):=by kernel_rfl
theorem RZ(F:FT)(J:JT nP)(x:aam):dt 154 nP Tryz.f154 F J x =
  cond (nO x.2.1.1 x.2.1.2.1)
   ((F 178 vX ((x.1.1.2.1,()),((x.2.1.1,(x.2.1.2.1,x.2.1.2.2)),()))).bind fun(y1:((Int×Unit)×(aB×Unit))) =>
   cond (y1.1.1 != (0:Int))
    (some (y1.1,((y1.2.1.1,(y1.2.1.2.1,y1.2.1.2.2)),())))
    ((F 179 yE ((x.1.1.2.1,()),())).bind fun(y2:((ab×(ab×Unit))×Unit)) =>
    J kX (bY Tryz.prog 154 0) (((((List.length ((x.1.1.2.2.2.2.1.1,(x.1.1.2.2.2.2.1.2.1,x.1.1.2.2.2.2.1.2.2))::((x.1.1.2.2.2.2.2.1.1,(x.1.1.2.2.2.2.2.1.2.1,x.1.1.2.2.2.2.2.1.2.2))::([]:List tn)))):Nat):Int),((0:Int),())),(((y1.2.1.1,(y1.2.1.2.1,y1.2.1.2.2)),((((x.2.1.1,x.2.1.2.1),x.2.1.2.2.1),()),(((y2.1.1.1,y2.1.1.2),()),()))),(((y2.1.1.1,y2.1.1.2)::((y2.1.2.1.1,y2.1.2.1.2)::([]:List ab))),(((x.1.1.2.2.2.2.1.1,(x.1.1.2.2.2.2.1.2.1,x.1.1.2.2.2.2.1.2.2))::((x.1.1.2.2.2.2.2.1.1,(x.1.1.2.2.2.2.2.1.2.1,x.1.1.2.2.2.2.2.1.2.2))::([]:List tn))),()))))))
   (none):=by kernel_rfl
theorem uS(F:FT)(J:JT nP)(x:(aab×((aB×((StateT×Unit)×aaq))×((List ab)×((List tn)×Unit))))):qw 154 0 nP Tryz.f154 kX F J x =
  cond (decide (x.1.2.1<x.1.1))
   (cond ((decide ((0:Int)≤x.1.2.1))&&(decide (x.1.2.1<(((List.length x.2.2.2.1):Nat):Int))))
    (((x.2.2.2.1)[(Int.toNat x.1.2.1)]?).bind fun(y3:tn) =>
    (F 180 Ei (((x.2.1.2.1.1.1,x.2.1.2.1.1.2),((y3.1,(y3.2.1,y3.2.2)),())),())).bind fun(y4:((tn×(Int×Unit))×Unit)) =>
    cond (y4.1.2.1 != (0:Int))
     (some (y4.1.2,((x.2.1.1.1,(x.2.1.1.2.1,x.2.1.1.2.2)),())))
     (cond (x.1.2.1==(1:Int))
      (cond (((y3.2.1.1==x.2.1.2.2.1.1.1.1)&&(y3.2.1.2==x.2.1.2.2.1.1.1.2))&&(y3.2.2==x.2.1.2.2.1.1.2))
       ((F 175 oy ((y3.1,()),((x.2.1.1.1,(x.2.1.1.2.1,x.2.1.1.2.2)),()))).bind fun(y5:((Int×(Bool×Unit))×(aB×Unit))) =>
       cond ((decide ((0:Int)≤y5.1.1))&&(decide (y5.1.1<(((List.length y5.2.1.1):Nat):Int))))
        (((y5.2.1.1)[(Int.toNat y5.1.1)]?).bind fun(y6:ah) =>
        cond ((decide ((0:Int)≤x.1.2.1))&&(decide (x.1.2.1<(((List.length x.2.2.1):Nat):Int))))
         (((x.2.2.1)[(Int.toNat x.1.2.1)]?).bind fun(y7:ab) =>
         (F 181 yF ((y6.2.1,((y3.2.1,y3.2.2),((y7.1,y7.2),()))),())).bind fun(y8:(((List ab)×Unit)×Unit)) =>
         ((y5.2.1.1)[(Int.toNat y5.1.1)]?).bind fun(y9:ah) =>
         J kX (bY Tryz.prog 154 0) ((x.1.1,((IntKind.wrap .i64 (x.1.2.1+(1:Int))),())),((((List.set y5.2.1.1 (Int.toNat y5.1.1) (y9.1,(y8.1.1,y9.2.2))),(y5.2.1.2.1,y5.2.1.2.2)),(((x.2.1.2.1.1.1,x.2.1.2.1.1.2),()),(((x.2.1.2.2.1.1.1,x.2.1.2.2.1.1.2),()),()))),(x.2.2.1,x.2.2.2))))
         (none))
        (none))
       ((F 175 oy ((y4.1.1.1,()),((x.2.1.1.1,(x.2.1.1.2.1,x.2.1.1.2.2)),()))).bind fun(oM:((Int×(Bool×Unit))×(aB×Unit))) =>
       cond ((decide ((0:Int)≤oM.1.1))&&(decide (oM.1.1<(((List.length oM.2.1.1):Nat):Int))))
        (((oM.2.1.1)[(Int.toNat oM.1.1)]?).bind fun(mo:ah) =>
        cond ((decide ((0:Int)≤x.1.2.1))&&(decide (x.1.2.1<(((List.length x.2.2.1):Nat):Int))))
         (((x.2.2.1)[(Int.toNat x.1.2.1)]?).bind fun(nR:ab) =>
         (F 181 yF ((mo.2.1,((y4.1.1.2.1,y4.1.1.2.2),((nR.1,nR.2),()))),())).bind fun(lA:(((List ab)×Unit)×Unit)) =>
         ((oM.2.1.1)[(Int.toNat oM.1.1)]?).bind fun(Ah:ah) =>
         J kX (bY Tryz.prog 154 0) ((x.1.1,((IntKind.wrap .i64 (x.1.2.1+(1:Int))),())),((((List.set oM.2.1.1 (Int.toNat oM.1.1) (Ah.1,(lA.1.1,Ah.2.2))),(oM.2.1.2.1,oM.2.1.2.2)),(((x.2.1.2.1.1.1,x.2.1.2.1.1.2),()),(((x.2.1.2.2.1.1.1,x.2.1.2.2.1.1.2),()),()))),(x.2.2.1,x.2.2.2))))
         (none))
        (none)))
      ((F 175 oy ((y4.1.1.1,()),((x.2.1.1.1,(x.2.1.1.2.1,x.2.1.1.2.2)),()))).bind fun(uR:((Int×(Bool×Unit))×(aB×Unit))) =>
      cond ((decide ((0:Int)≤uR.1.1))&&(decide (uR.1.1<(((List.length uR.2.1.1):Nat):Int))))
       (((uR.2.1.1)[(Int.toNat uR.1.1)]?).bind fun(XX:ah) =>
       cond ((decide ((0:Int)≤x.1.2.1))&&(decide (x.1.2.1<(((List.length x.2.2.1):Nat):Int))))
        (((x.2.2.1)[(Int.toNat x.1.2.1)]?).bind fun(RY:ab) =>
        (F 181 yF ((XX.2.1,((y4.1.1.2.1,y4.1.1.2.2),((RY.1,RY.2),()))),())).bind fun(TB:(((List ab)×Unit)×Unit)) =>
        ((uR.2.1.1)[(Int.toNat uR.1.1)]?).bind fun(QL:ah) =>
        J kX (bY Tryz.prog 154 0) ((x.1.1,((IntKind.wrap .i64 (x.1.2.1+(1:Int))),())),((((List.set uR.2.1.1 (Int.toNat uR.1.1) (QL.1,(TB.1.1,QL.2.2))),(uR.2.1.2.1,uR.2.1.2.2)),(((x.2.1.2.1.1.1,x.2.1.2.1.1.2),()),(((x.2.1.2.2.1.1.1,x.2.1.2.2.1.1.2),()),()))),(x.2.2.1,x.2.2.2))))
        (none))
       (none))))
    (none))
   ((F 172 yG (((x.2.1.1.1,x.2.1.1.2.1),()),())).bind fun(EB:((Bool×Unit)×Unit)) =>
   cond (not EB.1.1)
    (some (((15:Int),()),((x.2.1.1.1,(x.2.1.1.2.1,x.2.1.1.2.2)),())))
    (some (((0:Int),()),((x.2.1.1.1,(x.2.1.1.2.1,x.2.1.1.2.2)),())))):=by kernel_rfl
theorem UD(F:FT)(J:JT yD)(x:aam):dt 155 yD Tryz.f155 F J x =
  (F 182 lM ((x.1.1.2.1,()),((x.2.1.1,(x.2.1.2.1,x.2.1.2.2)),()))).bind fun(y1:((Int×(Bool×Unit))×(aB×Unit))) =>
  cond (not y1.1.2.1)
   (some (((13:Int),()),((y1.2.1.1,(y1.2.1.2.1,y1.2.1.2.2)),())))
   ((F 179 yE ((x.1.1.2.1,()),())).bind fun(y2:((ab×(ab×Unit))×Unit)) =>
   J CJ (bY Tryz.prog 155 0) ((y1.1.1,((((List.length ((y2.1.1.1,y2.1.1.2)::((y2.1.2.1.1,y2.1.2.1.2)::([]:List ab)))):Nat):Int),((0:Int),()))),(((y1.2.1.1,(y1.2.1.2.1,y1.2.1.2.2)),(((y2.1.1.1,y2.1.1.2),()),(((y2.1.2.1.1,y2.1.2.1.2),()),()))),(((y2.1.1.1,y2.1.1.2)::((y2.1.2.1.1,y2.1.2.1.2)::([]:List ab))),())))):=by kernel_rfl
theorem GR(F:FT)(J:JT yD)(x:((Int×aab)×((aB×(aal×aaq))×aav))):qw 155 0 yD Tryz.f155 CJ F J x =
  cond (decide (x.1.2.2.1<x.1.2.1))
   (cond ((decide ((0:Int)≤x.1.2.2.1))&&(decide (x.1.2.2.1<(((List.length x.2.2.1):Nat):Int))))
    (((x.2.2.1)[(Int.toNat x.1.2.2.1)]?).bind fun(y3:ab) =>
    (F 184 yI (((y3.1,y3.2),()),((x.2.1.1.1,(x.2.1.1.2.1,x.2.1.1.2.2)),()))).bind fun(y4:((ab×Unit)×(aB×Unit))) =>
    (F 183 yH (((y3.1,y3.2),((y4.1.1.1,y4.1.1.2),())),((y4.2.1.1,(y4.2.1.2.1,y4.2.1.2.2)),()))).bind fun(y5:(Unit×(aB×Unit))) =>
    J CJ (bY Tryz.prog 155 0) ((x.1.1,(x.1.2.1,((IntKind.wrap .i64 (x.1.2.2.1+(1:Int))),()))),(((y5.2.1.1,(y5.2.1.2.1,y5.2.1.2.2)),(((x.2.1.2.1.1.1,x.2.1.2.1.1.2),()),(((x.2.1.2.2.1.1.1,x.2.1.2.2.1.1.2),()),()))),x.2.2)))
    (none))
   (J uQ (bY Tryz.prog 155 1) ((x.1.1,((((List.length ((x.2.1.2.1.1.1,x.2.1.2.1.1.2)::((x.2.1.2.2.1.1.1,x.2.1.2.2.1.1.2)::([]:List ab)))):Nat):Int),((0:Int),()))),(((x.2.1.1.1,(x.2.1.1.2.1,x.2.1.1.2.2)),()),(((x.2.1.2.1.1.1,x.2.1.2.1.1.2)::((x.2.1.2.2.1.1.1,x.2.1.2.2.1.1.2)::([]:List ab))),())))):=by kernel_rfl
theorem GS(F:FT)(J:JT yD)(x:((Int×aab)×(aaB×aav))):qw 155 1 yD Tryz.f155 uQ F J x =
  cond (decide (x.1.2.2.1<x.1.2.1))
   (cond ((decide ((0:Int)≤x.1.2.2.1))&&(decide (x.1.2.2.1<(((List.length x.2.2.1):Nat):Int))))
    (((x.2.2.1)[(Int.toNat x.1.2.2.1)]?).bind fun(y6:ab) =>
    (F 185 kV (((y6.1,y6.2),()),((x.2.1.1.1,(x.2.1.1.2.1,x.2.1.1.2.2)),()))).bind fun(y7:(((Option ((Fin 1)×Nat))×Unit)×(aB×Unit))) =>
    oT y7.1.1
     (none) fun(p8:((Fin 1)×Nat)) =>
    cond (p8.1.val==0)
     (((y7.2.1.1)[p8.2]?).bind fun(y9:ah) =>
     (F 141 Ej ((y9.2.1,((y6.1,y6.2),())),())).bind fun(oM:(((List ab)×Unit)×Unit)) =>
     ((y7.2.1.1)[p8.2]?).bind fun(mo:ah) =>
     J uQ (bY Tryz.prog 155 1) ((x.1.1,(x.1.2.1,((IntKind.wrap .i64 (x.1.2.2.1+(1:Int))),()))),((((List.set y7.2.1.1 p8.2 (mo.1,(oM.1.1,mo.2.2))),(y7.2.1.2.1,y7.2.1.2.2)),()),x.2.2)))
     (none))
    (none))
   (cond (iM x.2.1.1.2.1 x.1.1 (IntKind.wrap .i64 (x.1.1+(1:Int))))
    (some (((0:Int),()),((x.2.1.1.1,((cX x.2.1.1.2.1 x.1.1 (IntKind.wrap .i64 (x.1.1+(1:Int)))),x.2.1.1.2.2)),())))
    (none)):=by kernel_rfl
theorem O9(F:FT)(J:JT wy)(x:aam):dt 156 wy Tryz.f156 F J x =
  (F 182 lM ((x.1.1.2.1,()),((x.2.1.1,(x.2.1.2.1,x.2.1.2.2)),()))).bind fun(y1:((Int×(Bool×Unit))×(aB×Unit))) =>
  (F 175 oy ((x.1.1.2.2.1,()),((y1.2.1.1,(y1.2.1.2.1,y1.2.1.2.2)),()))).bind fun(y2:((Int×(Bool×Unit))×(aB×Unit))) =>
  (F 182 lM ((x.1.1.2.2.2.1,()),((y2.2.1.1,(y2.2.1.2.1,y2.2.1.2.2)),()))).bind fun(y3:((Int×(Bool×Unit))×(aB×Unit))) =>
  cond (not y1.1.2.1)
   (some (((13:Int),()),((y3.2.1.1,(y3.2.1.2.1,y3.2.1.2.2)),())))
   (cond y2.1.2.1
    (some (((12:Int),()),((y3.2.1.1,(y3.2.1.2.1,y3.2.1.2.2)),())))
    (cond y3.1.2.1
     (some (((12:Int),()),((y3.2.1.1,(y3.2.1.2.1,y3.2.1.2.2)),())))
     (cond (decide ((1:Int)<(0:Int)))
      (none)
      ((F 185 kV (((x.1.1.2.1,(cP .xor .i64 (1:Int) (cP .and .i64 x.1.1.2.2.2.2.2.2.2.2 (1:Int)))),()),((y3.2.1.1,(y3.2.1.2.1,y3.2.1.2.2)),()))).bind fun(y4:(((Option ((Fin 1)×Nat))×Unit)×(aB×Unit))) =>
      oT y4.1.1
       (none) fun(p5:((Fin 1)×Nat)) =>
      cond (p5.1.val==0)
       (((y4.2.1.1)[p5.2]?).bind fun(y6:ah) =>
       (F 188 mK (((x.1.1.2.2.2.1,(kc .i64 x.1.1.2.2.2.2.2.2.2.2 (1:Int))),()),())).bind fun(y7:((ab×Unit)×Unit)) =>
       (F 187 rp ((y6.2.1,((x.1.1.2.1,(cP .xor .i64 (1:Int) (cP .and .i64 x.1.1.2.2.2.2.2.2.2.2 (1:Int)))),((y7.1.1.1,y7.1.1.2),()))),())).bind fun(y8:(((List ab)×Unit)×Unit)) =>
       ((y4.2.1.1)[p5.2]?).bind fun(y9:ah) =>
       (F 169 pJ ((((x.1.1.2.1,(cP .xor .i64 (1:Int) (cP .and .i64 x.1.1.2.2.2.2.2.2.2.2 (1:Int))))::((x.1.1.2.2.2.1,(kc .i64 x.1.1.2.2.2.2.2.2.2.2 (1:Int)))::([]:List ab))),()),())).bind fun(oM:(((List ab)×Unit)×Unit)) =>
       (F 152 Eg (((x.1.1.2.2.1,(oM.1.1,((⟨#[]⟩:ByteArray),(0:Int)))),()),(((List.set y4.2.1.1 p5.2 (y9.1,(y8.1.1,y9.2.2))),(y4.2.1.2.1,y4.2.1.2.2)),()))).bind fun(mo:((Int×Unit)×(aB×Unit))) =>
       cond (mo.1.1 != (0:Int))
        (some (mo.1,((mo.2.1.1,(mo.2.1.2.1,mo.2.1.2.2)),())))
        ((F 178 vX ((x.1.1.2.2.2.1,()),((mo.2.1.1,(mo.2.1.2.1,mo.2.1.2.2)),()))).bind fun(nR:((Int×Unit)×(aB×Unit))) =>
        some (nR.1,((nR.2.1.1,(nR.2.1.2.1,nR.2.1.2.2)),()))))
       (none))))):=by kernel_rfl
theorem UE(F:FT)(J:JT pI)(x:aam):dt 157 pI Tryz.f157 F J x =
  (F 175 oy ((x.1.1.2.1,()),((x.2.1.1,(x.2.1.2.1,x.2.1.2.2)),()))).bind fun(y1:((Int×(Bool×Unit))×(aB×Unit))) =>
  cond (not y1.1.2.1)
   (some (((13:Int),()),((y1.2.1.1,(y1.2.1.2.1,y1.2.1.2.2)),())))
   (cond ((decide ((0:Int)≤y1.1.1))&&(decide (y1.1.1<(((List.length y1.2.1.1):Nat):Int))))
    (((y1.2.1.1)[(Int.toNat y1.1.1)]?).bind fun(y2:ah) =>
    cond ((((List.length y2.2.1):Nat):Int) != (2:Int))
     (some (((14:Int),()),((y1.2.1.1,(y1.2.1.2.1,y1.2.1.2.2)),())))
     (((dw y2.2.1 (0:Int))).bind fun(y3:ab) =>
     ((dw y2.2.1 (1:Int))).bind fun(y4:ab) =>
     cond ((y3.1.1==y4.1.1)&&(y3.1.2==y4.1.2))
      (some (((14:Int),()),((y1.2.1.1,(y1.2.1.2.1,y1.2.1.2.2)),())))
      (((dw y2.2.1 (0:Int))).bind fun(y5:ab) =>
      ((dw y2.2.1 (1:Int))).bind fun(y6:ab) =>
      cond ((y5.1.1==x.1.1.2.2.2.1.1)&&(y5.1.2==x.1.1.2.2.2.1.2))
       (cond (not ((y5.1.1==x.1.1.2.2.2.1.1)&&(y5.1.2==x.1.1.2.2.2.1.2)))
        (some (((14:Int),()),((y1.2.1.1,(y1.2.1.2.1,y1.2.1.2.2)),())))
        ((F 188 mK (((y5.1,y5.2),()),())).bind fun(y7:((ab×Unit)×Unit)) =>
        cond (iM y1.2.1.1 y1.1.1 (IntKind.wrap .i64 (y1.1.1+(1:Int))))
         ((F 185 kV (((y7.1.1.1,y7.1.1.2),()),(((cX y1.2.1.1 y1.1.1 (IntKind.wrap .i64 (y1.1.1+(1:Int)))),(y1.2.1.2.1,y1.2.1.2.2)),()))).bind fun(y8:(((Option ((Fin 1)×Nat))×Unit)×(aB×Unit))) =>
         oT y8.1.1
          (none) fun(p9:((Fin 1)×Nat)) =>
         cond (p9.1.val==0)
          (((y8.2.1.1)[p9.2]?).bind fun(oM:ah) =>
          (F 187 rp ((oM.2.1,((y7.1.1.1,y7.1.1.2),((y6.1,y6.2),()))),())).bind fun(mo:(((List ab)×Unit)×Unit)) =>
          ((y8.2.1.1)[p9.2]?).bind fun(nR:ah) =>
          (F 182 lM ((y5.1,()),(((List.set y8.2.1.1 p9.2 (nR.1,(mo.1.1,nR.2.2))),(y8.2.1.2.1,y8.2.1.2.2)),()))).bind fun(lA:((Int×(Bool×Unit))×(aB×Unit))) =>
          cond (iM lA.2.1.2.1 lA.1.1 (IntKind.wrap .i64 (lA.1.1+(1:Int))))
           (J mh (bY Tryz.prog 157 0) (((0:Int),()),(((lA.2.1.1,((cX lA.2.1.2.1 lA.1.1 (IntKind.wrap .i64 (lA.1.1+(1:Int)))),lA.2.1.2.2)),(((y6.1,y6.2),()),(((y5.1,y5.2),()),(((y7.1.1.1,y7.1.1.2),()),())))),())))
           (none))
          (none))
         (none)))
       (cond (not ((y6.1.1==x.1.1.2.2.2.1.1)&&(y6.1.2==x.1.1.2.2.2.1.2)))
        (some (((14:Int),()),((y1.2.1.1,(y1.2.1.2.1,y1.2.1.2.2)),())))
        ((F 188 mK (((y6.1,y6.2),()),())).bind fun(Ah:((ab×Unit)×Unit)) =>
        cond (iM y1.2.1.1 y1.1.1 (IntKind.wrap .i64 (y1.1.1+(1:Int))))
         ((F 185 kV (((Ah.1.1.1,Ah.1.1.2),()),(((cX y1.2.1.1 y1.1.1 (IntKind.wrap .i64 (y1.1.1+(1:Int)))),(y1.2.1.2.1,y1.2.1.2.2)),()))).bind fun(uR:(((Option ((Fin 1)×Nat))×Unit)×(aB×Unit))) =>
         oT uR.1.1
          (none) fun(XY:((Fin 1)×Nat)) =>
         cond (XY.1.val==0)
          (((uR.2.1.1)[XY.2]?).bind fun(RY:ah) =>
          (F 187 rp ((RY.2.1,((Ah.1.1.1,Ah.1.1.2),((y5.1,y5.2),()))),())).bind fun(TB:(((List ab)×Unit)×Unit)) =>
          ((uR.2.1.1)[XY.2]?).bind fun(QL:ah) =>
          (F 182 lM ((y6.1,()),(((List.set uR.2.1.1 XY.2 (QL.1,(TB.1.1,QL.2.2))),(uR.2.1.2.1,uR.2.1.2.2)),()))).bind fun(EB:((Int×(Bool×Unit))×(aB×Unit))) =>
          cond (iM EB.2.1.2.1 EB.1.1 (IntKind.wrap .i64 (EB.1.1+(1:Int))))
           (J mh (bY Tryz.prog 157 0) (((0:Int),()),(((EB.2.1.1,((cX EB.2.1.2.1 EB.1.1 (IntKind.wrap .i64 (EB.1.1+(1:Int)))),EB.2.1.2.2)),(((y5.1,y5.2),()),(((y6.1,y6.2),()),(((Ah.1.1.1,Ah.1.1.2),()),())))),())))
           (none))
          (none))
         (none))))))
    (none)):=by kernel_rfl
theorem uT(F:FT)(J:JT pI)(x:(aau×((aB×(aal×(aal×aaq)))×Unit))):qw 157 0 pI Tryz.f157 mh F J x =
  cond (decide (x.1.1<(2:Int)))
   (cond (x.2.1.2.2.1.1.2==x.1.1)
    ((F 183 yH (((x.2.1.2.2.1.1.1,x.2.1.2.2.1.1.2),((((0:Int),(0:Int)),(0:Int)),())),((x.2.1.1.1,(x.2.1.1.2.1,x.2.1.1.2.2)),()))).bind fun(UB:(Unit×(aB×Unit))) =>
    J mh (bY Tryz.prog 157 0) (((IntKind.wrap .i64 (x.1.1+(1:Int))),()),(((UB.2.1.1,(UB.2.1.2.1,UB.2.1.2.2)),(((x.2.1.2.1.1.1,x.2.1.2.1.1.2),()),(((x.2.1.2.2.1.1.1,x.2.1.2.2.1.1.2),()),(((x.2.1.2.2.2.1.1.1,x.2.1.2.2.2.1.1.2),()),())))),())))
    ((F 183 yH (((x.2.1.2.2.2.1.1.1,x.2.1.2.2.2.1.1.2),((x.2.1.2.1.1.1,x.2.1.2.1.1.2),())),((x.2.1.1.1,(x.2.1.1.2.1,x.2.1.1.2.2)),()))).bind fun(UC:(Unit×(aB×Unit))) =>
    J mh (bY Tryz.prog 157 0) (((IntKind.wrap .i64 (x.1.1+(1:Int))),()),(((UC.2.1.1,(UC.2.1.2.1,UC.2.1.2.2)),(((x.2.1.2.1.1.1,x.2.1.2.1.1.2),()),(((x.2.1.2.2.1.1.1,x.2.1.2.2.1.1.2),()),(((x.2.1.2.2.2.1.1.1,x.2.1.2.2.2.1.1.2),()),())))),()))))
   (some (((0:Int),()),((x.2.1.1.1,(x.2.1.1.2.1,x.2.1.1.2.2)),()))):=by kernel_rfl
theorem Zq(F:FT)(J:JT Mf)(x:aam):dt 158 Mf Tryz.f158 F J x =
  (F 189 Ek (((x.1.1.1,(x.1.1.2.1,(x.1.1.2.2.1,(x.1.1.2.2.2.1,((x.1.1.2.2.2.2.1.1,(x.1.1.2.2.2.2.1.2.1,x.1.1.2.2.2.2.1.2.2)),((x.1.1.2.2.2.2.2.1.1,(x.1.1.2.2.2.2.2.1.2.1,x.1.1.2.2.2.2.2.1.2.2)),(x.1.1.2.2.2.2.2.2.1,x.1.1.2.2.2.2.2.2.2))))))),()),((x.2.1.1,(x.2.1.2.1,x.2.1.2.2)),()))).bind fun(y1:(((Option ((Fin 2)×Nat))×((Option ((Fin 2)×Nat))×Unit))×(aB×Unit))) =>
  oT y1.1.1
   (oT y1.1.2.1
    (some (((13:Int),()),((y1.2.1.1,(y1.2.1.2.1,y1.2.1.2.2)),()))) fun(p2:((Fin 2)×Nat)) =>
   cond (p2.1.val==0)
    (some (((13:Int),()),((y1.2.1.1,(y1.2.1.2.1,y1.2.1.2.2)),())))
    (cond (p2.1.val==1)
    (some (((13:Int),()),((y1.2.1.1,(y1.2.1.2.1,y1.2.1.2.2)),())))
    (none))) fun(p3:((Fin 2)×Nat)) =>
  cond (p3.1.val==0)
   (oT y1.1.2.1
    (cond (x.1.1.1==(7:Int))
     (((y1.2.1.1)[p3.2]?).bind fun(oM:ah) =>
     some (((0:Int),()),(((List.set y1.2.1.1 p3.2 (oM.1,(oM.2.1,(x.1.1.2.2.2.2.2.2.2.1,oM.2.2.2)))),(y1.2.1.2.1,y1.2.1.2.2)),())))
     (none)) fun(TC:((Fin 2)×Nat)) =>
   cond (TC.1.val==0)
    (cond (x.1.1.1==(7:Int))
     (((y1.2.1.1)[p3.2]?).bind fun(Ah:ah) =>
     some (((0:Int),()),(((List.set y1.2.1.1 p3.2 (Ah.1,(Ah.2.1,(x.1.1.2.2.2.2.2.2.2.1,Ah.2.2.2)))),(y1.2.1.2.1,y1.2.1.2.2)),())))
     (((y1.2.1.1)[TC.2]?).bind fun(uR:ah) =>
     some (((0:Int),()),(((List.set y1.2.1.1 TC.2 (uR.1,(uR.2.1,(uR.2.2.1,x.1.1.2.2.2.2.2.2.2.2)))),(y1.2.1.2.1,y1.2.1.2.2)),()))))
    (cond (TC.1.val==1)
    (cond (x.1.1.1==(7:Int))
     (((y1.2.1.1)[p3.2]?).bind fun(nR:ah) =>
     some (((0:Int),()),(((List.set y1.2.1.1 p3.2 (nR.1,(nR.2.1,(x.1.1.2.2.2.2.2.2.2.1,nR.2.2.2)))),(y1.2.1.2.1,y1.2.1.2.2)),())))
     (((y1.2.1.2.1)[TC.2]?).bind fun(lA:aq) =>
     some (((0:Int),()),((y1.2.1.1,((List.set y1.2.1.2.1 TC.2 (lA.1,(lA.2.1,x.1.1.2.2.2.2.2.2.2.2))),y1.2.1.2.2)),()))))
    (none)))
   (cond (p3.1.val==1)
   (oT y1.1.2.1
    (cond (x.1.1.1==(7:Int))
     (((y1.2.1.2.1)[p3.2]?).bind fun(y4:aq) =>
     some (((0:Int),()),((y1.2.1.1,((List.set y1.2.1.2.1 p3.2 (y4.1,(x.1.1.2.2.2.2.2.2.2.1,y4.2.2))),y1.2.1.2.2)),())))
     (none)) fun(p5:((Fin 2)×Nat)) =>
   cond (p5.1.val==0)
    (cond (x.1.1.1==(7:Int))
     (((y1.2.1.2.1)[p3.2]?).bind fun(y8:aq) =>
     some (((0:Int),()),((y1.2.1.1,((List.set y1.2.1.2.1 p3.2 (y8.1,(x.1.1.2.2.2.2.2.2.2.1,y8.2.2))),y1.2.1.2.2)),())))
     (((y1.2.1.1)[p5.2]?).bind fun(y9:ah) =>
     some (((0:Int),()),(((List.set y1.2.1.1 p5.2 (y9.1,(y9.2.1,(y9.2.2.1,x.1.1.2.2.2.2.2.2.2.2)))),(y1.2.1.2.1,y1.2.1.2.2)),()))))
    (cond (p5.1.val==1)
    (cond (x.1.1.1==(7:Int))
     (((y1.2.1.2.1)[p3.2]?).bind fun(y6:aq) =>
     some (((0:Int),()),((y1.2.1.1,((List.set y1.2.1.2.1 p3.2 (y6.1,(x.1.1.2.2.2.2.2.2.2.1,y6.2.2))),y1.2.1.2.2)),())))
     (((y1.2.1.2.1)[p5.2]?).bind fun(y7:aq) =>
     some (((0:Int),()),((y1.2.1.1,((List.set y1.2.1.2.1 p5.2 (y7.1,(y7.2.1,x.1.1.2.2.2.2.2.2.2.2))),y1.2.1.2.2)),()))))
    (none)))
   (none)):=by kernel_rfl
theorem UF(F:FT)(J:JT Eh)(x:aaq):dt 190 Eh Tryz.f190 F J x =
  (F 159 pH ((x.1.1.1,()),())).bind fun(y1:((Bool×Unit)×Unit)) =>
  cond y1.1.1
   (some ((((cP .andNot .i64 x.1.1.2 (1:Int))==(0:Int)),()),()))
   (some ((false,()),())):=by kernel_rfl
theorem UG(F:FT)(J:JT oy)(x:(aan×aaB)):dt 175 oy Tryz.f175 F J x =
 (F 208206 iy ((x.2.1.1,(x.1.1,())),())).bind fun(y1:((Int×(Bool×Unit))×Unit)) =>
 some ((y1.1.1,y1.1.2),((x.2.1.1,(x.2.1.2.1,x.2.1.2.2)),())):=by kernel_rfl
theorem UH(F:FT)(J:JT vX)(x:(aan×aaB)):dt 178 vX Tryz.f178 F J x =
  (F 182 lM ((x.1.1,()),((x.2.1.1,(x.2.1.2.1,x.2.1.2.2)),()))).bind fun(y1:((Int×(Bool×Unit))×(aB×Unit))) =>
  cond y1.1.2.1
   (some (((12:Int),()),((y1.2.1.1,(y1.2.1.2.1,y1.2.1.2.2)),())))
   (cond (decide ((((List.length y1.2.1.2.1):Nat):Int)≥(40:Int)))
    (some (((3:Int),()),((y1.2.1.1,(y1.2.1.2.1,y1.2.1.2.2)),())))
    (cond (oU y1.2.1.2.1 y1.1.1 ((x.1.1,((⟨#[]⟩:ByteArray),(0:Int)))::([]:List aq)))
     (some (((0:Int),()),((y1.2.1.1,((fh y1.2.1.2.1 y1.1.1 ((x.1.1,((⟨#[]⟩:ByteArray),(0:Int)))::([]:List aq))),y1.2.1.2.2)),())))
     (none))):=by kernel_rfl
theorem QM(F:FT)(J:JT yE)(x:(aan×Unit)):dt 179 yE Tryz.f179 F J x =
 some (((x.1.1,(0:Int)),((x.1.1,(1:Int)),())),()):=by kernel_rfl
theorem UI(F:FT)(J:JT Ei)(x:((StateT×(tn×Unit))×Unit)):dt 180 Ei Tryz.f180 F J x =
  (F 74 El ((x.1.1.1,(x.1.2.1.1,())),())).bind fun(y1:((ah×(Bool×Unit))×Unit)) =>
  cond (not y1.1.2.1)
   (some (((((0:Int),(0:Int)),(((0:Int),(0:Int)),(0:Int))),((13:Int),())),()))
   ((F 212 vY (((x.1.1.1,x.1.1.2),((x.1.2.1.2.1,x.1.2.1.2.2),())),())).bind fun(y2:((ab×Unit)×Unit)) =>
   (F 166 tp ((y1.1.1.2.1,((y2.1.1.1,y2.1.1.2),())),())).bind fun(y3:((Bool×Unit)×Unit)) =>
   cond (not y3.1.1)
    (some (((x.1.2.1.1,(((0:Int),(0:Int)),(0:Int))),((0:Int),())),()))
    (some (((x.1.2.1.1,(y2.1.1.1,y2.1.1.2)),((0:Int),())),()))):=by kernel_rfl
theorem UJ(F:FT)(J:JT yF)(x:(((List ab)×(ab×aal))×Unit)):dt 181 yF Tryz.f181 F J x =
  (F 166 tp ((x.1.1,((x.1.2.2.1.1,x.1.2.2.1.2),())),())).bind fun(y1:((Bool×Unit)×Unit)) =>
  cond y1.1.1
   ((F 169 pJ ((x.1.1,()),())).bind fun(y2:(((List ab)×Unit)×Unit)) =>
   some (y2.1,()))
   ((F 168 kW ((x.1.1,((x.1.2.1.1,x.1.2.1.2),())),())).bind fun(y3:((Int×Unit)×Unit)) =>
   cond (aN (List.length x.1.1) (0:Int) (min (IntKind.wrap .i64 ((max y3.1.1 (0:Int):Int)+(1:Int))) (((List.length x.1.1):Nat):Int):Int))
    (cond (aN (List.length x.1.1) (min (IntKind.wrap .i64 ((max y3.1.1 (0:Int):Int)+(1:Int))) (((List.length x.1.1):Nat):Int):Int) (((List.length x.1.1):Nat):Int))
     ((F 170 mL ((((cut x.1.1 (0:Int) (min (IntKind.wrap .i64 ((max y3.1.1 (0:Int):Int)+(1:Int))) (((List.length x.1.1):Nat):Int):Int))::(((x.1.2.2.1.1,x.1.2.2.1.2)::([]:List ab))::((cut x.1.1 (min (IntKind.wrap .i64 ((max y3.1.1 (0:Int):Int)+(1:Int))) (((List.length x.1.1):Nat):Int):Int) (((List.length x.1.1):Nat):Int))::([]:List (List ab))))),()),())).bind fun(y4:(((List ab)×Unit)×Unit)) =>
     some (y4.1,()))
     (none))
    (none)):=by kernel_rfl
theorem UK(F:FT)(J:JT yG)(x:aay):dt 172 yG Tryz.f172 F J x =
 (F 204 Em ((x.1.1,()),())).bind fun(y1:((Int×Unit)×Unit)) =>
 some (((y1.1.1==(0:Int)),()),()):=by kernel_rfl
theorem UL(F:FT)(J:JT lM)(x:(aan×aaB)):dt 182 lM Tryz.f182 F J x =
 (F 215213 iz ((x.2.1.2.1,(x.1.1,())),())).bind fun(y1:((Int×(Bool×Unit))×Unit)) =>
 some ((y1.1.1,y1.1.2),((x.2.1.1,(x.2.1.2.1,x.2.1.2.2)),())):=by kernel_rfl
theorem UM(F:FT)(J:JT yH)(x:((ab×aal)×aaB)):dt 183 yH Tryz.f183 F J x =
 (F 215 En ((x.2.1.2.2.1,(((x.1.1.1,x.1.1.2),(x.1.2.1.1,x.1.2.1.2)),())),())).bind fun(y1:(((List aF)×Unit)×Unit)) =>
 some ((),((x.2.1.1,(x.2.1.2.1,y1.1)),())):=by kernel_rfl
theorem UN(F:FT)(J:JT yI)(x:(aal×aaB)):dt 184 yI Tryz.f184 F J x =
 J wX (bY Tryz.prog 184 0) (((0:Int),()),(((x.2.1.1,(x.2.1.2.1,x.2.1.2.2)),(((x.1.1.1,x.1.1.2),()),(((((0:Int),(0:Int)),(0:Int)),()),(((x.1.1.1,x.1.1.2),()),())))),())):=by kernel_rfl
theorem CL(F:FT)(J:JT yI)(x:(aau×((aB×(aal×(aal×aaq)))×Unit))):qw 184 0 yI Tryz.f184 wX F J x =
  cond (decide (x.1.1<(2:Int)))
   ((F 185 kV (((x.2.1.2.1.1.1,x.2.1.2.1.1.2),()),((x.2.1.1.1,(x.2.1.1.2.1,x.2.1.1.2.2)),()))).bind fun(y1:(((Option ((Fin 1)×Nat))×Unit)×(aB×Unit))) =>
   oT y1.1.1
    (none) fun(p2:((Fin 1)×Nat)) =>
   cond (p2.1.val==0)
    (((y1.2.1.1)[p2.2]?).bind fun(y3:ah) =>
    (F 140 Bp ((y3.2.1,((x.2.1.2.2.2.1.1.1,x.2.1.2.2.2.1.1.2),())),())).bind fun(y4:((ab×(Bool×Unit))×Unit)) =>
    cond (not ((y4.1.1.1.1==x.2.1.2.1.1.1.1)&&(y4.1.1.1.2==x.2.1.2.1.1.1.2)))
     (some (((y4.1.1.1,y4.1.1.2),()),((y1.2.1.1,(y1.2.1.2.1,y1.2.1.2.2)),())))
     (J wX (bY Tryz.prog 184 0) (((IntKind.wrap .i64 (x.1.1+(1:Int))),()),(((y1.2.1.1,(y1.2.1.2.1,y1.2.1.2.2)),(((x.2.1.2.1.1.1,x.2.1.2.1.1.2),()),(((x.2.1.2.2.1.1.1,x.2.1.2.2.1.1.2),()),(((y4.1.1.1,y4.1.1.2),()),())))),()))))
    (none))
   (some (((((0:Int),(0:Int)),(0:Int)),()),((x.2.1.1.1,(x.2.1.1.2.1,x.2.1.1.2.2)),()))):=by kernel_rfl
theorem UO(F:FT)(J:JT kV)(x:(aal×aaB)):dt 185 kV Tryz.f185 F J x =
 J tx (bY Tryz.prog 185 0) (((((List.length x.2.1.1):Nat):Int),((0:Int),())),(((x.2.1.1,(x.2.1.2.1,x.2.1.2.2)),(((x.1.1.1,x.1.1.2),()),())),())):=by kernel_rfl
theorem Ig(F:FT)(J:JT kV)(x:(aab×((aB×aaq)×Unit))):qw 185 0 kV Tryz.f185 tx F J x =
  cond (decide (x.1.2.1<x.1.1))
   (cond ((decide ((0:Int)≤x.1.2.1))&&(decide (x.1.2.1<(((List.length x.2.1.1.1):Nat):Int))))
    (((x.2.1.1.1)[(Int.toNat x.1.2.1)]?).bind fun(y1:ah) =>
    (F 166 tp ((y1.2.1,((x.2.1.2.1.1.1,x.2.1.2.1.1.2),())),())).bind fun(y2:((Bool×Unit)×Unit)) =>
    cond y2.1.1
     (some (((some ((⟨0,by decide⟩:(Fin 1)),(Int.toNat x.1.2.1))),()),((x.2.1.1.1,(x.2.1.1.2.1,x.2.1.1.2.2)),())))
     (J tx (bY Tryz.prog 185 0) ((x.1.1,((IntKind.wrap .i64 (x.1.2.1+(1:Int))),())),(((x.2.1.1.1,(x.2.1.1.2.1,x.2.1.1.2.2)),(((x.2.1.2.1.1.1,x.2.1.2.1.1.2),()),())),()))))
    (none))
   (some ((none,()),((x.2.1.1.1,(x.2.1.1.2.1,x.2.1.1.2.2)),()))):=by kernel_rfl
theorem UP(F:FT)(J:JT Ej)(x:aax):dt 141 Ej Tryz.f141 F J x =
  (F 168 kW ((x.1.1,((x.1.2.1.1,x.1.2.1.2),())),())).bind fun(y1:((Int×Unit)×Unit)) =>
  cond (decide (y1.1.1<(0:Int)))
   ((F 169 pJ ((x.1.1,()),())).bind fun(y2:(((List ab)×Unit)×Unit)) =>
   some (y2.1,()))
   (cond (aN (List.length x.1.1) (0:Int) y1.1.1)
    (cond (aN (List.length x.1.1) (IntKind.wrap .i64 (y1.1.1+(1:Int))) (((List.length x.1.1):Nat):Int))
     ((F 170 mL ((((cut x.1.1 (0:Int) y1.1.1)::((cut x.1.1 (IntKind.wrap .i64 (y1.1.1+(1:Int))) (((List.length x.1.1):Nat):Int))::([]:List (List ab)))),()),())).bind fun(y3:(((List ab)×Unit)×Unit)) =>
     some (y3.1,()))
     (none))
    (none)):=by kernel_rfl
theorem UQ(F:FT)(J:JT rp)(x:(((List ab)×(ab×aal))×Unit)):dt 187 rp Tryz.f187 F J x =
  (F 168 kW ((x.1.1,((x.1.2.1.1,x.1.2.1.2),())),())).bind fun(y1:((Int×Unit)×Unit)) =>
  cond (decide (y1.1.1<(0:Int)))
   ((F 169 pJ ((x.1.1,()),())).bind fun(y2:(((List ab)×Unit)×Unit)) =>
   some (y2.1,()))
   ((F 166 tp ((x.1.1,((x.1.2.2.1.1,x.1.2.2.1.2),())),())).bind fun(y3:((Bool×Unit)×Unit)) =>
   cond y3.1.1
    ((F 169 pJ ((x.1.1,()),())).bind fun(y4:(((List ab)×Unit)×Unit)) =>
    some (y4.1,()))
    (cond (aN (List.length x.1.1) (0:Int) y1.1.1)
     (cond (aN (List.length x.1.1) (IntKind.wrap .i64 (y1.1.1+(1:Int))) (((List.length x.1.1):Nat):Int))
      ((F 170 mL ((((cut x.1.1 (0:Int) y1.1.1)::(((x.1.2.2.1.1,x.1.2.2.1.2)::([]:List ab))::((cut x.1.1 (IntKind.wrap .i64 (y1.1.1+(1:Int))) (((List.length x.1.1):Nat):Int))::([]:List (List ab))))),()),())).bind fun(y5:(((List ab)×Unit)×Unit)) =>
      some (y5.1,()))
      (none))
     (none))):=by kernel_rfl
theorem UR(F:FT)(J:JT mK)(x:aaq):dt 188 mK Tryz.f188 F J x =
 some (((x.1.1.1,(cP .xor .i64 x.1.1.2 (1:Int))),()),()):=by kernel_rfl
theorem US(F:FT)(J:JT pJ)(x:(aav×Unit)):dt 169 pJ Tryz.f169 F J x =
  cond ((((List.length x.1.1):Nat):Int)==(0:Int))
   (some ((([]:List ab),()),()))
   ((F 196194 jI (x.1,())).bind fun(y1:((ab×Unit)×Unit)) =>
   (F 168 kW ((x.1.1,((y1.1.1.1,y1.1.1.2),())),())).bind fun(y2:((Int×Unit)×Unit)) =>
   cond (aN (List.length x.1.1) y2.1.1 (((List.length x.1.1):Nat):Int))
    (cond (aN (List.length x.1.1) (0:Int) y2.1.1)
     ((F 196 mM ((((cut x.1.1 y2.1.1 (((List.length x.1.1):Nat):Int))::((cut x.1.1 (0:Int) y2.1.1)::([]:List (List ab)))),()),())).bind fun(y3:(((List ab)×Unit)×Unit)) =>
     some (y3.1,()))
     (none))
    (none)):=by kernel_rfl
theorem UT(F:FT)(J:JT Ek)(x:aam):dt 189 Ek Tryz.f189 F J x =
  cond x.1.1.2.2.2.2.2.2.1
   ((F 182 lM ((x.1.1.2.1,()),((x.2.1.1,(x.2.1.2.1,x.2.1.2.2)),()))).bind fun(y1:((Int×(Bool×Unit))×(aB×Unit))) =>
   cond y1.1.2.1
    (cond ((decide ((0:Int)≤y1.1.1))&&(decide (y1.1.1<(((List.length y1.2.1.2.1):Nat):Int))))
     (cond ((decide ((0:Int)≤y1.1.1))&&(decide (y1.1.1<(((List.length y1.2.1.2.1):Nat):Int))))
      (some (((some ((⟨1,by decide⟩:(Fin 2)),(Int.toNat y1.1.1))),((some ((⟨1,by decide⟩:(Fin 2)),(Int.toNat y1.1.1))),())),((y1.2.1.1,(y1.2.1.2.1,y1.2.1.2.2)),())))
      (none))
     (none))
    (some ((none,(none,())),((y1.2.1.1,(y1.2.1.2.1,y1.2.1.2.2)),()))))
   ((F 175 oy ((x.1.1.2.1,()),((x.2.1.1,(x.2.1.2.1,x.2.1.2.2)),()))).bind fun(y2:((Int×(Bool×Unit))×(aB×Unit))) =>
   cond y2.1.2.1
    (cond ((decide ((0:Int)≤y2.1.1))&&(decide (y2.1.1<(((List.length y2.2.1.1):Nat):Int))))
     (cond ((decide ((0:Int)≤y2.1.1))&&(decide (y2.1.1<(((List.length y2.2.1.1):Nat):Int))))
      (some (((some ((⟨0,by decide⟩:(Fin 2)),(Int.toNat y2.1.1))),((some ((⟨0,by decide⟩:(Fin 2)),(Int.toNat y2.1.1))),())),((y2.2.1.1,(y2.2.1.2.1,y2.2.1.2.2)),())))
      (none))
     (none))
    (some ((none,(none,())),((y2.2.1.1,(y2.2.1.2.1,y2.2.1.2.2)),())))):=by kernel_rfl
theorem UU(F:FT)(J:JT Bn)(x:((ah×aan)×Unit)):dt 207 Bn Tryz.f207 F J x =
 (F 208 yJ ((x.1.1.1,(x.1.2.1,())),())).bind fun(y1:((Int×Unit)×Unit)) =>
 some (y1.1,()):=by kernel_rfl
theorem UW(F:FT)(J:JT yJ)(x:((ID×aan)×Unit)):dt 208 yJ Tryz.f208 F J x =
  cond ((x.1.1.1==x.1.2.1.1)&&(x.1.1.2==x.1.2.1.2))
   (some (((0:Int),()),()))
   ((F 219 yK ((x.1.1.1,(x.1.2.1.1,())),())).bind fun(y1:((Int×Unit)×Unit)) =>
   (F 219 yK ((x.1.1.2,(x.1.2.1.2,())),())).bind fun(y2:((Int×Unit)×Unit)) =>
   (F 218 tq (((y1.1.1::(y2.1.1::([]:List Int))),()),())).bind fun(y3:((Int×Unit)×Unit)) =>
   some (y3.1,())):=by kernel_rfl
theorem UX(F:FT)(J:JT El)(x:((ak×aan)×Unit)):dt 74 El Tryz.f74 F J x =
 (F 110108 jJ ((x.1.1.1,(x.1.2.1,())),())).bind fun(y1:((ah×(Bool×Unit))×Unit)) =>
 (F 110 wx ((y1.1.1.2.1,()),())).bind fun(y2:(((List ab)×Unit)×Unit)) =>
 some (((y1.1.1.1,(y2.1.1,y1.1.1.2.2)),y1.1.2),()):=by kernel_rfl
theorem UY(F:FT)(J:JT vY)(x:((StateT×aal)×Unit)):dt 212 vY Tryz.f212 F J x =
 J tz (bY Tryz.prog 212 0) (((IntKind.wrap .i64 ((((List.length x.1.1.2):Nat):Int)+(1:Int))),((0:Int),())),((((x.1.1.1,x.1.1.2),()),(((x.1.2.1.1,x.1.2.1.2),()),(((((0:Int),(0:Int)),(0:Int)),()),()))),())):=by kernel_rfl
theorem Ih(F:FT)(J:JT vY)(x:(aab×(((StateT×Unit)×(aal×aaq))×Unit))):qw 212 0 vY Tryz.f212 tz F J x =
  cond (decide (x.1.2.1<x.1.1))
   ((F 139 tu ((x.2.1.1.1.1,((x.2.1.2.1.1.1,x.2.1.2.1.1.2),())),())).bind fun(y1:((ID×(Bool×Unit))×Unit)) =>
   cond y1.1.2.1
    (some (((x.2.1.2.1.1.1,x.2.1.2.1.1.2),()),()))
    ((F 230 Ep ((x.2.1.1.1.2,((x.2.1.2.1.1.1,x.2.1.2.1.1.2),())),())).bind fun(y2:((ab×(Bool×Unit))×Unit)) =>
    cond (not y2.1.2.1)
     (some (((((0:Int),(0:Int)),(0:Int)),()),()))
     (J tz (bY Tryz.prog 212 0) ((x.1.1,((IntKind.wrap .i64 (x.1.2.1+(1:Int))),())),((((x.2.1.1.1.1,x.2.1.1.1.2),()),(((y2.1.1.1,y2.1.1.2),()),(((x.2.1.2.2.1.1.1,x.2.1.2.2.1.1.2),()),()))),())))))
   (some (((((0:Int),(0:Int)),(0:Int)),()),())):=by kernel_rfl
theorem UZ(F:FT)(J:JT tp)(x:aax):dt 166 tp Tryz.f166 F J x =
 (F 168 kW ((x.1.1,((x.1.2.1.1,x.1.2.1.2),())),())).bind fun(y1:((Int×Unit)×Unit)) =>
 some (((decide (y1.1.1≥(0:Int))),()),()):=by kernel_rfl
theorem U3(F:FT)(J:JT kW)(x:aax):dt 168 kW Tryz.f168 F J x =
 J tB (bY Tryz.prog 168 0) ((x.1.1,((((List.length x.1.1):Nat):Int),((0:Int),()))),((((x.1.2.1.1,x.1.2.1.2),()),()),())):=by kernel_rfl
theorem Ii(F:FT)(J:JT kW)(x:(((List ab)×aab)×(aaq×Unit))):qw 168 0 kW Tryz.f168 tB F J x =
  cond (decide (x.1.2.2.1<x.1.2.1))
   (((dw x.1.1 x.1.2.2.1)).bind fun(y1:ab) =>
   cond (((x.2.1.1.1.1.1==y1.1.1)&&(x.2.1.1.1.1.2==y1.1.2))&&(x.2.1.1.1.2==y1.2))
    (some (x.1.2.2,()))
    (J tB (bY Tryz.prog 168 0) ((x.1.1,(x.1.2.1,((IntKind.wrap .i64 (x.1.2.2.1+(1:Int))),()))),((((x.2.1.1.1.1,x.2.1.1.1.2),()),()),()))))
   (some (((-1:Int),()),())):=by kernel_rfl
theorem U4(F:FT)(J:JT mL)(x:(((List (List ab))×Unit)×Unit)):dt 170 mL Tryz.f170 F J x =
 (F 196 mM (x.1,())).bind fun(y1:(((List ab)×Unit)×Unit)) =>
 (F 169 pJ (y1.1,())).bind fun(y2:(((List ab)×Unit)×Unit)) =>
 some (y2.1,()):=by kernel_rfl
theorem U5(F:FT)(J:JT Em)(x:aay):dt 204 Em Tryz.f204 F J x =
  (F 226 Er ((x.1.1,()),())).bind fun(y1:((Int×(Int×(Int×(Int×Unit))))×Unit)) =>
  cond ((2:Int)==(0:Int))
   (none)
   (some (((IntKind.wrap .i64 (y1.1.2.2.2.1-(IntKind.wrap .i64 (Int.tdiv (IntKind.wrap .i64 ((IntKind.wrap .i64 (y1.1.1-y1.1.2.1))+y1.1.2.2.1)) (2:Int))))),()),())):=by kernel_rfl
theorem U6(F:FT)(J:JT Bo)(x:((aq×aan)×Unit)):dt 214 Bo Tryz.f214 F J x =
 (F 208 yJ ((x.1.1.1,(x.1.2.1,())),())).bind fun(y1:((Int×Unit)×Unit)) =>
 some (y1.1,()):=by kernel_rfl
theorem U7(F:FT)(J:JT En)(x:(((List aF)×(aF×Unit))×Unit)):dt 215 En Tryz.f215 F J x =
  (F 233231 iA ((x.1.1,((x.1.2.1.1.1,x.1.2.1.1.2),())),())).bind fun(y1:((Int×(Bool×Unit))×Unit)) =>
  (F 97 Ee ((x.1.1,()),())).bind fun(y2:(((List aF)×Unit)×Unit)) =>
  cond y1.1.2.1
   (cond ((decide ((0:Int)≤y1.1.1))&&(decide (y1.1.1<(((List.length y2.1.1):Nat):Int))))
    (((y2.1.1)[(Int.toNat y1.1.1)]?).bind fun(y3:aF) =>
    some (((List.set y2.1.1 (Int.toNat y1.1.1) ((x.1.2.1.1.1,x.1.2.1.1.2),(x.1.2.1.2.1,x.1.2.1.2.2))),()),()))
    (none))
   (cond (decide ((((List.length x.1.1):Nat):Int)<(400:Int)))
    (cond (oU y2.1.1 y1.1.1 (((x.1.2.1.1.1,x.1.2.1.1.2),(x.1.2.1.2.1,x.1.2.1.2.2))::([]:List aF)))
     (some (((fh y2.1.1 y1.1.1 (((x.1.2.1.1.1,x.1.2.1.1.2),(x.1.2.1.2.1,x.1.2.1.2.2))::([]:List aF))),()),()))
     (none))
    (some (y2.1,()))):=by kernel_rfl
theorem U8(F:FT)(J:JT Bp)(x:aax):dt 140 Bp Tryz.f140 F J x =
 (F 167 yL ((x.1.1,((x.1.2.1.1,x.1.2.1.2),((IntKind.wrap .i64 ((((List.length x.1.1):Nat):Int)-(1:Int))),()))),())).bind fun(y1:((ab×(Bool×Unit))×Unit)) =>
 some (((y1.1.1.1,y1.1.1.2),y1.1.2),()):=by kernel_rfl
theorem U9(F:FT)(J:JT Bq)(x:((ab×aal)×Unit)):dt 195 Bq Tryz.f195 F J x =
 (F 208 yJ ((x.1.1.1,(x.1.2.1.1,())),())).bind fun(y1:((Int×Unit)×Unit)) =>
 (F 219 yK ((x.1.1.2,(x.1.2.1.2,())),())).bind fun(y2:((Int×Unit)×Unit)) =>
 (F 218 tq (((y1.1.1::(y2.1.1::([]:List Int))),()),())).bind fun(y3:((Int×Unit)×Unit)) =>
 some (y3.1,()):=by kernel_rfl
theorem Va(F:FT)(J:JT mM)(x:(((List (List ab))×Unit)×Unit)):dt 196 mM Tryz.f196 F J x =
 J tC (bY Tryz.prog 196 0) ((x.1.1,((0:Int),(x.1.1,((((List.length x.1.1):Nat):Int),((0:Int),()))))),((),())):=by kernel_rfl
theorem Ij(F:FT)(J:JT mM)(x:(((List (List ab))×(Int×((List (List ab))×aab)))×(Unit×Unit))):qw 196 0 mM Tryz.f196 tC F J x =
  cond (decide (x.1.2.2.2.2.1<x.1.2.2.2.1))
   (((dw x.1.2.2.1 x.1.2.2.2.2.1)).bind fun(y1:(List ab)) =>
   cond (decide ((IntKind.wrap .i64 (x.1.2.1+(((List.length y1):Nat):Int)))<(0:Int)))
    (none)
    (J tC (bY Tryz.prog 196 0) ((x.1.1,((IntKind.wrap .i64 (x.1.2.1+(((List.length y1):Nat):Int))),(x.1.2.2.1,(x.1.2.2.2.1,((IntKind.wrap .i64 (x.1.2.2.2.2.1+(1:Int))),()))))),((),()))))
   (cond (xq x.1.2.1)
    (J tD (bY Tryz.prog 196 1) ((x.1.1,((((List.length x.1.1):Nat):Int),((0:Int),()))),((),(([]:List ab),()))))
    (none)):=by kernel_rfl
theorem Ik(F:FT)(J:JT mM)(x:(((List (List ab))×aab)×(Unit×aav))):qw 196 1 mM Tryz.f196 tD F J x =
  cond (decide (x.1.2.2.1<x.1.2.1))
   (((dw x.1.1 x.1.2.2.1)).bind fun(y2:(List ab)) =>
   cond (b4 (List.length x.2.2.1) (List.length y2))
    (J tD (bY Tryz.prog 196 1) ((x.1.1,(x.1.2.1,((IntKind.wrap .i64 (x.1.2.2.1+(1:Int))),()))),((),((x.2.2.1++y2),()))))
    (none))
   (some (x.2.2,())):=by kernel_rfl
theorem Vb(F:FT)(J:JT tq)(x:(aaF×Unit)):dt 218 tq Tryz.f218 F J x =
 J wY (bY Tryz.prog 218 0) (((0:Int),(x.1.1,((((List.length x.1.1):Nat):Int),((0:Int),())))),((),())):=by kernel_rfl
theorem wZ(F:FT)(J:JT tq)(x:((Int×((List Int)×aab))×(Unit×Unit))):qw 218 0 tq Tryz.f218 wY F J x =
  cond (decide (x.1.2.2.2.1<x.1.2.2.1))
   (((dw x.1.2.1 x.1.2.2.2.1)).bind fun(y1:Int) =>
   cond (y1 != x.1.1)
    (some ((y1,()),()))
    (J wY (bY Tryz.prog 218 0) ((x.1.1,(x.1.2.1,(x.1.2.2.1,((IntKind.wrap .i64 (x.1.2.2.2.1+(1:Int))),())))),((),()))))
   (some ((x.1.1,()),())):=by kernel_rfl
theorem Vc(F:FT)(J:JT yK)(x:(aab×Unit)):dt 219 yK Tryz.f219 F J x =
  (F 235 yM ((x.1.1,()),())).bind fun(y1:((Bool×Unit)×Unit)) =>
  (F 235 yM (x.1.2,())).bind fun(y2:((Bool×Unit)×Unit)) =>
  cond y1.1.1
   (cond y2.1.1
    (some (((0:Int),()),()))
    (some (((-1:Int),()),())))
   (cond y2.1.1
    (some (((1:Int),()),()))
    (cond (decide (x.1.1<x.1.2.1))
     (some (((-1:Int),()),()))
     (cond (decide (x.1.1>x.1.2.1))
      (some (((1:Int),()),()))
      (some (((0:Int),()),()))))):=by kernel_rfl
theorem Vd(F:FT)(J:JT Eo)(x:((ah×Unit)×Unit)):dt 109 Eo Tryz.f109 F J x =
 some ((x.1.1.1,()),()):=by kernel_rfl
theorem Ve(F:FT)(J:JT tu)(x:((ak×aal)×Unit)):dt 139 tu Tryz.f139 F J x =
 J tE (bY Tryz.prog 139 0) ((x.1.1.1,((((List.length x.1.1.1):Nat):Int),((0:Int),()))),((((x.1.2.1.1,x.1.2.1.2),()),((((0:Int),(0:Int)),()),())),())):=by kernel_rfl
theorem Il(F:FT)(J:JT tu)(x:(aaI×((aal×(aan×Unit))×Unit))):qw 139 0 tu Tryz.f139 tE F J x =
  cond (decide (x.1.2.2.1<x.1.2.1))
   (((dw x.1.1 x.1.2.2.1)).bind fun(y1:ah) =>
   (F 166 tp ((y1.2.1,((x.2.1.1.1.1,x.2.1.1.1.2),())),())).bind fun(y2:((Bool×Unit)×Unit)) =>
   cond y2.1.1
    (some ((y1.1,(true,())),()))
    (J tE (bY Tryz.prog 139 0) ((x.1.1,(x.1.2.1,((IntKind.wrap .i64 (x.1.2.2.1+(1:Int))),()))),((((x.2.1.1.1.1,x.2.1.1.1.2),()),((x.2.1.2.1.1,()),())),()))))
   (some ((((0:Int),(0:Int)),(false,())),())):=by kernel_rfl
theorem Vf(F:FT)(J:JT Ep)(x:(((List aF)×aal)×Unit)):dt 230 Ep Tryz.f230 F J x =
  (F 246244 iB ((x.1.1,()),(((x.1.2.1.1,x.1.2.1.2),()),()))).bind fun(y1:((Int×Unit)×((ab×Unit)×Unit))) =>
  cond (decide (y1.1.1<(0:Int)))
   (some (((((0:Int),(0:Int)),(0:Int)),(false,())),()))
   (((dw x.1.1 y1.1.1)).bind fun(y2:aF) =>
   some (((y2.2.1,y2.2.2),(true,())),())):=by kernel_rfl
theorem Vg(F:FT)(J:JT Er)(x:aay):dt 226 Er Tryz.f226 F J x =
 (F 240238 jK ((x.1.1.1,()),())).bind fun(y1:((Int×Unit)×Unit)) =>
 (F 240 vZ ((x.1.1,()),())).bind fun(y2:(((List (List ab))×Unit)×Unit)) =>
 (F 241 v5 ((x.1.1,()),())).bind fun(y3:((Int×Unit)×Unit)) =>
 some (((((List.length x.1.1.1):Nat):Int),((((List.length x.1.1.2):Nat):Int),((IntKind.wrap .i64 ((((List.length y2.1.1):Nat):Int)+y1.1.1)),y3.1))),()):=by kernel_rfl
theorem Vh(F:FT)(J:JT Br)(x:((aF×aal)×Unit)):dt 232 Br Tryz.f232 F J x =
 (F 195 Bq (((x.1.1.1.1,x.1.1.1.2),((x.1.2.1.1,x.1.2.1.2),())),())).bind fun(y1:((Int×Unit)×Unit)) =>
 some (y1.1,()):=by kernel_rfl
end Go.Vs
set_option maxRecDepth 1000000
set_option maxHeartbeats 0
namespace Go.Vs
open Go.Proofs
theorem QN(F:FT)(J:JT yL)(x:(((List ab)×(ab×aau))×Unit)):dt 167 yL Tryz.f167 F J x =
  (F 168 kW ((x.1.1,((x.1.2.1.1,x.1.2.1.2),())),())).bind fun(y1:((Int×Unit)×Unit)) =>
  cond (decide (y1.1.1<(0:Int)))
   (some (((((0:Int),(0:Int)),(0:Int)),(false,())),()))
   (cond ((((List.length x.1.1):Nat):Int)==(0:Int))
    (none)
    (((dw x.1.1 (Int.tmod (IntKind.wrap .i64 (y1.1.1+x.1.2.2.1)) (((List.length x.1.1):Nat):Int)))).bind fun(y2:ab) =>
    some (((y2.1,y2.2),(true,())),()))):=by kernel_rfl
theorem Vi(F:FT)(J:JT yM)(x:(aau×Unit)):dt 235 yM Tryz.f235 F J x =
 some (((x.1.1 != x.1.1),()),()):=by kernel_rfl
theorem Vj(F:FT)(J:JT Es)(x:((aF×Unit)×((Int×aab)×Unit))):dt 245 Es Tryz.f245 F J x =
 some (((((x.1.1.1.1.1==x.2.1.1)&&(x.1.1.1.1.2==x.2.1.2.1))&&(x.1.1.1.2==x.2.1.2.2.1)),()),((x.2.1.1,(x.2.1.2.1,x.2.1.2.2)),())):=by kernel_rfl
theorem Vk(F:FT)(J:JT Et)(x:((ah×Unit)×Unit)):dt 239 Et Tryz.f239 F J x =
 some ((((((List.length x.1.1.2.1):Nat):Int)==(0:Int)),()),()):=by kernel_rfl
theorem Vl(F:FT)(J:JT tv)(x:aay):dt 249 tv Tryz.f249 F J x =
 J tF (bY Tryz.prog 249 0) ((x.1.1.2,((((List.length x.1.1.2):Nat):Int),((0:Int),()))),((),(([]:List ab),()))):=by kernel_rfl
theorem Im(F:FT)(J:JT tv)(x:(((List aq)×aab)×(Unit×aav))):qw 249 0 tv Tryz.f249 tF F J x =
  cond (decide (x.1.2.2.1<x.1.2.1))
   (((dw x.1.1 x.1.2.2.1)).bind fun(y1:aq) =>
   (F 188 mK (((y1.1,(0:Int)),()),())).bind fun(y2:((ab×Unit)×Unit)) =>
   cond (b4 (List.length x.2.2.1) (List.length ((y1.1,(0:Int))::((y2.1.1.1,y2.1.1.2)::([]:List ab)))))
    (J tF (bY Tryz.prog 249 0) ((x.1.1,(x.1.2.1,((IntKind.wrap .i64 (x.1.2.2.1+(1:Int))),()))),((),((x.2.2.1++((y1.1,(0:Int))::((y2.1.1.1,y2.1.1.2)::([]:List ab)))),()))))
    (none))
   (some (x.2.2,())):=by kernel_rfl
theorem Vm(F:FT)(J:JT Bu)(x:((ak×aal)×Unit)):dt 255 Bu Tryz.f255 F J x =
  (F 139 tu ((x.1.1,((x.1.2.1.1,x.1.2.1.2),())),())).bind fun(y1:((ID×(Bool×Unit))×Unit)) =>
  cond (not y1.1.2.1)
   (some (((((0:Int),(0:Int)),(0:Int)),(false,())),()))
   ((F 188 mK (((x.1.2.1.1,x.1.2.1.2),()),())).bind fun(y2:((ab×Unit)×Unit)) =>
   (F 258 v7 ((x.1.1,((y2.1.1.1,y2.1.1.2),())),())).bind fun(y3:((ab×(Bool×Unit))×Unit)) =>
   some (((y3.1.1.1,y3.1.1.2),y3.1.2),())):=by kernel_rfl
theorem Vn(F:FT)(J:JT gm)(x:aay):dt 256 gm Tryz.f256 F J x =
 J qu (bY Tryz.prog 256 0) ((x.1.1.1,((((List.length x.1.1.1):Nat):Int),((0:Int),()))),((),(([]:List Int),(([]:List (ab×Int)),())))):=by kernel_rfl
theorem Io(F:FT)(J:JT gm)(x:(aaI×(Unit×((List Int)×((List (ab×Int))×Unit))))):qw 256 0 gm Tryz.f256 qu F J x =
  cond (decide (x.1.2.2.1<x.1.2.1))
   (((dw x.1.1 x.1.2.2.1)).bind fun(y1:ah) =>
   cond (b4 (List.length x.2.2.1) (List.length (x.1.2.2.1::([]:List Int))))
    (J tG (bY Tryz.prog 256 1) ((x.1.2.2.1,(x.1.1,(x.1.2.1,(x.1.2.2.1,(y1.2.1,((((List.length y1.2.1):Nat):Int),((0:Int),()))))))),((),((x.2.2.1++(x.1.2.2.1::([]:List Int))),x.2.2.2))))
    (none))
   (J nQ (bY Tryz.prog 256 2) (x.2.2.2,((),(x.2.2.1,((none,x.2.2.2.1),()))))):=by kernel_rfl
theorem Ip(F:FT)(J:JT gm)(x:((Int×((List ah)×(Int×(Int×((List ab)×aab)))))×(Unit×((List Int)×((List (ab×Int))×Unit))))):qw 256 1 gm Tryz.f256 tG F J x =
  cond (decide (x.1.2.2.2.2.2.2.1<x.1.2.2.2.2.2.1))
   (((dw x.1.2.2.2.2.1 x.1.2.2.2.2.2.2.1)).bind fun(y2:ab) =>
   J tG (bY Tryz.prog 256 1) ((x.1.1,(x.1.2.1,(x.1.2.2.1,(x.1.2.2.2.1,(x.1.2.2.2.2.1,(x.1.2.2.2.2.2.1,((IntKind.wrap .i64 (x.1.2.2.2.2.2.2.1+(1:Int))),()))))))),((),(x.2.2.1,((lx (.pair (.pair (.int .i64) (.int .i64)) (.int .i64)) (y2.1,y2.2) x.1.1 x.2.2.2.1),())))))
   (J qu (bY Tryz.prog 256 0) ((x.1.2.1,(x.1.2.2.1,((IntKind.wrap .i64 (x.1.2.2.2.1+(1:Int))),()))),((),(x.2.2.1,x.2.2.2)))):=by kernel_rfl
theorem Iq(F:FT)(J:JT gm)(x:(((List (ab×Int))×Unit)×(Unit×((List Int)×(((Option (ab×Int))×(List (ab×Int)))×Unit))))):qw 256 2 gm Tryz.f256 nQ F J x =
  cond (List.isEmpty x.2.2.2.1.2)
   (J tH (bY Tryz.prog 256 3) (((((List.length x.2.2.1):Nat):Int),((0:Int),())),((),(x.2.2.1,(([]:List Int),())))))
   (oY (List.length x.2.2.2.1.2) fun(j3:Nat) =>
   ((x.2.2.2.1.2)[j3]?).bind fun(y4:(ab×Int)) =>
   (F 188 mK (((y4.1.1,y4.1.2),()),())).bind fun(y5:((ab×Unit)×Unit)) =>
   cond (Option.isSome (ib (.pair (.pair (.int .i64) (.int .i64)) (.int .i64)) (y5.1.1.1,y5.1.1.2) x.1.1))
    ((F 259 Eu ((y4.2,((Option.getD (ib (.pair (.pair (.int .i64) (.int .i64)) (.int .i64)) (y5.1.1.1,y5.1.1.2) x.1.1) (0:Int)),())),(x.2.2.1,()))).bind fun(y6:(Unit×((List Int)×Unit))) =>
    J nQ (bY Tryz.prog 256 2) (x.1,((),(y6.2.1,(((some y4),(List.eraseIdx x.2.2.2.1.2 j3)),())))))
    (J nQ (bY Tryz.prog 256 2) (x.1,((),(x.2.2.1,(((some y4),(List.eraseIdx x.2.2.2.1.2 j3)),())))))):=by kernel_rfl
theorem Ir(F:FT)(J:JT gm)(x:(aab×(Unit×((List Int)×aaF)))):qw 256 3 gm Tryz.f256 tH F J x =
  cond (decide (x.1.2.1<x.1.1))
   ((F 260 pK (x.1.2,(x.2.2.1,()))).bind fun(y7:((Int×Unit)×((List Int)×Unit))) =>
   cond (b4 (List.length x.2.2.2.1) (List.length (y7.1.1::([]:List Int))))
    (J tH (bY Tryz.prog 256 3) ((x.1.1,((IntKind.wrap .i64 (x.1.2.1+(1:Int))),())),((),(y7.2.1,((x.2.2.2.1++(y7.1.1::([]:List Int))),())))))
    (none))
   (some (x.2.2.2,())):=by kernel_rfl
theorem Vo(F:FT)(J:JT v7)(x:((ak×aal)×Unit)):dt 258 v7 Tryz.f258 F J x =
 J tI (bY Tryz.prog 258 0) ((x.1.1.1,((((List.length x.1.1.1):Nat):Int),((0:Int),()))),((((x.1.2.1.1,x.1.2.1.2),()),(((((0:Int),(0:Int)),(0:Int)),()),())),())):=by kernel_rfl
theorem Is(F:FT)(J:JT v7)(x:(aaI×((aal×aaq)×Unit))):qw 258 0 v7 Tryz.f258 tI F J x =
  cond (decide (x.1.2.2.1<x.1.2.1))
   (((dw x.1.1 x.1.2.2.1)).bind fun(y1:ah) =>
   (F 261 Ev ((y1.2.1,((x.2.1.1.1.1,x.2.1.1.1.2),())),())).bind fun(y2:((ab×(Bool×Unit))×Unit)) =>
   cond y2.1.2.1
    (some (((y2.1.1.1,y2.1.1.2),(true,())),()))
    (J tI (bY Tryz.prog 258 0) ((x.1.1,(x.1.2.1,((IntKind.wrap .i64 (x.1.2.2.1+(1:Int))),()))),((((x.2.1.1.1.1,x.2.1.1.1.2),()),(((x.2.1.2.1.1.1,x.2.1.2.1.1.2),()),())),()))))
   (some (((((0:Int),(0:Int)),(0:Int)),(false,())),())):=by kernel_rfl
theorem Vp(F:FT)(J:JT Eu)(x:(aab×aaF)):dt 259 Eu Tryz.f259 F J x =
  (F 260 pK ((x.1.1,()),x.2)).bind fun(y1:((Int×Unit)×((List Int)×Unit))) =>
  (F 260 pK (x.1.2,y1.2)).bind fun(y2:((Int×Unit)×((List Int)×Unit))) =>
  cond ((decide ((0:Int)≤(max y1.1.1 y2.1.1:Int)))&&(decide ((max y1.1.1 y2.1.1:Int)<(((List.length y2.2.1):Nat):Int))))
   (((y2.2.1)[(Int.toNat (max y1.1.1 y2.1.1:Int))]?).bind fun(y3:Int) =>
   some ((),((List.set y2.2.1 (Int.toNat (max y1.1.1 y2.1.1:Int)) (min y1.1.1 y2.1.1:Int)),())))
   (none):=by kernel_rfl
theorem Vq(F:FT)(J:JT pK)(x:(aau×aaF)):dt 260 pK Tryz.f260 F J x =
 J qv (bY Tryz.prog 260 0) (x.1,((),x.2)):=by kernel_rfl
theorem It(F:FT)(J:JT pK)(x:(aau×(Unit×aaF))):qw 260 0 pK Tryz.f260 qv F J x =
  cond ((decide ((0:Int)≤x.1.1))&&(decide (x.1.1<(((List.length x.2.2.1):Nat):Int))))
   (((x.2.2.1)[(Int.toNat x.1.1)]?).bind fun(y1:Int) =>
   cond (y1 != x.1.1)
    (cond ((decide ((0:Int)≤x.1.1))&&(decide (x.1.1<(((List.length x.2.2.1):Nat):Int))))
     (((x.2.2.1)[(Int.toNat x.1.1)]?).bind fun(y2:Int) =>
     cond ((decide ((0:Int)≤y2))&&(decide (y2<(((List.length x.2.2.1):Nat):Int))))
      (((x.2.2.1)[(Int.toNat y2)]?).bind fun(y3:Int) =>
      cond ((decide ((0:Int)≤x.1.1))&&(decide (x.1.1<(((List.length x.2.2.1):Nat):Int))))
       (((x.2.2.1)[(Int.toNat x.1.1)]?).bind fun(y4:Int) =>
       cond ((decide ((0:Int)≤x.1.1))&&(decide (x.1.1<(((List.length (List.set x.2.2.1 (Int.toNat x.1.1) y3)):Nat):Int))))
        ((((List.set x.2.2.1 (Int.toNat x.1.1) y3))[(Int.toNat x.1.1)]?).bind fun(y5:Int) =>
        J qv (bY Tryz.prog 260 0) ((y5,()),((),((List.set x.2.2.1 (Int.toNat x.1.1) y3),()))))
        (none))
       (none))
      (none))
     (none))
    (some (x.1,x.2.2)))
   (none):=by kernel_rfl
theorem Vr(F:FT)(J:JT Ev)(x:aax):dt 261 Ev Tryz.f261 F J x =
 (F 167 yL ((x.1.1,((x.1.2.1.1,x.1.2.1.2),((1:Int),()))),())).bind fun(y1:((ab×(Bool×Unit))×Unit)) =>
 some (((y1.1.1.1,y1.1.1.2),y1.1.2),()):=by kernel_rfl
theorem Ml(F:FT)(J:JT iy)(x:(((List ah)×aan)×Unit)):dt 208206 iy Tryz.f206 F J x =
 J gK (bY Tryz.prog 206 0) ((x.1.1,((((List.length x.1.1):Nat):Int),((0:Int),((((List.length x.1.1):Nat):Int),())))),(((x.1.2.1,()),()),())):=by kernel_rfl
theorem yQ(F:FT)(J:JT iy)(x:(((List ah)×(Int×aab))×((aan×Unit)×Unit))):qw 208206 0 iy Tryz.f206 gK F J x =
  cond (decide (x.1.2.2.1<x.1.2.2.2.1))
   (cond (decide ((1:Int)<(0:Int)))
    (none)
    (((dw x.1.1 (IntKind.wrap .i64 (kc .u64 (IntKind.wrap .u64 (IntKind.wrap .i64 (x.1.2.2.1+x.1.2.2.2.1))) (1:Int))))).bind fun(y1:ah) =>
    (F 207 Bn (((y1.1,(y1.2.1,y1.2.2)),(x.2.1.1.1,())),())).bind fun(y2:((Int×Unit)×Unit)) =>
    cond (decide (y2.1.1<(0:Int)))
     (J gK (bY Tryz.prog 206 0) ((x.1.1,(x.1.2.1,((IntKind.wrap .i64 ((IntKind.wrap .i64 (kc .u64 (IntKind.wrap .u64 (IntKind.wrap .i64 (x.1.2.2.1+x.1.2.2.2.1))) (1:Int)))+(1:Int))),x.1.2.2.2))),(((x.2.1.1.1,()),()),())))
     (J gK (bY Tryz.prog 206 0) ((x.1.1,(x.1.2.1,(x.1.2.2.1,((IntKind.wrap .i64 (kc .u64 (IntKind.wrap .u64 (IntKind.wrap .i64 (x.1.2.2.1+x.1.2.2.2.1))) (1:Int))),())))),(((x.2.1.1.1,()),()),())))))
   (cond (decide (x.1.2.2.1<x.1.2.1))
    (((dw x.1.1 x.1.2.2.1)).bind fun(y3:ah) =>
    (F 207 Bn (((y3.1,(y3.2.1,y3.2.2)),(x.2.1.1.1,())),())).bind fun(y4:((Int×Unit)×Unit)) =>
    some ((x.1.2.2.1,((y4.1.1==(0:Int)),())),()))
    (some ((x.1.2.2.1,(false,())),()))):=by kernel_rfl
theorem Mm(F:FT)(J:JT iz)(x:(((List aq)×aan)×Unit)):dt 215213 iz Tryz.f213 F J x =
 J gL (bY Tryz.prog 213 0) ((x.1.1,((((List.length x.1.1):Nat):Int),((0:Int),((((List.length x.1.1):Nat):Int),())))),(((x.1.2.1,()),()),())):=by kernel_rfl
theorem yR(F:FT)(J:JT iz)(x:(((List aq)×(Int×aab))×((aan×Unit)×Unit))):qw 215213 0 iz Tryz.f213 gL F J x =
  cond (decide (x.1.2.2.1<x.1.2.2.2.1))
   (cond (decide ((1:Int)<(0:Int)))
    (none)
    (((dw x.1.1 (IntKind.wrap .i64 (kc .u64 (IntKind.wrap .u64 (IntKind.wrap .i64 (x.1.2.2.1+x.1.2.2.2.1))) (1:Int))))).bind fun(y1:aq) =>
    (F 214 Bo (((y1.1,y1.2),(x.2.1.1.1,())),())).bind fun(y2:((Int×Unit)×Unit)) =>
    cond (decide (y2.1.1<(0:Int)))
     (J gL (bY Tryz.prog 213 0) ((x.1.1,(x.1.2.1,((IntKind.wrap .i64 ((IntKind.wrap .i64 (kc .u64 (IntKind.wrap .u64 (IntKind.wrap .i64 (x.1.2.2.1+x.1.2.2.2.1))) (1:Int)))+(1:Int))),x.1.2.2.2))),(((x.2.1.1.1,()),()),())))
     (J gL (bY Tryz.prog 213 0) ((x.1.1,(x.1.2.1,(x.1.2.2.1,((IntKind.wrap .i64 (kc .u64 (IntKind.wrap .u64 (IntKind.wrap .i64 (x.1.2.2.1+x.1.2.2.2.1))) (1:Int))),())))),(((x.2.1.1.1,()),()),())))))
   (cond (decide (x.1.2.2.1<x.1.2.1))
    (((dw x.1.1 x.1.2.2.1)).bind fun(y3:aq) =>
    (F 214 Bo (((y3.1,y3.2),(x.2.1.1.1,())),())).bind fun(y4:((Int×Unit)×Unit)) =>
    some ((x.1.2.2.1,((y4.1.1==(0:Int)),())),()))
    (some ((x.1.2.2.1,(false,())),()))):=by kernel_rfl
theorem Mn(F:FT)(J:JT jI)(x:(aav×Unit)):dt 196194 jI Tryz.f194 F J x =
  cond (decide ((((List.length x.1.1):Nat):Int)<(1:Int)))
   (none)
   (((dw x.1.1 (0:Int))).bind fun(y1:ab) =>
   J jf (bY Tryz.prog 194 0) ((x.1.1,((1:Int),())),((((((0:Int),(0:Int)),(0:Int)),()),(((y1.1,y1.2),()),())),()))):=by kernel_rfl
theorem yS(F:FT)(J:JT jI)(x:(((List ab)×aau)×((aal×aaq)×Unit))):qw 196194 0 jI Tryz.f194 jf F J x =
  cond (decide (x.1.2.1<(((List.length x.1.1):Nat):Int)))
   (((dw x.1.1 x.1.2.1)).bind fun(y2:ab) =>
   (F 195 Bq (((y2.1,y2.2),((x.2.1.2.1.1.1,x.2.1.2.1.1.2),())),())).bind fun(y3:((Int×Unit)×Unit)) =>
   cond (decide (y3.1.1<(0:Int)))
    (((dw x.1.1 x.1.2.1)).bind fun(y4:ab) =>
    J jf (bY Tryz.prog 194 0) ((x.1.1,((IntKind.wrap .i64 (x.1.2.1+(1:Int))),())),((((x.2.1.1.1.1,x.2.1.1.1.2),()),(((y4.1,y4.2),()),())),())))
    (J jf (bY Tryz.prog 194 0) ((x.1.1,((IntKind.wrap .i64 (x.1.2.1+(1:Int))),())),((((x.2.1.1.1.1,x.2.1.1.1.2),()),(((x.2.1.2.1.1.1,x.2.1.2.1.1.2),()),())),()))))
   (some (((x.2.1.2.1.1.1,x.2.1.2.1.1.2),()),())):=by kernel_rfl
theorem Mo(F:FT)(J:JT jJ)(x:(((List ah)×aan)×Unit)):dt 110108 jJ Tryz.f108 F J x =
 J kY (bY Tryz.prog 108 0) ((x.1.1,((((List.length x.1.1):Nat):Int),((0:Int),()))),(((x.1.2.1,()),(((0:Int),((0:Int),(([]:List ab),((⟨#[]⟩:ByteArray),((0:Int),()))))),())),())):=by kernel_rfl
theorem yT(F:FT)(J:JT jJ)(x:(aaI×((aan×((Int×(Int×((List ab)×(ByteArray×aau))))×Unit))×Unit))):qw 110108 0 jJ Tryz.f108 kY F J x =
  cond (decide (x.1.2.2.1<x.1.2.1))
   (((dw x.1.1 x.1.2.2.1)).bind fun(y1:ah) =>
   (F 109 Eo (((y1.1,(y1.2.1,y1.2.2)),()),())).bind fun(y2:((ID×Unit)×Unit)) =>
   cond ((y2.1.1.1==x.2.1.1.1.1)&&(y2.1.1.2==x.2.1.1.1.2))
    (some (((y1.1,(y1.2.1,y1.2.2)),(true,())),()))
    (J kY (bY Tryz.prog 108 0) ((x.1.1,(x.1.2.1,((IntKind.wrap .i64 (x.1.2.2.1+(1:Int))),()))),(((x.2.1.1.1,()),((x.2.1.2.1.1,(x.2.1.2.1.2.1,(x.2.1.2.1.2.2.1,(x.2.1.2.1.2.2.2.1,x.2.1.2.1.2.2.2.2)))),())),()))))
   (some (((((0:Int),(0:Int)),(([]:List ab),((⟨#[]⟩:ByteArray),(0:Int)))),(false,())),())):=by kernel_rfl
theorem Mp(F:FT)(J:JT iA)(x:(((List aF)×aal)×Unit)):dt 233231 iA Tryz.f231 F J x =
 J gM (bY Tryz.prog 231 0) ((x.1.1,((((List.length x.1.1):Nat):Int),((0:Int),((((List.length x.1.1):Nat):Int),())))),((((x.1.2.1.1,x.1.2.1.2),()),()),())):=by kernel_rfl
theorem yU(F:FT)(J:JT iA)(x:(((List aF)×(Int×aab))×(aaq×Unit))):qw 233231 0 iA Tryz.f231 gM F J x =
  cond (decide (x.1.2.2.1<x.1.2.2.2.1))
   (cond (decide ((1:Int)<(0:Int)))
    (none)
    (((dw x.1.1 (IntKind.wrap .i64 (kc .u64 (IntKind.wrap .u64 (IntKind.wrap .i64 (x.1.2.2.1+x.1.2.2.2.1))) (1:Int))))).bind fun(y1:aF) =>
    (F 232 Br ((((y1.1.1,y1.1.2),(y1.2.1,y1.2.2)),((x.2.1.1.1.1,x.2.1.1.1.2),())),())).bind fun(y2:((Int×Unit)×Unit)) =>
    cond (decide (y2.1.1<(0:Int)))
     (J gM (bY Tryz.prog 231 0) ((x.1.1,(x.1.2.1,((IntKind.wrap .i64 ((IntKind.wrap .i64 (kc .u64 (IntKind.wrap .u64 (IntKind.wrap .i64 (x.1.2.2.1+x.1.2.2.2.1))) (1:Int)))+(1:Int))),x.1.2.2.2))),((((x.2.1.1.1.1,x.2.1.1.1.2),()),()),())))
     (J gM (bY Tryz.prog 231 0) ((x.1.1,(x.1.2.1,(x.1.2.2.1,((IntKind.wrap .i64 (kc .u64 (IntKind.wrap .u64 (IntKind.wrap .i64 (x.1.2.2.1+x.1.2.2.2.1))) (1:Int))),())))),((((x.2.1.1.1.1,x.2.1.1.1.2),()),()),())))))
   (cond (decide (x.1.2.2.1<x.1.2.1))
    (((dw x.1.1 x.1.2.2.1)).bind fun(y3:aF) =>
    (F 232 Br ((((y3.1.1,y3.1.2),(y3.2.1,y3.2.2)),((x.2.1.1.1.1,x.2.1.1.1.2),())),())).bind fun(y4:((Int×Unit)×Unit)) =>
    some ((x.1.2.2.1,((y4.1.1==(0:Int)),())),()))
    (some ((x.1.2.2.1,(false,())),()))):=by kernel_rfl
theorem Mq(F:FT)(J:JT iB)(x:(((List aF)×Unit)×aaq)):dt 246244 iB Tryz.f244 F J x =
 J jg (bY Tryz.prog 244 0) ((x.1.1,((((List.length x.1.1):Nat):Int),((0:Int),()))),((((x.2.1.1.1,x.2.1.1.2),()),()),())):=by kernel_rfl
theorem yV(F:FT)(J:JT iB)(x:(((List aF)×aab)×(aaq×Unit))):qw 246244 0 iB Tryz.f244 jg F J x =
  cond (decide (x.1.2.2.1<x.1.2.1))
   (((dw x.1.1 x.1.2.2.1)).bind fun(y1:aF) =>
   (F 245 Es ((((y1.1.1,y1.1.2),(y1.2.1,y1.2.2)),()),((x.2.1.1.1.1.1,(x.2.1.1.1.1.2,(x.2.1.1.1.2,()))),()))).bind fun(y2:((Bool×Unit)×((Int×(Int×(Int×Unit)))×Unit))) =>
   cond y2.1.1
    (some (x.1.2.2,((((y2.2.1.1,y2.2.1.2.1),y2.2.1.2.2.1),()),())))
    (J jg (bY Tryz.prog 244 0) ((x.1.1,(x.1.2.1,((IntKind.wrap .i64 (x.1.2.2.1+(1:Int))),()))),(((((y2.2.1.1,y2.2.1.2.1),y2.2.1.2.2.1),()),()),()))))
   (some (((-1:Int),()),(((x.2.1.1.1.1,x.2.1.1.1.2),()),()))):=by kernel_rfl
theorem Mr(F:FT)(J:JT jK)(x:(((List ah)×Unit)×Unit)):dt 240238 jK Tryz.f238 F J x =
 J jh (bY Tryz.prog 238 0) (((0:Int),(x.1.1,((((List.length x.1.1):Nat):Int),((0:Int),())))),((),())):=by kernel_rfl
theorem yW(F:FT)(J:JT jK)(x:((Int×aaI)×(Unit×Unit))):qw 240238 0 jK Tryz.f238 jh F J x =
  cond (decide (x.1.2.2.2.1<x.1.2.2.1))
   (((dw x.1.2.1 x.1.2.2.2.1)).bind fun(y1:ah) =>
   (F 239 Et (((y1.1,(y1.2.1,y1.2.2)),()),())).bind fun(y2:((Bool×Unit)×Unit)) =>
   cond y2.1.1
    (J jh (bY Tryz.prog 238 0) (((IntKind.wrap .i64 (x.1.1+(1:Int))),(x.1.2.1,(x.1.2.2.1,((IntKind.wrap .i64 (x.1.2.2.2.1+(1:Int))),())))),((),())))
    (J jh (bY Tryz.prog 238 0) ((x.1.1,(x.1.2.1,(x.1.2.2.1,((IntKind.wrap .i64 (x.1.2.2.2.1+(1:Int))),())))),((),()))))
   (some ((x.1.1,()),())):=by kernel_rfl
end Go.Vs
