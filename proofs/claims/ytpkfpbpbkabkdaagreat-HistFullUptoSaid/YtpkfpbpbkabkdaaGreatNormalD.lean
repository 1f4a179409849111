/- Normal forms of the program's functions, the fourth part. -/
import Derived.Test.YtpkfpbpbkabkdaaGreatEngineD
import Derived.KernelRfl
set_option linter.unusedVariables false
set_option maxRecDepth 1000000
set_option maxHeartbeats 0
namespace Go.Vs
open Go.Proofs
theorem Vt(F:FT)(J:JT rq)(x:(aab×Unit)):dt 5 rq Tryz.f5 F J x =
  (F 23 Ex ((),())).bind fun(y1:((Bool×Unit)×Unit)) =>
  cond (not y1.1.1)
   (some ((false,()),()))
   (J kg (bY Tryz.prog 5 0) ((x.1.2.1,((cP .and .i64 x.1.1 (127:Int)),((0:Int),()))),(((((([]:List ah),([]:List aq)),([]:List aF)),((0:Int),(([]:List (List bh)),()))),()),()))):=by kernel_rfl
theorem Iu(F:FT)(J:JT rq)(x:((Int×aab)×((bJ×Unit)×Unit))):qw 5 0 rq Tryz.f5 kg F J x =
  cond (decide (x.1.2.2.1<x.1.2.1))
   (cond ((20:Int)==(0:Int))
    (none)
    ((F 26 tw (((IntKind.wrap .i64 ((1:Int)+(Int.tmod x.1.2.2.1 (20:Int)))),()),())).bind fun(y2:(((List bh)×Unit)×Unit)) =>
    (F 25 pM (y2.1,(((x.2.1.1.1.1,x.2.1.1.1.2),(x.2.1.1.2.1,x.2.1.1.2.2)),()))).bind fun(y3:((Int×(Int×Unit))×(bJ×Unit))) =>
    cond (not ((decide (x.1.2.2.1≥(64:Int)))==(y3.1.2.1==(20:Int))))
     (some ((false,()),()))
     (cond (not (decide (x.1.2.2.1≥(64:Int))))
      (cond (y3.1.1 != (IntKind.wrap .i64 (x.1.2.2.1+(1:Int))))
       (some ((false,()),()))
       (cond (decide (x.1.2.2.1≥(64:Int)))
        (cond (y3.1.1 != (0:Int))
         (some ((false,()),()))
         (J kg (bY Tryz.prog 5 0) ((x.1.1,(x.1.2.1,((IntKind.wrap .i64 (x.1.2.2.1+(1:Int))),()))),((((y3.2.1.1.1,y3.2.1.1.2),(y3.2.1.2.1,y3.2.1.2.2)),()),()))))
        (J kg (bY Tryz.prog 5 0) ((x.1.1,(x.1.2.1,((IntKind.wrap .i64 (x.1.2.2.1+(1:Int))),()))),((((y3.2.1.1.1,y3.2.1.1.2),(y3.2.1.2.1,y3.2.1.2.2)),()),())))))
      (cond (decide (x.1.2.2.1≥(64:Int)))
       (cond (y3.1.1 != (0:Int))
        (some ((false,()),()))
        (J kg (bY Tryz.prog 5 0) ((x.1.1,(x.1.2.1,((IntKind.wrap .i64 (x.1.2.2.1+(1:Int))),()))),((((y3.2.1.1.1,y3.2.1.1.2),(y3.2.1.2.1,y3.2.1.2.2)),()),()))))
       (J kg (bY Tryz.prog 5 0) ((x.1.1,(x.1.2.1,((IntKind.wrap .i64 (x.1.2.2.1+(1:Int))),()))),((((y3.2.1.1.1,y3.2.1.1.2),(y3.2.1.2.1,y3.2.1.2.2)),()),())))))))
   ((F 27 Bw ((x.1.1,()),(((x.2.1.1.1.1,x.2.1.1.1.2),(x.2.1.1.2.1,x.2.1.1.2.2)),()))).bind fun(y4:((Int×Unit)×(bJ×Unit))) =>
   cond (decide (x.1.1≥(0:Int)))
    (cond (not ((decide (x.1.1≤(min x.1.2.1 (64:Int):Int)))==(y4.1.1==(0:Int))))
     (some ((false,()),()))
     ((F 28 rr ((),(((y4.2.1.1.1,y4.2.1.1.2),(y4.2.1.2.1,y4.2.1.2.2)),()))).bind fun(y5:((Int×Unit)×(bJ×Unit))) =>
     cond (y5.1.1 != (min x.1.2.1 (64:Int):Int))
      (some ((false,()),()))
      (cond (decide (x.1.1≤(min x.1.2.1 (64:Int):Int)))
       ((F 26 tw (((1:Int),()),())).bind fun(y6:(((List bh)×Unit)×Unit)) =>
       (F 25 pM (y6.1,(((y5.2.1.1.1,y5.2.1.1.2),(y5.2.1.2.1,y5.2.1.2.2)),()))).bind fun(y7:((Int×(Int×Unit))×(bJ×Unit))) =>
       cond ((y7.1.2.1==(0:Int))==(decide ((IntKind.wrap .i64 ((min x.1.2.1 (64:Int):Int)-x.1.1))<(64:Int))))
        ((F 29 wa ((),(((y7.2.1.1.1,y7.2.1.1.2),(y7.2.1.2.1,y7.2.1.2.2)),()))).bind fun(y8:((Int×Unit)×(bJ×Unit))) =>
        some (((y8.1.1==x.1.1),()),()))
        (some ((false,()),())))
       ((F 26 tw (((1:Int),()),())).bind fun(y9:(((List bh)×Unit)×Unit)) =>
       (F 25 pM (y9.1,(((y5.2.1.1.1,y5.2.1.1.2),(y5.2.1.2.1,y5.2.1.2.2)),()))).bind fun(oM:((Int×(Int×Unit))×(bJ×Unit))) =>
       cond ((oM.1.2.1==(0:Int))==(decide ((IntKind.wrap .i64 ((min x.1.2.1 (64:Int):Int)-(0:Int)))<(64:Int))))
        ((F 29 wa ((),(((oM.2.1.1.1,oM.2.1.1.2),(oM.2.1.2.1,oM.2.1.2.2)),()))).bind fun(mo:((Int×Unit)×(bJ×Unit))) =>
        some (((mo.1.1==(0:Int)),()),()))
        (some ((false,()),()))))))
    (cond (not (false==(y4.1.1==(0:Int))))
     (some ((false,()),()))
     ((F 28 rr ((),(((y4.2.1.1.1,y4.2.1.1.2),(y4.2.1.2.1,y4.2.1.2.2)),()))).bind fun(nR:((Int×Unit)×(bJ×Unit))) =>
     cond (nR.1.1 != (min x.1.2.1 (64:Int):Int))
      (some ((false,()),()))
      ((F 26 tw (((1:Int),()),())).bind fun(lA:(((List bh)×Unit)×Unit)) =>
      (F 25 pM (lA.1,(((nR.2.1.1.1,nR.2.1.1.2),(nR.2.1.2.1,nR.2.1.2.2)),()))).bind fun(Ah:((Int×(Int×Unit))×(bJ×Unit))) =>
      cond ((Ah.1.2.1==(0:Int))==(decide ((IntKind.wrap .i64 ((min x.1.2.1 (64:Int):Int)-(0:Int)))<(64:Int))))
       ((F 29 wa ((),(((Ah.2.1.1.1,Ah.2.1.1.2),(Ah.2.1.2.1,Ah.2.1.2.2)),()))).bind fun(uR:((Int×Unit)×(bJ×Unit))) =>
       some (((uR.1.1==(0:Int)),()),()))
       (some ((false,()),())))))):=by kernel_rfl
theorem Vu(F:FT)(J:JT Bv)(x:((StateT×((List (List bh))×Unit))×Unit)):dt 18 Bv Tryz.f18 F J x =
 (F 62060 jL (((x.1.1.1,x.1.1.2),x.1.2),())).bind fun(y1:((StateT×Unit)×Unit)) =>
 some (((y1.1.1.1,y1.1.1.2),()),()):=by kernel_rfl
theorem Vv(F:FT)(J:JT Ex)(x:(Unit×Unit)):dt 23 Ex Tryz.f23 F J x =
  (F 26 tw (((1:Int),()),())).bind fun(y1:(((List bh)×Unit)×Unit)) =>
  (F 25 pM (y1.1,((((([]:List ah),([]:List aq)),([]:List aF)),((0:Int),(([]:List (List bh)),()))),()))).bind fun(y2:((Int×(Int×Unit))×(bJ×Unit))) =>
  (F 27 Bw (((1:Int),()),(((y2.2.1.1.1,y2.2.1.1.2),(y2.2.1.2.1,y2.2.1.2.2)),()))).bind fun(y3:((Int×Unit)×(bJ×Unit))) =>
  cond (y2.1.1==(1:Int))
   (cond (y2.1.2.1==(0:Int))
    (cond (y3.1.1==(0:Int))
     ((F 29 wa ((),(((y3.2.1.1.1,y3.2.1.1.2),(y3.2.1.2.1,y3.2.1.2.2)),()))).bind fun(y4:((Int×Unit)×(bJ×Unit))) =>
     cond (y4.1.1==(1:Int))
      ((F 28 rr ((),(((y4.2.1.1.1,y4.2.1.1.2),(y4.2.1.2.1,y4.2.1.2.2)),()))).bind fun(y5:((Int×Unit)×(bJ×Unit))) =>
      some (((y5.1.1==(1:Int)),()),()))
      (some ((false,()),())))
     (some ((false,()),())))
    (some ((false,()),())))
   (some ((false,()),())):=by kernel_rfl
theorem Vw(F:FT)(J:JT pM)(x:(((List bh)×Unit)×(bJ×Unit))):dt 25 pM Tryz.f25 F J x =
  (F 66 CG (x.1,())).bind fun(y1:((Int×Unit)×Unit)) =>
  cond (y1.1.1 != (0:Int))
   (some (((0:Int),y1.1),(((x.2.1.1.1,x.2.1.1.2),(x.2.1.2.1,x.2.1.2.2)),())))
   (cond (decide ((((List.length x.2.1.2.2.1):Nat):Int)≥(64:Int)))
    (some (((0:Int),((20:Int),())),(((x.2.1.1.1,x.2.1.1.2),(x.2.1.2.1,x.2.1.2.2)),())))
    (cond ((aN (List.length x.2.1.2.2.1) (0:Int) (((List.length x.2.1.2.2.1):Nat):Int))&&(decide ((((List.length x.2.1.2.2.1):Nat):Int)=(((List.length x.2.1.2.2.1):Nat):Int))))
     ((F 67 EA (x.1,())).bind fun(y2:(((List bh)×Unit)×Unit)) =>
     cond (b4 (List.length (cut x.2.1.2.2.1 (0:Int) (((List.length x.2.1.2.2.1):Nat):Int))) (List.length (y2.1.1::([]:List (List bh)))))
      ((F 28 rr ((),(((x.2.1.1.1,x.2.1.1.2),(x.2.1.2.1,(((cut x.2.1.2.2.1 (0:Int) (((List.length x.2.1.2.2.1):Nat):Int))++(y2.1.1::([]:List (List bh)))),()))),()))).bind fun(y3:((Int×Unit)×(bJ×Unit))) =>
      some ((y3.1.1,((0:Int),())),(((y3.2.1.1.1,y3.2.1.1.2),(y3.2.1.2.1,y3.2.1.2.2)),())))
      (none))
     (none))):=by kernel_rfl
theorem Vx(F:FT)(J:JT tw)(x:(aau×Unit)):dt 26 tw Tryz.f26 F J x =
 some (((((1:Int),(((1:Int),x.1.1),(((0:Int),(0:Int)),(((0:Int),(0:Int)),((((0:Int),(0:Int)),(((0:Int),(0:Int)),(0:Int))),((((0:Int),(0:Int)),(((0:Int),(0:Int)),(0:Int))),(false,((⟨#[]⟩:ByteArray),(0:Int)))))))))::([]:List bh)),()),()):=by kernel_rfl
theorem Vy(F:FT)(J:JT Bw)(x:(aau×(bJ×Unit))):dt 27 Bw Tryz.f27 F J x =
  (F 31 Ey (x.1,(((x.2.1.1.1,x.2.1.1.2),(x.2.1.2.1,x.2.1.2.2)),()))).bind fun(y1:((StateT×(Int×Unit))×(bJ×Unit))) =>
  cond (y1.1.2.1==(0:Int))
   (cond (aN (List.length y1.2.1.2.2.1) (IntKind.wrap .i64 (x.1.1-y1.2.1.2.1)) (((List.length y1.2.1.2.2.1):Nat):Int))
    (some (y1.1.2,(((y1.1.1.1,y1.1.1.2),(x.1.1,((cut y1.2.1.2.2.1 (IntKind.wrap .i64 (x.1.1-y1.2.1.2.1)) (((List.length y1.2.1.2.2.1):Nat):Int)),()))),())))
    (none))
   (some (y1.1.2,(((y1.2.1.1.1,y1.2.1.1.2),(y1.2.1.2.1,y1.2.1.2.2)),()))):=by kernel_rfl
theorem Vz(F:FT)(J:JT rr)(x:(Unit×(bJ×Unit))):dt 28 rr Tryz.f28 F J x =
 some (((IntKind.wrap .i64 (x.2.1.2.1+(((List.length x.2.1.2.2.1):Nat):Int))),()),(((x.2.1.1.1,x.2.1.1.2),(x.2.1.2.1,x.2.1.2.2)),())):=by kernel_rfl
theorem VA(F:FT)(J:JT wa)(x:(Unit×(bJ×Unit))):dt 29 wa Tryz.f29 F J x =
 some ((x.2.1.2.1,()),(((x.2.1.1.1,x.2.1.1.2),(x.2.1.2.1,x.2.1.2.2)),())):=by kernel_rfl
theorem VB(F:FT)(J:JT Ey)(x:(aau×(bJ×Unit))):dt 31 Ey Tryz.f31 F J x =
  cond (decide (x.1.1<x.2.1.2.1))
   (some ((((([]:List ah),([]:List aq)),([]:List aF)),((26:Int),())),(((x.2.1.1.1,x.2.1.1.2),(x.2.1.2.1,x.2.1.2.2)),())))
   ((F 28 rr ((),(((x.2.1.1.1,x.2.1.1.2),(x.2.1.2.1,x.2.1.2.2)),()))).bind fun(y1:((Int×Unit)×(bJ×Unit))) =>
   cond (decide (x.1.1>y1.1.1))
    (some ((((([]:List ah),([]:List aq)),([]:List aF)),((26:Int),())),(((y1.2.1.1.1,y1.2.1.1.2),(y1.2.1.2.1,y1.2.1.2.2)),())))
    (cond (aN (List.length y1.2.1.2.2.1) (0:Int) (IntKind.wrap .i64 (x.1.1-y1.2.1.2.1)))
     ((F 18 Bv (((y1.2.1.1.1,y1.2.1.1.2),((cut y1.2.1.2.2.1 (0:Int) (IntKind.wrap .i64 (x.1.1-y1.2.1.2.1))),())),())).bind fun(y2:((StateT×Unit)×Unit)) =>
     some (((y2.1.1.1,y2.1.1.2),((0:Int),())),(((y1.2.1.1.1,y1.2.1.1.2),(y1.2.1.2.1,y1.2.1.2.2)),())))
     (none))):=by kernel_rfl
end Go.Vs
set_option maxRecDepth 1000000
set_option maxHeartbeats 0
namespace Go.Vs
open Go.Proofs
theorem VC(F:FT)(J:JT Ez)(x:aar):dt 61 Ez Tryz.f61 F J x =
 some ((),()):=by kernel_rfl
theorem VD(F:FT)(J:JT EA)(x:(((List bh)×Unit)×Unit)):dt 67 EA Tryz.f67 F J x =
  cond (List.isEmpty x.1.1)
   (oY 2 fun(j1:Nat) =>
   cond ((j1==0)==true)
    (some ((([]:List bh),()),()))
    (cond (b4 (List.length ([]:List bh)) (List.length x.1.1))
     (some (((([]:List bh)++x.1.1),()),()))
     (none)))
   (cond (b4 (List.length ([]:List bh)) (List.length x.1.1))
    (some (((([]:List bh)++x.1.1),()),()))
    (none)):=by kernel_rfl
theorem Mt(F:FT)(J:JT jL)(x:((StateT×((List (List bh))×Unit))×Unit)):dt 62060 jL Tryz.f60 F J x =
 (F 102 Ec (((x.1.1.1,x.1.1.2),(([]:List bh),())),())).bind fun(y1:((StateT×Unit)×Unit)) =>
 J kZ (bY Tryz.prog 60 0) ((x.1.2.1,((((List.length x.1.2.1):Nat):Int),((0:Int),()))),(((([]:List ah),(([]:List aq),(([]:List aF),()))),(((y1.1.1.1,y1.1.1.2),()),())),())):=by kernel_rfl
theorem yX(F:FT)(J:JT jL)(x:(((List (List bh))×aab)×((aB×((StateT×Unit)×Unit))×Unit))):qw 62060 0 jL Tryz.f60 kZ F J x =
  cond (decide (x.1.2.2.1<x.1.2.1))
   (((dw x.1.1 x.1.2.2.1)).bind fun(y2:(List bh)) =>
   (F 61 Ez (((x.2.1.2.1.1.1,x.2.1.2.1.1.2),(y2,())),())).bind fun(y3:(Unit×Unit)) =>
   (F 102 Ec (((x.2.1.2.1.1.1,x.2.1.2.1.1.2),(y2,())),())).bind fun(y4:((StateT×Unit)×Unit)) =>
   J kZ (bY Tryz.prog 60 0) ((x.1.1,(x.1.2.1,((IntKind.wrap .i64 (x.1.2.2.1+(1:Int))),()))),(((x.2.1.1.1,(x.2.1.1.2.1,x.2.1.1.2.2)),(((y4.1.1.1,y4.1.1.2),()),())),())))
   (some (((x.2.1.2.1.1.1,x.2.1.2.1.1.2),()),())):=by kernel_rfl
end Go.Vs
