/- Normal forms of the program's functions, the second part. -/
import Derived.Test.YtpldhjjpeldkaaaGreatEngineD
import Derived.KernelRfl
set_option linter.unusedVariables false
set_option maxRecDepth 1000000
set_option maxHeartbeats 0
namespace Go.Vs
open Go.Proofs
theorem adw(F:FT)(J:JT I0)(x:((StateT×(StateT×Unit))×Unit)):cC 16 I0 Tryz.f16 F J x =
  (F 27 Ar ((x.1.1.1,(x.1.2.1.1,())),())).bind fun (y1:((Bool×Unit)×Unit)) =>
  (F 53 Ex ((x.1.1.2,(x.1.2.1.2,())),())).bind fun (y2:((Bool×Unit)×Unit)) =>
  cond y1.1.1
   (some (y2.1,()))
   (some ((false,()),())):=by kernel_rfl
theorem adx(F:FT)(J:JT Eu)(x:((ai×(ID×Unit))×Unit)):cC 18 Eu Tryz.f18 F J x =
 J AG (aX Tryz.prog 18 0) (((0:Int),()),(((x.1.1,()),((x.1.2.1,()),(((0:Int),((0:Int),(([]:List ae),((⟨#[]⟩:ByteArray),((0:Int),()))))),()))),())):=by kernel_rfl
theorem OI(F:FT)(J:JT Eu)(x:((Int×Unit)×(((ai×Unit)×((ID×Unit)×((Int×(Int×((List ae)×(ByteArray×(Int×Unit)))))×Unit)))×Unit))):gQ 18 0 Eu Tryz.f18 AG F J x =
  cond (decide (x.1.1<(((List.length x.2.1.1.1.1):Nat):Int)))
   (((bh x.2.1.1.1.1 x.1.1)).bind fun (y1:aj) =>
   cond ((y1.1.1==x.2.1.2.1.1.1)&&(y1.1.2==x.2.1.2.1.1.2))
    (((bh x.2.1.1.1.1 x.1.1)).bind fun (y2:aj) =>
    some (((y2.1,(y2.2.1,y2.2.2)),(true,())),()))
    (J AG (aX Tryz.prog 18 0) (((IntKind.wrap .i64 (x.1.1+(1:Int))),()),(((x.2.1.1.1,()),((x.2.1.2.1.1,()),((x.2.1.2.2.1.1,(x.2.1.2.2.1.2.1,(x.2.1.2.2.1.2.2.1,(x.2.1.2.2.1.2.2.2.1,x.2.1.2.2.1.2.2.2.2)))),()))),()))))
   (some (((((0:Int),(0:Int)),(([]:List ae),((⟨#[]⟩:ByteArray),(0:Int)))),(false,())),())):=by kernel_rfl
theorem ady(F:FT)(J:JT Ma)(x:((ID×Unit)×Unit)):cC 19 Ma Tryz.f19 F J x =
  cond (decide (x.1.1.1≥(1:Int)))
   (cond (decide (x.1.1.1≤(8:Int)))
    (cond (decide (x.1.1.2≥(1:Int)))
     (some (((decide (x.1.1.2≤(1048576:Int))),()),()))
     (some ((false,()),())))
    (some ((false,()),())))
   (some ((false,()),())):=by kernel_rfl
theorem adz(F:FT)(J:JT Ap)(x:((ai×(ae×Unit))×Unit)):cC 20 Ap Tryz.f20 F J x =
 J AH (aX Tryz.prog 20 0) (((0:Int),()),(((x.1.1,()),(((x.1.2.1.1,x.1.2.1.2),()),((((0:Int),(0:Int)),()),()))),())):=by kernel_rfl
theorem OJ(F:FT)(J:JT Ap)(x:((Int×Unit)×(((ai×Unit)×((ae×Unit)×((ID×Unit)×Unit)))×Unit))):gQ 20 0 Ap Tryz.f20 AH F J x =
  cond (decide (x.1.1<(((List.length x.2.1.1.1.1):Nat):Int)))
   (((bh x.2.1.1.1.1 x.1.1)).bind fun (y1:aj) =>
   (F 24 Aq ((y1.2.1,((x.2.1.2.1.1.1,x.2.1.2.1.1.2),())),())).bind fun (y2:((Int×Unit)×Unit)) =>
   cond (decide (y2.1.1≥(0:Int)))
    (((bh x.2.1.1.1.1 x.1.1)).bind fun (y3:aj) =>
    some ((y3.1,(true,())),()))
    (J AH (aX Tryz.prog 20 0) (((IntKind.wrap .i64 (x.1.1+(1:Int))),()),(((x.2.1.1.1,()),(((x.2.1.2.1.1.1,x.2.1.2.1.1.2),()),((x.2.1.2.2.1.1,()),()))),()))))
   (some ((((0:Int),(0:Int)),(false,())),())):=by kernel_rfl
theorem adA(F:FT)(J:JT Ev)(x:((ai×(ID×Unit))×Unit)):cC 21 Ev Tryz.f21 F J x =
 J AI (aX Tryz.prog 21 0) (((0:Int),()),(((x.1.1,()),((x.1.2.1,()),(((((0:Int),(0:Int)),((⟨#[]⟩:ByteArray),(0:Int))),()),()))),())):=by kernel_rfl
theorem OL(F:FT)(J:JT Ev)(x:((Int×Unit)×(((ai×Unit)×((ID×Unit)×((au×Unit)×Unit)))×Unit))):gQ 21 0 Ev Tryz.f21 AI F J x =
  cond (decide (x.1.1<(((List.length x.2.1.1.1.2):Nat):Int)))
   (((bh x.2.1.1.1.2 x.1.1)).bind fun (y1:au) =>
   cond ((y1.1.1==x.2.1.2.1.1.1)&&(y1.1.2==x.2.1.2.1.1.2))
    (((bh x.2.1.1.1.2 x.1.1)).bind fun (y2:au) =>
    some (((y2.1,y2.2),(true,())),()))
    (J AI (aX Tryz.prog 21 0) (((IntKind.wrap .i64 (x.1.1+(1:Int))),()),(((x.2.1.1.1,()),((x.2.1.2.1.1,()),(((x.2.1.2.2.1.1.1,x.2.1.2.2.1.1.2),()),()))),()))))
   (some (((((0:Int),(0:Int)),((⟨#[]⟩:ByteArray),(0:Int))),(false,())),())):=by kernel_rfl
theorem adB(F:FT)(J:JT Gj)(x:((ai×(ae×Unit))×Unit)):cC 22 Gj Tryz.f22 F J x =
  (F 54 Mc ((x.1.1,((x.1.2.1.1,x.1.2.1.2),())),())).bind fun (y1:((ae×(Bool×Unit))×Unit)) =>
  cond (not y1.1.2.1)
   (some ((([]:List ae),()),()))
   (cond (bq (List.length ([]:List ae)) (List.length ((x.1.2.1.1,x.1.2.1.2)::([]:List ae))))
    (J AJ (aX Tryz.prog 22 0) ((),(((x.1.1,()),(((x.1.2.1.1,x.1.2.1.2),()),(((y1.1.1.1,y1.1.1.2),()),()))),((([]:List ae)++((x.1.2.1.1,x.1.2.1.2)::([]:List ae))),()))))
    (none)):=by kernel_rfl
theorem OM(F:FT)(J:JT Gj)(x:(Unit×(((ai×Unit)×((ae×Unit)×((ae×Unit)×Unit)))×((List ae)×Unit)))):gQ 22 0 Gj Tryz.f22 AJ F J x =
  cond (not (((x.2.1.2.2.1.1.1.1==x.2.1.2.1.1.1.1)&&(x.2.1.2.2.1.1.1.2==x.2.1.2.1.1.1.2))&&(x.2.1.2.2.1.1.2==x.2.1.2.1.1.2)))
   (cond (decide ((((List.length x.2.2.1):Nat):Int)<(82:Int)))
    (cond (bq (List.length x.2.2.1) (List.length ((x.2.1.2.2.1.1.1,x.2.1.2.2.1.1.2)::([]:List ae))))
     ((F 54 Mc ((x.2.1.1.1,((x.2.1.2.2.1.1.1,x.2.1.2.2.1.1.2),())),())).bind fun (y2:((ae×(Bool×Unit))×Unit)) =>
     J AJ (aX Tryz.prog 22 0) ((),(((x.2.1.1.1,()),(((x.2.1.2.1.1.1,x.2.1.2.1.1.2),()),(((y2.1.1.1,y2.1.1.2),()),()))),((x.2.2.1++((x.2.1.2.2.1.1.1,x.2.1.2.2.1.1.2)::([]:List ae))),()))))
     (none))
    (some (x.2.2,())))
   (some (x.2.2,())):=by kernel_rfl
theorem adC(F:FT)(J:JT Mb)(x:((ae×Unit)×Unit)):cC 23 Mb Tryz.f23 F J x =
 some (((x.1.1.1,(IntKind.wrap .i64 ((1:Int) - x.1.1.2))),()),()):=by kernel_rfl
theorem adD(F:FT)(J:JT Aq)(x:(((List ae)×(ae×Unit))×Unit)):cC 24 Aq Tryz.f24 F J x =
 J AK (aX Tryz.prog 24 0) ((x.1.1,((0:Int),())),((((x.1.2.1.1,x.1.2.1.2),()),()),())):=by kernel_rfl
theorem ON(F:FT)(J:JT Aq)(x:(((List ae)×(Int×Unit))×(((ae×Unit)×Unit)×Unit))):gQ 24 0 Aq Tryz.f24 AK F J x =
  cond (decide (x.1.2.1<(((List.length x.1.1):Nat):Int)))
   (((bh x.1.1 x.1.2.1)).bind fun (y1:ae) =>
   cond (((y1.1.1==x.2.1.1.1.1.1)&&(y1.1.2==x.2.1.1.1.1.2))&&(y1.2==x.2.1.1.1.2))
    (some (x.1.2,()))
    (J AK (aX Tryz.prog 24 0) ((x.1.1,((IntKind.wrap .i64 (x.1.2.1+(1:Int))),())),((((x.2.1.1.1.1,x.2.1.1.1.2),()),()),()))))
   (some (((-1:Int),()),())):=by kernel_rfl
theorem adE(F:FT)(J:JT Ar)(x:((ai×(ai×Unit))×Unit)):cC 27 Ar Tryz.f27 F J x =
  cond ((((List.length x.1.1.1):Nat):Int) != (((List.length x.1.2.1.1):Nat):Int))
   (some ((false,()),()))
   (cond ((((List.length x.1.1.2):Nat):Int) != (((List.length x.1.2.1.2):Nat):Int))
    (some ((false,()),()))
    (J AL (aX Tryz.prog 27 0) (((0:Int),()),(((x.1.1,()),((x.1.2.1,()),())),())))):=by kernel_rfl
theorem OO(F:FT)(J:JT Ar)(x:((Int×Unit)×(((ai×Unit)×((ai×Unit)×Unit))×Unit))):gQ 27 0 Ar Tryz.f27 AL F J x =
  cond (decide (x.1.1<(((List.length x.2.1.1.1.1):Nat):Int)))
   (((bh x.2.1.1.1.1 x.1.1)).bind fun (y1:aj) =>
   ((bh x.2.1.2.1.1.1 x.1.1)).bind fun (y2:aj) =>
   (F 57 Ey ((y1.2.1,(y2.2.1,())),())).bind fun (y3:((Bool×Unit)×Unit)) =>
   cond (not ((y1.1.1==y2.1.1)&&(y1.1.2==y2.1.2)))
    (some ((false,()),()))
    (cond (not (y1.2.2.1==y2.2.2.1))
     (some ((false,()),()))
     (cond (y1.2.2.2 != y2.2.2.2)
      (some ((false,()),()))
      (cond (not y3.1.1)
       (some ((false,()),()))
       (J AL (aX Tryz.prog 27 0) (((IntKind.wrap .i64 (x.1.1+(1:Int))),()),(((x.2.1.1.1,()),((x.2.1.2.1.1,()),())),())))))))
   (J AM (aX Tryz.prog 27 1) (((0:Int),()),(((x.2.1.1.1,()),((x.2.1.2.1.1,()),())),()))):=by kernel_rfl
theorem OP(F:FT)(J:JT Ar)(x:((Int×Unit)×(((ai×Unit)×((ai×Unit)×Unit))×Unit))):gQ 27 1 Ar Tryz.f27 AM F J x =
  cond (decide (x.1.1<(((List.length x.2.1.1.1.2):Nat):Int)))
   (((bh x.2.1.1.1.2 x.1.1)).bind fun (y4:au) =>
   ((bh x.2.1.2.1.1.2 x.1.1)).bind fun (y5:au) =>
   cond (not (((y4.1.1==y5.1.1)&&(y4.1.2==y5.1.2))&&((y4.2.1==y5.2.1)&&(y4.2.2==y5.2.2))))
    (some ((false,()),()))
    (J AM (aX Tryz.prog 27 1) (((IntKind.wrap .i64 (x.1.1+(1:Int))),()),(((x.2.1.1.1,()),((x.2.1.2.1.1,()),())),()))))
   (some ((true,()),())):=by kernel_rfl
theorem adF(F:FT)(J:JT yf)(x:((ByteArray×Unit)×Unit)):cC 28 yf Tryz.f28 F J x =
 J AO (aX Tryz.prog 28 0) ((x.1.1,((0:Int),())),((),())):=by kernel_rfl
theorem OQ(F:FT)(J:JT yf)(x:((ByteArray×(Int×Unit))×(Unit×Unit))):gQ 28 0 yf Tryz.f28 AO F J x =
  cond (decide (x.1.2.1<(((ByteArray.size x.1.1):Nat):Int)))
   (((if 0≤x.1.2.1 then (x.1.1)[Int.toNat x.1.2.1]? else none)).bind fun (y1:UInt8) =>
   cond (decide (((UInt8.toNat y1:Nat):Int)<(32:Int)))
    (some ((false,()),()))
    (((if 0≤x.1.2.1 then (x.1.1)[Int.toNat x.1.2.1]? else none)).bind fun (y2:UInt8) =>
    cond (decide (((UInt8.toNat y2:Nat):Int) > (126:Int)))
     (some ((false,()),()))
     (J AO (aX Tryz.prog 28 0) ((x.1.1,((IntKind.wrap .i64 (x.1.2.1+(1:Int))),())),((),())))))
   (some (((decide ((((ByteArray.size x.1.1):Nat):Int)≤(16:Int))),()),())):=by kernel_rfl
theorem adG(F:FT)(J:JT As)(x:((Int×Unit)×Unit)):cC 29 As Tryz.f29 F J x =
  cond (decide (x.1.1≥(-1099511627776:Int)))
   (some (((decide (x.1.1≤(1099511627776:Int))),()),()))
   (some ((false,()),())):=by kernel_rfl
theorem Yl(F:FT)(J:JT Gk)(x:((StateT×((List bW)×Unit))×Unit)):cC 30 Gk Tryz.f30 F J x =
  (F 58 Ez (x.1.2,())).bind fun (y1:((Int×Unit)×Unit)) =>
  cond (y1.1.1 != (0:Int))
   (some ((((([]:List aj),([]:List au)),([]:List aM)),y1.1),()))
   ((F 44 Cq (((x.1.1.1,x.1.1.2),x.1.2),())).bind fun (y2:((StateT×(Int×Unit))×Unit)) =>
   some (((y2.1.1.1,y2.1.1.2),y2.1.2),())):=by kernel_rfl
theorem adH(F:FT)(J:JT Gl)(x:((ai×Unit)×Unit)):cC 31 Gl Tryz.f31 F J x =
 (F 59 EA ((x.1.1,()),())).bind fun (y1:(((List ae)×Unit)×Unit)) =>
 J vT (aX Tryz.prog 31 0) (((0:Int),()),(((x.1.1,()),()),(([]:List (List ae)),(([]:List ae),y1.1)))):=by kernel_rfl
theorem OR(F:FT)(J:JT Gl)(x:((Int×Unit)×(((ai×Unit)×Unit)×((List (List ae))×((List ae)×((List ae)×Unit)))))):gQ 31 0 Gl Tryz.f31 vT F J x =
  cond (decide (x.1.1<(((List.length x.2.2.2.2.1):Nat):Int)))
   (cond ((decide ((0:Int)≤x.1.1))&&(decide (x.1.1<(((List.length x.2.2.2.2.1):Nat):Int))))
    (((x.2.2.2.2.1)[(Int.toNat x.1.1)]?).bind fun (y2:ae) =>
    (F 24 Aq ((x.2.2.2.1,((y2.1,y2.2),())),())).bind fun (y3:((Int×Unit)×Unit)) =>
    cond (decide (y3.1.1≥(0:Int)))
     (J vT (aX Tryz.prog 31 0) (((IntKind.wrap .i64 (x.1.1+(1:Int))),()),(((x.2.1.1.1,()),()),(x.2.2.1,(x.2.2.2.1,x.2.2.2.2)))))
     (cond ((decide ((0:Int)≤x.1.1))&&(decide (x.1.1<(((List.length x.2.2.2.2.1):Nat):Int))))
      (((x.2.2.2.2.1)[(Int.toNat x.1.1)]?).bind fun (y4:ae) =>
      (F 22 Gj ((x.2.1.1.1,((y4.1,y4.2),())),())).bind fun (y5:(((List ae)×Unit)×Unit)) =>
      cond (bq (List.length x.2.2.1) (List.length (y5.1.1::([]:List (List ae)))))
       (cond (bq (List.length x.2.2.2.1) (List.length y5.1.1))
        (J vT (aX Tryz.prog 31 0) (((IntKind.wrap .i64 (x.1.1+(1:Int))),()),(((x.2.1.1.1,()),()),((x.2.2.1++(y5.1.1::([]:List (List ae)))),((x.2.2.2.1++y5.1.1),x.2.2.2.2)))))
        (none))
       (none))
      (none)))
    (none))
   (some ((x.2.2.1,()),())):=by kernel_rfl
theorem adI(F:FT)(J:JT Gm)(x:((ai×Unit)×Unit)):cC 32 Gm Tryz.f32 F J x =
 (F 56 rN ((x.1.1,()),())).bind fun (y1:(((List Int)×Unit)×Unit)) =>
 J vU (aX Tryz.prog 32 0) (((0:Int),((0:Int),())),((),y1.1)):=by kernel_rfl
theorem OS(F:FT)(J:JT Gm)(x:((Int×(Int×Unit))×(Unit×((List Int)×Unit)))):gQ 32 0 Gm Tryz.f32 vU F J x =
  cond (decide (x.1.2.1<(((List.length x.2.2.1):Nat):Int)))
   (cond ((decide ((0:Int)≤x.1.2.1))&&(decide (x.1.2.1<(((List.length x.2.2.1):Nat):Int))))
    (((x.2.2.1)[(Int.toNat x.1.2.1)]?).bind fun (y2:Int) =>
    cond (y2==x.1.2.1)
     (J vU (aX Tryz.prog 32 0) (((IntKind.wrap .i64 (x.1.1+(1:Int))),((IntKind.wrap .i64 (x.1.2.1+(1:Int))),())),((),x.2.2)))
     (J vU (aX Tryz.prog 32 0) ((x.1.1,((IntKind.wrap .i64 (x.1.2.1+(1:Int))),())),((),x.2.2))))
    (none))
   (some ((x.1.1,()),())):=by kernel_rfl
theorem Ym(F:FT)(J:JT I2)(x:(Unit×Unit)):cC 33 I2 Tryz.f33 F J x =
 some ((((([]:List aj),([]:List au)),([]:List aM)),()),()):=by kernel_rfl
theorem adJ(F:FT)(J:JT Ew)(x:(((List bW)×Unit)×Unit)):cC 34 Ew Tryz.f34 F J x =
  cond (decide ((((List.length x.1.1):Nat):Int) > (8:Int)))
   (cond (aT (List.length x.1.1) (0:Int) (8:Int))
    (some (((cut x.1.1 (0:Int) (8:Int)),()),()))
    (none))
   (some (x.1,())):=by kernel_rfl
theorem adK(F:FT)(J:JT Oz)(x:((StateT×((List bW)×Unit))×Unit)):cC 36 Oz Tryz.f36 F J x =
  (F 30 Gk (((x.1.1.1,x.1.1.2),x.1.2),())).bind fun (y1:((StateT×(Int×Unit))×Unit)) =>
  cond (y1.1.2.1 != (0:Int))
   ((F 60 EB ((x.1.1.1,()),())).bind fun (y2:((((List aj)×((List au)×Unit))×Unit)×Unit)) =>
   (F 61 Gn ((x.1.1.2,()),())).bind fun (y3:(((List aM)×Unit)×Unit)) =>
   some ((((y2.1.1.1,y2.1.1.2.1),y3.1.1),()),()))
   (some (((y1.1.1.1,y1.1.1.2),()),())):=by kernel_rfl
theorem adL(F:FT)(J:JT Co)(x:((ai×Unit)×Unit)):cC 38 Co Tryz.f38 F J x =
  cond (bq (List.length ([]:List au)) (List.length x.1.1.2))
   (J AP (aX Tryz.prog 38 0) (((0:Int),()),(((x.1.1,()),((([]:List aj),(([]:List au),())),((([]:List aj),((([]:List au)++x.1.1.2),())),()))),())))
   (none):=by kernel_rfl
theorem OT(F:FT)(J:JT Co)(x:((Int×Unit)×(((ai×Unit)×(((List aj)×((List au)×Unit))×(((List aj)×((List au)×Unit))×Unit)))×Unit))):gQ 38 0 Co Tryz.f38 AP F J x =
  cond (decide (x.1.1<(((List.length x.2.1.1.1.1):Nat):Int)))
   (((bh x.2.1.1.1.1 x.1.1)).bind fun (y1:aj) =>
   cond (bq (List.length ([]:List ae)) (List.length y1.2.1))
    (cond (bq (List.length x.2.1.2.2.1.1) (List.length ((y1.1,((([]:List ae)++y1.2.1),y1.2.2))::([]:List aj))))
     (J AP (aX Tryz.prog 38 0) (((IntKind.wrap .i64 (x.1.1+(1:Int))),()),(((x.2.1.1.1,()),((x.2.1.2.1.1,x.2.1.2.1.2),(((x.2.1.2.2.1.1++((y1.1,((([]:List ae)++y1.2.1),y1.2.2))::([]:List aj))),x.2.1.2.2.1.2),()))),())))
     (none))
    (none))
   (some (((x.2.1.2.2.1.1,x.2.1.2.2.1.2),()),())):=by kernel_rfl
theorem adM(F:FT)(J:JT vQ)(x:(((List aM)×Unit)×Unit)):cC 39 vQ Tryz.f39 F J x =
 J AQ (aX Tryz.prog 39 0) ((x.1.1,((1:Int),())),((),())):=by kernel_rfl
theorem I4(F:FT)(J:JT vQ)(x:(((List aM)×(Int×Unit))×(Unit×Unit))):gQ 39 0 vQ Tryz.f39 AQ F J x =
  cond (decide (x.1.2.1<(((List.length x.1.1):Nat):Int)))
   (((bh x.1.1 (IntKind.wrap .i64 (x.1.2.1 - (1:Int))))).bind fun (y1:aM) =>
   ((bh x.1.1 x.1.2.1)).bind fun (y2:aM) =>
   (F 62 Md (((y1.1.1,y1.1.2),((y2.1.1,y2.1.2),())),())).bind fun (y3:((Int×Unit)×Unit)) =>
   cond (decide (y3.1.1≥(0:Int)))
    (some ((false,()),()))
    (J AQ (aX Tryz.prog 39 0) ((x.1.1,((IntKind.wrap .i64 (x.1.2.1+(1:Int))),())),((),()))))
   (some (((decide ((((List.length x.1.1):Nat):Int)≤(400:Int))),()),())):=by kernel_rfl
theorem adN(F:FT)(J:JT yg)(x:((ai×Unit)×Unit)):cC 40 yg Tryz.f40 F J x =
  (F 63 pJ ((x.1.1,()),())).bind fun (y1:((Int×Unit)×Unit)) =>
  cond (y1.1.1 != (0:Int))
   (some (y1.1,()))
   ((F 64 OD ((x.1.1,()),())).bind fun (y2:((Int×Unit)×Unit)) =>
   cond (y2.1.1 != (0:Int))
    (some (((11:Int),()),()))
    (some (((0:Int),()),()))):=by kernel_rfl
theorem adO(F:FT)(J:JT OC)(x:((Int×Unit)×Unit)):cC 42 OC Tryz.f42 F J x =
 some (((((1:Int),(((1:Int),x.1.1),(((0:Int),(0:Int)),(((0:Int),(0:Int)),((((0:Int),(0:Int)),(((0:Int),(0:Int)),(0:Int))),((((0:Int),(0:Int)),(((0:Int),(0:Int)),(0:Int))),(false,((⟨#[]⟩:ByteArray),(0:Int)))))))))::([]:List bW)),()),()):=by kernel_rfl
theorem Yn(F:FT)(J:JT Cp)(x:((bW×Unit)×Unit)):cC 43 Cp Tryz.f43 F J x =
  (F 65 Gp (((x.1.1.1,(x.1.1.2.1,(x.1.1.2.2.1,(x.1.1.2.2.2.1,((x.1.1.2.2.2.2.1.1,(x.1.1.2.2.2.2.1.2.1,x.1.1.2.2.2.2.1.2.2)),((x.1.1.2.2.2.2.2.1.1,(x.1.1.2.2.2.2.2.1.2.1,x.1.1.2.2.2.2.2.1.2.2)),(x.1.1.2.2.2.2.2.2.1,x.1.1.2.2.2.2.2.2.2))))))),()),())).bind fun (y1:((bW×(Int×Unit))×Unit)) =>
  cond (not ((y1.1.1.1==x.1.1.1)&&(((y1.1.1.2.1.1==x.1.1.2.1.1)&&(y1.1.1.2.1.2==x.1.1.2.1.2))&&(((y1.1.1.2.2.1.1==x.1.1.2.2.1.1)&&(y1.1.1.2.2.1.2==x.1.1.2.2.1.2))&&(((y1.1.1.2.2.2.1.1==x.1.1.2.2.2.1.1)&&(y1.1.1.2.2.2.1.2==x.1.1.2.2.2.1.2))&&((((y1.1.1.2.2.2.2.1.1.1==x.1.1.2.2.2.2.1.1.1)&&(y1.1.1.2.2.2.2.1.1.2==x.1.1.2.2.2.2.1.1.2))&&(((y1.1.1.2.2.2.2.1.2.1.1==x.1.1.2.2.2.2.1.2.1.1)&&(y1.1.1.2.2.2.2.1.2.1.2==x.1.1.2.2.2.2.1.2.1.2))&&(y1.1.1.2.2.2.2.1.2.2==x.1.1.2.2.2.2.1.2.2)))&&((((y1.1.1.2.2.2.2.2.1.1.1==x.1.1.2.2.2.2.2.1.1.1)&&(y1.1.1.2.2.2.2.2.1.1.2==x.1.1.2.2.2.2.2.1.1.2))&&(((y1.1.1.2.2.2.2.2.1.2.1.1==x.1.1.2.2.2.2.2.1.2.1.1)&&(y1.1.1.2.2.2.2.2.1.2.1.2==x.1.1.2.2.2.2.2.1.2.1.2))&&(y1.1.1.2.2.2.2.2.1.2.2==x.1.1.2.2.2.2.2.1.2.2)))&&((y1.1.1.2.2.2.2.2.2.1==x.1.1.2.2.2.2.2.2.1)&&((y1.1.1.2.2.2.2.2.2.2.1==x.1.1.2.2.2.2.2.2.2.1)&&(y1.1.1.2.2.2.2.2.2.2.2==x.1.1.2.2.2.2.2.2.2.2))))))))))
   (some (((1:Int),()),()))
   (some (y1.1.2,())):=by kernel_rfl
theorem Yo(F:FT)(J:JT Cq)(x:((StateT×((List bW)×Unit))×Unit)):cC 44 Cq Tryz.f44 F J x =
 (F 60 EB ((x.1.1.1,()),())).bind fun (y1:((((List aj)×((List au)×Unit))×Unit)×Unit)) =>
 (F 61 Gn ((x.1.1.2,()),())).bind fun (y2:(((List aM)×Unit)×Unit)) =>
 J AR (aX Tryz.prog 44 0) ((x.1.2.1,((((List.length x.1.2.1):Nat):Int),((0:Int),()))),(((([]:List aj),(([]:List au),(([]:List aM),()))),((y1.1.1.1,(y1.1.1.2.1,y2.1)),())),())):=by kernel_rfl
theorem ED(F:FT)(J:JT Cq)(x:(((List bW)×(Int×(Int×Unit)))×((aG×(aG×Unit))×Unit))):gQ 44 0 Cq Tryz.f44 AR F J x =
  cond (decide (x.1.2.2.1<x.1.2.1))
   (((bh x.1.1 x.1.2.2.1)).bind fun (y3:bW) =>
   (F 66 yh (((y3.1,(y3.2.1,(y3.2.2.1,(y3.2.2.2.1,((y3.2.2.2.2.1.1,(y3.2.2.2.2.1.2.1,y3.2.2.2.2.1.2.2)),((y3.2.2.2.2.2.1.1,(y3.2.2.2.2.2.1.2.1,y3.2.2.2.2.2.1.2.2)),(y3.2.2.2.2.2.2.1,y3.2.2.2.2.2.2.2))))))),()),((x.2.1.2.1.1,(x.2.1.2.1.2.1,x.2.1.2.1.2.2)),()))).bind fun (y4:((Int×Unit)×(aG×Unit))) =>
   cond (y4.1.1 != (0:Int))
    (some ((((([]:List aj),([]:List au)),([]:List aM)),y4.1),()))
    (J AR (aX Tryz.prog 44 0) ((x.1.1,(x.1.2.1,((IntKind.wrap .i64 (x.1.2.2.1+(1:Int))),()))),(((x.2.1.1.1,(x.2.1.1.2.1,x.2.1.1.2.2)),((y4.2.1.1,(y4.2.1.2.1,y4.2.1.2.2)),())),()))))
   (some ((((x.2.1.2.1.1,x.2.1.2.1.2.1),x.2.1.2.1.2.2.1),((0:Int),())),())):=by kernel_rfl
theorem adP(F:FT)(J:JT Ex)(x:(((List aM)×((List aM)×Unit))×Unit)):cC 53 Ex Tryz.f53 F J x =
  cond ((((List.length x.1.1):Nat):Int) != (((List.length x.1.2.1):Nat):Int))
   (some ((false,()),()))
   (J AS (aX Tryz.prog 53 0) ((x.1.1,(x.1.2.1,((0:Int),()))),((),()))):=by kernel_rfl
theorem OU(F:FT)(J:JT Ex)(x:(((List aM)×((List aM)×(Int×Unit)))×(Unit×Unit))):gQ 53 0 Ex Tryz.f53 AS F J x =
  cond (decide (x.1.2.2.1<(((List.length x.1.1):Nat):Int)))
   (((bh x.1.1 x.1.2.2.1)).bind fun (y1:aM) =>
   ((bh x.1.2.1 x.1.2.2.1)).bind fun (y2:aM) =>
   cond (not ((((y1.1.1.1==y2.1.1.1)&&(y1.1.1.2==y2.1.1.2))&&(y1.1.2==y2.1.2))&&(((y1.2.1.1==y2.2.1.1)&&(y1.2.1.2==y2.2.1.2))&&(y1.2.2==y2.2.2))))
    (some ((false,()),()))
    (J AS (aX Tryz.prog 53 0) ((x.1.1,(x.1.2.1,((IntKind.wrap .i64 (x.1.2.2.1+(1:Int))),()))),((),()))))
   (some ((true,()),())):=by kernel_rfl
end Go.Vs
set_option maxRecDepth 1000000
set_option maxHeartbeats 0
namespace Go.Vs
open Go.Proofs
theorem adQ(F:FT)(J:JT Mc)(x:((ai×(ae×Unit))×Unit)):cC 54 Mc Tryz.f54 F J x =
  (F 20 Ap ((x.1.1,((x.1.2.1.1,x.1.2.1.2),())),())).bind fun (y1:((ID×(Bool×Unit))×Unit)) =>
  cond (not y1.1.2.1)
   (some (((((0:Int),(0:Int)),(0:Int)),(false,())),()))
   ((F 23 Mb (((x.1.2.1.1,x.1.2.1.2),()),())).bind fun (y2:((ae×Unit)×Unit)) =>
   (F 78 OE ((x.1.1,((y2.1.1.1,y2.1.1.2),())),())).bind fun (y3:((ae×(Bool×Unit))×Unit)) =>
   some (((y3.1.1.1,y3.1.1.2),y3.1.2),())):=by kernel_rfl
theorem adR(F:FT)(J:JT Cr)(x:((ai×(ID×Unit))×Unit)):cC 55 Cr Tryz.f55 F J x =
 J AT (aX Tryz.prog 55 0) (((0:Int),()),(((x.1.1,()),((x.1.2.1,()),())),())):=by kernel_rfl
theorem OV(F:FT)(J:JT Cr)(x:((Int×Unit)×(((ai×Unit)×((ID×Unit)×Unit))×Unit))):gQ 55 0 Cr Tryz.f55 AT F J x =
  cond (decide (x.1.1<(((List.length x.2.1.1.1.1):Nat):Int)))
   (((bh x.2.1.1.1.1 x.1.1)).bind fun (y1:aj) =>
   cond ((y1.1.1==x.2.1.2.1.1.1)&&(y1.1.2==x.2.1.2.1.1.2))
    (some (x.1,()))
    (J AT (aX Tryz.prog 55 0) (((IntKind.wrap .i64 (x.1.1+(1:Int))),()),(((x.2.1.1.1,()),((x.2.1.2.1.1,()),())),()))))
   (some (((-1:Int),()),())):=by kernel_rfl
theorem adS(F:FT)(J:JT rN)(x:((ai×Unit)×Unit)):cC 56 rN Tryz.f56 F J x =
 J AU (aX Tryz.prog 56 0) (((0:Int),()),(((x.1.1,()),()),(([]:List Int),()))):=by kernel_rfl
theorem OW(F:FT)(J:JT rN)(x:((Int×Unit)×(((ai×Unit)×Unit)×((List Int)×Unit)))):gQ 56 0 rN Tryz.f56 AU F J x =
  cond (decide (x.1.1<(((List.length x.2.1.1.1.1):Nat):Int)))
   (cond (bq (List.length x.2.2.1) (List.length (x.1.1::([]:List Int))))
    (J AU (aX Tryz.prog 56 0) (((IntKind.wrap .i64 (x.1.1+(1:Int))),()),(((x.2.1.1.1,()),()),((x.2.2.1++(x.1.1::([]:List Int))),()))))
    (none))
   (J vW (aX Tryz.prog 56 1) (((0:Int),()),(((x.2.1.1.1,()),()),x.2.2))):=by kernel_rfl
theorem OX(F:FT)(J:JT rN)(x:((Int×Unit)×(((ai×Unit)×Unit)×((List Int)×Unit)))):gQ 56 1 rN Tryz.f56 vW F J x =
  cond (decide (x.1.1<(((List.length x.2.1.1.1.1):Nat):Int)))
   (J qv (aX Tryz.prog 56 2) ((x.1.1,((0:Int),())),(((x.2.1.1.1,()),()),x.2.2)))
   (some (x.2.2,())):=by kernel_rfl
theorem OY(F:FT)(J:JT rN)(x:((Int×(Int×Unit))×(((ai×Unit)×Unit)×((List Int)×Unit)))):gQ 56 2 rN Tryz.f56 qv F J x =
  cond (decide (x.1.2.1<(((List.length x.2.1.1.1.2):Nat):Int)))
   (((bh x.2.1.1.1.2 x.1.2.1)).bind fun (y1:au) =>
   (F 20 Ap ((x.2.1.1.1,((y1.1,(0:Int)),())),())).bind fun (y2:((ID×(Bool×Unit))×Unit)) =>
   ((bh x.2.1.1.1.2 x.1.2.1)).bind fun (y3:au) =>
   (F 20 Ap ((x.2.1.1.1,((y3.1,(1:Int)),())),())).bind fun (y4:((ID×(Bool×Unit))×Unit)) =>
   (F 55 Cr ((x.2.1.1.1,(y2.1.1,())),())).bind fun (y5:((Int×Unit)×Unit)) =>
   (F 55 Cr ((x.2.1.1.1,(y4.1.1,())),())).bind fun (y6:((Int×Unit)×Unit)) =>
   cond (decide (y5.1.1≥(0:Int)))
    (cond (decide (y6.1.1≥(0:Int)))
     (cond ((decide ((0:Int)≤y5.1.1))&&(decide (y5.1.1<(((List.length x.2.2.1):Nat):Int))))
      (((x.2.2.1)[(Int.toNat y5.1.1)]?).bind fun (y7:Int) =>
      cond ((decide ((0:Int)≤y6.1.1))&&(decide (y6.1.1<(((List.length x.2.2.1):Nat):Int))))
       (((x.2.2.1)[(Int.toNat y6.1.1)]?).bind fun (y8:Int) =>
       cond ((decide ((0:Int)≤y5.1.1))&&(decide (y5.1.1<(((List.length x.2.2.1):Nat):Int))))
        (((x.2.2.1)[(Int.toNat y5.1.1)]?).bind fun (y9:Int) =>
        cond ((decide ((0:Int)≤y6.1.1))&&(decide (y6.1.1<(((List.length (List.set x.2.2.1 (Int.toNat y5.1.1) (min y7 y8:Int))):Nat):Int))))
         ((((List.set x.2.2.1 (Int.toNat y5.1.1) (min y7 y8:Int)))[(Int.toNat y6.1.1)]?).bind fun (pQ:Int) =>
         J qv (aX Tryz.prog 56 2) ((x.1.1,((IntKind.wrap .i64 (x.1.2.1+(1:Int))),())),(((x.2.1.1.1,()),()),((List.set (List.set x.2.2.1 (Int.toNat y5.1.1) (min y7 y8:Int)) (Int.toNat y6.1.1) (min y7 y8:Int)),()))))
         (none))
        (none))
       (none))
      (none))
     (J qv (aX Tryz.prog 56 2) ((x.1.1,((IntKind.wrap .i64 (x.1.2.1+(1:Int))),())),(((x.2.1.1.1,()),()),x.2.2))))
    (J qv (aX Tryz.prog 56 2) ((x.1.1,((IntKind.wrap .i64 (x.1.2.1+(1:Int))),())),(((x.2.1.1.1,()),()),x.2.2))))
   (J vW (aX Tryz.prog 56 1) (((IntKind.wrap .i64 (x.1.1+(1:Int))),()),(((x.2.1.1.1,()),()),x.2.2))):=by kernel_rfl
theorem adT(F:FT)(J:JT Ey)(x:(((List ae)×((List ae)×Unit))×Unit)):cC 57 Ey Tryz.f57 F J x =
  cond ((((List.length x.1.1):Nat):Int) != (((List.length x.1.2.1):Nat):Int))
   (some ((false,()),()))
   (J AW (aX Tryz.prog 57 0) ((x.1.1,(x.1.2.1,((0:Int),()))),((),()))):=by kernel_rfl
theorem OZ(F:FT)(J:JT Ey)(x:(((List ae)×((List ae)×(Int×Unit)))×(Unit×Unit))):gQ 57 0 Ey Tryz.f57 AW F J x =
  cond (decide (x.1.2.2.1<(((List.length x.1.1):Nat):Int)))
   (((bh x.1.1 x.1.2.2.1)).bind fun (y1:ae) =>
   ((bh x.1.2.1 x.1.2.2.1)).bind fun (y2:ae) =>
   cond (not (((y1.1.1==y2.1.1)&&(y1.1.2==y2.1.2))&&(y1.2==y2.2)))
    (some ((false,()),()))
    (J AW (aX Tryz.prog 57 0) ((x.1.1,(x.1.2.1,((IntKind.wrap .i64 (x.1.2.2.1+(1:Int))),()))),((),()))))
   (some ((true,()),())):=by kernel_rfl
theorem Yp(F:FT)(J:JT Ez)(x:(((List bW)×Unit)×Unit)):cC 58 Ez Tryz.f58 F J x =
  cond ((((List.length x.1.1):Nat):Int)==(0:Int))
   (some (((3:Int),()),()))
   (cond (decide ((((List.length x.1.1):Nat):Int) > (6:Int)))
    (some (((3:Int),()),()))
    (J AX (aX Tryz.prog 58 0) ((x.1.1,((((List.length x.1.1):Nat):Int),((0:Int),()))),((),())))):=by kernel_rfl
theorem EE(F:FT)(J:JT Ez)(x:(((List bW)×(Int×(Int×Unit)))×(Unit×Unit))):gQ 58 0 Ez Tryz.f58 AX F J x =
  cond (decide (x.1.2.2.1<x.1.2.1))
   (((bh x.1.1 x.1.2.2.1)).bind fun (y1:bW) =>
   (F 43 Cp (((y1.1,(y1.2.1,(y1.2.2.1,(y1.2.2.2.1,((y1.2.2.2.2.1.1,(y1.2.2.2.2.1.2.1,y1.2.2.2.2.1.2.2)),((y1.2.2.2.2.2.1.1,(y1.2.2.2.2.2.1.2.1,y1.2.2.2.2.2.1.2.2)),(y1.2.2.2.2.2.2.1,y1.2.2.2.2.2.2.2))))))),()),())).bind fun (y2:((Int×Unit)×Unit)) =>
   cond (y2.1.1 != (0:Int))
    (some (y2.1,()))
    (J AX (aX Tryz.prog 58 0) ((x.1.1,(x.1.2.1,((IntKind.wrap .i64 (x.1.2.2.1+(1:Int))),()))),((),()))))
   (some (((0:Int),()),())):=by kernel_rfl
theorem adU(F:FT)(J:JT EA)(x:((ai×Unit)×Unit)):cC 59 EA Tryz.f59 F J x =
 J AY (aX Tryz.prog 59 0) (((0:Int),()),(((x.1.1,()),()),(([]:List ae),()))):=by kernel_rfl
theorem O0(F:FT)(J:JT EA)(x:((Int×Unit)×(((ai×Unit)×Unit)×((List ae)×Unit)))):gQ 59 0 EA Tryz.f59 AY F J x =
  cond (decide (x.1.1<(((List.length x.2.1.1.1.2):Nat):Int)))
   (((bh x.2.1.1.1.2 x.1.1)).bind fun (y1:au) =>
   ((bh x.2.1.1.1.2 x.1.1)).bind fun (y2:au) =>
   cond (bq (List.length x.2.2.1) (List.length ((y1.1,(0:Int))::((y2.1,(1:Int))::([]:List ae)))))
    (J AY (aX Tryz.prog 59 0) (((IntKind.wrap .i64 (x.1.1+(1:Int))),()),(((x.2.1.1.1,()),()),((x.2.2.1++((y1.1,(0:Int))::((y2.1,(1:Int))::([]:List ae)))),()))))
    (none))
   (some (x.2.2,())):=by kernel_rfl
theorem adV(F:FT)(J:JT EB)(x:((ai×Unit)×Unit)):cC 60 EB Tryz.f60 F J x =
 (F 79 Me ((x.1.1.1,()),())).bind fun (y1:(((List aj)×Unit)×Unit)) =>
 (F 80 Mf ((x.1.1.2,()),())).bind fun (y2:(((List au)×Unit)×Unit)) =>
 J AZ (aX Tryz.prog 60 0) (((((List.length y1.1.1):Nat):Int),((0:Int),())),(((([]:List aj),(([]:List au),())),((y1.1.1,y2.1),())),())):=by kernel_rfl
theorem O2(F:FT)(J:JT EB)(x:((Int×(Int×Unit))×((((List aj)×((List au)×Unit))×(((List aj)×((List au)×Unit))×Unit))×Unit))):gQ 60 0 EB Tryz.f60 AZ F J x =
  cond (decide (x.1.2.1<x.1.1))
   (cond ((decide ((0:Int)≤x.1.2.1))&&(decide (x.1.2.1<(((List.length x.2.1.2.1.1):Nat):Int))))
    (((x.2.1.2.1.1)[(Int.toNat x.1.2.1)]?).bind fun (y3:aj) =>
    (F 81 yi ((y3.2.1,()),())).bind fun (y4:(((List ae)×Unit)×Unit)) =>
    cond ((decide ((0:Int)≤x.1.2.1))&&(decide (x.1.2.1<(((List.length x.2.1.2.1.1):Nat):Int))))
     (((x.2.1.2.1.1)[(Int.toNat x.1.2.1)]?).bind fun (y5:aj) =>
     J AZ (aX Tryz.prog 60 0) ((x.1.1,((IntKind.wrap .i64 (x.1.2.1+(1:Int))),())),(((x.2.1.1.1,x.2.1.1.2),(((List.set x.2.1.2.1.1 (Int.toNat x.1.2.1) (y5.1,(y4.1.1,y5.2.2))),x.2.1.2.1.2),())),())))
     (none))
    (none))
   (some (((x.2.1.2.1.1,x.2.1.2.1.2),()),())):=by kernel_rfl
theorem adW(F:FT)(J:JT Gn)(x:(((List aM)×Unit)×Unit)):cC 61 Gn Tryz.f61 F J x =
  cond (List.isEmpty x.1.1)
   (rK 2 fun (j1:Nat) =>
   cond ((j1==0)==true)
    (some ((([]:List aM),()),()))
    (cond (bq (List.length ([]:List aM)) (List.length x.1.1))
     (some (((([]:List aM)++x.1.1),()),()))
     (none)))
   (cond (bq (List.length ([]:List aM)) (List.length x.1.1))
    (some (((([]:List aM)++x.1.1),()),()))
    (none)):=by kernel_rfl
theorem adX(F:FT)(J:JT Md)(x:((ae×(ae×Unit))×Unit)):cC 62 Md Tryz.f62 F J x =
  (F 69 I3 ((x.1.1.1,(x.1.2.1.1,())),())).bind fun (y1:((Int×Unit)×Unit)) =>
  cond (y1.1.1 != (0:Int))
   (some (y1.1,()))
   (cond (decide (x.1.1.2<x.1.2.1.2))
    (some (((-1:Int),()),()))
    (cond (decide (x.1.1.2 > x.1.2.1.2))
     (some (((1:Int),()),()))
     (some (((0:Int),()),())))):=by kernel_rfl
theorem adY(F:FT)(J:JT pJ)(x:((ai×Unit)×Unit)):cC 63 pJ Tryz.f63 F J x =
  cond (decide ((((List.length x.1.1.1):Nat):Int) > (24:Int)))
   (some (((3:Int),()),()))
   (cond (decide ((((List.length x.1.1.2):Nat):Int) > (40:Int)))
    (some (((3:Int),()),()))
    ((F 82 yj ((x.1.1,()),())).bind fun (y1:(((List ID)×Unit)×Unit)) =>
    cond (aT (List.length y1.1.1) (0:Int) (((List.length x.1.1.1):Nat):Int))
     ((F 83 uo (((cut y1.1.1 (0:Int) (((List.length x.1.1.1):Nat):Int)),()),())).bind fun (y2:((Bool×Unit)×Unit)) =>
     cond (aT (List.length y1.1.1) (((List.length x.1.1.1):Nat):Int) (((List.length y1.1.1):Nat):Int))
      ((F 83 uo (((cut y1.1.1 (((List.length x.1.1.1):Nat):Int) (((List.length y1.1.1):Nat):Int)),()),())).bind fun (y3:((Bool×Unit)×Unit)) =>
      cond (not y2.1.1)
       (some (((10:Int),()),()))
       (cond (not y3.1.1)
        (some (((10:Int),()),()))
        ((F 84 kD ((x.1.1,()),())).bind fun (y4:((Bool×Unit)×Unit)) =>
        cond (not y4.1.1)
         (some (((10:Int),()),()))
         (J oM (aX Tryz.prog 63 0) (((((List.length x.1.1.1):Nat):Int),(true,(true,((0:Int),())))),(((x.1.1,()),()),()))))))
      (none))
     (none))):=by kernel_rfl
theorem O3(F:FT)(J:JT pJ)(x:((Int×(Bool×(Bool×(Int×Unit))))×(((ai×Unit)×Unit)×Unit))):gQ 63 0 pJ Tryz.f63 oM F J x =
  cond (decide (x.1.2.2.2.1<x.1.1))
   (cond x.1.2.1
    (((bh x.2.1.1.1.1 x.1.2.2.2.1)).bind fun (y5:aj) =>
    (F 28 yf ((y5.2.2.1,()),())).bind fun (y6:((Bool×Unit)×Unit)) =>
    cond x.1.2.2.1
     (((bh x.2.1.1.1.1 x.1.2.2.2.1)).bind fun (y7:aj) =>
     (F 29 As ((y7.2.2.2,()),())).bind fun (y8:((Bool×Unit)×Unit)) =>
     J oM (aX Tryz.prog 63 0) ((x.1.1,(y6.1.1,(y8.1.1,((IntKind.wrap .i64 (x.1.2.2.2.1+(1:Int))),())))),(((x.2.1.1.1,()),()),())))
     (J oM (aX Tryz.prog 63 0) ((x.1.1,(y6.1.1,(false,((IntKind.wrap .i64 (x.1.2.2.2.1+(1:Int))),())))),(((x.2.1.1.1,()),()),()))))
    (cond x.1.2.2.1
     (((bh x.2.1.1.1.1 x.1.2.2.2.1)).bind fun (y9:aj) =>
     (F 29 As ((y9.2.2.2,()),())).bind fun (pQ:((Bool×Unit)×Unit)) =>
     J oM (aX Tryz.prog 63 0) ((x.1.1,(false,(pQ.1.1,((IntKind.wrap .i64 (x.1.2.2.2.1+(1:Int))),())))),(((x.2.1.1.1,()),()),())))
     (J oM (aX Tryz.prog 63 0) ((x.1.1,(false,(false,((IntKind.wrap .i64 (x.1.2.2.2.1+(1:Int))),())))),(((x.2.1.1.1,()),()),())))))
   (J oO (aX Tryz.prog 63 1) ((x.1.2.1,(x.1.2.2.1,((0:Int),()))),(((x.2.1.1.1,()),()),()))):=by kernel_rfl
theorem O4(F:FT)(J:JT pJ)(x:((Bool×(Bool×(Int×Unit)))×(((ai×Unit)×Unit)×Unit))):gQ 63 1 pJ Tryz.f63 oO F J x =
  cond (decide (x.1.2.2.1<(((List.length x.2.1.1.1.2):Nat):Int)))
   (cond x.1.1
    (((bh x.2.1.1.1.2 x.1.2.2.1)).bind fun (mn:au) =>
    (F 28 yf ((mn.2.1,()),())).bind fun (pz:((Bool×Unit)×Unit)) =>
    cond x.1.2.1
     (((bh x.2.1.1.1.2 x.1.2.2.1)).bind fun (lA:au) =>
     (F 29 As ((lA.2.2,()),())).bind fun (Dd:((Bool×Unit)×Unit)) =>
     J oO (aX Tryz.prog 63 1) ((pz.1.1,(Dd.1.1,((IntKind.wrap .i64 (x.1.2.2.1+(1:Int))),()))),(((x.2.1.1.1,()),()),())))
     (J oO (aX Tryz.prog 63 1) ((pz.1.1,(false,((IntKind.wrap .i64 (x.1.2.2.1+(1:Int))),()))),(((x.2.1.1.1,()),()),()))))
    (cond x.1.2.1
     (((bh x.2.1.1.1.2 x.1.2.2.1)).bind fun (uJ:au) =>
     (F 29 As ((uJ.2.2,()),())).bind fun (TT:((Bool×Unit)×Unit)) =>
     J oO (aX Tryz.prog 63 1) ((false,(TT.1.1,((IntKind.wrap .i64 (x.1.2.2.1+(1:Int))),()))),(((x.2.1.1.1,()),()),())))
     (J oO (aX Tryz.prog 63 1) ((false,(false,((IntKind.wrap .i64 (x.1.2.2.1+(1:Int))),()))),(((x.2.1.1.1,()),()),())))))
   (cond (not x.1.1)
    (some (((4:Int),()),()))
    (cond (not x.1.2.1)
     (some (((1:Int),()),()))
     (some (((0:Int),()),())))):=by kernel_rfl
theorem adZ(F:FT)(J:JT OD)(x:((ai×Unit)×Unit)):cC 64 OD Tryz.f64 F J x =
  (F 85 Gq ((x.1.1,()),())).bind fun (y1:((Int×(Int×(Int×(Int×Unit))))×Unit)) =>
  cond ((2:Int)==(0:Int))
   (none)
   (some (((IntKind.wrap .i64 (Int.tdiv (IntKind.wrap .i64 ((IntKind.wrap .i64 ((IntKind.wrap .i64 ((IntKind.wrap .i64 ((2:Int) * y1.1.2.2.2.1)) - y1.1.1))+y1.1.2.1)) - y1.1.2.2.1)) (2:Int))),()),())):=by kernel_rfl
theorem Vk(F:FT)(J:JT Gp)(x:((bW×Unit)×Unit)):cC 65 Gp Tryz.f65 F J x =
  (F 86 qo ((x.1.1.2.1,()),())).bind fun (y1:((Bool×Unit)×Unit)) =>
  cond (x.1.1.1==(1:Int))
   (cond (x.1.1.1==(1:Int))
    (cond (not y1.1.1)
     (some (((x.1.1.1,(x.1.1.2.1,(((0:Int),(0:Int)),(((0:Int),(0:Int)),((((0:Int),(0:Int)),(((0:Int),(0:Int)),(0:Int))),((((0:Int),(0:Int)),(((0:Int),(0:Int)),(0:Int))),(false,((⟨#[]⟩:ByteArray),(0:Int))))))))),((1:Int),())),()))
     (some (((x.1.1.1,(x.1.1.2.1,(((0:Int),(0:Int)),(((0:Int),(0:Int)),((((0:Int),(0:Int)),(((0:Int),(0:Int)),(0:Int))),((((0:Int),(0:Int)),(((0:Int),(0:Int)),(0:Int))),(false,((⟨#[]⟩:ByteArray),(0:Int))))))))),((0:Int),())),())))
    (cond (x.1.1.1==(6:Int))
     (cond y1.1.1
      ((F 86 qo ((x.1.1.2.2.2.1,()),())).bind fun (y2:((Bool×Unit)×Unit)) =>
      cond (not y2.1.1)
       (some (((x.1.1.1,(x.1.1.2.1,(((0:Int),(0:Int)),(x.1.1.2.2.2.1,((((0:Int),(0:Int)),(((0:Int),(0:Int)),(0:Int))),((((0:Int),(0:Int)),(((0:Int),(0:Int)),(0:Int))),(false,((⟨#[]⟩:ByteArray),(0:Int))))))))),((1:Int),())),()))
       (some (((x.1.1.1,(x.1.1.2.1,(((0:Int),(0:Int)),(x.1.1.2.2.2.1,((((0:Int),(0:Int)),(((0:Int),(0:Int)),(0:Int))),((((0:Int),(0:Int)),(((0:Int),(0:Int)),(0:Int))),(false,((⟨#[]⟩:ByteArray),(0:Int))))))))),((0:Int),())),())))
      (some (((x.1.1.1,(x.1.1.2.1,(((0:Int),(0:Int)),(x.1.1.2.2.2.1,((((0:Int),(0:Int)),(((0:Int),(0:Int)),(0:Int))),((((0:Int),(0:Int)),(((0:Int),(0:Int)),(0:Int))),(false,((⟨#[]⟩:ByteArray),(0:Int))))))))),((1:Int),())),())))
     (cond (x.1.1.1==(3:Int))
      (cond y1.1.1
       ((F 87 Cs (((x.1.1.2.2.2.2.1.1,(x.1.1.2.2.2.2.1.2.1,x.1.1.2.2.2.2.1.2.2)),()),())).bind fun (y3:((Bool×Unit)×Unit)) =>
       cond y3.1.1
        ((F 87 Cs (((x.1.1.2.2.2.2.2.1.1,(x.1.1.2.2.2.2.2.1.2.1,x.1.1.2.2.2.2.2.1.2.2)),()),())).bind fun (y4:((Bool×Unit)×Unit)) =>
        cond (not y4.1.1)
         (some (((x.1.1.1,(x.1.1.2.1,(((0:Int),(0:Int)),(((0:Int),(0:Int)),((x.1.1.2.2.2.2.1.1,(x.1.1.2.2.2.2.1.2.1,x.1.1.2.2.2.2.1.2.2)),((x.1.1.2.2.2.2.2.1.1,(x.1.1.2.2.2.2.2.1.2.1,x.1.1.2.2.2.2.2.1.2.2)),(false,((⟨#[]⟩:ByteArray),(0:Int))))))))),((1:Int),())),()))
         (some (((x.1.1.1,(x.1.1.2.1,(((0:Int),(0:Int)),(((0:Int),(0:Int)),((x.1.1.2.2.2.2.1.1,(x.1.1.2.2.2.2.1.2.1,x.1.1.2.2.2.2.1.2.2)),((x.1.1.2.2.2.2.2.1.1,(x.1.1.2.2.2.2.2.1.2.1,x.1.1.2.2.2.2.2.1.2.2)),(false,((⟨#[]⟩:ByteArray),(0:Int))))))))),((0:Int),())),())))
        (some (((x.1.1.1,(x.1.1.2.1,(((0:Int),(0:Int)),(((0:Int),(0:Int)),((x.1.1.2.2.2.2.1.1,(x.1.1.2.2.2.2.1.2.1,x.1.1.2.2.2.2.1.2.2)),((x.1.1.2.2.2.2.2.1.1,(x.1.1.2.2.2.2.2.1.2.1,x.1.1.2.2.2.2.2.1.2.2)),(false,((⟨#[]⟩:ByteArray),(0:Int))))))))),((1:Int),())),())))
       (some (((x.1.1.1,(x.1.1.2.1,(((0:Int),(0:Int)),(((0:Int),(0:Int)),((x.1.1.2.2.2.2.1.1,(x.1.1.2.2.2.2.1.2.1,x.1.1.2.2.2.2.1.2.2)),((x.1.1.2.2.2.2.2.1.1,(x.1.1.2.2.2.2.2.1.2.1,x.1.1.2.2.2.2.2.1.2.2)),(false,((⟨#[]⟩:ByteArray),(0:Int))))))))),((1:Int),())),())))
      (cond (x.1.1.1==(5:Int))
       (cond y1.1.1
        ((F 86 qo ((x.1.1.2.2.1,()),())).bind fun (y5:((Bool×Unit)×Unit)) =>
        cond y5.1.1
         ((F 86 qo ((x.1.1.2.2.2.1,()),())).bind fun (y6:((Bool×Unit)×Unit)) =>
         cond y6.1.1
          (cond (not ((eI .andNot .i64 x.1.1.2.2.2.2.2.2.2.2 (3:Int))==(0:Int)))
           (some (((x.1.1.1,(x.1.1.2.1,(x.1.1.2.2.1,(x.1.1.2.2.2.1,((((0:Int),(0:Int)),(((0:Int),(0:Int)),(0:Int))),((((0:Int),(0:Int)),(((0:Int),(0:Int)),(0:Int))),(false,((⟨#[]⟩:ByteArray),x.1.1.2.2.2.2.2.2.2.2)))))))),((1:Int),())),()))
           (some (((x.1.1.1,(x.1.1.2.1,(x.1.1.2.2.1,(x.1.1.2.2.2.1,((((0:Int),(0:Int)),(((0:Int),(0:Int)),(0:Int))),((((0:Int),(0:Int)),(((0:Int),(0:Int)),(0:Int))),(false,((⟨#[]⟩:ByteArray),x.1.1.2.2.2.2.2.2.2.2)))))))),((0:Int),())),())))
          (some (((x.1.1.1,(x.1.1.2.1,(x.1.1.2.2.1,(x.1.1.2.2.2.1,((((0:Int),(0:Int)),(((0:Int),(0:Int)),(0:Int))),((((0:Int),(0:Int)),(((0:Int),(0:Int)),(0:Int))),(false,((⟨#[]⟩:ByteArray),x.1.1.2.2.2.2.2.2.2.2)))))))),((1:Int),())),())))
         (some (((x.1.1.1,(x.1.1.2.1,(x.1.1.2.2.1,(x.1.1.2.2.2.1,((((0:Int),(0:Int)),(((0:Int),(0:Int)),(0:Int))),((((0:Int),(0:Int)),(((0:Int),(0:Int)),(0:Int))),(false,((⟨#[]⟩:ByteArray),x.1.1.2.2.2.2.2.2.2.2)))))))),((1:Int),())),())))
        (some (((x.1.1.1,(x.1.1.2.1,(x.1.1.2.2.1,(x.1.1.2.2.2.1,((((0:Int),(0:Int)),(((0:Int),(0:Int)),(0:Int))),((((0:Int),(0:Int)),(((0:Int),(0:Int)),(0:Int))),(false,((⟨#[]⟩:ByteArray),x.1.1.2.2.2.2.2.2.2.2)))))))),((1:Int),())),())))
       (cond (x.1.1.1==(7:Int))
        ((F 88 vR ((x.1.1.2.2.2.2.2.2.2.1,()),())).bind fun (y7:((Bool×Unit)×Unit)) =>
        cond (not y7.1.1)
         (cond (not y1.1.1)
          (some (((x.1.1.1,(x.1.1.2.1,(((0:Int),(0:Int)),(((0:Int),(0:Int)),((((0:Int),(0:Int)),(((0:Int),(0:Int)),(0:Int))),((((0:Int),(0:Int)),(((0:Int),(0:Int)),(0:Int))),(x.1.1.2.2.2.2.2.2.1,(x.1.1.2.2.2.2.2.2.2.1,(0:Int))))))))),((1:Int),())),()))
          (some (((x.1.1.1,(x.1.1.2.1,(((0:Int),(0:Int)),(((0:Int),(0:Int)),((((0:Int),(0:Int)),(((0:Int),(0:Int)),(0:Int))),((((0:Int),(0:Int)),(((0:Int),(0:Int)),(0:Int))),(x.1.1.2.2.2.2.2.2.1,(x.1.1.2.2.2.2.2.2.2.1,(0:Int))))))))),((4:Int),())),())))
         (cond (not y1.1.1)
          (some (((x.1.1.1,(x.1.1.2.1,(((0:Int),(0:Int)),(((0:Int),(0:Int)),((((0:Int),(0:Int)),(((0:Int),(0:Int)),(0:Int))),((((0:Int),(0:Int)),(((0:Int),(0:Int)),(0:Int))),(x.1.1.2.2.2.2.2.2.1,(x.1.1.2.2.2.2.2.2.2.1,(0:Int))))))))),((1:Int),())),()))
          (some (((x.1.1.1,(x.1.1.2.1,(((0:Int),(0:Int)),(((0:Int),(0:Int)),((((0:Int),(0:Int)),(((0:Int),(0:Int)),(0:Int))),((((0:Int),(0:Int)),(((0:Int),(0:Int)),(0:Int))),(x.1.1.2.2.2.2.2.2.1,(x.1.1.2.2.2.2.2.2.2.1,(0:Int))))))))),((0:Int),())),()))))
        (cond (x.1.1.1==(8:Int))
         (cond y1.1.1
          ((F 89 Gr ((x.1.1.2.2.2.2.2.2.2.2,()),())).bind fun (y8:((Bool×Unit)×Unit)) =>
          cond (not y8.1.1)
           (some (((x.1.1.1,(x.1.1.2.1,(((0:Int),(0:Int)),(((0:Int),(0:Int)),((((0:Int),(0:Int)),(((0:Int),(0:Int)),(0:Int))),((((0:Int),(0:Int)),(((0:Int),(0:Int)),(0:Int))),(x.1.1.2.2.2.2.2.2.1,((⟨#[]⟩:ByteArray),x.1.1.2.2.2.2.2.2.2.2)))))))),((1:Int),())),()))
           (some (((x.1.1.1,(x.1.1.2.1,(((0:Int),(0:Int)),(((0:Int),(0:Int)),((((0:Int),(0:Int)),(((0:Int),(0:Int)),(0:Int))),((((0:Int),(0:Int)),(((0:Int),(0:Int)),(0:Int))),(x.1.1.2.2.2.2.2.2.1,((⟨#[]⟩:ByteArray),x.1.1.2.2.2.2.2.2.2.2)))))))),((0:Int),())),())))
          (some (((x.1.1.1,(x.1.1.2.1,(((0:Int),(0:Int)),(((0:Int),(0:Int)),((((0:Int),(0:Int)),(((0:Int),(0:Int)),(0:Int))),((((0:Int),(0:Int)),(((0:Int),(0:Int)),(0:Int))),(x.1.1.2.2.2.2.2.2.1,((⟨#[]⟩:ByteArray),x.1.1.2.2.2.2.2.2.2.2)))))))),((1:Int),())),())))
         (some (((x.1.1.1,(x.1.1.2.1,(((0:Int),(0:Int)),(((0:Int),(0:Int)),((((0:Int),(0:Int)),(((0:Int),(0:Int)),(0:Int))),((((0:Int),(0:Int)),(((0:Int),(0:Int)),(0:Int))),(false,((⟨#[]⟩:ByteArray),(0:Int))))))))),((1:Int),())),()))))))))
   (cond (x.1.1.1==(2:Int))
    (cond (x.1.1.1==(2:Int))
     (cond (not y1.1.1)
      (some (((x.1.1.1,(x.1.1.2.1,(((0:Int),(0:Int)),(((0:Int),(0:Int)),((((0:Int),(0:Int)),(((0:Int),(0:Int)),(0:Int))),((((0:Int),(0:Int)),(((0:Int),(0:Int)),(0:Int))),(false,((⟨#[]⟩:ByteArray),(0:Int))))))))),((1:Int),())),()))
      (some (((x.1.1.1,(x.1.1.2.1,(((0:Int),(0:Int)),(((0:Int),(0:Int)),((((0:Int),(0:Int)),(((0:Int),(0:Int)),(0:Int))),((((0:Int),(0:Int)),(((0:Int),(0:Int)),(0:Int))),(false,((⟨#[]⟩:ByteArray),(0:Int))))))))),((0:Int),())),())))
     (cond (x.1.1.1==(6:Int))
      (cond y1.1.1
       ((F 86 qo ((x.1.1.2.2.2.1,()),())).bind fun (y9:((Bool×Unit)×Unit)) =>
       cond (not y9.1.1)
        (some (((x.1.1.1,(x.1.1.2.1,(((0:Int),(0:Int)),(x.1.1.2.2.2.1,((((0:Int),(0:Int)),(((0:Int),(0:Int)),(0:Int))),((((0:Int),(0:Int)),(((0:Int),(0:Int)),(0:Int))),(false,((⟨#[]⟩:ByteArray),(0:Int))))))))),((1:Int),())),()))
        (some (((x.1.1.1,(x.1.1.2.1,(((0:Int),(0:Int)),(x.1.1.2.2.2.1,((((0:Int),(0:Int)),(((0:Int),(0:Int)),(0:Int))),((((0:Int),(0:Int)),(((0:Int),(0:Int)),(0:Int))),(false,((⟨#[]⟩:ByteArray),(0:Int))))))))),((0:Int),())),())))
       (some (((x.1.1.1,(x.1.1.2.1,(((0:Int),(0:Int)),(x.1.1.2.2.2.1,((((0:Int),(0:Int)),(((0:Int),(0:Int)),(0:Int))),((((0:Int),(0:Int)),(((0:Int),(0:Int)),(0:Int))),(false,((⟨#[]⟩:ByteArray),(0:Int))))))))),((1:Int),())),())))
      (cond (x.1.1.1==(3:Int))
       (cond y1.1.1
        ((F 87 Cs (((x.1.1.2.2.2.2.1.1,(x.1.1.2.2.2.2.1.2.1,x.1.1.2.2.2.2.1.2.2)),()),())).bind fun (pQ:((Bool×Unit)×Unit)) =>
        cond pQ.1.1
         ((F 87 Cs (((x.1.1.2.2.2.2.2.1.1,(x.1.1.2.2.2.2.2.1.2.1,x.1.1.2.2.2.2.2.1.2.2)),()),())).bind fun (mn:((Bool×Unit)×Unit)) =>
         cond (not mn.1.1)
          (some (((x.1.1.1,(x.1.1.2.1,(((0:Int),(0:Int)),(((0:Int),(0:Int)),((x.1.1.2.2.2.2.1.1,(x.1.1.2.2.2.2.1.2.1,x.1.1.2.2.2.2.1.2.2)),((x.1.1.2.2.2.2.2.1.1,(x.1.1.2.2.2.2.2.1.2.1,x.1.1.2.2.2.2.2.1.2.2)),(false,((⟨#[]⟩:ByteArray),(0:Int))))))))),((1:Int),())),()))
          (some (((x.1.1.1,(x.1.1.2.1,(((0:Int),(0:Int)),(((0:Int),(0:Int)),((x.1.1.2.2.2.2.1.1,(x.1.1.2.2.2.2.1.2.1,x.1.1.2.2.2.2.1.2.2)),((x.1.1.2.2.2.2.2.1.1,(x.1.1.2.2.2.2.2.1.2.1,x.1.1.2.2.2.2.2.1.2.2)),(false,((⟨#[]⟩:ByteArray),(0:Int))))))))),((0:Int),())),())))
         (some (((x.1.1.1,(x.1.1.2.1,(((0:Int),(0:Int)),(((0:Int),(0:Int)),((x.1.1.2.2.2.2.1.1,(x.1.1.2.2.2.2.1.2.1,x.1.1.2.2.2.2.1.2.2)),((x.1.1.2.2.2.2.2.1.1,(x.1.1.2.2.2.2.2.1.2.1,x.1.1.2.2.2.2.2.1.2.2)),(false,((⟨#[]⟩:ByteArray),(0:Int))))))))),((1:Int),())),())))
        (some (((x.1.1.1,(x.1.1.2.1,(((0:Int),(0:Int)),(((0:Int),(0:Int)),((x.1.1.2.2.2.2.1.1,(x.1.1.2.2.2.2.1.2.1,x.1.1.2.2.2.2.1.2.2)),((x.1.1.2.2.2.2.2.1.1,(x.1.1.2.2.2.2.2.1.2.1,x.1.1.2.2.2.2.2.1.2.2)),(false,((⟨#[]⟩:ByteArray),(0:Int))))))))),((1:Int),())),())))
       (cond (x.1.1.1==(5:Int))
        (cond y1.1.1
         ((F 86 qo ((x.1.1.2.2.1,()),())).bind fun (pz:((Bool×Unit)×Unit)) =>
         cond pz.1.1
          ((F 86 qo ((x.1.1.2.2.2.1,()),())).bind fun (lA:((Bool×Unit)×Unit)) =>
          cond lA.1.1
           (cond (not ((eI .andNot .i64 x.1.1.2.2.2.2.2.2.2.2 (3:Int))==(0:Int)))
            (some (((x.1.1.1,(x.1.1.2.1,(x.1.1.2.2.1,(x.1.1.2.2.2.1,((((0:Int),(0:Int)),(((0:Int),(0:Int)),(0:Int))),((((0:Int),(0:Int)),(((0:Int),(0:Int)),(0:Int))),(false,((⟨#[]⟩:ByteArray),x.1.1.2.2.2.2.2.2.2.2)))))))),((1:Int),())),()))
            (some (((x.1.1.1,(x.1.1.2.1,(x.1.1.2.2.1,(x.1.1.2.2.2.1,((((0:Int),(0:Int)),(((0:Int),(0:Int)),(0:Int))),((((0:Int),(0:Int)),(((0:Int),(0:Int)),(0:Int))),(false,((⟨#[]⟩:ByteArray),x.1.1.2.2.2.2.2.2.2.2)))))))),((0:Int),())),())))
           (some (((x.1.1.1,(x.1.1.2.1,(x.1.1.2.2.1,(x.1.1.2.2.2.1,((((0:Int),(0:Int)),(((0:Int),(0:Int)),(0:Int))),((((0:Int),(0:Int)),(((0:Int),(0:Int)),(0:Int))),(false,((⟨#[]⟩:ByteArray),x.1.1.2.2.2.2.2.2.2.2)))))))),((1:Int),())),())))
          (some (((x.1.1.1,(x.1.1.2.1,(x.1.1.2.2.1,(x.1.1.2.2.2.1,((((0:Int),(0:Int)),(((0:Int),(0:Int)),(0:Int))),((((0:Int),(0:Int)),(((0:Int),(0:Int)),(0:Int))),(false,((⟨#[]⟩:ByteArray),x.1.1.2.2.2.2.2.2.2.2)))))))),((1:Int),())),())))
         (some (((x.1.1.1,(x.1.1.2.1,(x.1.1.2.2.1,(x.1.1.2.2.2.1,((((0:Int),(0:Int)),(((0:Int),(0:Int)),(0:Int))),((((0:Int),(0:Int)),(((0:Int),(0:Int)),(0:Int))),(false,((⟨#[]⟩:ByteArray),x.1.1.2.2.2.2.2.2.2.2)))))))),((1:Int),())),())))
        (cond (x.1.1.1==(7:Int))
         ((F 88 vR ((x.1.1.2.2.2.2.2.2.2.1,()),())).bind fun (Dd:((Bool×Unit)×Unit)) =>
         cond (not Dd.1.1)
          (cond (not y1.1.1)
           (some (((x.1.1.1,(x.1.1.2.1,(((0:Int),(0:Int)),(((0:Int),(0:Int)),((((0:Int),(0:Int)),(((0:Int),(0:Int)),(0:Int))),((((0:Int),(0:Int)),(((0:Int),(0:Int)),(0:Int))),(x.1.1.2.2.2.2.2.2.1,(x.1.1.2.2.2.2.2.2.2.1,(0:Int))))))))),((1:Int),())),()))
           (some (((x.1.1.1,(x.1.1.2.1,(((0:Int),(0:Int)),(((0:Int),(0:Int)),((((0:Int),(0:Int)),(((0:Int),(0:Int)),(0:Int))),((((0:Int),(0:Int)),(((0:Int),(0:Int)),(0:Int))),(x.1.1.2.2.2.2.2.2.1,(x.1.1.2.2.2.2.2.2.2.1,(0:Int))))))))),((4:Int),())),())))
          (cond (not y1.1.1)
           (some (((x.1.1.1,(x.1.1.2.1,(((0:Int),(0:Int)),(((0:Int),(0:Int)),((((0:Int),(0:Int)),(((0:Int),(0:Int)),(0:Int))),((((0:Int),(0:Int)),(((0:Int),(0:Int)),(0:Int))),(x.1.1.2.2.2.2.2.2.1,(x.1.1.2.2.2.2.2.2.2.1,(0:Int))))))))),((1:Int),())),()))
           (some (((x.1.1.1,(x.1.1.2.1,(((0:Int),(0:Int)),(((0:Int),(0:Int)),((((0:Int),(0:Int)),(((0:Int),(0:Int)),(0:Int))),((((0:Int),(0:Int)),(((0:Int),(0:Int)),(0:Int))),(x.1.1.2.2.2.2.2.2.1,(x.1.1.2.2.2.2.2.2.2.1,(0:Int))))))))),((0:Int),())),()))))
         (cond (x.1.1.1==(8:Int))
          (cond y1.1.1
           ((F 89 Gr ((x.1.1.2.2.2.2.2.2.2.2,()),())).bind fun (uJ:((Bool×Unit)×Unit)) =>
           cond (not uJ.1.1)
            (some (((x.1.1.1,(x.1.1.2.1,(((0:Int),(0:Int)),(((0:Int),(0:Int)),((((0:Int),(0:Int)),(((0:Int),(0:Int)),(0:Int))),((((0:Int),(0:Int)),(((0:Int),(0:Int)),(0:Int))),(x.1.1.2.2.2.2.2.2.1,((⟨#[]⟩:ByteArray),x.1.1.2.2.2.2.2.2.2.2)))))))),((1:Int),())),()))
            (some (((x.1.1.1,(x.1.1.2.1,(((0:Int),(0:Int)),(((0:Int),(0:Int)),((((0:Int),(0:Int)),(((0:Int),(0:Int)),(0:Int))),((((0:Int),(0:Int)),(((0:Int),(0:Int)),(0:Int))),(x.1.1.2.2.2.2.2.2.1,((⟨#[]⟩:ByteArray),x.1.1.2.2.2.2.2.2.2.2)))))))),((0:Int),())),())))
           (some (((x.1.1.1,(x.1.1.2.1,(((0:Int),(0:Int)),(((0:Int),(0:Int)),((((0:Int),(0:Int)),(((0:Int),(0:Int)),(0:Int))),((((0:Int),(0:Int)),(((0:Int),(0:Int)),(0:Int))),(x.1.1.2.2.2.2.2.2.1,((⟨#[]⟩:ByteArray),x.1.1.2.2.2.2.2.2.2.2)))))))),((1:Int),())),())))
          (some (((x.1.1.1,(x.1.1.2.1,(((0:Int),(0:Int)),(((0:Int),(0:Int)),((((0:Int),(0:Int)),(((0:Int),(0:Int)),(0:Int))),((((0:Int),(0:Int)),(((0:Int),(0:Int)),(0:Int))),(false,((⟨#[]⟩:ByteArray),(0:Int))))))))),((1:Int),())),()))))))))
    (cond (x.1.1.1==(4:Int))
     (cond (not y1.1.1)
      (some (((x.1.1.1,(x.1.1.2.1,(((0:Int),(0:Int)),(((0:Int),(0:Int)),((((0:Int),(0:Int)),(((0:Int),(0:Int)),(0:Int))),((((0:Int),(0:Int)),(((0:Int),(0:Int)),(0:Int))),(false,((⟨#[]⟩:ByteArray),(0:Int))))))))),((1:Int),())),()))
      (some (((x.1.1.1,(x.1.1.2.1,(((0:Int),(0:Int)),(((0:Int),(0:Int)),((((0:Int),(0:Int)),(((0:Int),(0:Int)),(0:Int))),((((0:Int),(0:Int)),(((0:Int),(0:Int)),(0:Int))),(false,((⟨#[]⟩:ByteArray),(0:Int))))))))),((0:Int),())),())))
     (cond (x.1.1.1==(6:Int))
      (cond y1.1.1
       ((F 86 qo ((x.1.1.2.2.2.1,()),())).bind fun (TT:((Bool×Unit)×Unit)) =>
       cond (not TT.1.1)
        (some (((x.1.1.1,(x.1.1.2.1,(((0:Int),(0:Int)),(x.1.1.2.2.2.1,((((0:Int),(0:Int)),(((0:Int),(0:Int)),(0:Int))),((((0:Int),(0:Int)),(((0:Int),(0:Int)),(0:Int))),(false,((⟨#[]⟩:ByteArray),(0:Int))))))))),((1:Int),())),()))
        (some (((x.1.1.1,(x.1.1.2.1,(((0:Int),(0:Int)),(x.1.1.2.2.2.1,((((0:Int),(0:Int)),(((0:Int),(0:Int)),(0:Int))),((((0:Int),(0:Int)),(((0:Int),(0:Int)),(0:Int))),(false,((⟨#[]⟩:ByteArray),(0:Int))))))))),((0:Int),())),())))
       (some (((x.1.1.1,(x.1.1.2.1,(((0:Int),(0:Int)),(x.1.1.2.2.2.1,((((0:Int),(0:Int)),(((0:Int),(0:Int)),(0:Int))),((((0:Int),(0:Int)),(((0:Int),(0:Int)),(0:Int))),(false,((⟨#[]⟩:ByteArray),(0:Int))))))))),((1:Int),())),())))
      (cond (x.1.1.1==(3:Int))
       (cond y1.1.1
        ((F 87 Cs (((x.1.1.2.2.2.2.1.1,(x.1.1.2.2.2.2.1.2.1,x.1.1.2.2.2.2.1.2.2)),()),())).bind fun (Vl:((Bool×Unit)×Unit)) =>
        cond Vl.1.1
         ((F 87 Cs (((x.1.1.2.2.2.2.2.1.1,(x.1.1.2.2.2.2.2.1.2.1,x.1.1.2.2.2.2.2.1.2.2)),()),())).bind fun (W9:((Bool×Unit)×Unit)) =>
         cond (not W9.1.1)
          (some (((x.1.1.1,(x.1.1.2.1,(((0:Int),(0:Int)),(((0:Int),(0:Int)),((x.1.1.2.2.2.2.1.1,(x.1.1.2.2.2.2.1.2.1,x.1.1.2.2.2.2.1.2.2)),((x.1.1.2.2.2.2.2.1.1,(x.1.1.2.2.2.2.2.1.2.1,x.1.1.2.2.2.2.2.1.2.2)),(false,((⟨#[]⟩:ByteArray),(0:Int))))))))),((1:Int),())),()))
          (some (((x.1.1.1,(x.1.1.2.1,(((0:Int),(0:Int)),(((0:Int),(0:Int)),((x.1.1.2.2.2.2.1.1,(x.1.1.2.2.2.2.1.2.1,x.1.1.2.2.2.2.1.2.2)),((x.1.1.2.2.2.2.2.1.1,(x.1.1.2.2.2.2.2.1.2.1,x.1.1.2.2.2.2.2.1.2.2)),(false,((⟨#[]⟩:ByteArray),(0:Int))))))))),((0:Int),())),())))
         (some (((x.1.1.1,(x.1.1.2.1,(((0:Int),(0:Int)),(((0:Int),(0:Int)),((x.1.1.2.2.2.2.1.1,(x.1.1.2.2.2.2.1.2.1,x.1.1.2.2.2.2.1.2.2)),((x.1.1.2.2.2.2.2.1.1,(x.1.1.2.2.2.2.2.1.2.1,x.1.1.2.2.2.2.2.1.2.2)),(false,((⟨#[]⟩:ByteArray),(0:Int))))))))),((1:Int),())),())))
        (some (((x.1.1.1,(x.1.1.2.1,(((0:Int),(0:Int)),(((0:Int),(0:Int)),((x.1.1.2.2.2.2.1.1,(x.1.1.2.2.2.2.1.2.1,x.1.1.2.2.2.2.1.2.2)),((x.1.1.2.2.2.2.2.1.1,(x.1.1.2.2.2.2.2.1.2.1,x.1.1.2.2.2.2.2.1.2.2)),(false,((⟨#[]⟩:ByteArray),(0:Int))))))))),((1:Int),())),())))
       (cond (x.1.1.1==(5:Int))
        (cond y1.1.1
         ((F 86 qo ((x.1.1.2.2.1,()),())).bind fun (TU:((Bool×Unit)×Unit)) =>
         cond TU.1.1
          ((F 86 qo ((x.1.1.2.2.2.1,()),())).bind fun (GL:((Bool×Unit)×Unit)) =>
          cond GL.1.1
           (cond (not ((eI .andNot .i64 x.1.1.2.2.2.2.2.2.2.2 (3:Int))==(0:Int)))
            (some (((x.1.1.1,(x.1.1.2.1,(x.1.1.2.2.1,(x.1.1.2.2.2.1,((((0:Int),(0:Int)),(((0:Int),(0:Int)),(0:Int))),((((0:Int),(0:Int)),(((0:Int),(0:Int)),(0:Int))),(false,((⟨#[]⟩:ByteArray),x.1.1.2.2.2.2.2.2.2.2)))))))),((1:Int),())),()))
            (some (((x.1.1.1,(x.1.1.2.1,(x.1.1.2.2.1,(x.1.1.2.2.2.1,((((0:Int),(0:Int)),(((0:Int),(0:Int)),(0:Int))),((((0:Int),(0:Int)),(((0:Int),(0:Int)),(0:Int))),(false,((⟨#[]⟩:ByteArray),x.1.1.2.2.2.2.2.2.2.2)))))))),((0:Int),())),())))
           (some (((x.1.1.1,(x.1.1.2.1,(x.1.1.2.2.1,(x.1.1.2.2.2.1,((((0:Int),(0:Int)),(((0:Int),(0:Int)),(0:Int))),((((0:Int),(0:Int)),(((0:Int),(0:Int)),(0:Int))),(false,((⟨#[]⟩:ByteArray),x.1.1.2.2.2.2.2.2.2.2)))))))),((1:Int),())),())))
          (some (((x.1.1.1,(x.1.1.2.1,(x.1.1.2.2.1,(x.1.1.2.2.2.1,((((0:Int),(0:Int)),(((0:Int),(0:Int)),(0:Int))),((((0:Int),(0:Int)),(((0:Int),(0:Int)),(0:Int))),(false,((⟨#[]⟩:ByteArray),x.1.1.2.2.2.2.2.2.2.2)))))))),((1:Int),())),())))
         (some (((x.1.1.1,(x.1.1.2.1,(x.1.1.2.2.1,(x.1.1.2.2.2.1,((((0:Int),(0:Int)),(((0:Int),(0:Int)),(0:Int))),((((0:Int),(0:Int)),(((0:Int),(0:Int)),(0:Int))),(false,((⟨#[]⟩:ByteArray),x.1.1.2.2.2.2.2.2.2.2)))))))),((1:Int),())),())))
        (cond (x.1.1.1==(7:Int))
         ((F 88 vR ((x.1.1.2.2.2.2.2.2.2.1,()),())).bind fun (Yq:((Bool×Unit)×Unit)) =>
         cond (not Yq.1.1)
          (cond (not y1.1.1)
           (some (((x.1.1.1,(x.1.1.2.1,(((0:Int),(0:Int)),(((0:Int),(0:Int)),((((0:Int),(0:Int)),(((0:Int),(0:Int)),(0:Int))),((((0:Int),(0:Int)),(((0:Int),(0:Int)),(0:Int))),(x.1.1.2.2.2.2.2.2.1,(x.1.1.2.2.2.2.2.2.2.1,(0:Int))))))))),((1:Int),())),()))
           (some (((x.1.1.1,(x.1.1.2.1,(((0:Int),(0:Int)),(((0:Int),(0:Int)),((((0:Int),(0:Int)),(((0:Int),(0:Int)),(0:Int))),((((0:Int),(0:Int)),(((0:Int),(0:Int)),(0:Int))),(x.1.1.2.2.2.2.2.2.1,(x.1.1.2.2.2.2.2.2.2.1,(0:Int))))))))),((4:Int),())),())))
          (cond (not y1.1.1)
           (some (((x.1.1.1,(x.1.1.2.1,(((0:Int),(0:Int)),(((0:Int),(0:Int)),((((0:Int),(0:Int)),(((0:Int),(0:Int)),(0:Int))),((((0:Int),(0:Int)),(((0:Int),(0:Int)),(0:Int))),(x.1.1.2.2.2.2.2.2.1,(x.1.1.2.2.2.2.2.2.2.1,(0:Int))))))))),((1:Int),())),()))
           (some (((x.1.1.1,(x.1.1.2.1,(((0:Int),(0:Int)),(((0:Int),(0:Int)),((((0:Int),(0:Int)),(((0:Int),(0:Int)),(0:Int))),((((0:Int),(0:Int)),(((0:Int),(0:Int)),(0:Int))),(x.1.1.2.2.2.2.2.2.1,(x.1.1.2.2.2.2.2.2.2.1,(0:Int))))))))),((0:Int),())),()))))
         (cond (x.1.1.1==(8:Int))
          (cond y1.1.1
           ((F 89 Gr ((x.1.1.2.2.2.2.2.2.2.2,()),())).bind fun (Yr:((Bool×Unit)×Unit)) =>
           cond (not Yr.1.1)
            (some (((x.1.1.1,(x.1.1.2.1,(((0:Int),(0:Int)),(((0:Int),(0:Int)),((((0:Int),(0:Int)),(((0:Int),(0:Int)),(0:Int))),((((0:Int),(0:Int)),(((0:Int),(0:Int)),(0:Int))),(x.1.1.2.2.2.2.2.2.1,((⟨#[]⟩:ByteArray),x.1.1.2.2.2.2.2.2.2.2)))))))),((1:Int),())),()))
            (some (((x.1.1.1,(x.1.1.2.1,(((0:Int),(0:Int)),(((0:Int),(0:Int)),((((0:Int),(0:Int)),(((0:Int),(0:Int)),(0:Int))),((((0:Int),(0:Int)),(((0:Int),(0:Int)),(0:Int))),(x.1.1.2.2.2.2.2.2.1,((⟨#[]⟩:ByteArray),x.1.1.2.2.2.2.2.2.2.2)))))))),((0:Int),())),())))
           (some (((x.1.1.1,(x.1.1.2.1,(((0:Int),(0:Int)),(((0:Int),(0:Int)),((((0:Int),(0:Int)),(((0:Int),(0:Int)),(0:Int))),((((0:Int),(0:Int)),(((0:Int),(0:Int)),(0:Int))),(x.1.1.2.2.2.2.2.2.1,((⟨#[]⟩:ByteArray),x.1.1.2.2.2.2.2.2.2.2)))))))),((1:Int),())),())))
          (some (((x.1.1.1,(x.1.1.2.1,(((0:Int),(0:Int)),(((0:Int),(0:Int)),((((0:Int),(0:Int)),(((0:Int),(0:Int)),(0:Int))),((((0:Int),(0:Int)),(((0:Int),(0:Int)),(0:Int))),(false,((⟨#[]⟩:ByteArray),(0:Int))))))))),((1:Int),())),()))))))))):=by kernel_rfl
theorem EF(F:FT)(J:JT yh)(x:((bW×Unit)×(aG×Unit))):cC 66 yh Tryz.f66 F J x =
  cond (x.1.1.1==(1:Int))
   ((F 90 Gs (((x.1.1.2.1,(([]:List ae),((⟨#[]⟩:ByteArray),(0:Int)))),()),((x.2.1.1,(x.2.1.2.1,x.2.1.2.2)),()))).bind fun (y1:((Int×Unit)×(aG×Unit))) =>
   some (y1.1,((y1.2.1.1,(y1.2.1.2.1,y1.2.1.2.2)),())))
   (cond (x.1.1.1==(2:Int))
    ((F 91 OF (((x.1.1.1,(x.1.1.2.1,(x.1.1.2.2.1,(x.1.1.2.2.2.1,((x.1.1.2.2.2.2.1.1,(x.1.1.2.2.2.2.1.2.1,x.1.1.2.2.2.2.1.2.2)),((x.1.1.2.2.2.2.2.1.1,(x.1.1.2.2.2.2.2.1.2.1,x.1.1.2.2.2.2.2.1.2.2)),(x.1.1.2.2.2.2.2.2.1,x.1.1.2.2.2.2.2.2.2))))))),()),((x.2.1.1,(x.2.1.2.1,x.2.1.2.2)),()))).bind fun (y2:((Int×Unit)×(aG×Unit))) =>
    some (y2.1,((y2.2.1.1,(y2.2.1.2.1,y2.2.1.2.2)),())))
    (cond (x.1.1.1==(3:Int))
     ((F 92 oJ (((x.1.1.1,(x.1.1.2.1,(x.1.1.2.2.1,(x.1.1.2.2.2.1,((x.1.1.2.2.2.2.1.1,(x.1.1.2.2.2.2.1.2.1,x.1.1.2.2.2.2.1.2.2)),((x.1.1.2.2.2.2.2.1.1,(x.1.1.2.2.2.2.2.1.2.1,x.1.1.2.2.2.2.2.1.2.2)),(x.1.1.2.2.2.2.2.2.1,x.1.1.2.2.2.2.2.2.2))))))),()),((x.2.1.1,(x.2.1.2.1,x.2.1.2.2)),()))).bind fun (y3:((Int×Unit)×(aG×Unit))) =>
     some (y3.1,((y3.2.1.1,(y3.2.1.2.1,y3.2.1.2.2)),())))
     (cond (x.1.1.1==(4:Int))
      ((F 93 Av (((x.1.1.1,(x.1.1.2.1,(x.1.1.2.2.1,(x.1.1.2.2.2.1,((x.1.1.2.2.2.2.1.1,(x.1.1.2.2.2.2.1.2.1,x.1.1.2.2.2.2.1.2.2)),((x.1.1.2.2.2.2.2.1.1,(x.1.1.2.2.2.2.2.1.2.1,x.1.1.2.2.2.2.2.1.2.2)),(x.1.1.2.2.2.2.2.2.1,x.1.1.2.2.2.2.2.2.2))))))),()),((x.2.1.1,(x.2.1.2.1,x.2.1.2.2)),()))).bind fun (y4:((Int×Unit)×(aG×Unit))) =>
      some (y4.1,((y4.2.1.1,(y4.2.1.2.1,y4.2.1.2.2)),())))
      (cond (x.1.1.1==(5:Int))
       ((F 94 yk (((x.1.1.1,(x.1.1.2.1,(x.1.1.2.2.1,(x.1.1.2.2.2.1,((x.1.1.2.2.2.2.1.1,(x.1.1.2.2.2.2.1.2.1,x.1.1.2.2.2.2.1.2.2)),((x.1.1.2.2.2.2.2.1.1,(x.1.1.2.2.2.2.2.1.2.1,x.1.1.2.2.2.2.2.1.2.2)),(x.1.1.2.2.2.2.2.2.1,x.1.1.2.2.2.2.2.2.2))))))),()),((x.2.1.1,(x.2.1.2.1,x.2.1.2.2)),()))).bind fun (y5:((Int×Unit)×(aG×Unit))) =>
       some (y5.1,((y5.2.1.1,(y5.2.1.2.1,y5.2.1.2.2)),())))
       (cond (x.1.1.1==(6:Int))
        ((F 95 qp (((x.1.1.1,(x.1.1.2.1,(x.1.1.2.2.1,(x.1.1.2.2.2.1,((x.1.1.2.2.2.2.1.1,(x.1.1.2.2.2.2.1.2.1,x.1.1.2.2.2.2.1.2.2)),((x.1.1.2.2.2.2.2.1.1,(x.1.1.2.2.2.2.2.1.2.1,x.1.1.2.2.2.2.2.1.2.2)),(x.1.1.2.2.2.2.2.2.1,x.1.1.2.2.2.2.2.2.2))))))),()),((x.2.1.1,(x.2.1.2.1,x.2.1.2.2)),()))).bind fun (y6:((Int×Unit)×(aG×Unit))) =>
        some (y6.1,((y6.2.1.1,(y6.2.1.2.1,y6.2.1.2.2)),())))
        ((F 96 OG (((x.1.1.1,(x.1.1.2.1,(x.1.1.2.2.1,(x.1.1.2.2.2.1,((x.1.1.2.2.2.2.1.1,(x.1.1.2.2.2.2.1.2.1,x.1.1.2.2.2.2.1.2.2)),((x.1.1.2.2.2.2.2.1.1,(x.1.1.2.2.2.2.2.1.2.1,x.1.1.2.2.2.2.2.1.2.2)),(x.1.1.2.2.2.2.2.2.1,x.1.1.2.2.2.2.2.2.2))))))),()),((x.2.1.1,(x.2.1.2.1,x.2.1.2.2)),()))).bind fun (y7:((Int×Unit)×(aG×Unit))) =>
        some (y7.1,((y7.2.1.1,(y7.2.1.2.1,y7.2.1.2.2)),())))))))):=by kernel_rfl
theorem ad0(F:FT)(J:JT I3)(x:((ID×(ID×Unit))×Unit)):cC 69 I3 Tryz.f69 F J x =
  cond ((x.1.1.1==x.1.2.1.1)&&(x.1.1.2==x.1.2.1.2))
   (some (((0:Int),()),()))
   (cond (decide (x.1.1.1<x.1.2.1.1))
    (some (((-1:Int),()),()))
    (cond (x.1.1.1==x.1.2.1.1)
     (cond (decide (x.1.1.2<x.1.2.1.2))
      (some (((-1:Int),()),()))
      (some (((1:Int),()),())))
     (some (((1:Int),()),())))):=by kernel_rfl
theorem ad1(F:FT)(J:JT Au)(x:(((List ae)×Unit)×Unit)):cC 77 Au Tryz.f77 F J x =
 J vX (aX Tryz.prog 77 0) ((x.1.1,((0:Int),((0:Int),()))),((),())):=by kernel_rfl
theorem O5(F:FT)(J:JT Au)(x:(((List ae)×(Int×(Int×Unit)))×(Unit×Unit))):gQ 77 0 Au Tryz.f77 vX F J x =
  cond (decide (x.1.2.2.1<(((List.length x.1.1):Nat):Int)))
   (((bh x.1.1 x.1.2.2.1)).bind fun (y1:ae) =>
   ((bh x.1.1 x.1.2.1)).bind fun (y2:ae) =>
   (F 62 Md (((y1.1,y1.2),((y2.1,y2.2),())),())).bind fun (y3:((Int×Unit)×Unit)) =>
   cond (decide (y3.1.1<(0:Int)))
    (J vX (aX Tryz.prog 77 0) ((x.1.1,(x.1.2.2.1,((IntKind.wrap .i64 (x.1.2.2.1+(1:Int))),()))),((),())))
    (J vX (aX Tryz.prog 77 0) ((x.1.1,(x.1.2.1,((IntKind.wrap .i64 (x.1.2.2.1+(1:Int))),()))),((),()))))
   (J A1 (aX Tryz.prog 77 1) ((x.1.1,(x.1.2.1,((0:Int),()))),((),(([]:List ae),())))):=by kernel_rfl
theorem O6(F:FT)(J:JT Au)(x:(((List ae)×(Int×(Int×Unit)))×(Unit×((List ae)×Unit)))):gQ 77 1 Au Tryz.f77 A1 F J x =
  cond (decide (x.1.2.2.1<(((List.length x.1.1):Nat):Int)))
   (cond ((((List.length x.1.1):Nat):Int)==(0:Int))
    (none)
    (((bh x.1.1 (Int.tmod (IntKind.wrap .i64 (x.1.2.1+x.1.2.2.1)) (((List.length x.1.1):Nat):Int)))).bind fun (y4:ae) =>
    cond (bq (List.length x.2.2.1) (List.length ((y4.1,y4.2)::([]:List ae))))
     (J A1 (aX Tryz.prog 77 1) ((x.1.1,(x.1.2.1,((IntKind.wrap .i64 (x.1.2.2.1+(1:Int))),()))),((),((x.2.2.1++((y4.1,y4.2)::([]:List ae))),()))))
     (none)))
   (some (x.2.2,())):=by kernel_rfl
theorem ad2(F:FT)(J:JT OE)(x:((ai×(ae×Unit))×Unit)):cC 78 OE Tryz.f78 F J x =
  (F 20 Ap ((x.1.1,((x.1.2.1.1,x.1.2.1.2),())),())).bind fun (y1:((ID×(Bool×Unit))×Unit)) =>
  cond (not y1.1.2.1)
   (some (((((0:Int),(0:Int)),(0:Int)),(false,())),()))
   ((F 18 Eu ((x.1.1,(y1.1.1,())),())).bind fun (y2:((aj×(Bool×Unit))×Unit)) =>
   (F 104 Gt ((y2.1.1.2.1,((x.1.2.1.1,x.1.2.1.2),())),())).bind fun (y3:((ae×(Bool×Unit))×Unit)) =>
   some (((y3.1.1.1,y3.1.1.2),y3.1.2),())):=by kernel_rfl
theorem ad3(F:FT)(J:JT Me)(x:(((List aj)×Unit)×Unit)):cC 79 Me Tryz.f79 F J x =
  cond (List.isEmpty x.1.1)
   (rK 2 fun (j1:Nat) =>
   cond ((j1==0)==true)
    (some ((([]:List aj),()),()))
    (cond (bq (List.length ([]:List aj)) (List.length x.1.1))
     (some (((([]:List aj)++x.1.1),()),()))
     (none)))
   (cond (bq (List.length ([]:List aj)) (List.length x.1.1))
    (some (((([]:List aj)++x.1.1),()),()))
    (none)):=by kernel_rfl
theorem ad4(F:FT)(J:JT Mf)(x:(((List au)×Unit)×Unit)):cC 80 Mf Tryz.f80 F J x =
  cond (List.isEmpty x.1.1)
   (rK 2 fun (j1:Nat) =>
   cond ((j1==0)==true)
    (some ((([]:List au),()),()))
    (cond (bq (List.length ([]:List au)) (List.length x.1.1))
     (some (((([]:List au)++x.1.1),()),()))
     (none)))
   (cond (bq (List.length ([]:List au)) (List.length x.1.1))
    (some (((([]:List au)++x.1.1),()),()))
    (none)):=by kernel_rfl
theorem ad5(F:FT)(J:JT yi)(x:(((List ae)×Unit)×Unit)):cC 81 yi Tryz.f81 F J x =
  cond (List.isEmpty x.1.1)
   (rK 2 fun (j1:Nat) =>
   cond ((j1==0)==true)
    (some ((([]:List ae),()),()))
    (cond (bq (List.length ([]:List ae)) (List.length x.1.1))
     (some (((([]:List ae)++x.1.1),()),()))
     (none)))
   (cond (bq (List.length ([]:List ae)) (List.length x.1.1))
    (some (((([]:List ae)++x.1.1),()),()))
    (none)):=by kernel_rfl
theorem ad6(F:FT)(J:JT yj)(x:((ai×Unit)×Unit)):cC 82 yj Tryz.f82 F J x =
 J A2 (aX Tryz.prog 82 0) (((0:Int),()),(((x.1.1,()),()),(([]:List ID),()))):=by kernel_rfl
theorem O7(F:FT)(J:JT yj)(x:((Int×Unit)×(((ai×Unit)×Unit)×((List ID)×Unit)))):gQ 82 0 yj Tryz.f82 A2 F J x =
  cond (decide (x.1.1<(((List.length x.2.1.1.1.1):Nat):Int)))
   (((bh x.2.1.1.1.1 x.1.1)).bind fun (y1:aj) =>
   cond (bq (List.length x.2.2.1) (List.length (y1.1::([]:List ID))))
    (J A2 (aX Tryz.prog 82 0) (((IntKind.wrap .i64 (x.1.1+(1:Int))),()),(((x.2.1.1.1,()),()),((x.2.2.1++(y1.1::([]:List ID))),()))))
    (none))
   (J vY (aX Tryz.prog 82 1) (((0:Int),()),(((x.2.1.1.1,()),()),x.2.2))):=by kernel_rfl
theorem O8(F:FT)(J:JT yj)(x:((Int×Unit)×(((ai×Unit)×Unit)×((List ID)×Unit)))):gQ 82 1 yj Tryz.f82 vY F J x =
  cond (decide (x.1.1<(((List.length x.2.1.1.1.2):Nat):Int)))
   (((bh x.2.1.1.1.2 x.1.1)).bind fun (y2:au) =>
   cond (bq (List.length x.2.2.1) (List.length (y2.1::([]:List ID))))
    (J vY (aX Tryz.prog 82 1) (((IntKind.wrap .i64 (x.1.1+(1:Int))),()),(((x.2.1.1.1,()),()),((x.2.2.1++(y2.1::([]:List ID))),()))))
    (none))
   (some (x.2.2,())):=by kernel_rfl
theorem ad7(F:FT)(J:JT uo)(x:(((List ID)×Unit)×Unit)):cC 83 uo Tryz.f83 F J x =
 J vZ (aX Tryz.prog 83 0) ((x.1.1,((0:Int),())),((),())):=by kernel_rfl
theorem O9(F:FT)(J:JT uo)(x:(((List ID)×(Int×Unit))×(Unit×Unit))):gQ 83 0 uo Tryz.f83 vZ F J x =
  cond (decide (x.1.2.1<(((List.length x.1.1):Nat):Int)))
   (((bh x.1.1 x.1.2.1)).bind fun (y1:ID) =>
   (F 19 Ma ((y1,()),())).bind fun (y2:((Bool×Unit)×Unit)) =>
   cond (not y2.1.1)
    (some ((false,()),()))
    (cond (decide (x.1.2.1 > (0:Int)))
     (((bh x.1.1 (IntKind.wrap .i64 (x.1.2.1 - (1:Int))))).bind fun (y3:ID) =>
     ((bh x.1.1 x.1.2.1)).bind fun (y4:ID) =>
     (F 69 I3 ((y3,(y4,())),())).bind fun (y5:((Int×Unit)×Unit)) =>
     cond (decide (y5.1.1≥(0:Int)))
      (some ((false,()),()))
      (J vZ (aX Tryz.prog 83 0) ((x.1.1,((IntKind.wrap .i64 (x.1.2.1+(1:Int))),())),((),()))))
     (J vZ (aX Tryz.prog 83 0) ((x.1.1,((IntKind.wrap .i64 (x.1.2.1+(1:Int))),())),((),())))))
   (some ((true,()),())):=by kernel_rfl
theorem ad8(F:FT)(J:JT kD)(x:((ai×Unit)×Unit)):cC 84 kD Tryz.f84 F J x =
 J th (aX Tryz.prog 84 0) (((0:Int),()),(((x.1.1,()),()),())):=by kernel_rfl
theorem Pb(F:FT)(J:JT kD)(x:((Int×Unit)×(((ai×Unit)×Unit)×Unit))):gQ 84 0 kD Tryz.f84 th F J x =
  cond (decide (x.1.1<(((List.length x.2.1.1.1.1):Nat):Int)))
   (((bh x.2.1.1.1.1 x.1.1)).bind fun (y1:aj) =>
   (F 77 Au ((y1.2.1,()),())).bind fun (y2:(((List ae)×Unit)×Unit)) =>
   (F 57 Ey ((y1.2.1,y2.1),())).bind fun (y3:((Bool×Unit)×Unit)) =>
   cond (not y3.1.1)
    (some ((false,()),()))
    (J v5 (aX Tryz.prog 84 1) ((x.1.1,(y1.2.1,((0:Int),()))),(((x.2.1.1.1,()),()),()))))
   (J v7 (aX Tryz.prog 84 2) (((0:Int),()),(((x.2.1.1.1,()),()),()))):=by kernel_rfl
theorem Pc(F:FT)(J:JT kD)(x:((Int×((List ae)×(Int×Unit)))×(((ai×Unit)×Unit)×Unit))):gQ 84 1 kD Tryz.f84 v5 F J x =
  cond (decide (x.1.2.2.1<(((List.length x.1.2.1):Nat):Int)))
   (((bh x.1.2.1 x.1.2.2.1)).bind fun (y4:ae) =>
   (F 21 Ev ((x.2.1.1.1,(y4.1,())),())).bind fun (y5:((au×(Bool×Unit))×Unit)) =>
   cond (not y5.1.2.1)
    (some ((false,()),()))
    (((bh x.1.2.1 x.1.2.2.1)).bind fun (y6:ae) =>
    cond (decide (y6.2<(0:Int)))
     (some ((false,()),()))
     (((bh x.1.2.1 x.1.2.2.1)).bind fun (y7:ae) =>
     cond (decide (y7.2 > (1:Int)))
      (some ((false,()),()))
      (J v5 (aX Tryz.prog 84 1) ((x.1.1,(x.1.2.1,((IntKind.wrap .i64 (x.1.2.2.1+(1:Int))),()))),(((x.2.1.1.1,()),()),()))))))
   (J th (aX Tryz.prog 84 0) (((IntKind.wrap .i64 (x.1.1+(1:Int))),()),(((x.2.1.1.1,()),()),()))):=by kernel_rfl
end Go.Vs
