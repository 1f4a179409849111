/- Normal forms of the program's functions, the third part. -/
import Derived.Test.YtpldhjjpeldkaaaGreatEngineD
import Derived.KernelRfl

set_option linter.unusedVariables false
set_option maxRecDepth 1000000
set_option maxHeartbeats 0
namespace Go.Vs
open Go.Proofs
theorem nf85 (F : FT) (J : JT sg85) (x : ((Diag × Unit) × Unit)) : nfE 85 sg85 Tryz.f85 F J x =
  (F 31 sg31 ((x.1.1, ()), ())).bind fun (y1 : (((List (List Dart)) × Unit) × Unit)) =>
  J sh85_0 (seg Tryz.prog 85 0) (((((List.length y1.1.1) : Nat) : Int), ((0 : Int), ())), (((x.1.1, ()), ()), ())) := by kernel_rfl
theorem nl85_0 (F : FT) (J : JT sg85) (x : ((Int × (Int × Unit)) × (((Diag × Unit) × Unit) × Unit))) : nlE 85 0 sg85 Tryz.f85 sh85_0 F J x =
  cond (decide (x.1.2.1 < (((List.length x.2.1.1.1.1) : Nat) : Int)))
   (((getI x.2.1.1.1.1 x.1.2.1)).bind fun (y2 : Vert) =>
   cond ((((List.length y2.2.1) : Nat) : Int) == (0 : Int))
    (J sh85_0 (seg Tryz.prog 85 0) (((IntKind.wrap .i64 (x.1.1 + (1 : Int))), ((IntKind.wrap .i64 (x.1.2.1 + (1 : Int))), ())), (((x.2.1.1.1, ()), ()), ())))
    (J sh85_0 (seg Tryz.prog 85 0) ((x.1.1, ((IntKind.wrap .i64 (x.1.2.1 + (1 : Int))), ())), (((x.2.1.1.1, ()), ()), ()))))
   ((F 32 sg32 ((x.2.1.1.1, ()), ())).bind fun (y3 : ((Int × Unit) × Unit)) =>
   some (((((List.length x.2.1.1.1.1) : Nat) : Int), ((((List.length x.2.1.1.1.2) : Nat) : Int), (x.1.1, y3.1))), ())) := by kernel_rfl
theorem nf86 (F : FT) (J : JT sg86) (x : ((ID × Unit) × Unit)) : nfE 86 sg86 Tryz.f86 F J x =
  cond (decide (x.1.1.1 ≥ (1 : Int)))
   (cond (decide (x.1.1.1 ≤ (8 : Int)))
    (cond (decide (x.1.1.2 ≥ (1 : Int)))
     (some (((decide (x.1.1.2 ≤ (1048576 : Int))), ()), ()))
     (some ((false, ()), ())))
    (some ((false, ()), ())))
   (some ((false, ()), ())) := by kernel_rfl
theorem nf87 (F : FT) (J : JT sg87) (x : ((Cor × Unit) × Unit)) : nfE 87 sg87 Tryz.f87 F J x =
  (F 86 sg86 ((x.1.1.1, ()), ())).bind fun (y1 : ((Bool × Unit) × Unit)) =>
  cond y1.1.1
   (cond (((x.1.1.2.1.1 == (0 : Int)) && (x.1.1.2.1.2 == (0 : Int))) && (x.1.1.2.2 == (0 : Int)))
    (some ((true, ()), ()))
    ((F 106 sg106 (((x.1.1.2.1, x.1.1.2.2), ()), ())).bind fun (y2 : ((Bool × Unit) × Unit)) =>
    some (y2.1, ())))
   (some ((false, ()), ())) := by kernel_rfl
theorem nf88 (F : FT) (J : JT sg88) (x : ((ByteArray × Unit) × Unit)) : nfE 88 sg88 Tryz.f88 F J x =
  J sh88_0 (seg Tryz.prog 88 0) (x.1, ((), ((x.1.1, 0), ()))) := by kernel_rfl
theorem nl88_0 (F : FT) (J : JT sg88) (x : ((ByteArray × Unit) × (Unit × ((ByteArray × Nat) × Unit)))) : nlE 88 0 sg88 Tryz.f88 sh88_0 F J x =
  cond (decide (x.2.2.1.2 < (ByteArray.size x.2.2.1.1)))
   (cond (decide ((runeAt x.2.2.1.1 x.2.2.1.2) < (32 : Int)))
    (some ((false, ()), ()))
    (cond (decide ((runeAt x.2.2.1.1 x.2.2.1.2) > (126 : Int)))
     (some ((false, ()), ()))
     (J sh88_0 (seg Tryz.prog 88 0) (x.1, ((), ((x.2.2.1.1, (x.2.2.1.2 + (runeW x.2.2.1.1 x.2.2.1.2))), ()))))))
   (some (((decide ((((ByteArray.size x.1.1) : Nat) : Int) ≤ (16 : Int))), ()), ())) := by kernel_rfl
theorem nf89 (F : FT) (J : JT sg89) (x : ((Int × Unit) × Unit)) : nfE 89 sg89 Tryz.f89 F J x =
  cond (decide (x.1.1 ≥ (-1099511627776 : Int)))
   (some (((decide (x.1.1 ≤ (1099511627776 : Int))), ()), ()))
   (some ((false, ()), ())) := by kernel_rfl
theorem nf90 (F : FT) (J : JT sg90) (x : ((Vert × Unit) × (WorkT × Unit))) : nfE 90 sg90 Tryz.f90 F J x =
  (F 107 sg107 ((x.1.1.1, ()), ((x.2.1.1, (x.2.1.2.1, x.2.1.2.2)), ()))).bind fun (y1 : ((Int × (Bool × Unit)) × (WorkT × Unit))) =>
  cond y1.1.2.1
   (some (((12 : Int), ()), ((y1.2.1.1, (y1.2.1.2.1, y1.2.1.2.2)), ())))
   (cond (decide ((((List.length y1.2.1.1) : Nat) : Int) ≥ (24 : Int)))
    (some (((3 : Int), ()), ((y1.2.1.1, (y1.2.1.2.1, y1.2.1.2.2)), ())))
    (cond (insOk y1.2.1.1 y1.1.1 ((x.1.1.1, (x.1.1.2.1, x.1.1.2.2)) :: ([] : List Vert)))
     (some (((0 : Int), ()), (((insRow y1.2.1.1 y1.1.1 ((x.1.1.1, (x.1.1.2.1, x.1.1.2.2)) :: ([] : List Vert))), (y1.2.1.2.1, y1.2.1.2.2)), ())))
     (none))) := by kernel_rfl
theorem nf91 (F : FT) (J : JT sg91) (x : ((OpT × Unit) × (WorkT × Unit))) : nfE 91 sg91 Tryz.f91 F J x =
  (F 107 sg107 ((x.1.1.2.1, ()), ((x.2.1.1, (x.2.1.2.1, x.2.1.2.2)), ()))).bind fun (y1 : ((Int × (Bool × Unit)) × (WorkT × Unit))) =>
  cond (not y1.1.2.1)
   (some (((13 : Int), ()), ((y1.2.1.1, (y1.2.1.2.1, y1.2.1.2.2)), ())))
   (cond ((decide ((0 : Int) ≤ y1.1.1)) && (decide (y1.1.1 < (((List.length y1.2.1.1) : Nat) : Int))))
    (((y1.2.1.1)[(Int.toNat y1.1.1)]?).bind fun (y2 : Vert) =>
    cond (decide ((((List.length y2.2.1) : Nat) : Int) > (0 : Int)))
     (some (((14 : Int), ()), ((y1.2.1.1, (y1.2.1.2.1, y1.2.1.2.2)), ())))
     (cond (delOk y1.2.1.1 y1.1.1 (IntKind.wrap .i64 (y1.1.1 + (1 : Int))))
      (some (((0 : Int), ()), (((delRow y1.2.1.1 y1.1.1 (IntKind.wrap .i64 (y1.1.1 + (1 : Int)))), (y1.2.1.2.1, y1.2.1.2.2)), ())))
      (none)))
    (none)) := by kernel_rfl
theorem nf93 (F : FT) (J : JT sg93) (x : ((OpT × Unit) × (WorkT × Unit))) : nfE 93 sg93 Tryz.f93 F J x =
  (F 115 sg115 ((x.1.1.2.1, ()), ((x.2.1.1, (x.2.1.2.1, x.2.1.2.2)), ()))).bind fun (y1 : ((Int × (Bool × Unit)) × (WorkT × Unit))) =>
  cond (not y1.1.2.1)
   (some (((13 : Int), ()), ((y1.2.1.1, (y1.2.1.2.1, y1.2.1.2.2)), ())))
   ((F 111 sg111 ((x.1.1.2.1, ()), ())).bind fun (y2 : ((Dart × (Dart × Unit)) × Unit)) =>
   J sh93_0 (seg Tryz.prog 93 0) ((y1.1.1, ((((List.length ((y2.1.1.1, y2.1.1.2) :: ((y2.1.2.1.1, y2.1.2.1.2) :: ([] : List Dart)))) : Nat) : Int), ((0 : Int), ()))), (((y1.2.1.1, (y1.2.1.2.1, y1.2.1.2.2)), (((y2.1.1.1, y2.1.1.2), ()), (((y2.1.2.1.1, y2.1.2.1.2), ()), ()))), (((y2.1.1.1, y2.1.1.2) :: ((y2.1.2.1.1, y2.1.2.1.2) :: ([] : List Dart))), ())))) := by kernel_rfl
theorem nl93_0 (F : FT) (J : JT sg93) (x : ((Int × (Int × (Int × Unit))) × ((WorkT × ((Dart × Unit) × ((Dart × Unit) × Unit))) × ((List Dart) × Unit)))) : nlE 93 0 sg93 Tryz.f93 sh93_0 F J x =
  cond (decide (x.1.2.2.1 < x.1.2.1))
   (cond ((decide ((0 : Int) ≤ x.1.2.2.1)) && (decide (x.1.2.2.1 < (((List.length x.2.2.1) : Nat) : Int))))
    (((x.2.2.1)[(Int.toNat x.1.2.2.1)]?).bind fun (y3 : Dart) =>
    (F 117 sg117 (((y3.1, y3.2), ()), ((x.2.1.1.1, (x.2.1.1.2.1, x.2.1.1.2.2)), ()))).bind fun (y4 : ((Dart × Unit) × (WorkT × Unit))) =>
    (F 116 sg116 (((y3.1, y3.2), ((y4.1.1.1, y4.1.1.2), ())), ((y4.2.1.1, (y4.2.1.2.1, y4.2.1.2.2)), ()))).bind fun (y5 : (Unit × (WorkT × Unit))) =>
    J sh93_0 (seg Tryz.prog 93 0) ((x.1.1, (x.1.2.1, ((IntKind.wrap .i64 (x.1.2.2.1 + (1 : Int))), ()))), (((y5.2.1.1, (y5.2.1.2.1, y5.2.1.2.2)), (((x.2.1.2.1.1.1, x.2.1.2.1.1.2), ()), (((x.2.1.2.2.1.1.1, x.2.1.2.2.1.1.2), ()), ()))), x.2.2)))
    (none))
   (J sh93_1 (seg Tryz.prog 93 1) ((x.1.1, ((((List.length ((x.2.1.2.1.1.1, x.2.1.2.1.1.2) :: ((x.2.1.2.2.1.1.1, x.2.1.2.2.1.1.2) :: ([] : List Dart)))) : Nat) : Int), ((0 : Int), ()))), (((x.2.1.1.1, (x.2.1.1.2.1, x.2.1.1.2.2)), ()), (((x.2.1.2.1.1.1, x.2.1.2.1.1.2) :: ((x.2.1.2.2.1.1.1, x.2.1.2.2.1.1.2) :: ([] : List Dart))), ())))) := by kernel_rfl
theorem nl93_1 (F : FT) (J : JT sg93) (x : ((Int × (Int × (Int × Unit))) × ((WorkT × Unit) × ((List Dart) × Unit)))) : nlE 93 1 sg93 Tryz.f93 sh93_1 F J x =
  cond (decide (x.1.2.2.1 < x.1.2.1))
   (cond ((decide ((0 : Int) ≤ x.1.2.2.1)) && (decide (x.1.2.2.1 < (((List.length x.2.2.1) : Nat) : Int))))
    (((x.2.2.1)[(Int.toNat x.1.2.2.1)]?).bind fun (y6 : Dart) =>
    (F 118 sg118 (((y6.1, y6.2), ()), ((x.2.1.1.1, (x.2.1.1.2.1, x.2.1.1.2.2)), ()))).bind fun (y7 : (((Option ((Fin 1) × Nat)) × Unit) × (WorkT × Unit))) =>
    optE y7.1.1
     (none) fun (p8 : ((Fin 1) × Nat)) =>
    cond (p8.1.val == 0)
     (((y7.2.1.1)[p8.2]?).bind fun (y9 : Vert) =>
     (F 119 sg119 ((y9.2.1, ((y6.1, y6.2), ())), ())).bind fun (y10 : (((List Dart) × Unit) × Unit)) =>
     ((y7.2.1.1)[p8.2]?).bind fun (y11 : Vert) =>
     J sh93_1 (seg Tryz.prog 93 1) ((x.1.1, (x.1.2.1, ((IntKind.wrap .i64 (x.1.2.2.1 + (1 : Int))), ()))), ((((List.set y7.2.1.1 p8.2 (y11.1, (y10.1.1, y11.2.2))), (y7.2.1.2.1, y7.2.1.2.2)), ()), x.2.2)))
     (none))
    (none))
   (cond (delOk x.2.1.1.2.1 x.1.1 (IntKind.wrap .i64 (x.1.1 + (1 : Int))))
    (some (((0 : Int), ()), ((x.2.1.1.1, ((delRow x.2.1.1.2.1 x.1.1 (IntKind.wrap .i64 (x.1.1 + (1 : Int)))), x.2.1.1.2.2)), ())))
    (none)) := by kernel_rfl
theorem nf94 (F : FT) (J : JT sg94) (x : ((OpT × Unit) × (WorkT × Unit))) : nfE 94 sg94 Tryz.f94 F J x =
  (F 115 sg115 ((x.1.1.2.1, ()), ((x.2.1.1, (x.2.1.2.1, x.2.1.2.2)), ()))).bind fun (y1 : ((Int × (Bool × Unit)) × (WorkT × Unit))) =>
  (F 107 sg107 ((x.1.1.2.2.1, ()), ((y1.2.1.1, (y1.2.1.2.1, y1.2.1.2.2)), ()))).bind fun (y2 : ((Int × (Bool × Unit)) × (WorkT × Unit))) =>
  (F 115 sg115 ((x.1.1.2.2.2.1, ()), ((y2.2.1.1, (y2.2.1.2.1, y2.2.1.2.2)), ()))).bind fun (y3 : ((Int × (Bool × Unit)) × (WorkT × Unit))) =>
  cond (not y1.1.2.1)
   (some (((13 : Int), ()), ((y3.2.1.1, (y3.2.1.2.1, y3.2.1.2.2)), ())))
   (cond y2.1.2.1
    (some (((12 : Int), ()), ((y3.2.1.1, (y3.2.1.2.1, y3.2.1.2.2)), ())))
    (cond y3.1.2.1
     (some (((12 : Int), ()), ((y3.2.1.1, (y3.2.1.2.1, y3.2.1.2.2)), ())))
     (cond (decide ((1 : Int) < (0 : Int)))
      (none)
      ((F 118 sg118 (((x.1.1.2.1, (bitsI .xor .i64 (1 : Int) (bitsI .and .i64 x.1.1.2.2.2.2.2.2.2.2 (1 : Int)))), ()), ((y3.2.1.1, (y3.2.1.2.1, y3.2.1.2.2)), ()))).bind fun (y4 : (((Option ((Fin 1) × Nat)) × Unit) × (WorkT × Unit))) =>
      optE y4.1.1
       (none) fun (p5 : ((Fin 1) × Nat)) =>
      cond (p5.1.val == 0)
       (((y4.2.1.1)[p5.2]?).bind fun (y6 : Vert) =>
       (F 122 sg122 (((x.1.1.2.2.2.1, (shrI .i64 x.1.1.2.2.2.2.2.2.2.2 (1 : Int))), ()), ())).bind fun (y7 : ((Dart × Unit) × Unit)) =>
       (F 121 sg121 ((y6.2.1, ((x.1.1.2.1, (bitsI .xor .i64 (1 : Int) (bitsI .and .i64 x.1.1.2.2.2.2.2.2.2.2 (1 : Int)))), ((y7.1.1.1, y7.1.1.2), ()))), ())).bind fun (y8 : (((List Dart) × Unit) × Unit)) =>
       ((y4.2.1.1)[p5.2]?).bind fun (y9 : Vert) =>
       (F 123 sg123 ((((x.1.1.2.1, (bitsI .xor .i64 (1 : Int) (bitsI .and .i64 x.1.1.2.2.2.2.2.2.2.2 (1 : Int)))) :: ((x.1.1.2.2.2.1, (shrI .i64 x.1.1.2.2.2.2.2.2.2.2 (1 : Int))) :: ([] : List Dart))), ()), ())).bind fun (y10 : (((List Dart) × Unit) × Unit)) =>
       (F 90 sg90 (((x.1.1.2.2.1, (y10.1.1, ((⟨#[]⟩ : ByteArray), (0 : Int)))), ()), (((List.set y4.2.1.1 p5.2 (y9.1, (y8.1.1, y9.2.2))), (y4.2.1.2.1, y4.2.1.2.2)), ()))).bind fun (y11 : ((Int × Unit) × (WorkT × Unit))) =>
       cond (y11.1.1 != (0 : Int))
        (some (y11.1, ((y11.2.1.1, (y11.2.1.2.1, y11.2.1.2.2)), ())))
        ((F 110 sg110 ((x.1.1.2.2.2.1, ()), ((y11.2.1.1, (y11.2.1.2.1, y11.2.1.2.2)), ()))).bind fun (y12 : ((Int × Unit) × (WorkT × Unit))) =>
        some (y12.1, ((y12.2.1.1, (y12.2.1.2.1, y12.2.1.2.2)), ()))))
       (none))))) := by kernel_rfl
theorem nf95 (F : FT) (J : JT sg95) (x : ((OpT × Unit) × (WorkT × Unit))) : nfE 95 sg95 Tryz.f95 F J x =
  (F 107 sg107 ((x.1.1.2.1, ()), ((x.2.1.1, (x.2.1.2.1, x.2.1.2.2)), ()))).bind fun (y1 : ((Int × (Bool × Unit)) × (WorkT × Unit))) =>
  cond (not y1.1.2.1)
   (some (((13 : Int), ()), ((y1.2.1.1, (y1.2.1.2.1, y1.2.1.2.2)), ())))
   (cond ((decide ((0 : Int) ≤ y1.1.1)) && (decide (y1.1.1 < (((List.length y1.2.1.1) : Nat) : Int))))
    (((y1.2.1.1)[(Int.toNat y1.1.1)]?).bind fun (y2 : Vert) =>
    cond ((((List.length y2.2.1) : Nat) : Int) != (2 : Int))
     (some (((14 : Int), ()), ((y1.2.1.1, (y1.2.1.2.1, y1.2.1.2.2)), ())))
     (((getI y2.2.1 (0 : Int))).bind fun (y3 : Dart) =>
     ((getI y2.2.1 (1 : Int))).bind fun (y4 : Dart) =>
     cond ((y3.1.1 == y4.1.1) && (y3.1.2 == y4.1.2))
      (some (((14 : Int), ()), ((y1.2.1.1, (y1.2.1.2.1, y1.2.1.2.2)), ())))
      (((getI y2.2.1 (0 : Int))).bind fun (y5 : Dart) =>
      ((getI y2.2.1 (1 : Int))).bind fun (y6 : Dart) =>
      cond ((y5.1.1 == x.1.1.2.2.2.1.1) && (y5.1.2 == x.1.1.2.2.2.1.2))
       (cond (not ((y5.1.1 == x.1.1.2.2.2.1.1) && (y5.1.2 == x.1.1.2.2.2.1.2)))
        (some (((14 : Int), ()), ((y1.2.1.1, (y1.2.1.2.1, y1.2.1.2.2)), ())))
        ((F 122 sg122 (((y5.1, y5.2), ()), ())).bind fun (y7 : ((Dart × Unit) × Unit)) =>
        cond (delOk y1.2.1.1 y1.1.1 (IntKind.wrap .i64 (y1.1.1 + (1 : Int))))
         ((F 118 sg118 (((y7.1.1.1, y7.1.1.2), ()), (((delRow y1.2.1.1 y1.1.1 (IntKind.wrap .i64 (y1.1.1 + (1 : Int)))), (y1.2.1.2.1, y1.2.1.2.2)), ()))).bind fun (y8 : (((Option ((Fin 1) × Nat)) × Unit) × (WorkT × Unit))) =>
         optE y8.1.1
          (none) fun (p9 : ((Fin 1) × Nat)) =>
         cond (p9.1.val == 0)
          (((y8.2.1.1)[p9.2]?).bind fun (y10 : Vert) =>
          (F 121 sg121 ((y10.2.1, ((y7.1.1.1, y7.1.1.2), ((y6.1, y6.2), ()))), ())).bind fun (y11 : (((List Dart) × Unit) × Unit)) =>
          ((y8.2.1.1)[p9.2]?).bind fun (y12 : Vert) =>
          (F 115 sg115 ((y5.1, ()), (((List.set y8.2.1.1 p9.2 (y12.1, (y11.1.1, y12.2.2))), (y8.2.1.2.1, y8.2.1.2.2)), ()))).bind fun (y13 : ((Int × (Bool × Unit)) × (WorkT × Unit))) =>
          cond (delOk y13.2.1.2.1 y13.1.1 (IntKind.wrap .i64 (y13.1.1 + (1 : Int))))
           (J sh95_0 (seg Tryz.prog 95 0) (((0 : Int), ()), (((y13.2.1.1, ((delRow y13.2.1.2.1 y13.1.1 (IntKind.wrap .i64 (y13.1.1 + (1 : Int)))), y13.2.1.2.2)), (((y6.1, y6.2), ()), (((y5.1, y5.2), ()), (((y7.1.1.1, y7.1.1.2), ()), ())))), ())))
           (none))
          (none))
         (none)))
       (cond (not ((y6.1.1 == x.1.1.2.2.2.1.1) && (y6.1.2 == x.1.1.2.2.2.1.2)))
        (some (((14 : Int), ()), ((y1.2.1.1, (y1.2.1.2.1, y1.2.1.2.2)), ())))
        ((F 122 sg122 (((y6.1, y6.2), ()), ())).bind fun (y14 : ((Dart × Unit) × Unit)) =>
        cond (delOk y1.2.1.1 y1.1.1 (IntKind.wrap .i64 (y1.1.1 + (1 : Int))))
         ((F 118 sg118 (((y14.1.1.1, y14.1.1.2), ()), (((delRow y1.2.1.1 y1.1.1 (IntKind.wrap .i64 (y1.1.1 + (1 : Int)))), (y1.2.1.2.1, y1.2.1.2.2)), ()))).bind fun (y15 : (((Option ((Fin 1) × Nat)) × Unit) × (WorkT × Unit))) =>
         optE y15.1.1
          (none) fun (p16 : ((Fin 1) × Nat)) =>
         cond (p16.1.val == 0)
          (((y15.2.1.1)[p16.2]?).bind fun (y17 : Vert) =>
          (F 121 sg121 ((y17.2.1, ((y14.1.1.1, y14.1.1.2), ((y5.1, y5.2), ()))), ())).bind fun (y18 : (((List Dart) × Unit) × Unit)) =>
          ((y15.2.1.1)[p16.2]?).bind fun (y19 : Vert) =>
          (F 115 sg115 ((y6.1, ()), (((List.set y15.2.1.1 p16.2 (y19.1, (y18.1.1, y19.2.2))), (y15.2.1.2.1, y15.2.1.2.2)), ()))).bind fun (y20 : ((Int × (Bool × Unit)) × (WorkT × Unit))) =>
          cond (delOk y20.2.1.2.1 y20.1.1 (IntKind.wrap .i64 (y20.1.1 + (1 : Int))))
           (J sh95_0 (seg Tryz.prog 95 0) (((0 : Int), ()), (((y20.2.1.1, ((delRow y20.2.1.2.1 y20.1.1 (IntKind.wrap .i64 (y20.1.1 + (1 : Int)))), y20.2.1.2.2)), (((y5.1, y5.2), ()), (((y6.1, y6.2), ()), (((y14.1.1.1, y14.1.1.2), ()), ())))), ())))
           (none))
          (none))
         (none))))))
    (none)) := by kernel_rfl
theorem nl95_0 (F : FT) (J : JT sg95) (x : ((Int × Unit) × ((WorkT × ((Dart × Unit) × ((Dart × Unit) × ((Dart × Unit) × Unit)))) × Unit))) : nlE 95 0 sg95 Tryz.f95 sh95_0 F J x =
  cond (decide (x.1.1 < (2 : Int)))
   (cond (x.2.1.2.2.1.1.2 == x.1.1)
    ((F 116 sg116 (((x.2.1.2.2.1.1.1, x.2.1.2.2.1.1.2), ((((0 : Int), (0 : Int)), (0 : Int)), ())), ((x.2.1.1.1, (x.2.1.1.2.1, x.2.1.1.2.2)), ()))).bind fun (y21 : (Unit × (WorkT × Unit))) =>
    J sh95_0 (seg Tryz.prog 95 0) (((IntKind.wrap .i64 (x.1.1 + (1 : Int))), ()), (((y21.2.1.1, (y21.2.1.2.1, y21.2.1.2.2)), (((x.2.1.2.1.1.1, x.2.1.2.1.1.2), ()), (((x.2.1.2.2.1.1.1, x.2.1.2.2.1.1.2), ()), (((x.2.1.2.2.2.1.1.1, x.2.1.2.2.2.1.1.2), ()), ())))), ())))
    ((F 116 sg116 (((x.2.1.2.2.2.1.1.1, x.2.1.2.2.2.1.1.2), ((x.2.1.2.1.1.1, x.2.1.2.1.1.2), ())), ((x.2.1.1.1, (x.2.1.1.2.1, x.2.1.1.2.2)), ()))).bind fun (y22 : (Unit × (WorkT × Unit))) =>
    J sh95_0 (seg Tryz.prog 95 0) (((IntKind.wrap .i64 (x.1.1 + (1 : Int))), ()), (((y22.2.1.1, (y22.2.1.2.1, y22.2.1.2.2)), (((x.2.1.2.1.1.1, x.2.1.2.1.1.2), ()), (((x.2.1.2.2.1.1.1, x.2.1.2.2.1.1.2), ()), (((x.2.1.2.2.2.1.1.1, x.2.1.2.2.2.1.1.2), ()), ())))), ()))))
   (some (((0 : Int), ()), ((x.2.1.1.1, (x.2.1.1.2.1, x.2.1.1.2.2)), ()))) := by kernel_rfl
theorem nf96 (F : FT) (J : JT sg96) (x : ((OpT × Unit) × (WorkT × Unit))) : nfE 96 sg96 Tryz.f96 F J x =
  (F 124 sg124 (((x.1.1.1, (x.1.1.2.1, (x.1.1.2.2.1, (x.1.1.2.2.2.1, ((x.1.1.2.2.2.2.1.1, (x.1.1.2.2.2.2.1.2.1, x.1.1.2.2.2.2.1.2.2)), ((x.1.1.2.2.2.2.2.1.1, (x.1.1.2.2.2.2.2.1.2.1, x.1.1.2.2.2.2.2.1.2.2)), (x.1.1.2.2.2.2.2.2.1, x.1.1.2.2.2.2.2.2.2))))))), ()), ((x.2.1.1, (x.2.1.2.1, x.2.1.2.2)), ()))).bind fun (y1 : (((Option ((Fin 2) × Nat)) × ((Option ((Fin 2) × Nat)) × Unit)) × (WorkT × Unit))) =>
  optE y1.1.1
   (optE y1.1.2.1
    (some (((13 : Int), ()), ((y1.2.1.1, (y1.2.1.2.1, y1.2.1.2.2)), ()))) fun (p2 : ((Fin 2) × Nat)) =>
   cond (p2.1.val == 0)
    (some (((13 : Int), ()), ((y1.2.1.1, (y1.2.1.2.1, y1.2.1.2.2)), ())))
    (cond (p2.1.val == 1)
    (some (((13 : Int), ()), ((y1.2.1.1, (y1.2.1.2.1, y1.2.1.2.2)), ())))
    (none))) fun (p3 : ((Fin 2) × Nat)) =>
  cond (p3.1.val == 0)
   (optE y1.1.2.1
    (cond (x.1.1.1 == (7 : Int))
     (((y1.2.1.1)[p3.2]?).bind fun (y10 : Vert) =>
     some (((0 : Int), ()), (((List.set y1.2.1.1 p3.2 (y10.1, (y10.2.1, (x.1.1.2.2.2.2.2.2.2.1, y10.2.2.2)))), (y1.2.1.2.1, y1.2.1.2.2)), ())))
     (none)) fun (p11 : ((Fin 2) × Nat)) =>
   cond (p11.1.val == 0)
    (cond (x.1.1.1 == (7 : Int))
     (((y1.2.1.1)[p3.2]?).bind fun (y14 : Vert) =>
     some (((0 : Int), ()), (((List.set y1.2.1.1 p3.2 (y14.1, (y14.2.1, (x.1.1.2.2.2.2.2.2.2.1, y14.2.2.2)))), (y1.2.1.2.1, y1.2.1.2.2)), ())))
     (((y1.2.1.1)[p11.2]?).bind fun (y15 : Vert) =>
     some (((0 : Int), ()), (((List.set y1.2.1.1 p11.2 (y15.1, (y15.2.1, (y15.2.2.1, x.1.1.2.2.2.2.2.2.2.2)))), (y1.2.1.2.1, y1.2.1.2.2)), ()))))
    (cond (p11.1.val == 1)
    (cond (x.1.1.1 == (7 : Int))
     (((y1.2.1.1)[p3.2]?).bind fun (y12 : Vert) =>
     some (((0 : Int), ()), (((List.set y1.2.1.1 p3.2 (y12.1, (y12.2.1, (x.1.1.2.2.2.2.2.2.2.1, y12.2.2.2)))), (y1.2.1.2.1, y1.2.1.2.2)), ())))
     (((y1.2.1.2.1)[p11.2]?).bind fun (y13 : EdgeT) =>
     some (((0 : Int), ()), ((y1.2.1.1, ((List.set y1.2.1.2.1 p11.2 (y13.1, (y13.2.1, x.1.1.2.2.2.2.2.2.2.2))), y1.2.1.2.2)), ()))))
    (none)))
   (cond (p3.1.val == 1)
   (optE y1.1.2.1
    (cond (x.1.1.1 == (7 : Int))
     (((y1.2.1.2.1)[p3.2]?).bind fun (y4 : EdgeT) =>
     some (((0 : Int), ()), ((y1.2.1.1, ((List.set y1.2.1.2.1 p3.2 (y4.1, (x.1.1.2.2.2.2.2.2.2.1, y4.2.2))), y1.2.1.2.2)), ())))
     (none)) fun (p5 : ((Fin 2) × Nat)) =>
   cond (p5.1.val == 0)
    (cond (x.1.1.1 == (7 : Int))
     (((y1.2.1.2.1)[p3.2]?).bind fun (y8 : EdgeT) =>
     some (((0 : Int), ()), ((y1.2.1.1, ((List.set y1.2.1.2.1 p3.2 (y8.1, (x.1.1.2.2.2.2.2.2.2.1, y8.2.2))), y1.2.1.2.2)), ())))
     (((y1.2.1.1)[p5.2]?).bind fun (y9 : Vert) =>
     some (((0 : Int), ()), (((List.set y1.2.1.1 p5.2 (y9.1, (y9.2.1, (y9.2.2.1, x.1.1.2.2.2.2.2.2.2.2)))), (y1.2.1.2.1, y1.2.1.2.2)), ()))))
    (cond (p5.1.val == 1)
    (cond (x.1.1.1 == (7 : Int))
     (((y1.2.1.2.1)[p3.2]?).bind fun (y6 : EdgeT) =>
     some (((0 : Int), ()), ((y1.2.1.1, ((List.set y1.2.1.2.1 p3.2 (y6.1, (x.1.1.2.2.2.2.2.2.2.1, y6.2.2))), y1.2.1.2.2)), ())))
     (((y1.2.1.2.1)[p5.2]?).bind fun (y7 : EdgeT) =>
     some (((0 : Int), ()), ((y1.2.1.1, ((List.set y1.2.1.2.1 p5.2 (y7.1, (y7.2.1, x.1.1.2.2.2.2.2.2.2.2))), y1.2.1.2.2)), ()))))
    (none)))
   (none)) := by kernel_rfl
theorem nf97 (F : FT) (J : JT sg97) (x : ((Dart × Unit) × Unit)) : nfE 97 sg97 Tryz.f97 F J x =
  (F 19 sg19 ((x.1.1.1, ()), ())).bind fun (y1 : ((Bool × Unit) × Unit)) =>
  cond y1.1.1
   (cond (x.1.1.2 == (0 : Int))
    (some ((true, ()), ()))
    (some (((x.1.1.2 == (1 : Int)), ()), ())))
   (some ((false, ()), ())) := by kernel_rfl
theorem nf98 (F : FT) (J : JT sg98) (x : ((StateT × (Dart × Unit)) × Unit)) : nfE 98 sg98 Tryz.f98 F J x =
  J sh98_0 (seg Tryz.prog 98 0) (((0 : Int), ()), ((((x.1.1.1, x.1.1.2), ()), (((x.1.2.1.1, x.1.2.1.2), ()), (((((0 : Int), (0 : Int)), (0 : Int)), ()), ()))), ())) := by kernel_rfl
theorem nl98_0 (F : FT) (J : JT sg98) (x : ((Int × Unit) × (((StateT × Unit) × ((Dart × Unit) × ((Dart × Unit) × Unit))) × Unit))) : nlE 98 0 sg98 Tryz.f98 sh98_0 F J x =
  cond (decide (x.1.1 ≤ (((List.length x.2.1.1.1.2) : Nat) : Int)))
   ((F 20 sg20 ((x.2.1.1.1.1, ((x.2.1.2.1.1.1, x.2.1.2.1.1.2), ())), ())).bind fun (y1 : ((ID × (Bool × Unit)) × Unit)) =>
   cond y1.1.2.1
    (some (((x.2.1.2.1.1.1, x.2.1.2.1.1.2), ()), ()))
    ((F 101 sg101 ((x.2.1.1.1.2, ((x.2.1.2.1.1.1, x.2.1.2.1.1.2), ())), ())).bind fun (y2 : ((Dart × (Bool × Unit)) × Unit)) =>
    cond (not y2.1.2.1)
     (some (((((0 : Int), (0 : Int)), (0 : Int)), ()), ()))
     (J sh98_0 (seg Tryz.prog 98 0) (((IntKind.wrap .i64 (x.1.1 + (1 : Int))), ()), ((((x.2.1.1.1.1, x.2.1.1.1.2), ()), (((y2.1.1.1, y2.1.1.2), ()), (((x.2.1.2.2.1.1.1, x.2.1.2.2.1.1.2), ()), ()))), ())))))
   (some (((((0 : Int), (0 : Int)), (0 : Int)), ()), ())) := by kernel_rfl
theorem nf99 (F : FT) (J : JT sg99) (x : ((Diag × (ID × ((List Dart) × Unit))) × Unit)) : nfE 99 sg99 Tryz.f99 F J x =
  (F 38 sg38 ((x.1.1, ()), ())).bind fun (y1 : ((((List Vert) × ((List EdgeT) × Unit)) × Unit) × Unit)) =>
  J sh99_0 (seg Tryz.prog 99 0) ((x.1.2.2.1, ((0 : Int), ())), (((x.1.2.1, ()), ((([] : List Vert), (([] : List EdgeT), ())), ((y1.1.1.1, y1.1.1.2), ()))), ())) := by kernel_rfl
theorem nl99_0 (F : FT) (J : JT sg99) (x : (((List Dart) × (Int × Unit)) × (((ID × Unit) × (((List Vert) × ((List EdgeT) × Unit)) × (((List Vert) × ((List EdgeT) × Unit)) × Unit))) × Unit))) : nlE 99 0 sg99 Tryz.f99 sh99_0 F J x =
  cond (decide (x.1.2.1 < (((List.length x.2.1.2.2.1.1) : Nat) : Int)))
   (cond ((decide ((0 : Int) ≤ x.1.2.1)) && (decide (x.1.2.1 < (((List.length x.2.1.2.2.1.1) : Nat) : Int))))
    (((x.2.1.2.2.1.1)[(Int.toNat x.1.2.1)]?).bind fun (y2 : Vert) =>
    cond ((y2.1.1 == x.2.1.1.1.1) && (y2.1.2 == x.2.1.1.1.2))
     (cond ((decide ((0 : Int) ≤ x.1.2.1)) && (decide (x.1.2.1 < (((List.length x.2.1.2.2.1.1) : Nat) : Int))))
      (((x.2.1.2.2.1.1)[(Int.toNat x.1.2.1)]?).bind fun (y3 : Vert) =>
      J sh99_0 (seg Tryz.prog 99 0) ((x.1.1, ((IntKind.wrap .i64 (x.1.2.1 + (1 : Int))), ())), (((x.2.1.1.1, ()), ((x.2.1.2.1.1, x.2.1.2.1.2), (((List.set x.2.1.2.2.1.1 (Int.toNat x.1.2.1) (y3.1, (x.1.1, y3.2.2))), x.2.1.2.2.1.2), ()))), ())))
      (none))
     (J sh99_0 (seg Tryz.prog 99 0) ((x.1.1, ((IntKind.wrap .i64 (x.1.2.1 + (1 : Int))), ())), (((x.2.1.1.1, ()), ((x.2.1.2.1.1, x.2.1.2.1.2), ((x.2.1.2.2.1.1, x.2.1.2.2.1.2), ()))), ()))))
    (none))
   (some (((x.2.1.2.2.1.1, x.2.1.2.2.1.2.1), ()), ())) := by kernel_rfl
theorem nf100 (F : FT) (J : JT sg100) (x : (((List Dart) × (Dart × (Dart × Unit))) × Unit)) : nfE 100 sg100 Tryz.f100 F J x =
  (F 24 sg24 ((x.1.1, ((x.1.2.2.1.1, x.1.2.2.1.2), ())), ())).bind fun (y1 : ((Int × Unit) × Unit)) =>
  cond (decide (y1.1.1 ≥ (0 : Int)))
   ((F 77 sg77 ((x.1.1, ()), ())).bind fun (y2 : (((List Dart) × Unit) × Unit)) =>
   some (y2.1, ()))
   ((F 24 sg24 ((x.1.1, ((x.1.2.1.1, x.1.2.1.2), ())), ())).bind fun (y3 : ((Int × Unit) × Unit)) =>
   J sh100_0 (seg Tryz.prog 100 0) ((x.1.1, ((max (0 : Int) y3.1.1 : Int), ((0 : Int), ()))), ((((x.1.2.2.1.1, x.1.2.2.1.2), ()), ()), (([] : List Dart), ())))) := by kernel_rfl
theorem nl100_0 (F : FT) (J : JT sg100) (x : (((List Dart) × (Int × (Int × Unit))) × (((Dart × Unit) × Unit) × ((List Dart) × Unit)))) : nlE 100 0 sg100 Tryz.f100 sh100_0 F J x =
  cond (decide (x.1.2.2.1 < (((List.length x.1.1) : Nat) : Int)))
   (((getI x.1.1 x.1.2.2.1)).bind fun (y4 : Dart) =>
   cond (fitsN (List.length x.2.2.1) (List.length ((y4.1, y4.2) :: ([] : List Dart))))
    (cond (x.1.2.2.1 == x.1.2.1)
     (cond (fitsN (List.length (x.2.2.1 ++ ((y4.1, y4.2) :: ([] : List Dart)))) (List.length ((x.2.1.1.1.1, x.2.1.1.1.2) :: ([] : List Dart))))
      (J sh100_0 (seg Tryz.prog 100 0) ((x.1.1, (x.1.2.1, ((IntKind.wrap .i64 (x.1.2.2.1 + (1 : Int))), ()))), ((((x.2.1.1.1.1, x.2.1.1.1.2), ()), ()), (((x.2.2.1 ++ ((y4.1, y4.2) :: ([] : List Dart))) ++ ((x.2.1.1.1.1, x.2.1.1.1.2) :: ([] : List Dart))), ()))))
      (none))
     (J sh100_0 (seg Tryz.prog 100 0) ((x.1.1, (x.1.2.1, ((IntKind.wrap .i64 (x.1.2.2.1 + (1 : Int))), ()))), ((((x.2.1.1.1.1, x.2.1.1.1.2), ()), ()), ((x.2.2.1 ++ ((y4.1, y4.2) :: ([] : List Dart))), ())))))
    (none))
   (cond ((((List.length x.1.1) : Nat) : Int) == (0 : Int))
    (cond (fitsN (List.length x.2.2.1) (List.length ((x.2.1.1.1.1, x.2.1.1.1.2) :: ([] : List Dart))))
     ((F 77 sg77 (((x.2.2.1 ++ ((x.2.1.1.1.1, x.2.1.1.1.2) :: ([] : List Dart))), ()), ())).bind fun (y5 : (((List Dart) × Unit) × Unit)) =>
     some (y5.1, ()))
     (none))
    ((F 77 sg77 (x.2.2, ())).bind fun (y6 : (((List Dart) × Unit) × Unit)) =>
    some (y6.1, ()))) := by kernel_rfl
theorem nf101 (F : FT) (J : JT sg101) (x : (((List GoneT) × (Dart × Unit)) × Unit)) : nfE 101 sg101 Tryz.f101 F J x =
  J sh101_0 (seg Tryz.prog 101 0) ((x.1.1, ((0 : Int), ())), ((((x.1.2.1.1, x.1.2.1.2), ()), (((((0 : Int), (0 : Int)), (0 : Int)), ()), ())), ())) := by kernel_rfl
theorem nl101_0 (F : FT) (J : JT sg101) (x : (((List GoneT) × (Int × Unit)) × (((Dart × Unit) × ((Dart × Unit) × Unit)) × Unit))) : nlE 101 0 sg101 Tryz.f101 sh101_0 F J x =
  cond (decide (x.1.2.1 < (((List.length x.1.1) : Nat) : Int)))
   (((getI x.1.1 x.1.2.1)).bind fun (y1 : GoneT) =>
   cond (((y1.1.1.1 == x.2.1.1.1.1.1) && (y1.1.1.2 == x.2.1.1.1.1.2)) && (y1.1.2 == x.2.1.1.1.2))
    (((getI x.1.1 x.1.2.1)).bind fun (y2 : GoneT) =>
    some (((y2.2.1, y2.2.2), (true, ())), ()))
    (J sh101_0 (seg Tryz.prog 101 0) ((x.1.1, ((IntKind.wrap .i64 (x.1.2.1 + (1 : Int))), ())), ((((x.2.1.1.1.1, x.2.1.1.1.2), ()), (((x.2.1.2.1.1.1, x.2.1.2.1.1.2), ()), ())), ()))))
   (some (((((0 : Int), (0 : Int)), (0 : Int)), (false, ())), ())) := by kernel_rfl
theorem nf102 (F : FT) (J : JT sg102) (x : (((List Dart) × (Dart × Unit)) × Unit)) : nfE 102 sg102 Tryz.f102 F J x =
  J sh102_0 (seg Tryz.prog 102 0) ((x.1.1, ((0 : Int), ())), ((((x.1.2.1.1, x.1.2.1.2), ()), ()), (([] : List Dart), ()))) := by kernel_rfl
theorem nl102_0 (F : FT) (J : JT sg102) (x : (((List Dart) × (Int × Unit)) × (((Dart × Unit) × Unit) × ((List Dart) × Unit)))) : nlE 102 0 sg102 Tryz.f102 sh102_0 F J x =
  cond (decide (x.1.2.1 < (((List.length x.1.1) : Nat) : Int)))
   (((getI x.1.1 x.1.2.1)).bind fun (y1 : Dart) =>
   cond (not (((y1.1.1 == x.2.1.1.1.1.1) && (y1.1.2 == x.2.1.1.1.1.2)) && (y1.2 == x.2.1.1.1.2)))
    (((getI x.1.1 x.1.2.1)).bind fun (y2 : Dart) =>
    cond (fitsN (List.length x.2.2.1) (List.length ((y2.1, y2.2) :: ([] : List Dart))))
     (J sh102_0 (seg Tryz.prog 102 0) ((x.1.1, ((IntKind.wrap .i64 (x.1.2.1 + (1 : Int))), ())), ((((x.2.1.1.1.1, x.2.1.1.1.2), ()), ()), ((x.2.2.1 ++ ((y2.1, y2.2) :: ([] : List Dart))), ()))))
     (none))
    (J sh102_0 (seg Tryz.prog 102 0) ((x.1.1, ((IntKind.wrap .i64 (x.1.2.1 + (1 : Int))), ())), ((((x.2.1.1.1.1, x.2.1.1.1.2), ()), ()), x.2.2))))
   ((F 77 sg77 (x.2.2, ())).bind fun (y3 : (((List Dart) × Unit) × Unit)) =>
   some (y3.1, ())) := by kernel_rfl
theorem nf103 (F : FT) (J : JT sg103) (x : (((List Dart) × (Dart × (Dart × Unit))) × Unit)) : nfE 103 sg103 Tryz.f103 F J x =
  cond (fitsN (List.length ([] : List Dart)) (List.length x.1.1))
   ((F 24 sg24 ((x.1.1, ((x.1.2.1.1, x.1.2.1.2), ())), ())).bind fun (y1 : ((Int × Unit) × Unit)) =>
   cond (decide (y1.1.1 ≥ (0 : Int)))
    ((F 24 sg24 ((x.1.1, ((x.1.2.2.1.1, x.1.2.2.1.2), ())), ())).bind fun (y2 : ((Int × Unit) × Unit)) =>
    cond (decide (y2.1.1 < (0 : Int)))
     (cond ((decide ((0 : Int) ≤ y1.1.1)) && (decide (y1.1.1 < (((List.length (([] : List Dart) ++ x.1.1)) : Nat) : Int))))
      ((((([] : List Dart) ++ x.1.1))[(Int.toNat y1.1.1)]?).bind fun (y3 : Dart) =>
      (F 77 sg77 (((List.set (([] : List Dart) ++ x.1.1) (Int.toNat y1.1.1) (x.1.2.2.1.1, x.1.2.2.1.2)), ()), ())).bind fun (y4 : (((List Dart) × Unit) × Unit)) =>
      some (y4.1, ()))
      (none))
     ((F 77 sg77 (((([] : List Dart) ++ x.1.1), ()), ())).bind fun (y5 : (((List Dart) × Unit) × Unit)) =>
     some (y5.1, ())))
    ((F 77 sg77 (((([] : List Dart) ++ x.1.1), ()), ())).bind fun (y6 : (((List Dart) × Unit) × Unit)) =>
    some (y6.1, ())))
   (none) := by kernel_rfl
theorem nf104 (F : FT) (J : JT sg104) (x : (((List Dart) × (Dart × Unit)) × Unit)) : nfE 104 sg104 Tryz.f104 F J x =
  (F 24 sg24 ((x.1.1, ((x.1.2.1.1, x.1.2.1.2), ())), ())).bind fun (y1 : ((Int × Unit) × Unit)) =>
  cond (decide (y1.1.1 < (0 : Int)))
   (some (((((0 : Int), (0 : Int)), (0 : Int)), (false, ())), ()))
   (cond ((((List.length x.1.1) : Nat) : Int) == (0 : Int))
    (none)
    (((getI x.1.1 (Int.tmod (IntKind.wrap .i64 (y1.1.1 + (1 : Int))) (((List.length x.1.1) : Nat) : Int)))).bind fun (y2 : Dart) =>
    some (((y2.1, y2.2), (true, ())), ()))) := by kernel_rfl
theorem nf106 (F : FT) (J : JT sg106) (x : ((Dart × Unit) × Unit)) : nfE 106 sg106 Tryz.f106 F J x =
  (F 86 sg86 ((x.1.1.1, ()), ())).bind fun (y1 : ((Bool × Unit) × Unit)) =>
  cond y1.1.1
   (some ((((bitsI .andNot .i64 x.1.1.2 (1 : Int)) == (0 : Int)), ()), ()))
   (some ((false, ()), ())) := by kernel_rfl
theorem nf107 (F : FT) (J : JT sg107) (x : ((ID × Unit) × (WorkT × Unit))) : nfE 107 sg107 Tryz.f107 F J x =
  (F 127125 sg127125 ((x.2.1.1, (x.1.1, ())), ())).bind fun (y1 : ((Int × (Bool × Unit)) × Unit)) =>
  some ((y1.1.1, y1.1.2), ((x.2.1.1, (x.2.1.2.1, x.2.1.2.2)), ())) := by kernel_rfl
theorem nf110 (F : FT) (J : JT sg110) (x : ((ID × Unit) × (WorkT × Unit))) : nfE 110 sg110 Tryz.f110 F J x =
  (F 115 sg115 ((x.1.1, ()), ((x.2.1.1, (x.2.1.2.1, x.2.1.2.2)), ()))).bind fun (y1 : ((Int × (Bool × Unit)) × (WorkT × Unit))) =>
  cond y1.1.2.1
   (some (((12 : Int), ()), ((y1.2.1.1, (y1.2.1.2.1, y1.2.1.2.2)), ())))
   (cond (decide ((((List.length y1.2.1.2.1) : Nat) : Int) ≥ (40 : Int)))
    (some (((3 : Int), ()), ((y1.2.1.1, (y1.2.1.2.1, y1.2.1.2.2)), ())))
    (cond (insOk y1.2.1.2.1 y1.1.1 ((x.1.1, ((⟨#[]⟩ : ByteArray), (0 : Int))) :: ([] : List EdgeT)))
     (some (((0 : Int), ()), ((y1.2.1.1, ((insRow y1.2.1.2.1 y1.1.1 ((x.1.1, ((⟨#[]⟩ : ByteArray), (0 : Int))) :: ([] : List EdgeT))), y1.2.1.2.2)), ())))
     (none))) := by kernel_rfl
theorem nf111 (F : FT) (J : JT sg111) (x : ((ID × Unit) × Unit)) : nfE 111 sg111 Tryz.f111 F J x =
  some (((x.1.1, (0 : Int)), ((x.1.1, (1 : Int)), ())), ()) := by kernel_rfl
theorem nf115 (F : FT) (J : JT sg115) (x : ((ID × Unit) × (WorkT × Unit))) : nfE 115 sg115 Tryz.f115 F J x =
  (F 139137 sg139137 ((x.2.1.2.1, (x.1.1, ())), ())).bind fun (y1 : ((Int × (Bool × Unit)) × Unit)) =>
  some ((y1.1.1, y1.1.2), ((x.2.1.1, (x.2.1.2.1, x.2.1.2.2)), ())) := by kernel_rfl
theorem nf116 (F : FT) (J : JT sg116) (x : ((Dart × (Dart × Unit)) × (WorkT × Unit))) : nfE 116 sg116 Tryz.f116 F J x =
  (F 139 sg139 ((x.2.1.2.2.1, (((x.1.1.1, x.1.1.2), (x.1.2.1.1, x.1.2.1.2)), ())), ())).bind fun (y1 : (((List GoneT) × Unit) × Unit)) =>
  some ((), ((x.2.1.1, (x.2.1.2.1, y1.1)), ())) := by kernel_rfl
theorem nf117 (F : FT) (J : JT sg117) (x : ((Dart × Unit) × (WorkT × Unit))) : nfE 117 sg117 Tryz.f117 F J x =
  J sh117_0 (seg Tryz.prog 117 0) (((0 : Int), ()), (((x.2.1.1, (x.2.1.2.1, x.2.1.2.2)), (((x.1.1.1, x.1.1.2), ()), (((((0 : Int), (0 : Int)), (0 : Int)), ()), (((x.1.1.1, x.1.1.2), ()), ())))), ())) := by kernel_rfl
theorem nl117_0 (F : FT) (J : JT sg117) (x : ((Int × Unit) × ((WorkT × ((Dart × Unit) × ((Dart × Unit) × ((Dart × Unit) × Unit)))) × Unit))) : nlE 117 0 sg117 Tryz.f117 sh117_0 F J x =
  cond (decide (x.1.1 < (2 : Int)))
   ((F 118 sg118 (((x.2.1.2.1.1.1, x.2.1.2.1.1.2), ()), ((x.2.1.1.1, (x.2.1.1.2.1, x.2.1.1.2.2)), ()))).bind fun (y1 : (((Option ((Fin 1) × Nat)) × Unit) × (WorkT × Unit))) =>
   optE y1.1.1
    (none) fun (p2 : ((Fin 1) × Nat)) =>
   cond (p2.1.val == 0)
    (((y1.2.1.1)[p2.2]?).bind fun (y3 : Vert) =>
    (F 140 sg140 ((y3.2.1, ((x.2.1.2.2.2.1.1.1, x.2.1.2.2.2.1.1.2), ())), ())).bind fun (y4 : ((Dart × (Bool × Unit)) × Unit)) =>
    cond (not ((y4.1.1.1.1 == x.2.1.2.1.1.1.1) && (y4.1.1.1.2 == x.2.1.2.1.1.1.2)))
     (some (((y4.1.1.1, y4.1.1.2), ()), ((y1.2.1.1, (y1.2.1.2.1, y1.2.1.2.2)), ())))
     (J sh117_0 (seg Tryz.prog 117 0) (((IntKind.wrap .i64 (x.1.1 + (1 : Int))), ()), (((y1.2.1.1, (y1.2.1.2.1, y1.2.1.2.2)), (((x.2.1.2.1.1.1, x.2.1.2.1.1.2), ()), (((x.2.1.2.2.1.1.1, x.2.1.2.2.1.1.2), ()), (((y4.1.1.1, y4.1.1.2), ()), ())))), ()))))
    (none))
   (some (((((0 : Int), (0 : Int)), (0 : Int)), ()), ((x.2.1.1.1, (x.2.1.1.2.1, x.2.1.1.2.2)), ()))) := by kernel_rfl
theorem nf118 (F : FT) (J : JT sg118) (x : ((Dart × Unit) × (WorkT × Unit))) : nfE 118 sg118 Tryz.f118 F J x =
  J sh118_0 (seg Tryz.prog 118 0) (((((List.length x.2.1.1) : Nat) : Int), ((0 : Int), ())), (((x.2.1.1, (x.2.1.2.1, x.2.1.2.2)), (((x.1.1.1, x.1.1.2), ()), ())), ())) := by kernel_rfl
theorem nl118_0 (F : FT) (J : JT sg118) (x : ((Int × (Int × Unit)) × ((WorkT × ((Dart × Unit) × Unit)) × Unit))) : nlE 118 0 sg118 Tryz.f118 sh118_0 F J x =
  cond (decide (x.1.2.1 < x.1.1))
   (cond ((decide ((0 : Int) ≤ x.1.2.1)) && (decide (x.1.2.1 < (((List.length x.2.1.1.1) : Nat) : Int))))
    (((x.2.1.1.1)[(Int.toNat x.1.2.1)]?).bind fun (y1 : Vert) =>
    (F 133 sg133 ((y1.2.1, ((x.2.1.2.1.1.1, x.2.1.2.1.1.2), ())), ())).bind fun (y2 : ((Bool × Unit) × Unit)) =>
    cond y2.1.1
     (some (((some ((⟨0, by decide⟩ : (Fin 1)), (Int.toNat x.1.2.1))), ()), ((x.2.1.1.1, (x.2.1.1.2.1, x.2.1.1.2.2)), ())))
     (J sh118_0 (seg Tryz.prog 118 0) ((x.1.1, ((IntKind.wrap .i64 (x.1.2.1 + (1 : Int))), ())), (((x.2.1.1.1, (x.2.1.1.2.1, x.2.1.1.2.2)), (((x.2.1.2.1.1.1, x.2.1.2.1.1.2), ()), ())), ()))))
    (none))
   (some ((none, ()), ((x.2.1.1.1, (x.2.1.1.2.1, x.2.1.1.2.2)), ()))) := by kernel_rfl
theorem nf119 (F : FT) (J : JT sg119) (x : (((List Dart) × (Dart × Unit)) × Unit)) : nfE 119 sg119 Tryz.f119 F J x =
  (F 134 sg134 ((x.1.1, ((x.1.2.1.1, x.1.2.1.2), ())), ())).bind fun (y1 : ((Int × Unit) × Unit)) =>
  cond (decide (y1.1.1 < (0 : Int)))
   ((F 123 sg123 ((x.1.1, ()), ())).bind fun (y2 : (((List Dart) × Unit) × Unit)) =>
   some (y2.1, ()))
   (cond (okBounds (List.length x.1.1) (0 : Int) y1.1.1)
    (cond (okBounds (List.length x.1.1) (IntKind.wrap .i64 (y1.1.1 + (1 : Int))) (((List.length x.1.1) : Nat) : Int))
     ((F 135 sg135 ((((cut x.1.1 (0 : Int) y1.1.1) :: ((cut x.1.1 (IntKind.wrap .i64 (y1.1.1 + (1 : Int))) (((List.length x.1.1) : Nat) : Int)) :: ([] : List (List Dart)))), ()), ())).bind fun (y3 : (((List Dart) × Unit) × Unit)) =>
     some (y3.1, ()))
     (none))
    (none)) := by kernel_rfl
theorem nf121 (F : FT) (J : JT sg121) (x : (((List Dart) × (Dart × (Dart × Unit))) × Unit)) : nfE 121 sg121 Tryz.f121 F J x =
  (F 134 sg134 ((x.1.1, ((x.1.2.1.1, x.1.2.1.2), ())), ())).bind fun (y1 : ((Int × Unit) × Unit)) =>
  cond (decide (y1.1.1 < (0 : Int)))
   ((F 123 sg123 ((x.1.1, ()), ())).bind fun (y2 : (((List Dart) × Unit) × Unit)) =>
   some (y2.1, ()))
   ((F 133 sg133 ((x.1.1, ((x.1.2.2.1.1, x.1.2.2.1.2), ())), ())).bind fun (y3 : ((Bool × Unit) × Unit)) =>
   cond y3.1.1
    ((F 123 sg123 ((x.1.1, ()), ())).bind fun (y4 : (((List Dart) × Unit) × Unit)) =>
    some (y4.1, ()))
    (cond (okBounds (List.length x.1.1) (0 : Int) y1.1.1)
     (cond (okBounds (List.length x.1.1) (IntKind.wrap .i64 (y1.1.1 + (1 : Int))) (((List.length x.1.1) : Nat) : Int))
      ((F 135 sg135 ((((cut x.1.1 (0 : Int) y1.1.1) :: (((x.1.2.2.1.1, x.1.2.2.1.2) :: ([] : List Dart)) :: ((cut x.1.1 (IntKind.wrap .i64 (y1.1.1 + (1 : Int))) (((List.length x.1.1) : Nat) : Int)) :: ([] : List (List Dart))))), ()), ())).bind fun (y5 : (((List Dart) × Unit) × Unit)) =>
      some (y5.1, ()))
      (none))
     (none))) := by kernel_rfl
theorem nf122 (F : FT) (J : JT sg122) (x : ((Dart × Unit) × Unit)) : nfE 122 sg122 Tryz.f122 F J x =
  some (((x.1.1.1, (bitsI .xor .i64 x.1.1.2 (1 : Int))), ()), ()) := by kernel_rfl
theorem nf123 (F : FT) (J : JT sg123) (x : (((List Dart) × Unit) × Unit)) : nfE 123 sg123 Tryz.f123 F J x =
  cond ((((List.length x.1.1) : Nat) : Int) == (0 : Int))
   (some ((([] : List Dart), ()), ()))
   ((F 143141 sg143141 (x.1, ())).bind fun (y1 : ((Dart × Unit) × Unit)) =>
   (F 134 sg134 ((x.1.1, ((y1.1.1.1, y1.1.1.2), ())), ())).bind fun (y2 : ((Int × Unit) × Unit)) =>
   cond (okBounds (List.length x.1.1) y2.1.1 (((List.length x.1.1) : Nat) : Int))
    (cond (okBounds (List.length x.1.1) (0 : Int) y2.1.1)
     ((F 143 sg143 ((((cut x.1.1 y2.1.1 (((List.length x.1.1) : Nat) : Int)) :: ((cut x.1.1 (0 : Int) y2.1.1) :: ([] : List (List Dart)))), ()), ())).bind fun (y3 : (((List Dart) × Unit) × Unit)) =>
     some (y3.1, ()))
     (none))
    (none)) := by kernel_rfl
theorem nf124 (F : FT) (J : JT sg124) (x : ((OpT × Unit) × (WorkT × Unit))) : nfE 124 sg124 Tryz.f124 F J x =
  cond x.1.1.2.2.2.2.2.2.1
   ((F 115 sg115 ((x.1.1.2.1, ()), ((x.2.1.1, (x.2.1.2.1, x.2.1.2.2)), ()))).bind fun (y1 : ((Int × (Bool × Unit)) × (WorkT × Unit))) =>
   cond y1.1.2.1
    (cond ((decide ((0 : Int) ≤ y1.1.1)) && (decide (y1.1.1 < (((List.length y1.2.1.2.1) : Nat) : Int))))
     (cond ((decide ((0 : Int) ≤ y1.1.1)) && (decide (y1.1.1 < (((List.length y1.2.1.2.1) : Nat) : Int))))
      (some (((some ((⟨1, by decide⟩ : (Fin 2)), (Int.toNat y1.1.1))), ((some ((⟨1, by decide⟩ : (Fin 2)), (Int.toNat y1.1.1))), ())), ((y1.2.1.1, (y1.2.1.2.1, y1.2.1.2.2)), ())))
      (none))
     (none))
    (some ((none, (none, ())), ((y1.2.1.1, (y1.2.1.2.1, y1.2.1.2.2)), ()))))
   ((F 107 sg107 ((x.1.1.2.1, ()), ((x.2.1.1, (x.2.1.2.1, x.2.1.2.2)), ()))).bind fun (y2 : ((Int × (Bool × Unit)) × (WorkT × Unit))) =>
   cond y2.1.2.1
    (cond ((decide ((0 : Int) ≤ y2.1.1)) && (decide (y2.1.1 < (((List.length y2.2.1.1) : Nat) : Int))))
     (cond ((decide ((0 : Int) ≤ y2.1.1)) && (decide (y2.1.1 < (((List.length y2.2.1.1) : Nat) : Int))))
      (some (((some ((⟨0, by decide⟩ : (Fin 2)), (Int.toNat y2.1.1))), ((some ((⟨0, by decide⟩ : (Fin 2)), (Int.toNat y2.1.1))), ())), ((y2.2.1.1, (y2.2.1.2.1, y2.2.1.2.2)), ())))
      (none))
     (none))
    (some ((none, (none, ())), ((y2.2.1.1, (y2.2.1.2.1, y2.2.1.2.2)), ())))) := by kernel_rfl
theorem nf126 (F : FT) (J : JT sg126) (x : ((Vert × (ID × Unit)) × Unit)) : nfE 126 sg126 Tryz.f126 F J x =
  (F 127 sg127 ((x.1.1.1, (x.1.2.1, ())), ())).bind fun (y1 : ((Int × Unit) × Unit)) =>
  some (y1.1, ()) := by kernel_rfl
theorem nf127 (F : FT) (J : JT sg127) (x : ((ID × (ID × Unit)) × Unit)) : nfE 127 sg127 Tryz.f127 F J x =
  cond ((x.1.1.1 == x.1.2.1.1) && (x.1.1.2 == x.1.2.1.2))
   (some (((0 : Int), ()), ()))
   ((F 145 sg145 ((x.1.1.1, (x.1.2.1.1, ())), ())).bind fun (y1 : ((Int × Unit) × Unit)) =>
   (F 145 sg145 ((x.1.1.2, (x.1.2.1.2, ())), ())).bind fun (y2 : ((Int × Unit) × Unit)) =>
   (F 144 sg144 (((y1.1.1 :: (y2.1.1 :: ([] : List Int))), ()), ())).bind fun (y3 : ((Int × Unit) × Unit)) =>
   some (y3.1, ())) := by kernel_rfl
theorem nf133 (F : FT) (J : JT sg133) (x : (((List Dart) × (Dart × Unit)) × Unit)) : nfE 133 sg133 Tryz.f133 F J x =
  (F 134 sg134 ((x.1.1, ((x.1.2.1.1, x.1.2.1.2), ())), ())).bind fun (y1 : ((Int × Unit) × Unit)) =>
  some (((decide (y1.1.1 ≥ (0 : Int))), ()), ()) := by kernel_rfl
theorem nf134 (F : FT) (J : JT sg134) (x : (((List Dart) × (Dart × Unit)) × Unit)) : nfE 134 sg134 Tryz.f134 F J x =
  J sh134_0 (seg Tryz.prog 134 0) ((x.1.1, ((((List.length x.1.1) : Nat) : Int), ((0 : Int), ()))), ((((x.1.2.1.1, x.1.2.1.2), ()), ()), ())) := by kernel_rfl
theorem nl134_0 (F : FT) (J : JT sg134) (x : (((List Dart) × (Int × (Int × Unit))) × (((Dart × Unit) × Unit) × Unit))) : nlE 134 0 sg134 Tryz.f134 sh134_0 F J x =
  cond (decide (x.1.2.2.1 < x.1.2.1))
   (((getI x.1.1 x.1.2.2.1)).bind fun (y1 : Dart) =>
   cond (((x.2.1.1.1.1.1 == y1.1.1) && (x.2.1.1.1.1.2 == y1.1.2)) && (x.2.1.1.1.2 == y1.2))
    (some (x.1.2.2, ()))
    (J sh134_0 (seg Tryz.prog 134 0) ((x.1.1, (x.1.2.1, ((IntKind.wrap .i64 (x.1.2.2.1 + (1 : Int))), ()))), ((((x.2.1.1.1.1, x.2.1.1.1.2), ()), ()), ()))))
   (some (((-1 : Int), ()), ())) := by kernel_rfl
theorem nf135 (F : FT) (J : JT sg135) (x : (((List (List Dart)) × Unit) × Unit)) : nfE 135 sg135 Tryz.f135 F J x =
  (F 143 sg143 (x.1, ())).bind fun (y1 : (((List Dart) × Unit) × Unit)) =>
  (F 123 sg123 (y1.1, ())).bind fun (y2 : (((List Dart) × Unit) × Unit)) =>
  some (y2.1, ()) := by kernel_rfl
theorem nf138 (F : FT) (J : JT sg138) (x : ((EdgeT × (ID × Unit)) × Unit)) : nfE 138 sg138 Tryz.f138 F J x =
  (F 127 sg127 ((x.1.1.1, (x.1.2.1, ())), ())).bind fun (y1 : ((Int × Unit) × Unit)) =>
  some (y1.1, ()) := by kernel_rfl
theorem nf139 (F : FT) (J : JT sg139) (x : (((List GoneT) × (GoneT × Unit)) × Unit)) : nfE 139 sg139 Tryz.f139 F J x =
  (F 156154 sg156154 ((x.1.1, ((x.1.2.1.1.1, x.1.2.1.1.2), ())), ())).bind fun (y1 : ((Int × (Bool × Unit)) × Unit)) =>
  (F 61 sg61 ((x.1.1, ()), ())).bind fun (y2 : (((List GoneT) × Unit) × Unit)) =>
  cond y1.1.2.1
   (cond ((decide ((0 : Int) ≤ y1.1.1)) && (decide (y1.1.1 < (((List.length y2.1.1) : Nat) : Int))))
    (((y2.1.1)[(Int.toNat y1.1.1)]?).bind fun (y3 : GoneT) =>
    some (((List.set y2.1.1 (Int.toNat y1.1.1) ((x.1.2.1.1.1, x.1.2.1.1.2), (x.1.2.1.2.1, x.1.2.1.2.2))), ()), ()))
    (none))
   (cond (decide ((((List.length x.1.1) : Nat) : Int) < (400 : Int)))
    (cond (insOk y2.1.1 y1.1.1 (((x.1.2.1.1.1, x.1.2.1.1.2), (x.1.2.1.2.1, x.1.2.1.2.2)) :: ([] : List GoneT)))
     (some (((insRow y2.1.1 y1.1.1 (((x.1.2.1.1.1, x.1.2.1.1.2), (x.1.2.1.2.1, x.1.2.1.2.2)) :: ([] : List GoneT))), ()), ()))
     (none))
    (some (y2.1, ()))) := by kernel_rfl
theorem nf140 (F : FT) (J : JT sg140) (x : (((List Dart) × (Dart × Unit)) × Unit)) : nfE 140 sg140 Tryz.f140 F J x =
  (F 157 sg157 ((x.1.1, ((x.1.2.1.1, x.1.2.1.2), ((IntKind.wrap .i64 ((((List.length x.1.1) : Nat) : Int) - (1 : Int))), ()))), ())).bind fun (y1 : ((Dart × (Bool × Unit)) × Unit)) =>
  some (((y1.1.1.1, y1.1.1.2), y1.1.2), ()) := by kernel_rfl
theorem nf142 (F : FT) (J : JT sg142) (x : ((Dart × (Dart × Unit)) × Unit)) : nfE 142 sg142 Tryz.f142 F J x =
  (F 127 sg127 ((x.1.1.1, (x.1.2.1.1, ())), ())).bind fun (y1 : ((Int × Unit) × Unit)) =>
  (F 145 sg145 ((x.1.1.2, (x.1.2.1.2, ())), ())).bind fun (y2 : ((Int × Unit) × Unit)) =>
  (F 144 sg144 (((y1.1.1 :: (y2.1.1 :: ([] : List Int))), ()), ())).bind fun (y3 : ((Int × Unit) × Unit)) =>
  some (y3.1, ()) := by kernel_rfl
theorem nf143 (F : FT) (J : JT sg143) (x : (((List (List Dart)) × Unit) × Unit)) : nfE 143 sg143 Tryz.f143 F J x =
  J sh143_0 (seg Tryz.prog 143 0) ((x.1.1, ((0 : Int), (x.1.1, ((((List.length x.1.1) : Nat) : Int), ((0 : Int), ()))))), ((), ())) := by kernel_rfl
theorem nl143_0 (F : FT) (J : JT sg143) (x : (((List (List Dart)) × (Int × ((List (List Dart)) × (Int × (Int × Unit))))) × (Unit × Unit))) : nlE 143 0 sg143 Tryz.f143 sh143_0 F J x =
  cond (decide (x.1.2.2.2.2.1 < x.1.2.2.2.1))
   (((getI x.1.2.2.1 x.1.2.2.2.2.1)).bind fun (y1 : (List Dart)) =>
   cond (decide ((IntKind.wrap .i64 (x.1.2.1 + (((List.length y1) : Nat) : Int))) < (0 : Int)))
    (none)
    (J sh143_0 (seg Tryz.prog 143 0) ((x.1.1, ((IntKind.wrap .i64 (x.1.2.1 + (((List.length y1) : Nat) : Int))), (x.1.2.2.1, (x.1.2.2.2.1, ((IntKind.wrap .i64 (x.1.2.2.2.2.1 + (1 : Int))), ()))))), ((), ()))))
   (cond (growOk x.1.2.1)
    (J sh143_1 (seg Tryz.prog 143 1) ((x.1.1, ((((List.length x.1.1) : Nat) : Int), ((0 : Int), ()))), ((), (([] : List Dart), ()))))
    (none)) := by kernel_rfl
theorem nl143_1 (F : FT) (J : JT sg143) (x : (((List (List Dart)) × (Int × (Int × Unit))) × (Unit × ((List Dart) × Unit)))) : nlE 143 1 sg143 Tryz.f143 sh143_1 F J x =
  cond (decide (x.1.2.2.1 < x.1.2.1))
   (((getI x.1.1 x.1.2.2.1)).bind fun (y2 : (List Dart)) =>
   cond (fitsN (List.length x.2.2.1) (List.length y2))
    (J sh143_1 (seg Tryz.prog 143 1) ((x.1.1, (x.1.2.1, ((IntKind.wrap .i64 (x.1.2.2.1 + (1 : Int))), ()))), ((), ((x.2.2.1 ++ y2), ()))))
    (none))
   (some (x.2.2, ())) := by kernel_rfl
theorem nf144 (F : FT) (J : JT sg144) (x : (((List Int) × Unit) × Unit)) : nfE 144 sg144 Tryz.f144 F J x =
  J sh144_0 (seg Tryz.prog 144 0) (((0 : Int), (x.1.1, ((((List.length x.1.1) : Nat) : Int), ((0 : Int), ())))), ((), ())) := by kernel_rfl
theorem nl144_0 (F : FT) (J : JT sg144) (x : ((Int × ((List Int) × (Int × (Int × Unit)))) × (Unit × Unit))) : nlE 144 0 sg144 Tryz.f144 sh144_0 F J x =
  cond (decide (x.1.2.2.2.1 < x.1.2.2.1))
   (((getI x.1.2.1 x.1.2.2.2.1)).bind fun (y1 : Int) =>
   cond (y1 != x.1.1)
    (some ((y1, ()), ()))
    (J sh144_0 (seg Tryz.prog 144 0) ((x.1.1, (x.1.2.1, (x.1.2.2.1, ((IntKind.wrap .i64 (x.1.2.2.2.1 + (1 : Int))), ())))), ((), ()))))
   (some ((x.1.1, ()), ())) := by kernel_rfl
theorem nf145 (F : FT) (J : JT sg145) (x : ((Int × (Int × Unit)) × Unit)) : nfE 145 sg145 Tryz.f145 F J x =
  (F 159 sg159 ((x.1.1, ()), ())).bind fun (y1 : ((Bool × Unit) × Unit)) =>
  (F 159 sg159 (x.1.2, ())).bind fun (y2 : ((Bool × Unit) × Unit)) =>
  cond y1.1.1
   (cond y2.1.1
    (some (((0 : Int), ()), ()))
    (some (((-1 : Int), ()), ())))
   (cond y2.1.1
    (some (((1 : Int), ()), ()))
    (cond (decide (x.1.1 < x.1.2.1))
     (some (((-1 : Int), ()), ()))
     (cond (decide (x.1.1 > x.1.2.1))
      (some (((1 : Int), ()), ()))
      (some (((0 : Int), ()), ()))))) := by kernel_rfl
theorem nf155 (F : FT) (J : JT sg155) (x : ((GoneT × (Dart × Unit)) × Unit)) : nfE 155 sg155 Tryz.f155 F J x =
  (F 142 sg142 (((x.1.1.1.1, x.1.1.1.2), ((x.1.2.1.1, x.1.2.1.2), ())), ())).bind fun (y1 : ((Int × Unit) × Unit)) =>
  some (y1.1, ()) := by kernel_rfl
end Go.Vs

set_option linter.unusedVariables false
set_option maxRecDepth 1000000
set_option maxHeartbeats 0
namespace Go.Vs
open Go.Proofs
theorem nf157 (F : FT) (J : JT sg157) (x : (((List Dart) × (Dart × (Int × Unit))) × Unit)) : nfE 157 sg157 Tryz.f157 F J x =
  (F 134 sg134 ((x.1.1, ((x.1.2.1.1, x.1.2.1.2), ())), ())).bind fun (y1 : ((Int × Unit) × Unit)) =>
  cond (decide (y1.1.1 < (0 : Int)))
   (some (((((0 : Int), (0 : Int)), (0 : Int)), (false, ())), ()))
   (cond ((((List.length x.1.1) : Nat) : Int) == (0 : Int))
    (none)
    (((getI x.1.1 (Int.tmod (IntKind.wrap .i64 (y1.1.1 + x.1.2.2.1)) (((List.length x.1.1) : Nat) : Int)))).bind fun (y2 : Dart) =>
    some (((y2.1, y2.2), (true, ())), ()))) := by kernel_rfl
theorem nf159 (F : FT) (J : JT sg159) (x : ((Int × Unit) × Unit)) : nfE 159 sg159 Tryz.f159 F J x =
  some (((x.1.1 != x.1.1), ()), ()) := by kernel_rfl
theorem nf127125 (F : FT) (J : JT sg127125) (x : (((List Vert) × (ID × Unit)) × Unit)) : nfE 127125 sg127125 Tryz.f125 F J x =
  J sh127125_0 (seg Tryz.prog 125 0) ((x.1.1, ((((List.length x.1.1) : Nat) : Int), ((0 : Int), ((((List.length x.1.1) : Nat) : Int), ())))), (((x.1.2.1, ()), ()), ())) := by kernel_rfl
theorem nl127125_0 (F : FT) (J : JT sg127125) (x : (((List Vert) × (Int × (Int × (Int × Unit)))) × (((ID × Unit) × Unit) × Unit))) : nlE 127125 0 sg127125 Tryz.f125 sh127125_0 F J x =
  cond (decide (x.1.2.2.1 < x.1.2.2.2.1))
   (cond (decide ((1 : Int) < (0 : Int)))
    (none)
    (((getI x.1.1 (IntKind.wrap .i64 (shrI .u64 (IntKind.wrap .u64 (IntKind.wrap .i64 (x.1.2.2.1 + x.1.2.2.2.1))) (1 : Int))))).bind fun (y1 : Vert) =>
    (F 126 sg126 (((y1.1, (y1.2.1, y1.2.2)), (x.2.1.1.1, ())), ())).bind fun (y2 : ((Int × Unit) × Unit)) =>
    cond (decide (y2.1.1 < (0 : Int)))
     (J sh127125_0 (seg Tryz.prog 125 0) ((x.1.1, (x.1.2.1, ((IntKind.wrap .i64 ((IntKind.wrap .i64 (shrI .u64 (IntKind.wrap .u64 (IntKind.wrap .i64 (x.1.2.2.1 + x.1.2.2.2.1))) (1 : Int))) + (1 : Int))), x.1.2.2.2))), (((x.2.1.1.1, ()), ()), ())))
     (J sh127125_0 (seg Tryz.prog 125 0) ((x.1.1, (x.1.2.1, (x.1.2.2.1, ((IntKind.wrap .i64 (shrI .u64 (IntKind.wrap .u64 (IntKind.wrap .i64 (x.1.2.2.1 + x.1.2.2.2.1))) (1 : Int))), ())))), (((x.2.1.1.1, ()), ()), ())))))
   (cond (decide (x.1.2.2.1 < x.1.2.1))
    (((getI x.1.1 x.1.2.2.1)).bind fun (y3 : Vert) =>
    (F 126 sg126 (((y3.1, (y3.2.1, y3.2.2)), (x.2.1.1.1, ())), ())).bind fun (y4 : ((Int × Unit) × Unit)) =>
    some ((x.1.2.2.1, ((y4.1.1 == (0 : Int)), ())), ()))
    (some ((x.1.2.2.1, (false, ())), ()))) := by kernel_rfl
theorem nf139137 (F : FT) (J : JT sg139137) (x : (((List EdgeT) × (ID × Unit)) × Unit)) : nfE 139137 sg139137 Tryz.f137 F J x =
  J sh139137_0 (seg Tryz.prog 137 0) ((x.1.1, ((((List.length x.1.1) : Nat) : Int), ((0 : Int), ((((List.length x.1.1) : Nat) : Int), ())))), (((x.1.2.1, ()), ()), ())) := by kernel_rfl
theorem nl139137_0 (F : FT) (J : JT sg139137) (x : (((List EdgeT) × (Int × (Int × (Int × Unit)))) × (((ID × Unit) × Unit) × Unit))) : nlE 139137 0 sg139137 Tryz.f137 sh139137_0 F J x =
  cond (decide (x.1.2.2.1 < x.1.2.2.2.1))
   (cond (decide ((1 : Int) < (0 : Int)))
    (none)
    (((getI x.1.1 (IntKind.wrap .i64 (shrI .u64 (IntKind.wrap .u64 (IntKind.wrap .i64 (x.1.2.2.1 + x.1.2.2.2.1))) (1 : Int))))).bind fun (y1 : EdgeT) =>
    (F 138 sg138 (((y1.1, y1.2), (x.2.1.1.1, ())), ())).bind fun (y2 : ((Int × Unit) × Unit)) =>
    cond (decide (y2.1.1 < (0 : Int)))
     (J sh139137_0 (seg Tryz.prog 137 0) ((x.1.1, (x.1.2.1, ((IntKind.wrap .i64 ((IntKind.wrap .i64 (shrI .u64 (IntKind.wrap .u64 (IntKind.wrap .i64 (x.1.2.2.1 + x.1.2.2.2.1))) (1 : Int))) + (1 : Int))), x.1.2.2.2))), (((x.2.1.1.1, ()), ()), ())))
     (J sh139137_0 (seg Tryz.prog 137 0) ((x.1.1, (x.1.2.1, (x.1.2.2.1, ((IntKind.wrap .i64 (shrI .u64 (IntKind.wrap .u64 (IntKind.wrap .i64 (x.1.2.2.1 + x.1.2.2.2.1))) (1 : Int))), ())))), (((x.2.1.1.1, ()), ()), ())))))
   (cond (decide (x.1.2.2.1 < x.1.2.1))
    (((getI x.1.1 x.1.2.2.1)).bind fun (y3 : EdgeT) =>
    (F 138 sg138 (((y3.1, y3.2), (x.2.1.1.1, ())), ())).bind fun (y4 : ((Int × Unit) × Unit)) =>
    some ((x.1.2.2.1, ((y4.1.1 == (0 : Int)), ())), ()))
    (some ((x.1.2.2.1, (false, ())), ()))) := by kernel_rfl
theorem nf143141 (F : FT) (J : JT sg143141) (x : (((List Dart) × Unit) × Unit)) : nfE 143141 sg143141 Tryz.f141 F J x =
  cond (decide ((((List.length x.1.1) : Nat) : Int) < (1 : Int)))
   (none)
   (((getI x.1.1 (0 : Int))).bind fun (y1 : Dart) =>
   J sh143141_0 (seg Tryz.prog 141 0) ((x.1.1, ((1 : Int), ())), ((((((0 : Int), (0 : Int)), (0 : Int)), ()), (((y1.1, y1.2), ()), ())), ()))) := by kernel_rfl
theorem nl143141_0 (F : FT) (J : JT sg143141) (x : (((List Dart) × (Int × Unit)) × (((Dart × Unit) × ((Dart × Unit) × Unit)) × Unit))) : nlE 143141 0 sg143141 Tryz.f141 sh143141_0 F J x =
  cond (decide (x.1.2.1 < (((List.length x.1.1) : Nat) : Int)))
   (((getI x.1.1 x.1.2.1)).bind fun (y2 : Dart) =>
   (F 142 sg142 (((y2.1, y2.2), ((x.2.1.2.1.1.1, x.2.1.2.1.1.2), ())), ())).bind fun (y3 : ((Int × Unit) × Unit)) =>
   cond (decide (y3.1.1 < (0 : Int)))
    (((getI x.1.1 x.1.2.1)).bind fun (y4 : Dart) =>
    J sh143141_0 (seg Tryz.prog 141 0) ((x.1.1, ((IntKind.wrap .i64 (x.1.2.1 + (1 : Int))), ())), ((((x.2.1.1.1.1, x.2.1.1.1.2), ()), (((y4.1, y4.2), ()), ())), ())))
    (J sh143141_0 (seg Tryz.prog 141 0) ((x.1.1, ((IntKind.wrap .i64 (x.1.2.1 + (1 : Int))), ())), ((((x.2.1.1.1.1, x.2.1.1.1.2), ()), (((x.2.1.2.1.1.1, x.2.1.2.1.1.2), ()), ())), ()))))
   (some (((x.2.1.2.1.1.1, x.2.1.2.1.1.2), ()), ())) := by kernel_rfl
theorem nf156154 (F : FT) (J : JT sg156154) (x : (((List GoneT) × (Dart × Unit)) × Unit)) : nfE 156154 sg156154 Tryz.f154 F J x =
  J sh156154_0 (seg Tryz.prog 154 0) ((x.1.1, ((((List.length x.1.1) : Nat) : Int), ((0 : Int), ((((List.length x.1.1) : Nat) : Int), ())))), ((((x.1.2.1.1, x.1.2.1.2), ()), ()), ())) := by kernel_rfl
theorem nl156154_0 (F : FT) (J : JT sg156154) (x : (((List GoneT) × (Int × (Int × (Int × Unit)))) × (((Dart × Unit) × Unit) × Unit))) : nlE 156154 0 sg156154 Tryz.f154 sh156154_0 F J x =
  cond (decide (x.1.2.2.1 < x.1.2.2.2.1))
   (cond (decide ((1 : Int) < (0 : Int)))
    (none)
    (((getI x.1.1 (IntKind.wrap .i64 (shrI .u64 (IntKind.wrap .u64 (IntKind.wrap .i64 (x.1.2.2.1 + x.1.2.2.2.1))) (1 : Int))))).bind fun (y1 : GoneT) =>
    (F 155 sg155 ((((y1.1.1, y1.1.2), (y1.2.1, y1.2.2)), ((x.2.1.1.1.1, x.2.1.1.1.2), ())), ())).bind fun (y2 : ((Int × Unit) × Unit)) =>
    cond (decide (y2.1.1 < (0 : Int)))
     (J sh156154_0 (seg Tryz.prog 154 0) ((x.1.1, (x.1.2.1, ((IntKind.wrap .i64 ((IntKind.wrap .i64 (shrI .u64 (IntKind.wrap .u64 (IntKind.wrap .i64 (x.1.2.2.1 + x.1.2.2.2.1))) (1 : Int))) + (1 : Int))), x.1.2.2.2))), ((((x.2.1.1.1.1, x.2.1.1.1.2), ()), ()), ())))
     (J sh156154_0 (seg Tryz.prog 154 0) ((x.1.1, (x.1.2.1, (x.1.2.2.1, ((IntKind.wrap .i64 (shrI .u64 (IntKind.wrap .u64 (IntKind.wrap .i64 (x.1.2.2.1 + x.1.2.2.2.1))) (1 : Int))), ())))), ((((x.2.1.1.1.1, x.2.1.1.1.2), ()), ()), ())))))
   (cond (decide (x.1.2.2.1 < x.1.2.1))
    (((getI x.1.1 x.1.2.2.1)).bind fun (y3 : GoneT) =>
    (F 155 sg155 ((((y3.1.1, y3.1.2), (y3.2.1, y3.2.2)), ((x.2.1.1.1.1, x.2.1.1.1.2), ())), ())).bind fun (y4 : ((Int × Unit) × Unit)) =>
    some ((x.1.2.2.1, ((y4.1.1 == (0 : Int)), ())), ()))
    (some ((x.1.2.2.1, (false, ())), ()))) := by kernel_rfl
end Go.Vs
