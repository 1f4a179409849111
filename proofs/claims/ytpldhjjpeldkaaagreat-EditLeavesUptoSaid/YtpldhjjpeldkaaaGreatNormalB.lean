/- Normal forms of the program's functions, the second part. -/
import Derived.Test.YtpldhjjpeldkaaaGreatEngineD
import Derived.KernelRfl

set_option linter.unusedVariables false
set_option maxRecDepth 1000000
set_option maxHeartbeats 0
namespace Go.Vs
open Go.Proofs
theorem nf15 (F : FT) (J : JT sg15) (x : ((StateT × (OpT × Unit)) × Unit)) : nfE 15 sg15 Tryz.f15 F J x =
  (F 45 sg45 (((x.1.2.1.1, (x.1.2.1.2.1, (x.1.2.1.2.2.1, (x.1.2.1.2.2.2.1, ((x.1.2.1.2.2.2.2.1.1, (x.1.2.1.2.2.2.2.1.2.1, x.1.2.1.2.2.2.2.1.2.2)), ((x.1.2.1.2.2.2.2.2.1.1, (x.1.2.1.2.2.2.2.2.1.2.1, x.1.2.1.2.2.2.2.2.1.2.2)), (x.1.2.1.2.2.2.2.2.2.1, x.1.2.1.2.2.2.2.2.2.2))))))), ()), ())).bind fun (y1 : ((Int × Unit) × Unit)) =>
  cond (y1.1.1 != (0 : Int))
   (some ((((([] : List Vert), ([] : List EdgeT)), ([] : List GoneT)), y1.1), ()))
   ((F 18 sg18 ((x.1.1.1, (x.1.2.1.2.1, ())), ())).bind fun (y2 : ((Vert × (Bool × Unit)) × Unit)) =>
   cond (x.1.2.1.1 == (1 : Int))
    (cond y2.1.2.1
     (some ((((([] : List Vert), ([] : List EdgeT)), ([] : List GoneT)), ((12 : Int), ())), ()))
     (cond (decide ((((List.length x.1.1.1.1) : Nat) : Int) ≥ (24 : Int)))
      (some ((((([] : List Vert), ([] : List EdgeT)), ([] : List GoneT)), ((3 : Int), ())), ()))
      ((F 46 sg46 ((x.1.1.1, ((x.1.2.1.2.1, (([] : List Dart), ((⟨#[]⟩ : ByteArray), (0 : Int)))), ())), ())).bind fun (y3 : ((Diag × Unit) × Unit)) =>
      some (((y3.1.1, x.1.1.2), ((0 : Int), ())), ()))))
    (cond (x.1.2.1.1 == (2 : Int))
     (cond (not y2.1.2.1)
      (some ((((([] : List Vert), ([] : List EdgeT)), ([] : List GoneT)), ((13 : Int), ())), ()))
      (cond (decide ((((List.length y2.1.1.2.1) : Nat) : Int) > (0 : Int)))
       (some ((((([] : List Vert), ([] : List EdgeT)), ([] : List GoneT)), ((14 : Int), ())), ()))
       ((F 47 sg47 ((x.1.1.1, (x.1.2.1.2.1, (((0 : Int), (0 : Int)), ()))), ())).bind fun (y4 : ((Diag × Unit) × Unit)) =>
       some (((y4.1.1, x.1.1.2), ((0 : Int), ())), ()))))
     (cond (x.1.2.1.1 == (3 : Int))
      ((F 48 sg48 (((x.1.1.1, x.1.1.2), ((x.1.2.1.1, (x.1.2.1.2.1, (x.1.2.1.2.2.1, (x.1.2.1.2.2.2.1, ((x.1.2.1.2.2.2.2.1.1, (x.1.2.1.2.2.2.2.1.2.1, x.1.2.1.2.2.2.2.1.2.2)), ((x.1.2.1.2.2.2.2.2.1.1, (x.1.2.1.2.2.2.2.2.1.2.1, x.1.2.1.2.2.2.2.2.1.2.2)), (x.1.2.1.2.2.2.2.2.2.1, x.1.2.1.2.2.2.2.2.2.2))))))), ())), ())).bind fun (y5 : ((StateT × (Int × Unit)) × Unit)) =>
      some (((y5.1.1.1, y5.1.1.2), y5.1.2), ()))
      (cond (x.1.2.1.1 == (4 : Int))
       ((F 49 sg49 (((x.1.1.1, x.1.1.2), ((x.1.2.1.1, (x.1.2.1.2.1, (x.1.2.1.2.2.1, (x.1.2.1.2.2.2.1, ((x.1.2.1.2.2.2.2.1.1, (x.1.2.1.2.2.2.2.1.2.1, x.1.2.1.2.2.2.2.1.2.2)), ((x.1.2.1.2.2.2.2.2.1.1, (x.1.2.1.2.2.2.2.2.1.2.1, x.1.2.1.2.2.2.2.2.1.2.2)), (x.1.2.1.2.2.2.2.2.2.1, x.1.2.1.2.2.2.2.2.2.2))))))), ())), ())).bind fun (y6 : ((StateT × (Int × Unit)) × Unit)) =>
       some (((y6.1.1.1, y6.1.1.2), y6.1.2), ()))
       (cond (x.1.2.1.1 == (5 : Int))
        ((F 50 sg50 (((x.1.1.1, x.1.1.2), ((x.1.2.1.1, (x.1.2.1.2.1, (x.1.2.1.2.2.1, (x.1.2.1.2.2.2.1, ((x.1.2.1.2.2.2.2.1.1, (x.1.2.1.2.2.2.2.1.2.1, x.1.2.1.2.2.2.2.1.2.2)), ((x.1.2.1.2.2.2.2.2.1.1, (x.1.2.1.2.2.2.2.2.1.2.1, x.1.2.1.2.2.2.2.2.1.2.2)), (x.1.2.1.2.2.2.2.2.2.1, x.1.2.1.2.2.2.2.2.2.2))))))), ())), ())).bind fun (y7 : ((StateT × (Int × Unit)) × Unit)) =>
        some (((y7.1.1.1, y7.1.1.2), y7.1.2), ()))
        (cond (x.1.2.1.1 == (6 : Int))
         ((F 51 sg51 (((x.1.1.1, x.1.1.2), ((x.1.2.1.1, (x.1.2.1.2.1, (x.1.2.1.2.2.1, (x.1.2.1.2.2.2.1, ((x.1.2.1.2.2.2.2.1.1, (x.1.2.1.2.2.2.2.1.2.1, x.1.2.1.2.2.2.2.1.2.2)), ((x.1.2.1.2.2.2.2.2.1.1, (x.1.2.1.2.2.2.2.2.1.2.1, x.1.2.1.2.2.2.2.2.1.2.2)), (x.1.2.1.2.2.2.2.2.2.1, x.1.2.1.2.2.2.2.2.2.2))))))), ())), ())).bind fun (y8 : ((StateT × (Int × Unit)) × Unit)) =>
         some (((y8.1.1.1, y8.1.1.2), y8.1.2), ()))
         ((F 52 sg52 (((x.1.1.1, x.1.1.2), ((x.1.2.1.1, (x.1.2.1.2.1, (x.1.2.1.2.2.1, (x.1.2.1.2.2.2.1, ((x.1.2.1.2.2.2.2.1.1, (x.1.2.1.2.2.2.2.1.2.1, x.1.2.1.2.2.2.2.1.2.2)), ((x.1.2.1.2.2.2.2.2.1.1, (x.1.2.1.2.2.2.2.2.1.2.1, x.1.2.1.2.2.2.2.2.1.2.2)), (x.1.2.1.2.2.2.2.2.2.1, x.1.2.1.2.2.2.2.2.2.2))))))), ())), ())).bind fun (y9 : ((StateT × (Int × Unit)) × Unit)) =>
         some (((y9.1.1.1, y9.1.1.2), y9.1.2), ())))))))) := by kernel_rfl
theorem nf17 (F : FT) (J : JT sg17) (x : (((List (List OpT)) × Unit) × Unit)) : nfE 17 sg17 Tryz.f17 F J x =
  J sh17_0 (seg Tryz.prog 17 0) ((x.1.1, ((0 : Int), ())), (((((([] : List Vert), ([] : List EdgeT)), ([] : List GoneT)), ()), ((((([] : List Vert), ([] : List EdgeT)), ([] : List GoneT)), ()), ())), ())) := by kernel_rfl
theorem nl17_0 (F : FT) (J : JT sg17) (x : (((List (List OpT)) × (Int × Unit)) × (((StateT × Unit) × ((StateT × Unit) × Unit)) × Unit))) : nlE 17 0 sg17 Tryz.f17 sh17_0 F J x =
  cond (decide (x.1.2.1 < (((List.length x.1.1) : Nat) : Int)))
   (cond (decide (x.1.2.1 < (30 : Int)))
    (((getI x.1.1 x.1.2.1)).bind fun (y1 : (List OpT)) =>
    (F 34 sg34 ((y1, ()), ())).bind fun (y2 : (((List OpT) × Unit) × Unit)) =>
    (F 37 sg37 (((x.2.1.2.1.1.1, x.2.1.2.1.1.2), y2.1), ())).bind fun (y3 : ((StateT × Unit) × Unit)) =>
    J sh17_0 (seg Tryz.prog 17 0) ((x.1.1, ((IntKind.wrap .i64 (x.1.2.1 + (1 : Int))), ())), ((((x.2.1.1.1.1, x.2.1.1.1.2), ()), (((y3.1.1.1, y3.1.1.2), ()), ())), ())))
    (some (((x.2.1.2.1.1.1, x.2.1.2.1.1.2), ()), ())))
   (some (((x.2.1.2.1.1.1, x.2.1.2.1.1.2), ()), ())) := by kernel_rfl
theorem nf18 (F : FT) (J : JT sg18) (x : ((Diag × (ID × Unit)) × Unit)) : nfE 18 sg18 Tryz.f18 F J x =
  J sh18_0 (seg Tryz.prog 18 0) (((0 : Int), ()), (((x.1.1, ()), ((x.1.2.1, ()), (((0 : Int), ((0 : Int), (([] : List Dart), ((⟨#[]⟩ : ByteArray), ((0 : Int), ()))))), ()))), ())) := by kernel_rfl
theorem nl18_0 (F : FT) (J : JT sg18) (x : ((Int × Unit) × (((Diag × Unit) × ((ID × Unit) × ((Int × (Int × ((List Dart) × (ByteArray × (Int × Unit))))) × Unit))) × Unit))) : nlE 18 0 sg18 Tryz.f18 sh18_0 F J x =
  cond (decide (x.1.1 < (((List.length x.2.1.1.1.1) : Nat) : Int)))
   (((getI x.2.1.1.1.1 x.1.1)).bind fun (y1 : Vert) =>
   cond ((y1.1.1 == x.2.1.2.1.1.1) && (y1.1.2 == x.2.1.2.1.1.2))
    (((getI x.2.1.1.1.1 x.1.1)).bind fun (y2 : Vert) =>
    some (((y2.1, (y2.2.1, y2.2.2)), (true, ())), ()))
    (J sh18_0 (seg Tryz.prog 18 0) (((IntKind.wrap .i64 (x.1.1 + (1 : Int))), ()), (((x.2.1.1.1, ()), ((x.2.1.2.1.1, ()), ((x.2.1.2.2.1.1, (x.2.1.2.2.1.2.1, (x.2.1.2.2.1.2.2.1, (x.2.1.2.2.1.2.2.2.1, x.2.1.2.2.1.2.2.2.2)))), ()))), ()))))
   (some (((((0 : Int), (0 : Int)), (([] : List Dart), ((⟨#[]⟩ : ByteArray), (0 : Int)))), (false, ())), ())) := by kernel_rfl
theorem nf19 (F : FT) (J : JT sg19) (x : ((ID × Unit) × Unit)) : nfE 19 sg19 Tryz.f19 F J x =
  cond (decide (x.1.1.1 ≥ (1 : Int)))
   (cond (decide (x.1.1.1 ≤ (8 : Int)))
    (cond (decide (x.1.1.2 ≥ (1 : Int)))
     (some (((decide (x.1.1.2 ≤ (1048576 : Int))), ()), ()))
     (some ((false, ()), ())))
    (some ((false, ()), ())))
   (some ((false, ()), ())) := by kernel_rfl
theorem nf20 (F : FT) (J : JT sg20) (x : ((Diag × (Dart × Unit)) × Unit)) : nfE 20 sg20 Tryz.f20 F J x =
  J sh20_0 (seg Tryz.prog 20 0) (((0 : Int), ()), (((x.1.1, ()), (((x.1.2.1.1, x.1.2.1.2), ()), ((((0 : Int), (0 : Int)), ()), ()))), ())) := by kernel_rfl
theorem nl20_0 (F : FT) (J : JT sg20) (x : ((Int × Unit) × (((Diag × Unit) × ((Dart × Unit) × ((ID × Unit) × Unit))) × Unit))) : nlE 20 0 sg20 Tryz.f20 sh20_0 F J x =
  cond (decide (x.1.1 < (((List.length x.2.1.1.1.1) : Nat) : Int)))
   (((getI x.2.1.1.1.1 x.1.1)).bind fun (y1 : Vert) =>
   (F 24 sg24 ((y1.2.1, ((x.2.1.2.1.1.1, x.2.1.2.1.1.2), ())), ())).bind fun (y2 : ((Int × Unit) × Unit)) =>
   cond (decide (y2.1.1 ≥ (0 : Int)))
    (((getI x.2.1.1.1.1 x.1.1)).bind fun (y3 : Vert) =>
    some ((y3.1, (true, ())), ()))
    (J sh20_0 (seg Tryz.prog 20 0) (((IntKind.wrap .i64 (x.1.1 + (1 : Int))), ()), (((x.2.1.1.1, ()), (((x.2.1.2.1.1.1, x.2.1.2.1.1.2), ()), ((x.2.1.2.2.1.1, ()), ()))), ()))))
   (some ((((0 : Int), (0 : Int)), (false, ())), ())) := by kernel_rfl
theorem nf21 (F : FT) (J : JT sg21) (x : ((Diag × (ID × Unit)) × Unit)) : nfE 21 sg21 Tryz.f21 F J x =
  J sh21_0 (seg Tryz.prog 21 0) (((0 : Int), ()), (((x.1.1, ()), ((x.1.2.1, ()), (((((0 : Int), (0 : Int)), ((⟨#[]⟩ : ByteArray), (0 : Int))), ()), ()))), ())) := by kernel_rfl
theorem nl21_0 (F : FT) (J : JT sg21) (x : ((Int × Unit) × (((Diag × Unit) × ((ID × Unit) × ((EdgeT × Unit) × Unit))) × Unit))) : nlE 21 0 sg21 Tryz.f21 sh21_0 F J x =
  cond (decide (x.1.1 < (((List.length x.2.1.1.1.2) : Nat) : Int)))
   (((getI x.2.1.1.1.2 x.1.1)).bind fun (y1 : EdgeT) =>
   cond ((y1.1.1 == x.2.1.2.1.1.1) && (y1.1.2 == x.2.1.2.1.1.2))
    (((getI x.2.1.1.1.2 x.1.1)).bind fun (y2 : EdgeT) =>
    some (((y2.1, y2.2), (true, ())), ()))
    (J sh21_0 (seg Tryz.prog 21 0) (((IntKind.wrap .i64 (x.1.1 + (1 : Int))), ()), (((x.2.1.1.1, ()), ((x.2.1.2.1.1, ()), (((x.2.1.2.2.1.1.1, x.2.1.2.2.1.1.2), ()), ()))), ()))))
   (some (((((0 : Int), (0 : Int)), ((⟨#[]⟩ : ByteArray), (0 : Int))), (false, ())), ())) := by kernel_rfl
theorem nf22 (F : FT) (J : JT sg22) (x : ((Diag × (Dart × Unit)) × Unit)) : nfE 22 sg22 Tryz.f22 F J x =
  (F 54 sg54 ((x.1.1, ((x.1.2.1.1, x.1.2.1.2), ())), ())).bind fun (y1 : ((Dart × (Bool × Unit)) × Unit)) =>
  cond (not y1.1.2.1)
   (some ((([] : List Dart), ()), ()))
   (cond (fitsN (List.length ([] : List Dart)) (List.length ((x.1.2.1.1, x.1.2.1.2) :: ([] : List Dart))))
    (J sh22_0 (seg Tryz.prog 22 0) ((), (((x.1.1, ()), (((x.1.2.1.1, x.1.2.1.2), ()), (((y1.1.1.1, y1.1.1.2), ()), ()))), ((([] : List Dart) ++ ((x.1.2.1.1, x.1.2.1.2) :: ([] : List Dart))), ()))))
    (none)) := by kernel_rfl
theorem nl22_0 (F : FT) (J : JT sg22) (x : (Unit × (((Diag × Unit) × ((Dart × Unit) × ((Dart × Unit) × Unit))) × ((List Dart) × Unit)))) : nlE 22 0 sg22 Tryz.f22 sh22_0 F J x =
  cond (not (((x.2.1.2.2.1.1.1.1 == x.2.1.2.1.1.1.1) && (x.2.1.2.2.1.1.1.2 == x.2.1.2.1.1.1.2)) && (x.2.1.2.2.1.1.2 == x.2.1.2.1.1.2)))
   (cond (decide ((((List.length x.2.2.1) : Nat) : Int) < (82 : Int)))
    (cond (fitsN (List.length x.2.2.1) (List.length ((x.2.1.2.2.1.1.1, x.2.1.2.2.1.1.2) :: ([] : List Dart))))
     ((F 54 sg54 ((x.2.1.1.1, ((x.2.1.2.2.1.1.1, x.2.1.2.2.1.1.2), ())), ())).bind fun (y2 : ((Dart × (Bool × Unit)) × Unit)) =>
     J sh22_0 (seg Tryz.prog 22 0) ((), (((x.2.1.1.1, ()), (((x.2.1.2.1.1.1, x.2.1.2.1.1.2), ()), (((y2.1.1.1, y2.1.1.2), ()), ()))), ((x.2.2.1 ++ ((x.2.1.2.2.1.1.1, x.2.1.2.2.1.1.2) :: ([] : List Dart))), ()))))
     (none))
    (some (x.2.2, ())))
   (some (x.2.2, ())) := by kernel_rfl
theorem nf23 (F : FT) (J : JT sg23) (x : ((Dart × Unit) × Unit)) : nfE 23 sg23 Tryz.f23 F J x =
  some (((x.1.1.1, (IntKind.wrap .i64 ((1 : Int) - x.1.1.2))), ()), ()) := by kernel_rfl
theorem nf24 (F : FT) (J : JT sg24) (x : (((List Dart) × (Dart × Unit)) × Unit)) : nfE 24 sg24 Tryz.f24 F J x =
  J sh24_0 (seg Tryz.prog 24 0) ((x.1.1, ((0 : Int), ())), ((((x.1.2.1.1, x.1.2.1.2), ()), ()), ())) := by kernel_rfl
theorem nl24_0 (F : FT) (J : JT sg24) (x : (((List Dart) × (Int × Unit)) × (((Dart × Unit) × Unit) × Unit))) : nlE 24 0 sg24 Tryz.f24 sh24_0 F J x =
  cond (decide (x.1.2.1 < (((List.length x.1.1) : Nat) : Int)))
   (((getI x.1.1 x.1.2.1)).bind fun (y1 : Dart) =>
   cond (((y1.1.1 == x.2.1.1.1.1.1) && (y1.1.2 == x.2.1.1.1.1.2)) && (y1.2 == x.2.1.1.1.2))
    (some (x.1.2, ()))
    (J sh24_0 (seg Tryz.prog 24 0) ((x.1.1, ((IntKind.wrap .i64 (x.1.2.1 + (1 : Int))), ())), ((((x.2.1.1.1.1, x.2.1.1.1.2), ()), ()), ()))))
   (some (((-1 : Int), ()), ())) := by kernel_rfl
theorem nf26 (F : FT) (J : JT sg26) (x : (((List Dart) × (Dart × Unit)) × Unit)) : nfE 26 sg26 Tryz.f26 F J x =
  (F 24 sg24 ((x.1.1, ((x.1.2.1.1, x.1.2.1.2), ())), ())).bind fun (y1 : ((Int × Unit) × Unit)) =>
  cond (decide (y1.1.1 < (0 : Int)))
   (some (((((0 : Int), (0 : Int)), (0 : Int)), (false, ())), ()))
   (cond ((((List.length x.1.1) : Nat) : Int) == (0 : Int))
    (none)
    (((getI x.1.1 (Int.tmod (IntKind.wrap .i64 ((IntKind.wrap .i64 (y1.1.1 + (((List.length x.1.1) : Nat) : Int))) - (1 : Int))) (((List.length x.1.1) : Nat) : Int)))).bind fun (y2 : Dart) =>
    some (((y2.1, y2.2), (true, ())), ()))) := by kernel_rfl
theorem nf28 (F : FT) (J : JT sg28) (x : ((ByteArray × Unit) × Unit)) : nfE 28 sg28 Tryz.f28 F J x =
  J sh28_0 (seg Tryz.prog 28 0) ((x.1.1, ((0 : Int), ())), ((), ())) := by kernel_rfl
theorem nl28_0 (F : FT) (J : JT sg28) (x : ((ByteArray × (Int × Unit)) × (Unit × Unit))) : nlE 28 0 sg28 Tryz.f28 sh28_0 F J x =
  cond (decide (x.1.2.1 < (((ByteArray.size x.1.1) : Nat) : Int)))
   (((if 0 ≤ x.1.2.1 then (x.1.1)[Int.toNat x.1.2.1]? else none)).bind fun (y1 : UInt8) =>
   cond (decide (((UInt8.toNat y1 : Nat) : Int) < (32 : Int)))
    (some ((false, ()), ()))
    (((if 0 ≤ x.1.2.1 then (x.1.1)[Int.toNat x.1.2.1]? else none)).bind fun (y2 : UInt8) =>
    cond (decide (((UInt8.toNat y2 : Nat) : Int) > (126 : Int)))
     (some ((false, ()), ()))
     (J sh28_0 (seg Tryz.prog 28 0) ((x.1.1, ((IntKind.wrap .i64 (x.1.2.1 + (1 : Int))), ())), ((), ())))))
   (some (((decide ((((ByteArray.size x.1.1) : Nat) : Int) ≤ (16 : Int))), ()), ())) := by kernel_rfl
theorem nf29 (F : FT) (J : JT sg29) (x : ((Int × Unit) × Unit)) : nfE 29 sg29 Tryz.f29 F J x =
  cond (decide (x.1.1 ≥ (-1099511627776 : Int)))
   (some (((decide (x.1.1 ≤ (1099511627776 : Int))), ()), ()))
   (some ((false, ()), ())) := by kernel_rfl
theorem nf30 (F : FT) (J : JT sg30) (x : ((StateT × ((List OpT) × Unit)) × Unit)) : nfE 30 sg30 Tryz.f30 F J x =
  (F 58 sg58 (x.1.2, ())).bind fun (y1 : ((Int × Unit) × Unit)) =>
  cond (y1.1.1 != (0 : Int))
   (some ((((([] : List Vert), ([] : List EdgeT)), ([] : List GoneT)), y1.1), ()))
   ((F 44 sg44 (((x.1.1.1, x.1.1.2), x.1.2), ())).bind fun (y2 : ((StateT × (Int × Unit)) × Unit)) =>
   some (((y2.1.1.1, y2.1.1.2), y2.1.2), ())) := by kernel_rfl
theorem nf31 (F : FT) (J : JT sg31) (x : ((Diag × Unit) × Unit)) : nfE 31 sg31 Tryz.f31 F J x =
  (F 59 sg59 ((x.1.1, ()), ())).bind fun (y1 : (((List Dart) × Unit) × Unit)) =>
  J sh31_0 (seg Tryz.prog 31 0) (((0 : Int), ()), (((x.1.1, ()), ()), (([] : List (List Dart)), (([] : List Dart), y1.1)))) := by kernel_rfl
theorem nl31_0 (F : FT) (J : JT sg31) (x : ((Int × Unit) × (((Diag × Unit) × Unit) × ((List (List Dart)) × ((List Dart) × ((List Dart) × Unit)))))) : nlE 31 0 sg31 Tryz.f31 sh31_0 F J x =
  cond (decide (x.1.1 < (((List.length x.2.2.2.2.1) : Nat) : Int)))
   (cond ((decide ((0 : Int) ≤ x.1.1)) && (decide (x.1.1 < (((List.length x.2.2.2.2.1) : Nat) : Int))))
    (((x.2.2.2.2.1)[(Int.toNat x.1.1)]?).bind fun (y2 : Dart) =>
    (F 24 sg24 ((x.2.2.2.1, ((y2.1, y2.2), ())), ())).bind fun (y3 : ((Int × Unit) × Unit)) =>
    cond (decide (y3.1.1 ≥ (0 : Int)))
     (J sh31_0 (seg Tryz.prog 31 0) (((IntKind.wrap .i64 (x.1.1 + (1 : Int))), ()), (((x.2.1.1.1, ()), ()), (x.2.2.1, (x.2.2.2.1, x.2.2.2.2)))))
     (cond ((decide ((0 : Int) ≤ x.1.1)) && (decide (x.1.1 < (((List.length x.2.2.2.2.1) : Nat) : Int))))
      (((x.2.2.2.2.1)[(Int.toNat x.1.1)]?).bind fun (y4 : Dart) =>
      (F 22 sg22 ((x.2.1.1.1, ((y4.1, y4.2), ())), ())).bind fun (y5 : (((List Dart) × Unit) × Unit)) =>
      cond (fitsN (List.length x.2.2.1) (List.length (y5.1.1 :: ([] : List (List Dart)))))
       (cond (fitsN (List.length x.2.2.2.1) (List.length y5.1.1))
        (J sh31_0 (seg Tryz.prog 31 0) (((IntKind.wrap .i64 (x.1.1 + (1 : Int))), ()), (((x.2.1.1.1, ()), ()), ((x.2.2.1 ++ (y5.1.1 :: ([] : List (List Dart)))), ((x.2.2.2.1 ++ y5.1.1), x.2.2.2.2)))))
        (none))
       (none))
      (none)))
    (none))
   (some ((x.2.2.1, ()), ())) := by kernel_rfl
theorem nf32 (F : FT) (J : JT sg32) (x : ((Diag × Unit) × Unit)) : nfE 32 sg32 Tryz.f32 F J x =
  (F 56 sg56 ((x.1.1, ()), ())).bind fun (y1 : (((List Int) × Unit) × Unit)) =>
  J sh32_0 (seg Tryz.prog 32 0) (((0 : Int), ((0 : Int), ())), ((), y1.1)) := by kernel_rfl
theorem nl32_0 (F : FT) (J : JT sg32) (x : ((Int × (Int × Unit)) × (Unit × ((List Int) × Unit)))) : nlE 32 0 sg32 Tryz.f32 sh32_0 F J x =
  cond (decide (x.1.2.1 < (((List.length x.2.2.1) : Nat) : Int)))
   (cond ((decide ((0 : Int) ≤ x.1.2.1)) && (decide (x.1.2.1 < (((List.length x.2.2.1) : Nat) : Int))))
    (((x.2.2.1)[(Int.toNat x.1.2.1)]?).bind fun (y2 : Int) =>
    cond (y2 == x.1.2.1)
     (J sh32_0 (seg Tryz.prog 32 0) (((IntKind.wrap .i64 (x.1.1 + (1 : Int))), ((IntKind.wrap .i64 (x.1.2.1 + (1 : Int))), ())), ((), x.2.2)))
     (J sh32_0 (seg Tryz.prog 32 0) ((x.1.1, ((IntKind.wrap .i64 (x.1.2.1 + (1 : Int))), ())), ((), x.2.2))))
    (none))
   (some ((x.1.1, ()), ())) := by kernel_rfl
theorem nf33 (F : FT) (J : JT sg33) (x : (Unit × Unit)) : nfE 33 sg33 Tryz.f33 F J x =
  some ((((([] : List Vert), ([] : List EdgeT)), ([] : List GoneT)), ()), ()) := by kernel_rfl
theorem nf34 (F : FT) (J : JT sg34) (x : (((List OpT) × Unit) × Unit)) : nfE 34 sg34 Tryz.f34 F J x =
  cond (decide ((((List.length x.1.1) : Nat) : Int) > (8 : Int)))
   (cond (okBounds (List.length x.1.1) (0 : Int) (8 : Int))
    (some (((cut x.1.1 (0 : Int) (8 : Int)), ()), ()))
    (none))
   (some (x.1, ())) := by kernel_rfl
theorem nf35 (F : FT) (J : JT sg35) (x : ((StateT × ((List OpT) × Unit)) × Unit)) : nfE 35 sg35 Tryz.f35 F J x =
  (F 41 sg41 (x.1.2, ())).bind fun (y1 : ((Int × Unit) × Unit)) =>
  cond (y1.1.1 != (0 : Int))
   (some ((((([] : List Vert), ([] : List EdgeT)), ([] : List GoneT)), y1.1), ()))
   (J sh35_0 (seg Tryz.prog 35 0) (((0 : Int), ()), ((((x.1.1.1, x.1.1.2), ()), (x.1.2, ((([] : List Vert), (([] : List EdgeT), (([] : List GoneT), ()))), ()))), ()))) := by kernel_rfl
theorem nl35_0 (F : FT) (J : JT sg35) (x : ((Int × Unit) × (((StateT × Unit) × (((List OpT) × Unit) × (WorkT × Unit))) × Unit))) : nlE 35 0 sg35 Tryz.f35 sh35_0 F J x =
  cond (decide (x.1.1 < (((List.length x.2.1.2.1.1) : Nat) : Int)))
   (((getI x.2.1.2.1.1 x.1.1)).bind fun (y2 : OpT) =>
   (F 15 sg15 (((x.2.1.1.1.1, x.2.1.1.1.2), ((y2.1, (y2.2.1, (y2.2.2.1, (y2.2.2.2.1, ((y2.2.2.2.2.1.1, (y2.2.2.2.2.1.2.1, y2.2.2.2.2.1.2.2)), ((y2.2.2.2.2.2.1.1, (y2.2.2.2.2.2.1.2.1, y2.2.2.2.2.2.1.2.2)), (y2.2.2.2.2.2.2.1, y2.2.2.2.2.2.2.2))))))), ())), ())).bind fun (y3 : ((StateT × (Int × Unit)) × Unit)) =>
   cond (y3.1.2.1 != (0 : Int))
    (some ((((([] : List Vert), ([] : List EdgeT)), ([] : List GoneT)), y3.1.2), ()))
    (J sh35_0 (seg Tryz.prog 35 0) (((IntKind.wrap .i64 (x.1.1 + (1 : Int))), ()), ((((y3.1.1.1, y3.1.1.2), ()), (x.2.1.2.1, ((x.2.1.2.2.1.1, (x.2.1.2.2.1.2.1, x.2.1.2.2.1.2.2)), ()))), ()))))
   (some (((x.2.1.1.1.1, x.2.1.1.1.2), ((0 : Int), ())), ())) := by kernel_rfl
theorem nf37 (F : FT) (J : JT sg37) (x : ((StateT × ((List OpT) × Unit)) × Unit)) : nfE 37 sg37 Tryz.f37 F J x =
  (F 35 sg35 (((x.1.1.1, x.1.1.2), x.1.2), ())).bind fun (y1 : ((StateT × (Int × Unit)) × Unit)) =>
  cond (y1.1.2.1 != (0 : Int))
   (some (((x.1.1.1, x.1.1.2), ()), ()))
   (some (((y1.1.1.1, y1.1.1.2), ()), ())) := by kernel_rfl
theorem nf38 (F : FT) (J : JT sg38) (x : ((Diag × Unit) × Unit)) : nfE 38 sg38 Tryz.f38 F J x =
  cond (fitsN (List.length ([] : List EdgeT)) (List.length x.1.1.2))
   (J sh38_0 (seg Tryz.prog 38 0) (((0 : Int), ()), (((x.1.1, ()), ((([] : List Vert), (([] : List EdgeT), ())), ((([] : List Vert), ((([] : List EdgeT) ++ x.1.1.2), ())), ()))), ())))
   (none) := by kernel_rfl
theorem nl38_0 (F : FT) (J : JT sg38) (x : ((Int × Unit) × (((Diag × Unit) × (((List Vert) × ((List EdgeT) × Unit)) × (((List Vert) × ((List EdgeT) × Unit)) × Unit))) × Unit))) : nlE 38 0 sg38 Tryz.f38 sh38_0 F J x =
  cond (decide (x.1.1 < (((List.length x.2.1.1.1.1) : Nat) : Int)))
   (((getI x.2.1.1.1.1 x.1.1)).bind fun (y1 : Vert) =>
   cond (fitsN (List.length ([] : List Dart)) (List.length y1.2.1))
    (cond (fitsN (List.length x.2.1.2.2.1.1) (List.length ((y1.1, ((([] : List Dart) ++ y1.2.1), y1.2.2)) :: ([] : List Vert))))
     (J sh38_0 (seg Tryz.prog 38 0) (((IntKind.wrap .i64 (x.1.1 + (1 : Int))), ()), (((x.2.1.1.1, ()), ((x.2.1.2.1.1, x.2.1.2.1.2), (((x.2.1.2.2.1.1 ++ ((y1.1, ((([] : List Dart) ++ y1.2.1), y1.2.2)) :: ([] : List Vert))), x.2.1.2.2.1.2), ()))), ())))
     (none))
    (none))
   (some (((x.2.1.2.2.1.1, x.2.1.2.2.1.2), ()), ())) := by kernel_rfl
theorem nf41 (F : FT) (J : JT sg41) (x : (((List OpT) × Unit) × Unit)) : nfE 41 sg41 Tryz.f41 F J x =
  cond (decide ((((List.length x.1.1) : Nat) : Int) < (1 : Int)))
   (some (((3 : Int), ()), ()))
   (cond (decide ((((List.length x.1.1) : Nat) : Int) > (6 : Int)))
    (some (((3 : Int), ()), ()))
    (J sh41_0 (seg Tryz.prog 41 0) (((0 : Int), ()), ((x.1, ()), ())))) := by kernel_rfl
theorem nl41_0 (F : FT) (J : JT sg41) (x : ((Int × Unit) × ((((List OpT) × Unit) × Unit) × Unit))) : nlE 41 0 sg41 Tryz.f41 sh41_0 F J x =
  cond (decide (x.1.1 < (((List.length x.2.1.1.1) : Nat) : Int)))
   (((getI x.2.1.1.1 x.1.1)).bind fun (y1 : OpT) =>
   (F 45 sg45 (((y1.1, (y1.2.1, (y1.2.2.1, (y1.2.2.2.1, ((y1.2.2.2.2.1.1, (y1.2.2.2.2.1.2.1, y1.2.2.2.2.1.2.2)), ((y1.2.2.2.2.2.1.1, (y1.2.2.2.2.2.1.2.1, y1.2.2.2.2.2.1.2.2)), (y1.2.2.2.2.2.2.1, y1.2.2.2.2.2.2.2))))))), ()), ())).bind fun (y2 : ((Int × Unit) × Unit)) =>
   cond (y2.1.1 != (0 : Int))
    (some (y2.1, ()))
    (J sh41_0 (seg Tryz.prog 41 0) (((IntKind.wrap .i64 (x.1.1 + (1 : Int))), ()), ((x.2.1.1, ()), ()))))
   (some (((0 : Int), ()), ())) := by kernel_rfl
theorem nf42 (F : FT) (J : JT sg42) (x : ((Int × Unit) × Unit)) : nfE 42 sg42 Tryz.f42 F J x =
  some (((((1 : Int), (((1 : Int), x.1.1), (((0 : Int), (0 : Int)), (((0 : Int), (0 : Int)), ((((0 : Int), (0 : Int)), (((0 : Int), (0 : Int)), (0 : Int))), ((((0 : Int), (0 : Int)), (((0 : Int), (0 : Int)), (0 : Int))), (false, ((⟨#[]⟩ : ByteArray), (0 : Int))))))))) :: ([] : List OpT)), ()), ()) := by kernel_rfl
theorem nf43 (F : FT) (J : JT sg43) (x : ((OpT × Unit) × Unit)) : nfE 43 sg43 Tryz.f43 F J x =
  (F 65 sg65 (((x.1.1.1, (x.1.1.2.1, (x.1.1.2.2.1, (x.1.1.2.2.2.1, ((x.1.1.2.2.2.2.1.1, (x.1.1.2.2.2.2.1.2.1, x.1.1.2.2.2.2.1.2.2)), ((x.1.1.2.2.2.2.2.1.1, (x.1.1.2.2.2.2.2.1.2.1, x.1.1.2.2.2.2.2.1.2.2)), (x.1.1.2.2.2.2.2.2.1, x.1.1.2.2.2.2.2.2.2))))))), ()), ())).bind fun (y1 : ((OpT × (Int × Unit)) × Unit)) =>
  cond (not ((y1.1.1.1 == x.1.1.1) && (((y1.1.1.2.1.1 == x.1.1.2.1.1) && (y1.1.1.2.1.2 == x.1.1.2.1.2)) && (((y1.1.1.2.2.1.1 == x.1.1.2.2.1.1) && (y1.1.1.2.2.1.2 == x.1.1.2.2.1.2)) && (((y1.1.1.2.2.2.1.1 == x.1.1.2.2.2.1.1) && (y1.1.1.2.2.2.1.2 == x.1.1.2.2.2.1.2)) && ((((y1.1.1.2.2.2.2.1.1.1 == x.1.1.2.2.2.2.1.1.1) && (y1.1.1.2.2.2.2.1.1.2 == x.1.1.2.2.2.2.1.1.2)) && (((y1.1.1.2.2.2.2.1.2.1.1 == x.1.1.2.2.2.2.1.2.1.1) && (y1.1.1.2.2.2.2.1.2.1.2 == x.1.1.2.2.2.2.1.2.1.2)) && (y1.1.1.2.2.2.2.1.2.2 == x.1.1.2.2.2.2.1.2.2))) && ((((y1.1.1.2.2.2.2.2.1.1.1 == x.1.1.2.2.2.2.2.1.1.1) && (y1.1.1.2.2.2.2.2.1.1.2 == x.1.1.2.2.2.2.2.1.1.2)) && (((y1.1.1.2.2.2.2.2.1.2.1.1 == x.1.1.2.2.2.2.2.1.2.1.1) && (y1.1.1.2.2.2.2.2.1.2.1.2 == x.1.1.2.2.2.2.2.1.2.1.2)) && (y1.1.1.2.2.2.2.2.1.2.2 == x.1.1.2.2.2.2.2.1.2.2))) && ((y1.1.1.2.2.2.2.2.2.1 == x.1.1.2.2.2.2.2.2.1) && ((y1.1.1.2.2.2.2.2.2.2.1 == x.1.1.2.2.2.2.2.2.2.1) && (y1.1.1.2.2.2.2.2.2.2.2 == x.1.1.2.2.2.2.2.2.2.2))))))))))
   (some (((1 : Int), ()), ()))
   (some (y1.1.2, ())) := by kernel_rfl
theorem nf44 (F : FT) (J : JT sg44) (x : ((StateT × ((List OpT) × Unit)) × Unit)) : nfE 44 sg44 Tryz.f44 F J x =
  (F 60 sg60 ((x.1.1.1, ()), ())).bind fun (y1 : ((((List Vert) × ((List EdgeT) × Unit)) × Unit) × Unit)) =>
  (F 61 sg61 ((x.1.1.2, ()), ())).bind fun (y2 : (((List GoneT) × Unit) × Unit)) =>
  J sh44_0 (seg Tryz.prog 44 0) ((x.1.2.1, ((((List.length x.1.2.1) : Nat) : Int), ((0 : Int), ()))), (((([] : List Vert), (([] : List EdgeT), (([] : List GoneT), ()))), ((y1.1.1.1, (y1.1.1.2.1, y2.1)), ())), ())) := by kernel_rfl
theorem nl44_0 (F : FT) (J : JT sg44) (x : (((List OpT) × (Int × (Int × Unit))) × ((WorkT × (WorkT × Unit)) × Unit))) : nlE 44 0 sg44 Tryz.f44 sh44_0 F J x =
  cond (decide (x.1.2.2.1 < x.1.2.1))
   (((getI x.1.1 x.1.2.2.1)).bind fun (y3 : OpT) =>
   (F 66 sg66 (((y3.1, (y3.2.1, (y3.2.2.1, (y3.2.2.2.1, ((y3.2.2.2.2.1.1, (y3.2.2.2.2.1.2.1, y3.2.2.2.2.1.2.2)), ((y3.2.2.2.2.2.1.1, (y3.2.2.2.2.2.1.2.1, y3.2.2.2.2.2.1.2.2)), (y3.2.2.2.2.2.2.1, y3.2.2.2.2.2.2.2))))))), ()), ((x.2.1.2.1.1, (x.2.1.2.1.2.1, x.2.1.2.1.2.2)), ()))).bind fun (y4 : ((Int × Unit) × (WorkT × Unit))) =>
   cond (y4.1.1 != (0 : Int))
    (some ((((([] : List Vert), ([] : List EdgeT)), ([] : List GoneT)), y4.1), ()))
    (J sh44_0 (seg Tryz.prog 44 0) ((x.1.1, (x.1.2.1, ((IntKind.wrap .i64 (x.1.2.2.1 + (1 : Int))), ()))), (((x.2.1.1.1, (x.2.1.1.2.1, x.2.1.1.2.2)), ((y4.2.1.1, (y4.2.1.2.1, y4.2.1.2.2)), ())), ()))))
   (some ((((x.2.1.2.1.1, x.2.1.2.1.2.1), x.2.1.2.1.2.2.1), ((0 : Int), ())), ())) := by kernel_rfl
theorem nf45 (F : FT) (J : JT sg45) (x : ((OpT × Unit) × Unit)) : nfE 45 sg45 Tryz.f45 F J x =
  (F 19 sg19 ((x.1.1.2.1, ()), ())).bind fun (y1 : ((Bool × Unit) × Unit)) =>
  cond (decide (x.1.1.1 < (1 : Int)))
   (some (((1 : Int), ()), ()))
   (cond (decide (x.1.1.1 > (8 : Int)))
    (some (((1 : Int), ()), ()))
    (cond (not y1.1.1)
     (some (((1 : Int), ()), ()))
     ((F 67 sg67 (((x.1.1.1, (x.1.1.2.1, (x.1.1.2.2.1, (x.1.1.2.2.2.1, ((x.1.1.2.2.2.2.1.1, (x.1.1.2.2.2.2.1.2.1, x.1.1.2.2.2.2.1.2.2)), ((x.1.1.2.2.2.2.2.1.1, (x.1.1.2.2.2.2.2.1.2.1, x.1.1.2.2.2.2.2.1.2.2)), (x.1.1.2.2.2.2.2.2.1, x.1.1.2.2.2.2.2.2.2))))))), ()), ())).bind fun (y2 : ((OpT × Unit) × Unit)) =>
     cond (not ((y2.1.1.1 == (0 : Int)) && (((y2.1.1.2.1.1 == (0 : Int)) && (y2.1.1.2.1.2 == (0 : Int))) && (((y2.1.1.2.2.1.1 == (0 : Int)) && (y2.1.1.2.2.1.2 == (0 : Int))) && (((y2.1.1.2.2.2.1.1 == (0 : Int)) && (y2.1.1.2.2.2.1.2 == (0 : Int))) && ((((y2.1.1.2.2.2.2.1.1.1 == (0 : Int)) && (y2.1.1.2.2.2.2.1.1.2 == (0 : Int))) && (((y2.1.1.2.2.2.2.1.2.1.1 == (0 : Int)) && (y2.1.1.2.2.2.2.1.2.1.2 == (0 : Int))) && (y2.1.1.2.2.2.2.1.2.2 == (0 : Int)))) && ((((y2.1.1.2.2.2.2.2.1.1.1 == (0 : Int)) && (y2.1.1.2.2.2.2.2.1.1.2 == (0 : Int))) && (((y2.1.1.2.2.2.2.2.1.2.1.1 == (0 : Int)) && (y2.1.1.2.2.2.2.2.1.2.1.2 == (0 : Int))) && (y2.1.1.2.2.2.2.2.1.2.2 == (0 : Int)))) && ((y2.1.1.2.2.2.2.2.2.1 == false) && ((y2.1.1.2.2.2.2.2.2.2.1 == (⟨#[]⟩ : ByteArray)) && (y2.1.1.2.2.2.2.2.2.2.2 == (0 : Int)))))))))))
      (some (((1 : Int), ()), ()))
      (cond (x.1.1.1 == (3 : Int))
       ((F 68 sg68 (((x.1.1.2.2.2.2.1.1, (x.1.1.2.2.2.2.1.2.1, x.1.1.2.2.2.2.1.2.2)), ()), ())).bind fun (y3 : ((Bool × Unit) × Unit)) =>
       (F 68 sg68 (((x.1.1.2.2.2.2.2.1.1, (x.1.1.2.2.2.2.2.1.2.1, x.1.1.2.2.2.2.2.1.2.2)), ()), ())).bind fun (y4 : ((Bool × Unit) × Unit)) =>
       cond (not y3.1.1)
        (some (((1 : Int), ()), ()))
        (cond (not y4.1.1)
         (some (((1 : Int), ()), ()))
         (some (((0 : Int), ()), ()))))
       (cond (x.1.1.1 == (5 : Int))
        ((F 19 sg19 ((x.1.1.2.2.1, ()), ())).bind fun (y5 : ((Bool × Unit) × Unit)) =>
        (F 19 sg19 ((x.1.1.2.2.2.1, ()), ())).bind fun (y6 : ((Bool × Unit) × Unit)) =>
        cond (not y5.1.1)
         (some (((1 : Int), ()), ()))
         (cond (not y6.1.1)
          (some (((1 : Int), ()), ()))
          (cond (decide (x.1.1.2.2.2.2.2.2.2.2 < (0 : Int)))
           (some (((1 : Int), ()), ()))
           (cond (decide (x.1.1.2.2.2.2.2.2.2.2 > (3 : Int)))
            (some (((1 : Int), ()), ()))
            (some (((0 : Int), ()), ()))))))
        (cond (x.1.1.1 == (6 : Int))
         ((F 19 sg19 ((x.1.1.2.2.2.1, ()), ())).bind fun (y7 : ((Bool × Unit) × Unit)) =>
         cond (not y7.1.1)
          (some (((1 : Int), ()), ()))
          (some (((0 : Int), ()), ())))
         (cond (x.1.1.1 == (8 : Int))
          ((F 29 sg29 ((x.1.1.2.2.2.2.2.2.2.2, ()), ())).bind fun (y8 : ((Bool × Unit) × Unit)) =>
          cond (not y8.1.1)
           (some (((1 : Int), ()), ()))
           (some (((0 : Int), ()), ())))
          (cond (x.1.1.1 == (7 : Int))
           ((F 28 sg28 ((x.1.1.2.2.2.2.2.2.2.1, ()), ())).bind fun (y9 : ((Bool × Unit) × Unit)) =>
           cond (not y9.1.1)
            (some (((4 : Int), ()), ()))
            (some (((0 : Int), ()), ())))
           (some (((0 : Int), ()), ())))))))))) := by kernel_rfl
theorem nf46 (F : FT) (J : JT sg46) (x : ((Diag × (Vert × Unit)) × Unit)) : nfE 46 sg46 Tryz.f46 F J x =
  J sh46_0 (seg Tryz.prog 46 0) ((false, ((0 : Int), ())), (((x.1.1, ()), (((x.1.2.1.1, (x.1.2.1.2.1, x.1.2.1.2.2)), ()), ((([] : List Vert), (([] : List EdgeT), ())), ((([] : List Vert), (x.1.1.2, ())), ())))), ())) := by kernel_rfl
theorem nl46_0 (F : FT) (J : JT sg46) (x : ((Bool × (Int × Unit)) × (((Diag × Unit) × ((Vert × Unit) × (((List Vert) × ((List EdgeT) × Unit)) × (((List Vert) × ((List EdgeT) × Unit)) × Unit)))) × Unit))) : nlE 46 0 sg46 Tryz.f46 sh46_0 F J x =
  cond (decide (x.1.2.1 < (((List.length x.2.1.1.1.1) : Nat) : Int)))
   (cond (not x.1.1)
    (((getI x.2.1.1.1.1 x.1.2.1)).bind fun (y1 : Vert) =>
    (F 69 sg69 ((x.2.1.2.1.1.1, (y1.1, ())), ())).bind fun (y2 : ((Int × Unit) × Unit)) =>
    cond (decide (y2.1.1 < (0 : Int)))
     (cond (fitsN (List.length x.2.1.2.2.2.1.1) (List.length ((x.2.1.2.1.1.1, (x.2.1.2.1.1.2.1, x.2.1.2.1.1.2.2)) :: ([] : List Vert))))
      (((getI x.2.1.1.1.1 x.1.2.1)).bind fun (y3 : Vert) =>
      cond (fitsN (List.length (x.2.1.2.2.2.1.1 ++ ((x.2.1.2.1.1.1, (x.2.1.2.1.1.2.1, x.2.1.2.1.1.2.2)) :: ([] : List Vert)))) (List.length ((y3.1, (y3.2.1, y3.2.2)) :: ([] : List Vert))))
       (J sh46_0 (seg Tryz.prog 46 0) ((true, ((IntKind.wrap .i64 (x.1.2.1 + (1 : Int))), ())), (((x.2.1.1.1, ()), (((x.2.1.2.1.1.1, (x.2.1.2.1.1.2.1, x.2.1.2.1.1.2.2)), ()), ((x.2.1.2.2.1.1, x.2.1.2.2.1.2), ((((x.2.1.2.2.2.1.1 ++ ((x.2.1.2.1.1.1, (x.2.1.2.1.1.2.1, x.2.1.2.1.1.2.2)) :: ([] : List Vert))) ++ ((y3.1, (y3.2.1, y3.2.2)) :: ([] : List Vert))), x.2.1.2.2.2.1.2), ())))), ())))
       (none))
      (none))
     (((getI x.2.1.1.1.1 x.1.2.1)).bind fun (y4 : Vert) =>
     cond (fitsN (List.length x.2.1.2.2.2.1.1) (List.length ((y4.1, (y4.2.1, y4.2.2)) :: ([] : List Vert))))
      (J sh46_0 (seg Tryz.prog 46 0) ((x.1.1, ((IntKind.wrap .i64 (x.1.2.1 + (1 : Int))), ())), (((x.2.1.1.1, ()), (((x.2.1.2.1.1.1, (x.2.1.2.1.1.2.1, x.2.1.2.1.1.2.2)), ()), ((x.2.1.2.2.1.1, x.2.1.2.2.1.2), (((x.2.1.2.2.2.1.1 ++ ((y4.1, (y4.2.1, y4.2.2)) :: ([] : List Vert))), x.2.1.2.2.2.1.2), ())))), ())))
      (none)))
    (((getI x.2.1.1.1.1 x.1.2.1)).bind fun (y5 : Vert) =>
    cond (fitsN (List.length x.2.1.2.2.2.1.1) (List.length ((y5.1, (y5.2.1, y5.2.2)) :: ([] : List Vert))))
     (J sh46_0 (seg Tryz.prog 46 0) ((x.1.1, ((IntKind.wrap .i64 (x.1.2.1 + (1 : Int))), ())), (((x.2.1.1.1, ()), (((x.2.1.2.1.1.1, (x.2.1.2.1.1.2.1, x.2.1.2.1.1.2.2)), ()), ((x.2.1.2.2.1.1, x.2.1.2.2.1.2), (((x.2.1.2.2.2.1.1 ++ ((y5.1, (y5.2.1, y5.2.2)) :: ([] : List Vert))), x.2.1.2.2.2.1.2), ())))), ())))
     (none)))
   (cond (not x.1.1)
    (cond (fitsN (List.length x.2.1.2.2.2.1.1) (List.length ((x.2.1.2.1.1.1, (x.2.1.2.1.1.2.1, x.2.1.2.1.1.2.2)) :: ([] : List Vert))))
     (some ((((x.2.1.2.2.2.1.1 ++ ((x.2.1.2.1.1.1, (x.2.1.2.1.1.2.1, x.2.1.2.1.1.2.2)) :: ([] : List Vert))), x.2.1.2.2.2.1.2.1), ()), ()))
     (none))
    (some (((x.2.1.2.2.2.1.1, x.2.1.2.2.2.1.2.1), ()), ()))) := by kernel_rfl
theorem nf47 (F : FT) (J : JT sg47) (x : ((Diag × (ID × (ID × Unit))) × Unit)) : nfE 47 sg47 Tryz.f47 F J x =
  J sh47_0 (seg Tryz.prog 47 0) (((0 : Int), ()), (((x.1.1, ()), ((x.1.2.1, ()), ((x.1.2.2.1, ()), ((([] : List Vert), (([] : List EdgeT), ())), ((([] : List Vert), (([] : List EdgeT), ())), ()))))), ())) := by kernel_rfl
theorem nl47_0 (F : FT) (J : JT sg47) (x : ((Int × Unit) × (((Diag × Unit) × ((ID × Unit) × ((ID × Unit) × (((List Vert) × ((List EdgeT) × Unit)) × (((List Vert) × ((List EdgeT) × Unit)) × Unit))))) × Unit))) : nlE 47 0 sg47 Tryz.f47 sh47_0 F J x =
  cond (decide (x.1.1 < (((List.length x.2.1.1.1.1) : Nat) : Int)))
   (((getI x.2.1.1.1.1 x.1.1)).bind fun (y1 : Vert) =>
   cond (not ((y1.1.1 == x.2.1.2.1.1.1) && (y1.1.2 == x.2.1.2.1.1.2)))
    (((getI x.2.1.1.1.1 x.1.1)).bind fun (y2 : Vert) =>
    cond (fitsN (List.length x.2.1.2.2.2.2.1.1) (List.length ((y2.1, (y2.2.1, y2.2.2)) :: ([] : List Vert))))
     (J sh47_0 (seg Tryz.prog 47 0) (((IntKind.wrap .i64 (x.1.1 + (1 : Int))), ()), (((x.2.1.1.1, ()), ((x.2.1.2.1.1, ()), ((x.2.1.2.2.1.1, ()), ((x.2.1.2.2.2.1.1, x.2.1.2.2.2.1.2), (((x.2.1.2.2.2.2.1.1 ++ ((y2.1, (y2.2.1, y2.2.2)) :: ([] : List Vert))), x.2.1.2.2.2.2.1.2), ()))))), ())))
     (none))
    (J sh47_0 (seg Tryz.prog 47 0) (((IntKind.wrap .i64 (x.1.1 + (1 : Int))), ()), (((x.2.1.1.1, ()), ((x.2.1.2.1.1, ()), ((x.2.1.2.2.1.1, ()), ((x.2.1.2.2.2.1.1, x.2.1.2.2.2.1.2), ((x.2.1.2.2.2.2.1.1, x.2.1.2.2.2.2.1.2), ()))))), ()))))
   (J sh47_1 (seg Tryz.prog 47 1) (((0 : Int), ()), (((x.2.1.1.1, ()), ((x.2.1.2.2.1.1, ()), ((x.2.1.2.2.2.1.1, x.2.1.2.2.2.1.2), ((x.2.1.2.2.2.2.1.1, x.2.1.2.2.2.2.1.2), ())))), ()))) := by kernel_rfl
theorem nl47_1 (F : FT) (J : JT sg47) (x : ((Int × Unit) × (((Diag × Unit) × ((ID × Unit) × (((List Vert) × ((List EdgeT) × Unit)) × (((List Vert) × ((List EdgeT) × Unit)) × Unit)))) × Unit))) : nlE 47 1 sg47 Tryz.f47 sh47_1 F J x =
  cond (decide (x.1.1 < (((List.length x.2.1.1.1.2) : Nat) : Int)))
   (((getI x.2.1.1.1.2 x.1.1)).bind fun (y3 : EdgeT) =>
   cond (not ((y3.1.1 == x.2.1.2.1.1.1) && (y3.1.2 == x.2.1.2.1.1.2)))
    (((getI x.2.1.1.1.2 x.1.1)).bind fun (y4 : EdgeT) =>
    cond (fitsN (List.length x.2.1.2.2.2.1.2.1) (List.length ((y4.1, y4.2) :: ([] : List EdgeT))))
     (J sh47_1 (seg Tryz.prog 47 1) (((IntKind.wrap .i64 (x.1.1 + (1 : Int))), ()), (((x.2.1.1.1, ()), ((x.2.1.2.1.1, ()), ((x.2.1.2.2.1.1, x.2.1.2.2.1.2), ((x.2.1.2.2.2.1.1, ((x.2.1.2.2.2.1.2.1 ++ ((y4.1, y4.2) :: ([] : List EdgeT))), ())), ())))), ())))
     (none))
    (J sh47_1 (seg Tryz.prog 47 1) (((IntKind.wrap .i64 (x.1.1 + (1 : Int))), ()), (((x.2.1.1.1, ()), ((x.2.1.2.1.1, ()), ((x.2.1.2.2.1.1, x.2.1.2.2.1.2), ((x.2.1.2.2.2.1.1, x.2.1.2.2.2.1.2), ())))), ()))))
   (some (((x.2.1.2.2.2.1.1, x.2.1.2.2.2.1.2.1), ()), ())) := by kernel_rfl
theorem nf48 (F : FT) (J : JT sg48) (x : ((StateT × (OpT × Unit)) × Unit)) : nfE 48 sg48 Tryz.f48 F J x =
  (F 21 sg21 ((x.1.1.1, (x.1.2.1.2.1, ())), ())).bind fun (y1 : ((EdgeT × (Bool × Unit)) × Unit)) =>
  cond y1.1.2.1
   (some ((((([] : List Vert), ([] : List EdgeT)), ([] : List GoneT)), ((12 : Int), ())), ()))
   (cond (decide ((((List.length x.1.1.1.2) : Nat) : Int) ≥ (40 : Int)))
    (some ((((([] : List Vert), ([] : List EdgeT)), ([] : List GoneT)), ((3 : Int), ())), ()))
    ((F 70 sg70 (((x.1.1.1, x.1.1.2), ((x.1.2.1.2.2.2.2.1.1, (x.1.2.1.2.2.2.2.1.2.1, x.1.2.1.2.2.2.2.1.2.2)), ())), ())).bind fun (y2 : ((Cor × (Int × Unit)) × Unit)) =>
    (F 70 sg70 (((x.1.1.1, x.1.1.2), ((x.1.2.1.2.2.2.2.2.1.1, (x.1.2.1.2.2.2.2.2.1.2.1, x.1.2.1.2.2.2.2.2.1.2.2)), ())), ())).bind fun (y3 : ((Cor × (Int × Unit)) × Unit)) =>
    (F 18 sg18 ((x.1.1.1, (x.1.2.1.2.2.2.2.2.1.1, ())), ())).bind fun (y4 : ((Vert × (Bool × Unit)) × Unit)) =>
    cond y4.1.2.1
     (cond (((x.1.2.1.2.2.2.2.2.1.2.1.1 == x.1.2.1.2.1.1) && (x.1.2.1.2.2.2.2.2.1.2.1.2 == x.1.2.1.2.1.2)) && (x.1.2.1.2.2.2.2.2.1.2.2 == (0 : Int)))
      (cond (y2.1.2.1 != (0 : Int))
       (some ((((([] : List Vert), ([] : List EdgeT)), ([] : List GoneT)), ((13 : Int), ())), ()))
       (cond (y3.1.2.1 != (0 : Int))
        (some ((((([] : List Vert), ([] : List EdgeT)), ([] : List GoneT)), ((13 : Int), ())), ()))
        ((F 71 sg71 ((x.1.1.1, ((x.1.2.1.2.1, ((⟨#[]⟩ : ByteArray), (0 : Int))), ())), ())).bind fun (y5 : ((Diag × Unit) × Unit)) =>
        (F 72 sg72 ((y5.1.1, ((y2.1.1.1, (y2.1.1.2.1, y2.1.1.2.2)), ((x.1.2.1.2.1, (0 : Int)), ()))), ())).bind fun (y6 : ((Diag × Unit) × Unit)) =>
        (F 72 sg72 ((y6.1.1, ((x.1.2.1.2.2.2.2.2.1.1, (x.1.2.1.2.2.2.2.2.1.2.1, x.1.2.1.2.2.2.2.2.1.2.2)), ((x.1.2.1.2.1, (1 : Int)), ()))), ())).bind fun (y7 : ((Diag × Unit) × Unit)) =>
        (F 64 sg64 ((y7.1.1, ()), ())).bind fun (y8 : ((Int × Unit) × Unit)) =>
        cond (y8.1.1 != (0 : Int))
         (some ((((([] : List Vert), ([] : List EdgeT)), ([] : List GoneT)), ((15 : Int), ())), ()))
         (some (((y7.1.1, x.1.1.2), ((0 : Int), ())), ())))))
      (cond (y2.1.2.1 != (0 : Int))
       (some ((((([] : List Vert), ([] : List EdgeT)), ([] : List GoneT)), ((13 : Int), ())), ()))
       (cond (y3.1.2.1 != (0 : Int))
        (some ((((([] : List Vert), ([] : List EdgeT)), ([] : List GoneT)), ((13 : Int), ())), ()))
        ((F 71 sg71 ((x.1.1.1, ((x.1.2.1.2.1, ((⟨#[]⟩ : ByteArray), (0 : Int))), ())), ())).bind fun (y9 : ((Diag × Unit) × Unit)) =>
        (F 72 sg72 ((y9.1.1, ((y2.1.1.1, (y2.1.1.2.1, y2.1.1.2.2)), ((x.1.2.1.2.1, (0 : Int)), ()))), ())).bind fun (y10 : ((Diag × Unit) × Unit)) =>
        (F 72 sg72 ((y10.1.1, ((y3.1.1.1, (y3.1.1.2.1, y3.1.1.2.2)), ((x.1.2.1.2.1, (1 : Int)), ()))), ())).bind fun (y11 : ((Diag × Unit) × Unit)) =>
        (F 64 sg64 ((y11.1.1, ()), ())).bind fun (y12 : ((Int × Unit) × Unit)) =>
        cond (y12.1.1 != (0 : Int))
         (some ((((([] : List Vert), ([] : List EdgeT)), ([] : List GoneT)), ((15 : Int), ())), ()))
         (some (((y11.1.1, x.1.1.2), ((0 : Int), ())), ()))))))
     (cond (y2.1.2.1 != (0 : Int))
      (some ((((([] : List Vert), ([] : List EdgeT)), ([] : List GoneT)), ((13 : Int), ())), ()))
      (cond (y3.1.2.1 != (0 : Int))
       (some ((((([] : List Vert), ([] : List EdgeT)), ([] : List GoneT)), ((13 : Int), ())), ()))
       ((F 71 sg71 ((x.1.1.1, ((x.1.2.1.2.1, ((⟨#[]⟩ : ByteArray), (0 : Int))), ())), ())).bind fun (y13 : ((Diag × Unit) × Unit)) =>
       (F 72 sg72 ((y13.1.1, ((y2.1.1.1, (y2.1.1.2.1, y2.1.1.2.2)), ((x.1.2.1.2.1, (0 : Int)), ()))), ())).bind fun (y14 : ((Diag × Unit) × Unit)) =>
       (F 72 sg72 ((y14.1.1, ((y3.1.1.1, (y3.1.1.2.1, y3.1.1.2.2)), ((x.1.2.1.2.1, (1 : Int)), ()))), ())).bind fun (y15 : ((Diag × Unit) × Unit)) =>
       (F 64 sg64 ((y15.1.1, ()), ())).bind fun (y16 : ((Int × Unit) × Unit)) =>
       cond (y16.1.1 != (0 : Int))
        (some ((((([] : List Vert), ([] : List EdgeT)), ([] : List GoneT)), ((15 : Int), ())), ()))
        (some (((y15.1.1, x.1.1.2), ((0 : Int), ())), ()))))))) := by kernel_rfl
theorem nf49 (F : FT) (J : JT sg49) (x : ((StateT × (OpT × Unit)) × Unit)) : nfE 49 sg49 Tryz.f49 F J x =
  (F 21 sg21 ((x.1.1.1, (x.1.2.1.2.1, ())), ())).bind fun (y1 : ((EdgeT × (Bool × Unit)) × Unit)) =>
  cond (not y1.1.2.1)
   (some ((((([] : List Vert), ([] : List EdgeT)), ([] : List GoneT)), ((13 : Int), ())), ()))
   ((F 74 sg74 ((x.1.1.1, ((x.1.2.1.2.1, (0 : Int)), ())), ())).bind fun (y2 : ((Dart × Unit) × Unit)) =>
   (F 73 sg73 ((x.1.1.2, (((x.1.2.1.2.1, (0 : Int)), (y2.1.1.1, y2.1.1.2)), ())), ())).bind fun (y3 : (((List GoneT) × Unit) × Unit)) =>
   (F 74 sg74 ((x.1.1.1, ((x.1.2.1.2.1, (1 : Int)), ())), ())).bind fun (y4 : ((Dart × Unit) × Unit)) =>
   (F 73 sg73 ((y3.1.1, (((x.1.2.1.2.1, (1 : Int)), (y4.1.1.1, y4.1.1.2)), ())), ())).bind fun (y5 : (((List GoneT) × Unit) × Unit)) =>
   (F 75 sg75 ((x.1.1.1, ((x.1.2.1.2.1, (0 : Int)), ())), ())).bind fun (y6 : ((Diag × Unit) × Unit)) =>
   (F 75 sg75 ((y6.1.1, ((x.1.2.1.2.1, (1 : Int)), ())), ())).bind fun (y7 : ((Diag × Unit) × Unit)) =>
   (F 47 sg47 ((y7.1.1, (((0 : Int), (0 : Int)), (x.1.2.1.2.1, ()))), ())).bind fun (y8 : ((Diag × Unit) × Unit)) =>
   some (((y8.1.1, y5.1.1), ((0 : Int), ())), ())) := by kernel_rfl
theorem nf50 (F : FT) (J : JT sg50) (x : ((StateT × (OpT × Unit)) × Unit)) : nfE 50 sg50 Tryz.f50 F J x =
  (F 21 sg21 ((x.1.1.1, (x.1.2.1.2.1, ())), ())).bind fun (y1 : ((EdgeT × (Bool × Unit)) × Unit)) =>
  cond (not y1.1.2.1)
   (some ((((([] : List Vert), ([] : List EdgeT)), ([] : List GoneT)), ((13 : Int), ())), ()))
   ((F 18 sg18 ((x.1.1.1, (x.1.2.1.2.2.1, ())), ())).bind fun (y2 : ((Vert × (Bool × Unit)) × Unit)) =>
   (F 21 sg21 ((x.1.1.1, (x.1.2.1.2.2.2.1, ())), ())).bind fun (y3 : ((EdgeT × (Bool × Unit)) × Unit)) =>
   cond y2.1.2.1
    (some ((((([] : List Vert), ([] : List EdgeT)), ([] : List GoneT)), ((12 : Int), ())), ()))
    (cond y3.1.2.1
     (some ((((([] : List Vert), ([] : List EdgeT)), ([] : List GoneT)), ((12 : Int), ())), ()))
     (cond (decide ((((List.length x.1.1.1.1) : Nat) : Int) ≥ (24 : Int)))
      (some ((((([] : List Vert), ([] : List EdgeT)), ([] : List GoneT)), ((3 : Int), ())), ()))
      (cond (decide ((((List.length x.1.1.1.2) : Nat) : Int) ≥ (40 : Int)))
       (some ((((([] : List Vert), ([] : List EdgeT)), ([] : List GoneT)), ((3 : Int), ())), ()))
       (cond ((2 : Int) == (0 : Int))
        (none)
        (cond ((2 : Int) == (0 : Int))
         (none)
         ((F 23 sg23 (((x.1.2.1.2.2.2.1, (IntKind.wrap .i64 (Int.tdiv x.1.2.1.2.2.2.2.2.2.2.2 (2 : Int)))), ()), ())).bind fun (y4 : ((Dart × Unit) × Unit)) =>
         (F 76 sg76 ((x.1.1.1, ((x.1.2.1.2.1, (IntKind.wrap .i64 ((1 : Int) - (Int.tmod x.1.2.1.2.2.2.2.2.2.2.2 (2 : Int))))), ((y4.1.1.1, y4.1.1.2), ()))), ())).bind fun (y5 : ((Diag × Unit) × Unit)) =>
         (F 71 sg71 ((y5.1.1, ((x.1.2.1.2.2.2.1, ((⟨#[]⟩ : ByteArray), (0 : Int))), ())), ())).bind fun (y6 : ((Diag × Unit) × Unit)) =>
         (F 77 sg77 ((((x.1.2.1.2.1, (IntKind.wrap .i64 ((1 : Int) - (Int.tmod x.1.2.1.2.2.2.2.2.2.2.2 (2 : Int))))) :: ((x.1.2.1.2.2.2.1, (IntKind.wrap .i64 (Int.tdiv x.1.2.1.2.2.2.2.2.2.2.2 (2 : Int)))) :: ([] : List Dart))), ()), ())).bind fun (y7 : (((List Dart) × Unit) × Unit)) =>
         (F 46 sg46 ((y6.1.1, ((x.1.2.1.2.2.1, (y7.1.1, ((⟨#[]⟩ : ByteArray), (0 : Int)))), ())), ())).bind fun (y8 : ((Diag × Unit) × Unit)) =>
         some (((y8.1.1, x.1.1.2), ((0 : Int), ())), ())))))))) := by kernel_rfl
theorem nf51 (F : FT) (J : JT sg51) (x : ((StateT × (OpT × Unit)) × Unit)) : nfE 51 sg51 Tryz.f51 F J x =
  (F 18 sg18 ((x.1.1.1, (x.1.2.1.2.1, ())), ())).bind fun (y1 : ((Vert × (Bool × Unit)) × Unit)) =>
  cond (not y1.1.2.1)
   (some ((((([] : List Vert), ([] : List EdgeT)), ([] : List GoneT)), ((13 : Int), ())), ()))
   (cond ((((List.length y1.1.1.2.1) : Nat) : Int) != (2 : Int))
    (some ((((([] : List Vert), ([] : List EdgeT)), ([] : List GoneT)), ((14 : Int), ())), ()))
    (((getI y1.1.1.2.1 (0 : Int))).bind fun (y2 : Dart) =>
    ((getI y1.1.1.2.1 (1 : Int))).bind fun (y3 : Dart) =>
    cond ((y2.1.1 == y3.1.1) && (y2.1.2 == y3.1.2))
     (some ((((([] : List Vert), ([] : List EdgeT)), ([] : List GoneT)), ((14 : Int), ())), ()))
     (((getI y1.1.1.2.1 (0 : Int))).bind fun (y4 : Dart) =>
     ((getI y1.1.1.2.1 (1 : Int))).bind fun (y5 : Dart) =>
     cond ((y4.1.1 == x.1.2.1.2.2.2.1.1) && (y4.1.2 == x.1.2.1.2.2.2.1.2))
      (((getI y1.1.1.2.1 (1 : Int))).bind fun (y6 : Dart) =>
      ((getI y1.1.1.2.1 (0 : Int))).bind fun (y7 : Dart) =>
      cond (not ((y7.1.1 == x.1.2.1.2.2.2.1.1) && (y7.1.2 == x.1.2.1.2.2.2.1.2)))
       (some ((((([] : List Vert), ([] : List EdgeT)), ([] : List GoneT)), ((14 : Int), ())), ()))
       ((F 23 sg23 (((y7.1, y7.2), ()), ())).bind fun (y8 : ((Dart × Unit) × Unit)) =>
       (F 47 sg47 ((x.1.1.1, (x.1.2.1.2.1, (((0 : Int), (0 : Int)), ()))), ())).bind fun (y9 : ((Diag × Unit) × Unit)) =>
       (F 76 sg76 ((y9.1.1, ((y8.1.1.1, y8.1.1.2), ((y6.1, y6.2), ()))), ())).bind fun (y10 : ((Diag × Unit) × Unit)) =>
       (F 47 sg47 ((y10.1.1, (((0 : Int), (0 : Int)), (y7.1, ()))), ())).bind fun (y11 : ((Diag × Unit) × Unit)) =>
       J sh51_0 (seg Tryz.prog 51 0) ((x.1.1.2, ((0 : Int), ())), (((([] : List Vert), (([] : List EdgeT), (([] : List GoneT), ()))), (((y6.1, y6.2), ()), (((y7.1, y7.2), ()), (((y8.1.1.1, y8.1.1.2), ()), ((y11.1.1, ()), ()))))), ()))))
      (cond (not ((y5.1.1 == x.1.2.1.2.2.2.1.1) && (y5.1.2 == x.1.2.1.2.2.2.1.2)))
       (some ((((([] : List Vert), ([] : List EdgeT)), ([] : List GoneT)), ((14 : Int), ())), ()))
       ((F 23 sg23 (((y5.1, y5.2), ()), ())).bind fun (y12 : ((Dart × Unit) × Unit)) =>
       (F 47 sg47 ((x.1.1.1, (x.1.2.1.2.1, (((0 : Int), (0 : Int)), ()))), ())).bind fun (y13 : ((Diag × Unit) × Unit)) =>
       (F 76 sg76 ((y13.1.1, ((y12.1.1.1, y12.1.1.2), ((y4.1, y4.2), ()))), ())).bind fun (y14 : ((Diag × Unit) × Unit)) =>
       (F 47 sg47 ((y14.1.1, (((0 : Int), (0 : Int)), (y5.1, ()))), ())).bind fun (y15 : ((Diag × Unit) × Unit)) =>
       J sh51_0 (seg Tryz.prog 51 0) ((x.1.1.2, ((0 : Int), ())), (((([] : List Vert), (([] : List EdgeT), (([] : List GoneT), ()))), (((y4.1, y4.2), ()), (((y5.1, y5.2), ()), (((y12.1.1.1, y12.1.1.2), ()), ((y15.1.1, ()), ()))))), ()))))))) := by kernel_rfl
theorem nl51_0 (F : FT) (J : JT sg51) (x : (((List GoneT) × (Int × Unit)) × ((WorkT × ((Dart × Unit) × ((Dart × Unit) × ((Dart × Unit) × ((Diag × Unit) × Unit))))) × Unit))) : nlE 51 0 sg51 Tryz.f51 sh51_0 F J x =
  cond (decide (x.1.2.1 < (2 : Int)))
   (cond (((x.2.1.2.2.1.1.1.1 == x.2.1.2.2.2.1.1.1.1) && (x.2.1.2.2.1.1.1.2 == x.2.1.2.2.2.1.1.1.2)) && (x.1.2.1 == x.2.1.2.2.2.1.1.2))
    ((F 73 sg73 ((x.1.1, (((x.2.1.2.2.1.1.1, x.1.2.1), (x.2.1.2.1.1.1, x.2.1.2.1.1.2)), ())), ())).bind fun (y16 : (((List GoneT) × Unit) × Unit)) =>
    J sh51_0 (seg Tryz.prog 51 0) ((y16.1.1, ((IntKind.wrap .i64 (x.1.2.1 + (1 : Int))), ())), (((x.2.1.1.1, (x.2.1.1.2.1, x.2.1.1.2.2)), (((x.2.1.2.1.1.1, x.2.1.2.1.1.2), ()), (((x.2.1.2.2.1.1.1, x.2.1.2.2.1.1.2), ()), (((x.2.1.2.2.2.1.1.1, x.2.1.2.2.2.1.1.2), ()), ((x.2.1.2.2.2.2.1.1, ()), ()))))), ())))
    ((F 73 sg73 ((x.1.1, (((x.2.1.2.2.1.1.1, x.1.2.1), (((0 : Int), (0 : Int)), (0 : Int))), ())), ())).bind fun (y17 : (((List GoneT) × Unit) × Unit)) =>
    J sh51_0 (seg Tryz.prog 51 0) ((y17.1.1, ((IntKind.wrap .i64 (x.1.2.1 + (1 : Int))), ())), (((x.2.1.1.1, (x.2.1.1.2.1, x.2.1.1.2.2)), (((x.2.1.2.1.1.1, x.2.1.2.1.1.2), ()), (((x.2.1.2.2.1.1.1, x.2.1.2.2.1.1.2), ()), (((x.2.1.2.2.2.1.1.1, x.2.1.2.2.2.1.1.2), ()), ((x.2.1.2.2.2.2.1.1, ()), ()))))), ()))))
   (some (((x.2.1.2.2.2.2.1.1, x.1.1), ((0 : Int), ())), ())) := by kernel_rfl
theorem nf52 (F : FT) (J : JT sg52) (x : ((StateT × (OpT × Unit)) × Unit)) : nfE 52 sg52 Tryz.f52 F J x =
  (F 38 sg38 ((x.1.1.1, ()), ())).bind fun (y1 : ((((List Vert) × ((List EdgeT) × Unit)) × Unit) × Unit)) =>
  J sh52_0 (seg Tryz.prog 52 0) ((false, ((0 : Int), ())), ((((x.1.1.1, x.1.1.2), ()), (((x.1.2.1.1, (x.1.2.1.2.1, (x.1.2.1.2.2.1, (x.1.2.1.2.2.2.1, ((x.1.2.1.2.2.2.2.1.1, (x.1.2.1.2.2.2.2.1.2.1, x.1.2.1.2.2.2.2.1.2.2)), ((x.1.2.1.2.2.2.2.2.1.1, (x.1.2.1.2.2.2.2.2.1.2.1, x.1.2.1.2.2.2.2.2.1.2.2)), (x.1.2.1.2.2.2.2.2.2.1, x.1.2.1.2.2.2.2.2.2.2))))))), ()), ((([] : List Vert), (([] : List EdgeT), (([] : List GoneT), ()))), ((y1.1.1.1, y1.1.1.2), ())))), ())) := by kernel_rfl
theorem nl52_0 (F : FT) (J : JT sg52) (x : ((Bool × (Int × Unit)) × (((StateT × Unit) × ((OpT × Unit) × (WorkT × (((List Vert) × ((List EdgeT) × Unit)) × Unit)))) × Unit))) : nlE 52 0 sg52 Tryz.f52 sh52_0 F J x =
  cond (decide (x.1.2.1 < (((List.length x.2.1.2.2.2.1.1) : Nat) : Int)))
   (cond (not x.2.1.2.1.1.2.2.2.2.2.2.1)
    (cond ((decide ((0 : Int) ≤ x.1.2.1)) && (decide (x.1.2.1 < (((List.length x.2.1.2.2.2.1.1) : Nat) : Int))))
     (((x.2.1.2.2.2.1.1)[(Int.toNat x.1.2.1)]?).bind fun (y2 : Vert) =>
     cond ((y2.1.1 == x.2.1.2.1.1.2.1.1) && (y2.1.2 == x.2.1.2.1.1.2.1.2))
      (cond (x.2.1.2.1.1.1 == (7 : Int))
       (cond ((decide ((0 : Int) ≤ x.1.2.1)) && (decide (x.1.2.1 < (((List.length x.2.1.2.2.2.1.1) : Nat) : Int))))
        (((x.2.1.2.2.2.1.1)[(Int.toNat x.1.2.1)]?).bind fun (y3 : Vert) =>
        J sh52_0 (seg Tryz.prog 52 0) ((true, ((IntKind.wrap .i64 (x.1.2.1 + (1 : Int))), ())), ((((x.2.1.1.1.1, x.2.1.1.1.2), ()), (((x.2.1.2.1.1.1, (x.2.1.2.1.1.2.1, (x.2.1.2.1.1.2.2.1, (x.2.1.2.1.1.2.2.2.1, ((x.2.1.2.1.1.2.2.2.2.1.1, (x.2.1.2.1.1.2.2.2.2.1.2.1, x.2.1.2.1.1.2.2.2.2.1.2.2)), ((x.2.1.2.1.1.2.2.2.2.2.1.1, (x.2.1.2.1.1.2.2.2.2.2.1.2.1, x.2.1.2.1.1.2.2.2.2.2.1.2.2)), (x.2.1.2.1.1.2.2.2.2.2.2.1, x.2.1.2.1.1.2.2.2.2.2.2.2))))))), ()), ((x.2.1.2.2.1.1, (x.2.1.2.2.1.2.1, x.2.1.2.2.1.2.2)), (((List.set x.2.1.2.2.2.1.1 (Int.toNat x.1.2.1) (y3.1, (y3.2.1, (x.2.1.2.1.1.2.2.2.2.2.2.2.1, y3.2.2.2)))), x.2.1.2.2.2.1.2), ())))), ())))
        (none))
       (cond ((decide ((0 : Int) ≤ x.1.2.1)) && (decide (x.1.2.1 < (((List.length x.2.1.2.2.2.1.1) : Nat) : Int))))
        (((x.2.1.2.2.2.1.1)[(Int.toNat x.1.2.1)]?).bind fun (y4 : Vert) =>
        J sh52_0 (seg Tryz.prog 52 0) ((true, ((IntKind.wrap .i64 (x.1.2.1 + (1 : Int))), ())), ((((x.2.1.1.1.1, x.2.1.1.1.2), ()), (((x.2.1.2.1.1.1, (x.2.1.2.1.1.2.1, (x.2.1.2.1.1.2.2.1, (x.2.1.2.1.1.2.2.2.1, ((x.2.1.2.1.1.2.2.2.2.1.1, (x.2.1.2.1.1.2.2.2.2.1.2.1, x.2.1.2.1.1.2.2.2.2.1.2.2)), ((x.2.1.2.1.1.2.2.2.2.2.1.1, (x.2.1.2.1.1.2.2.2.2.2.1.2.1, x.2.1.2.1.1.2.2.2.2.2.1.2.2)), (x.2.1.2.1.1.2.2.2.2.2.2.1, x.2.1.2.1.1.2.2.2.2.2.2.2))))))), ()), ((x.2.1.2.2.1.1, (x.2.1.2.2.1.2.1, x.2.1.2.2.1.2.2)), (((List.set x.2.1.2.2.2.1.1 (Int.toNat x.1.2.1) (y4.1, (y4.2.1, (y4.2.2.1, x.2.1.2.1.1.2.2.2.2.2.2.2.2)))), x.2.1.2.2.2.1.2), ())))), ())))
        (none)))
      (J sh52_0 (seg Tryz.prog 52 0) ((x.1.1, ((IntKind.wrap .i64 (x.1.2.1 + (1 : Int))), ())), ((((x.2.1.1.1.1, x.2.1.1.1.2), ()), (((x.2.1.2.1.1.1, (x.2.1.2.1.1.2.1, (x.2.1.2.1.1.2.2.1, (x.2.1.2.1.1.2.2.2.1, ((x.2.1.2.1.1.2.2.2.2.1.1, (x.2.1.2.1.1.2.2.2.2.1.2.1, x.2.1.2.1.1.2.2.2.2.1.2.2)), ((x.2.1.2.1.1.2.2.2.2.2.1.1, (x.2.1.2.1.1.2.2.2.2.2.1.2.1, x.2.1.2.1.1.2.2.2.2.2.1.2.2)), (x.2.1.2.1.1.2.2.2.2.2.2.1, x.2.1.2.1.1.2.2.2.2.2.2.2))))))), ()), ((x.2.1.2.2.1.1, (x.2.1.2.2.1.2.1, x.2.1.2.2.1.2.2)), ((x.2.1.2.2.2.1.1, x.2.1.2.2.2.1.2), ())))), ()))))
     (none))
    (J sh52_0 (seg Tryz.prog 52 0) ((x.1.1, ((IntKind.wrap .i64 (x.1.2.1 + (1 : Int))), ())), ((((x.2.1.1.1.1, x.2.1.1.1.2), ()), (((x.2.1.2.1.1.1, (x.2.1.2.1.1.2.1, (x.2.1.2.1.1.2.2.1, (x.2.1.2.1.1.2.2.2.1, ((x.2.1.2.1.1.2.2.2.2.1.1, (x.2.1.2.1.1.2.2.2.2.1.2.1, x.2.1.2.1.1.2.2.2.2.1.2.2)), ((x.2.1.2.1.1.2.2.2.2.2.1.1, (x.2.1.2.1.1.2.2.2.2.2.1.2.1, x.2.1.2.1.1.2.2.2.2.2.1.2.2)), (x.2.1.2.1.1.2.2.2.2.2.2.1, x.2.1.2.1.1.2.2.2.2.2.2.2))))))), ()), ((x.2.1.2.2.1.1, (x.2.1.2.2.1.2.1, x.2.1.2.2.1.2.2)), ((x.2.1.2.2.2.1.1, x.2.1.2.2.2.1.2), ())))), ()))))
   (J sh52_1 (seg Tryz.prog 52 1) ((x.1.1, ((0 : Int), ())), ((((x.2.1.1.1.1, x.2.1.1.1.2), ()), (((x.2.1.2.1.1.1, (x.2.1.2.1.1.2.1, (x.2.1.2.1.1.2.2.1, (x.2.1.2.1.1.2.2.2.1, ((x.2.1.2.1.1.2.2.2.2.1.1, (x.2.1.2.1.1.2.2.2.2.1.2.1, x.2.1.2.1.1.2.2.2.2.1.2.2)), ((x.2.1.2.1.1.2.2.2.2.2.1.1, (x.2.1.2.1.1.2.2.2.2.2.1.2.1, x.2.1.2.1.1.2.2.2.2.2.1.2.2)), (x.2.1.2.1.1.2.2.2.2.2.2.1, x.2.1.2.1.1.2.2.2.2.2.2.2))))))), ()), ((x.2.1.2.2.1.1, (x.2.1.2.2.1.2.1, x.2.1.2.2.1.2.2)), ((x.2.1.2.2.2.1.1, x.2.1.2.2.2.1.2), ())))), ()))) := by kernel_rfl
theorem nl52_1 (F : FT) (J : JT sg52) (x : ((Bool × (Int × Unit)) × (((StateT × Unit) × ((OpT × Unit) × (WorkT × (((List Vert) × ((List EdgeT) × Unit)) × Unit)))) × Unit))) : nlE 52 1 sg52 Tryz.f52 sh52_1 F J x =
  cond (decide (x.1.2.1 < (((List.length x.2.1.2.2.2.1.2.1) : Nat) : Int)))
   (cond x.2.1.2.1.1.2.2.2.2.2.2.1
    (cond ((decide ((0 : Int) ≤ x.1.2.1)) && (decide (x.1.2.1 < (((List.length x.2.1.2.2.2.1.2.1) : Nat) : Int))))
     (((x.2.1.2.2.2.1.2.1)[(Int.toNat x.1.2.1)]?).bind fun (y5 : EdgeT) =>
     cond ((y5.1.1 == x.2.1.2.1.1.2.1.1) && (y5.1.2 == x.2.1.2.1.1.2.1.2))
      (cond (x.2.1.2.1.1.1 == (7 : Int))
       (cond ((decide ((0 : Int) ≤ x.1.2.1)) && (decide (x.1.2.1 < (((List.length x.2.1.2.2.2.1.2.1) : Nat) : Int))))
        (((x.2.1.2.2.2.1.2.1)[(Int.toNat x.1.2.1)]?).bind fun (y6 : EdgeT) =>
        J sh52_1 (seg Tryz.prog 52 1) ((true, ((IntKind.wrap .i64 (x.1.2.1 + (1 : Int))), ())), ((((x.2.1.1.1.1, x.2.1.1.1.2), ()), (((x.2.1.2.1.1.1, (x.2.1.2.1.1.2.1, (x.2.1.2.1.1.2.2.1, (x.2.1.2.1.1.2.2.2.1, ((x.2.1.2.1.1.2.2.2.2.1.1, (x.2.1.2.1.1.2.2.2.2.1.2.1, x.2.1.2.1.1.2.2.2.2.1.2.2)), ((x.2.1.2.1.1.2.2.2.2.2.1.1, (x.2.1.2.1.1.2.2.2.2.2.1.2.1, x.2.1.2.1.1.2.2.2.2.2.1.2.2)), (x.2.1.2.1.1.2.2.2.2.2.2.1, x.2.1.2.1.1.2.2.2.2.2.2.2))))))), ()), ((x.2.1.2.2.1.1, (x.2.1.2.2.1.2.1, x.2.1.2.2.1.2.2)), ((x.2.1.2.2.2.1.1, ((List.set x.2.1.2.2.2.1.2.1 (Int.toNat x.1.2.1) (y6.1, (x.2.1.2.1.1.2.2.2.2.2.2.2.1, y6.2.2))), ())), ())))), ())))
        (none))
       (cond ((decide ((0 : Int) ≤ x.1.2.1)) && (decide (x.1.2.1 < (((List.length x.2.1.2.2.2.1.2.1) : Nat) : Int))))
        (((x.2.1.2.2.2.1.2.1)[(Int.toNat x.1.2.1)]?).bind fun (y7 : EdgeT) =>
        J sh52_1 (seg Tryz.prog 52 1) ((true, ((IntKind.wrap .i64 (x.1.2.1 + (1 : Int))), ())), ((((x.2.1.1.1.1, x.2.1.1.1.2), ()), (((x.2.1.2.1.1.1, (x.2.1.2.1.1.2.1, (x.2.1.2.1.1.2.2.1, (x.2.1.2.1.1.2.2.2.1, ((x.2.1.2.1.1.2.2.2.2.1.1, (x.2.1.2.1.1.2.2.2.2.1.2.1, x.2.1.2.1.1.2.2.2.2.1.2.2)), ((x.2.1.2.1.1.2.2.2.2.2.1.1, (x.2.1.2.1.1.2.2.2.2.2.1.2.1, x.2.1.2.1.1.2.2.2.2.2.1.2.2)), (x.2.1.2.1.1.2.2.2.2.2.2.1, x.2.1.2.1.1.2.2.2.2.2.2.2))))))), ()), ((x.2.1.2.2.1.1, (x.2.1.2.2.1.2.1, x.2.1.2.2.1.2.2)), ((x.2.1.2.2.2.1.1, ((List.set x.2.1.2.2.2.1.2.1 (Int.toNat x.1.2.1) (y7.1, (y7.2.1, x.2.1.2.1.1.2.2.2.2.2.2.2.2))), ())), ())))), ())))
        (none)))
      (J sh52_1 (seg Tryz.prog 52 1) ((x.1.1, ((IntKind.wrap .i64 (x.1.2.1 + (1 : Int))), ())), ((((x.2.1.1.1.1, x.2.1.1.1.2), ()), (((x.2.1.2.1.1.1, (x.2.1.2.1.1.2.1, (x.2.1.2.1.1.2.2.1, (x.2.1.2.1.1.2.2.2.1, ((x.2.1.2.1.1.2.2.2.2.1.1, (x.2.1.2.1.1.2.2.2.2.1.2.1, x.2.1.2.1.1.2.2.2.2.1.2.2)), ((x.2.1.2.1.1.2.2.2.2.2.1.1, (x.2.1.2.1.1.2.2.2.2.2.1.2.1, x.2.1.2.1.1.2.2.2.2.2.1.2.2)), (x.2.1.2.1.1.2.2.2.2.2.2.1, x.2.1.2.1.1.2.2.2.2.2.2.2))))))), ()), ((x.2.1.2.2.1.1, (x.2.1.2.2.1.2.1, x.2.1.2.2.1.2.2)), ((x.2.1.2.2.2.1.1, x.2.1.2.2.2.1.2), ())))), ()))))
     (none))
    (J sh52_1 (seg Tryz.prog 52 1) ((x.1.1, ((IntKind.wrap .i64 (x.1.2.1 + (1 : Int))), ())), ((((x.2.1.1.1.1, x.2.1.1.1.2), ()), (((x.2.1.2.1.1.1, (x.2.1.2.1.1.2.1, (x.2.1.2.1.1.2.2.1, (x.2.1.2.1.1.2.2.2.1, ((x.2.1.2.1.1.2.2.2.2.1.1, (x.2.1.2.1.1.2.2.2.2.1.2.1, x.2.1.2.1.1.2.2.2.2.1.2.2)), ((x.2.1.2.1.1.2.2.2.2.2.1.1, (x.2.1.2.1.1.2.2.2.2.2.1.2.1, x.2.1.2.1.1.2.2.2.2.2.1.2.2)), (x.2.1.2.1.1.2.2.2.2.2.2.1, x.2.1.2.1.1.2.2.2.2.2.2.2))))))), ()), ((x.2.1.2.2.1.1, (x.2.1.2.2.1.2.1, x.2.1.2.2.1.2.2)), ((x.2.1.2.2.2.1.1, x.2.1.2.2.2.1.2), ())))), ()))))
   (cond (not x.1.1)
    (some ((((([] : List Vert), ([] : List EdgeT)), ([] : List GoneT)), ((13 : Int), ())), ()))
    (some ((((x.2.1.2.2.2.1.1, x.2.1.2.2.2.1.2.1), x.2.1.1.1.2), ((0 : Int), ())), ()))) := by kernel_rfl
end Go.Vs

set_option linter.unusedVariables false
set_option maxRecDepth 1000000
set_option maxHeartbeats 0
namespace Go.Vs
open Go.Proofs
theorem nf54 (F : FT) (J : JT sg54) (x : ((Diag × (Dart × Unit)) × Unit)) : nfE 54 sg54 Tryz.f54 F J x =
  (F 20 sg20 ((x.1.1, ((x.1.2.1.1, x.1.2.1.2), ())), ())).bind fun (y1 : ((ID × (Bool × Unit)) × Unit)) =>
  cond (not y1.1.2.1)
   (some (((((0 : Int), (0 : Int)), (0 : Int)), (false, ())), ()))
   ((F 23 sg23 (((x.1.2.1.1, x.1.2.1.2), ()), ())).bind fun (y2 : ((Dart × Unit) × Unit)) =>
   (F 78 sg78 ((x.1.1, ((y2.1.1.1, y2.1.1.2), ())), ())).bind fun (y3 : ((Dart × (Bool × Unit)) × Unit)) =>
   some (((y3.1.1.1, y3.1.1.2), y3.1.2), ())) := by kernel_rfl
theorem nf55 (F : FT) (J : JT sg55) (x : ((Diag × (ID × Unit)) × Unit)) : nfE 55 sg55 Tryz.f55 F J x =
  J sh55_0 (seg Tryz.prog 55 0) (((0 : Int), ()), (((x.1.1, ()), ((x.1.2.1, ()), ())), ())) := by kernel_rfl
theorem nl55_0 (F : FT) (J : JT sg55) (x : ((Int × Unit) × (((Diag × Unit) × ((ID × Unit) × Unit)) × Unit))) : nlE 55 0 sg55 Tryz.f55 sh55_0 F J x =
  cond (decide (x.1.1 < (((List.length x.2.1.1.1.1) : Nat) : Int)))
   (((getI x.2.1.1.1.1 x.1.1)).bind fun (y1 : Vert) =>
   cond ((y1.1.1 == x.2.1.2.1.1.1) && (y1.1.2 == x.2.1.2.1.1.2))
    (some (x.1, ()))
    (J sh55_0 (seg Tryz.prog 55 0) (((IntKind.wrap .i64 (x.1.1 + (1 : Int))), ()), (((x.2.1.1.1, ()), ((x.2.1.2.1.1, ()), ())), ()))))
   (some (((-1 : Int), ()), ())) := by kernel_rfl
theorem nf56 (F : FT) (J : JT sg56) (x : ((Diag × Unit) × Unit)) : nfE 56 sg56 Tryz.f56 F J x =
  J sh56_0 (seg Tryz.prog 56 0) (((0 : Int), ()), (((x.1.1, ()), ()), (([] : List Int), ()))) := by kernel_rfl
theorem nl56_0 (F : FT) (J : JT sg56) (x : ((Int × Unit) × (((Diag × Unit) × Unit) × ((List Int) × Unit)))) : nlE 56 0 sg56 Tryz.f56 sh56_0 F J x =
  cond (decide (x.1.1 < (((List.length x.2.1.1.1.1) : Nat) : Int)))
   (cond (fitsN (List.length x.2.2.1) (List.length (x.1.1 :: ([] : List Int))))
    (J sh56_0 (seg Tryz.prog 56 0) (((IntKind.wrap .i64 (x.1.1 + (1 : Int))), ()), (((x.2.1.1.1, ()), ()), ((x.2.2.1 ++ (x.1.1 :: ([] : List Int))), ()))))
    (none))
   (J sh56_1 (seg Tryz.prog 56 1) (((0 : Int), ()), (((x.2.1.1.1, ()), ()), x.2.2))) := by kernel_rfl
theorem nl56_1 (F : FT) (J : JT sg56) (x : ((Int × Unit) × (((Diag × Unit) × Unit) × ((List Int) × Unit)))) : nlE 56 1 sg56 Tryz.f56 sh56_1 F J x =
  cond (decide (x.1.1 < (((List.length x.2.1.1.1.1) : Nat) : Int)))
   (J sh56_2 (seg Tryz.prog 56 2) ((x.1.1, ((0 : Int), ())), (((x.2.1.1.1, ()), ()), x.2.2)))
   (some (x.2.2, ())) := by kernel_rfl
theorem nl56_2 (F : FT) (J : JT sg56) (x : ((Int × (Int × Unit)) × (((Diag × Unit) × Unit) × ((List Int) × Unit)))) : nlE 56 2 sg56 Tryz.f56 sh56_2 F J x =
  cond (decide (x.1.2.1 < (((List.length x.2.1.1.1.2) : Nat) : Int)))
   (((getI x.2.1.1.1.2 x.1.2.1)).bind fun (y1 : EdgeT) =>
   (F 20 sg20 ((x.2.1.1.1, ((y1.1, (0 : Int)), ())), ())).bind fun (y2 : ((ID × (Bool × Unit)) × Unit)) =>
   ((getI x.2.1.1.1.2 x.1.2.1)).bind fun (y3 : EdgeT) =>
   (F 20 sg20 ((x.2.1.1.1, ((y3.1, (1 : Int)), ())), ())).bind fun (y4 : ((ID × (Bool × Unit)) × Unit)) =>
   (F 55 sg55 ((x.2.1.1.1, (y2.1.1, ())), ())).bind fun (y5 : ((Int × Unit) × Unit)) =>
   (F 55 sg55 ((x.2.1.1.1, (y4.1.1, ())), ())).bind fun (y6 : ((Int × Unit) × Unit)) =>
   cond (decide (y5.1.1 ≥ (0 : Int)))
    (cond (decide (y6.1.1 ≥ (0 : Int)))
     (cond ((decide ((0 : Int) ≤ y5.1.1)) && (decide (y5.1.1 < (((List.length x.2.2.1) : Nat) : Int))))
      (((x.2.2.1)[(Int.toNat y5.1.1)]?).bind fun (y7 : Int) =>
      cond ((decide ((0 : Int) ≤ y6.1.1)) && (decide (y6.1.1 < (((List.length x.2.2.1) : Nat) : Int))))
       (((x.2.2.1)[(Int.toNat y6.1.1)]?).bind fun (y8 : Int) =>
       cond ((decide ((0 : Int) ≤ y5.1.1)) && (decide (y5.1.1 < (((List.length x.2.2.1) : Nat) : Int))))
        (((x.2.2.1)[(Int.toNat y5.1.1)]?).bind fun (y9 : Int) =>
        cond ((decide ((0 : Int) ≤ y6.1.1)) && (decide (y6.1.1 < (((List.length (List.set x.2.2.1 (Int.toNat y5.1.1) (min y7 y8 : Int))) : Nat) : Int))))
         ((((List.set x.2.2.1 (Int.toNat y5.1.1) (min y7 y8 : Int)))[(Int.toNat y6.1.1)]?).bind fun (y10 : Int) =>
         J sh56_2 (seg Tryz.prog 56 2) ((x.1.1, ((IntKind.wrap .i64 (x.1.2.1 + (1 : Int))), ())), (((x.2.1.1.1, ()), ()), ((List.set (List.set x.2.2.1 (Int.toNat y5.1.1) (min y7 y8 : Int)) (Int.toNat y6.1.1) (min y7 y8 : Int)), ()))))
         (none))
        (none))
       (none))
      (none))
     (J sh56_2 (seg Tryz.prog 56 2) ((x.1.1, ((IntKind.wrap .i64 (x.1.2.1 + (1 : Int))), ())), (((x.2.1.1.1, ()), ()), x.2.2))))
    (J sh56_2 (seg Tryz.prog 56 2) ((x.1.1, ((IntKind.wrap .i64 (x.1.2.1 + (1 : Int))), ())), (((x.2.1.1.1, ()), ()), x.2.2))))
   (J sh56_1 (seg Tryz.prog 56 1) (((IntKind.wrap .i64 (x.1.1 + (1 : Int))), ()), (((x.2.1.1.1, ()), ()), x.2.2))) := by kernel_rfl
theorem nf58 (F : FT) (J : JT sg58) (x : (((List OpT) × Unit) × Unit)) : nfE 58 sg58 Tryz.f58 F J x =
  cond ((((List.length x.1.1) : Nat) : Int) == (0 : Int))
   (some (((3 : Int), ()), ()))
   (cond (decide ((((List.length x.1.1) : Nat) : Int) > (6 : Int)))
    (some (((3 : Int), ()), ()))
    (J sh58_0 (seg Tryz.prog 58 0) ((x.1.1, ((((List.length x.1.1) : Nat) : Int), ((0 : Int), ()))), ((), ())))) := by kernel_rfl
theorem nl58_0 (F : FT) (J : JT sg58) (x : (((List OpT) × (Int × (Int × Unit))) × (Unit × Unit))) : nlE 58 0 sg58 Tryz.f58 sh58_0 F J x =
  cond (decide (x.1.2.2.1 < x.1.2.1))
   (((getI x.1.1 x.1.2.2.1)).bind fun (y1 : OpT) =>
   (F 43 sg43 (((y1.1, (y1.2.1, (y1.2.2.1, (y1.2.2.2.1, ((y1.2.2.2.2.1.1, (y1.2.2.2.2.1.2.1, y1.2.2.2.2.1.2.2)), ((y1.2.2.2.2.2.1.1, (y1.2.2.2.2.2.1.2.1, y1.2.2.2.2.2.1.2.2)), (y1.2.2.2.2.2.2.1, y1.2.2.2.2.2.2.2))))))), ()), ())).bind fun (y2 : ((Int × Unit) × Unit)) =>
   cond (y2.1.1 != (0 : Int))
    (some (y2.1, ()))
    (J sh58_0 (seg Tryz.prog 58 0) ((x.1.1, (x.1.2.1, ((IntKind.wrap .i64 (x.1.2.2.1 + (1 : Int))), ()))), ((), ()))))
   (some (((0 : Int), ()), ())) := by kernel_rfl
theorem nf59 (F : FT) (J : JT sg59) (x : ((Diag × Unit) × Unit)) : nfE 59 sg59 Tryz.f59 F J x =
  J sh59_0 (seg Tryz.prog 59 0) (((0 : Int), ()), (((x.1.1, ()), ()), (([] : List Dart), ()))) := by kernel_rfl
theorem nl59_0 (F : FT) (J : JT sg59) (x : ((Int × Unit) × (((Diag × Unit) × Unit) × ((List Dart) × Unit)))) : nlE 59 0 sg59 Tryz.f59 sh59_0 F J x =
  cond (decide (x.1.1 < (((List.length x.2.1.1.1.2) : Nat) : Int)))
   (((getI x.2.1.1.1.2 x.1.1)).bind fun (y1 : EdgeT) =>
   ((getI x.2.1.1.1.2 x.1.1)).bind fun (y2 : EdgeT) =>
   cond (fitsN (List.length x.2.2.1) (List.length ((y1.1, (0 : Int)) :: ((y2.1, (1 : Int)) :: ([] : List Dart)))))
    (J sh59_0 (seg Tryz.prog 59 0) (((IntKind.wrap .i64 (x.1.1 + (1 : Int))), ()), (((x.2.1.1.1, ()), ()), ((x.2.2.1 ++ ((y1.1, (0 : Int)) :: ((y2.1, (1 : Int)) :: ([] : List Dart)))), ()))))
    (none))
   (some (x.2.2, ())) := by kernel_rfl
theorem nf60 (F : FT) (J : JT sg60) (x : ((Diag × Unit) × Unit)) : nfE 60 sg60 Tryz.f60 F J x =
  (F 79 sg79 ((x.1.1.1, ()), ())).bind fun (y1 : (((List Vert) × Unit) × Unit)) =>
  (F 80 sg80 ((x.1.1.2, ()), ())).bind fun (y2 : (((List EdgeT) × Unit) × Unit)) =>
  J sh60_0 (seg Tryz.prog 60 0) (((((List.length y1.1.1) : Nat) : Int), ((0 : Int), ())), (((([] : List Vert), (([] : List EdgeT), ())), ((y1.1.1, y2.1), ())), ())) := by kernel_rfl
theorem nl60_0 (F : FT) (J : JT sg60) (x : ((Int × (Int × Unit)) × ((((List Vert) × ((List EdgeT) × Unit)) × (((List Vert) × ((List EdgeT) × Unit)) × Unit)) × Unit))) : nlE 60 0 sg60 Tryz.f60 sh60_0 F J x =
  cond (decide (x.1.2.1 < x.1.1))
   (cond ((decide ((0 : Int) ≤ x.1.2.1)) && (decide (x.1.2.1 < (((List.length x.2.1.2.1.1) : Nat) : Int))))
    (((x.2.1.2.1.1)[(Int.toNat x.1.2.1)]?).bind fun (y3 : Vert) =>
    (F 81 sg81 ((y3.2.1, ()), ())).bind fun (y4 : (((List Dart) × Unit) × Unit)) =>
    cond ((decide ((0 : Int) ≤ x.1.2.1)) && (decide (x.1.2.1 < (((List.length x.2.1.2.1.1) : Nat) : Int))))
     (((x.2.1.2.1.1)[(Int.toNat x.1.2.1)]?).bind fun (y5 : Vert) =>
     J sh60_0 (seg Tryz.prog 60 0) ((x.1.1, ((IntKind.wrap .i64 (x.1.2.1 + (1 : Int))), ())), (((x.2.1.1.1, x.2.1.1.2), (((List.set x.2.1.2.1.1 (Int.toNat x.1.2.1) (y5.1, (y4.1.1, y5.2.2))), x.2.1.2.1.2), ())), ())))
     (none))
    (none))
   (some (((x.2.1.2.1.1, x.2.1.2.1.2), ()), ())) := by kernel_rfl
theorem nf61 (F : FT) (J : JT sg61) (x : (((List GoneT) × Unit) × Unit)) : nfE 61 sg61 Tryz.f61 F J x =
  cond (List.isEmpty x.1.1)
   (anyN 2 fun (j1 : Nat) =>
   cond ((j1 == 0) == true)
    (some ((([] : List GoneT), ()), ()))
    (cond (fitsN (List.length ([] : List GoneT)) (List.length x.1.1))
     (some (((([] : List GoneT) ++ x.1.1), ()), ()))
     (none)))
   (cond (fitsN (List.length ([] : List GoneT)) (List.length x.1.1))
    (some (((([] : List GoneT) ++ x.1.1), ()), ()))
    (none)) := by kernel_rfl
theorem nf62 (F : FT) (J : JT sg62) (x : ((Dart × (Dart × Unit)) × Unit)) : nfE 62 sg62 Tryz.f62 F J x =
  (F 69 sg69 ((x.1.1.1, (x.1.2.1.1, ())), ())).bind fun (y1 : ((Int × Unit) × Unit)) =>
  cond (y1.1.1 != (0 : Int))
   (some (y1.1, ()))
   (cond (decide (x.1.1.2 < x.1.2.1.2))
    (some (((-1 : Int), ()), ()))
    (cond (decide (x.1.1.2 > x.1.2.1.2))
     (some (((1 : Int), ()), ()))
     (some (((0 : Int), ()), ())))) := by kernel_rfl
theorem nf64 (F : FT) (J : JT sg64) (x : ((Diag × Unit) × Unit)) : nfE 64 sg64 Tryz.f64 F J x =
  (F 85 sg85 ((x.1.1, ()), ())).bind fun (y1 : ((Int × (Int × (Int × (Int × Unit)))) × Unit)) =>
  cond ((2 : Int) == (0 : Int))
   (none)
   (some (((IntKind.wrap .i64 (Int.tdiv (IntKind.wrap .i64 ((IntKind.wrap .i64 ((IntKind.wrap .i64 ((IntKind.wrap .i64 ((2 : Int) * y1.1.2.2.2.1)) - y1.1.1)) + y1.1.2.1)) - y1.1.2.2.1)) (2 : Int))), ()), ())) := by kernel_rfl
theorem nf65 (F : FT) (J : JT sg65) (x : ((OpT × Unit) × Unit)) : nfE 65 sg65 Tryz.f65 F J x =
  (F 86 sg86 ((x.1.1.2.1, ()), ())).bind fun (y1 : ((Bool × Unit) × Unit)) =>
  cond (x.1.1.1 == (1 : Int))
   (cond (x.1.1.1 == (1 : Int))
    (cond (not y1.1.1)
     (some (((x.1.1.1, (x.1.1.2.1, (((0 : Int), (0 : Int)), (((0 : Int), (0 : Int)), ((((0 : Int), (0 : Int)), (((0 : Int), (0 : Int)), (0 : Int))), ((((0 : Int), (0 : Int)), (((0 : Int), (0 : Int)), (0 : Int))), (false, ((⟨#[]⟩ : ByteArray), (0 : Int))))))))), ((1 : Int), ())), ()))
     (some (((x.1.1.1, (x.1.1.2.1, (((0 : Int), (0 : Int)), (((0 : Int), (0 : Int)), ((((0 : Int), (0 : Int)), (((0 : Int), (0 : Int)), (0 : Int))), ((((0 : Int), (0 : Int)), (((0 : Int), (0 : Int)), (0 : Int))), (false, ((⟨#[]⟩ : ByteArray), (0 : Int))))))))), ((0 : Int), ())), ())))
    (cond (x.1.1.1 == (6 : Int))
     (cond y1.1.1
      ((F 86 sg86 ((x.1.1.2.2.2.1, ()), ())).bind fun (y2 : ((Bool × Unit) × Unit)) =>
      cond (not y2.1.1)
       (some (((x.1.1.1, (x.1.1.2.1, (((0 : Int), (0 : Int)), (x.1.1.2.2.2.1, ((((0 : Int), (0 : Int)), (((0 : Int), (0 : Int)), (0 : Int))), ((((0 : Int), (0 : Int)), (((0 : Int), (0 : Int)), (0 : Int))), (false, ((⟨#[]⟩ : ByteArray), (0 : Int))))))))), ((1 : Int), ())), ()))
       (some (((x.1.1.1, (x.1.1.2.1, (((0 : Int), (0 : Int)), (x.1.1.2.2.2.1, ((((0 : Int), (0 : Int)), (((0 : Int), (0 : Int)), (0 : Int))), ((((0 : Int), (0 : Int)), (((0 : Int), (0 : Int)), (0 : Int))), (false, ((⟨#[]⟩ : ByteArray), (0 : Int))))))))), ((0 : Int), ())), ())))
      (some (((x.1.1.1, (x.1.1.2.1, (((0 : Int), (0 : Int)), (x.1.1.2.2.2.1, ((((0 : Int), (0 : Int)), (((0 : Int), (0 : Int)), (0 : Int))), ((((0 : Int), (0 : Int)), (((0 : Int), (0 : Int)), (0 : Int))), (false, ((⟨#[]⟩ : ByteArray), (0 : Int))))))))), ((1 : Int), ())), ())))
     (cond (x.1.1.1 == (3 : Int))
      (cond y1.1.1
       ((F 87 sg87 (((x.1.1.2.2.2.2.1.1, (x.1.1.2.2.2.2.1.2.1, x.1.1.2.2.2.2.1.2.2)), ()), ())).bind fun (y3 : ((Bool × Unit) × Unit)) =>
       cond y3.1.1
        ((F 87 sg87 (((x.1.1.2.2.2.2.2.1.1, (x.1.1.2.2.2.2.2.1.2.1, x.1.1.2.2.2.2.2.1.2.2)), ()), ())).bind fun (y4 : ((Bool × Unit) × Unit)) =>
        cond (not y4.1.1)
         (some (((x.1.1.1, (x.1.1.2.1, (((0 : Int), (0 : Int)), (((0 : Int), (0 : Int)), ((x.1.1.2.2.2.2.1.1, (x.1.1.2.2.2.2.1.2.1, x.1.1.2.2.2.2.1.2.2)), ((x.1.1.2.2.2.2.2.1.1, (x.1.1.2.2.2.2.2.1.2.1, x.1.1.2.2.2.2.2.1.2.2)), (false, ((⟨#[]⟩ : ByteArray), (0 : Int))))))))), ((1 : Int), ())), ()))
         (some (((x.1.1.1, (x.1.1.2.1, (((0 : Int), (0 : Int)), (((0 : Int), (0 : Int)), ((x.1.1.2.2.2.2.1.1, (x.1.1.2.2.2.2.1.2.1, x.1.1.2.2.2.2.1.2.2)), ((x.1.1.2.2.2.2.2.1.1, (x.1.1.2.2.2.2.2.1.2.1, x.1.1.2.2.2.2.2.1.2.2)), (false, ((⟨#[]⟩ : ByteArray), (0 : Int))))))))), ((0 : Int), ())), ())))
        (some (((x.1.1.1, (x.1.1.2.1, (((0 : Int), (0 : Int)), (((0 : Int), (0 : Int)), ((x.1.1.2.2.2.2.1.1, (x.1.1.2.2.2.2.1.2.1, x.1.1.2.2.2.2.1.2.2)), ((x.1.1.2.2.2.2.2.1.1, (x.1.1.2.2.2.2.2.1.2.1, x.1.1.2.2.2.2.2.1.2.2)), (false, ((⟨#[]⟩ : ByteArray), (0 : Int))))))))), ((1 : Int), ())), ())))
       (some (((x.1.1.1, (x.1.1.2.1, (((0 : Int), (0 : Int)), (((0 : Int), (0 : Int)), ((x.1.1.2.2.2.2.1.1, (x.1.1.2.2.2.2.1.2.1, x.1.1.2.2.2.2.1.2.2)), ((x.1.1.2.2.2.2.2.1.1, (x.1.1.2.2.2.2.2.1.2.1, x.1.1.2.2.2.2.2.1.2.2)), (false, ((⟨#[]⟩ : ByteArray), (0 : Int))))))))), ((1 : Int), ())), ())))
      (cond (x.1.1.1 == (5 : Int))
       (cond y1.1.1
        ((F 86 sg86 ((x.1.1.2.2.1, ()), ())).bind fun (y5 : ((Bool × Unit) × Unit)) =>
        cond y5.1.1
         ((F 86 sg86 ((x.1.1.2.2.2.1, ()), ())).bind fun (y6 : ((Bool × Unit) × Unit)) =>
         cond y6.1.1
          (cond (not ((bitsI .andNot .i64 x.1.1.2.2.2.2.2.2.2.2 (3 : Int)) == (0 : Int)))
           (some (((x.1.1.1, (x.1.1.2.1, (x.1.1.2.2.1, (x.1.1.2.2.2.1, ((((0 : Int), (0 : Int)), (((0 : Int), (0 : Int)), (0 : Int))), ((((0 : Int), (0 : Int)), (((0 : Int), (0 : Int)), (0 : Int))), (false, ((⟨#[]⟩ : ByteArray), x.1.1.2.2.2.2.2.2.2.2)))))))), ((1 : Int), ())), ()))
           (some (((x.1.1.1, (x.1.1.2.1, (x.1.1.2.2.1, (x.1.1.2.2.2.1, ((((0 : Int), (0 : Int)), (((0 : Int), (0 : Int)), (0 : Int))), ((((0 : Int), (0 : Int)), (((0 : Int), (0 : Int)), (0 : Int))), (false, ((⟨#[]⟩ : ByteArray), x.1.1.2.2.2.2.2.2.2.2)))))))), ((0 : Int), ())), ())))
          (some (((x.1.1.1, (x.1.1.2.1, (x.1.1.2.2.1, (x.1.1.2.2.2.1, ((((0 : Int), (0 : Int)), (((0 : Int), (0 : Int)), (0 : Int))), ((((0 : Int), (0 : Int)), (((0 : Int), (0 : Int)), (0 : Int))), (false, ((⟨#[]⟩ : ByteArray), x.1.1.2.2.2.2.2.2.2.2)))))))), ((1 : Int), ())), ())))
         (some (((x.1.1.1, (x.1.1.2.1, (x.1.1.2.2.1, (x.1.1.2.2.2.1, ((((0 : Int), (0 : Int)), (((0 : Int), (0 : Int)), (0 : Int))), ((((0 : Int), (0 : Int)), (((0 : Int), (0 : Int)), (0 : Int))), (false, ((⟨#[]⟩ : ByteArray), x.1.1.2.2.2.2.2.2.2.2)))))))), ((1 : Int), ())), ())))
        (some (((x.1.1.1, (x.1.1.2.1, (x.1.1.2.2.1, (x.1.1.2.2.2.1, ((((0 : Int), (0 : Int)), (((0 : Int), (0 : Int)), (0 : Int))), ((((0 : Int), (0 : Int)), (((0 : Int), (0 : Int)), (0 : Int))), (false, ((⟨#[]⟩ : ByteArray), x.1.1.2.2.2.2.2.2.2.2)))))))), ((1 : Int), ())), ())))
       (cond (x.1.1.1 == (7 : Int))
        ((F 88 sg88 ((x.1.1.2.2.2.2.2.2.2.1, ()), ())).bind fun (y7 : ((Bool × Unit) × Unit)) =>
        cond (not y7.1.1)
         (cond (not y1.1.1)
          (some (((x.1.1.1, (x.1.1.2.1, (((0 : Int), (0 : Int)), (((0 : Int), (0 : Int)), ((((0 : Int), (0 : Int)), (((0 : Int), (0 : Int)), (0 : Int))), ((((0 : Int), (0 : Int)), (((0 : Int), (0 : Int)), (0 : Int))), (x.1.1.2.2.2.2.2.2.1, (x.1.1.2.2.2.2.2.2.2.1, (0 : Int))))))))), ((1 : Int), ())), ()))
          (some (((x.1.1.1, (x.1.1.2.1, (((0 : Int), (0 : Int)), (((0 : Int), (0 : Int)), ((((0 : Int), (0 : Int)), (((0 : Int), (0 : Int)), (0 : Int))), ((((0 : Int), (0 : Int)), (((0 : Int), (0 : Int)), (0 : Int))), (x.1.1.2.2.2.2.2.2.1, (x.1.1.2.2.2.2.2.2.2.1, (0 : Int))))))))), ((4 : Int), ())), ())))
         (cond (not y1.1.1)
          (some (((x.1.1.1, (x.1.1.2.1, (((0 : Int), (0 : Int)), (((0 : Int), (0 : Int)), ((((0 : Int), (0 : Int)), (((0 : Int), (0 : Int)), (0 : Int))), ((((0 : Int), (0 : Int)), (((0 : Int), (0 : Int)), (0 : Int))), (x.1.1.2.2.2.2.2.2.1, (x.1.1.2.2.2.2.2.2.2.1, (0 : Int))))))))), ((1 : Int), ())), ()))
          (some (((x.1.1.1, (x.1.1.2.1, (((0 : Int), (0 : Int)), (((0 : Int), (0 : Int)), ((((0 : Int), (0 : Int)), (((0 : Int), (0 : Int)), (0 : Int))), ((((0 : Int), (0 : Int)), (((0 : Int), (0 : Int)), (0 : Int))), (x.1.1.2.2.2.2.2.2.1, (x.1.1.2.2.2.2.2.2.2.1, (0 : Int))))))))), ((0 : Int), ())), ()))))
        (cond (x.1.1.1 == (8 : Int))
         (cond y1.1.1
          ((F 89 sg89 ((x.1.1.2.2.2.2.2.2.2.2, ()), ())).bind fun (y8 : ((Bool × Unit) × Unit)) =>
          cond (not y8.1.1)
           (some (((x.1.1.1, (x.1.1.2.1, (((0 : Int), (0 : Int)), (((0 : Int), (0 : Int)), ((((0 : Int), (0 : Int)), (((0 : Int), (0 : Int)), (0 : Int))), ((((0 : Int), (0 : Int)), (((0 : Int), (0 : Int)), (0 : Int))), (x.1.1.2.2.2.2.2.2.1, ((⟨#[]⟩ : ByteArray), x.1.1.2.2.2.2.2.2.2.2)))))))), ((1 : Int), ())), ()))
           (some (((x.1.1.1, (x.1.1.2.1, (((0 : Int), (0 : Int)), (((0 : Int), (0 : Int)), ((((0 : Int), (0 : Int)), (((0 : Int), (0 : Int)), (0 : Int))), ((((0 : Int), (0 : Int)), (((0 : Int), (0 : Int)), (0 : Int))), (x.1.1.2.2.2.2.2.2.1, ((⟨#[]⟩ : ByteArray), x.1.1.2.2.2.2.2.2.2.2)))))))), ((0 : Int), ())), ())))
          (some (((x.1.1.1, (x.1.1.2.1, (((0 : Int), (0 : Int)), (((0 : Int), (0 : Int)), ((((0 : Int), (0 : Int)), (((0 : Int), (0 : Int)), (0 : Int))), ((((0 : Int), (0 : Int)), (((0 : Int), (0 : Int)), (0 : Int))), (x.1.1.2.2.2.2.2.2.1, ((⟨#[]⟩ : ByteArray), x.1.1.2.2.2.2.2.2.2.2)))))))), ((1 : Int), ())), ())))
         (some (((x.1.1.1, (x.1.1.2.1, (((0 : Int), (0 : Int)), (((0 : Int), (0 : Int)), ((((0 : Int), (0 : Int)), (((0 : Int), (0 : Int)), (0 : Int))), ((((0 : Int), (0 : Int)), (((0 : Int), (0 : Int)), (0 : Int))), (false, ((⟨#[]⟩ : ByteArray), (0 : Int))))))))), ((1 : Int), ())), ()))))))))
   (cond (x.1.1.1 == (2 : Int))
    (cond (x.1.1.1 == (2 : Int))
     (cond (not y1.1.1)
      (some (((x.1.1.1, (x.1.1.2.1, (((0 : Int), (0 : Int)), (((0 : Int), (0 : Int)), ((((0 : Int), (0 : Int)), (((0 : Int), (0 : Int)), (0 : Int))), ((((0 : Int), (0 : Int)), (((0 : Int), (0 : Int)), (0 : Int))), (false, ((⟨#[]⟩ : ByteArray), (0 : Int))))))))), ((1 : Int), ())), ()))
      (some (((x.1.1.1, (x.1.1.2.1, (((0 : Int), (0 : Int)), (((0 : Int), (0 : Int)), ((((0 : Int), (0 : Int)), (((0 : Int), (0 : Int)), (0 : Int))), ((((0 : Int), (0 : Int)), (((0 : Int), (0 : Int)), (0 : Int))), (false, ((⟨#[]⟩ : ByteArray), (0 : Int))))))))), ((0 : Int), ())), ())))
     (cond (x.1.1.1 == (6 : Int))
      (cond y1.1.1
       ((F 86 sg86 ((x.1.1.2.2.2.1, ()), ())).bind fun (y9 : ((Bool × Unit) × Unit)) =>
       cond (not y9.1.1)
        (some (((x.1.1.1, (x.1.1.2.1, (((0 : Int), (0 : Int)), (x.1.1.2.2.2.1, ((((0 : Int), (0 : Int)), (((0 : Int), (0 : Int)), (0 : Int))), ((((0 : Int), (0 : Int)), (((0 : Int), (0 : Int)), (0 : Int))), (false, ((⟨#[]⟩ : ByteArray), (0 : Int))))))))), ((1 : Int), ())), ()))
        (some (((x.1.1.1, (x.1.1.2.1, (((0 : Int), (0 : Int)), (x.1.1.2.2.2.1, ((((0 : Int), (0 : Int)), (((0 : Int), (0 : Int)), (0 : Int))), ((((0 : Int), (0 : Int)), (((0 : Int), (0 : Int)), (0 : Int))), (false, ((⟨#[]⟩ : ByteArray), (0 : Int))))))))), ((0 : Int), ())), ())))
       (some (((x.1.1.1, (x.1.1.2.1, (((0 : Int), (0 : Int)), (x.1.1.2.2.2.1, ((((0 : Int), (0 : Int)), (((0 : Int), (0 : Int)), (0 : Int))), ((((0 : Int), (0 : Int)), (((0 : Int), (0 : Int)), (0 : Int))), (false, ((⟨#[]⟩ : ByteArray), (0 : Int))))))))), ((1 : Int), ())), ())))
      (cond (x.1.1.1 == (3 : Int))
       (cond y1.1.1
        ((F 87 sg87 (((x.1.1.2.2.2.2.1.1, (x.1.1.2.2.2.2.1.2.1, x.1.1.2.2.2.2.1.2.2)), ()), ())).bind fun (y10 : ((Bool × Unit) × Unit)) =>
        cond y10.1.1
         ((F 87 sg87 (((x.1.1.2.2.2.2.2.1.1, (x.1.1.2.2.2.2.2.1.2.1, x.1.1.2.2.2.2.2.1.2.2)), ()), ())).bind fun (y11 : ((Bool × Unit) × Unit)) =>
         cond (not y11.1.1)
          (some (((x.1.1.1, (x.1.1.2.1, (((0 : Int), (0 : Int)), (((0 : Int), (0 : Int)), ((x.1.1.2.2.2.2.1.1, (x.1.1.2.2.2.2.1.2.1, x.1.1.2.2.2.2.1.2.2)), ((x.1.1.2.2.2.2.2.1.1, (x.1.1.2.2.2.2.2.1.2.1, x.1.1.2.2.2.2.2.1.2.2)), (false, ((⟨#[]⟩ : ByteArray), (0 : Int))))))))), ((1 : Int), ())), ()))
          (some (((x.1.1.1, (x.1.1.2.1, (((0 : Int), (0 : Int)), (((0 : Int), (0 : Int)), ((x.1.1.2.2.2.2.1.1, (x.1.1.2.2.2.2.1.2.1, x.1.1.2.2.2.2.1.2.2)), ((x.1.1.2.2.2.2.2.1.1, (x.1.1.2.2.2.2.2.1.2.1, x.1.1.2.2.2.2.2.1.2.2)), (false, ((⟨#[]⟩ : ByteArray), (0 : Int))))))))), ((0 : Int), ())), ())))
         (some (((x.1.1.1, (x.1.1.2.1, (((0 : Int), (0 : Int)), (((0 : Int), (0 : Int)), ((x.1.1.2.2.2.2.1.1, (x.1.1.2.2.2.2.1.2.1, x.1.1.2.2.2.2.1.2.2)), ((x.1.1.2.2.2.2.2.1.1, (x.1.1.2.2.2.2.2.1.2.1, x.1.1.2.2.2.2.2.1.2.2)), (false, ((⟨#[]⟩ : ByteArray), (0 : Int))))))))), ((1 : Int), ())), ())))
        (some (((x.1.1.1, (x.1.1.2.1, (((0 : Int), (0 : Int)), (((0 : Int), (0 : Int)), ((x.1.1.2.2.2.2.1.1, (x.1.1.2.2.2.2.1.2.1, x.1.1.2.2.2.2.1.2.2)), ((x.1.1.2.2.2.2.2.1.1, (x.1.1.2.2.2.2.2.1.2.1, x.1.1.2.2.2.2.2.1.2.2)), (false, ((⟨#[]⟩ : ByteArray), (0 : Int))))))))), ((1 : Int), ())), ())))
       (cond (x.1.1.1 == (5 : Int))
        (cond y1.1.1
         ((F 86 sg86 ((x.1.1.2.2.1, ()), ())).bind fun (y12 : ((Bool × Unit) × Unit)) =>
         cond y12.1.1
          ((F 86 sg86 ((x.1.1.2.2.2.1, ()), ())).bind fun (y13 : ((Bool × Unit) × Unit)) =>
          cond y13.1.1
           (cond (not ((bitsI .andNot .i64 x.1.1.2.2.2.2.2.2.2.2 (3 : Int)) == (0 : Int)))
            (some (((x.1.1.1, (x.1.1.2.1, (x.1.1.2.2.1, (x.1.1.2.2.2.1, ((((0 : Int), (0 : Int)), (((0 : Int), (0 : Int)), (0 : Int))), ((((0 : Int), (0 : Int)), (((0 : Int), (0 : Int)), (0 : Int))), (false, ((⟨#[]⟩ : ByteArray), x.1.1.2.2.2.2.2.2.2.2)))))))), ((1 : Int), ())), ()))
            (some (((x.1.1.1, (x.1.1.2.1, (x.1.1.2.2.1, (x.1.1.2.2.2.1, ((((0 : Int), (0 : Int)), (((0 : Int), (0 : Int)), (0 : Int))), ((((0 : Int), (0 : Int)), (((0 : Int), (0 : Int)), (0 : Int))), (false, ((⟨#[]⟩ : ByteArray), x.1.1.2.2.2.2.2.2.2.2)))))))), ((0 : Int), ())), ())))
           (some (((x.1.1.1, (x.1.1.2.1, (x.1.1.2.2.1, (x.1.1.2.2.2.1, ((((0 : Int), (0 : Int)), (((0 : Int), (0 : Int)), (0 : Int))), ((((0 : Int), (0 : Int)), (((0 : Int), (0 : Int)), (0 : Int))), (false, ((⟨#[]⟩ : ByteArray), x.1.1.2.2.2.2.2.2.2.2)))))))), ((1 : Int), ())), ())))
          (some (((x.1.1.1, (x.1.1.2.1, (x.1.1.2.2.1, (x.1.1.2.2.2.1, ((((0 : Int), (0 : Int)), (((0 : Int), (0 : Int)), (0 : Int))), ((((0 : Int), (0 : Int)), (((0 : Int), (0 : Int)), (0 : Int))), (false, ((⟨#[]⟩ : ByteArray), x.1.1.2.2.2.2.2.2.2.2)))))))), ((1 : Int), ())), ())))
         (some (((x.1.1.1, (x.1.1.2.1, (x.1.1.2.2.1, (x.1.1.2.2.2.1, ((((0 : Int), (0 : Int)), (((0 : Int), (0 : Int)), (0 : Int))), ((((0 : Int), (0 : Int)), (((0 : Int), (0 : Int)), (0 : Int))), (false, ((⟨#[]⟩ : ByteArray), x.1.1.2.2.2.2.2.2.2.2)))))))), ((1 : Int), ())), ())))
        (cond (x.1.1.1 == (7 : Int))
         ((F 88 sg88 ((x.1.1.2.2.2.2.2.2.2.1, ()), ())).bind fun (y14 : ((Bool × Unit) × Unit)) =>
         cond (not y14.1.1)
          (cond (not y1.1.1)
           (some (((x.1.1.1, (x.1.1.2.1, (((0 : Int), (0 : Int)), (((0 : Int), (0 : Int)), ((((0 : Int), (0 : Int)), (((0 : Int), (0 : Int)), (0 : Int))), ((((0 : Int), (0 : Int)), (((0 : Int), (0 : Int)), (0 : Int))), (x.1.1.2.2.2.2.2.2.1, (x.1.1.2.2.2.2.2.2.2.1, (0 : Int))))))))), ((1 : Int), ())), ()))
           (some (((x.1.1.1, (x.1.1.2.1, (((0 : Int), (0 : Int)), (((0 : Int), (0 : Int)), ((((0 : Int), (0 : Int)), (((0 : Int), (0 : Int)), (0 : Int))), ((((0 : Int), (0 : Int)), (((0 : Int), (0 : Int)), (0 : Int))), (x.1.1.2.2.2.2.2.2.1, (x.1.1.2.2.2.2.2.2.2.1, (0 : Int))))))))), ((4 : Int), ())), ())))
          (cond (not y1.1.1)
           (some (((x.1.1.1, (x.1.1.2.1, (((0 : Int), (0 : Int)), (((0 : Int), (0 : Int)), ((((0 : Int), (0 : Int)), (((0 : Int), (0 : Int)), (0 : Int))), ((((0 : Int), (0 : Int)), (((0 : Int), (0 : Int)), (0 : Int))), (x.1.1.2.2.2.2.2.2.1, (x.1.1.2.2.2.2.2.2.2.1, (0 : Int))))))))), ((1 : Int), ())), ()))
           (some (((x.1.1.1, (x.1.1.2.1, (((0 : Int), (0 : Int)), (((0 : Int), (0 : Int)), ((((0 : Int), (0 : Int)), (((0 : Int), (0 : Int)), (0 : Int))), ((((0 : Int), (0 : Int)), (((0 : Int), (0 : Int)), (0 : Int))), (x.1.1.2.2.2.2.2.2.1, (x.1.1.2.2.2.2.2.2.2.1, (0 : Int))))))))), ((0 : Int), ())), ()))))
         (cond (x.1.1.1 == (8 : Int))
          (cond y1.1.1
           ((F 89 sg89 ((x.1.1.2.2.2.2.2.2.2.2, ()), ())).bind fun (y15 : ((Bool × Unit) × Unit)) =>
           cond (not y15.1.1)
            (some (((x.1.1.1, (x.1.1.2.1, (((0 : Int), (0 : Int)), (((0 : Int), (0 : Int)), ((((0 : Int), (0 : Int)), (((0 : Int), (0 : Int)), (0 : Int))), ((((0 : Int), (0 : Int)), (((0 : Int), (0 : Int)), (0 : Int))), (x.1.1.2.2.2.2.2.2.1, ((⟨#[]⟩ : ByteArray), x.1.1.2.2.2.2.2.2.2.2)))))))), ((1 : Int), ())), ()))
            (some (((x.1.1.1, (x.1.1.2.1, (((0 : Int), (0 : Int)), (((0 : Int), (0 : Int)), ((((0 : Int), (0 : Int)), (((0 : Int), (0 : Int)), (0 : Int))), ((((0 : Int), (0 : Int)), (((0 : Int), (0 : Int)), (0 : Int))), (x.1.1.2.2.2.2.2.2.1, ((⟨#[]⟩ : ByteArray), x.1.1.2.2.2.2.2.2.2.2)))))))), ((0 : Int), ())), ())))
           (some (((x.1.1.1, (x.1.1.2.1, (((0 : Int), (0 : Int)), (((0 : Int), (0 : Int)), ((((0 : Int), (0 : Int)), (((0 : Int), (0 : Int)), (0 : Int))), ((((0 : Int), (0 : Int)), (((0 : Int), (0 : Int)), (0 : Int))), (x.1.1.2.2.2.2.2.2.1, ((⟨#[]⟩ : ByteArray), x.1.1.2.2.2.2.2.2.2.2)))))))), ((1 : Int), ())), ())))
          (some (((x.1.1.1, (x.1.1.2.1, (((0 : Int), (0 : Int)), (((0 : Int), (0 : Int)), ((((0 : Int), (0 : Int)), (((0 : Int), (0 : Int)), (0 : Int))), ((((0 : Int), (0 : Int)), (((0 : Int), (0 : Int)), (0 : Int))), (false, ((⟨#[]⟩ : ByteArray), (0 : Int))))))))), ((1 : Int), ())), ()))))))))
    (cond (x.1.1.1 == (4 : Int))
     (cond (not y1.1.1)
      (some (((x.1.1.1, (x.1.1.2.1, (((0 : Int), (0 : Int)), (((0 : Int), (0 : Int)), ((((0 : Int), (0 : Int)), (((0 : Int), (0 : Int)), (0 : Int))), ((((0 : Int), (0 : Int)), (((0 : Int), (0 : Int)), (0 : Int))), (false, ((⟨#[]⟩ : ByteArray), (0 : Int))))))))), ((1 : Int), ())), ()))
      (some (((x.1.1.1, (x.1.1.2.1, (((0 : Int), (0 : Int)), (((0 : Int), (0 : Int)), ((((0 : Int), (0 : Int)), (((0 : Int), (0 : Int)), (0 : Int))), ((((0 : Int), (0 : Int)), (((0 : Int), (0 : Int)), (0 : Int))), (false, ((⟨#[]⟩ : ByteArray), (0 : Int))))))))), ((0 : Int), ())), ())))
     (cond (x.1.1.1 == (6 : Int))
      (cond y1.1.1
       ((F 86 sg86 ((x.1.1.2.2.2.1, ()), ())).bind fun (y16 : ((Bool × Unit) × Unit)) =>
       cond (not y16.1.1)
        (some (((x.1.1.1, (x.1.1.2.1, (((0 : Int), (0 : Int)), (x.1.1.2.2.2.1, ((((0 : Int), (0 : Int)), (((0 : Int), (0 : Int)), (0 : Int))), ((((0 : Int), (0 : Int)), (((0 : Int), (0 : Int)), (0 : Int))), (false, ((⟨#[]⟩ : ByteArray), (0 : Int))))))))), ((1 : Int), ())), ()))
        (some (((x.1.1.1, (x.1.1.2.1, (((0 : Int), (0 : Int)), (x.1.1.2.2.2.1, ((((0 : Int), (0 : Int)), (((0 : Int), (0 : Int)), (0 : Int))), ((((0 : Int), (0 : Int)), (((0 : Int), (0 : Int)), (0 : Int))), (false, ((⟨#[]⟩ : ByteArray), (0 : Int))))))))), ((0 : Int), ())), ())))
       (some (((x.1.1.1, (x.1.1.2.1, (((0 : Int), (0 : Int)), (x.1.1.2.2.2.1, ((((0 : Int), (0 : Int)), (((0 : Int), (0 : Int)), (0 : Int))), ((((0 : Int), (0 : Int)), (((0 : Int), (0 : Int)), (0 : Int))), (false, ((⟨#[]⟩ : ByteArray), (0 : Int))))))))), ((1 : Int), ())), ())))
      (cond (x.1.1.1 == (3 : Int))
       (cond y1.1.1
        ((F 87 sg87 (((x.1.1.2.2.2.2.1.1, (x.1.1.2.2.2.2.1.2.1, x.1.1.2.2.2.2.1.2.2)), ()), ())).bind fun (y17 : ((Bool × Unit) × Unit)) =>
        cond y17.1.1
         ((F 87 sg87 (((x.1.1.2.2.2.2.2.1.1, (x.1.1.2.2.2.2.2.1.2.1, x.1.1.2.2.2.2.2.1.2.2)), ()), ())).bind fun (y18 : ((Bool × Unit) × Unit)) =>
         cond (not y18.1.1)
          (some (((x.1.1.1, (x.1.1.2.1, (((0 : Int), (0 : Int)), (((0 : Int), (0 : Int)), ((x.1.1.2.2.2.2.1.1, (x.1.1.2.2.2.2.1.2.1, x.1.1.2.2.2.2.1.2.2)), ((x.1.1.2.2.2.2.2.1.1, (x.1.1.2.2.2.2.2.1.2.1, x.1.1.2.2.2.2.2.1.2.2)), (false, ((⟨#[]⟩ : ByteArray), (0 : Int))))))))), ((1 : Int), ())), ()))
          (some (((x.1.1.1, (x.1.1.2.1, (((0 : Int), (0 : Int)), (((0 : Int), (0 : Int)), ((x.1.1.2.2.2.2.1.1, (x.1.1.2.2.2.2.1.2.1, x.1.1.2.2.2.2.1.2.2)), ((x.1.1.2.2.2.2.2.1.1, (x.1.1.2.2.2.2.2.1.2.1, x.1.1.2.2.2.2.2.1.2.2)), (false, ((⟨#[]⟩ : ByteArray), (0 : Int))))))))), ((0 : Int), ())), ())))
         (some (((x.1.1.1, (x.1.1.2.1, (((0 : Int), (0 : Int)), (((0 : Int), (0 : Int)), ((x.1.1.2.2.2.2.1.1, (x.1.1.2.2.2.2.1.2.1, x.1.1.2.2.2.2.1.2.2)), ((x.1.1.2.2.2.2.2.1.1, (x.1.1.2.2.2.2.2.1.2.1, x.1.1.2.2.2.2.2.1.2.2)), (false, ((⟨#[]⟩ : ByteArray), (0 : Int))))))))), ((1 : Int), ())), ())))
        (some (((x.1.1.1, (x.1.1.2.1, (((0 : Int), (0 : Int)), (((0 : Int), (0 : Int)), ((x.1.1.2.2.2.2.1.1, (x.1.1.2.2.2.2.1.2.1, x.1.1.2.2.2.2.1.2.2)), ((x.1.1.2.2.2.2.2.1.1, (x.1.1.2.2.2.2.2.1.2.1, x.1.1.2.2.2.2.2.1.2.2)), (false, ((⟨#[]⟩ : ByteArray), (0 : Int))))))))), ((1 : Int), ())), ())))
       (cond (x.1.1.1 == (5 : Int))
        (cond y1.1.1
         ((F 86 sg86 ((x.1.1.2.2.1, ()), ())).bind fun (y19 : ((Bool × Unit) × Unit)) =>
         cond y19.1.1
          ((F 86 sg86 ((x.1.1.2.2.2.1, ()), ())).bind fun (y20 : ((Bool × Unit) × Unit)) =>
          cond y20.1.1
           (cond (not ((bitsI .andNot .i64 x.1.1.2.2.2.2.2.2.2.2 (3 : Int)) == (0 : Int)))
            (some (((x.1.1.1, (x.1.1.2.1, (x.1.1.2.2.1, (x.1.1.2.2.2.1, ((((0 : Int), (0 : Int)), (((0 : Int), (0 : Int)), (0 : Int))), ((((0 : Int), (0 : Int)), (((0 : Int), (0 : Int)), (0 : Int))), (false, ((⟨#[]⟩ : ByteArray), x.1.1.2.2.2.2.2.2.2.2)))))))), ((1 : Int), ())), ()))
            (some (((x.1.1.1, (x.1.1.2.1, (x.1.1.2.2.1, (x.1.1.2.2.2.1, ((((0 : Int), (0 : Int)), (((0 : Int), (0 : Int)), (0 : Int))), ((((0 : Int), (0 : Int)), (((0 : Int), (0 : Int)), (0 : Int))), (false, ((⟨#[]⟩ : ByteArray), x.1.1.2.2.2.2.2.2.2.2)))))))), ((0 : Int), ())), ())))
           (some (((x.1.1.1, (x.1.1.2.1, (x.1.1.2.2.1, (x.1.1.2.2.2.1, ((((0 : Int), (0 : Int)), (((0 : Int), (0 : Int)), (0 : Int))), ((((0 : Int), (0 : Int)), (((0 : Int), (0 : Int)), (0 : Int))), (false, ((⟨#[]⟩ : ByteArray), x.1.1.2.2.2.2.2.2.2.2)))))))), ((1 : Int), ())), ())))
          (some (((x.1.1.1, (x.1.1.2.1, (x.1.1.2.2.1, (x.1.1.2.2.2.1, ((((0 : Int), (0 : Int)), (((0 : Int), (0 : Int)), (0 : Int))), ((((0 : Int), (0 : Int)), (((0 : Int), (0 : Int)), (0 : Int))), (false, ((⟨#[]⟩ : ByteArray), x.1.1.2.2.2.2.2.2.2.2)))))))), ((1 : Int), ())), ())))
         (some (((x.1.1.1, (x.1.1.2.1, (x.1.1.2.2.1, (x.1.1.2.2.2.1, ((((0 : Int), (0 : Int)), (((0 : Int), (0 : Int)), (0 : Int))), ((((0 : Int), (0 : Int)), (((0 : Int), (0 : Int)), (0 : Int))), (false, ((⟨#[]⟩ : ByteArray), x.1.1.2.2.2.2.2.2.2.2)))))))), ((1 : Int), ())), ())))
        (cond (x.1.1.1 == (7 : Int))
         ((F 88 sg88 ((x.1.1.2.2.2.2.2.2.2.1, ()), ())).bind fun (y21 : ((Bool × Unit) × Unit)) =>
         cond (not y21.1.1)
          (cond (not y1.1.1)
           (some (((x.1.1.1, (x.1.1.2.1, (((0 : Int), (0 : Int)), (((0 : Int), (0 : Int)), ((((0 : Int), (0 : Int)), (((0 : Int), (0 : Int)), (0 : Int))), ((((0 : Int), (0 : Int)), (((0 : Int), (0 : Int)), (0 : Int))), (x.1.1.2.2.2.2.2.2.1, (x.1.1.2.2.2.2.2.2.2.1, (0 : Int))))))))), ((1 : Int), ())), ()))
           (some (((x.1.1.1, (x.1.1.2.1, (((0 : Int), (0 : Int)), (((0 : Int), (0 : Int)), ((((0 : Int), (0 : Int)), (((0 : Int), (0 : Int)), (0 : Int))), ((((0 : Int), (0 : Int)), (((0 : Int), (0 : Int)), (0 : Int))), (x.1.1.2.2.2.2.2.2.1, (x.1.1.2.2.2.2.2.2.2.1, (0 : Int))))))))), ((4 : Int), ())), ())))
          (cond (not y1.1.1)
           (some (((x.1.1.1, (x.1.1.2.1, (((0 : Int), (0 : Int)), (((0 : Int), (0 : Int)), ((((0 : Int), (0 : Int)), (((0 : Int), (0 : Int)), (0 : Int))), ((((0 : Int), (0 : Int)), (((0 : Int), (0 : Int)), (0 : Int))), (x.1.1.2.2.2.2.2.2.1, (x.1.1.2.2.2.2.2.2.2.1, (0 : Int))))))))), ((1 : Int), ())), ()))
           (some (((x.1.1.1, (x.1.1.2.1, (((0 : Int), (0 : Int)), (((0 : Int), (0 : Int)), ((((0 : Int), (0 : Int)), (((0 : Int), (0 : Int)), (0 : Int))), ((((0 : Int), (0 : Int)), (((0 : Int), (0 : Int)), (0 : Int))), (x.1.1.2.2.2.2.2.2.1, (x.1.1.2.2.2.2.2.2.2.1, (0 : Int))))))))), ((0 : Int), ())), ()))))
         (cond (x.1.1.1 == (8 : Int))
          (cond y1.1.1
           ((F 89 sg89 ((x.1.1.2.2.2.2.2.2.2.2, ()), ())).bind fun (y22 : ((Bool × Unit) × Unit)) =>
           cond (not y22.1.1)
            (some (((x.1.1.1, (x.1.1.2.1, (((0 : Int), (0 : Int)), (((0 : Int), (0 : Int)), ((((0 : Int), (0 : Int)), (((0 : Int), (0 : Int)), (0 : Int))), ((((0 : Int), (0 : Int)), (((0 : Int), (0 : Int)), (0 : Int))), (x.1.1.2.2.2.2.2.2.1, ((⟨#[]⟩ : ByteArray), x.1.1.2.2.2.2.2.2.2.2)))))))), ((1 : Int), ())), ()))
            (some (((x.1.1.1, (x.1.1.2.1, (((0 : Int), (0 : Int)), (((0 : Int), (0 : Int)), ((((0 : Int), (0 : Int)), (((0 : Int), (0 : Int)), (0 : Int))), ((((0 : Int), (0 : Int)), (((0 : Int), (0 : Int)), (0 : Int))), (x.1.1.2.2.2.2.2.2.1, ((⟨#[]⟩ : ByteArray), x.1.1.2.2.2.2.2.2.2.2)))))))), ((0 : Int), ())), ())))
           (some (((x.1.1.1, (x.1.1.2.1, (((0 : Int), (0 : Int)), (((0 : Int), (0 : Int)), ((((0 : Int), (0 : Int)), (((0 : Int), (0 : Int)), (0 : Int))), ((((0 : Int), (0 : Int)), (((0 : Int), (0 : Int)), (0 : Int))), (x.1.1.2.2.2.2.2.2.1, ((⟨#[]⟩ : ByteArray), x.1.1.2.2.2.2.2.2.2.2)))))))), ((1 : Int), ())), ())))
          (some (((x.1.1.1, (x.1.1.2.1, (((0 : Int), (0 : Int)), (((0 : Int), (0 : Int)), ((((0 : Int), (0 : Int)), (((0 : Int), (0 : Int)), (0 : Int))), ((((0 : Int), (0 : Int)), (((0 : Int), (0 : Int)), (0 : Int))), (false, ((⟨#[]⟩ : ByteArray), (0 : Int))))))))), ((1 : Int), ())), ()))))))))) := by kernel_rfl
theorem nf66 (F : FT) (J : JT sg66) (x : ((OpT × Unit) × (WorkT × Unit))) : nfE 66 sg66 Tryz.f66 F J x =
  cond (x.1.1.1 == (1 : Int))
   ((F 90 sg90 (((x.1.1.2.1, (([] : List Dart), ((⟨#[]⟩ : ByteArray), (0 : Int)))), ()), ((x.2.1.1, (x.2.1.2.1, x.2.1.2.2)), ()))).bind fun (y1 : ((Int × Unit) × (WorkT × Unit))) =>
   some (y1.1, ((y1.2.1.1, (y1.2.1.2.1, y1.2.1.2.2)), ())))
   (cond (x.1.1.1 == (2 : Int))
    ((F 91 sg91 (((x.1.1.1, (x.1.1.2.1, (x.1.1.2.2.1, (x.1.1.2.2.2.1, ((x.1.1.2.2.2.2.1.1, (x.1.1.2.2.2.2.1.2.1, x.1.1.2.2.2.2.1.2.2)), ((x.1.1.2.2.2.2.2.1.1, (x.1.1.2.2.2.2.2.1.2.1, x.1.1.2.2.2.2.2.1.2.2)), (x.1.1.2.2.2.2.2.2.1, x.1.1.2.2.2.2.2.2.2))))))), ()), ((x.2.1.1, (x.2.1.2.1, x.2.1.2.2)), ()))).bind fun (y2 : ((Int × Unit) × (WorkT × Unit))) =>
    some (y2.1, ((y2.2.1.1, (y2.2.1.2.1, y2.2.1.2.2)), ())))
    (cond (x.1.1.1 == (3 : Int))
     ((F 92 sg92 (((x.1.1.1, (x.1.1.2.1, (x.1.1.2.2.1, (x.1.1.2.2.2.1, ((x.1.1.2.2.2.2.1.1, (x.1.1.2.2.2.2.1.2.1, x.1.1.2.2.2.2.1.2.2)), ((x.1.1.2.2.2.2.2.1.1, (x.1.1.2.2.2.2.2.1.2.1, x.1.1.2.2.2.2.2.1.2.2)), (x.1.1.2.2.2.2.2.2.1, x.1.1.2.2.2.2.2.2.2))))))), ()), ((x.2.1.1, (x.2.1.2.1, x.2.1.2.2)), ()))).bind fun (y3 : ((Int × Unit) × (WorkT × Unit))) =>
     some (y3.1, ((y3.2.1.1, (y3.2.1.2.1, y3.2.1.2.2)), ())))
     (cond (x.1.1.1 == (4 : Int))
      ((F 93 sg93 (((x.1.1.1, (x.1.1.2.1, (x.1.1.2.2.1, (x.1.1.2.2.2.1, ((x.1.1.2.2.2.2.1.1, (x.1.1.2.2.2.2.1.2.1, x.1.1.2.2.2.2.1.2.2)), ((x.1.1.2.2.2.2.2.1.1, (x.1.1.2.2.2.2.2.1.2.1, x.1.1.2.2.2.2.2.1.2.2)), (x.1.1.2.2.2.2.2.2.1, x.1.1.2.2.2.2.2.2.2))))))), ()), ((x.2.1.1, (x.2.1.2.1, x.2.1.2.2)), ()))).bind fun (y4 : ((Int × Unit) × (WorkT × Unit))) =>
      some (y4.1, ((y4.2.1.1, (y4.2.1.2.1, y4.2.1.2.2)), ())))
      (cond (x.1.1.1 == (5 : Int))
       ((F 94 sg94 (((x.1.1.1, (x.1.1.2.1, (x.1.1.2.2.1, (x.1.1.2.2.2.1, ((x.1.1.2.2.2.2.1.1, (x.1.1.2.2.2.2.1.2.1, x.1.1.2.2.2.2.1.2.2)), ((x.1.1.2.2.2.2.2.1.1, (x.1.1.2.2.2.2.2.1.2.1, x.1.1.2.2.2.2.2.1.2.2)), (x.1.1.2.2.2.2.2.2.1, x.1.1.2.2.2.2.2.2.2))))))), ()), ((x.2.1.1, (x.2.1.2.1, x.2.1.2.2)), ()))).bind fun (y5 : ((Int × Unit) × (WorkT × Unit))) =>
       some (y5.1, ((y5.2.1.1, (y5.2.1.2.1, y5.2.1.2.2)), ())))
       (cond (x.1.1.1 == (6 : Int))
        ((F 95 sg95 (((x.1.1.1, (x.1.1.2.1, (x.1.1.2.2.1, (x.1.1.2.2.2.1, ((x.1.1.2.2.2.2.1.1, (x.1.1.2.2.2.2.1.2.1, x.1.1.2.2.2.2.1.2.2)), ((x.1.1.2.2.2.2.2.1.1, (x.1.1.2.2.2.2.2.1.2.1, x.1.1.2.2.2.2.2.1.2.2)), (x.1.1.2.2.2.2.2.2.1, x.1.1.2.2.2.2.2.2.2))))))), ()), ((x.2.1.1, (x.2.1.2.1, x.2.1.2.2)), ()))).bind fun (y6 : ((Int × Unit) × (WorkT × Unit))) =>
        some (y6.1, ((y6.2.1.1, (y6.2.1.2.1, y6.2.1.2.2)), ())))
        ((F 96 sg96 (((x.1.1.1, (x.1.1.2.1, (x.1.1.2.2.1, (x.1.1.2.2.2.1, ((x.1.1.2.2.2.2.1.1, (x.1.1.2.2.2.2.1.2.1, x.1.1.2.2.2.2.1.2.2)), ((x.1.1.2.2.2.2.2.1.1, (x.1.1.2.2.2.2.2.1.2.1, x.1.1.2.2.2.2.2.1.2.2)), (x.1.1.2.2.2.2.2.2.1, x.1.1.2.2.2.2.2.2.2))))))), ()), ((x.2.1.1, (x.2.1.2.1, x.2.1.2.2)), ()))).bind fun (y7 : ((Int × Unit) × (WorkT × Unit))) =>
        some (y7.1, ((y7.2.1.1, (y7.2.1.2.1, y7.2.1.2.2)), ())))))))) := by kernel_rfl
theorem nf67 (F : FT) (J : JT sg67) (x : ((OpT × Unit) × Unit)) : nfE 67 sg67 Tryz.f67 F J x =
  cond (x.1.1.1 == (3 : Int))
   (some ((((0 : Int), (((0 : Int), (0 : Int)), (x.1.1.2.2.1, (x.1.1.2.2.2.1, ((((0 : Int), (0 : Int)), (((0 : Int), (0 : Int)), (0 : Int))), ((((0 : Int), (0 : Int)), (((0 : Int), (0 : Int)), (0 : Int))), (x.1.1.2.2.2.2.2.2.1, x.1.1.2.2.2.2.2.2.2))))))), ()), ()))
   (cond (x.1.1.1 == (5 : Int))
    (some ((((0 : Int), (((0 : Int), (0 : Int)), (((0 : Int), (0 : Int)), (((0 : Int), (0 : Int)), ((x.1.1.2.2.2.2.1.1, (x.1.1.2.2.2.2.1.2.1, x.1.1.2.2.2.2.1.2.2)), ((x.1.1.2.2.2.2.2.1.1, (x.1.1.2.2.2.2.2.1.2.1, x.1.1.2.2.2.2.2.1.2.2)), (x.1.1.2.2.2.2.2.2.1, (x.1.1.2.2.2.2.2.2.2.1, (0 : Int))))))))), ()), ()))
    (cond (x.1.1.1 == (6 : Int))
     (some ((((0 : Int), (((0 : Int), (0 : Int)), (x.1.1.2.2.1, (((0 : Int), (0 : Int)), ((x.1.1.2.2.2.2.1.1, (x.1.1.2.2.2.2.1.2.1, x.1.1.2.2.2.2.1.2.2)), ((x.1.1.2.2.2.2.2.1.1, (x.1.1.2.2.2.2.2.1.2.1, x.1.1.2.2.2.2.2.1.2.2)), (x.1.1.2.2.2.2.2.2.1, x.1.1.2.2.2.2.2.2.2))))))), ()), ()))
     (cond (x.1.1.1 == (7 : Int))
      (some ((((0 : Int), (((0 : Int), (0 : Int)), (x.1.1.2.2.1, (x.1.1.2.2.2.1, ((x.1.1.2.2.2.2.1.1, (x.1.1.2.2.2.2.1.2.1, x.1.1.2.2.2.2.1.2.2)), ((x.1.1.2.2.2.2.2.1.1, (x.1.1.2.2.2.2.2.1.2.1, x.1.1.2.2.2.2.2.1.2.2)), (false, ((⟨#[]⟩ : ByteArray), x.1.1.2.2.2.2.2.2.2.2)))))))), ()), ()))
      (cond (x.1.1.1 == (8 : Int))
       (some ((((0 : Int), (((0 : Int), (0 : Int)), (x.1.1.2.2.1, (x.1.1.2.2.2.1, ((x.1.1.2.2.2.2.1.1, (x.1.1.2.2.2.2.1.2.1, x.1.1.2.2.2.2.1.2.2)), ((x.1.1.2.2.2.2.2.1.1, (x.1.1.2.2.2.2.2.1.2.1, x.1.1.2.2.2.2.2.1.2.2)), (false, (x.1.1.2.2.2.2.2.2.2.1, (0 : Int))))))))), ()), ()))
       (some ((((0 : Int), (((0 : Int), (0 : Int)), (x.1.1.2.2.1, (x.1.1.2.2.2.1, ((x.1.1.2.2.2.2.1.1, (x.1.1.2.2.2.2.1.2.1, x.1.1.2.2.2.2.1.2.2)), ((x.1.1.2.2.2.2.2.1.1, (x.1.1.2.2.2.2.2.1.2.1, x.1.1.2.2.2.2.2.1.2.2)), (x.1.1.2.2.2.2.2.2.1, x.1.1.2.2.2.2.2.2.2))))))), ()), ())))))) := by kernel_rfl
theorem nf68 (F : FT) (J : JT sg68) (x : ((Cor × Unit) × Unit)) : nfE 68 sg68 Tryz.f68 F J x =
  (F 19 sg19 ((x.1.1.1, ()), ())).bind fun (y1 : ((Bool × Unit) × Unit)) =>
  (F 97 sg97 (((x.1.1.2.1, x.1.1.2.2), ()), ())).bind fun (y2 : ((Bool × Unit) × Unit)) =>
  cond y1.1.1
   (cond y2.1.1
    (some ((true, ()), ()))
    (some (((((x.1.1.2.1.1 == (0 : Int)) && (x.1.1.2.1.2 == (0 : Int))) && (x.1.1.2.2 == (0 : Int))), ()), ())))
   (some ((false, ()), ())) := by kernel_rfl
theorem nf69 (F : FT) (J : JT sg69) (x : ((ID × (ID × Unit)) × Unit)) : nfE 69 sg69 Tryz.f69 F J x =
  cond ((x.1.1.1 == x.1.2.1.1) && (x.1.1.2 == x.1.2.1.2))
   (some (((0 : Int), ()), ()))
   (cond (decide (x.1.1.1 < x.1.2.1.1))
    (some (((-1 : Int), ()), ()))
    (cond (x.1.1.1 == x.1.2.1.1)
     (cond (decide (x.1.1.2 < x.1.2.1.2))
      (some (((-1 : Int), ()), ()))
      (some (((1 : Int), ()), ())))
     (some (((1 : Int), ()), ())))) := by kernel_rfl
theorem nf70 (F : FT) (J : JT sg70) (x : ((StateT × (Cor × Unit)) × Unit)) : nfE 70 sg70 Tryz.f70 F J x =
  (F 18 sg18 ((x.1.1.1, (x.1.2.1.1, ())), ())).bind fun (y1 : ((Vert × (Bool × Unit)) × Unit)) =>
  cond (not y1.1.2.1)
   (some (((((0 : Int), (0 : Int)), (((0 : Int), (0 : Int)), (0 : Int))), ((13 : Int), ())), ()))
   ((F 98 sg98 (((x.1.1.1, x.1.1.2), ((x.1.2.1.2.1, x.1.2.1.2.2), ())), ())).bind fun (y2 : ((Dart × Unit) × Unit)) =>
   (F 24 sg24 ((y1.1.1.2.1, ((y2.1.1.1, y2.1.1.2), ())), ())).bind fun (y3 : ((Int × Unit) × Unit)) =>
   cond (decide (y3.1.1 < (0 : Int)))
    (some (((x.1.2.1.1, (((0 : Int), (0 : Int)), (0 : Int))), ((0 : Int), ())), ()))
    (some (((x.1.2.1.1, (y2.1.1.1, y2.1.1.2)), ((0 : Int), ())), ()))) := by kernel_rfl
theorem nf71 (F : FT) (J : JT sg71) (x : ((Diag × (EdgeT × Unit)) × Unit)) : nfE 71 sg71 Tryz.f71 F J x =
  J sh71_0 (seg Tryz.prog 71 0) ((false, ((0 : Int), ())), (((x.1.1, ()), (((x.1.2.1.1, x.1.2.1.2), ()), ((([] : List Vert), (([] : List EdgeT), ())), ((x.1.1.1, (([] : List EdgeT), ())), ())))), ())) := by kernel_rfl
theorem nl71_0 (F : FT) (J : JT sg71) (x : ((Bool × (Int × Unit)) × (((Diag × Unit) × ((EdgeT × Unit) × (((List Vert) × ((List EdgeT) × Unit)) × (((List Vert) × ((List EdgeT) × Unit)) × Unit)))) × Unit))) : nlE 71 0 sg71 Tryz.f71 sh71_0 F J x =
  cond (decide (x.1.2.1 < (((List.length x.2.1.1.1.2) : Nat) : Int)))
   (cond (not x.1.1)
    (((getI x.2.1.1.1.2 x.1.2.1)).bind fun (y1 : EdgeT) =>
    (F 69 sg69 ((x.2.1.2.1.1.1, (y1.1, ())), ())).bind fun (y2 : ((Int × Unit) × Unit)) =>
    cond (decide (y2.1.1 < (0 : Int)))
     (cond (fitsN (List.length x.2.1.2.2.2.1.2.1) (List.length ((x.2.1.2.1.1.1, x.2.1.2.1.1.2) :: ([] : List EdgeT))))
      (((getI x.2.1.1.1.2 x.1.2.1)).bind fun (y3 : EdgeT) =>
      cond (fitsN (List.length (x.2.1.2.2.2.1.2.1 ++ ((x.2.1.2.1.1.1, x.2.1.2.1.1.2) :: ([] : List EdgeT)))) (List.length ((y3.1, y3.2) :: ([] : List EdgeT))))
       (J sh71_0 (seg Tryz.prog 71 0) ((true, ((IntKind.wrap .i64 (x.1.2.1 + (1 : Int))), ())), (((x.2.1.1.1, ()), (((x.2.1.2.1.1.1, x.2.1.2.1.1.2), ()), ((x.2.1.2.2.1.1, x.2.1.2.2.1.2), ((x.2.1.2.2.2.1.1, (((x.2.1.2.2.2.1.2.1 ++ ((x.2.1.2.1.1.1, x.2.1.2.1.1.2) :: ([] : List EdgeT))) ++ ((y3.1, y3.2) :: ([] : List EdgeT))), ())), ())))), ())))
       (none))
      (none))
     (((getI x.2.1.1.1.2 x.1.2.1)).bind fun (y4 : EdgeT) =>
     cond (fitsN (List.length x.2.1.2.2.2.1.2.1) (List.length ((y4.1, y4.2) :: ([] : List EdgeT))))
      (J sh71_0 (seg Tryz.prog 71 0) ((x.1.1, ((IntKind.wrap .i64 (x.1.2.1 + (1 : Int))), ())), (((x.2.1.1.1, ()), (((x.2.1.2.1.1.1, x.2.1.2.1.1.2), ()), ((x.2.1.2.2.1.1, x.2.1.2.2.1.2), ((x.2.1.2.2.2.1.1, ((x.2.1.2.2.2.1.2.1 ++ ((y4.1, y4.2) :: ([] : List EdgeT))), ())), ())))), ())))
      (none)))
    (((getI x.2.1.1.1.2 x.1.2.1)).bind fun (y5 : EdgeT) =>
    cond (fitsN (List.length x.2.1.2.2.2.1.2.1) (List.length ((y5.1, y5.2) :: ([] : List EdgeT))))
     (J sh71_0 (seg Tryz.prog 71 0) ((x.1.1, ((IntKind.wrap .i64 (x.1.2.1 + (1 : Int))), ())), (((x.2.1.1.1, ()), (((x.2.1.2.1.1.1, x.2.1.2.1.1.2), ()), ((x.2.1.2.2.1.1, x.2.1.2.2.1.2), ((x.2.1.2.2.2.1.1, ((x.2.1.2.2.2.1.2.1 ++ ((y5.1, y5.2) :: ([] : List EdgeT))), ())), ())))), ())))
     (none)))
   (cond (not x.1.1)
    (cond (fitsN (List.length x.2.1.2.2.2.1.2.1) (List.length ((x.2.1.2.1.1.1, x.2.1.2.1.1.2) :: ([] : List EdgeT))))
     (some (((x.2.1.2.2.2.1.1, (x.2.1.2.2.2.1.2.1 ++ ((x.2.1.2.1.1.1, x.2.1.2.1.1.2) :: ([] : List EdgeT)))), ()), ()))
     (none))
    (some (((x.2.1.2.2.2.1.1, x.2.1.2.2.2.1.2.1), ()), ()))) := by kernel_rfl
theorem nf72 (F : FT) (J : JT sg72) (x : ((Diag × (Cor × (Dart × Unit))) × Unit)) : nfE 72 sg72 Tryz.f72 F J x =
  (F 18 sg18 ((x.1.1, (x.1.2.1.1, ())), ())).bind fun (y1 : ((Vert × (Bool × Unit)) × Unit)) =>
  (F 100 sg100 ((y1.1.1.2.1, ((x.1.2.1.2.1, x.1.2.1.2.2), ((x.1.2.2.1.1, x.1.2.2.1.2), ()))), ())).bind fun (y2 : (((List Dart) × Unit) × Unit)) =>
  (F 99 sg99 ((x.1.1, (x.1.2.1.1, y2.1)), ())).bind fun (y3 : ((Diag × Unit) × Unit)) =>
  some ((y3.1.1, ()), ()) := by kernel_rfl
theorem nf73 (F : FT) (J : JT sg73) (x : (((List GoneT) × (GoneT × Unit)) × Unit)) : nfE 73 sg73 Tryz.f73 F J x =
  (F 101 sg101 ((x.1.1, ((x.1.2.1.1.1, x.1.2.1.1.2), ())), ())).bind fun (y1 : ((Dart × (Bool × Unit)) × Unit)) =>
  cond (not y1.1.2.1)
   (cond (decide ((((List.length x.1.1) : Nat) : Int) ≥ (400 : Int)))
    (some ((x.1.1, ()), ()))
    (J sh73_0 (seg Tryz.prog 73 0) ((x.1.1, (false, ((0 : Int), ()))), (((((x.1.2.1.1.1, x.1.2.1.1.2), (x.1.2.1.2.1, x.1.2.1.2.2)), ()), ()), (([] : List GoneT), ())))))
   (J sh73_0 (seg Tryz.prog 73 0) ((x.1.1, (false, ((0 : Int), ()))), (((((x.1.2.1.1.1, x.1.2.1.1.2), (x.1.2.1.2.1, x.1.2.1.2.2)), ()), ()), (([] : List GoneT), ())))) := by kernel_rfl
theorem nl73_0 (F : FT) (J : JT sg73) (x : (((List GoneT) × (Bool × (Int × Unit))) × (((GoneT × Unit) × Unit) × ((List GoneT) × Unit)))) : nlE 73 0 sg73 Tryz.f73 sh73_0 F J x =
  cond (decide (x.1.2.2.1 < (((List.length x.1.1) : Nat) : Int)))
   (cond (not x.1.2.1)
    (((getI x.1.1 x.1.2.2.1)).bind fun (y2 : GoneT) =>
    (F 62 sg62 (((x.2.1.1.1.1.1, x.2.1.1.1.1.2), ((y2.1.1, y2.1.2), ())), ())).bind fun (y3 : ((Int × Unit) × Unit)) =>
    cond (decide (y3.1.1 ≤ (0 : Int)))
     (cond (fitsN (List.length x.2.2.1) (List.length (((x.2.1.1.1.1.1, x.2.1.1.1.1.2), (x.2.1.1.1.2.1, x.2.1.1.1.2.2)) :: ([] : List GoneT))))
      (((getI x.1.1 x.1.2.2.1)).bind fun (y4 : GoneT) =>
      cond (not (((y4.1.1.1 == x.2.1.1.1.1.1.1) && (y4.1.1.2 == x.2.1.1.1.1.1.2)) && (y4.1.2 == x.2.1.1.1.1.2)))
       (((getI x.1.1 x.1.2.2.1)).bind fun (y5 : GoneT) =>
       cond (fitsN (List.length (x.2.2.1 ++ (((x.2.1.1.1.1.1, x.2.1.1.1.1.2), (x.2.1.1.1.2.1, x.2.1.1.1.2.2)) :: ([] : List GoneT)))) (List.length (((y5.1.1, y5.1.2), (y5.2.1, y5.2.2)) :: ([] : List GoneT))))
        (J sh73_0 (seg Tryz.prog 73 0) ((x.1.1, (true, ((IntKind.wrap .i64 (x.1.2.2.1 + (1 : Int))), ()))), (((((x.2.1.1.1.1.1, x.2.1.1.1.1.2), (x.2.1.1.1.2.1, x.2.1.1.1.2.2)), ()), ()), (((x.2.2.1 ++ (((x.2.1.1.1.1.1, x.2.1.1.1.1.2), (x.2.1.1.1.2.1, x.2.1.1.1.2.2)) :: ([] : List GoneT))) ++ (((y5.1.1, y5.1.2), (y5.2.1, y5.2.2)) :: ([] : List GoneT))), ()))))
        (none))
       (J sh73_0 (seg Tryz.prog 73 0) ((x.1.1, (true, ((IntKind.wrap .i64 (x.1.2.2.1 + (1 : Int))), ()))), (((((x.2.1.1.1.1.1, x.2.1.1.1.1.2), (x.2.1.1.1.2.1, x.2.1.1.1.2.2)), ()), ()), ((x.2.2.1 ++ (((x.2.1.1.1.1.1, x.2.1.1.1.1.2), (x.2.1.1.1.2.1, x.2.1.1.1.2.2)) :: ([] : List GoneT))), ())))))
      (none))
     (((getI x.1.1 x.1.2.2.1)).bind fun (y6 : GoneT) =>
     cond (not (((y6.1.1.1 == x.2.1.1.1.1.1.1) && (y6.1.1.2 == x.2.1.1.1.1.1.2)) && (y6.1.2 == x.2.1.1.1.1.2)))
      (((getI x.1.1 x.1.2.2.1)).bind fun (y7 : GoneT) =>
      cond (fitsN (List.length x.2.2.1) (List.length (((y7.1.1, y7.1.2), (y7.2.1, y7.2.2)) :: ([] : List GoneT))))
       (J sh73_0 (seg Tryz.prog 73 0) ((x.1.1, (x.1.2.1, ((IntKind.wrap .i64 (x.1.2.2.1 + (1 : Int))), ()))), (((((x.2.1.1.1.1.1, x.2.1.1.1.1.2), (x.2.1.1.1.2.1, x.2.1.1.1.2.2)), ()), ()), ((x.2.2.1 ++ (((y7.1.1, y7.1.2), (y7.2.1, y7.2.2)) :: ([] : List GoneT))), ()))))
       (none))
      (J sh73_0 (seg Tryz.prog 73 0) ((x.1.1, (x.1.2.1, ((IntKind.wrap .i64 (x.1.2.2.1 + (1 : Int))), ()))), (((((x.2.1.1.1.1.1, x.2.1.1.1.1.2), (x.2.1.1.1.2.1, x.2.1.1.1.2.2)), ()), ()), x.2.2)))))
    (((getI x.1.1 x.1.2.2.1)).bind fun (y8 : GoneT) =>
    cond (not (((y8.1.1.1 == x.2.1.1.1.1.1.1) && (y8.1.1.2 == x.2.1.1.1.1.1.2)) && (y8.1.2 == x.2.1.1.1.1.2)))
     (((getI x.1.1 x.1.2.2.1)).bind fun (y9 : GoneT) =>
     cond (fitsN (List.length x.2.2.1) (List.length (((y9.1.1, y9.1.2), (y9.2.1, y9.2.2)) :: ([] : List GoneT))))
      (J sh73_0 (seg Tryz.prog 73 0) ((x.1.1, (x.1.2.1, ((IntKind.wrap .i64 (x.1.2.2.1 + (1 : Int))), ()))), (((((x.2.1.1.1.1.1, x.2.1.1.1.1.2), (x.2.1.1.1.2.1, x.2.1.1.1.2.2)), ()), ()), ((x.2.2.1 ++ (((y9.1.1, y9.1.2), (y9.2.1, y9.2.2)) :: ([] : List GoneT))), ()))))
      (none))
     (J sh73_0 (seg Tryz.prog 73 0) ((x.1.1, (x.1.2.1, ((IntKind.wrap .i64 (x.1.2.2.1 + (1 : Int))), ()))), (((((x.2.1.1.1.1.1, x.2.1.1.1.1.2), (x.2.1.1.1.2.1, x.2.1.1.1.2.2)), ()), ()), x.2.2)))))
   (cond (not x.1.2.1)
    (cond (fitsN (List.length x.2.2.1) (List.length (((x.2.1.1.1.1.1, x.2.1.1.1.1.2), (x.2.1.1.1.2.1, x.2.1.1.1.2.2)) :: ([] : List GoneT))))
     (some (((x.2.2.1 ++ (((x.2.1.1.1.1.1, x.2.1.1.1.1.2), (x.2.1.1.1.2.1, x.2.1.1.1.2.2)) :: ([] : List GoneT))), ()), ()))
     (none))
    (some (x.2.2, ()))) := by kernel_rfl
theorem nf74 (F : FT) (J : JT sg74) (x : ((Diag × (Dart × Unit)) × Unit)) : nfE 74 sg74 Tryz.f74 F J x =
  (F 20 sg20 ((x.1.1, ((x.1.2.1.1, x.1.2.1.2), ())), ())).bind fun (y1 : ((ID × (Bool × Unit)) × Unit)) =>
  (F 18 sg18 ((x.1.1, (y1.1.1, ())), ())).bind fun (y2 : ((Vert × (Bool × Unit)) × Unit)) =>
  (F 26 sg26 ((y2.1.1.2.1, ((x.1.2.1.1, x.1.2.1.2), ())), ())).bind fun (y3 : ((Dart × (Bool × Unit)) × Unit)) =>
  cond ((y3.1.1.1.1 == x.1.2.1.1.1) && (y3.1.1.1.2 == x.1.2.1.1.2))
   ((F 26 sg26 ((y2.1.1.2.1, ((y3.1.1.1, y3.1.1.2), ())), ())).bind fun (y4 : ((Dart × (Bool × Unit)) × Unit)) =>
   cond ((y4.1.1.1.1 == x.1.2.1.1.1) && (y4.1.1.1.2 == x.1.2.1.1.2))
    (some (((((0 : Int), (0 : Int)), (0 : Int)), ()), ()))
    (some (((y4.1.1.1, y4.1.1.2), ()), ())))
   (cond ((y3.1.1.1.1 == x.1.2.1.1.1) && (y3.1.1.1.2 == x.1.2.1.1.2))
    (some (((((0 : Int), (0 : Int)), (0 : Int)), ()), ()))
    (some (((y3.1.1.1, y3.1.1.2), ()), ()))) := by kernel_rfl
theorem nf75 (F : FT) (J : JT sg75) (x : ((Diag × (Dart × Unit)) × Unit)) : nfE 75 sg75 Tryz.f75 F J x =
  (F 20 sg20 ((x.1.1, ((x.1.2.1.1, x.1.2.1.2), ())), ())).bind fun (y1 : ((ID × (Bool × Unit)) × Unit)) =>
  (F 18 sg18 ((x.1.1, (y1.1.1, ())), ())).bind fun (y2 : ((Vert × (Bool × Unit)) × Unit)) =>
  (F 102 sg102 ((y2.1.1.2.1, ((x.1.2.1.1, x.1.2.1.2), ())), ())).bind fun (y3 : (((List Dart) × Unit) × Unit)) =>
  (F 99 sg99 ((x.1.1, (y1.1.1, y3.1)), ())).bind fun (y4 : ((Diag × Unit) × Unit)) =>
  some ((y4.1.1, ()), ()) := by kernel_rfl
theorem nf76 (F : FT) (J : JT sg76) (x : ((Diag × (Dart × (Dart × Unit))) × Unit)) : nfE 76 sg76 Tryz.f76 F J x =
  (F 20 sg20 ((x.1.1, ((x.1.2.1.1, x.1.2.1.2), ())), ())).bind fun (y1 : ((ID × (Bool × Unit)) × Unit)) =>
  (F 18 sg18 ((x.1.1, (y1.1.1, ())), ())).bind fun (y2 : ((Vert × (Bool × Unit)) × Unit)) =>
  (F 103 sg103 ((y2.1.1.2.1, ((x.1.2.1.1, x.1.2.1.2), ((x.1.2.2.1.1, x.1.2.2.1.2), ()))), ())).bind fun (y3 : (((List Dart) × Unit) × Unit)) =>
  (F 99 sg99 ((x.1.1, (y1.1.1, y3.1)), ())).bind fun (y4 : ((Diag × Unit) × Unit)) =>
  some ((y4.1.1, ()), ()) := by kernel_rfl
theorem nf77 (F : FT) (J : JT sg77) (x : (((List Dart) × Unit) × Unit)) : nfE 77 sg77 Tryz.f77 F J x =
  J sh77_0 (seg Tryz.prog 77 0) ((x.1.1, ((0 : Int), ((0 : Int), ()))), ((), ())) := by kernel_rfl
theorem nl77_0 (F : FT) (J : JT sg77) (x : (((List Dart) × (Int × (Int × Unit))) × (Unit × Unit))) : nlE 77 0 sg77 Tryz.f77 sh77_0 F J x =
  cond (decide (x.1.2.2.1 < (((List.length x.1.1) : Nat) : Int)))
   (((getI x.1.1 x.1.2.2.1)).bind fun (y1 : Dart) =>
   ((getI x.1.1 x.1.2.1)).bind fun (y2 : Dart) =>
   (F 62 sg62 (((y1.1, y1.2), ((y2.1, y2.2), ())), ())).bind fun (y3 : ((Int × Unit) × Unit)) =>
   cond (decide (y3.1.1 < (0 : Int)))
    (J sh77_0 (seg Tryz.prog 77 0) ((x.1.1, (x.1.2.2.1, ((IntKind.wrap .i64 (x.1.2.2.1 + (1 : Int))), ()))), ((), ())))
    (J sh77_0 (seg Tryz.prog 77 0) ((x.1.1, (x.1.2.1, ((IntKind.wrap .i64 (x.1.2.2.1 + (1 : Int))), ()))), ((), ()))))
   (J sh77_1 (seg Tryz.prog 77 1) ((x.1.1, (x.1.2.1, ((0 : Int), ()))), ((), (([] : List Dart), ())))) := by kernel_rfl
theorem nl77_1 (F : FT) (J : JT sg77) (x : (((List Dart) × (Int × (Int × Unit))) × (Unit × ((List Dart) × Unit)))) : nlE 77 1 sg77 Tryz.f77 sh77_1 F J x =
  cond (decide (x.1.2.2.1 < (((List.length x.1.1) : Nat) : Int)))
   (cond ((((List.length x.1.1) : Nat) : Int) == (0 : Int))
    (none)
    (((getI x.1.1 (Int.tmod (IntKind.wrap .i64 (x.1.2.1 + x.1.2.2.1)) (((List.length x.1.1) : Nat) : Int)))).bind fun (y4 : Dart) =>
    cond (fitsN (List.length x.2.2.1) (List.length ((y4.1, y4.2) :: ([] : List Dart))))
     (J sh77_1 (seg Tryz.prog 77 1) ((x.1.1, (x.1.2.1, ((IntKind.wrap .i64 (x.1.2.2.1 + (1 : Int))), ()))), ((), ((x.2.2.1 ++ ((y4.1, y4.2) :: ([] : List Dart))), ()))))
     (none)))
   (some (x.2.2, ())) := by kernel_rfl
theorem nf78 (F : FT) (J : JT sg78) (x : ((Diag × (Dart × Unit)) × Unit)) : nfE 78 sg78 Tryz.f78 F J x =
  (F 20 sg20 ((x.1.1, ((x.1.2.1.1, x.1.2.1.2), ())), ())).bind fun (y1 : ((ID × (Bool × Unit)) × Unit)) =>
  cond (not y1.1.2.1)
   (some (((((0 : Int), (0 : Int)), (0 : Int)), (false, ())), ()))
   ((F 18 sg18 ((x.1.1, (y1.1.1, ())), ())).bind fun (y2 : ((Vert × (Bool × Unit)) × Unit)) =>
   (F 104 sg104 ((y2.1.1.2.1, ((x.1.2.1.1, x.1.2.1.2), ())), ())).bind fun (y3 : ((Dart × (Bool × Unit)) × Unit)) =>
   some (((y3.1.1.1, y3.1.1.2), y3.1.2), ())) := by kernel_rfl
theorem nf79 (F : FT) (J : JT sg79) (x : (((List Vert) × Unit) × Unit)) : nfE 79 sg79 Tryz.f79 F J x =
  cond (List.isEmpty x.1.1)
   (anyN 2 fun (j1 : Nat) =>
   cond ((j1 == 0) == true)
    (some ((([] : List Vert), ()), ()))
    (cond (fitsN (List.length ([] : List Vert)) (List.length x.1.1))
     (some (((([] : List Vert) ++ x.1.1), ()), ()))
     (none)))
   (cond (fitsN (List.length ([] : List Vert)) (List.length x.1.1))
    (some (((([] : List Vert) ++ x.1.1), ()), ()))
    (none)) := by kernel_rfl
theorem nf80 (F : FT) (J : JT sg80) (x : (((List EdgeT) × Unit) × Unit)) : nfE 80 sg80 Tryz.f80 F J x =
  cond (List.isEmpty x.1.1)
   (anyN 2 fun (j1 : Nat) =>
   cond ((j1 == 0) == true)
    (some ((([] : List EdgeT), ()), ()))
    (cond (fitsN (List.length ([] : List EdgeT)) (List.length x.1.1))
     (some (((([] : List EdgeT) ++ x.1.1), ()), ()))
     (none)))
   (cond (fitsN (List.length ([] : List EdgeT)) (List.length x.1.1))
    (some (((([] : List EdgeT) ++ x.1.1), ()), ()))
    (none)) := by kernel_rfl
theorem nf81 (F : FT) (J : JT sg81) (x : (((List Dart) × Unit) × Unit)) : nfE 81 sg81 Tryz.f81 F J x =
  cond (List.isEmpty x.1.1)
   (anyN 2 fun (j1 : Nat) =>
   cond ((j1 == 0) == true)
    (some ((([] : List Dart), ()), ()))
    (cond (fitsN (List.length ([] : List Dart)) (List.length x.1.1))
     (some (((([] : List Dart) ++ x.1.1), ()), ()))
     (none)))
   (cond (fitsN (List.length ([] : List Dart)) (List.length x.1.1))
    (some (((([] : List Dart) ++ x.1.1), ()), ()))
    (none)) := by kernel_rfl
end Go.Vs
