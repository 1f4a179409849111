/- Normal forms of the program's functions, the first part. -/
import Derived.Test.YtpldhjjpeldkaaaGreatEngineD
import Derived.KernelRfl

set_option linter.unusedVariables false
set_option maxRecDepth 1000000
set_option maxHeartbeats 0
namespace Go.Vs
open Go.Proofs
end Go.Vs

set_option linter.unusedVariables false
set_option maxRecDepth 1000000
set_option maxHeartbeats 0
namespace Go.Vs
open Go.Proofs
theorem nf8 (F : FT) (J : JT sg8) (x : (((List (List OpT)) × (ID × Unit)) × Unit)) : nfE 8 sg8 Tryz.f8 F J x =
  (F 12 sg12 ((), ())).bind fun (y1 : ((Bool × Unit) × Unit)) =>
  (F 17 sg17 ((x.1.1, ()), ())).bind fun (y2 : ((StateT × Unit) × Unit)) =>
  (F 18 sg18 ((y2.1.1.1, (x.1.2.1, ())), ())).bind fun (y3 : ((Vert × (Bool × Unit)) × Unit)) =>
  cond (not y3.1.2.1)
   (some (y1.1, ()))
   ((F 14 sg14 (((y2.1.1.1, y2.1.1.2), (((2 : Int), (x.1.2.1, (((0 : Int), (0 : Int)), (((0 : Int), (0 : Int)), ((((0 : Int), (0 : Int)), (((0 : Int), (0 : Int)), (0 : Int))), ((((0 : Int), (0 : Int)), (((0 : Int), (0 : Int)), (0 : Int))), (false, ((⟨#[]⟩ : ByteArray), (0 : Int))))))))), ())), ())).bind fun (y4 : ((StateT × (Int × Unit)) × Unit)) =>
   cond ((((List.length y3.1.1.2.1) : Nat) : Int) == (0 : Int))
    (cond y1.1.1
     (some (((y4.1.2.1 == (0 : Int)), ()), ()))
     (some ((false, ()), ())))
    (cond (y4.1.2.1 != (14 : Int))
     (some ((false, ()), ()))
     (cond ((((List.length y3.1.1.2.1) : Nat) : Int) != (1 : Int))
      (some (y1.1, ()))
      (((getI y3.1.1.2.1 (0 : Int))).bind fun (y5 : Dart) =>
      (F 30 sg30 (((y2.1.1.1, y2.1.1.2), ((((4 : Int), (y5.1, (((0 : Int), (0 : Int)), (((0 : Int), (0 : Int)), ((((0 : Int), (0 : Int)), (((0 : Int), (0 : Int)), (0 : Int))), ((((0 : Int), (0 : Int)), (((0 : Int), (0 : Int)), (0 : Int))), (false, ((⟨#[]⟩ : ByteArray), (0 : Int))))))))) :: (((2 : Int), (x.1.2.1, (((0 : Int), (0 : Int)), (((0 : Int), (0 : Int)), ((((0 : Int), (0 : Int)), (((0 : Int), (0 : Int)), (0 : Int))), ((((0 : Int), (0 : Int)), (((0 : Int), (0 : Int)), (0 : Int))), (false, ((⟨#[]⟩ : ByteArray), (0 : Int))))))))) :: ([] : List OpT))), ())), ())).bind fun (y6 : ((StateT × (Int × Unit)) × Unit)) =>
      (F 31 sg31 ((y2.1.1.1, ()), ())).bind fun (y7 : (((List (List Dart)) × Unit) × Unit)) =>
      (F 32 sg32 ((y2.1.1.1, ()), ())).bind fun (y8 : ((Int × Unit) × Unit)) =>
      cond y1.1.1
       (cond (y6.1.2.1 == (0 : Int))
        (cond ((((List.length y6.1.1.1.1) : Nat) : Int) == (IntKind.wrap .i64 ((((List.length y2.1.1.1.1) : Nat) : Int) - (1 : Int))))
         (cond ((((List.length y6.1.1.1.2) : Nat) : Int) == (IntKind.wrap .i64 ((((List.length y2.1.1.1.2) : Nat) : Int) - (1 : Int))))
          ((F 32 sg32 ((y6.1.1.1, ()), ())).bind fun (y9 : ((Int × Unit) × Unit)) =>
          cond (y9.1.1 == y8.1.1)
           ((F 31 sg31 ((y6.1.1.1, ()), ())).bind fun (y10 : (((List (List Dart)) × Unit) × Unit)) =>
           some (((decide ((((List.length y10.1.1) : Nat) : Int) ≤ (((List.length y7.1.1) : Nat) : Int))), ()), ()))
           (some ((false, ()), ())))
          (some ((false, ()), ())))
         (some ((false, ()), ())))
        (some ((false, ()), ())))
       (some ((false, ()), ())))))) := by kernel_rfl
theorem nf12 (F : FT) (J : JT sg12) (x : (Unit × Unit)) : nfE 12 sg12 Tryz.f12 F J x =
  (F 33 sg33 ((), ())).bind fun (y1 : ((StateT × Unit) × Unit)) =>
  (F 42 sg42 (((1 : Int), ()), ())).bind fun (y2 : (((List OpT) × Unit) × Unit)) =>
  (F 30 sg30 (((y1.1.1.1, y1.1.1.2), y2.1), ())).bind fun (y3 : ((StateT × (Int × Unit)) × Unit)) =>
  (F 14 sg14 (((y3.1.1.1, y3.1.1.2), (((2 : Int), (((1 : Int), (1 : Int)), (((0 : Int), (0 : Int)), (((0 : Int), (0 : Int)), ((((0 : Int), (0 : Int)), (((0 : Int), (0 : Int)), (0 : Int))), ((((0 : Int), (0 : Int)), (((0 : Int), (0 : Int)), (0 : Int))), (false, ((⟨#[]⟩ : ByteArray), (0 : Int))))))))), ())), ())).bind fun (y4 : ((StateT × (Int × Unit)) × Unit)) =>
  cond ((((List.length y3.1.1.1.1) : Nat) : Int) == (1 : Int))
   (cond (y3.1.2.1 == (0 : Int))
    (cond ((((List.length y4.1.1.1.1) : Nat) : Int) == (0 : Int))
     (some (((y4.1.2.1 == (0 : Int)), ()), ()))
     (some ((false, ()), ())))
    (some ((false, ()), ())))
   (some ((false, ()), ())) := by kernel_rfl
theorem nf14 (F : FT) (J : JT sg14) (x : ((StateT × (OpT × Unit)) × Unit)) : nfE 14 sg14 Tryz.f14 F J x =
  (F 43 sg43 (((x.1.2.1.1, (x.1.2.1.2.1, (x.1.2.1.2.2.1, (x.1.2.1.2.2.2.1, ((x.1.2.1.2.2.2.2.1.1, (x.1.2.1.2.2.2.2.1.2.1, x.1.2.1.2.2.2.2.1.2.2)), ((x.1.2.1.2.2.2.2.2.1.1, (x.1.2.1.2.2.2.2.2.1.2.1, x.1.2.1.2.2.2.2.2.1.2.2)), (x.1.2.1.2.2.2.2.2.2.1, x.1.2.1.2.2.2.2.2.2.2))))))), ()), ())).bind fun (y1 : ((Int × Unit) × Unit)) =>
  cond (y1.1.1 != (0 : Int))
   (some ((((([] : List Vert), ([] : List EdgeT)), ([] : List GoneT)), y1.1), ()))
   ((F 44 sg44 (((x.1.1.1, x.1.1.2), (((x.1.2.1.1, (x.1.2.1.2.1, (x.1.2.1.2.2.1, (x.1.2.1.2.2.2.1, ((x.1.2.1.2.2.2.2.1.1, (x.1.2.1.2.2.2.2.1.2.1, x.1.2.1.2.2.2.2.1.2.2)), ((x.1.2.1.2.2.2.2.2.1.1, (x.1.2.1.2.2.2.2.2.1.2.1, x.1.2.1.2.2.2.2.2.1.2.2)), (x.1.2.1.2.2.2.2.2.2.1, x.1.2.1.2.2.2.2.2.2.2))))))) :: ([] : List OpT)), ())), ())).bind fun (y2 : ((StateT × (Int × Unit)) × Unit)) =>
   some (((y2.1.1.1, y2.1.1.2), y2.1.2), ())) := by kernel_rfl
end Go.Vs
