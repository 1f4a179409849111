/- Normal forms of the program's functions, the first part. -/
import Derived.Test.YtpldhjjpeldkaaaGreatEngineD
import Derived.KernelRfl

set_option linter.unusedVariables false
set_option maxRecDepth 1000000
set_option maxHeartbeats 0
namespace Go.Vs
open Go.Proofs
theorem nf6 (F : FT) (J : JT sg6) (x : (((List (List OpT)) × (ID × (Int × Unit))) × Unit)) : nfE 6 sg6 Tryz.f6 F J x =
  (F 12 sg12 ((), ())).bind fun (y1 : ((Bool × Unit) × Unit)) =>
  (F 17 sg17 ((x.1.1, ()), ())).bind fun (y2 : ((StateT × Unit) × Unit)) =>
  (F 21 sg21 ((y2.1.1.1, (x.1.2.1, ())), ())).bind fun (y3 : ((EdgeT × (Bool × Unit)) × Unit)) =>
  (F 18 sg18 ((y2.1.1.1, (((8 : Int), (1048576 : Int)), ())), ())).bind fun (y4 : ((Vert × (Bool × Unit)) × Unit)) =>
  (F 21 sg21 ((y2.1.1.1, (((8 : Int), (1048576 : Int)), ())), ())).bind fun (y5 : ((EdgeT × (Bool × Unit)) × Unit)) =>
  cond (not y3.1.2.1)
   (some (y1.1, ()))
   (cond y4.1.2.1
    (some (y1.1, ()))
    (cond y5.1.2.1
     (some (y1.1, ()))
     (cond (decide ((((List.length y2.1.1.1.2) : Nat) : Int) ≥ (40 : Int)))
      (some (y1.1, ()))
      (cond (decide ((((List.length y2.1.1.1.1) : Nat) : Int) ≥ (24 : Int)))
       (some (y1.1, ()))
       ((F 14 sg14 (((y2.1.1.1, y2.1.1.2), (((5 : Int), (x.1.2.1, (((8 : Int), (1048576 : Int)), (((8 : Int), (1048576 : Int)), ((((0 : Int), (0 : Int)), (((0 : Int), (0 : Int)), (0 : Int))), ((((0 : Int), (0 : Int)), (((0 : Int), (0 : Int)), (0 : Int))), (false, ((⟨#[]⟩ : ByteArray), (bitsI .and .i64 x.1.2.2.1 (3 : Int)))))))))), ())), ())).bind fun (y6 : ((StateT × (Int × Unit)) × Unit)) =>
       (F 18 sg18 ((y6.1.1.1, (((8 : Int), (1048576 : Int)), ())), ())).bind fun (y7 : ((Vert × (Bool × Unit)) × Unit)) =>
       cond (y6.1.2.1 != (0 : Int))
        (some ((false, ()), ()))
        (cond (not y7.1.2.1)
         (some ((false, ()), ()))
         (cond ((((List.length y7.1.1.2.1) : Nat) : Int) != (2 : Int))
          (some ((false, ()), ()))
          (((getI y7.1.1.2.1 (0 : Int))).bind fun (y8 : Dart) =>
          cond ((y8.1.1 == x.1.2.1.1) && (y8.1.2 == x.1.2.1.2))
           (((getI y7.1.1.2.1 (1 : Int))).bind fun (y9 : Dart) =>
           cond ((y9.1.1 == (8 : Int)) && (y9.1.2 == (1048576 : Int)))
            ((F 14 sg14 (((y6.1.1.1, y6.1.1.2), (((6 : Int), (((8 : Int), (1048576 : Int)), (((0 : Int), (0 : Int)), (((8 : Int), (1048576 : Int)), ((((0 : Int), (0 : Int)), (((0 : Int), (0 : Int)), (0 : Int))), ((((0 : Int), (0 : Int)), (((0 : Int), (0 : Int)), (0 : Int))), (false, ((⟨#[]⟩ : ByteArray), (0 : Int))))))))), ())), ())).bind fun (y10 : ((StateT × (Int × Unit)) × Unit)) =>
            (F 27 sg27 ((y10.1.1.1, (y2.1.1.1, ())), ())).bind fun (y11 : ((Bool × Unit) × Unit)) =>
            cond ((x.1.2.1.1 == (8 : Int)) && (x.1.2.1.2 == (1 : Int)))
             ((F 14 sg14 (((y6.1.1.1, y6.1.1.2), (((6 : Int), (((8 : Int), (1048576 : Int)), (((0 : Int), (0 : Int)), (((8 : Int), (2 : Int)), ((((0 : Int), (0 : Int)), (((0 : Int), (0 : Int)), (0 : Int))), ((((0 : Int), (0 : Int)), (((0 : Int), (0 : Int)), (0 : Int))), (false, ((⟨#[]⟩ : ByteArray), (0 : Int))))))))), ())), ())).bind fun (y12 : ((StateT × (Int × Unit)) × Unit)) =>
             cond y1.1.1
              (cond (y10.1.2.1 == (0 : Int))
               (cond y11.1.1
                (some (((y12.1.2.1 == (14 : Int)), ()), ()))
                (some ((false, ()), ())))
               (some ((false, ()), ())))
              (some ((false, ()), ())))
             ((F 14 sg14 (((y6.1.1.1, y6.1.1.2), (((6 : Int), (((8 : Int), (1048576 : Int)), (((0 : Int), (0 : Int)), (((8 : Int), (1 : Int)), ((((0 : Int), (0 : Int)), (((0 : Int), (0 : Int)), (0 : Int))), ((((0 : Int), (0 : Int)), (((0 : Int), (0 : Int)), (0 : Int))), (false, ((⟨#[]⟩ : ByteArray), (0 : Int))))))))), ())), ())).bind fun (y13 : ((StateT × (Int × Unit)) × Unit)) =>
             cond y1.1.1
              (cond (y10.1.2.1 == (0 : Int))
               (cond y11.1.1
                (some (((y13.1.2.1 == (14 : Int)), ()), ()))
                (some ((false, ()), ())))
               (some ((false, ()), ())))
              (some ((false, ()), ()))))
            (((getI y7.1.1.2.1 (0 : Int))).bind fun (y14 : Dart) =>
            cond ((y14.1.1 == (8 : Int)) && (y14.1.2 == (1048576 : Int)))
             (((getI y7.1.1.2.1 (1 : Int))).bind fun (y15 : Dart) =>
             (F 14 sg14 (((y6.1.1.1, y6.1.1.2), (((6 : Int), (((8 : Int), (1048576 : Int)), (((0 : Int), (0 : Int)), (((8 : Int), (1048576 : Int)), ((((0 : Int), (0 : Int)), (((0 : Int), (0 : Int)), (0 : Int))), ((((0 : Int), (0 : Int)), (((0 : Int), (0 : Int)), (0 : Int))), (false, ((⟨#[]⟩ : ByteArray), (0 : Int))))))))), ())), ())).bind fun (y16 : ((StateT × (Int × Unit)) × Unit)) =>
             (F 27 sg27 ((y16.1.1.1, (y2.1.1.1, ())), ())).bind fun (y17 : ((Bool × Unit) × Unit)) =>
             cond ((x.1.2.1.1 == (8 : Int)) && (x.1.2.1.2 == (1 : Int)))
              ((F 14 sg14 (((y6.1.1.1, y6.1.1.2), (((6 : Int), (((8 : Int), (1048576 : Int)), (((0 : Int), (0 : Int)), (((8 : Int), (2 : Int)), ((((0 : Int), (0 : Int)), (((0 : Int), (0 : Int)), (0 : Int))), ((((0 : Int), (0 : Int)), (((0 : Int), (0 : Int)), (0 : Int))), (false, ((⟨#[]⟩ : ByteArray), (0 : Int))))))))), ())), ())).bind fun (y18 : ((StateT × (Int × Unit)) × Unit)) =>
              cond y1.1.1
               (cond ((y15.1.1 == x.1.2.1.1) && (y15.1.2 == x.1.2.1.2))
                (cond (y16.1.2.1 == (0 : Int))
                 (cond y17.1.1
                  (some (((y18.1.2.1 == (14 : Int)), ()), ()))
                  (some ((false, ()), ())))
                 (some ((false, ()), ())))
                (some ((false, ()), ())))
               (some ((false, ()), ())))
              ((F 14 sg14 (((y6.1.1.1, y6.1.1.2), (((6 : Int), (((8 : Int), (1048576 : Int)), (((0 : Int), (0 : Int)), (((8 : Int), (1 : Int)), ((((0 : Int), (0 : Int)), (((0 : Int), (0 : Int)), (0 : Int))), ((((0 : Int), (0 : Int)), (((0 : Int), (0 : Int)), (0 : Int))), (false, ((⟨#[]⟩ : ByteArray), (0 : Int))))))))), ())), ())).bind fun (y19 : ((StateT × (Int × Unit)) × Unit)) =>
              cond y1.1.1
               (cond ((y15.1.1 == x.1.2.1.1) && (y15.1.2 == x.1.2.1.2))
                (cond (y16.1.2.1 == (0 : Int))
                 (cond y17.1.1
                  (some (((y19.1.2.1 == (14 : Int)), ()), ()))
                  (some ((false, ()), ())))
                 (some ((false, ()), ())))
                (some ((false, ()), ())))
               (some ((false, ()), ()))))
             ((F 14 sg14 (((y6.1.1.1, y6.1.1.2), (((6 : Int), (((8 : Int), (1048576 : Int)), (((0 : Int), (0 : Int)), (((8 : Int), (1048576 : Int)), ((((0 : Int), (0 : Int)), (((0 : Int), (0 : Int)), (0 : Int))), ((((0 : Int), (0 : Int)), (((0 : Int), (0 : Int)), (0 : Int))), (false, ((⟨#[]⟩ : ByteArray), (0 : Int))))))))), ())), ())).bind fun (y20 : ((StateT × (Int × Unit)) × Unit)) =>
             (F 27 sg27 ((y20.1.1.1, (y2.1.1.1, ())), ())).bind fun (y21 : ((Bool × Unit) × Unit)) =>
             cond ((x.1.2.1.1 == (8 : Int)) && (x.1.2.1.2 == (1 : Int)))
              ((F 14 sg14 (((y6.1.1.1, y6.1.1.2), (((6 : Int), (((8 : Int), (1048576 : Int)), (((0 : Int), (0 : Int)), (((8 : Int), (2 : Int)), ((((0 : Int), (0 : Int)), (((0 : Int), (0 : Int)), (0 : Int))), ((((0 : Int), (0 : Int)), (((0 : Int), (0 : Int)), (0 : Int))), (false, ((⟨#[]⟩ : ByteArray), (0 : Int))))))))), ())), ())).bind fun (y22 : ((StateT × (Int × Unit)) × Unit)) =>
              cond y1.1.1
               (some ((false, ()), ()))
               (some ((false, ()), ())))
              ((F 14 sg14 (((y6.1.1.1, y6.1.1.2), (((6 : Int), (((8 : Int), (1048576 : Int)), (((0 : Int), (0 : Int)), (((8 : Int), (1 : Int)), ((((0 : Int), (0 : Int)), (((0 : Int), (0 : Int)), (0 : Int))), ((((0 : Int), (0 : Int)), (((0 : Int), (0 : Int)), (0 : Int))), (false, ((⟨#[]⟩ : ByteArray), (0 : Int))))))))), ())), ())).bind fun (y23 : ((StateT × (Int × Unit)) × Unit)) =>
              cond y1.1.1
               (some ((false, ()), ()))
               (some ((false, ()), ()))))))
           (((getI y7.1.1.2.1 (0 : Int))).bind fun (y24 : Dart) =>
           cond ((y24.1.1 == (8 : Int)) && (y24.1.2 == (1048576 : Int)))
            (((getI y7.1.1.2.1 (1 : Int))).bind fun (y25 : Dart) =>
            (F 14 sg14 (((y6.1.1.1, y6.1.1.2), (((6 : Int), (((8 : Int), (1048576 : Int)), (((0 : Int), (0 : Int)), (((8 : Int), (1048576 : Int)), ((((0 : Int), (0 : Int)), (((0 : Int), (0 : Int)), (0 : Int))), ((((0 : Int), (0 : Int)), (((0 : Int), (0 : Int)), (0 : Int))), (false, ((⟨#[]⟩ : ByteArray), (0 : Int))))))))), ())), ())).bind fun (y26 : ((StateT × (Int × Unit)) × Unit)) =>
            (F 27 sg27 ((y26.1.1.1, (y2.1.1.1, ())), ())).bind fun (y27 : ((Bool × Unit) × Unit)) =>
            cond ((x.1.2.1.1 == (8 : Int)) && (x.1.2.1.2 == (1 : Int)))
             ((F 14 sg14 (((y6.1.1.1, y6.1.1.2), (((6 : Int), (((8 : Int), (1048576 : Int)), (((0 : Int), (0 : Int)), (((8 : Int), (2 : Int)), ((((0 : Int), (0 : Int)), (((0 : Int), (0 : Int)), (0 : Int))), ((((0 : Int), (0 : Int)), (((0 : Int), (0 : Int)), (0 : Int))), (false, ((⟨#[]⟩ : ByteArray), (0 : Int))))))))), ())), ())).bind fun (y28 : ((StateT × (Int × Unit)) × Unit)) =>
             cond y1.1.1
              (cond ((y25.1.1 == x.1.2.1.1) && (y25.1.2 == x.1.2.1.2))
               (cond (y26.1.2.1 == (0 : Int))
                (cond y27.1.1
                 (some (((y28.1.2.1 == (14 : Int)), ()), ()))
                 (some ((false, ()), ())))
                (some ((false, ()), ())))
               (some ((false, ()), ())))
              (some ((false, ()), ())))
             ((F 14 sg14 (((y6.1.1.1, y6.1.1.2), (((6 : Int), (((8 : Int), (1048576 : Int)), (((0 : Int), (0 : Int)), (((8 : Int), (1 : Int)), ((((0 : Int), (0 : Int)), (((0 : Int), (0 : Int)), (0 : Int))), ((((0 : Int), (0 : Int)), (((0 : Int), (0 : Int)), (0 : Int))), (false, ((⟨#[]⟩ : ByteArray), (0 : Int))))))))), ())), ())).bind fun (y29 : ((StateT × (Int × Unit)) × Unit)) =>
             cond y1.1.1
              (cond ((y25.1.1 == x.1.2.1.1) && (y25.1.2 == x.1.2.1.2))
               (cond (y26.1.2.1 == (0 : Int))
                (cond y27.1.1
                 (some (((y29.1.2.1 == (14 : Int)), ()), ()))
                 (some ((false, ()), ())))
                (some ((false, ()), ())))
               (some ((false, ()), ())))
              (some ((false, ()), ()))))
            ((F 14 sg14 (((y6.1.1.1, y6.1.1.2), (((6 : Int), (((8 : Int), (1048576 : Int)), (((0 : Int), (0 : Int)), (((8 : Int), (1048576 : Int)), ((((0 : Int), (0 : Int)), (((0 : Int), (0 : Int)), (0 : Int))), ((((0 : Int), (0 : Int)), (((0 : Int), (0 : Int)), (0 : Int))), (false, ((⟨#[]⟩ : ByteArray), (0 : Int))))))))), ())), ())).bind fun (y30 : ((StateT × (Int × Unit)) × Unit)) =>
            (F 27 sg27 ((y30.1.1.1, (y2.1.1.1, ())), ())).bind fun (y31 : ((Bool × Unit) × Unit)) =>
            cond ((x.1.2.1.1 == (8 : Int)) && (x.1.2.1.2 == (1 : Int)))
             ((F 14 sg14 (((y6.1.1.1, y6.1.1.2), (((6 : Int), (((8 : Int), (1048576 : Int)), (((0 : Int), (0 : Int)), (((8 : Int), (2 : Int)), ((((0 : Int), (0 : Int)), (((0 : Int), (0 : Int)), (0 : Int))), ((((0 : Int), (0 : Int)), (((0 : Int), (0 : Int)), (0 : Int))), (false, ((⟨#[]⟩ : ByteArray), (0 : Int))))))))), ())), ())).bind fun (y32 : ((StateT × (Int × Unit)) × Unit)) =>
             cond y1.1.1
              (some ((false, ()), ()))
              (some ((false, ()), ())))
             ((F 14 sg14 (((y6.1.1.1, y6.1.1.2), (((6 : Int), (((8 : Int), (1048576 : Int)), (((0 : Int), (0 : Int)), (((8 : Int), (1 : Int)), ((((0 : Int), (0 : Int)), (((0 : Int), (0 : Int)), (0 : Int))), ((((0 : Int), (0 : Int)), (((0 : Int), (0 : Int)), (0 : Int))), (false, ((⟨#[]⟩ : ByteArray), (0 : Int))))))))), ())), ())).bind fun (y33 : ((StateT × (Int × Unit)) × Unit)) =>
             cond y1.1.1
              (some ((false, ()), ()))
              (some ((false, ()), ()))))))))))))) := by kernel_rfl
end Go.Vs

set_option linter.unusedVariables false
set_option maxRecDepth 1000000
set_option maxHeartbeats 0
namespace Go.Vs
open Go.Proofs
theorem nf7 (F : FT) (J : JT sg7) (x : (((List (List OpT)) × (ID × ((ByteArray × (Int × Bool)) × Unit))) × Unit)) : nfE 7 sg7 Tryz.f7 F J x =
  (F 12 sg12 ((), ())).bind fun (y1 : ((Bool × Unit) × Unit)) =>
  (F 17 sg17 ((x.1.1, ()), ())).bind fun (y2 : ((StateT × Unit) × Unit)) =>
  (F 19 sg19 ((x.1.2.1, ()), ())).bind fun (y3 : ((Bool × Unit) × Unit)) =>
  cond (not y3.1.1)
   (some (y1.1, ()))
   ((F 28 sg28 ((x.1.2.2.1.1, ()), ())).bind fun (y4 : ((Bool × Unit) × Unit)) =>
   cond (not y4.1.1)
    (some (y1.1, ()))
    ((F 29 sg29 ((x.1.2.2.1.2.1, ()), ())).bind fun (y5 : ((Bool × Unit) × Unit)) =>
    cond (not y5.1.1)
     (some (y1.1, ()))
     ((F 14 sg14 (((y2.1.1.1, y2.1.1.2), (((7 : Int), (x.1.2.1, (((0 : Int), (0 : Int)), (((0 : Int), (0 : Int)), ((((0 : Int), (0 : Int)), (((0 : Int), (0 : Int)), (0 : Int))), ((((0 : Int), (0 : Int)), (((0 : Int), (0 : Int)), (0 : Int))), (x.1.2.2.1.2.2, (x.1.2.2.1.1, (0 : Int))))))))), ())), ())).bind fun (y6 : ((StateT × (Int × Unit)) × Unit)) =>
     (F 14 sg14 (((y2.1.1.1, y2.1.1.2), (((8 : Int), (x.1.2.1, (((0 : Int), (0 : Int)), (((0 : Int), (0 : Int)), ((((0 : Int), (0 : Int)), (((0 : Int), (0 : Int)), (0 : Int))), ((((0 : Int), (0 : Int)), (((0 : Int), (0 : Int)), (0 : Int))), (x.1.2.2.1.2.2, ((⟨#[]⟩ : ByteArray), x.1.2.2.1.2.1)))))))), ())), ())).bind fun (y7 : ((StateT × (Int × Unit)) × Unit)) =>
     (F 18 sg18 ((y2.1.1.1, (x.1.2.1, ())), ())).bind fun (y8 : ((Vert × (Bool × Unit)) × Unit)) =>
     (F 21 sg21 ((y2.1.1.1, (x.1.2.1, ())), ())).bind fun (y9 : ((EdgeT × (Bool × Unit)) × Unit)) =>
     cond y8.1.2.1
      (cond (not x.1.2.2.1.2.2)
       (cond x.1.2.2.1.2.2
        ((F 14 sg14 (((y6.1.1.1, y6.1.1.2), (((7 : Int), (x.1.2.1, (((0 : Int), (0 : Int)), (((0 : Int), (0 : Int)), ((((0 : Int), (0 : Int)), (((0 : Int), (0 : Int)), (0 : Int))), ((((0 : Int), (0 : Int)), (((0 : Int), (0 : Int)), (0 : Int))), (x.1.2.2.1.2.2, (y9.1.1.2.1, (0 : Int))))))))), ())), ())).bind fun (y10 : ((StateT × (Int × Unit)) × Unit)) =>
        (F 14 sg14 (((y7.1.1.1, y7.1.1.2), (((8 : Int), (x.1.2.1, (((0 : Int), (0 : Int)), (((0 : Int), (0 : Int)), ((((0 : Int), (0 : Int)), (((0 : Int), (0 : Int)), (0 : Int))), ((((0 : Int), (0 : Int)), (((0 : Int), (0 : Int)), (0 : Int))), (x.1.2.2.1.2.2, ((⟨#[]⟩ : ByteArray), y9.1.1.2.2)))))))), ())), ())).bind fun (y11 : ((StateT × (Int × Unit)) × Unit)) =>
        (F 16 sg16 (((y10.1.1.1, y10.1.1.2), ((y2.1.1.1, y2.1.1.2), ())), ())).bind fun (y12 : ((Bool × Unit) × Unit)) =>
        (F 16 sg16 (((y11.1.1.1, y11.1.1.2), ((y2.1.1.1, y2.1.1.2), ())), ())).bind fun (y13 : ((Bool × Unit) × Unit)) =>
        (F 18 sg18 ((y6.1.1.1, (x.1.2.1, ())), ())).bind fun (y14 : ((Vert × (Bool × Unit)) × Unit)) =>
        (F 21 sg21 ((y7.1.1.1, (x.1.2.1, ())), ())).bind fun (y15 : ((EdgeT × (Bool × Unit)) × Unit)) =>
        cond x.1.2.2.1.2.2
         (cond (not x.1.2.2.1.2.2)
          (cond y1.1.1
           (cond (y6.1.2.1 == (0 : Int))
            (cond (y7.1.2.1 == (0 : Int))
             (cond (y10.1.2.1 == (0 : Int))
              (cond (y11.1.2.1 == (0 : Int))
               (cond y12.1.1
                (cond y13.1.1
                 (some ((true, ()), ()))
                 (some ((false, ()), ())))
                (some ((false, ()), ())))
               (some ((false, ()), ())))
              (some ((false, ()), ())))
             (some ((false, ()), ())))
            (some ((false, ()), ())))
           (some ((false, ()), ())))
          (cond (y15.1.1.2.2 == x.1.2.2.1.2.1)
           (cond y1.1.1
            (cond (y6.1.2.1 == (0 : Int))
             (cond (y7.1.2.1 == (0 : Int))
              (cond (y10.1.2.1 == (0 : Int))
               (cond (y11.1.2.1 == (0 : Int))
                (cond y12.1.1
                 (cond y13.1.1
                  (some (((y15.1.1.2.1 == y9.1.1.2.1), ()), ()))
                  (some ((false, ()), ())))
                 (some ((false, ()), ())))
                (some ((false, ()), ())))
               (some ((false, ()), ())))
              (some ((false, ()), ())))
             (some ((false, ()), ())))
            (some ((false, ()), ())))
           (cond y1.1.1
            (cond (y6.1.2.1 == (0 : Int))
             (cond (y7.1.2.1 == (0 : Int))
              (cond (y10.1.2.1 == (0 : Int))
               (cond (y11.1.2.1 == (0 : Int))
                (cond y12.1.1
                 (cond y13.1.1
                  (some ((false, ()), ()))
                  (some ((false, ()), ())))
                 (some ((false, ()), ())))
                (some ((false, ()), ())))
               (some ((false, ()), ())))
              (some ((false, ()), ())))
             (some ((false, ()), ())))
            (some ((false, ()), ())))))
         (cond (y14.1.1.2.2.1 == x.1.2.2.1.1)
          (cond (not x.1.2.2.1.2.2)
           (cond y1.1.1
            (cond (y6.1.2.1 == (0 : Int))
             (cond (y7.1.2.1 == (0 : Int))
              (cond (y10.1.2.1 == (0 : Int))
               (cond (y11.1.2.1 == (0 : Int))
                (cond y12.1.1
                 (cond y13.1.1
                  (cond (y14.1.1.2.2.2 == y8.1.1.2.2.2)
                   (some ((true, ()), ()))
                   (some ((false, ()), ())))
                  (some ((false, ()), ())))
                 (some ((false, ()), ())))
                (some ((false, ()), ())))
               (some ((false, ()), ())))
              (some ((false, ()), ())))
             (some ((false, ()), ())))
            (some ((false, ()), ())))
           (cond (y15.1.1.2.2 == x.1.2.2.1.2.1)
            (cond y1.1.1
             (cond (y6.1.2.1 == (0 : Int))
              (cond (y7.1.2.1 == (0 : Int))
               (cond (y10.1.2.1 == (0 : Int))
                (cond (y11.1.2.1 == (0 : Int))
                 (cond y12.1.1
                  (cond y13.1.1
                   (cond (y14.1.1.2.2.2 == y8.1.1.2.2.2)
                    (some (((y15.1.1.2.1 == y9.1.1.2.1), ()), ()))
                    (some ((false, ()), ())))
                   (some ((false, ()), ())))
                  (some ((false, ()), ())))
                 (some ((false, ()), ())))
                (some ((false, ()), ())))
               (some ((false, ()), ())))
              (some ((false, ()), ())))
             (some ((false, ()), ())))
            (cond y1.1.1
             (cond (y6.1.2.1 == (0 : Int))
              (cond (y7.1.2.1 == (0 : Int))
               (cond (y10.1.2.1 == (0 : Int))
                (cond (y11.1.2.1 == (0 : Int))
                 (cond y12.1.1
                  (cond y13.1.1
                   (cond (y14.1.1.2.2.2 == y8.1.1.2.2.2)
                    (some ((false, ()), ()))
                    (some ((false, ()), ())))
                   (some ((false, ()), ())))
                  (some ((false, ()), ())))
                 (some ((false, ()), ())))
                (some ((false, ()), ())))
               (some ((false, ()), ())))
              (some ((false, ()), ())))
             (some ((false, ()), ())))))
          (cond (not x.1.2.2.1.2.2)
           (cond y1.1.1
            (cond (y6.1.2.1 == (0 : Int))
             (cond (y7.1.2.1 == (0 : Int))
              (cond (y10.1.2.1 == (0 : Int))
               (cond (y11.1.2.1 == (0 : Int))
                (cond y12.1.1
                 (cond y13.1.1
                  (some ((false, ()), ()))
                  (some ((false, ()), ())))
                 (some ((false, ()), ())))
                (some ((false, ()), ())))
               (some ((false, ()), ())))
              (some ((false, ()), ())))
             (some ((false, ()), ())))
            (some ((false, ()), ())))
           (cond (y15.1.1.2.2 == x.1.2.2.1.2.1)
            (cond y1.1.1
             (cond (y6.1.2.1 == (0 : Int))
              (cond (y7.1.2.1 == (0 : Int))
               (cond (y10.1.2.1 == (0 : Int))
                (cond (y11.1.2.1 == (0 : Int))
                 (cond y12.1.1
                  (cond y13.1.1
                   (some ((false, ()), ()))
                   (some ((false, ()), ())))
                  (some ((false, ()), ())))
                 (some ((false, ()), ())))
                (some ((false, ()), ())))
               (some ((false, ()), ())))
              (some ((false, ()), ())))
             (some ((false, ()), ())))
            (cond y1.1.1
             (cond (y6.1.2.1 == (0 : Int))
              (cond (y7.1.2.1 == (0 : Int))
               (cond (y10.1.2.1 == (0 : Int))
                (cond (y11.1.2.1 == (0 : Int))
                 (cond y12.1.1
                  (cond y13.1.1
                   (some ((false, ()), ()))
                   (some ((false, ()), ())))
                  (some ((false, ()), ())))
                 (some ((false, ()), ())))
                (some ((false, ()), ())))
               (some ((false, ()), ())))
              (some ((false, ()), ())))
             (some ((false, ()), ())))))))
        ((F 14 sg14 (((y6.1.1.1, y6.1.1.2), (((7 : Int), (x.1.2.1, (((0 : Int), (0 : Int)), (((0 : Int), (0 : Int)), ((((0 : Int), (0 : Int)), (((0 : Int), (0 : Int)), (0 : Int))), ((((0 : Int), (0 : Int)), (((0 : Int), (0 : Int)), (0 : Int))), (x.1.2.2.1.2.2, (y8.1.1.2.2.1, (0 : Int))))))))), ())), ())).bind fun (y16 : ((StateT × (Int × Unit)) × Unit)) =>
        (F 14 sg14 (((y7.1.1.1, y7.1.1.2), (((8 : Int), (x.1.2.1, (((0 : Int), (0 : Int)), (((0 : Int), (0 : Int)), ((((0 : Int), (0 : Int)), (((0 : Int), (0 : Int)), (0 : Int))), ((((0 : Int), (0 : Int)), (((0 : Int), (0 : Int)), (0 : Int))), (x.1.2.2.1.2.2, ((⟨#[]⟩ : ByteArray), y8.1.1.2.2.2)))))))), ())), ())).bind fun (y17 : ((StateT × (Int × Unit)) × Unit)) =>
        (F 16 sg16 (((y16.1.1.1, y16.1.1.2), ((y2.1.1.1, y2.1.1.2), ())), ())).bind fun (y18 : ((Bool × Unit) × Unit)) =>
        (F 16 sg16 (((y17.1.1.1, y17.1.1.2), ((y2.1.1.1, y2.1.1.2), ())), ())).bind fun (y19 : ((Bool × Unit) × Unit)) =>
        (F 18 sg18 ((y6.1.1.1, (x.1.2.1, ())), ())).bind fun (y20 : ((Vert × (Bool × Unit)) × Unit)) =>
        (F 21 sg21 ((y7.1.1.1, (x.1.2.1, ())), ())).bind fun (y21 : ((EdgeT × (Bool × Unit)) × Unit)) =>
        cond x.1.2.2.1.2.2
         (cond (not x.1.2.2.1.2.2)
          (cond y1.1.1
           (cond (y6.1.2.1 == (0 : Int))
            (cond (y7.1.2.1 == (0 : Int))
             (cond (y16.1.2.1 == (0 : Int))
              (cond (y17.1.2.1 == (0 : Int))
               (cond y18.1.1
                (cond y19.1.1
                 (some ((true, ()), ()))
                 (some ((false, ()), ())))
                (some ((false, ()), ())))
               (some ((false, ()), ())))
              (some ((false, ()), ())))
             (some ((false, ()), ())))
            (some ((false, ()), ())))
           (some ((false, ()), ())))
          (cond (y21.1.1.2.2 == x.1.2.2.1.2.1)
           (cond y1.1.1
            (cond (y6.1.2.1 == (0 : Int))
             (cond (y7.1.2.1 == (0 : Int))
              (cond (y16.1.2.1 == (0 : Int))
               (cond (y17.1.2.1 == (0 : Int))
                (cond y18.1.1
                 (cond y19.1.1
                  (some (((y21.1.1.2.1 == y9.1.1.2.1), ()), ()))
                  (some ((false, ()), ())))
                 (some ((false, ()), ())))
                (some ((false, ()), ())))
               (some ((false, ()), ())))
              (some ((false, ()), ())))
             (some ((false, ()), ())))
            (some ((false, ()), ())))
           (cond y1.1.1
            (cond (y6.1.2.1 == (0 : Int))
             (cond (y7.1.2.1 == (0 : Int))
              (cond (y16.1.2.1 == (0 : Int))
               (cond (y17.1.2.1 == (0 : Int))
                (cond y18.1.1
                 (cond y19.1.1
                  (some ((false, ()), ()))
                  (some ((false, ()), ())))
                 (some ((false, ()), ())))
                (some ((false, ()), ())))
               (some ((false, ()), ())))
              (some ((false, ()), ())))
             (some ((false, ()), ())))
            (some ((false, ()), ())))))
         (cond (y20.1.1.2.2.1 == x.1.2.2.1.1)
          (cond (not x.1.2.2.1.2.2)
           (cond y1.1.1
            (cond (y6.1.2.1 == (0 : Int))
             (cond (y7.1.2.1 == (0 : Int))
              (cond (y16.1.2.1 == (0 : Int))
               (cond (y17.1.2.1 == (0 : Int))
                (cond y18.1.1
                 (cond y19.1.1
                  (cond (y20.1.1.2.2.2 == y8.1.1.2.2.2)
                   (some ((true, ()), ()))
                   (some ((false, ()), ())))
                  (some ((false, ()), ())))
                 (some ((false, ()), ())))
                (some ((false, ()), ())))
               (some ((false, ()), ())))
              (some ((false, ()), ())))
             (some ((false, ()), ())))
            (some ((false, ()), ())))
           (cond (y21.1.1.2.2 == x.1.2.2.1.2.1)
            (cond y1.1.1
             (cond (y6.1.2.1 == (0 : Int))
              (cond (y7.1.2.1 == (0 : Int))
               (cond (y16.1.2.1 == (0 : Int))
                (cond (y17.1.2.1 == (0 : Int))
                 (cond y18.1.1
                  (cond y19.1.1
                   (cond (y20.1.1.2.2.2 == y8.1.1.2.2.2)
                    (some (((y21.1.1.2.1 == y9.1.1.2.1), ()), ()))
                    (some ((false, ()), ())))
                   (some ((false, ()), ())))
                  (some ((false, ()), ())))
                 (some ((false, ()), ())))
                (some ((false, ()), ())))
               (some ((false, ()), ())))
              (some ((false, ()), ())))
             (some ((false, ()), ())))
            (cond y1.1.1
             (cond (y6.1.2.1 == (0 : Int))
              (cond (y7.1.2.1 == (0 : Int))
               (cond (y16.1.2.1 == (0 : Int))
                (cond (y17.1.2.1 == (0 : Int))
                 (cond y18.1.1
                  (cond y19.1.1
                   (cond (y20.1.1.2.2.2 == y8.1.1.2.2.2)
                    (some ((false, ()), ()))
                    (some ((false, ()), ())))
                   (some ((false, ()), ())))
                  (some ((false, ()), ())))
                 (some ((false, ()), ())))
                (some ((false, ()), ())))
               (some ((false, ()), ())))
              (some ((false, ()), ())))
             (some ((false, ()), ())))))
          (cond (not x.1.2.2.1.2.2)
           (cond y1.1.1
            (cond (y6.1.2.1 == (0 : Int))
             (cond (y7.1.2.1 == (0 : Int))
              (cond (y16.1.2.1 == (0 : Int))
               (cond (y17.1.2.1 == (0 : Int))
                (cond y18.1.1
                 (cond y19.1.1
                  (some ((false, ()), ()))
                  (some ((false, ()), ())))
                 (some ((false, ()), ())))
                (some ((false, ()), ())))
               (some ((false, ()), ())))
              (some ((false, ()), ())))
             (some ((false, ()), ())))
            (some ((false, ()), ())))
           (cond (y21.1.1.2.2 == x.1.2.2.1.2.1)
            (cond y1.1.1
             (cond (y6.1.2.1 == (0 : Int))
              (cond (y7.1.2.1 == (0 : Int))
               (cond (y16.1.2.1 == (0 : Int))
                (cond (y17.1.2.1 == (0 : Int))
                 (cond y18.1.1
                  (cond y19.1.1
                   (some ((false, ()), ()))
                   (some ((false, ()), ())))
                  (some ((false, ()), ())))
                 (some ((false, ()), ())))
                (some ((false, ()), ())))
               (some ((false, ()), ())))
              (some ((false, ()), ())))
             (some ((false, ()), ())))
            (cond y1.1.1
             (cond (y6.1.2.1 == (0 : Int))
              (cond (y7.1.2.1 == (0 : Int))
               (cond (y16.1.2.1 == (0 : Int))
                (cond (y17.1.2.1 == (0 : Int))
                 (cond y18.1.1
                  (cond y19.1.1
                   (some ((false, ()), ()))
                   (some ((false, ()), ())))
                  (some ((false, ()), ())))
                 (some ((false, ()), ())))
                (some ((false, ()), ())))
               (some ((false, ()), ())))
              (some ((false, ()), ())))
             (some ((false, ()), ()))))))))
       (cond y9.1.2.1
        (cond (not x.1.2.2.1.2.2)
         (cond y1.1.1
          (cond (y6.1.2.1 == (13 : Int))
           (some (((y7.1.2.1 == (13 : Int)), ()), ()))
           (some ((false, ()), ())))
          (some ((false, ()), ())))
         (cond x.1.2.2.1.2.2
          ((F 14 sg14 (((y6.1.1.1, y6.1.1.2), (((7 : Int), (x.1.2.1, (((0 : Int), (0 : Int)), (((0 : Int), (0 : Int)), ((((0 : Int), (0 : Int)), (((0 : Int), (0 : Int)), (0 : Int))), ((((0 : Int), (0 : Int)), (((0 : Int), (0 : Int)), (0 : Int))), (x.1.2.2.1.2.2, (y9.1.1.2.1, (0 : Int))))))))), ())), ())).bind fun (y22 : ((StateT × (Int × Unit)) × Unit)) =>
          (F 14 sg14 (((y7.1.1.1, y7.1.1.2), (((8 : Int), (x.1.2.1, (((0 : Int), (0 : Int)), (((0 : Int), (0 : Int)), ((((0 : Int), (0 : Int)), (((0 : Int), (0 : Int)), (0 : Int))), ((((0 : Int), (0 : Int)), (((0 : Int), (0 : Int)), (0 : Int))), (x.1.2.2.1.2.2, ((⟨#[]⟩ : ByteArray), y9.1.1.2.2)))))))), ())), ())).bind fun (y23 : ((StateT × (Int × Unit)) × Unit)) =>
          (F 16 sg16 (((y22.1.1.1, y22.1.1.2), ((y2.1.1.1, y2.1.1.2), ())), ())).bind fun (y24 : ((Bool × Unit) × Unit)) =>
          (F 16 sg16 (((y23.1.1.1, y23.1.1.2), ((y2.1.1.1, y2.1.1.2), ())), ())).bind fun (y25 : ((Bool × Unit) × Unit)) =>
          (F 18 sg18 ((y6.1.1.1, (x.1.2.1, ())), ())).bind fun (y26 : ((Vert × (Bool × Unit)) × Unit)) =>
          (F 21 sg21 ((y7.1.1.1, (x.1.2.1, ())), ())).bind fun (y27 : ((EdgeT × (Bool × Unit)) × Unit)) =>
          cond x.1.2.2.1.2.2
           (cond (not x.1.2.2.1.2.2)
            (cond y1.1.1
             (cond (y6.1.2.1 == (0 : Int))
              (cond (y7.1.2.1 == (0 : Int))
               (cond (y22.1.2.1 == (0 : Int))
                (cond (y23.1.2.1 == (0 : Int))
                 (cond y24.1.1
                  (cond y25.1.1
                   (some ((true, ()), ()))
                   (some ((false, ()), ())))
                  (some ((false, ()), ())))
                 (some ((false, ()), ())))
                (some ((false, ()), ())))
               (some ((false, ()), ())))
              (some ((false, ()), ())))
             (some ((false, ()), ())))
            (cond (y27.1.1.2.2 == x.1.2.2.1.2.1)
             (cond y1.1.1
              (cond (y6.1.2.1 == (0 : Int))
               (cond (y7.1.2.1 == (0 : Int))
                (cond (y22.1.2.1 == (0 : Int))
                 (cond (y23.1.2.1 == (0 : Int))
                  (cond y24.1.1
                   (cond y25.1.1
                    (some (((y27.1.1.2.1 == y9.1.1.2.1), ()), ()))
                    (some ((false, ()), ())))
                   (some ((false, ()), ())))
                  (some ((false, ()), ())))
                 (some ((false, ()), ())))
                (some ((false, ()), ())))
               (some ((false, ()), ())))
              (some ((false, ()), ())))
             (cond y1.1.1
              (cond (y6.1.2.1 == (0 : Int))
               (cond (y7.1.2.1 == (0 : Int))
                (cond (y22.1.2.1 == (0 : Int))
                 (cond (y23.1.2.1 == (0 : Int))
                  (cond y24.1.1
                   (cond y25.1.1
                    (some ((false, ()), ()))
                    (some ((false, ()), ())))
                   (some ((false, ()), ())))
                  (some ((false, ()), ())))
                 (some ((false, ()), ())))
                (some ((false, ()), ())))
               (some ((false, ()), ())))
              (some ((false, ()), ())))))
           (cond (y26.1.1.2.2.1 == x.1.2.2.1.1)
            (cond (not x.1.2.2.1.2.2)
             (cond y1.1.1
              (cond (y6.1.2.1 == (0 : Int))
               (cond (y7.1.2.1 == (0 : Int))
                (cond (y22.1.2.1 == (0 : Int))
                 (cond (y23.1.2.1 == (0 : Int))
                  (cond y24.1.1
                   (cond y25.1.1
                    (cond (y26.1.1.2.2.2 == y8.1.1.2.2.2)
                     (some ((true, ()), ()))
                     (some ((false, ()), ())))
                    (some ((false, ()), ())))
                   (some ((false, ()), ())))
                  (some ((false, ()), ())))
                 (some ((false, ()), ())))
                (some ((false, ()), ())))
               (some ((false, ()), ())))
              (some ((false, ()), ())))
             (cond (y27.1.1.2.2 == x.1.2.2.1.2.1)
              (cond y1.1.1
               (cond (y6.1.2.1 == (0 : Int))
                (cond (y7.1.2.1 == (0 : Int))
                 (cond (y22.1.2.1 == (0 : Int))
                  (cond (y23.1.2.1 == (0 : Int))
                   (cond y24.1.1
                    (cond y25.1.1
                     (cond (y26.1.1.2.2.2 == y8.1.1.2.2.2)
                      (some (((y27.1.1.2.1 == y9.1.1.2.1), ()), ()))
                      (some ((false, ()), ())))
                     (some ((false, ()), ())))
                    (some ((false, ()), ())))
                   (some ((false, ()), ())))
                  (some ((false, ()), ())))
                 (some ((false, ()), ())))
                (some ((false, ()), ())))
               (some ((false, ()), ())))
              (cond y1.1.1
               (cond (y6.1.2.1 == (0 : Int))
                (cond (y7.1.2.1 == (0 : Int))
                 (cond (y22.1.2.1 == (0 : Int))
                  (cond (y23.1.2.1 == (0 : Int))
                   (cond y24.1.1
                    (cond y25.1.1
                     (cond (y26.1.1.2.2.2 == y8.1.1.2.2.2)
                      (some ((false, ()), ()))
                      (some ((false, ()), ())))
                     (some ((false, ()), ())))
                    (some ((false, ()), ())))
                   (some ((false, ()), ())))
                  (some ((false, ()), ())))
                 (some ((false, ()), ())))
                (some ((false, ()), ())))
               (some ((false, ()), ())))))
            (cond (not x.1.2.2.1.2.2)
             (cond y1.1.1
              (cond (y6.1.2.1 == (0 : Int))
               (cond (y7.1.2.1 == (0 : Int))
                (cond (y22.1.2.1 == (0 : Int))
                 (cond (y23.1.2.1 == (0 : Int))
                  (cond y24.1.1
                   (cond y25.1.1
                    (some ((false, ()), ()))
                    (some ((false, ()), ())))
                   (some ((false, ()), ())))
                  (some ((false, ()), ())))
                 (some ((false, ()), ())))
                (some ((false, ()), ())))
               (some ((false, ()), ())))
              (some ((false, ()), ())))
             (cond (y27.1.1.2.2 == x.1.2.2.1.2.1)
              (cond y1.1.1
               (cond (y6.1.2.1 == (0 : Int))
                (cond (y7.1.2.1 == (0 : Int))
                 (cond (y22.1.2.1 == (0 : Int))
                  (cond (y23.1.2.1 == (0 : Int))
                   (cond y24.1.1
                    (cond y25.1.1
                     (some ((false, ()), ()))
                     (some ((false, ()), ())))
                    (some ((false, ()), ())))
                   (some ((false, ()), ())))
                  (some ((false, ()), ())))
                 (some ((false, ()), ())))
                (some ((false, ()), ())))
               (some ((false, ()), ())))
              (cond y1.1.1
               (cond (y6.1.2.1 == (0 : Int))
                (cond (y7.1.2.1 == (0 : Int))
                 (cond (y22.1.2.1 == (0 : Int))
                  (cond (y23.1.2.1 == (0 : Int))
                   (cond y24.1.1
                    (cond y25.1.1
                     (some ((false, ()), ()))
                     (some ((false, ()), ())))
                    (some ((false, ()), ())))
                   (some ((false, ()), ())))
                  (some ((false, ()), ())))
                 (some ((false, ()), ())))
                (some ((false, ()), ())))
               (some ((false, ()), ())))))))
          ((F 14 sg14 (((y6.1.1.1, y6.1.1.2), (((7 : Int), (x.1.2.1, (((0 : Int), (0 : Int)), (((0 : Int), (0 : Int)), ((((0 : Int), (0 : Int)), (((0 : Int), (0 : Int)), (0 : Int))), ((((0 : Int), (0 : Int)), (((0 : Int), (0 : Int)), (0 : Int))), (x.1.2.2.1.2.2, (y8.1.1.2.2.1, (0 : Int))))))))), ())), ())).bind fun (y28 : ((StateT × (Int × Unit)) × Unit)) =>
          (F 14 sg14 (((y7.1.1.1, y7.1.1.2), (((8 : Int), (x.1.2.1, (((0 : Int), (0 : Int)), (((0 : Int), (0 : Int)), ((((0 : Int), (0 : Int)), (((0 : Int), (0 : Int)), (0 : Int))), ((((0 : Int), (0 : Int)), (((0 : Int), (0 : Int)), (0 : Int))), (x.1.2.2.1.2.2, ((⟨#[]⟩ : ByteArray), y8.1.1.2.2.2)))))))), ())), ())).bind fun (y29 : ((StateT × (Int × Unit)) × Unit)) =>
          (F 16 sg16 (((y28.1.1.1, y28.1.1.2), ((y2.1.1.1, y2.1.1.2), ())), ())).bind fun (y30 : ((Bool × Unit) × Unit)) =>
          (F 16 sg16 (((y29.1.1.1, y29.1.1.2), ((y2.1.1.1, y2.1.1.2), ())), ())).bind fun (y31 : ((Bool × Unit) × Unit)) =>
          (F 18 sg18 ((y6.1.1.1, (x.1.2.1, ())), ())).bind fun (y32 : ((Vert × (Bool × Unit)) × Unit)) =>
          (F 21 sg21 ((y7.1.1.1, (x.1.2.1, ())), ())).bind fun (y33 : ((EdgeT × (Bool × Unit)) × Unit)) =>
          cond x.1.2.2.1.2.2
           (cond (not x.1.2.2.1.2.2)
            (cond y1.1.1
             (cond (y6.1.2.1 == (0 : Int))
              (cond (y7.1.2.1 == (0 : Int))
               (cond (y28.1.2.1 == (0 : Int))
                (cond (y29.1.2.1 == (0 : Int))
                 (cond y30.1.1
                  (cond y31.1.1
                   (some ((true, ()), ()))
                   (some ((false, ()), ())))
                  (some ((false, ()), ())))
                 (some ((false, ()), ())))
                (some ((false, ()), ())))
               (some ((false, ()), ())))
              (some ((false, ()), ())))
             (some ((false, ()), ())))
            (cond (y33.1.1.2.2 == x.1.2.2.1.2.1)
             (cond y1.1.1
              (cond (y6.1.2.1 == (0 : Int))
               (cond (y7.1.2.1 == (0 : Int))
                (cond (y28.1.2.1 == (0 : Int))
                 (cond (y29.1.2.1 == (0 : Int))
                  (cond y30.1.1
                   (cond y31.1.1
                    (some (((y33.1.1.2.1 == y9.1.1.2.1), ()), ()))
                    (some ((false, ()), ())))
                   (some ((false, ()), ())))
                  (some ((false, ()), ())))
                 (some ((false, ()), ())))
                (some ((false, ()), ())))
               (some ((false, ()), ())))
              (some ((false, ()), ())))
             (cond y1.1.1
              (cond (y6.1.2.1 == (0 : Int))
               (cond (y7.1.2.1 == (0 : Int))
                (cond (y28.1.2.1 == (0 : Int))
                 (cond (y29.1.2.1 == (0 : Int))
                  (cond y30.1.1
                   (cond y31.1.1
                    (some ((false, ()), ()))
                    (some ((false, ()), ())))
                   (some ((false, ()), ())))
                  (some ((false, ()), ())))
                 (some ((false, ()), ())))
                (some ((false, ()), ())))
               (some ((false, ()), ())))
              (some ((false, ()), ())))))
           (cond (y32.1.1.2.2.1 == x.1.2.2.1.1)
            (cond (not x.1.2.2.1.2.2)
             (cond y1.1.1
              (cond (y6.1.2.1 == (0 : Int))
               (cond (y7.1.2.1 == (0 : Int))
                (cond (y28.1.2.1 == (0 : Int))
                 (cond (y29.1.2.1 == (0 : Int))
                  (cond y30.1.1
                   (cond y31.1.1
                    (cond (y32.1.1.2.2.2 == y8.1.1.2.2.2)
                     (some ((true, ()), ()))
                     (some ((false, ()), ())))
                    (some ((false, ()), ())))
                   (some ((false, ()), ())))
                  (some ((false, ()), ())))
                 (some ((false, ()), ())))
                (some ((false, ()), ())))
               (some ((false, ()), ())))
              (some ((false, ()), ())))
             (cond (y33.1.1.2.2 == x.1.2.2.1.2.1)
              (cond y1.1.1
               (cond (y6.1.2.1 == (0 : Int))
                (cond (y7.1.2.1 == (0 : Int))
                 (cond (y28.1.2.1 == (0 : Int))
                  (cond (y29.1.2.1 == (0 : Int))
                   (cond y30.1.1
                    (cond y31.1.1
                     (cond (y32.1.1.2.2.2 == y8.1.1.2.2.2)
                      (some (((y33.1.1.2.1 == y9.1.1.2.1), ()), ()))
                      (some ((false, ()), ())))
                     (some ((false, ()), ())))
                    (some ((false, ()), ())))
                   (some ((false, ()), ())))
                  (some ((false, ()), ())))
                 (some ((false, ()), ())))
                (some ((false, ()), ())))
               (some ((false, ()), ())))
              (cond y1.1.1
               (cond (y6.1.2.1 == (0 : Int))
                (cond (y7.1.2.1 == (0 : Int))
                 (cond (y28.1.2.1 == (0 : Int))
                  (cond (y29.1.2.1 == (0 : Int))
                   (cond y30.1.1
                    (cond y31.1.1
                     (cond (y32.1.1.2.2.2 == y8.1.1.2.2.2)
                      (some ((false, ()), ()))
                      (some ((false, ()), ())))
                     (some ((false, ()), ())))
                    (some ((false, ()), ())))
                   (some ((false, ()), ())))
                  (some ((false, ()), ())))
                 (some ((false, ()), ())))
                (some ((false, ()), ())))
               (some ((false, ()), ())))))
            (cond (not x.1.2.2.1.2.2)
             (cond y1.1.1
              (cond (y6.1.2.1 == (0 : Int))
               (cond (y7.1.2.1 == (0 : Int))
                (cond (y28.1.2.1 == (0 : Int))
                 (cond (y29.1.2.1 == (0 : Int))
                  (cond y30.1.1
                   (cond y31.1.1
                    (some ((false, ()), ()))
                    (some ((false, ()), ())))
                   (some ((false, ()), ())))
                  (some ((false, ()), ())))
                 (some ((false, ()), ())))
                (some ((false, ()), ())))
               (some ((false, ()), ())))
              (some ((false, ()), ())))
             (cond (y33.1.1.2.2 == x.1.2.2.1.2.1)
              (cond y1.1.1
               (cond (y6.1.2.1 == (0 : Int))
                (cond (y7.1.2.1 == (0 : Int))
                 (cond (y28.1.2.1 == (0 : Int))
                  (cond (y29.1.2.1 == (0 : Int))
                   (cond y30.1.1
                    (cond y31.1.1
                     (some ((false, ()), ()))
                     (some ((false, ()), ())))
                    (some ((false, ()), ())))
                   (some ((false, ()), ())))
                  (some ((false, ()), ())))
                 (some ((false, ()), ())))
                (some ((false, ()), ())))
               (some ((false, ()), ())))
              (cond y1.1.1
               (cond (y6.1.2.1 == (0 : Int))
                (cond (y7.1.2.1 == (0 : Int))
                 (cond (y28.1.2.1 == (0 : Int))
                  (cond (y29.1.2.1 == (0 : Int))
                   (cond y30.1.1
                    (cond y31.1.1
                     (some ((false, ()), ()))
                     (some ((false, ()), ())))
                    (some ((false, ()), ())))
                   (some ((false, ()), ())))
                  (some ((false, ()), ())))
                 (some ((false, ()), ())))
                (some ((false, ()), ())))
               (some ((false, ()), ())))))))))
        (cond y1.1.1
         (cond (y6.1.2.1 == (13 : Int))
          (some (((y7.1.2.1 == (13 : Int)), ()), ()))
          (some ((false, ()), ())))
         (some ((false, ()), ())))))
      (cond y9.1.2.1
       (cond (not x.1.2.2.1.2.2)
        (cond y1.1.1
         (cond (y6.1.2.1 == (13 : Int))
          (some (((y7.1.2.1 == (13 : Int)), ()), ()))
          (some ((false, ()), ())))
         (some ((false, ()), ())))
        (cond x.1.2.2.1.2.2
         ((F 14 sg14 (((y6.1.1.1, y6.1.1.2), (((7 : Int), (x.1.2.1, (((0 : Int), (0 : Int)), (((0 : Int), (0 : Int)), ((((0 : Int), (0 : Int)), (((0 : Int), (0 : Int)), (0 : Int))), ((((0 : Int), (0 : Int)), (((0 : Int), (0 : Int)), (0 : Int))), (x.1.2.2.1.2.2, (y9.1.1.2.1, (0 : Int))))))))), ())), ())).bind fun (y34 : ((StateT × (Int × Unit)) × Unit)) =>
         (F 14 sg14 (((y7.1.1.1, y7.1.1.2), (((8 : Int), (x.1.2.1, (((0 : Int), (0 : Int)), (((0 : Int), (0 : Int)), ((((0 : Int), (0 : Int)), (((0 : Int), (0 : Int)), (0 : Int))), ((((0 : Int), (0 : Int)), (((0 : Int), (0 : Int)), (0 : Int))), (x.1.2.2.1.2.2, ((⟨#[]⟩ : ByteArray), y9.1.1.2.2)))))))), ())), ())).bind fun (y35 : ((StateT × (Int × Unit)) × Unit)) =>
         (F 16 sg16 (((y34.1.1.1, y34.1.1.2), ((y2.1.1.1, y2.1.1.2), ())), ())).bind fun (y36 : ((Bool × Unit) × Unit)) =>
         (F 16 sg16 (((y35.1.1.1, y35.1.1.2), ((y2.1.1.1, y2.1.1.2), ())), ())).bind fun (y37 : ((Bool × Unit) × Unit)) =>
         (F 18 sg18 ((y6.1.1.1, (x.1.2.1, ())), ())).bind fun (y38 : ((Vert × (Bool × Unit)) × Unit)) =>
         (F 21 sg21 ((y7.1.1.1, (x.1.2.1, ())), ())).bind fun (y39 : ((EdgeT × (Bool × Unit)) × Unit)) =>
         cond x.1.2.2.1.2.2
          (cond (not x.1.2.2.1.2.2)
           (cond y1.1.1
            (cond (y6.1.2.1 == (0 : Int))
             (cond (y7.1.2.1 == (0 : Int))
              (cond (y34.1.2.1 == (0 : Int))
               (cond (y35.1.2.1 == (0 : Int))
                (cond y36.1.1
                 (cond y37.1.1
                  (some ((true, ()), ()))
                  (some ((false, ()), ())))
                 (some ((false, ()), ())))
                (some ((false, ()), ())))
               (some ((false, ()), ())))
              (some ((false, ()), ())))
             (some ((false, ()), ())))
            (some ((false, ()), ())))
           (cond (y39.1.1.2.2 == x.1.2.2.1.2.1)
            (cond y1.1.1
             (cond (y6.1.2.1 == (0 : Int))
              (cond (y7.1.2.1 == (0 : Int))
               (cond (y34.1.2.1 == (0 : Int))
                (cond (y35.1.2.1 == (0 : Int))
                 (cond y36.1.1
                  (cond y37.1.1
                   (some (((y39.1.1.2.1 == y9.1.1.2.1), ()), ()))
                   (some ((false, ()), ())))
                  (some ((false, ()), ())))
                 (some ((false, ()), ())))
                (some ((false, ()), ())))
               (some ((false, ()), ())))
              (some ((false, ()), ())))
             (some ((false, ()), ())))
            (cond y1.1.1
             (cond (y6.1.2.1 == (0 : Int))
              (cond (y7.1.2.1 == (0 : Int))
               (cond (y34.1.2.1 == (0 : Int))
                (cond (y35.1.2.1 == (0 : Int))
                 (cond y36.1.1
                  (cond y37.1.1
                   (some ((false, ()), ()))
                   (some ((false, ()), ())))
                  (some ((false, ()), ())))
                 (some ((false, ()), ())))
                (some ((false, ()), ())))
               (some ((false, ()), ())))
              (some ((false, ()), ())))
             (some ((false, ()), ())))))
          (cond (y38.1.1.2.2.1 == x.1.2.2.1.1)
           (cond (not x.1.2.2.1.2.2)
            (cond y1.1.1
             (cond (y6.1.2.1 == (0 : Int))
              (cond (y7.1.2.1 == (0 : Int))
               (cond (y34.1.2.1 == (0 : Int))
                (cond (y35.1.2.1 == (0 : Int))
                 (cond y36.1.1
                  (cond y37.1.1
                   (cond (y38.1.1.2.2.2 == y8.1.1.2.2.2)
                    (some ((true, ()), ()))
                    (some ((false, ()), ())))
                   (some ((false, ()), ())))
                  (some ((false, ()), ())))
                 (some ((false, ()), ())))
                (some ((false, ()), ())))
               (some ((false, ()), ())))
              (some ((false, ()), ())))
             (some ((false, ()), ())))
            (cond (y39.1.1.2.2 == x.1.2.2.1.2.1)
             (cond y1.1.1
              (cond (y6.1.2.1 == (0 : Int))
               (cond (y7.1.2.1 == (0 : Int))
                (cond (y34.1.2.1 == (0 : Int))
                 (cond (y35.1.2.1 == (0 : Int))
                  (cond y36.1.1
                   (cond y37.1.1
                    (cond (y38.1.1.2.2.2 == y8.1.1.2.2.2)
                     (some (((y39.1.1.2.1 == y9.1.1.2.1), ()), ()))
                     (some ((false, ()), ())))
                    (some ((false, ()), ())))
                   (some ((false, ()), ())))
                  (some ((false, ()), ())))
                 (some ((false, ()), ())))
                (some ((false, ()), ())))
               (some ((false, ()), ())))
              (some ((false, ()), ())))
             (cond y1.1.1
              (cond (y6.1.2.1 == (0 : Int))
               (cond (y7.1.2.1 == (0 : Int))
                (cond (y34.1.2.1 == (0 : Int))
                 (cond (y35.1.2.1 == (0 : Int))
                  (cond y36.1.1
                   (cond y37.1.1
                    (cond (y38.1.1.2.2.2 == y8.1.1.2.2.2)
                     (some ((false, ()), ()))
                     (some ((false, ()), ())))
                    (some ((false, ()), ())))
                   (some ((false, ()), ())))
                  (some ((false, ()), ())))
                 (some ((false, ()), ())))
                (some ((false, ()), ())))
               (some ((false, ()), ())))
              (some ((false, ()), ())))))
           (cond (not x.1.2.2.1.2.2)
            (cond y1.1.1
             (cond (y6.1.2.1 == (0 : Int))
              (cond (y7.1.2.1 == (0 : Int))
               (cond (y34.1.2.1 == (0 : Int))
                (cond (y35.1.2.1 == (0 : Int))
                 (cond y36.1.1
                  (cond y37.1.1
                   (some ((false, ()), ()))
                   (some ((false, ()), ())))
                  (some ((false, ()), ())))
                 (some ((false, ()), ())))
                (some ((false, ()), ())))
               (some ((false, ()), ())))
              (some ((false, ()), ())))
             (some ((false, ()), ())))
            (cond (y39.1.1.2.2 == x.1.2.2.1.2.1)
             (cond y1.1.1
              (cond (y6.1.2.1 == (0 : Int))
               (cond (y7.1.2.1 == (0 : Int))
                (cond (y34.1.2.1 == (0 : Int))
                 (cond (y35.1.2.1 == (0 : Int))
                  (cond y36.1.1
                   (cond y37.1.1
                    (some ((false, ()), ()))
                    (some ((false, ()), ())))
                   (some ((false, ()), ())))
                  (some ((false, ()), ())))
                 (some ((false, ()), ())))
                (some ((false, ()), ())))
               (some ((false, ()), ())))
              (some ((false, ()), ())))
             (cond y1.1.1
              (cond (y6.1.2.1 == (0 : Int))
               (cond (y7.1.2.1 == (0 : Int))
                (cond (y34.1.2.1 == (0 : Int))
                 (cond (y35.1.2.1 == (0 : Int))
                  (cond y36.1.1
                   (cond y37.1.1
                    (some ((false, ()), ()))
                    (some ((false, ()), ())))
                   (some ((false, ()), ())))
                  (some ((false, ()), ())))
                 (some ((false, ()), ())))
                (some ((false, ()), ())))
               (some ((false, ()), ())))
              (some ((false, ()), ())))))))
         ((F 14 sg14 (((y6.1.1.1, y6.1.1.2), (((7 : Int), (x.1.2.1, (((0 : Int), (0 : Int)), (((0 : Int), (0 : Int)), ((((0 : Int), (0 : Int)), (((0 : Int), (0 : Int)), (0 : Int))), ((((0 : Int), (0 : Int)), (((0 : Int), (0 : Int)), (0 : Int))), (x.1.2.2.1.2.2, (y8.1.1.2.2.1, (0 : Int))))))))), ())), ())).bind fun (y40 : ((StateT × (Int × Unit)) × Unit)) =>
         (F 14 sg14 (((y7.1.1.1, y7.1.1.2), (((8 : Int), (x.1.2.1, (((0 : Int), (0 : Int)), (((0 : Int), (0 : Int)), ((((0 : Int), (0 : Int)), (((0 : Int), (0 : Int)), (0 : Int))), ((((0 : Int), (0 : Int)), (((0 : Int), (0 : Int)), (0 : Int))), (x.1.2.2.1.2.2, ((⟨#[]⟩ : ByteArray), y8.1.1.2.2.2)))))))), ())), ())).bind fun (y41 : ((StateT × (Int × Unit)) × Unit)) =>
         (F 16 sg16 (((y40.1.1.1, y40.1.1.2), ((y2.1.1.1, y2.1.1.2), ())), ())).bind fun (y42 : ((Bool × Unit) × Unit)) =>
         (F 16 sg16 (((y41.1.1.1, y41.1.1.2), ((y2.1.1.1, y2.1.1.2), ())), ())).bind fun (y43 : ((Bool × Unit) × Unit)) =>
         (F 18 sg18 ((y6.1.1.1, (x.1.2.1, ())), ())).bind fun (y44 : ((Vert × (Bool × Unit)) × Unit)) =>
         (F 21 sg21 ((y7.1.1.1, (x.1.2.1, ())), ())).bind fun (y45 : ((EdgeT × (Bool × Unit)) × Unit)) =>
         cond x.1.2.2.1.2.2
          (cond (not x.1.2.2.1.2.2)
           (cond y1.1.1
            (cond (y6.1.2.1 == (0 : Int))
             (cond (y7.1.2.1 == (0 : Int))
              (cond (y40.1.2.1 == (0 : Int))
               (cond (y41.1.2.1 == (0 : Int))
                (cond y42.1.1
                 (cond y43.1.1
                  (some ((true, ()), ()))
                  (some ((false, ()), ())))
                 (some ((false, ()), ())))
                (some ((false, ()), ())))
               (some ((false, ()), ())))
              (some ((false, ()), ())))
             (some ((false, ()), ())))
            (some ((false, ()), ())))
           (cond (y45.1.1.2.2 == x.1.2.2.1.2.1)
            (cond y1.1.1
             (cond (y6.1.2.1 == (0 : Int))
              (cond (y7.1.2.1 == (0 : Int))
               (cond (y40.1.2.1 == (0 : Int))
                (cond (y41.1.2.1 == (0 : Int))
                 (cond y42.1.1
                  (cond y43.1.1
                   (some (((y45.1.1.2.1 == y9.1.1.2.1), ()), ()))
                   (some ((false, ()), ())))
                  (some ((false, ()), ())))
                 (some ((false, ()), ())))
                (some ((false, ()), ())))
               (some ((false, ()), ())))
              (some ((false, ()), ())))
             (some ((false, ()), ())))
            (cond y1.1.1
             (cond (y6.1.2.1 == (0 : Int))
              (cond (y7.1.2.1 == (0 : Int))
               (cond (y40.1.2.1 == (0 : Int))
                (cond (y41.1.2.1 == (0 : Int))
                 (cond y42.1.1
                  (cond y43.1.1
                   (some ((false, ()), ()))
                   (some ((false, ()), ())))
                  (some ((false, ()), ())))
                 (some ((false, ()), ())))
                (some ((false, ()), ())))
               (some ((false, ()), ())))
              (some ((false, ()), ())))
             (some ((false, ()), ())))))
          (cond (y44.1.1.2.2.1 == x.1.2.2.1.1)
           (cond (not x.1.2.2.1.2.2)
            (cond y1.1.1
             (cond (y6.1.2.1 == (0 : Int))
              (cond (y7.1.2.1 == (0 : Int))
               (cond (y40.1.2.1 == (0 : Int))
                (cond (y41.1.2.1 == (0 : Int))
                 (cond y42.1.1
                  (cond y43.1.1
                   (cond (y44.1.1.2.2.2 == y8.1.1.2.2.2)
                    (some ((true, ()), ()))
                    (some ((false, ()), ())))
                   (some ((false, ()), ())))
                  (some ((false, ()), ())))
                 (some ((false, ()), ())))
                (some ((false, ()), ())))
               (some ((false, ()), ())))
              (some ((false, ()), ())))
             (some ((false, ()), ())))
            (cond (y45.1.1.2.2 == x.1.2.2.1.2.1)
             (cond y1.1.1
              (cond (y6.1.2.1 == (0 : Int))
               (cond (y7.1.2.1 == (0 : Int))
                (cond (y40.1.2.1 == (0 : Int))
                 (cond (y41.1.2.1 == (0 : Int))
                  (cond y42.1.1
                   (cond y43.1.1
                    (cond (y44.1.1.2.2.2 == y8.1.1.2.2.2)
                     (some (((y45.1.1.2.1 == y9.1.1.2.1), ()), ()))
                     (some ((false, ()), ())))
                    (some ((false, ()), ())))
                   (some ((false, ()), ())))
                  (some ((false, ()), ())))
                 (some ((false, ()), ())))
                (some ((false, ()), ())))
               (some ((false, ()), ())))
              (some ((false, ()), ())))
             (cond y1.1.1
              (cond (y6.1.2.1 == (0 : Int))
               (cond (y7.1.2.1 == (0 : Int))
                (cond (y40.1.2.1 == (0 : Int))
                 (cond (y41.1.2.1 == (0 : Int))
                  (cond y42.1.1
                   (cond y43.1.1
                    (cond (y44.1.1.2.2.2 == y8.1.1.2.2.2)
                     (some ((false, ()), ()))
                     (some ((false, ()), ())))
                    (some ((false, ()), ())))
                   (some ((false, ()), ())))
                  (some ((false, ()), ())))
                 (some ((false, ()), ())))
                (some ((false, ()), ())))
               (some ((false, ()), ())))
              (some ((false, ()), ())))))
           (cond (not x.1.2.2.1.2.2)
            (cond y1.1.1
             (cond (y6.1.2.1 == (0 : Int))
              (cond (y7.1.2.1 == (0 : Int))
               (cond (y40.1.2.1 == (0 : Int))
                (cond (y41.1.2.1 == (0 : Int))
                 (cond y42.1.1
                  (cond y43.1.1
                   (some ((false, ()), ()))
                   (some ((false, ()), ())))
                  (some ((false, ()), ())))
                 (some ((false, ()), ())))
                (some ((false, ()), ())))
               (some ((false, ()), ())))
              (some ((false, ()), ())))
             (some ((false, ()), ())))
            (cond (y45.1.1.2.2 == x.1.2.2.1.2.1)
             (cond y1.1.1
              (cond (y6.1.2.1 == (0 : Int))
               (cond (y7.1.2.1 == (0 : Int))
                (cond (y40.1.2.1 == (0 : Int))
                 (cond (y41.1.2.1 == (0 : Int))
                  (cond y42.1.1
                   (cond y43.1.1
                    (some ((false, ()), ()))
                    (some ((false, ()), ())))
                   (some ((false, ()), ())))
                  (some ((false, ()), ())))
                 (some ((false, ()), ())))
                (some ((false, ()), ())))
               (some ((false, ()), ())))
              (some ((false, ()), ())))
             (cond y1.1.1
              (cond (y6.1.2.1 == (0 : Int))
               (cond (y7.1.2.1 == (0 : Int))
                (cond (y40.1.2.1 == (0 : Int))
                 (cond (y41.1.2.1 == (0 : Int))
                  (cond y42.1.1
                   (cond y43.1.1
                    (some ((false, ()), ()))
                    (some ((false, ()), ())))
                   (some ((false, ()), ())))
                  (some ((false, ()), ())))
                 (some ((false, ()), ())))
                (some ((false, ()), ())))
               (some ((false, ()), ())))
              (some ((false, ()), ())))))))))
       (cond y1.1.1
        (cond (y6.1.2.1 == (13 : Int))
         (some (((y7.1.2.1 == (13 : Int)), ()), ()))
         (some ((false, ()), ())))
        (some ((false, ()), ()))))))) := by kernel_rfl
theorem nf12 (F : FT) (J : JT sg12) (x : (Unit × Unit)) : nfE 12 sg12 Tryz.f12 F J x =
  (F 33 sg33 ((), ())).bind fun (y1 : ((StateT × Unit) × Unit)) =>
  (F 42 sg42 (((1 : Int), ()), ())).bind fun (y2 : (((List OpT) × Unit) × Unit)) =>
  (F 30 sg30 (((y1.1.1.1, y1.1.1.2), y2.1), ())).bind fun (y3 : ((StateT × (Int × Unit)) × Unit)) =>
  (F 14 sg14 (((y3.1.1.1, y3.1.1.2), (((2 : Int), (((1 : Int), (1 : Int)), (((0 : Int), (0 : Int)), (((0 : Int), (0 : Int)), ((((0 : Int), (0 : Int)), (((0 : Int), (0 : Int)), (0 : Int))), ((((0 : Int), (0 : Int)), (((0 : Int), (0 : Int)), (0 : Int))), (false, ((⟨#[]⟩ : ByteArray), (0 : Int))))))))), ())), ())).bind fun (y4 : ((StateT × (Int × Unit)) × Unit)) =>
  cond ((((List.length y3.1.1.1.1) : Nat) : Int) == (1 : Int))
   (cond (y3.1.2.1 == (0 : Int))
    (cond ((((List.length y4.1.1.1.1) : Nat) : Int) == (0 : Int))
     (some (((y4.1.2.1 == (0 : Int)), ()), ()))
     (some ((false, ()), ())))
    (some ((false, ()), ())))
   (some ((false, ()), ())) := by kernel_rfl
theorem nf14 (F : FT) (J : JT sg14) (x : ((StateT × (OpT × Unit)) × Unit)) : nfE 14 sg14 Tryz.f14 F J x =
  (F 43 sg43 (((x.1.2.1.1, (x.1.2.1.2.1, (x.1.2.1.2.2.1, (x.1.2.1.2.2.2.1, ((x.1.2.1.2.2.2.2.1.1, (x.1.2.1.2.2.2.2.1.2.1, x.1.2.1.2.2.2.2.1.2.2)), ((x.1.2.1.2.2.2.2.2.1.1, (x.1.2.1.2.2.2.2.2.1.2.1, x.1.2.1.2.2.2.2.2.1.2.2)), (x.1.2.1.2.2.2.2.2.2.1, x.1.2.1.2.2.2.2.2.2.2))))))), ()), ())).bind fun (y1 : ((Int × Unit) × Unit)) =>
  cond (y1.1.1 != (0 : Int))
   (some ((((([] : List Vert), ([] : List EdgeT)), ([] : List GoneT)), y1.1), ()))
   ((F 44 sg44 (((x.1.1.1, x.1.1.2), (((x.1.2.1.1, (x.1.2.1.2.1, (x.1.2.1.2.2.1, (x.1.2.1.2.2.2.1, ((x.1.2.1.2.2.2.2.1.1, (x.1.2.1.2.2.2.2.1.2.1, x.1.2.1.2.2.2.2.1.2.2)), ((x.1.2.1.2.2.2.2.2.1.1, (x.1.2.1.2.2.2.2.2.1.2.1, x.1.2.1.2.2.2.2.2.1.2.2)), (x.1.2.1.2.2.2.2.2.2.1, x.1.2.1.2.2.2.2.2.2.2))))))) :: ([] : List OpT)), ())), ())).bind fun (y2 : ((StateT × (Int × Unit)) × Unit)) =>
   some (((y2.1.1.1, y2.1.1.2), y2.1.2), ())) := by kernel_rfl
end Go.Vs
