/- Normal forms of the program's -/
import Derived.Test.YtpkfpbpbkabkdaaGreatEngineD
set_option linter.unusedVariables false
set_option maxRecDepth 1000000
set_option maxHeartbeats 0
namespace Go.Vs
open Go.Proofs
end Go.Vs
set_option maxRecDepth 1000000
set_option maxHeartbeats 0
namespace Go.Vs
open Go.Proofs
theorem aa4{F:FT}{J:JT H6}{x:Rk}:bS 73 H6 Tryz.f73 F J x =(F 104 KR ((x.1.2.1,()),())).bind fun(y1:Q2) =>cond (y1.1.1 != 0) (some ((OS,y1.1),())) ((F 103 DQ ((x.1.1,((x.1.2.1::([]:List aR)),())),())).bind fun(y2:Q1) =>some (y2.1,())):=by kernel_rfl
end Go.Vs
