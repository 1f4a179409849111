/- Normal forms of the program's -/
import Derived.Test.YtpkfpbpbkabkdaaGreatEngineD
set_option linter.unusedVariables false
set_option maxRecDepth 1000000
set_option maxHeartbeats 0
namespace Go.Vs
open Go.Proofs
end Go.Vs
set_option maxRecDepth 1000000
set_option maxHeartbeats 0
namespace Go.Vs
open Go.Proofs
theorem aek{F:FT}{J:JT KT}{x:Q15}:cp 73 KT Tryz.f73 F J x =(F 104 ND ((x.1.2.1,()),())).bind fun(y1:Q2) =>cond (y1.1.1 != 0) (some ((OS,y1.1),())) ((F 103 Gn ((x.1.1,((x.1.2.1::([]:List aW)),())),())).bind fun(y2:Q1) =>some (y2.1,())):=by kernel_rfl
end Go.Vs
