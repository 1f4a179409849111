/- Normal forms of the program's -/
import Derived.Test.YtpkfpbpbkabkdaaGreatEngineD
set_option linter.unusedVariables false
set_option maxRecDepth 1000000
set_option maxHeartbeats 0
namespace Go.Vs
open Go.Proofs
end Go.Vs
set_option maxRecDepth 1000000
set_option maxHeartbeats 0
namespace Go.Vs
open Go.Proofs
theorem aeN{F:FT}{J:JT K2}{x:U6}:cf 73 K2 Tryz.f73 F J x =(F 104 N1 ((x.1.2.1,()),())).bind fun(y1:Q2) =>cond (y1.1.1 != 0) (some ((OS,y1.1),())) ((F 103 GD ((x.1.1,((x.1.2.1::([]:List aE)),())),())).bind fun(y2:Q1) =>some (y2.1,())):=by kernel_rfl
end Go.Vs
