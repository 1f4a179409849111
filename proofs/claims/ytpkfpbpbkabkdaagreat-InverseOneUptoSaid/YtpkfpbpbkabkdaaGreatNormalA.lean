/- Normal forms of the program's -/
import Derived.Test.YtpkfpbpbkabkdaaGreatEngineD
set_option linter.unusedVariables false
set_option maxRecDepth 1000000
set_option maxHeartbeats 0
namespace Go.Vs
open Go.Proofs
end Go.Vs
set_option maxRecDepth 1000000
set_option maxHeartbeats 0
namespace Go.Vs
open Go.Proofs
theorem aaZ{F:FT}{J:JT HZ}{x:Rg}:bR 73 HZ Tryz.f73 F J x =(F 104 KO ((x.1.2.1,()),())).bind fun(y1:Q2) =>cond (y1.1.1 != 0) (some ((OS,y1.1),())) ((F 103 DJ ((x.1.1,((x.1.2.1::([]:List aR)),())),())).bind fun(y2:Q1) =>some (y2.1,())):=by kernel_rfl
end Go.Vs
