/- What the document says of a diagram that may be: it is well formed. -/
import Derived.Test.YtpkfpbpbkabkdaaGreatFormed
set_option linter.unusedVariables false
set_option linter.unusedSimpArgs false
namespace Go.Vs
open Go.Proofs
variable {G:(f:FuncId)→(g:aJ)→Option (g.A→Option g.B)}
end Go.Vs
namespace Go.Vs
open Go.Proofs
variable {G:(f:FuncId)→(g:aJ)→Option (g.A→Option g.B)}
structure ac3(d:aj):Prop where
 t:∀v∈d.1,cI v.2.1=v.2.1
 e:∀v∈d.1,∀x∈v.2.1,(aU d.2 x.1).isSome=true∧0≤x.2∧x.2≤1
 c:∀e∈d.2,∀s:Int,s=0∨s=1→(aq d.1).count (e.1,s)=1
end Go.Vs
namespace Go.Vs
open Go.Proofs
variable {G:(f:FuncId)→(g:aJ)→Option (g.A→Option g.B)}
structure aiT(d:aj):Prop where
 v:∀v∈d.1,yd v.2.2.1=true∧rW v.2.2.2=true
 e:∀e∈d.2,yd e.2.1=true∧rW e.2.2=true
end Go.Vs
