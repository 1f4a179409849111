/- What the document says of a -/
import Derived.Test.YtpkfpbpbkabkdaaGreatFormed
set_option linter.unusedVariables false
set_option linter.unusedSimpArgs false
namespace Go.Vs
open Go.Proofs
variable {G:(f:FuncId)→(g:aL)→Option (g.A→Option g.B)}
structure ad2(d:aj):Prop where
 t:∀v∈d.1,cI v.2.1=v.2.1
 e:∀v∈d.1,∀x∈v.2.1,(aV d.2 x.1).isSome=true∧0≤x.2∧x.2≤1
 c:∀e∈d.2,∀s:Int,s=0∨s=1→(ar d.1).count (e.1,s)=1
structure ajU(d:aj):Prop where
 v:∀v∈d.1,yw v.2.2.1=true∧rZ v.2.2.2=true
 e:∀e∈d.2,yw e.2.1=true∧rZ e.2.2=true
end Go.Vs
