/- What the document says of a -/
import Derived.Test.YtpkfpbpbkabkdaaGreatFormed
set_option linter.unusedVariables false
set_option linter.unusedSimpArgs false
namespace Go.Vs
open Go.Proofs
variable {G:(f:FuncId)→(g:aO)→Option (g.A→Option g.B)}
theorem VC{i n:Nat}(h0:0<i)(h:i<n)(hn:n≤1073741824):IntKind.wrap .i64 ((i:Int)-1)=((i-1:Nat):Int):=by rw[wrap_small (by omega) (by omega)];omega
structure aep(d:ak):Prop where
 t:∀v∈d.1,cq v.2.1=v.2.1
 e:∀v∈d.1,∀x∈v.2.1,(aV d.2 x.1).isSome=true∧0≤x.2∧x.2≤1
 c:∀e∈d.2,∀s:Int,s=0∨s=1→(aj d.1).count (e.1,s)=1
structure ajh(d:ak):Prop where
 v:∀v∈d.1,lB v.2.2.1=true∧mG v.2.2.2=true
 e:∀e∈d.2,lB e.2.1=true∧mG e.2.2=true
theorem SO{d:ak}(h:Wf d):((d.1.map (·.1)).Pairwise fun a b=>gI a b=true)∧(∀x∈d.1.map (·.1),dL x=true)∧((d.2.map (·.1)).Pairwise fun a b=>gI a b=true)∧∀x∈d.2.map (·.1),dL x=true:=by
 refine⟨List.pairwise_map.2 h.sv,fun x hx=>?_,List.pairwise_map.2 h.se,fun x hx=>?_⟩
 ·obtain⟨v,hv,rfl⟩:=acx.1 hx;exact(h.gv v hv).i
 ·obtain⟨v,hv,rfl⟩:=acx.1 hx;exact(h.ge v hv).i
end Go.Vs
