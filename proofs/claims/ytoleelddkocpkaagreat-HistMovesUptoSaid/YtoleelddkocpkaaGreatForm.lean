/- What the document says of a -/
import Derived.Test.YtoleelddkocpkaaGreatFormed
set_option linter.unusedVariables false
set_option linter.unusedSimpArgs false
namespace Go.Vs
open Go.Proofs
variable {G:(f:FuncId)→(g:aN)→Option (g.A→Option g.B)}
theorem Zj{i n:Nat}(h0:0<i)(h:i<n)(hn:n≤1073741824):IntKind.wrap .i64 ((i:Int)-1)=((i-1:Nat):Int):=by
 grind [wrap_small]
structure aiY(d:ak):Prop where
 t:∀v∈d.1,cp v.2.1=v.2.1
 e:∀v∈d.1,∀x∈v.2.1,(aZ d.2 x.1).isSome=true∧0≤x.2∧x.2≤1
 c:∀e∈d.2,∀s:Int,s=0∨s=1→(an d.1).count (e.1,s)=1
theorem ahl{α:Type}(a b:List α):cut (a++b) 0 ((a.length:Nat):Int)=a:=by
 grind [cut,Int.toNat_natCast,List.take_left]
theorem ahm{α:Type}(a b:List α):cut (a++b) ((a.length:Nat):Int) (((a++b).length:Nat):Int)=b:=by
 grind [cut,Int.toNat_natCast,List.take_length,List.drop_left]
structure apa(d:ak):Prop where
 v:∀v∈d.1,kI v.2.2.1=true∧jX v.2.2.2=true
 e:∀e∈d.2,kI e.2.1=true∧jX e.2.2=true
theorem WI{d:ak}(h:Wf d):((d.1.map (·.1)).Pairwise fun a b=>gL a b=true)∧(∀x∈d.1.map (·.1),ck x=true)∧((d.2.map (·.1)).Pairwise fun a b=>gL a b=true)∧∀x∈d.2.map (·.1),ck x=true:=by
 refine⟨List.pairwise_map.2 h.sv,fun x hx=>?_,List.pairwise_map.2 h.se,fun x hx=>?_⟩
 ·obtain⟨v,hv,rfl⟩:=ace.1 hx;exact(h.gv v hv).i
 ·obtain⟨v,hv,rfl⟩:=ace.1 hx;exact(h.ge v hv).i
end Go.Vs
