/- What the document says of a -/
import Derived.Test.YtoleelddkocpkaaGreatFormed
set_option linter.unusedVariables false
set_option linter.unusedSimpArgs false
namespace Go.Vs
open Go.Proofs
variable {G:(f:FuncId)→(g:aO)→Option (g.A→Option g.B)}
theorem ZH{i n:Nat}(h0:0<i)(h:i<n)(hn:n≤1073741824):IntKind.wrap .i64 ((i:Int)-1)=((i-1:Nat):Int):=by
 grind [wrap_small]
structure ai7(d:ak):Prop where
 t:∀v∈d.1,cp v.2.1=v.2.1
 e:∀v∈d.1,∀x∈v.2.1,(ba d.2 x.1).isSome=true∧0≤x.2∧x.2≤1
 c:∀e∈d.2,∀s:Int,s=0∨s=1→(an d.1).count (e.1,s)=1
theorem aba{α:Type}(a b:List α):cut (a++b) 0 ((a.length:Nat):Int)=a:=by
 grind [cut,Int.toNat_natCast,List.take_left]
theorem abb{α:Type}(a b:List α):cut (a++b) ((a.length:Nat):Int) (((a++b).length:Nat):Int)=b:=by
 grind [cut,Int.toNat_natCast,List.take_length,List.drop_left]
structure apb(d:ak):Prop where
 v:∀v∈d.1,kL v.2.2.1=true∧jM v.2.2.2=true
 e:∀e∈d.2,kL e.2.1=true∧jM e.2.2=true
theorem Xa{d:ak}(h:Wf d):((d.1.map (·.1)).Pairwise fun a b=>gN a b=true)∧(∀x∈d.1.map (·.1),cd x=true)∧((d.2.map (·.1)).Pairwise fun a b=>gN a b=true)∧∀x∈d.2.map (·.1),cd x=true:=by
 refine⟨List.pairwise_map.2 h.sv,fun x hx=>?_,List.pairwise_map.2 h.se,fun x hx=>?_⟩
 ·obtain⟨v,hv,rfl⟩:=acn.1 hx;exact(h.gv v hv).i
 ·obtain⟨v,hv,rfl⟩:=acn.1 hx;exact(h.ge v hv).i
end Go.Vs
