/- EditOne answers true, of data. -/
import Derived.Test.YtpldhjjpeldkaaaGreatPartsB
import Derived.Test.YtpldhjjpeldkaaaGreatFormed
import Derived.Test.YtpldhjjpeldkaaaGreatTop
import Derived.Test.YtpldhjjpeldkaaaGreatForm
set_option linter.unusedVariables false
set_option linter.unusedSimpArgs false
namespace Go.Vs
open Go.Proofs
variable {G:(f:FuncId)→(g:aL)→Option (g.A→Option g.B)}
theorem JG{n:Int}(h:Kl (.int .i64) n):PL n:=by
 have h1:IntKind.min .i64 = -9223372036854775808:=by decide
 have h2:IntKind.max .i64=9223372036854775807:=by decide
 have h:IntKind.min .i64≤n∧n≤IntKind.max .i64:=h
 rw [h1,h2] at h
 unfold PL;omega
theorem V8{o:bY}(h:Kl qa o)(ht:EC o):Fit o:=by
 obtain ⟨_,_,_,_,⟨_,_,h1⟩,⟨_,_,h2⟩,_,_,h3⟩:=h
 exact ⟨JG h1,JG h2,JG h3,ht⟩
end Go.Vs
namespace Go.Vs
open Go.Proofs
variable {G:(f:FuncId)→(g:aL)→Option (g.A→Option g.B)}
theorem QQ(hG:HG G)(T5:∀o,EM G o)(s:StateT)(o:bY)(h:iF s)(hf:Fit o):FX G 14 Ea ((s,o,()),())=some (rF s o,()) :=
 P5 hG s o h hf fun hm h3=>T5 o s h hm h3
end Go.Vs
namespace Go.Vs
open Go.Proofs
variable {G:(f:FuncId)→(g:aL)→Option (g.A→Option g.B)}
theorem Wf.bd{d:aj}(h:Wf d):Bd 100 d:=⟨by have:=h.nv;omega,by have:=h.ne;omega,fun v hv=>by have:=h.tl v hv;omega⟩
theorem aaK(hG:HG G)(T5:∀o,EM G o)(s:StateT)(o:bY)(hs:Sm s.1)(hg:s.2.length≤50000000)(tv:∀v∈s.1.1,v.2.2.1.size≤100000000)(te:∀e∈s.1.2,e.2.1.size≤100000000)(hf:Fit o):FX G 3 Wm ((s,o,()),())=some ((true,()),()):=by
 refine aw (fn:=Tryz.f3) (hG _ _ rfl) (by kernel_rfl) (by kernel_rfl) ((nf3 _ _ _).trans ?_)
 refine aa (aes hG) ?_
 obtain ⟨b,k1,k2⟩:=af7 hG s hs hg tv te
 refine aa k1 ?_
 cases b with
 | false=>rfl
 | true =>
  obtain ⟨hw,_⟩:=k2 rfl
  have hn:=hw.n
  refine ag rfl ?_
  refine aa (QQ hG T5 s o hw hf) ?_
  refine aa (aeo hG s o hw.d.bd (by omega) (by omega) hf.t) ?_
  have hwo:=hw.one o
  have pq:=hwo.n
  refine aa (ad7 hG (rF s o).1 (rF s o).1 hwo.d.sm (by omega)) ?_
  refine af rfl (af (by simp) ?_)
  exact congrArg (fun b:Bool=>some ((b,()),())) (by simp)
theorem Dz(v:ai):v.2.1.length+v.2.2.1.size+1≤cj dr v:=by
 have h:cj dr v=(1+1)+(((v.2.1.map (cj bp)).sum+1)+((v.2.2.1.size+1)+1)):=rfl
 have h2:=uI (fun x:ae=>cj bp x) (fun x=>by show 1≤(1+1)+1;omega) v.2.1
 have h3:(v.2.1.map fun x:ae=>cj bp x).sum=(v.2.1.map (cj bp)).sum:=rfl
 rw [h];omega
theorem DA(e:ah):e.2.1.size+1≤cj dV e:=by
 have h:cj dV e=(1+1)+((e.2.1.size+1)+1):=rfl
 rw [h];omega
theorem HI{s:StateT}{m:Nat}(hb:cj jf s≤m):s.1.1.length≤m∧s.1.2.length≤m∧s.2.length≤m∧(∀v∈s.1.1,v.2.1.length≤m∧v.2.2.1.size≤m)∧∀e∈s.1.2,e.2.1.size≤m:=by
 have h:cj jf s=(((s.1.1.map (cj dr)).sum+1)+((s.1.2.map (cj dV)).sum+1))+((s.2.map (cj cZ)).sum+1):=rfl
 rw [h] at hb
 have l1:=uI (fun v:ai=>cj dr v) (fun v=>by have:=Dz v;omega) s.1.1
 have l2:=uI (fun e:ah=>cj dV e) (fun e=>by have:=DA e;omega) s.1.2
 have l3:=uI (fun g:an=>cj cZ g) (fun g=>by show 1≤((1+1)+1)+((1+1)+1);omega) s.2
 have e1:(s.1.1.map fun v:ai=>cj dr v).sum=(s.1.1.map (cj dr)).sum:=rfl
 have e2:(s.1.2.map fun v:ah=>cj dV v).sum=(s.1.2.map (cj dV)).sum:=rfl
 have e3:(s.2.map fun v:an=>cj cZ v).sum=(s.2.map (cj cZ)).sum:=rfl
 refine ⟨by omega,by omega,by omega,fun v hv => ?_,fun e he => ?_⟩
 ·have:=Ev (fun v:ai=>cj dr v) hv
  have:=Dz v
  omega
 ·have:=Ev (fun v:ah=>cj dV v) he
  have:=DA e
  omega
theorem af8(s:StateT)(o:bY)(_:Kl jf s)(hw:Kl qa o)(hb:cj jf s+cj qa o≤1048576):FX GP 3 Wm ((s,o,()),())=some ((true,()),()):=by
 obtain ⟨h1,h2,h3,h4,h5⟩:=HI (s:=s) (m:=1048576) (by omega)
 have ht:=LU o
 exact aaK hgP aaE s o ⟨by omega,by omega,fun v hv=>by have:=(h4 v hv).1;omega⟩ (by omega) (fun v hv=>by have:=(h4 v hv).2;omega) (fun e he=>by have:=h5 e he;omega) (V8 hw (by unfold EC;omega))
end Go.Vs
