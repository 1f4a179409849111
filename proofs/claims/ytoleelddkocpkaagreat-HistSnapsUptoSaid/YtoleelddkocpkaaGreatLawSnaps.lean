/- HistSnaps answers true -/
import Derived.Test.YtoleelddkocpkaaGreatAny
set_option linter.unusedVariables false
set_option linter.unusedSimpArgs false
namespace Go.Vs
open Go.Proofs
variable {G:(f:FuncId)→(g:aO)→Option (g.A→Option g.B)}
def asX(l:List (List bP)):List (List bP):=(l.take 30).map (·.take 8)
def ajz(o:bP):List ID:=(if o.1=1∨o.1=3 then[bK o] else[])++(if o.1=5 then[iM o,bY o] else[])
def aor(e:List bP):Bool:=decide (0<(e.flatMap ajz).length)&&e.all fun o=>decide (o.1=1∨o.1=3)
end Go.Vs
set_option autoImplicit false
namespace Go.Vs
open Go Go.Proofs
variable {G:(f:FuncId)→(g:aO)→Option (g.A→Option g.B)}
theorem TkS.wf{b:List Int}{r:Int×(StateT×(Int×Unit))}(h:TkS b r):fN r.2.1:=by
 rcases h with⟨n,s,h1,_,rfl⟩|⟨_,rfl⟩
 ·exact h1.w
 ·exact fN.zero
theorem aaT(hG:HG G)(v5:∀o,kq G o)(hp:jM G)(n:Int)(s:StateT)(b:List Int)(h1:s.1.1.length≤1000000000)(h2:s.1.2.length≤1000000000)(h3:s.2.length≤1000000000)(hr:∀v∈s.1.1,v.2.1.length≤1000000000) (tv:∀v∈s.1.1,v.2.2.1.size≤100000000) (te:∀e∈s.1.2,e.2.1.size≤100000000) (hi:∀g∈s.2,oq g.1.2∧oq g.2.2) (hy:bU b) (hb:b.length≤1000000000):FX G 6 Ii ((n,s,b,()),())=some ((true,()),()):=by
 have hz:=Yu tv te hi;refine au (hG _ _ rfl) ai5 (aa (aiQ hG v5) (aa (ajs hG s h1 h2 h3 hr) ?_));have t0:=Ys hG hp n (qZ s) hz;have t1:=Yt hG n (qZ s) hz;generalize BA n (qZ s)=p at t0 t1;obtain⟨pb,pe,pu⟩:=p;have e1:(strOf pb==strOf pb)=true:=(MapKept.bytes_beq _ _).2 rfl;have ei:∀i:Int,(i==i)=true:=fun i=>by simp
 by_cases hl:b.length>4000
 ·have e4:cut b 0 4000=b.take 4000:=Ad b 4000;have lB:(cut b 0 4000).length≤4000:=by rw[e4,List.length_take];omega
  have yB:bU (cut b 0 4000):=by rw[e4];exact hy.take 4000
  obtain⟨r,k1,q1⟩:=Yz hG hp (cut b 0 4000) lB yB;obtain⟨r',k2,q2⟩:=YA hG (cut b 0 4000) lB yB;have er:=q1.eq q2;subst er;have hw:=q1.wf;obtain⟨k,t,e,u⟩:Int×(StateT×(Int×Unit)):=r;have hwn:=hw.n;have f16:=(ahk hG t t hw.d.sm (acR hwn (by decide))).trans (congrArg (fun b:Bool=>some ((b,()),())) (decide_eq_true rfl));refine ae (decide_eq_true (show((b.length:Nat):Int)>4000 by omega)) (ae (show aq b.length 0 4000=true by simp[aq];omega) (aa t0 (aa t1 ?_)));refine ae (fits (show 0+(cut b 0 4000).length≤_ by omega)) (aa k1 (aa k2 (aa f16 (ae rfl (ae e1 (ae (ei pe) (ae (ei k) (ae rfl ?_))))))));exact congrArg (fun b:Bool=>some ((b,()),())) (ei e)
 ·have lB:b.length≤4000:=by omega
  obtain⟨r,k1,q1⟩:=Yz hG hp b lB hy;obtain⟨r',k2,q2⟩:=YA hG b lB hy;have er:=q1.eq q2;subst er;have hw:=q1.wf;obtain⟨k,t,e,u⟩:Int×(StateT×(Int×Unit)):=r;have hwn:=hw.n;have f16:=(ahk hG t t hw.d.sm (acR hwn (by decide))).trans (congrArg (fun b:Bool=>some ((b,()),())) (decide_eq_true rfl));refine af (decide_eq_false (show ¬((b.length:Nat):Int)>4000 by omega)) (aa t0 (aa t1 (ae (fits (show 0+b.length≤_ by omega)) (aa k1 (aa k2 (aa f16 (ae rfl (ae e1 (ae (ei pe) (ae (ei k) (ae rfl ?_)))))))))));exact congrArg (fun b:Bool=>some ((b,()),())) (ei e)
theorem NB{b:List Int}{m:Nat}(hb:cf (.sl (.int .u8)) b≤m):b.length≤m:=by
 have h:cf (.sl (.int .u8)) b=(b.map (cf (.int .u8))).sum+1:=rfl;rw[h]at hb;have key:∀l:List Int,(l.map (cf (.int .u8))).sum=l.length:=by
  intro l
  induction l with
  |nil=>rfl
  |cons c l ih=>exact(congrArg (fun q:Nat=>1+q) ih).trans (Nat.add_comm 1 l.length)
 have:=key b;omega
theorem aez(n:Int)(s:StateT)(b:List Int)(_:QF (.int .i64) n)(hs:QF pO s)(hy:QF (.sl (.int .u8)) b)(hb:cf (.int .i64) n+cf pO s+cf (.sl (.int .u8)) b≤1048576):FX GP 6 Ii ((n,s,b,()),())=some ((true,()),()):=by
 have sm:=Nk (s:=s) (m:=1048576) (by omega);have bl:=NB (b:=b) (m:=1048576) (by omega);have yb:bU b:=fun c hc=>by have h:=hy c hc;have h1:(0:Int)≤c:=h.1;have h2:c≤(255:Int):=h.2;omega
 have gi:∀g∈s.2,oq g.1.2∧oq g.2.2:=fun g hg=>by have h:=hs.2 g hg;exact⟨X4 h.1.2,X4 h.2.2⟩
 exact aaT hgP aiE ab1 n s b (by omega) (by omega) (by omega) (fun v hv=>by have:=(sm.2.2.2.1 v hv).1;omega) (fun v hv=>by have:=(sm.2.2.2.1 v hv).2;omega) (fun e he=>by have:=sm.2.2.2.2 e he;omega) gi yb (by omega)
end Go.Vs
