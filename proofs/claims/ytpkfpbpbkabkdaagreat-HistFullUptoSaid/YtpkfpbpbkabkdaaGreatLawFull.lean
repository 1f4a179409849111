/- HistFull answers true, of data. -/
import Derived.Test.YtpkfpbpbkabkdaaGreatSplits
import Derived.Test.YtpkfpbpbkabkdaaGreatHist
set_option linter.unusedVariables false
set_option linter.unusedSimpArgs false
namespace Go.Vs
open Go.Proofs
variable {G:(f:FuncId)→(g:aK)→Option (g.A→Option g.B)}
def afh(x v:ID)(n:Int):bh:=(5,(x,(v,(v,(zC,(zC,(false,(e0,n))))))))
def afi(v w:ID):bh:=(6,(v,(zI,(w,(zC,(zC,(false,(e0,0))))))))
end Go.Vs
namespace Go.Vs
open Go.Proofs
variable {G:(f:FuncId)→(g:aK)→Option (g.A→Option g.B)}
theorem De(n:Int):0≤cP .and .i64 n 127∧cP .and .i64 n 127≤127:=by
 have e:cP .and .i64 n 127=(BitVec.ofInt 64 n &&& BitVec.ofInt 64 127).toInt:=by unfold cP;exact He _
 rw[e]
 generalize BitVec.ofInt 64 n=x
 have h:(x &&& BitVec.ofInt 64 127).toNat≤127:=by rw[BitVec.toNat_and];exact Nat.and_le_right
 rw[BitVec.toInt_eq_toNat_cond]
 split<;>omega
def FM(h:bJ):Int×(Int×Unit):=if 64≤(hZ h).length then(0,(20,())) else(ue h+1,(0,()))
theorem xj(hG:HG G){m:Nat}(h:bJ)(k:Int)(ho:Ao m h)(hm:m<1000)(h0:1≤k)(h1:k≤20) :
  ∃h2,FX G 25 pM (([Aj 1 (1,k)],()),(h,()))=some (FM h,(h2,()))∧Ao (m+1) h2∧j5 h2=j5 h∧ue h2=if 64≤(hZ h).length then ue h else ue h+1:=by
 have hf:∀o∈[Aj 1 (1,k)],Fit o:=fun o ho=>by rw[List.mem_singleton.1 ho];exact Jc k
 have H4:=Je h0 (show k≤1048576 by omega)
 have e1:(vt h [Aj 1 (1,k)]).1=FM h:=by
  unfold vt FM
  rw[if_neg (by rw[H4];simp)]
  split<;>rfl
 refine⟨(vt h [Aj 1 (1,k)]).2,(Ri hG h ho (by omega) _ (by simp) hf).trans (congrArg (fun q:Int×(Int×Unit)=>some (q,((vt h [Aj 1 (1,k)]).2,()))) e1),ho.add (by omega) (by simp) hf,?_,?_⟩
 ·unfold vt
  rw[if_neg (by rw[H4];simp)]
  split<;>rfl
 ·unfold vt
  rw[if_neg (by rw[H4];simp)]
  split
  ·rfl
  ·show j5 h+(((hZ h++[[Aj 1 (1,k)]]).length:Nat):Int)=j5 h+(((hZ h).length:Nat):Int)+1
   rw[List.length_append];simp only[List.length_cons,List.length_nil];omega
theorem qM{h:bJ}(c:64≤(hZ h).length):FM h=(0,(20,())):=if_pos c
theorem qN{h:bJ}(c:¬64≤(hZ h).length):FM h=(ue h+1,(0,())):=if_neg c
theorem Qk(hG:HG G)(Am:∀o,iI G o)(many to:Int)(ht:IH to):FX G 5 rq ((many,to,()),())=some ((true,()),()):=by
 refine aI (fn:=Tryz.f5) (hG _ _ rfl) (by kernel_rfl) (by kernel_rfl) ((Vt _ _ _).trans ?_)
 refine aa (XF hG Am) (af rfl ?_)
 obtain⟨ZD,Tt⟩:=De many
 obtain⟨N,hN⟩:∃N:Nat,cP .and .i64 many 127=(N:Int):=⟨(cP .and .i64 many 127).toNat,by omega⟩
 show LX G 5 rq Tryz.f5 kg (bY Tryz.prog 5 0) ((to,(cP .and .i64 many 127,((0:Int),()))),(((zS,((0:Int),(([]:List (List bh)),()))),()),()))=_
 rw[hN]
 have hN1:N≤127:=by omega
 have loop:∀(n i:Nat) (h:bJ),i+n=N→Ao i h→j5 h=0→ue h=min (i:Int) 64 →
   LX G 5 rq Tryz.f5 kg (bY Tryz.prog 5 0) ((to,((N:Int),((i:Int),()))),((h,()),()))=some ((true,()),()):=by
  intro n
  induction n with
  |zero =>
   intro i h hi ho hf hl
   have hlen:ue h=j5 h+((hZ h).length:Nat):=rfl
   have hi:i=N:=by omega
   subst hi
   refine aQ (j:=0) (by kernel_rfl) ((Iu _ _ _).trans (af (decide_eq_false (show ¬((i:Int)<(i:Int)) by omega)) ?_))
   refine aa (Rj hG Am h ho to) ?_
   have hoc:=ho.comp to
   by_cases h0:to≥0
   case neg =>
    have YC:¬hIn h to:=fun k=>by unfold hIn at k;omega
    have ec:lp h to=(26,h):=if_neg YC
    rw[ec]
    refine af (decide_eq_false h0) (af rfl (aa (B6 hG h ho) ?_))
    refine af (show(ue h != min (i:Int) 64)=false by simp[hl]) ?_
    refine aa (FL hG 1) ?_
    obtain⟨h2,e1,o2,f2,_⟩:=xj hG h 1 ho (by omega) (by omega) (by omega)
    refine aa e1 ?_
    have ew:IntKind.wrap .i64 (min (i:Int) 64-0)=min (i:Int) 64:=by rw[wrap_small (by omega) (by omega)];omega
    have key:(((FM h).2.1==0)==decide (IntKind.wrap .i64 (min (i:Int) 64-0)<64))=true:=by
     rw[ew]
     by_cases hc:64≤(hZ h).length
     ·rw[qM hc,decide_eq_false (by omega)];rfl
     ·rw[qN hc,decide_eq_true (by omega)];rfl
    refine ae key (aa (Jd hG h2) ?_)
    have:(j5 h2==0)=true:=by rw[f2,hf];rfl
    exact congrArg (fun b:Bool=>some ((b,()),())) this
   refine ae (decide_eq_true h0) ?_
   by_cases Ym:hIn h to
   case neg =>
    have ec:lp h to=(26,h):=if_neg Ym
    rw[ec]
    unfold hIn at Ym
    have CA:¬to≤min (i:Int) 64:=by omega
    refine af (show(!(decide (to≤min (i:Int) 64)==((26:Int)==0)))=false by rw[decide_eq_false CA];rfl) (aa (B6 hG h ho) ?_)
    refine af (show(ue h != min (i:Int) 64)=false by simp[hl]) (af (decide_eq_false CA) ?_)
    refine aa (FL hG 1) ?_
    obtain⟨h2,e1,o2,f2,_⟩:=xj hG h 1 ho (by omega) (by omega) (by omega)
    refine aa e1 ?_
    have ew:IntKind.wrap .i64 (min (i:Int) 64-0)=min (i:Int) 64:=by rw[wrap_small (by omega) (by omega)];omega
    have key:(((FM h).2.1==0)==decide (IntKind.wrap .i64 (min (i:Int) 64-0)<64))=true:=by
     rw[ew]
     by_cases hc:64≤(hZ h).length
     ·rw[qM hc,decide_eq_false (by omega)];rfl
     ·rw[qN hc,decide_eq_true (by omega)];rfl
    refine ae key (aa (Jd hG h2) ?_)
    have:(j5 h2==0)=true:=by rw[f2,hf];rfl
    exact congrArg (fun b:Bool=>some ((b,()),())) this
   ·have hi3:=Ym
    unfold hIn at Ym
    have hle:to≤min (i:Int) 64:=by omega
    have ec:(lp h to).1=0:=by unfold lp;rw[if_pos hi3]
    have ef:j5 (lp h to).2=to:=by unfold lp;rw[if_pos hi3]
    have el:ue (lp h to).2=ue h:=by
     unfold lp;rw[if_pos hi3]
     show to+((((hZ h).drop (to-j5 h).toNat).length:Nat):Int)=_
     rw[List.length_drop];omega
    generalize hg:lp h to=c at *
    obtain⟨c1,c2⟩:=c
    simp only at ec ef el hoc
    subst ec
    refine af (show(!(decide (to≤min (i:Int) 64)==((0:Int)==0)))=false by rw[decide_eq_true hle];rfl) (aa (B6 hG c2 hoc) ?_)
    refine af (show(ue c2 != min (i:Int) 64)=false by simp[el,hl]) (ae (decide_eq_true hle) ?_)
    refine aa (FL hG 1) ?_
    obtain⟨h2,e1,o2,f2,_⟩:=xj hG c2 1 hoc (by omega) (by omega) (by omega)
    refine aa e1 ?_
    have rM:ue c2=j5 c2+((hZ c2).length:Nat):=rfl
    have ew:IntKind.wrap .i64 (min (i:Int) 64-to)=min (i:Int) 64-to:=wrap_small (by omega) (by omega)
    have key:(((FM c2).2.1==0)==decide (IntKind.wrap .i64 (min (i:Int) 64-to)<64))=true:=by
     rw[ew]
     by_cases hc:64≤(hZ c2).length
     ·rw[qM hc,decide_eq_false (by omega)];rfl
     ·rw[qN hc,decide_eq_true (by omega)];rfl
    refine ae key (aa (Jd hG h2) ?_)
    have:(j5 h2==to)=true:=by rw[f2,ef];simp
    exact congrArg (fun b:Bool=>some ((b,()),())) this
  |succ n ih =>
   intro i h hi ho hf hl
   have hlen:ue h=j5 h+((hZ h).length:Nat):=rfl
   have aG:i<N:=by omega
   refine aQ (j:=0) (by kernel_rfl) ((Iu _ _ _).trans (ae (decide_eq_true (show((i:Int)<(N:Int)) by omega)) (af rfl ?_)))
   have hk:IntKind.wrap .i64 (1+Int.tmod (i:Int) 20)=1+(i:Int)%20:=by
    rw[Int.tmod_eq_emod_of_nonneg (by omega),wrap_small (by omega) (by omega)]
   refine aa (FL hG _) ?_
   show Option.bind (FX G 25 pM (([Aj 1 (1,IntKind.wrap .i64 (1+Int.tmod (i:Int) 20))],()),(h,()))) _=_
   rw[hk]
   obtain⟨h2,e1,o2,f2,l2⟩:=xj hG h (1+(i:Int)%20) ho (by omega) (by omega) (by omega)
   refine aa e1 ?_
   have step:=ih (i+1) h2 (by omega) o2 (by omega) (by rw[l2];split<;>omega)
   have ew:IntKind.wrap .i64 ((i:Int)+1)=((i+1:Nat):Int):=bz aG (by omega)
   by_cases hc:64≤(hZ h).length
   ·rw[qM hc]
    have d64:decide ((i:Int)≥64)=true:=decide_eq_true (by omega)
    refine af (show(!(decide ((i:Int)≥64)==((20:Int)==20)))=false by rw[d64];rfl) (af (show(!(decide ((i:Int)≥64)))=false by rw[d64];rfl) (ae d64 (af rfl ?_)))
    rw[ew];exact step
   ·rw[qN hc]
    have d64:decide ((i:Int)≥64)=false:=decide_eq_false (by omega)
    refine af (show(!(decide ((i:Int)≥64)==((0:Int)==20)))=false by rw[d64];rfl) (ae (show(!(decide ((i:Int)≥64)))=true by rw[d64];rfl) ?_)
    refine af (show(ue h+1 != IntKind.wrap .i64 ((i:Int)+1))=false by rw[ew];simp;omega) (af d64 ?_)
    rw[ew];exact step
 exact loop N 0 (zS,(0,([],()))) (by omega) Ao.zero rfl (by rfl)
theorem Tn(many to:Int)(_:J7 (.int .i64) many)(hw:J7 (.int .i64) to)(_:iC (.int .i64) many+iC (.int .i64) to≤1048576):FX GP 5 rq ((many,to,()),())=some ((true,()),()) :=
 Qk hgP XA many to (Tj hw)
end Go.Vs
