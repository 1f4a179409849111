/- InverseMay answers true, of data. -/
import Derived.Test.YtpkfpbpbkabkdaaGreatBack
set_option linter.unusedVariables false
set_option linter.unusedSimpArgs false
namespace Go.Vs
open Go.Proofs
variable {G:(f:FuncId)→(g:aM)→Option (g.A→Option g.B)}
theorem S6{o:bj}(h:bC o=0)(hk:o.1=3):nI (oA o)=true∧nI (oB o)=true:=by
 unfold bC at h
 split at h;· cases h
 split at h;· cases h
 split at h;· cases h
 split at h;· cases h
 split at h
 ·assumption
 ·cases h
theorem Mm{c:mF}(h:nI c=true):BW c.2.2:=by
 unfold nI Fx at h
 simp only[Bool.and_eq_true,Bool.or_eq_true,decide_eq_true_eq]at h
 unfold BW
 rcases h.2 with h|h
 ·omega
 ·rw[h];exact⟨by decide,by decide⟩
theorem IZ:e0.size≤100000000:=by simp[e0,ByteArray.size]
theorem Vn{o:bj}(h:bC o=0):Fit o:=by
 have hr:=IY h
 obtain⟨k1,k8⟩:=mu h
 have h3:=S6 h;have h5:=sH h;have h8:=B9 h;have h7:=xu h
 obtain⟨k,x,nw,ot,a,b,oe,t,n⟩:=o
 simp only at k1 k8 h3 h5 h8 h7
 have fin:BW a.2.2→BW b.2.2→BW n→t.size≤100000000→Fit (k,x,nw,ot,a,b,oe,t,n):=fun p q r u=>⟨p,q,r,u⟩
 have z:∀c:mF,c=zC→BW c.2.2:=fun c e=>by subst e;exact qy
 unfold jz at hr
 by_cases c3:k=3
 ·subst c3
  simp only[if_true,CN,Prod.mk.injEq,true_and]at hr
  obtain⟨rfl,rfl,rfl,rfl,rfl⟩:=hr
  obtain⟨p,q⟩:=h3 rfl
  exact fin (Mm p) (Mm q) qy IZ
 by_cases c5:k=5
 ·subst c5
  simp only[show ¬(5:Int)=3 by decide,if_false,if_true,CN,Prod.mk.injEq,true_and,and_true]at hr
  obtain⟨rfl,rfl,rfl,rfl⟩:=hr
  obtain⟨_,_,p,q⟩:=h5 rfl
  exact fin qy qy (by show BW n;have p:0≤n:=p;have q:n≤3:=q;unfold BW;omega) IZ
 by_cases c6:k=6
 ·subst c6
  simp only[show ¬(6:Int)=3 by decide,show ¬(6:Int)=5 by decide,if_false,if_true,CN,Prod.mk.injEq,true_and]at hr
  obtain⟨rfl,rfl,rfl,rfl,rfl,rfl⟩:=hr
  exact fin qy qy qy IZ
 by_cases c7:k=7
 ·subst c7
  simp only[show ¬(7:Int)=3 by decide,show ¬(7:Int)=5 by decide,show ¬(7:Int)=6 by decide,if_false,if_true,CN,Prod.mk.injEq,true_and]at hr
  obtain⟨rfl,rfl,rfl,rfl,rfl⟩:=hr
  have:=NM (h7 rfl)
  exact fin qy qy qy (by have:t.size≤16:=this;omega)
 by_cases c8:k=8
 ·subst c8
  simp only[show ¬(8:Int)=3 by decide,show ¬(8:Int)=5 by decide,show ¬(8:Int)=6 by decide,show ¬(8:Int)=7 by decide,if_false,if_true,CN,Prod.mk.injEq,true_and,and_true]at hr
  obtain⟨rfl,rfl,rfl,rfl,rfl⟩:=hr
  exact fin qy qy (UI (h8 rfl)) IZ
 ·simp only[if_neg c3,if_neg c5,if_neg c6,if_neg c7,if_neg c8,CN,Prod.mk.injEq,true_and]at hr
  obtain⟨rfl,rfl,rfl,rfl,rfl,rfl,rfl⟩:=hr
  exact fin qy qy qy IZ
theorem S7{s:StateT}(hw:fX s)(o:bj):∀p∈CG s o,bC p=0:=by
 unfold CG
 split
 ·intro p hp;cases hp
 ·rename_i h;exact(F8 hw (by simpa using h)).1
theorem S8{s:StateT}(hw:fX s)(o:bj):decide (((((CG s o).length:Nat):Int))>0)=((fS s o).2.1==0):=by
 unfold CG
 by_cases h:(fS s o).2.1=0
 ·rw[if_neg (by simp[h]),h]
  exact decide_eq_true (by have:=(F8 hw h).2.1;omega)
 ·rw[if_pos h]
  have:((fS s o).2.1==0)=false:=by simp[h]
  rw[this];rfl
theorem Vo(hG:HG G)(SC:∀o,Cc G o)(s:StateT)(o:bj)(hs:Sm s.1)(hg:s.2.length≤50000000)(tv:∀v∈s.1.1,v.2.2.1.size≤100000000)(te:∀e∈s.1.2,e.2.1.size≤100000000)(hf:Fit o):FX G 8 vm ((s,o,()),())=some ((true,()),()):=by
 refine ax (fn:=Tryz.f8) (hG _ _ rfl) (by kernel_rfl) (by kernel_rfl) ((aaP _ _ _).trans ?_)
 refine aa (ac7 hG SC) ?_
 obtain⟨b,k1,k2⟩:=ac6 hG s hs hg tv te
 refine aa k1 ?_
 cases b with
 |false=>rfl
 |true =>
  obtain⟨hw,_⟩:=k2 rfl
  have hn:=hw.n
  refine ag rfl ?_
  refine aa (WG hG SC s o hw hf) ?_
  refine aa (agx hG s o hw.d.bd (by omega) (by omega) hf.t) ?_
  have hl:=S5 hw o
  have hm:=S7 hw o
  have hp:=S8 hw o
  generalize CG s o=l at *
  have loop:∀(n i:Nat),i+n=l.length→LX G 8 vm Tryz.f8 vB (aN Tryz.prog 8 0) ((true,((fS s o).2.1,((i:Int),()))),((),(l,())))=some ((true,()),()):=by
   intro n
   induction n with
   |zero =>
    intro i hi
    refine ar (j:=0) (by kernel_rfl) ((Lu _ _ _).trans (ag (decide_eq_false (show ¬((i:Int)<((l.length:Nat):Int)) by omega)) (af rfl ?_)))
    exact congrArg (fun b:Bool=>some ((b,()),())) (show(((fS s o).2.1==0)==decide (((l.length:Nat):Int)>0))=true by rw[hp];simp)
   |succ n ih =>
    intro i hi
    have aF:i<l.length:=by omega
    have hx:=hm l[i] (List.getElem_mem aF)
    refine ar (j:=0) (by kernel_rfl) ((Lu _ _ _).trans (af (aZ aF) (af (cW (decide_eq_true (show(0:Int)≤(i:Int) by omega)) (aZ aF)) (aa (List.getElem?_eq_getElem (show Int.toNat (i:Int)<l.length from aF)) ?_))))
    refine aa (abD hG l[i] (Vn hx).t) ?_
    refine ag (show(bC l[i] != 0)=false by simp[hx]) ?_
    rw[wI,aG aF (by omega)]
    exact ih (i+1) (by omega)
  exact loop l.length 0 (by omega)
theorem Yz(s:StateT)(o:bj)(_:LC qg s)(hw:LC jE o)(hb:cq qg s+cq jE o≤1048576):FX GP 8 vm ((s,o,()),())=some ((true,()),()):=by
 obtain⟨h1,h2,h3,h4,h5⟩:=IP (s:=s) (m:=1048576) (by omega)
 have ht:=Nt o
 exact Vo hgP acT s o ⟨by omega,by omega,fun v hv=>by have:=(h4 v hv).1;omega⟩ (by omega) (fun v hv=>by have:=(h4 v hv).2;omega) (fun e he=>by have:=h5 e he;omega) (Yy hw (by unfold FF;omega))
end Go.Vs
