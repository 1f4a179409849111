/- EditWhole answers true, of data. -/
import Derived.Test.YtpldhjjpeldkaaaGreatPartsB
import Derived.Test.YtpldhjjpeldkaaaGreatFormed
import Derived.Test.YtpldhjjpeldkaaaGreatTop
set_option linter.unusedVariables false
set_option linter.unusedSimpArgs false
namespace Go.Vs
open Go.Proofs
variable {G:(f:FuncId)→(g:aJ)→Option (g.A→Option g.B)}
theorem Jw{n:Int}(h:Ka (.int .i64) n):Pg n:=by
 have h1:IntKind.min .i64 = -9223372036854775808:=by decide
 have h2:IntKind.max .i64=9223372036854775807:=by decide
 have h:IntKind.min .i64≤n∧n≤IntKind.max .i64:=h
 rw [h1,h2] at h
 unfold Pg;omega
theorem VH{o:bw}(h:Ka pX o)(ht:iV o):Fit o:=by
 obtain ⟨_,_,_,_,⟨_,_,h1⟩,⟨_,_,h2⟩,_,_,h3⟩:=h
 exact ⟨Jw h1,Jw h2,Jw h3,ht⟩
end Go.Vs
namespace Go.Vs
open Go.Proofs
variable {G:(f:FuncId)→(g:aJ)→Option (g.A→Option g.B)}
theorem Qm(hG:HG G)(QG:∀o,qp G o)(s:StateT)(o:bw)(h:gI s)(hf:Fit o):FX G 14 DX ((s,o,()),())=some (kl s o,()) :=
 PB hG s o h hf fun hm h3=>QG o s h hm h3
theorem VI(hG:HG G)(QG:∀o,qp G o)(l:List (List bw))(e:List bw)(hl:l.length≤1073741824)(ht:∀e∈l,∀o∈e,iV o)(U8:∀o∈e,iV o)(BJ:∀o∈e,Fit o):FX G 11 DW ((l,e,()),())=some ((true,()),()):=by
 refine au (fn:=Tryz.f11) (hG _ _ rfl) (by kernel_rfl) (by kernel_rfl) ((ab2 _ _ _).trans ?_)
 refine aa (ad5 hG) ?_
 refine aa (ad2 hG l hl ht) ?_
 have hw:=gI.Er l
 generalize qm l=s at *
 have hn:=hw.n
 refine aa (YT (hG 34 FJ rfl) e) ?_
 have hlen:(e.take 8).length≤8:=by simp;omega
 have gO:∀o∈e.take 8,iV o:=fun o ho=>U8 o (List.mem_of_mem_take ho)
 have hfk:∀o∈e.take 8,Fit o:=fun o ho=>BJ o (List.mem_of_mem_take ho)
 generalize e.take 8=p at *
 have f36:=aeu hG s p hw (by omega) hfk fun o _=>QG o
 refine aa (Y9 hG s p hw (by omega) hfk fun o _=>QG o) ?_
 refine aa (YS hG p gO) ?_
 have PO:=hw.try p
 have hnt:=PO.n
 have hwa:=hw.apply p
 have hna:=hwa.n
 have bad:∀c:Int,c≠0→bX s p=(zS,(c,()))→lF s p=s:=fun c hc h=>by unfold lF;rw [h,if_pos hc]
 have dD:∀t:StateT,bX s p=(t,(0,()))→lF s p=t:=fun t h=>by unfold lF;rw [h,if_neg (by simp)]
 have loop:∀(n i:Nat) (t:StateT),i+n=p.length→gI t→HM (p.drop i) t=bX s p →
   LX G 11 DW Tryz.f11 zY (aP Tryz.prog 11 0) ((true,((bX s p).2.1,((0:Int),((i:Int),())))),((p,()),((s,()),(((bX s p).1,()),((t,()),())))),())=some ((true,()),()):=by
  intro n
  induction n with
  | zero =>
   intro i t hi hwi CM
   have wb:bX s p=(t,(0,())):=by rw [←CM,List.drop_eq_nil_of_le (by omega)];rfl
   have e2:=dD t wb
   refine ar (j:=0) (by kernel_rfl) ((D6 _ _ _).trans (ag (decide_eq_false (show ¬((i:Int)<((p.length:Nat):Int)) by omega)) ?_))
   refine aa f36 (ag rfl ?_)
   refine aa (LI hG (bX s p).1 t hwa.d.sm (by omega)) ?_
   refine aa (LI hG (lF s p) t PO.d.sm (by omega)) ?_
   refine ae rfl (ae (show ((bX s p).2.1==0)=true by rw [wb];rfl) ?_)
   refine ae (decide_eq_true (show (bX s p).1=t by rw [wb])) ?_
   exact congrArg (fun b:Bool=>some ((b,()),())) (decide_eq_true e2)
  | succ n ih =>
   intro i t hi hwi CM
   have aG:i<p.length:=by omega
   have hx:p[i]? = some p[i]:=List.getElem?_eq_getElem aG
   have hm:=List.getElem_mem aG
   refine ar (j:=0) (by kernel_rfl) ((D6 _ _ _).trans (ae (aT aG) (ae rfl ?_)))
   refine aa (aK hx) (aa (Qm hG QG t p[i] hwi (hfk p[i] hm)) ?_)
   rw [aI aG (show p.length≤1073741824 by omega)]
   have C4:p.drop i=p[i]::p.drop (i+1):=List.drop_eq_getElem_cons aG
   rw [C4,HM] at CM
   by_cases hc:(kl t p[i]).2.1=0
   ·rw [if_neg (by simp [hc])] at CM
    have:=ih (i+1) (kl t p[i]).1 (by omega) (hwi.one p[i]) CM
    rw [←hc] at this
    exact this
   ·rw [if_pos hc] at CM
    have wb:bX s p=(zS,((kl t p[i]).2.1,())):=CM.symm
    have e2:=bad _ hc wb
    have bh:((kl t p[i]).2.1 != 0)=true:=by rw [bne_iff_ne];exact hc
    have yH:((kl t p[i]).2.1==0)=false:=by rw [beq_eq_false_iff_ne];exact hc
    have heq:((bX s p).2.1==(kl t p[i]).2.1)=true:=by rw [wb];simp
    have rG:((((bX s p).1.1.1.length:Nat):Int)==0)=true:=by rw [wb];rfl
    have uM:((((bX s p).1.2.length:Nat):Int)==0)=true:=by rw [wb];rfl
    refine ar (j:=0) (by kernel_rfl) ((D6 _ _ _).trans ?_)
    by_cases ry:i+1<p.length
    ·refine ae (aT ry) (ag yH ?_)
     refine aa f36 (ae bh ?_)
     refine aa (LI hG (lF s p) s PO.d.sm (by omega)) ?_
     refine ae rfl (ae heq (ae (decide_eq_true e2) (ae rG ?_)))
     exact congrArg (fun b:Bool=>some ((b,()),())) uM
    ·refine ag (decide_eq_false (show ¬(((i+1:Nat):Int)<((p.length:Nat):Int)) by omega)) ?_
     refine aa f36 (ae bh ?_)
     refine aa (LI hG (lF s p) s PO.d.sm (by omega)) ?_
     refine ae rfl (ae heq (ae (decide_eq_true e2) (ae rG ?_)))
     exact congrArg (fun b:Bool=>some ((b,()),())) uM
 by_cases hm:de p=0
 ·have CM:HM (p.drop 0) s=bX s p:=by unfold bX;rw [if_neg (by simp [hm]),List.drop_zero]
  have:=loop p.length 0 s (by omega) hw CM
  rw [←hm] at this
  exact this
 ·have wb:bX s p=(zS,(de p,())):=by unfold bX;rw [if_pos hm]
  have e2:=bad _ hm wb
  have bh:(de p != 0)=true:=by rw [bne_iff_ne];exact hm
  have yH:(de p==0)=false:=by rw [beq_eq_false_iff_ne];exact hm
  have heq:((bX s p).2.1==de p)=true:=by rw [wb];simp
  have rG:((((bX s p).1.1.1.length:Nat):Int)==0)=true:=by rw [wb];rfl
  have uM:((((bX s p).1.2.length:Nat):Int)==0)=true:=by rw [wb];rfl
  refine ar (j:=0) (by kernel_rfl) ((D6 _ _ _).trans ?_)
  by_cases ry:0<p.length
  ·refine ae (decide_eq_true (show ((0:Int)<((p.length:Nat):Int)) by omega)) (ag yH ?_)
   refine aa f36 (ae bh ?_)
   refine aa (LI hG (lF s p) s PO.d.sm (by omega)) ?_
   refine ae rfl (ae heq (ae (decide_eq_true e2) (ae rG ?_)))
   exact congrArg (fun b:Bool=>some ((b,()),())) uM
  ·refine ag (decide_eq_false (show ¬((0:Int)<((p.length:Nat):Int)) by omega)) ?_
   refine aa f36 (ae bh ?_)
   refine aa (LI hG (lF s p) s PO.d.sm (by omega)) ?_
   refine ae rfl (ae heq (ae (decide_eq_true e2) (ae rG ?_)))
   exact congrArg (fun b:Bool=>some ((b,()),())) uM
theorem Jx{e:List bw}{m:Nat}(hb:dF oQ e≤m):∀o∈e,iV o∨m > 100000000:=fun o ho=>by
 have h1:dF oQ e=(e.map (dF pX)).sum+1:=rfl
 rw [h1] at hb
 have h3:=xU (dF pX) ho
 have h4:=CN o
 unfold iV
 omega
theorem aao(l:List (List bw))(e:List bw)(_:Ka (.sl oQ) l)(hw:Ka oQ e)(hb:dF (.sl oQ) l+dF oQ e≤1048576):FX GP 11 DW ((l,e,()),())=some ((true,()),()):=by
 obtain ⟨h1,h2⟩:=Gz (l:=l) (m:=1048576) (by omega)
 have ht:∀e∈l,∀o∈e,iV o:=fun e he o ho=>Nat.le_trans (h2 e he o ho) (by omega)
 have U8:∀o∈e,iV o:=fun o ho=>(Jx (m:=1048576) (by omega) o ho).resolve_right (by omega)
 exact VI hgP aan l e (by omega) ht U8 fun o ho=>VH (hw o ho) (U8 o ho)
end Go.Vs
