/- InverseParts answers true, of data. -/
import Derived.Test.YtpkfpbpbkabkdaaGreatBack
set_option linter.unusedVariables false
set_option linter.unusedSimpArgs false
namespace Go.Vs
open Go.Proofs
variable {G:(f:FuncId)→(g:aN)→Option (g.A→Option g.B)}
end Go.Vs
namespace Go.Vs
open Go.Proofs
variable {G:(f:FuncId)→(g:aN)→Option (g.A→Option g.B)}
theorem adA(hG:HG G)(a:List aZ)(hl:a.length≤1073741824):FX G 50 yF ((a,a,()),())=some ((true,()),()):=by
 refine aw (fn:=Tryz.f50) (hG _ _ rfl) (by kernel_rfl) (by kernel_rfl) ((abf _ _ _).trans ?_)
 refine ag (show((((a.length:Nat):Int)) != ((a.length:Nat):Int))=false by simp) ?_
 have loop:∀(n i:Nat),i+n=a.length→LX G 50 yF Tryz.f50 vD (aM Tryz.prog 50 0) ((a,(a,((i:Int),()))),((),()))=some ((true,()),()):=by
  intro n
  induction n with
  |zero =>
   intro i hi
   exact ao (j:=0) (by kernel_rfl) ((LS _ _ _).trans (ag (decide_eq_false (show ¬((i:Int)<((a.length:Nat):Int)) by omega)) rfl))
  |succ n ih =>
   intro i hi
   have aF:i<a.length:=by omega
   have hx:=ax (List.getElem?_eq_getElem aF)
   refine ao (j:=0) (by kernel_rfl) ((LS _ _ _).trans (af (aX aF) (aa hx (aa hx ?_))))
   refine ag (show(!(pV a[i] a[i]))=false by rw[(ia _ _).2 rfl];rfl) ?_
   rw[wI,aE aF hl]
   exact ih (i+1) (by omega)
 exact loop a.length 0 (by omega)
theorem VD(hG:HG G)(Js:∀o,qa G o)(s:StateT)(e:List aZ)(hs:Sm s.1)(hg:s.2.length≤50000000)(tv:∀v∈s.1.1,v.2.2.1.size≤100000000)(te:∀e∈s.1.2,e.2.1.size≤100000000)(hf:∀o∈e,Fit o):FX G 9 vl ((s,e,()),())=some ((true,()),()):=by
 refine aw (fn:=Tryz.f9) (hG _ _ rfl) (by kernel_rfl) (by kernel_rfl) ((aa9 _ _ _).trans ?_)
 refine aa (adx hG Js) ?_
 obtain⟨b,k1,k2⟩:=adw hG s hs hg tv te
 refine aa k1 ?_
 cases b with
 |false=>rfl
 |true =>
  obtain⟨hw,_⟩:=k2 rfl
  have hn:=hw.n
  refine ag rfl (aa (ady hG e) ?_)
  have hlen:(e.take 8).length≤8:=by simp;omega
  have hfk:∀o∈e.take 8,Fit o:=fun o ho=>hf o (List.mem_of_mem_take ho)
  generalize e.take 8=p at *
  refine aa (adz hG Js s p hw hlen hfk) ?_
  have hbs:Bs 1000 s:=⟨hw.d.bd.mono (by omega),by omega⟩
  refine aa (ag2 hG s p hbs (by omega) fun o ho=>(hfk o ho).t) ?_
  unfold ofR
  by_cases h0:(cH s p).2.1=0
  case neg =>
   rw[if_pos h0]
   refine af (show((cH s p).2.1 != 0)=true by simp[h0]) (af rfl (af (show((cH s p).2.1==(cH s p).2.1)=true by simp) rfl))
  rw[if_neg (by simp[h0])]
  refine ag (show((cH s p).2.1 != 0)=false by simp[h0]) ?_
  have LW:(vM p s).2.1=0:=by rw[mu h0]at h0;exact h0
  have loop:∀(n i:Nat) (t:StateT) (acc:List aZ),i+n=p.length→fH t→(vM (p.drop i) t).2.1=0→acc.length≤5*i→Ld (p.drop i) t acc=Ld p s [] →
    LX G 9 vl Tryz.f9 vA (aM Tryz.prog 9 0) ((true,((0:Int),((i:Int),()))),((((t,()),((p,()),())),(Ld p s [],(acc,())))))=some ((true,()),()):=by
   intro n
   induction n with
   |zero =>
    intro i t acc hi ht hg ha hv
    rw[List.drop_eq_nil_of_le (by omega)]at hv
    have hv:acc=Ld p s []:=hv
    refine ao (j:=0) (by kernel_rfl) ((LQ _ _ _).trans (ag (decide_eq_false (show ¬((i:Int)<((p.length:Nat):Int)) by omega)) (af rfl (af rfl ?_))))
    rw[←hv]
    exact aa (adA hG acc (by omega)) rfl
   |succ n ih =>
    intro i t acc hi ht hg ha hv
    have aF:i<p.length:=by omega
    have hm:=List.getElem_mem aF
    rw[List.drop_eq_getElem_cons aF]at hg hv
    obtain⟨g1,g2,_⟩:=go_step hg
    have hx:=ax (List.getElem?_eq_getElem aF)
    refine ao (j:=0) (by kernel_rfl) ((LQ _ _ _).trans (af (aX aF) (aa hx ?_)))
    refine aa (Tp hG Js t p[i] ht (hfk _ hm)) ?_
    have hp:=Jf ht p[i]
    have hp1:1≤(uu t p[i]).length:=by unfold uu;rw[if_neg (by simp[g1])];exact(MJ ht g1).2.1
    refine ag (decide_eq_false (show ¬(((uu t p[i]).length:Nat):Int)<1 by omega)) (ag (decide_eq_false (show ¬(((uu t p[i]).length:Nat):Int)>5 by omega)) ?_)
    refine af (fits (show 0+(uu t p[i]).length≤_ by omega)) (af (fits (show(uu t p[i]).length+acc.length≤_ by omega)) (aa hx ?_))
    have NH:=ht.n
    refine aa (ab1 hG t p[i] ht.d.bd (by omega) (by omega) (hfk _ hm).t) ?_
    rw[wI,aE aF (by omega)]
    exact ih (i+1) _ (uu t p[i]++acc) (by omega) (ht.one p[i]) g2 (by rw[List.length_append];omega) hv
  exact loop p.length 0 s [] (by omega) hw LW (by simp) rfl
theorem OH{e:List aZ}{m:Nat}(hb:b6 Da e≤m):∀o∈e,o.2.2.2.2.2.2.2.1.size≤m:=fun o ho=>by
 have h1:b6 Da e=(e.map (b6 iZ)).sum+1:=rfl
 rw[h1]at hb
 have h3:=zT (b6 iZ) ho
 have h4:=NQ o
 omega
theorem YR(s:StateT)(e:List aZ)(_:L4 mA s)(hw:L4 Da e)(hb:b6 mA s+b6 Da e≤1048576):FX GP 9 vl ((s,e,()),())=some ((true,()),()):=by
 obtain⟨h1,h2,h3,h4,h5⟩:=I7 (s:=s) (m:=1048576) (by omega)
 have ht:=OH (e:=e) (m:=1048576) (by omega)
 exact VD hgP adi s e ⟨by omega,by omega,fun v hv=>by have:=(h4 v hv).1;omega⟩ (by omega) (fun v hv=>by have:=(h4 v hv).2;omega) (fun e he=>by have:=h5 e he;omega) fun o ho=>YQ (hw o ho) (by have:=ht o ho;unfold xh;omega)
end Go.Vs
