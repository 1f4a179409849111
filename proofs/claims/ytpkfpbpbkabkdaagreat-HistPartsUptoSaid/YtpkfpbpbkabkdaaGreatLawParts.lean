/- HistParts answers true, of data. -/
import Derived.Test.YtpkfpbpbkabkdaaGreatHist
set_option linter.unusedVariables false
set_option linter.unusedSimpArgs false
namespace Go.Vs
open Go.Proofs
variable {G:(f:FuncId)→(g:aJ)→Option (g.A→Option g.B)}
theorem Vt(hG:HG G)(s:StateT)(l:List (List ba))(hw:eU s)(h:kM l)(h8:∀e∈l,e.length≤8):FX G 20 pq ((s,l,()),())=some ((dd l s,()),()):=by
 refine au (fn:=Tryz.f20) (hG _ _ rfl) (by kernel_rfl) (by kernel_rfl) ((ZI _ _ _).trans ?_)
 have loop:∀(n i:Nat) (t:StateT),i+n=l.length→eU t →
   LX G 20 pq Tryz.f20 uT (aN Tryz.prog 20 0) ((l,((i:Int),())),(((t,()),((zW,()))),()))=some ((dd (l.drop i) t,()),()):=by
  intro n
  induction n with
  |zero =>
   intro i t hi ht
   refine ar (j:=0) (by kernel_rfl) ((KW _ _ _).trans (af (decide_eq_false (show ¬((i:Int)<((l.length:Nat):Int)) by omega)) ?_))
   rw[List.drop_eq_nil_of_le (by omega)];rfl
  |succ n ih =>
   intro i t hi ht
   have aF:i<l.length:=by omega
   have hm:=List.getElem_mem aF
   have P9:=ht.n
   have hbs:Bs 1000 t:=⟨ht.d.bd.mono (by omega),by omega⟩
   refine ar (j:=0) (by kernel_rfl) ((KW _ _ _).trans (ae (aW aF) (aa (aI (List.getElem?_eq_getElem aF)) ?_)))
   refine aa (afO hG t l[i] hbs (by have:=h8 _ hm;omega) fun o ho=>(h.f _ hm o ho).t) ?_
   rw[wI,aG aF h.n,List.drop_eq_getElem_cons aF,dd]
   exact ih (i+1) _ (by omega) (ht.try l[i])
 exact loop l.length 0 s (by omega) hw
theorem ab7(hG:HG G)(a:List ba)(hl:a.length≤1073741824):FX G 68 xC ((a,a,()),())=some ((true,()),()):=by
 refine au (fn:=Tryz.f68) (hG _ _ rfl) (by kernel_rfl) (by kernel_rfl) ((ZW _ _ _).trans ?_)
 refine af (show((((a.length:Nat):Int)) != ((a.length:Nat):Int))=false by simp) ?_
 have loop:∀(n i:Nat),i+n=a.length→LX G 68 xC Tryz.f68 uV (aN Tryz.prog 68 0) (((i:Int),()),(((a,()),((a,()),())),()))=some ((true,()),()):=by
  intro n
  induction n with
  |zero =>
   intro i hi
   exact ar (j:=0) (by kernel_rfl) ((KZ _ _ _).trans (af (decide_eq_false (show ¬((i:Int)<((a.length:Nat):Int)) by omega)) rfl))
  |succ n ih =>
   intro i hi
   have aF:i<a.length:=by omega
   have hx:=aI (List.getElem?_eq_getElem aF)
   refine ar (j:=0) (by kernel_rfl) ((KZ _ _ _).trans (ae (aW aF) (aa hx (aa hx ?_))))
   refine af (show(!(u6 a[i] a[i]))=false by rw[(u7 _ _).2 rfl];rfl) ?_
   rw[wI,aG aF hl]
   exact ih (i+1) (by omega)
 exact loop a.length 0 (by omega)
theorem ab8(hG:HG G)(a:List (List ba))(h:kM a):FX G 33 sF ((a,a,()),())=some ((true,()),()):=by
 refine au (fn:=Tryz.f33) (hG _ _ rfl) (by kernel_rfl) (by kernel_rfl) ((ZS _ _ _).trans ?_)
 refine af (show((((a.length:Nat):Int)) != ((a.length:Nat):Int))=false by simp) ?_
 have loop:∀(n i:Nat),i+n=a.length→LX G 33 sF Tryz.f33 uU (aN Tryz.prog 33 0) ((a,(a,((i:Int),()))),((),()))=some ((true,()),()):=by
  intro n
  induction n with
  |zero =>
   intro i hi
   exact ar (j:=0) (by kernel_rfl) ((KY _ _ _).trans (af (decide_eq_false (show ¬((i:Int)<((a.length:Nat):Int)) by omega)) rfl))
  |succ n ih =>
   intro i hi
   have aF:i<a.length:=by omega
   have hx:=aI (List.getElem?_eq_getElem aF)
   refine ar (j:=0) (by kernel_rfl) ((KY _ _ _).trans (ae (aW aF) (aa hx (aa hx (aa (ab7 hG a[i] (h.e _ (List.getElem_mem aF))) (af rfl ?_))))))
   rw[wI,aG aF h.n]
   exact ih (i+1) (by omega)
 exact loop a.length 0 (by omega)
theorem Vu(hG:HG G)(l:List ba):FX G 30 Dk ((l,()),())=some ((l.take 8,()),()):=by
 refine au (fn:=Tryz.f30) (hG _ _ rfl) (by kernel_rfl) (by kernel_rfl) ((ZP _ _ _).trans ?_)
 by_cases h:8<l.length
 ·have d1:decide (((l.length:Nat):Int)>8)=true:=decide_eq_true (by omega)
  have d2:aK l.length 0 8=true:=by simp[aK];omega
  simp only[d1,d2];rfl
 ·have d1:decide (((l.length:Nat):Int)>8)=false:=decide_eq_false (by omega)
  rw[List.take_of_length_le (by omega)]
  simp only[d1];rfl
theorem ab9(hG:HG G)(xM:∀o,ig G o){m:Nat}(h:cS)(ho:CC m h):FX G 34 Dl ((),(h,()))=some ((dd (iK h) (NF h),()),(h,())):=by
 refine au (fn:=Tryz.f34) (hG _ _ rfl) (by kernel_rfl) (by kernel_rfl) ((ZT _ _ _).trans ?_)
 exact aa (Vm hG xM (NF h) (iK h) ho.b ho.r) rfl
def RM(h:cS)(n:Int):List (List ba)×(Int×Unit):=if hIn h n then((iK h).drop (n-l8 h).toNat,(0,())) else([],(26,()))
theorem aca(hG:HG G){m:Nat}(h:cS)(ho:CC m h)(h8:∀e∈iK h,e.length≤50000000)(n:Int):FX G 32 sE ((n,()),(h,()))=some (RM h n,(h,())):=by
 refine au (fn:=Tryz.f32) (hG _ _ rfl) (by kernel_rfl) (by kernel_rfl) ((ZR _ _ _).trans ?_)
 have h1:=ho.f0;have h2:=ho.f1;have h3:=ho.n;have h4:=ho.m1
 have hl:Ip h=l8 h+((iK h).length:Nat):=rfl
 unfold RM
 by_cases ha:n<l8 h
 ·rw[if_neg (show ¬hIn h n by unfold hIn;omega)];exact ae (decide_eq_true ha) rfl
 refine af (decide_eq_false ha) (aa (LD hG h ho) ?_)
 by_cases hb:n>Ip h
 ·rw[if_neg (show ¬hIn h n by unfold hIn;omega)];exact ae (decide_eq_true hb) rfl
 refine af (decide_eq_false hb) ?_
 rw[if_pos (show hIn h n by unfold hIn;omega)]
 obtain⟨k,hk⟩:∃k:Nat,n=l8 h+k:=⟨(n-l8 h).toNat,by omega⟩
 have ew:IntKind.wrap .i64 (n-l8 h)=(k:Int):=by rw[wrap_small (by omega) (by omega)];omega
 refine ae (show aK (iK h).length (IntKind.wrap .i64 (n-l8 h)) (((iK h).length:Nat):Int)=true by rw[ew];simp[aK];omega) ?_
 have ec:cut (iK h) (IntKind.wrap .i64 (n-l8 h)) (((iK h).length:Nat):Int)=(iK h).drop k:=by
  rw[ew];unfold cut;rw[List.take_of_length_le (by omega)];rfl
 have ek:(n-l8 h).toNat=k:=by omega
 rw[ek]
 have hq8:∀e∈(iK h).drop k,e.length≤50000000:=fun e he=>h8 e (List.mem_of_mem_drop he)
 have hql:((iK h).drop k).length≤64:=by rw[List.length_drop];omega
 have loop:∀(q:List (List ba)),(∀e∈q,e.length≤50000000)→q.length≤64→∀(j i:Nat) (out:List (List ba)),out=q.take i→i+j=q.length →
   LX G 32 sE Tryz.f32 ry (aN Tryz.prog 32 0) ((q,(((q.length:Nat):Int),((i:Int),()))),(((h,()),(out,()))))=some ((q,((0:Int),())),(h,())):=by
  intro q hq8 hql j
  induction j with
  |zero =>
   intro i out oI hi
   refine ar (j:=0) (by kernel_rfl) ((KX _ _ _).trans (af (decide_eq_false (show ¬((i:Int)<((q.length:Nat):Int)) by omega)) ?_))
   show some ((out,((0:Int),())),(h,()))=_
   rw[oI,List.take_of_length_le (by omega)];rfl
  |succ j ih =>
   intro i out oI hi
   have aF:i<q.length:=by omega
   refine ar (j:=0) (by kernel_rfl) ((KX _ _ _).trans (ae (aW aF) (aa (aI (List.getElem?_eq_getElem aF)) (aa (Vn hG q[i] (hq8 _ (List.getElem_mem aF))) ?_))))
   have Tk:out.length≤64:=by rw[oI];simp;omega
   refine ae (fits (show out.length+1≤_ by omega)) ?_
   rw[wI,aG aF (by omega)]
   exact ih (i+1) (out++[q[i]]) (by rw[oI,List.take_succ_eq_append_getElem aF]) (by omega)
 exact(congrArg (fun q:List (List ba)=>LX G 32 sE Tryz.f32 ry (aN Tryz.prog 32 0) ((q,(((q.length:Nat):Int),((0:Int),()))),(((h,()),(([]:List (List ba)),()))))) ec).trans (loop _ hq8 hql ((iK h).drop k).length 0 [] rfl (by omega))
theorem Uf(hG:HG G)(xM:∀o,ig G o)(l:List (List ba))(n to:Int)(hl:l.length≤1073741824)(hf:∀e∈l,∀o∈e,Fit o)(hn:JK n)(ht:JK to):FX G 6 uG ((l,n,to,()),())=some ((true,()),()):=by
 refine au (fn:=Tryz.f6) (hG _ _ rfl) (by kernel_rfl) (by kernel_rfl) ((ZG _ _ _).trans ?_)
 refine aa (ab6 hG xM) (af rfl ?_)
 have loop:∀(j i:Nat) (own:List (List ba)),i+j=61→own.length≤i→i≤60→kM own→(∀e∈own,e.length≤8) →
   LX G 6 uG Tryz.f6 rv (aN Tryz.prog 6 0) ((l,(n,(to,((i:Int),())))),((((zS,((0:Int),(own,()))),()),(own,()))))=some ((true,()),()):=by
  intro j
  induction j with
  |zero=>intro i own hi ho h60;omega
  |succ j ih =>
   intro i own hi ho h60 hr h8
   have kI:CC 60 (zS,((0:Int),(own,()))):=⟨eU.zero,Int.le_refl _,(by show(0:Int)+((own.length:Nat):Int)≤_;omega),by omega,(by show own.length≤64;omega),hr⟩
   by_cases hc:i<l.length∧i<60
   ·obtain⟨aF,h6⟩:=hc
    have hm:=List.getElem_mem aF
    have hx:=aI (List.getElem?_eq_getElem aF)
    refine ar (j:=0) (by kernel_rfl) ((KV _ _ _).trans (ae (aW aF) (ae (decide_eq_true (show(i:Int)<60 by omega)) (aa hx (aa (Vu hG l[i]) ?_)))))
    have hlen:(l[i].take 8).length≤8:=by simp;omega
    have hfk:∀o∈l[i].take 8,Fit o:=fun o ho=>hf _ hm o (List.mem_of_mem_take ho)
    have ahw:=Vu hG l[i]
    generalize l[i].take 8=p at *
    refine aa (Vp hG _ kI (by omega) p (by omega) hfk) ?_
    have ew:=aG aF hl
    by_cases Uk:ck p=0
    ·have ea:B3 (zS,((0:Int),(own,()))) p=((((own.length:Nat):Int)+1,(0,())),(zS,((0:Int),(own++[p],())))):=by
      unfold B3
      rw[if_neg (by simp[Uk]),if_neg (show ¬64≤own.length by omega)]
      show((((0:Int)+((own.length:Nat):Int))+1,_),_)=_
      rw[Int.zero_add]
     rw[ea]
     refine ae rfl (aa hx (aa ahw (ae (fits (show own.length+1≤_ by omega)) ?_)))
     rw[wI,ew]
     refine ih (i+1) (own++[p]) (by omega) (by simp;omega) (by omega) ⟨by simp;omega,fun e he=>?_,fun e he=>?_⟩ fun e he=>?_
     ·rcases List.mem_append.1 he with he|he
      ·exact hr.e e he
      ·rw[List.mem_singleton.1 he];omega
     ·rcases List.mem_append.1 he with he|he
      ·exact hr.f e he
      ·rw[List.mem_singleton.1 he];exact hfk
     ·rcases List.mem_append.1 he with he|he
      ·exact h8 e he
      ·rw[List.mem_singleton.1 he];exact hlen
    ·have ea:B3 (zS,((0:Int),(own,()))) p=((0,(ck p,())),(zS,((0:Int),(own,())))):=by
      unfold B3
      rw[if_pos Uk]
     rw[ea]
     refine af (show(ck p==0)=false by simp[Uk]) ?_
     rw[wI,ew]
     exact ih (i+1) own (by omega) (by omega) (by omega) hr h8
   have acb:∃(k:Nat) (e:Int),k≤own.length∧xN (zS,((0:Int),(own,()))) to=(e,(dd (own.take k) zS,((k:Int),(own.drop k,())))):=by
    unfold xN
    split
    ·rename_i hi2
     unfold hIn at hi2
     have sf:Ip (zS,((0:Int),(own,())))=0+((own.length:Nat):Int):=rfl
     obtain⟨a,b⟩:=hi2
     have a:(0:Int)≤to:=a
     refine⟨to.toNat,0,by omega,?_⟩
     show((0:Int),(dd (own.take (to-0).toNat) zS,(to,(own.drop (to-0).toNat,()))))=_
     rw[Int.sub_zero,show((to.toNat:Nat):Int)=to by omega]
    ·exact⟨0,26,Nat.zero_le _,rfl⟩
   obtain⟨k,ee,hk,ec⟩:=acb
   have acd:=Vr hG xM _ kI to
   have hoc:=kI.comp to
   rw[ec]at acd hoc
   have ahx:=Vq hG xM _ hoc n
   have ahy:=aca hG _ hoc (fun e he=>by have:=h8 e (List.mem_of_mem_drop he);omega) n
   have ahz:=ab9 hG xM _ hoc
   have hlc:Ip (dd (own.take k) zS,((k:Int),(own.drop k,())))=((own.length:Nat):Int):=by
    show(k:Int)+(((own.drop k).length:Nat):Int)=_
    rw[List.length_drop];omega
   have Ux:=hr.n
   have all_eq:∀q:Nat,k≤q→dd ((own.drop k).take (q-k)) (dd (own.take k) zS)=dd (own.take q) zS:=fun q hq=>by
    rw[←vt]
    congr 1
    have:q=k+(q-k):=by omega
    conv=>rhs;rw[this,List.take_add]
   have whole:dd (own.drop k) (dd (own.take k) zS)=dd own zS:=by rw[←vt,List.take_append_drop]
   have tail:∀q:Nat,dd (own.drop q) (dd (own.take q) zS)=dd own zS:=fun q=>by rw[←vt,List.take_append_drop]
   refine ar (j:=0) (by kernel_rfl) ((KV _ _ _).trans ?_)
   by_cases aF:i<l.length
   case' pos=>refine ae (aW aF) (af (decide_eq_false (show ¬(i:Int)<60 by omega)) ?_)
   case' neg=>refine af (decide_eq_false (show ¬((i:Int)<((l.length:Nat):Int)) by omega)) ?_
   all_goals
    refine aa acd (aa ahx (aa ahy (aa (Vo hG _) ?_)))
    by_cases Uu:n<(k:Int)
    ·have C9:¬hIn (dd (own.take k) zS,((k:Int),(own.drop k,()))) n:=fun q=>by have:(k:Int)≤n:=q.1;omega
     have ea:X2 (dd (own.take k) zS,((k:Int),(own.drop k,()))) n=(zS,(26,())):=if_neg C9
     have es:RM (dd (own.take k) zS,((k:Int),(own.drop k,()))) n=([],(26,())):=if_neg C9
     rw[ea,es]
     exact ae (decide_eq_true Uu) (ae rfl (ae rfl (ae rfl rfl)))
    refine af (decide_eq_false Uu) ?_
    by_cases XD:n>((own.length:Nat):Int)
    ·have C9:¬hIn (dd (own.take k) zS,((k:Int),(own.drop k,()))) n:=fun q=>by have:=q.2;rw[hlc]at this;omega
     have ea:X2 (dd (own.take k) zS,((k:Int),(own.drop k,()))) n=(zS,(26,())):=if_neg C9
     have es:RM (dd (own.take k) zS,((k:Int),(own.drop k,()))) n=([],(26,())):=if_neg C9
     rw[ea,es]
     exact ae (decide_eq_true XD) (ae rfl (ae rfl (ae rfl rfl)))
    refine af (decide_eq_false XD) ?_
    have hi1:hIn (dd (own.take k) zS,((k:Int),(own.drop k,()))) n:=⟨by show(k:Int)≤n;omega,by rw[hlc];omega⟩
    obtain⟨q,rfl⟩:∃q:Nat,n=(q:Int):=⟨n.toNat,by omega⟩
    have hkq:k≤q:=by omega
    have eq1:(((q:Int)-(k:Int))).toNat=q-k:=by omega
    have ea:X2 (dd (own.take k) zS,((k:Int),(own.drop k,()))) (q:Int)=(dd (own.take q) zS,(0,())):=by
     refine(if_pos hi1).trans ?_
     show(dd ((own.drop k).take ((q:Int)-(k:Int)).toNat) (dd (own.take k) zS),_)=_
     rw[eq1,all_eq q hkq]
    have es:RM (dd (own.take k) zS,((k:Int),(own.drop k,()))) (q:Int)=(own.drop q,(0,())):=by
     refine(if_pos hi1).trans ?_
     show((own.drop k).drop ((q:Int)-(k:Int)).toNat,_)=_
     rw[eq1,List.drop_drop,show k+(q-k)=q by omega]
    rw[ea,es]
    have hql:q≤own.length:=by omega
    refine ae (show aK own.length 0 (q:Int)=true by simp[aK];omega) ?_
    have c1:cut own 0 (q:Int)=own.take q:=by unfold cut;rw[show Int.toNat (0:Int)=0 from rfl,List.drop_zero];rfl
    have c2:cut own (q:Int) (((own.length:Nat)):Int)=own.drop q:=by unfold cut;rw[List.take_of_length_le (by omega)];rfl
    refine aa ((congrArg (fun p:List (List ba)=>FX G 20 pq ((zS,p,()),())) c1).trans (Vt hG zS _ eU.zero (hr.take q) fun e he=>h8 e (List.mem_of_mem_take he))) ?_
    have Em:=eU.all (own.take q) eU.zero
    have alp:=Em.n
    refine aa (aaG hG (dd (own.take q) zS) (dd (own.take q) zS) Em.d.sm (by omega)) ?_
    refine ae (show aK own.length (q:Int) (((own.length:Nat)):Int)=true by simp[aK];omega) ?_
    refine aa ((congrArg (fun p:List (List ba)=>FX G 33 sF ((own.drop q,p,()),())) c2).trans (ab8 hG _ (hr.drop q))) ?_
    refine aa (Vt hG (dd (own.take q) zS) (own.drop q) Em (hr.drop q) fun e he=>h8 e (List.mem_of_mem_drop he)) ?_
    refine aa ahz ?_
    have Ny:=eU.all own eU.zero
    have alq:=Ny.n
    have f16:=aaG hG (dd (own.drop q) (dd (own.take q) zS)) (dd (own.drop k) (dd (own.take k) zS)) (by rw[tail q];exact Ny.d.sm) (by rw[tail q];omega)
    refine aa f16 (ae rfl (ae rfl (ae (decide_eq_true rfl) (ae rfl ?_))))
    exact congrArg (fun b:Bool=>some ((b,()),())) (decide_eq_true (by rw[tail q,whole]))
 exact loop 61 0 [] (by omega) (by simp) (by omega) ⟨by simp,fun e he=>(by cases he),fun e he=>(by cases he)⟩ fun e he=>by cases he
theorem Xz(l:List (List ba))(n to:Int)(hw:JB (.sl kd) l)(hn:JB (.int .i64) n)(ht:JB (.int .i64) to)(hb:dZ (.sl kd) l+dZ (.int .i64) n+dZ (.int .i64) to≤1048576):FX GP 6 uG ((l,n,to,()),())=some ((true,()),()):=by
 obtain⟨h1,h2⟩:=Hm (l:=l) (m:=1048576) (by omega)
 have htx:∀e∈l,∀o∈e,tw o:=fun e he o ho=>Nat.le_trans (h2 e he o ho) (by omega)
 exact Uf hgP ab3 l n to (by omega) (fun e he o ho=>Xw (hw e he o ho) (htx e he o ho)) (BY hn) (BY ht)
end Go.Vs
