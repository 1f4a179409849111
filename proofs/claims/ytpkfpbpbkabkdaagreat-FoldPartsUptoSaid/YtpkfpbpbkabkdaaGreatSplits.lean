/- Edges cut and split -/
import Derived.Test.YtpkfpbpbkabkdaaGreatFormed
import Derived.Test.YtpkfpbpbkabkdaaGreatTop
set_option linter.unusedVariables false
set_option linter.unusedSimpArgs false
namespace Go.Vs
open Go.Proofs
variable {G:(f:FuncId)→(g:aO)→Option (g.A→Option g.B)}
theorem WN(hG:HG G)(v:aM)(x:ab):FX G 232 Ex ((v,x,()),())=some ((tn v.1 x,()),()):=by refine aA (hG _ _ rfl) aa2 ?_;exact aa (WJ hG v.1 x) rfl
def dk(l:List aM)(x:ab):Nat:=l.countP fun v=>lA v.1 x
theorem Gm(l:List aM)(x:ab):dk l x≤l.length:=adV
theorem xM{l:List aM}{x:ab}(h:∀v∈l,lA v.1 x=false):dk l x=0:=by unfold dk;rw[List.countP_eq_zero];intro v hv;simp[h v hv]
theorem EP{x:ab}:∀{l:List aM},jg l→∀(k:Nat) (v:aM),l[k]? = some v→(lA v.1 x=true↔k<dk l x)
 |[],_,k,v,h=>by simp at h
 |w::r,hs,k,v,h=>by
  have hw:∀{u:aM},u∈r→lA w.1 u.1=true:=fun {u} hu=>acD hs hu;have hr:jg r:=hs.of_cons;by_cases aF:lA w.1 x=true
  ·have e:dk (w::r) x=dk r x+1:=by unfold dk;rw[List.countP_cons_of_pos (by simpa using aF)]
   cases k with
   |zero=>simp at h;subst h;simp[aF,e]
   |succ k=>have:=EP (x:=x) hr k v (by simpa using h);rw[this,e];omega
  ·have hn:∀u∈w::r,lA u.1 x=false:=fun u hu=>by
    rcases abw.1 hu with rfl|hu
    ·simpa using aF
    ·rw[Bool.eq_false_iff];intro h2;exact aF (gL (hw hu) h2)
   rw[xM hn,hn v (List.mem_of_getElem? h)];simp
theorem RT(hG:HG G)(l:List aM)(x:ab)(hs:jg l)(hl:l.length≤50000000):∀(n i j:Nat),j-i≤n→i≤dk l x→dk l x≤j→j≤l.length → LX G 233231 jA Tryz.f231 iQ (aZ Tryz.prog 231 0) ((l,(((l.length:Nat):Int),((i:Int),((j:Int),())))),(((x,()),()),()))=some (((((dk l x:Nat):Int),(decide ((l[dk l x]?).map (·.1)=some x),())):Int×(Bool×Unit)),()):=by
 have rh:=Gm l x;have fin:∀(i j:Nat),¬(i<j)→i≤dk l x→dk l x≤j→LX G 233231 jA Tryz.f231 iQ (aZ Tryz.prog 231 0) ((l,(((l.length:Nat):Int),((i:Int),((j:Int),())))),(((x,()),()),()))=some (((((dk l x:Nat):Int),(decide ((l[dk l x]?).map (·.1)=some x),())):Int×(Bool×Unit)),()):=fun i j AT h1 h2=>by
  have hi:i=dk l x:=by omega
  subst hi;refine aC BX ?_;refine af (decide_eq_false (show ¬(((dk l x:Nat):Int)<(j:Int)) by omega)) ?_;by_cases hc:dk l x<l.length
  ·have hx:l[dk l x]? = some l[dk l x]:=abv hc;refine ae (bg hc) ?_;refine aa (aR hx) ?_;refine aa (WN hG l[dk l x] x) ?_;refine congrArg (fun b:Bool=>some ((((dk l x:Nat):Int),(b,())),())) ?_;rw[hx];unfold tn;by_cases he:l[dk l x].1=x
   ·simp[he]
   ·simp[he];split<;>simp
  ·refine af (decide_eq_false (show ¬(((dk l x:Nat):Int)<((l.length:Nat):Int)) by omega)) ?_;refine congrArg (fun b:Bool=>some ((((dk l x:Nat):Int),(b,())),())) ?_;rw[List.getElem?_eq_none (by omega)];simp
 intro n
 induction n with
 |zero=>intro i j AT h1 h2 h3;exact fin i j (by omega) h1 h2
 |succ n ih =>
  intro i j AT h1 h2 h3;by_cases aF:i<j
  case neg=>exact fin i j aF h1 h2
  refine aC BX ?_;refine ae (decide_eq_true (show((i:Int)<(j:Int)) by omega)) ?_;refine af rfl ?_;have hm:=KW (i:=i) (j:=j) (by omega) (by omega);have hh:(i+j) / 2<l.length:=by omega
  have hx:l[(i+j) / 2]? = some l[(i+j) / 2]:=abv hh;have oz:=EP (x:=x) hs ((i+j) / 2) _ hx;refine aa (show bU l (IntKind.wrap .i64 (gQ .u64 (IntKind.wrap .u64 (IntKind.wrap .i64 ((i:Int)+(j:Int)))) (1:Int)))=some l[(i+j) / 2] by rw[hm];exact aR hx) ?_;refine aa (WN hG l[(i+j) / 2] x) ?_;by_cases ho:lA l[(i+j) / 2].1 x=true
  ·refine ae (decide_eq_true ((Af _ _).2 ho)) ?_;have hc:=oz.1 ho;have hw:IntKind.wrap .i64 (IntKind.wrap .i64 (gQ .u64 (IntKind.wrap .u64 (IntKind.wrap .i64 ((i:Int)+(j:Int)))) (1:Int))+1)=(((i+j) / 2+1:Nat):Int):=by rw[hm];exact aK hh (by omega)
   have:=ih ((i+j) / 2+1) j (by omega) (by omega) h2 h3;rw[←hw]at this;exact this
  ·refine af (decide_eq_false (fun h=>ho ((Af _ _).1 h))) ?_;have hc:¬(i+j) / 2<dk l x:=fun h=>ho (oz.2 h);have:=ih i ((i+j) / 2) (by omega) h1 (by omega) (by omega);rw[←hm]at this;exact this
theorem RU(hG:HG G)(l:List aM)(x:ab)(hs:jg l)(hl:l.length≤50000000) :
  FX G 233231 jA ((l,x,()),())=some (((((dk l x:Nat):Int),(decide ((l[dk l x]?).map (·.1)=some x),())):Int×(Bool×Unit)),()):=by
 refine aA (hG _ _ rfl) Rc ?_;exact RT hG l x hs hl l.length 0 l.length (by omega) (by omega) (Gm l x) (acn _)
theorem IQ(g:aM):∀{l:List aM},jg l→qL g l=if(l[dk l g.1]?).map (·.1)=some g.1 then l.set (dk l g.1) g else l.take (dk l g.1)++(g::l.drop (dk l g.1))
 |[],_=>rfl
 |w::r,hs=>by
  have hw:∀{u:aM},u∈r→lA w.1 u.1=true:=fun {u} hu=>acD hs hu;have hr:jg r:=ad9 hs;by_cases aF:lA w.1 g.1=true
  ·have e:dk (w::r) g.1=dk r g.1+1:=by unfold dk;rw[List.countP_cons_of_pos (by simpa using aF)]
   have aW:w.1≠g.1:=fun k=>by rw[k,dF]at aF;cases aF
   have qG:¬tn g.1 w.1≤0:=fun k=>by
    rcases qc.1 k with k|k
    ·exact aW k.symm
    ·have:=gL aF k;rw[dF]at this;cases this
   have ih:=IQ g hr;rw[e,qL,if_neg qG,if_pos aW,ih];simp only[List.getElem?_cons_succ,List.set_cons_succ,List.take_succ_cons,List.drop_succ_cons,List.cons_append]
   split<;>rfl
  ·have hn:∀u∈w::r,lA u.1 g.1=false:=fun u hu=>by
    rcases abw.1 hu with rfl|hu
    ·simpa using aF
    ·rw[Bool.eq_false_iff];intro h2;exact aF (gL (hw hu) h2)
   rw[xM hn];by_cases he:w.1=g.1
   ·have Yg:tn g.1 w.1≤0:=qc.2 (.inl he.symm);have h1:tp g (w::r)=r:=by
     have:tp g (w::r)=tp g r:=by unfold tp;rw[List.filter_cons_of_neg (by simp[he])]
     rw[this];exact s6 (fun q hq k=>by have:=hw hq;rw[k,he,dF]at this;cases this)
    rw[qL,if_pos Yg,h1,if_pos (by simp[he])];rfl
   ·have JK:lA g.1 w.1=true:=xI (by simpa using aF) he;have Yg:tn g.1 w.1≤0:=qc.2 (.inr JK);have h1:tp g (w::r)=w::r:=s6 (fun q hq k=>by
     rcases abw.1 hq with rfl|hq
     ·exact he k
     ·have:=gL JK (hw hq);rw[k,dF]at this;cases this)
    rw[qL,if_pos Yg,h1,if_neg (by simp[he])];rfl
theorem ER{x:ab}:∀{l:List aM},jg l→(mF l x).isSome=decide ((l[dk l x]?).map (·.1)=some x)
 |[],_=>rfl
 |w::r,hs=>by
  have hw:∀{u:aM},u∈r→lA w.1 u.1=true:=fun {u} hu=>acD hs hu;have hr:jg r:=ad9 hs;rw[qd];by_cases aF:lA w.1 x=true
  ·have e:dk (w::r) x=dk r x+1:=by unfold dk;rw[List.countP_cons_of_pos (by simpa using aF)]
   have aW:w.1≠x:=fun k=>by rw[k,dF]at aF;cases aF
   rw[e,if_neg aW,ER hr,List.getElem?_cons_succ]
  ·have hn:∀u∈w::r,lA u.1 x=false:=fun u hu=>by
    rcases abw.1 hu with rfl|hu
    ·simpa using aF
    ·rw[Bool.eq_false_iff];intro h2;exact aF (gL (hw hu) h2)
   rw[xM hn];by_cases he:w.1=x
   ·simp[he]
   ·have JK:lA x w.1=true:=xI (by simpa using aF) he;have:mF r x=none:=by
     unfold mF;have:(List.find? (fun q=>decide (q.1=x)) r)=none:=by
      rw[List.find?_eq_none];intro q hq k;have k:q.1=x:=by simpa using k
      have:=gL JK (hw hq);rw[k,dF]at this;cases this
     rw[this];rfl
    rw[if_neg he,this];simp[he]
theorem abY(hG:HG G)(l:List aM)(g:aM)(hs:jg l)(hl:l.length≤50000000):FX G 215 H3 ((l,g,()),())=some ((bS l g,()),()):=by
 refine aA (hG _ _ rfl) aaT ?_;refine aa (RU hG l g.1 hs hl) ?_;refine aa (X9 (hG _ _ rfl) l hl) ?_;unfold bS;rw[ER hs,IQ g hs];have hc:dk l g.1≤l.length:=Gm l g.1;by_cases h:(l[dk l g.1]?).map (·.1)=some g.1
 ·rw[decide_eq_true h,if_neg (fun k=>by cases k.1),if_pos h];refine ae rfl ?_;obtain⟨u,hu,_⟩:∃u,l[dk l g.1]? = some u∧u.1=g.1:=by
   cases hq:l[dk l g.1]? with
   |none=>rw[hq]at h;cases h
   |some u=>rw[hq]at h;exact⟨u,rfl,by simpa using h⟩
  have aF:=(abr.1 hu).1;refine ae (cY (kS _) (bg aF)) ?_;exact aa hu rfl
 ·rw[decide_eq_false h,if_neg h];refine af rfl ?_;by_cases h4:400≤l.length
  ·rw[if_pos ⟨rfl,h4⟩];exact af (decide_eq_false (show ¬((l.length:Nat):Int)<400 by omega)) rfl
  ·rw[if_neg (fun k=>h4 k.2)];refine ae (decide_eq_true (show((l.length:Nat):Int)<400 by omega)) ?_;have ki:qW l ((dk l g.1:Nat):Int) [g]=true:=by unfold qW;rw[decide_eq_true (show(0:Int)≤((dk l g.1:Nat):Int) by omega),decide_eq_true (show((dk l g.1:Nat):Int)≤((l.length:Nat):Int) by omega)];rw[fits (by simp;omega)];rfl
   refine ae ki ?_;have e:fZ l ((dk l g.1:Nat):Int) [g]=l.take (dk l g.1)++(g::l.drop (dk l g.1)):=by unfold fZ;simp
   exact congrArg (fun r:List aM=>some ((r,()),())) e
theorem ES(hG:HG G)(w:aQ)(x to:ab)(hs:jg w.2.2.1)(hl:w.2.2.1.length≤50000000):FX G 183 BD ((x,to,()),(w,()))=some ((),((w.1,(w.2.1,(bS w.2.2.1 (x,to),()))),())):=by refine aA (hG _ _ rfl) aaC ?_;exact aa (abY hG w.2.2.1 (x,to) hs hl) rfl
theorem ET(hG:HG G)(w:aQ)(x:ab)(hw:Rw w.1)(hl:w.1.length≤50000000)(hr:∀v∈w.1,v.2.1.length≤50000000){k:Nat}{v:ai}(hk:w.1[k]? = some v)(hx:x∈v.2.1) :
  FX G 185 mq ((x,()),(w,()))=some (((some ((⟨0,by decide⟩:Fin 1),k)),()),(w,())):=by
 refine aA (hG _ _ rfl) aaE ?_;have Xs:=(abr.1 hk).1;have loop:∀(n i:Nat),i+n=k→LX G 185 mq Tryz.f185 vN (aZ Tryz.prog 185 0) ((((w.1.length:Nat):Int),((i:Int),())),((w,((x,()),())),()))=some (((some ((⟨0,by decide⟩:Fin 1),k)),()),(w,())):=by
  intro n
  induction n with
  |zero =>
   intro i hi;have hi:i=k:=by omega
   subst hi;refine aC L3 ?_;refine ae (bg Xs) (ae (cY (kS _) (bg Xs)) (aa hk ?_));refine aa (EJ hG v.2.1 x (by have:=hr v (acy hk);omega)) ?_;exact ae (decide_eq_true hx) rfl
  |succ n ih =>
   intro i hi;have o5:i<w.1.length:=by omega
   have hu:w.1[i]? = some w.1[i]:=abv o5;have El:x∉w.1[i].2.1:=fun hxi=>by have h1:w.1[i]=v:=hw.one (acy hk) (acC o5) hx hxi;have h2:=j6 hw.s hk rfl;have h3:=j6 hw.s (x:=v.1) hu (by rw[h1]);omega
   refine aC L3 ?_;refine ae (bg o5) (ae (cY (kS _) (bg o5)) (aa hu ?_));refine aa (EJ hG w.1[i].2.1 x (by have:=hr _ (acC o5);omega)) ?_;refine af (decide_eq_false El) ?_;have:=ih (i+1) (by omega);rw[←aK o5 (by omega)]at this;exact this
 exact loop k 0 (by omega)
theorem K4{l:List ai}{k:Nat}{v:ai}(hs:bY l)(hk:l[k]? = some v)(r:List ab):l.set k (v.1,(r,v.2.2))=l.map (xu v.1 r):=by
 have h:=jJ hs (acy hk);rw[j6 hs hk rfl];refine(IJ hs h (xu v.1 r) (fun u=>(u.1,(r,u.2.2))) (fun u hu=>?_) (fun u hu=>?_)).symm
 ·unfold xu;rw[if_pos hu]
 ·unfold xu;rw[if_neg hu]
theorem rJ{l:List ai}{x:ab}(h:x∈aj l):∃(k:Nat) (v:ai),l[k]? = some v∧x∈v.2.1∧v∈l:=by obtain⟨v,hv,hx⟩:=aT.1 h;obtain⟨k,hk,he⟩:=adY hv;exact⟨k,v,by rw[List.getElem?_eq_getElem hk,he],hx,hv⟩
structure Sv(l:List ai):Prop where
 n:l.length≤50000000
 r:∀v∈l,v.2.1.length≤50000000
theorem RV{n:Int}(h:n=0∨n=1):eT .xor .i64 n 1=IntKind.wrap .i64 (1-n):=by rcases h with rfl|rfl<;>decide
theorem IS(hG:G 188 oF=none)(x:ab)(h:x.2=0∨x.2=1):FX G 188 oF ((x,()),())=some ((ag x,()),()):=by refine aA hG aaH ?_;exact congrArg (fun n:Int=>some ((((x.1,n):ab),()),())) (RV h)
theorem ON{d:ak}(h:Rw d.1){v:ai}{x:ab}(hv:v∈d.1)(hx:x∈v.2.1):fh d x=if(mE v.2.1 x).1=x.1 then(if(mE v.2.1 (mE v.2.1 x)).1=x.1 then zD else mE v.2.1 (mE v.2.1 x)) else mE v.2.1 x:=by
 unfold fh;have e:cM d ((ed d x).getD zI)=v.2.1:=by unfold ed;rw[dS h hv hx];exact j8 h.s hv
 simp only[e];by_cases h1:(mE v.2.1 x).1=x.1
 ·simp only[if_pos h1]
 ·simp only[if_neg h1]
theorem WO(hG:HG G)(w:aQ)(x:ab)(hw:Rw w.1)(hs:Sv w.1)(hx:x∈aj w.1)(e:List aq):FX G 184 BE ((x,()),(w,()))=some ((fh (w.1,e) x,()),(w,())):=by
 obtain⟨k,v,hk,lg,hv⟩:=rJ hx;have N2:=hs.r v hv;refine aA (hG _ _ rfl) aaD ?_;rw[ON (d:=(w.1,e)) hw hv lg];have prev:∀y:ab,FX G 140 Ev ((v.2.1,y,()),())=some (((mE v.2.1 y),((TN (jc v.2.1 y (v.2.1.length-1))).2)),()):=fun y=>by refine(abW hG v.2.1 y (by omega)).trans ?_;have:(TN (jc v.2.1 y (v.2.1.length-1))).1=mE v.2.1 y:=UU _;rw[←this]
 have nR:∀y:ab,((y.1.1==x.1.1)&&(y.1.2==x.1.2))=decide (y.1=x.1):=fun y=>Cc y.1 x.1;refine aC FV ?_;refine ae rfl (aa (ET hG w x hw hs.n hs.r hk lg) ?_);refine tS rfl (ae rfl (aa hk ?_));refine aa (prev x) ?_;by_cases h1:(mE v.2.1 x).1=x.1
 ·rw[if_pos h1];refine bc ((nR _).trans (decide_eq_true h1)) ?_;refine aC FV ?_;refine ae rfl (aa (ET hG w x hw hs.n hs.r hk lg) ?_);refine tS rfl (ae rfl (aa hk ?_));refine aa (prev (mE v.2.1 x)) ?_;by_cases h2:(mE v.2.1 (mE v.2.1 x)).1=x.1
  ·rw[if_pos h2];refine bc ((nR _).trans (decide_eq_true h2)) ?_;refine aC FV ?_;exact af rfl rfl
  ·rw[if_neg h2];exact bc ((nR _).trans (decide_eq_false h2)) rfl
 ·rw[if_neg h1];exact bc ((nR _).trans (decide_eq_false h1)) rfl
theorem IT{l:List aq}{x:ID}(hs:dd l)(h:(aV l x).isSome=true)(hl:l.length≤50000000) :
  jP l ((bZ l x:Nat):Int) (IntKind.wrap .i64 (((bZ l x:Nat):Int)+1))=true∧dh l ((bZ l x:Nat):Int) (IntKind.wrap .i64 (((bZ l x:Nat):Int)+1))=dX l x:=by
 obtain⟨e,he⟩:=acv.1 h;have aF:=(abr.1 (mJ hs he)).1;have hw:IntKind.wrap .i64 (((bZ l x:Nat):Int)+1)=((bZ l x+1:Nat):Int):=aK aF (by omega);constructor
 ·rw[hw];unfold jP;rw[decide_eq_true (show(0:Int)≤((bZ l x:Nat):Int) by omega),decide_eq_true (show((bZ l x:Nat):Int)<((bZ l x+1:Nat):Int) by omega),decide_eq_true (show((bZ l x+1:Nat):Int)≤((l.length:Nat):Int) by omega),fits (by omega)];rfl
 ·rw[hw,xG hs h];unfold dh;simp only[Int.toNat_natCast]
theorem RW{l:List ai}{x:ID}(hs:bY l)(h:(aL l x).isSome=true)(hl:l.length≤50000000) :
  jP l ((bB l x:Nat):Int) (IntKind.wrap .i64 (((bB l x:Nat):Int)+1))=true∧dh l ((bB l x:Nat):Int) (IntKind.wrap .i64 (((bB l x:Nat):Int)+1))=dv l x:=by
 obtain⟨e,he⟩:=acv.1 h;have aF:=(abr.1 (cZ hs he)).1;have hw:IntKind.wrap .i64 (((bB l x:Nat):Int)+1)=((bB l x+1:Nat):Int):=aK aF (by omega);constructor
 ·rw[hw];unfold jP;rw[decide_eq_true (show(0:Int)≤((bB l x:Nat):Int) by omega),decide_eq_true (show((bB l x:Nat):Int)<((bB l x+1:Nat):Int) by omega),decide_eq_true (show((bB l x+1:Nat):Int)≤((l.length:Nat):Int) by omega),fits (by omega)];rfl
 ·rw[hw,xC hs h];unfold dh;simp only[Int.toNat_natCast]
theorem Sv.re{l:List ai}(h:Sv l)(x:ID){r:List ab}(hr:r.length≤50000000):Sv (l.map (xu x r)):=by
 refine⟨by simp;exact h.n,fun w hw=>?_⟩;obtain⟨u,hu,rfl⟩:=acx.1 hw;unfold xu
 split
 ·exact hr
 ·exact h.r u hu
theorem Ct{row:List ab}(d:ab):(jl row d).length≤row.length:=by unfold jl;rw[gu];exact adI _ _
theorem Mz{w:aQ}{x:ab}(hw:Rw w.1){k:Nat}{v:ai}(hk:w.1[k]? = some v)(hx:x∈v.2.1)(e:List aq):w.1.set k (v.1,(jl v.2.1 x,v.2.2))=(aE (w.1,e) x).1:=by rw[j9 (d:=(w.1,e)) hw (List.mem_of_getElem? hk) hx];exact K4 hw.s hk _
theorem agq(hG:HG G)(s:StateT)(o:aY)(h:dM s)(hs:Sv s.1.1) :
  ∃(e:Int) (w:aQ),FX G 155 BA ((o,()),(aG s,()))=some ((e,()),(w,()))∧jI e w=IG s o:=by
 have aW:=h.d.ne;unfold IG
 cases hf:(aV s.1.2 (bu o)).isSome with
 |false =>
  refine⟨13,aG s,?_,?_⟩
  ·refine aA (hG _ _ rfl) aat ?_;refine aa (oT hG (aG s) (bu o) h.d.se (by show s.1.2.length≤_;omega)) ?_;exact bc ((c8 (l:=s.1.2) h.d.se).trans hf) rfl
  ·rw[if_pos (show(nR s.1 (bu o)).isSome=false from hf)];rfl
 |true =>
  rw[if_neg (show ¬(nR s.1 (bu o)).isSome=false by show ¬(aV s.1.2 (bu o)).isSome=false;rw[hf];simp)];obtain⟨x,hx⟩:∃x:ab,x=(bu o,0):=⟨_,rfl⟩;obtain⟨y,hy⟩:∃y:ab,y=(bu o,1):=⟨_,rfl⟩;have hxd:x∈aj s.1.1:=by rw[hx];exact h.d.mL hf (.inl rfl)
  have hyd:y∈aj s.1.1:=by rw[hy];exact h.d.mL hf (.inr rfl)
  have g1:=kc h.g h.n (x,fh s.1 x);have hn:=h.n;obtain⟨p1,q1⟩:=fi h.d.rw hxd;have ags:y∈aj (aE s.1 x).1:=by
   rcases abw.1 (p1.mem_iff.1 hyd) with k|k
   ·rw[hx,hy]at k;cases k
   ·exact k
  have Mx:=kb (kb h.d.gv x) y;refine⟨0,((aE (aE s.1 x) y).1,(dX s.1.2 (bu o),(bS (bS s.2 (x,fh s.1 x)) (y,fh s.1 y),()))),?_,?_⟩
  ·refine aA (hG _ _ rfl) aat ?_;refine aa (oT hG (aG s) (bu o) h.d.se (by show s.1.2.length≤_;omega)) ?_;refine bc ((c8 (l:=s.1.2) h.d.se).trans hf) (af rfl ?_);have agt:FX G 179 BB ((bu o,()),())=some ((x,y,()),()):=by rw[hx,hy];exact aA (hG _ _ rfl) Wt rfl
   refine aa agt ?_;refine aC Kz ?_;refine ae rfl (ae rfl (aa (a:=x) rfl ?_));refine aa (WO hG (aG s) x h.d.rw hs hxd s.1.2) ?_;refine aa (ES hG (aG s) x (fh s.1 x) h.g (by show s.2.length≤_;omega)) ?_;refine aC Kz ?_;refine ae rfl (ae rfl (aa (a:=y) rfl ?_));refine aa (WO hG (s.1.1,(s.1.2,(bS s.2 (x,fh s.1 x),()))) y h.d.rw hs hyd s.1.2) ?_;refine aa (ES hG (s.1.1,(s.1.2,(bS s.2 (x,fh s.1 x),()))) y (fh s.1 y) g1.1 (by have:=g1.2;show(bS s.2 (x,fh s.1 x)).length≤_;omega)) ?_;refine aC Kz ?_;refine af rfl ?_;generalize bS (bS s.2 (x,fh s.1 x)) (y,fh s.1 y)=gg;obtain⟨k,v,hk,lg,hv⟩:=rJ hxd;refine aC KA ?_;refine ae rfl (ae rfl (aa (a:=x) rfl ?_));refine aa (ET hG (s.1.1,(s.1.2,(gg,()))) x h.d.rw hs.n hs.r hk lg) ?_;refine tS rfl (ae rfl (aa hk ?_));refine aa (WL hG v.2.1 x (h.d.rw.ring hv) (hs.r v hv)) ?_;refine aa hk ?_;have e1:s.1.1.set k (v.1,(jl v.2.1 x,v.2.2))=(aE s.1 x).1:=Mz (w:=(s.1.1,(s.1.2,(gg,())))) h.d.rw hk lg s.1.2;have JM:Sv (aE s.1 x).1:=by rw[j9 h.d.rw hv lg];exact hs.re _ (acB (Ct x) (hs.r v hv))
   obtain⟨k2,v2,mY,TP,yj⟩:=rJ ags;have e2:(aE s.1 x).1.set k2 (v2.1,(jl v2.2.1 y,v2.2.2))=(aE (aE s.1 x) y).1:=Mz (w:=((aE s.1 x).1,(s.1.2,(gg,())))) q1 mY TP (aE s.1 x).2;have rest:∀a:List ai,a=(aE s.1 x).1→LX G 155 BA Tryz.f155 xl (aZ Tryz.prog 155 1) ((((bZ s.1.2 (bu o):Nat):Int),((2:Int),((1:Int),()))),(((a,(s.1.2,(gg,()))),()),([x,y],())))=some (((0:Int),()),(((aE (aE s.1 x) y).1,(dX s.1.2 (bu o),(gg,()))),())):=by
    intro a ha;subst ha;refine aC KA ?_;refine ae rfl (ae rfl (aa (a:=y) rfl ?_));refine aa (ET hG ((aE s.1 x).1,(s.1.2,(gg,()))) y q1 JM.n JM.r mY TP) ?_;refine tS rfl (ae rfl (aa mY ?_));refine aa (WL hG v2.2.1 y (q1.ring yj) (JM.r v2 yj)) ?_;refine aa mY ?_;have last:∀b:List ai,b=(aE (aE s.1 x) y).1→LX G 155 BA Tryz.f155 xl (aZ Tryz.prog 155 1) ((((bZ s.1.2 (bu o):Nat):Int),((2:Int),((2:Int),()))),(((b,(s.1.2,(gg,()))),()),([x,y],())))=some (((0:Int),()),(((aE (aE s.1 x) y).1,(dX s.1.2 (bu o),(gg,()))),())):=by intro b hb;subst hb;refine aC KA ?_;obtain⟨d1,d2⟩:=IT h.d.se hf (by omega);refine af rfl (ae d1 ?_);exact congrArg (fun l:List aq=>some (((0:Int),()),(((aE (aE s.1 x) y).1,(l,(gg,()))),()))) d2
    exact last _ e2
   exact rest _ e1
  ·rw[←hx,←hy];unfold aI;rw[sY Mx];rfl
theorem K5{n:Int}(h0:0≤n)(h3:n≤3):eT .xor .i64 1 (eT .and .i64 n 1)=IntKind.wrap .i64 (1-Int.tmod n 2)∧gQ .i64 n 1=IntKind.wrap .i64 (Int.tdiv n 2):=by
 have:n=0∨n=1∨n=2∨n=3:=by omega
 rcases this with rfl|rfl|rfl|rfl<;>exact⟨by decide,by decide⟩
theorem IU{l:List ai}{x:ab}(hw:Rw l){k:Nat}{v:ai}(hk:l[k]? = some v)(hx:x∈v.2.1)(y:ab)(e:List aq):l.set k (v.1,(gx v.2.1 x y,v.2.2))=(aw (l,e) x y).1:=by rw[p7 (d:=(l,e)) hw y (List.mem_of_getElem? hk) hx];exact K4 hw.s hk _
theorem agu(hG:HG G)(s:StateT)(o:aY)(h:dM s)(hs:Sv s.1.1)(hm:cX o=0)(Yh:o.1=5) :
    ∃(e:Int) (w:aQ),FX G 156 zr ((o,()),(aG s,()))=some ((e,()),(w,()))∧jI e w=nS s o:=by
  have aW:=h.d.ne;have JZ:=h.d.nv;obtain⟨m1,m2,m3,m4⟩:=xL hm Yh;obtain⟨s1,s2⟩:=Cs m3 m4;obtain⟨c1,c2⟩:=K5 m3 m4;have key:∀(e:Int) (w:aQ),FX G 156 zr ((o,()),(aG s,()))=some ((e,()),(w,()))→jI e w=nS s o→∃(e:Int) (w:aQ),FX G 156 zr ((o,()),(aG s,()))=some ((e,()),(w,()))∧jI e w=nS s o:=fun e w a b=>⟨e,w,a,b⟩;have start:∀(e:Int) (w:aQ),cm 156 zr Tryz.f156 (FX G) (LX G 156 zr Tryz.f156) ((o,()),(aG s,()))=some ((e,()),(w,()))→FX G 156 zr ((o,()),(aG s,()))=some ((e,()),(w,())):=fun e w a =>aA (hG _ _ rfl) a rfl;unfold nS
  cases hf:(aV s.1.2 (bu o)).isSome with
  |false =>
    refine⟨13,aG s,start _ _ ((UB).trans ?_),?_⟩
    · refine aa (oT hG (aG s) (bu o) h.d.se (by show s.1.2.length≤_;omega)) ?_
      refine aa (qz hG (aG s) (fQ o) h.d.sv (by show s.1.1.length≤_;omega)) ?_;refine aa (oT hG (aG s) (bM o) h.d.se (by show s.1.2.length≤_;omega)) ?_;exact bc ((c8 (l:=s.1.2) h.d.se).trans hf) rfl
    · rw[if_pos (show(nR s.1 (bu o)).isSome=false from hf)];rfl
  |true =>
  rw[if_neg (show ¬(nR s.1 (bu o)).isSome=false by show ¬(aV s.1.2 (bu o)).isSome=false;rw[hf];simp)]
  cases Up:(aL s.1.1 (fQ o)).isSome with
  |true =>
    refine⟨12,aG s,start _ _ ((UB).trans ?_),?_⟩
    · refine aa (oT hG (aG s) (bu o) h.d.se (by show s.1.2.length≤_;omega)) ?_
      refine aa (qz hG (aG s) (fQ o) h.d.sv (by show s.1.1.length≤_;omega)) ?_;refine aa (oT hG (aG s) (bM o) h.d.se (by show s.1.2.length≤_;omega)) ?_;refine bc ((c8 (l:=s.1.2) h.d.se).trans hf) (af rfl ?_);exact ae ((fK (l:=s.1.1) h.d.sv).trans Up) rfl
    · rw[if_pos (show(cd s.1 (fQ o)).isSome=true from Up)];rfl
  |false =>
  rw[if_neg (show ¬(cd s.1 (fQ o)).isSome=true by show ¬(aL s.1.1 (fQ o)).isSome=true;rw[Up];simp)]
  cases UF:(aV s.1.2 (bM o)).isSome with
  |true =>
    refine⟨12,aG s,start _ _ ((UB).trans ?_),?_⟩
    · refine aa (oT hG (aG s) (bu o) h.d.se (by show s.1.2.length≤_;omega)) ?_
      refine aa (qz hG (aG s) (fQ o) h.d.sv (by show s.1.1.length≤_;omega)) ?_;refine aa (oT hG (aG s) (bM o) h.d.se (by show s.1.2.length≤_;omega)) ?_;refine bc ((c8 (l:=s.1.2) h.d.se).trans hf) (af rfl ?_);refine af ((fK (l:=s.1.1) h.d.sv).trans Up) ?_;exact ae ((c8 (l:=s.1.2) h.d.se).trans UF) rfl
    · rw[if_pos (show(nR s.1 (bM o)).isSome=true from UF)];rfl
  |false =>
  rw[if_neg (show ¬(nR s.1 (bM o)).isSome=true by show ¬(aV s.1.2 (bM o)).isSome=true;rw[UF];simp)];have agv:aL s.1.1 (fQ o)=none:=by simpa using Up
  have agw:aV s.1.2 (bM o)=none:=by simpa using UF
  obtain⟨m,Pr⟩:∃m:ab,m=TO o:=⟨_,rfl⟩;obtain⟨kk,Ue⟩:∃m:ab,m=Px o:=⟨_,rfl⟩;have K2:m∈aj s.1.1:=by rw[Pr];exact h.d.mL hf s1
  have Eg:ag kk∉aj s.1.1:=by rw[Ue];exact h.d.ta agw _
  obtain⟨p1,q1⟩:=jK h.d.rw K2 Eg;have mY:kk.2=0∨kk.2=1:=by rw[Ue];exact s2
  obtain⟨k,v,hk,lg,hv⟩:=rJ K2;have e1:s.1.1.set k (v.1,(gx v.2.1 m (ag kk),v.2.2))=(aw s.1 m (ag kk)).1:=IU h.d.rw hk lg _ s.1.2;have hlen:(aw s.1 m (ag kk)).1.length=s.1.1.length:=by unfold aw;exact fj _ _ _
  have U3:aL (aw s.1 m (ag kk)).1 (fQ o)=none:=by unfold aw Vs.cf;rw[oS (rI _ _),agv];rfl
  have eM:((bu o,eT .xor .i64 1 (eT .and .i64 (oN o) 1)):ab)=m:=by rw[Pr,c1];rfl
  have eK:((bM o,gQ .i64 (oN o) 1):ab)=kk:=by rw[Ue,c2];rfl
  have go:∀(e:Int) (w:aQ),(∀a:List ai,a=(aw s.1 m (ag kk)).1→((FX G 152 HT (((fQ o,(cq [m,kk],(e0,(0:Int)))),()),((a,(s.1.2,(s.2,()))),()))).bind fun(qw:((Int×Unit)×(aQ×Unit))) =>cond (qw.1.1 != (0:Int)) (some (qw.1,((qw.2.1.1,(qw.2.1.2.1,qw.2.1.2.2)),()))) ((FX G 178 yK ((bM o,()),((qw.2.1.1,(qw.2.1.2.1,qw.2.1.2.2)),()))).bind fun(tO:((Int×Unit)×(aQ×Unit))) =>some (tO.1,((tO.2.1.1,(tO.2.1.2.1,tO.2.1.2.2)),()))))=some ((e,()),(w,())))→FX G 156 zr ((o,()),(aG s,()))=some ((e,()),(w,())):=fun e w rest=>by
    refine start _ _ ((UB).trans ?_);refine aa (oT hG (aG s) (bu o) h.d.se (by show s.1.2.length≤_;omega)) ?_;refine aa (qz hG (aG s) (fQ o) h.d.sv (by show s.1.1.length≤_;omega)) ?_;refine aa (oT hG (aG s) (bM o) h.d.se (by show s.1.2.length≤_;omega)) ?_;refine bc ((c8 (l:=s.1.2) h.d.se).trans hf) (af rfl ?_);refine af ((fK (l:=s.1.1) h.d.sv).trans Up) ?_;refine af ((c8 (l:=s.1.2) h.d.se).trans UF) ?_;refine af rfl ?_;have body:∀mm k2:ab,mm=m→k2=kk→((FX G 185 mq ((mm,()),(aG s,()))).bind fun(y4:(((Option ((Fin 1)×Nat))×Unit)×(aQ×Unit))) =>qV y4.1.1 (none) fun(p5:((Fin 1)×Nat)) =>cond (p5.1.val==0) (((y4.2.1.1)[p5.2]?).bind fun(y6:ai) =>(FX G 188 oF ((k2,()),())).bind fun(y7:((ab×Unit)×Unit)) =>(FX G 187 tM ((y6.2.1,(mm,((y7.1.1.1,y7.1.1.2),()))),())).bind fun(y8:(((List ab)×Unit)×Unit)) =>((y4.2.1.1)[p5.2]?).bind fun(y9:ai) =>(FX G 169 qv (([mm,k2],()),())).bind fun(uy:(((List ab)×Unit)×Unit)) =>(FX G 152 HT (((fQ o,(uy.1.1,((⟨#[]⟩:ByteArray),(0:Int)))),()),(((List.set y4.2.1.1 p5.2 (y9.1,(y8.1.1,y9.2.2))),(y4.2.1.2.1,y4.2.1.2.2)),()))).bind fun(qw:((Int×Unit)×(aQ×Unit))) =>cond (qw.1.1 != (0:Int)) (some (qw.1,((qw.2.1.1,(qw.2.1.2.1,qw.2.1.2.2)),()))) ((FX G 178 yK ((bM o,()),((qw.2.1.1,(qw.2.1.2.1,qw.2.1.2.2)),()))).bind fun(tO:((Int×Unit)×(aQ×Unit))) =>some (tO.1,((tO.2.1.1,(tO.2.1.2.1,tO.2.1.2.2)),())))) (none))=some ((e,()),(w,())):=by intro mm k2 agx agy;subst agx agy;refine aa (ET hG (aG s) mm h.d.rw hs.n hs.r hk lg) ?_;refine tS rfl (ae rfl (aa hk ?_));refine aa (IS (hG _ _ rfl) k2 mY) ?_;refine aa (WM hG v.2.1 mm (ag k2) (hs.r v hv)) ?_;refine aa hk ?_;refine aa (Cl hG [mm,k2] (by simp)) ?_;exact rest _ e1
    exact body _ _ eM eK
  have agz:24≤s.1.1.length→qA ((aw s.1 m (ag kk)).1,(s.1.2,(s.2,()))) (fQ o,(cq [m,kk],(e0,0)))=(3,((aw s.1 m (ag kk)).1,(s.1.2,(s.2,())))):=fun hb=>by unfold qA;rw[if_neg (by rw[show aL ((aw s.1 m (ag kk)).1,(s.1.2,(s.2,()))).1 ((fQ o,(cq [m,kk],(e0,0))):ai).1=none from U3];simp)];rw[if_pos (by show 24≤(aw s.1 m (ag kk)).1.length;omega)]
  have Yi:¬24≤s.1.1.length→qA ((aw s.1 m (ag kk)).1,(s.1.2,(s.2,()))) (fQ o,(cq [m,kk],(e0,0)))=(0,(cW (fQ o,(cq [m,kk],(e0,0))) (aw s.1 m (ag kk)).1,(s.1.2,(s.2,())))):=fun hb=>by unfold qA;rw[if_neg (by rw[show aL ((aw s.1 m (ag kk)).1,(s.1.2,(s.2,()))).1 ((fQ o,(cq [m,kk],(e0,0))):ai).1=none from U3];simp)];rw[if_neg (by show ¬24≤(aw s.1 m (ag kk)).1.length;omega)]
  by_cases hb:24≤s.1.1.length
  · refine⟨3,((aw s.1 m (ag kk)).1,(s.1.2,(s.2,()))),go _ _ (fun a ha=>?_),?_⟩
    · subst ha
      refine aa (Ya hG ((aw s.1 m (ag kk)).1,(s.1.2,(s.2,()))) (fQ o,(cq [m,kk],(e0,0))) q1.s (by show(aw s.1 m (ag kk)).1.length≤_;omega)) ?_;rw[agz hb];exact ae rfl rfl
    · rw[if_pos hb];rfl
  rw[if_neg hb];have hE:tT (cW (fQ o,(cq [m,kk],(e0,0))) (aw s.1 m (ag kk)).1,(s.1.2,(s.2,()))) (bM o)=if 40≤s.1.2.length then(3,(cW (fQ o,(cq [m,kk],(e0,0))) (aw s.1 m (ag kk)).1,(s.1.2,(s.2,())))) else(0,(cW (fQ o,(cq [m,kk],(e0,0))) (aw s.1 m (ag kk)).1,(fg (bM o,(e0,0)) s.1.2,(s.2,())))):=by unfold tT;rw[if_neg (by show ¬(aV s.1.2 (bM o)).isSome=true;rw[UF];simp)]
  have fin:FX G 156 zr ((o,()),(aG s,()))=some (((tT (cW (fQ o,(cq [m,kk],(e0,0))) (aw s.1 m (ag kk)).1,(s.1.2,(s.2,()))) (bM o)).1,()),((tT (cW (fQ o,(cq [m,kk],(e0,0))) (aw s.1 m (ag kk)).1,(s.1.2,(s.2,()))) (bM o)).2,())):=by refine go _ _ (fun a ha=>?_);subst ha;refine aa (Ya hG ((aw s.1 m (ag kk)).1,(s.1.2,(s.2,()))) (fQ o,(cq [m,kk],(e0,0))) q1.s (by show(aw s.1 m (ag kk)).1.length≤_;omega)) ?_;rw[Yi hb];refine af rfl ?_;exact aa (WH hG (cW (fQ o,(cq [m,kk],(e0,0))) (aw s.1 m (ag kk)).1,(s.1.2,(s.2,()))) (bM o) h.d.se (by show s.1.2.length≤_;omega)) rfl
  rw[hE]at fin;by_cases hb4:40≤s.1.2.length
  · rw[if_pos hb4]at fin ⊢
    exact⟨_,_,fin,rfl⟩
  · rw[if_neg hb4]at fin ⊢
    refine⟨_,_,fin,?_⟩;rw[Pr,Ue];rfl
theorem agA(hG:HG G)(s:StateT)(o:aY)(h:dM s)(hs:Sv s.1.1) :
    ∃(e:Int) (w:aQ),FX G 157 ry ((o,()),(aG s,()))=some ((e,()),(w,()))∧jI e w=nu s o:=by
  have aW:=h.d.ne;have JZ:=h.d.nv;have hgn:=h.n;have start:∀(e:Int) (w:aQ),cm 157 ry Tryz.f157 (FX G) (LX G 157 ry Tryz.f157) ((o,()),(aG s,()))=some ((e,()),(w,()))→FX G 157 ry ((o,()),(aG s,()))=some ((e,()),(w,())):=fun e w a =>aA (hG _ _ rfl) a rfl;unfold nu
  cases hf:aL s.1.1 (bu o) with
  |none =>
    refine⟨13,aG s,start _ _ ((aau).trans ?_),?_⟩
    · refine aa (qz hG (aG s) (bu o) h.d.sv (by show s.1.1.length≤_;omega)) ?_
      exact bc ((fK (l:=s.1.1) h.d.sv).trans (by rw[hf])) rfl
    · rw[show cd s.1 (bu o)=none from hf];rfl
  |some v =>
  have hfs:(aL s.1.1 (bu o)).isSome=true:=by rw[hf];rfl
  have hv:=eO hf;have Yd:=iz hf;have nJ:=cZ h.d.sv hf;have aF:=(abr.1 nJ).1;have Y6:=h.d.rw;have go:∀(e:Int) (w:aQ),(cond ((((List.length v.2.1):Nat):Int) != (2:Int)) (some (((14:Int),()),(aG s,()))) _=some ((e,()),(w,())))→FX G 157 ry ((o,()),(aG s,()))=some ((e,()),(w,())):=fun e w rest=>by refine start _ _ ((aau).trans ?_);refine aa (qz hG (aG s) (bu o) h.d.sv (by show s.1.1.length≤_;omega)) ?_;refine bc ((fK (l:=s.1.1) h.d.sv).trans hfs) (af rfl ?_);refine ae (cY (kS _) (bg aF)) (aa nJ ?_);exact rest
  rw[show cd s.1 (bu o)=some v from hf];by_cases zm:v.2.1.length=2
  case neg =>
    refine⟨14,aG s,go _ _ (ae (by rw[bne_iff_ne];omega) rfl),?_⟩;show jI 14 (aG s)=(match v.2.1 with | [r0,r1]=>lC s o r0 r1|_=>(zS,(14,())))
    split
    · rename_i hr;rw[hr]at zm;exact absurd rfl zm
    · rfl
  obtain⟨r0,r1,hr⟩:∃r0 r1,v.2.1=[r0,r1]:=by
    match hq:v.2.1,zm with
    |[a,b],_=>exact⟨a,b,rfl⟩
  have Er:(((List.length v.2.1:Nat):Int) != (2:Int))=false:=by rw[zm];rfl
  have g0:bU v.2.1 (0:Int)=some r0:=by rw[hr];rfl
  have g1:bU v.2.1 (1:Int)=some r1:=by rw[hr];rfl
  show ∃(e:Int) (w:aQ),FX G 157 ry ((o,()),(aG s,()))=some ((e,()),(w,()))∧jI e w=(match v.2.1 with | [r0,r1]=>lC s o r0 r1|_=>(zS,(14,())));rw[hr];show ∃(e:Int) (w:aQ),FX G 157 ry ((o,()),(aG s,()))=some ((e,()),(w,()))∧jI e w=lC s o r0 r1;unfold lC;by_cases Zl:r0.1=r1.1
  · refine⟨14,aG s,go _ _ (af Er (aa g0 (aa g1 (ae ((Cc r0.1 r1.1).trans (decide_eq_true Zl)) rfl)))),?_⟩
    rw[if_pos Zl];rfl
  rw[if_neg Zl];have b01:=(Cc r0.1 r1.1).trans (decide_eq_false Zl);have tail:∀a b:ab,v.2.1.Perm [a,b]→a.1≠b.1→((FX G 188 oF ((b,()),())).bind fun(y7:((ab×Unit)×Unit)) =>cond (jP s.1.1 ((bB s.1.1 (bu o):Nat):Int) (IntKind.wrap .i64 (((bB s.1.1 (bu o):Nat):Int)+(1:Int)))) ((FX G 185 mq (((y7.1.1.1,y7.1.1.2),()),(((dh s.1.1 ((bB s.1.1 (bu o):Nat):Int) (IntKind.wrap .i64 (((bB s.1.1 (bu o):Nat):Int)+(1:Int)))),(s.1.2,(s.2,()))),()))).bind fun(y8:(((Option ((Fin 1)×Nat))×Unit)×(aQ×Unit))) =>qV y8.1.1 (none) fun(p9:((Fin 1)×Nat)) =>cond (p9.1.val==0) (((y8.2.1.1)[p9.2]?).bind fun(uy:ai) =>(FX G 187 tM ((uy.2.1,((y7.1.1.1,y7.1.1.2),(a,()))),())).bind fun(qw:(((List ab)×Unit)×Unit)) =>((y8.2.1.1)[p9.2]?).bind fun(tO:ai) =>(FX G 182 nr ((b.1,()),(((List.set y8.2.1.1 p9.2 (tO.1,(qw.1.1,tO.2.2))),(y8.2.1.2.1,y8.2.1.2.2)),()))).bind fun(mS:((Int×(Bool×Unit))×(aQ×Unit))) =>cond (jP mS.2.1.2.1 mS.1.1 (IntKind.wrap .i64 (mS.1.1+(1:Int)))) (LX G 157 ry Tryz.f157 nQ (aZ Tryz.prog 157 0) (((0:Int),()),(((mS.2.1.1,((dh mS.2.1.2.1 mS.1.1 (IntKind.wrap .i64 (mS.1.1+(1:Int)))),mS.2.1.2.2)),((a,()),((b,()),(((y7.1.1.1,y7.1.1.2),()),())))),()))) (none)) (none)) (none))=some (((0:Int),()),(((JN s o a b).1,((JN s o a b).2,(KT s.2 a b,()))),())):=by
    intro a b hp yS;obtain⟨p,q,h1,_,h2,_⟩:=mK h.d.sv hv;have pd:(aj s.1.1).Perm (a::b::aj (p++q)):=by have:=(gM p q v).trans (ada _ hp);rw[←h1]at this;exact this
    have MA:dv s.1.1 (bu o)=p++q:=by rw[←Yd];exact h2
    have K3:aI s.1 (bu o) zI=(p++q,s.1.2):=by unfold aI;rw[MA,qb h.d.ge]
    have zQ:=pd.nodup_iff.1 Y6.n;have hbm:b∈ends s.1.2:=h.d.pd.mem_iff.1 (pd.mem_iff.2 (by simp));obtain⟨e,he,ZX,zK⟩:=eP.1 hbm;have Dl:(aV s.1.2 b.1).isSome=true:=by unfold aV;rw[List.find?_isSome];exact⟨e,he,by simpa using ZX⟩
    obtain⟨_,ho⟩:=gN zK;have OM:ag b∈aj (p++q):=by
      have h3:ag b∈aj s.1.1:=h.d.mL (s:=(ag b).2) Dl (by rcases ho with⟨_,k⟩|⟨_,k⟩<;>omega);rcases abw.1 (pd.mem_iff.1 h3) with k|k
      · exact absurd (congrArg Prod.fst k) (fun k=>yS k.symm)
      rcases abw.1 k with k|k
      · have:=congrArg Prod.snd k;omega
      · exact k
    have Gl:Rw (p++q):=⟨by rw[←h2];exact mI h.d.sv,(ab6.1 (ab6.1 zQ).2).2⟩;have ba:∀u∈p++q,u∈s.1.1:=fun u hu=>by
      rw[h1];rcases ab0.1 hu with k|k
      · exact abK _ k
      · exact abx _ (abq _ k)
    have JM:Sv (p++q):=⟨by have:=hs.n;rw[h1]at this;simp at this ⊢;omega,fun u hu=>hs.r u (ba u hu)⟩;obtain⟨dk1,dk2⟩:=RW h.d.sv hfs (by omega);rw[MA]at dk2;obtain⟨k,u,hk,hxu,hu⟩:=rJ OM;have e1:(p++q).set k (u.1,(gx u.2.1 (ag b) a,u.2.2))=(aw (p++q,s.1.2) (ag b) a).1:=IU Gl hk hxu _ s.1.2;have Mx:∀w∈(aw (p++q,s.1.2) (ag b) a).1,GV w:=qa (d:=(p++q,s.1.2)) (fun w hw=>h.d.gv w (ba w hw)) _ _;have eD:JN s o a b=((aw (p++q,s.1.2) (ag b) a).1,dX s.1.2 b.1):=by unfold JN;rw[K3];unfold aI;rw[sY Mx];rfl
    have ga:=kc h.g h.n ((b.1,0),uE a b 0);rw[eD];refine aa (IS (hG _ _ rfl) b zK) ?_;refine ae dk1 ?_;have r1:∀l1:List ai,l1=p++q→((FX G 185 mq ((ag b,()),((l1,(s.1.2,(s.2,()))),()))).bind fun(y8:(((Option ((Fin 1)×Nat))×Unit)×(aQ×Unit))) =>qV y8.1.1 (none) fun(p9:((Fin 1)×Nat)) =>cond (p9.1.val==0) (((y8.2.1.1)[p9.2]?).bind fun(uy:ai) =>(FX G 187 tM ((uy.2.1,(ag b,(a,()))),())).bind fun(qw:(((List ab)×Unit)×Unit)) =>((y8.2.1.1)[p9.2]?).bind fun(tO:ai) =>(FX G 182 nr ((b.1,()),(((List.set y8.2.1.1 p9.2 (tO.1,(qw.1.1,tO.2.2))),(y8.2.1.2.1,y8.2.1.2.2)),()))).bind fun(mS:((Int×(Bool×Unit))×(aQ×Unit))) =>cond (jP mS.2.1.2.1 mS.1.1 (IntKind.wrap .i64 (mS.1.1+(1:Int)))) (LX G 157 ry Tryz.f157 nQ (aZ Tryz.prog 157 0) (((0:Int),()),(((mS.2.1.1,((dh mS.2.1.2.1 mS.1.1 (IntKind.wrap .i64 (mS.1.1+(1:Int)))),mS.2.1.2.2)),((a,()),((b,()),((ag b,()),())))),()))) (none)) (none))=some (((0:Int),()),(((aw (p++q,s.1.2) (ag b) a).1,(dX s.1.2 b.1,(KT s.2 a b,()))),())):=by
      intro l1 hl1;subst hl1;refine aa (ET hG (p++q,(s.1.2,(s.2,()))) (ag b) Gl JM.n JM.r hk hxu) ?_;refine tS rfl (ae rfl (aa hk ?_));refine aa (WM hG u.2.1 (ag b) a (JM.r u hu)) ?_;refine aa hk ?_;have r2:∀l2:List ai,l2=(aw (p++q,s.1.2) (ag b) a).1→((FX G 182 nr ((b.1,()),((l2,(s.1.2,(s.2,()))),()))).bind fun(mS:((Int×(Bool×Unit))×(aQ×Unit))) =>cond (jP mS.2.1.2.1 mS.1.1 (IntKind.wrap .i64 (mS.1.1+(1:Int)))) (LX G 157 ry Tryz.f157 nQ (aZ Tryz.prog 157 0) (((0:Int),()),(((mS.2.1.1,((dh mS.2.1.2.1 mS.1.1 (IntKind.wrap .i64 (mS.1.1+(1:Int)))),mS.2.1.2.2)),((a,()),((b,()),((ag b,()),())))),()))) (none))=some (((0:Int),()),(((aw (p++q,s.1.2) (ag b) a).1,(dX s.1.2 b.1,(KT s.2 a b,()))),())):=by
        intro l2 zm;subst zm;refine aa (oT hG ((aw (p++q,s.1.2) (ag b) a).1,(s.1.2,(s.2,()))) b.1 h.d.se (by show s.1.2.length≤_;omega)) ?_;obtain⟨ek1,ek2⟩:=IT h.d.se Dl (by omega);refine ae ek1 ?_;have r3:∀l3:List aq,l3=dX s.1.2 b.1→(LX G 157 ry Tryz.f157 nQ (aZ Tryz.prog 157 0) (((0:Int),()),((((aw (p++q,s.1.2) (ag b) a).1,(l3,(s.2,()))),((a,()),((b,()),((ag b,()),())))),())))=some (((0:Int),()),(((aw (p++q,s.1.2) (ag b) a).1,(dX s.1.2 b.1,(KT s.2 a b,()))),())):=by
          intro l3 hl3;subst hl3;have eb:b=(b.1,b.2):=rfl;have eo:ag b=(b.1,(ag b).2):=rfl;rcases ho with⟨Ij,QA⟩|⟨UD,T4⟩
          · rw[Ij]at eb;rw[QA]at eo
            have t0:uE a b 0=zD:=by unfold uE;rw[if_neg (by rw[eo];simp)]
            have t1:uE a b 1=a:=by unfold uE;rw[if_pos eo.symm]
            rw[t0,←eb]at ga;have eG:KT s.2 a b=bS (bS s.2 (b,zD)) (ag b,a):=by unfold KT;rw[t0,t1,←eb,←eo]
            rw[eG];refine aC xn ?_;refine ae rfl (ae (by show(b.2==(0:Int))=true;simp[Ij]) ?_);refine aa (ES hG ((aw (p++q,s.1.2) (ag b) a).1,(dX s.1.2 b.1,(s.2,()))) b zD h.g (by show s.2.length≤_;omega)) ?_;refine aC xn ?_;refine ae rfl (af (by show(b.2==(1:Int))=false;simp[Ij]) ?_);refine aa (ES hG ((aw (p++q,s.1.2) (ag b) a).1,(dX s.1.2 b.1,(bS s.2 (b,zD),()))) (ag b) a ga.1 (by have:=ga.2;show(bS s.2 (b,zD)).length≤_;omega)) ?_;refine aC xn ?_;exact af rfl rfl
          · rw[UD]at eb;rw[T4]at eo
            have t0:uE a b 0=a:=by unfold uE;rw[if_pos eo.symm]
            have t1:uE a b 1=zD:=by unfold uE;rw[if_neg (by rw[eo];simp)]
            rw[t0,←eo]at ga;have eG:KT s.2 a b=bS (bS s.2 (ag b,a)) (b,zD):=by unfold KT;rw[t0,t1,←eb,←eo]
            rw[eG];refine aC xn ?_;refine ae rfl (af (by show(b.2==(0:Int))=false;simp[UD]) ?_);refine aa (ES hG ((aw (p++q,s.1.2) (ag b) a).1,(dX s.1.2 b.1,(s.2,()))) (ag b) a h.g (by show s.2.length≤_;omega)) ?_;refine aC xn ?_;refine ae rfl (ae (by show(b.2==(1:Int))=true;simp[UD]) ?_);refine aa (ES hG ((aw (p++q,s.1.2) (ag b) a).1,(dX s.1.2 b.1,(bS s.2 (ag b,a),()))) b zD ga.1 (by have:=ga.2;show(bS s.2 (ag b,a)).length≤_;omega)) ?_;refine aC xn ?_;exact af rfl rfl
        exact r3 _ ek2
      exact r2 _ e1
    exact r1 _ dk2
  have bo:∀y:ab,((y.1.1==(bM o).1)&&(y.1.2==(bM o).2))=decide (y.1=bM o):=fun y=>Cc y.1 (bM o);by_cases h0:r0.1=bM o
  · rw[if_pos h0]
    refine⟨0,((JN s o r1 r0).1,((JN s o r1 r0).2,(KT s.2 r1 r0,()))),go _ _ (af Er (aa g0 (aa g1 (af b01 (aa g0 (aa g1 (ae ((bo r0).trans (decide_eq_true h0)) ?_))))))),rfl⟩;refine bc ((bo r0).trans (decide_eq_true h0)) (af rfl ?_);exact tail r1 r0 (by rw[hr];exact List.Perm.swap _ _ _) (fun k=>Zl k.symm)
  rw[if_neg h0];by_cases h1:r1.1=bM o
  · rw[if_pos h1]
    refine⟨0,((JN s o r0 r1).1,((JN s o r0 r1).2,(KT s.2 r0 r1,()))),go _ _ (af Er (aa g0 (aa g1 (af b01 (aa g0 (aa g1 (af ((bo r0).trans (decide_eq_false h0)) ?_))))))),rfl⟩;refine bc ((bo r1).trans (decide_eq_true h1)) (af rfl ?_);exact tail r0 r1 (by rw[hr]) Zl
  rw[if_neg h1];refine⟨14,aG s,go _ _ (af Er (aa g0 (aa g1 (af b01 (aa g0 (aa g1 (af ((bo r0).trans (decide_eq_false h0)) ?_))))))),rfl⟩;exact bc ((bo r1).trans (decide_eq_false h1)) (ae rfl rfl)
end Go.Vs
namespace Go.Vs
open Go.Proofs
theorem EU{row:List ab}(hn:row.Nodup){i j:Nat}{hi:i<row.length}{hj:j<row.length}(h:row[i]=row[j]):i=j:=by
 rcases Nat.lt_trichotomy i j with k|k|k
 ·exact absurd h (ad1.1 hn i j hi hj k)
 ·exact k
 ·exact absurd h.symm (ad1.1 hn j i hj hi k)
theorem xN{row:List ab}(hn:row.Nodup){i j:Nat}{x:ab}(hi:row[i]? = some x)(hj:row[j]? = some x):i=j:=by obtain⟨h1,h2⟩:=abr.1 hi;obtain⟨h3,h4⟩:=abr.1 hj;exact EU hn (h2.trans h4.symm)
theorem yY(row:List ab):∃j,j≤row.length∧cq row=Gb row j:=by
 by_cases h0:row.length=0
 ·have:row=[]:=by simpa using h0
  subst this;exact⟨0,by simp,rfl⟩
 ·exact⟨fP row row 0 0,Nat.le_of_lt (nt row row 0 0 (by omega) (by omega)),rfl⟩
theorem OO{row:List ab}(hn:row.Nodup){k:Nat}{m y:ab}(hk:row[k]? = some m)(hy:y∉row):(row.set k y).Nodup:=by
 obtain⟨h1,h2⟩:=abr.1 hk;rw[List.set_eq_take_append_cons_drop,if_pos h1];have p:(row.take k++y::row.drop (k+1)).Perm (y::(row.take k++row.drop (k+1))):=adR;refine p.nodup_iff.2 (ab6.2 ⟨fun h=>hy ?_,?_⟩)
 ·rcases ab0.1 h with h|h
  ·exact ad2 h
  ·exact adW h
 ·refine List.Sublist.nodup ?_ hn
  conv=>rhs;rw[←List.take_append_drop k row]
  refine List.Sublist.append (List.Sublist.refl _) ?_;exact(List.drop_sublist_drop_left row (show k≤k+1 by omega))
theorem U4{row:List ab}(hn:row.Nodup){k:Nat}{x:ab}(hk:row[k]? = some x):idx x row 0=(k:Int):=by have:=KZ (d:=x) (row:=row) (k:=k) (i:=0) hk (fun j hj he=>by have:=xN hn hk he;omega);omega
theorem RX(m k:ab):cq [m,k]=[m,k]∨cq [m,k]=[k,m]:=by
 have hm:=nt [m,k] [m,k] 0 0 (by simp) (by simp);have:fP [m,k] [m,k] 0 0=0∨fP [m,k] [m,k] 0 0=1:=by simp at hm;omega
 unfold cq;rcases this with h|h<;>rw[h]
 ·exact .inl rfl
 ·exact .inr rfl
end Go.Vs
namespace Go.Vs
open Go.Proofs
variable {G:(f:FuncId)→(g:aO)→Option (g.A→Option g.B)}
theorem OP(l:List ai)(x:ID):l.any (fun w=>decide (w.1=x))=(aL l x).isSome:=by rw[Bool.eq_iff_iff,List.any_eq_true];unfold aL;rw[List.find?_isSome]
theorem OQ(l:List aq)(x:ID):l.any (fun w=>decide (w.1=x))=(aV l x).isSome:=by rw[Bool.eq_iff_iff,List.any_eq_true];unfold aV;rw[List.find?_isSome]
theorem OR(s:StateT)(o:aY):jI (uG (aG s) o).1 (uG (aG s) o).2=xy s o:=by
 unfold uG xy abL abM;rw[OP,OQ];by_cases ho:xx o=true
 ·have hv:s.1.1.map (mU o)=s.1.1:=by
   conv=>rhs;rw[←List.map_id s.1.1]
   exact aed fun u hu=>by unfold mU;rw[if_neg (by rw[ho];simp)];rfl
  rw[if_pos ho,ho,hv];show jI (if(aV s.1.2 (bu o)).isSome=true then _ else _:Int×aQ).1 (if(aV s.1.2 (bu o)).isSome=true then _ else _:Int×aQ).2=_
  cases (aV s.1.2 (bu o)).isSome<;>rfl
 ·have nL:xx o=false:=by simpa using ho
  have he:s.1.2.map (rG o)=s.1.2:=by
   conv=>rhs;rw[←List.map_id s.1.2]
   exact aed fun u hu=>by unfold rG;rw[if_neg (by rw[nL];simp)];rfl
  rw[if_neg ho,nL,he];show jI (if(aL s.1.1 (bu o)).isSome=true then _ else _:Int×aQ).1 (if(aL s.1.1 (bu o)).isSome=true then _ else _:Int×aQ).2=_
  cases (aL s.1.1 (bu o)).isSome<;>rfl
theorem RY(hG:HG G)(w:aQ)(o:aY)(hk:7≤o.1)(hv:bY w.1)(he:dd w.2.1)(WI:w.1.length≤50000000)(hle:w.2.1.length≤50000000) :
  FX G 131 FP ((o,()),(w,()))=some (((uG w o).1,()),((uG w o).2,())):=by
 refine aA (hG _ _ rfl) Ky ?_;have kn:∀k:Int,k<7→(o.1==k)=false:=fun k mY=>yW (by omega);refine af (kn 1 (by omega)) (af (kn 2 (by omega)) (af (kn 3 (by omega)) (af (kn 4 (by omega)) (af (kn 5 (by omega)) (af (kn 6 (by omega)) ?_)))));exact aa (agn hG w o hv he WI hle) rfl
def opL(x:ID)(e:Bool)(t:ByteArray):aY:=(7,(x,(zI,(zI,(zC,(zC,(e,(t,0))))))))
def opA(x:ID)(e:Bool)(n:Int):aY:=(8,(x,(zI,(zI,(zC,(zC,(e,(e0,n))))))))
theorem xO{t:ByteArray}(h:lB t=true):t.size≤16:=by unfold lB at h;simp only[Bool.and_eq_true,decide_eq_true_eq]at h;exact h.2
theorem Yj:Ow 0:=by unfold Ow;omega
theorem IV{l:List ai}(hs:bY l){v w:ai}(hv:v∈l)(hw:w∈l)(h:w.1=v.1):w=v:=by have h1:=jJ hs hv;have h2:=jJ hs hw;rw[h,h1]at h2;exact(ab5 h2).symm
structure Lay(s t:StateT):Prop where
 v:bY t.1.1
 e:dd t.1.2
 sm:Sm t.1
 g:t.2.length≤50000000
theorem yZ(l:List aq):(ends l).length=2*l.length:=by
 induction l with
 |nil=>rfl
 |cons e r ih=>rw[fL];simp[ih];omega
theorem U5{l:List ai}{v:ai}(h:v∈l):v.2.1.length≤(aj l).length:=by obtain⟨a,b,rfl⟩:=adM h;rw[jf,eg];simp;omega
theorem Wf.xQ{d:ak}(h:Wf d):∀v∈d.1,v.2.1.length≤80:=fun v hv=>by have h1:=U5 hv;have h2:=h.pd.length_eq;have h3:=h.ne;rw[yZ]at h2;omega
theorem Wf.sm{d:ak}(h:Wf d):Sm d:=⟨by have:=h.nv;omega,by have:=h.ne;omega,fun v hv=>by have:=h.xQ v hv;omega⟩
theorem Wf.small{d:ak}(h:Wf d):Sv d.1:=⟨by have:=h.nv;omega,fun v hv=>by have:=h.xQ v hv;omega⟩
theorem OT(s:StateT)(o:aY):jI (qA (aG s) (bu o,([],(e0,0)))).1 (qA (aG s) (bu o,([],(e0,0)))).2=qy s o:=by
 by_cases hh:(aL s.1.1 (bu o)).isSome=true
 ·have a:qA (aG s) (bu o,([],(e0,0)))=(12,aG s):=if_pos hh;have b:qy s o=(zS,(12,())):=if_pos hh;rw[a,b];rfl
 by_cases h:24≤s.1.1.length
 ·have a:qA (aG s) (bu o,([],(e0,0)))=(3,aG s):=(if_neg hh).trans (if_pos h);have b:qy s o=(zS,(3,())):=(if_neg hh).trans (if_pos h);rw[a,b];rfl
 ·have a:qA (aG s) (bu o,([],(e0,0)))=(0,(cW (bu o,([],(e0,0))) (aG s).1,(aG s).2)):=(if_neg hh).trans (if_neg h);have b:qy s o=(((cW (bu o,([],(e0,0))) s.1.1,s.1.2),s.2),(0,())):=(if_neg hh).trans (if_neg h);rw[a,b];rfl
theorem OU{s:StateT}(h:dM s)(o:aY):jI (EI (aG s) (bu o)).1 (EI (aG s) (bu o)).2=yV s o:=by
 unfold EI yV cd;show jI (match aL s.1.1 (bu o) with|none=>(13,aG s)|some v=>if 0<v.2.1.length then(14,aG s) else(0,(dv s.1.1 (bu o),(s.1.2,(s.2,())))):Int×aQ).1 (match aL s.1.1 (bu o) with|none=>(13,aG s)|some v=>if 0<v.2.1.length then(14,aG s) else(0,(dv s.1.1 (bu o),(s.1.2,(s.2,())))):Int×aQ).2=_
 cases aL s.1.1 (bu o) with
 |none=>rfl
 |some v =>
  simp only;by_cases hl:0<v.2.1.length
  ·rw[if_pos hl,if_pos hl];rfl
  ·rw[if_neg hl,if_neg hl];unfold aI;rw[qb h.d.ge];rfl
def MB(s:StateT)(o:aY):StateT×(Int×Unit) :=if o.1=1 then qy s o else if o.1=2 then yV s o else if o.1=3 then rH s o else if o.1=4 then IG s o else if o.1=5 then nS s o else if o.1=6 then nu s o else xy s o
theorem OV(s:StateT)(o:aY):oQ s o=if cX o≠0 then(zS,(cX o,())) else MB s o:=rfl
theorem RZ(hG:HG G)(s:StateT)(o:aY)(h:dM s)(hm:cX o=0)(h3:o.1=3→∃(e:Int) (w:aQ),FX G 154 pX ((o,()),(aG s,()))=some ((e,()),(w,()))∧jI e w=rH s o) :
  ∃(e:Int) (w:aQ),FX G 131 FP ((o,()),(aG s,()))=some ((e,()),(w,()))∧jI e w=MB s o:=by
 have hk:=Cq hm;have U6:=h.d.small;have JZ:=h.d.nv;have aW:=h.d.ne;have start:∀(e:Int) (w:aQ),cm 131 FP Tryz.f131 (FX G) (LX G 131 FP Tryz.f131) ((o,()),(aG s,()))=some ((e,()),(w,()))→FX G 131 FP ((o,()),(aG s,()))=some ((e,()),(w,())):=fun e w a =>aA (hG _ _ rfl) a rfl;unfold MB;by_cases h1:o.1=1
 ·rw[if_pos h1];refine⟨_,_,start _ _ ((Ky).trans (ae (GN h1) (aa (Ya hG (aG s) (bu o,([],(e0,0))) h.d.sv U6.n) rfl))),?_⟩;exact OT s o
 rw[if_neg h1];by_cases h2:o.1=2
 ·rw[if_pos h2];refine⟨_,_,start _ _ ((Ky).trans (af (yW h1) (ae (GN h2) (aa (agi hG (aG s) o h.d.sv U6.n) rfl)))),?_⟩;exact OU h o
 rw[if_neg h2];by_cases Py:o.1=3
 ·rw[if_pos Py];obtain⟨e,w,a,b⟩:=h3 Py;exact⟨e,w,start _ _ ((Ky).trans (af (yW h1) (af (yW h2) (ae (GN Py) (aa a rfl))))),b⟩
 rw[if_neg Py];by_cases hk4:o.1=4
 ·rw[if_pos hk4];obtain⟨e,w,a,b⟩:=agq hG s o h U6;exact⟨e,w,start _ _ ((Ky).trans (af (yW h1) (af (yW h2) (af (yW Py) (ae (GN hk4) (aa a rfl)))))),b⟩
 rw[if_neg hk4];by_cases Yh:o.1=5
 ·rw[if_pos Yh];obtain⟨e,w,a,b⟩:=agu hG s o h U6 hm Yh;exact⟨e,w,start _ _ ((Ky).trans (af (yW h1) (af (yW h2) (af (yW Py) (af (yW hk4) (ae (GN Yh) (aa a rfl))))))),b⟩
 rw[if_neg Yh];by_cases hk6:o.1=6
 ·rw[if_pos hk6];obtain⟨e,w,a,b⟩:=agA hG s o h U6;exact⟨e,w,start _ _ ((Ky).trans (af (yW h1) (af (yW h2) (af (yW Py) (af (yW hk4) (af (yW Yh) (ae (GN hk6) (aa a rfl)))))))),b⟩
 rw[if_neg hk6];refine⟨_,_,RY hG (aG s) o (by omega) h.d.sv h.d.se U6.n (by show s.1.2.length≤_;omega),?_⟩;exact OR s o
def eQ(G:(f:FuncId)→(g:aO)→Option (g.A→Option g.B))(o:aY):Prop:=∀s,dM s→cX o=0→o.1=3→∃(e:Int) (w:aQ),FX G 154 pX ((o,()),(aG s,()))=some ((e,()),(w,()))∧jI e w=rH s o
theorem R1{s:StateT}{o:aY}(hm:cX o=0):MB s o=oQ s o:=by rw[OV,if_neg (by simp[hm])]
theorem agE(hG:HG G)(l:List aY)(hl:l.length≤1073741824)(hm:∀o∈l,cX o=0)(h3:∀o∈l,eQ G o):∀(n i:Nat) (s:StateT),i+n=l.length→dM s → LX G 103 HP Tryz.f103 BO (aZ Tryz.prog 103 0) ((l,(((l.length:Nat):Int),((i:Int),()))),((zW,(aG s,())),()))=some (Gf (l.drop i) s,()):=by
 intro n
 induction n with
 |zero =>intro i s hi hw;refine aC QS ?_;refine af (decide_eq_false (show ¬((i:Int)<((l.length:Nat):Int)) by omega)) ?_;rw[List.drop_eq_nil_of_le (by omega)];rfl
 |succ n ih =>
  intro i s hi hw;have aF:i<l.length:=by omega
  have ho:=hm l[i] (acC aF);obtain⟨e,w,h1,h2⟩:=RZ hG s l[i] hw ho (h3 _ (acC aF) s hw ho);rw[R1 ho]at h2;refine aC QS ?_;refine ae (bg aF) (aa (aR (abv aF)) ?_);refine aa h1 ?_;rw[List.drop_eq_getElem_cons aF,Gf];have Fs:=hw.one l[i];by_cases he:e=0
  ·have e1:jI e w=(Ae w,(0,())):=if_neg (by simp[he]);rw[e1]at h2;rw[←h2]at Fs ⊢;rw[if_neg (by simp)];refine af (show(e != 0)=false by simp[he]) ?_;have:=ih (i+1) (Ae w) (by omega) Fs;rw[←aK aF hl]at this;exact this
  ·have e1:jI e w=(zS,(e,())):=if_pos he;rw[e1]at h2;rw[←h2,if_pos he];exact ae (show(e != 0)=true by simp[he]) rfl
theorem Yk(hG:HG G)(s:StateT)(l:List aY)(hw:dM s)(hl:l.length≤1073741824)(hm:∀o∈l,cX o=0)(h3:∀o∈l,eQ G o):FX G 103 HP ((s,l,()),())=some (Gf l s,()):=by have hn:=hw.n;refine aA (hG _ _ rfl) afu ?_;refine aa (abN hG s.1 hw.d.sm) ?_;refine aa (X9 (hG _ _ rfl) s.2 (by omega)) ?_;have:=agE hG l hl hm h3 l.length 0 s (by omega) hw;rw[List.drop_zero]at this;exact this
theorem IW(l:List aY)(h:oM l=0):∀o∈l,cX o=0:=by
 induction l with
 |nil=>intro o ho;simp at ho
 |cons o r ih =>
  rw[oM]at h;by_cases ho:cX o=0
  ·rw[if_neg (fun k=>k ho)]at h;intro p hp;rcases abw.1 hp with e|hp
   ·rw[e];exact ho
   ·exact ih h p hp
  ·rw[if_pos ho]at h;exact absurd h ho
theorem K6{l:List aY}(h:gK l=0):∀o∈l,cX o=0:=by
 unfold gK at h
 split at h
 ·exact IW l h
 ·cases h
theorem ab1(hG:HG G)(s:StateT)(l:List aY)(hw:dM s)(hl:l.length≤1073741824)(hf:∀o∈l,Fit o)(h3:∀o∈l,eQ G o):FX G 63 Kv ((s,l,()),())=some (ct s l,()):=by
 refine aA (hG _ _ rfl) afr ?_;refine aa (agm hG l hl hf) ?_;unfold ct;by_cases hm:gK l=0
 ·rw[if_neg (by simp[hm])];refine af (show(gK l != 0)=false by simp[hm]) ?_;exact aa (Yk hG s l hw hl (K6 hm) h3) rfl
 ·rw[if_pos hm];exact ae (show(gK l != 0)=true by simp[hm]) rfl
theorem ab2(hG:HG G)(s:StateT)(l:List aY)(hw:dM s)(hl:l.length≤1073741824)(hf:∀o∈l,Fit o)(h3:∀o∈l,eQ G o):FX G 102 vE ((s,l,()),())=some ((iy s l,()),()):=by
 have hn:=hw.n;refine aA (hG _ _ rfl) afs ?_;refine aa (ab1 hG s l hw hl hf h3) ?_;unfold iy;by_cases he:(ct s l).2.1=0
 ·rw[if_neg (by simp[he])];exact af (show((ct s l).2.1 != 0)=false by simp[he]) rfl
 ·rw[if_pos he];refine ae (show((ct s l).2.1 != 0)=true by simp[he]) ?_;refine aa (abN hG s.1 hw.d.sm) ?_;exact aa (X9 (hG _ _ rfl) s.2 (by omega)) rfl
end Go.Vs
