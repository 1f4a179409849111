/- Edges cut and split, vertices smoothed: what the program computes. -/
import Derived.Test.YtpldhjjpeldkaaaGreatFormed
import Derived.Test.YtpldhjjpeldkaaaGreatTop
set_option linter.unusedVariables false
set_option linter.unusedSimpArgs false
namespace Go.Vs
open Go.Proofs
variable {G:(f:FuncId)→(g:aL)→Option (g.A→Option g.B)}
theorem V7(hG:HG G)(v:aq)(x:ab):FX G 155 Ek ((v,x,()),())=some ((nP v.1 x,()),()):=by
 refine aA (fn:=Tryz.f155) (hG _ _ rfl) (by kernel_rfl) (by kernel_rfl) ((aaA _ _ _).trans ?_)
 exact aa (VY hG v.1 x) rfl
def dC(l:List aq)(x:ab):Nat:=l.countP fun v=>lp v.1 x
theorem F8(l:List aq)(x:ab):dC l x≤l.length:=List.countP_le_length
theorem xR{l:List aq}{x:ab}(h:∀v∈l,lp v.1 x=false):dC l x=0:=by
 unfold dC;rw[List.countP_eq_zero];intro v hv;simp[h v hv]
theorem EA{x:ab}:∀{l:List aq},jt l→∀(k:Nat) (v:aq),l[k]? = some v→(lp v.1 x=true↔k<dC l x)
 |[],_,k,v,h=>by simp at h
 |w::r,hs,k,v,h=>by
  have hw:∀{u:aq},u∈r→lp w.1 u.1=true:=fun {u} hu=>List.rel_of_pairwise_cons hs hu
  have hr:jt r:=hs.of_cons
  by_cases aM:lp w.1 x=true
  ·have e:dC (w::r) x=dC r x+1:=by unfold dC;rw[List.countP_cons_of_pos (by simpa using aM)]
   cases k with
   |zero=>simp at h;subst h;simp[aM,e]
   |succ k=>have:=EA (x:=x) hr k v (by simpa using h);rw[this,e];omega
  ·have hn:∀u∈w::r,lp u.1 x=false:=fun u hu=>by
    rcases List.mem_cons.1 hu with rfl|hu
    ·simpa using aM
    ·rw[Bool.eq_false_iff];intro h2;exact aM (gY (hw hu) h2)
   rw[xR hn,hn v (List.mem_of_getElem? h)]
   simp
theorem RA(hG:HG G)(l:List aq)(x:ab)(hs:jt l)(hl:l.length≤50000000):∀(n i j:Nat),j-i≤n→i≤dC l x→dC l x≤j→j≤l.length →
  LX G 156154 jJ Tryz.f154 iZ (aY Tryz.prog 154 0) ((l,(((l.length:Nat):Int),((i:Int),((j:Int),())))),(((x,()),()),()))=some (((((dC l x:Nat):Int),(decide ((l[dC l x]?).map (·.1)=some x),())):Int×(Bool×Unit)),()):=by
 have uM:=F8 l x
 have fin:∀(i j:Nat),¬(i<j)→i≤dC l x→dC l x≤j→LX G 156154 jJ Tryz.f154 iZ (aY Tryz.prog 154 0) ((l,(((l.length:Nat):Int),((i:Int),((j:Int),())))),(((x,()),()),()))=some (((((dC l x:Nat):Int),(decide ((l[dC l x]?).map (·.1)=some x),())):Int×(Bool×Unit)),()):=fun i j AW h1 h2=>by
  have hi:i=dC l x:=by omega
  subst hi
  refine aB (j:=0) (by kernel_rfl) ((Ca _ _ _).trans ?_)
  refine aj (decide_eq_false (show ¬(((dC l x:Nat):Int)<(j:Int)) by omega)) ?_
  by_cases hc:dC l x<l.length
  ·have hx:l[dC l x]? = some l[dC l x]:=List.getElem?_eq_getElem hc
   refine ae (bm hc) ?_
   refine aa (aR hx) ?_
   refine aa (V7 hG l[dC l x] x) ?_
   refine congrArg (fun b:Bool=>some ((((dC l x:Nat):Int),(b,())),())) ?_
   rw[hx]
   unfold nP
   by_cases he:l[dC l x].1=x
   ·simp[he]
   ·simp[he];split<;>simp
  ·refine aj (decide_eq_false (show ¬(((dC l x:Nat):Int)<((l.length:Nat):Int)) by omega)) ?_
   refine congrArg (fun b:Bool=>some ((((dC l x:Nat):Int),(b,())),())) ?_
   rw[List.getElem?_eq_none (by omega)];simp
 intro n
 induction n with
 |zero=>intro i j AW h1 h2 h3;exact fin i j (by omega) h1 h2
 |succ n ih =>
  intro i j AW h1 h2 h3
  by_cases aM:i<j
  case neg=>exact fin i j aM h1 h2
  refine aB (j:=0) (by kernel_rfl) ((Ca _ _ _).trans ?_)
  refine ae (decide_eq_true (show((i:Int)<(j:Int)) by omega)) ?_
  refine aj rfl ?_
  have hm:=Ku (i:=i) (j:=j) (by omega) (by omega)
  have hh:(i+j) / 2<l.length:=by omega
  have hx:l[(i+j) / 2]? = some l[(i+j) / 2]:=List.getElem?_eq_getElem hh
  have ox:=EA (x:=x) hs ((i+j) / 2) _ hx
  refine aa (show br l (IntKind.wrap .i64 (lB .u64 (IntKind.wrap .u64 (IntKind.wrap .i64 ((i:Int)+(j:Int)))) (1:Int)))=some l[(i+j) / 2] by rw[hm];exact aR hx) ?_
  refine aa (V7 hG l[(i+j) / 2] x) ?_
  by_cases ho:lp l[(i+j) / 2].1 x=true
  ·refine ae (decide_eq_true ((Aj _ _).2 ho)) ?_
   have hc:=ox.1 ho
   have hw:IntKind.wrap .i64 (IntKind.wrap .i64 (lB .u64 (IntKind.wrap .u64 (IntKind.wrap .i64 ((i:Int)+(j:Int)))) (1:Int))+1)=(((i+j) / 2+1:Nat):Int):=by
    rw[hm];exact aN hh (by omega)
   have:=ih ((i+j) / 2+1) j (by omega) (by omega) h2 h3
   rw[←hw]at this
   exact this
  ·refine aj (decide_eq_false (fun h=>ho ((Aj _ _).1 h))) ?_
   have hc:¬(i+j) / 2<dC l x:=fun h=>ho (ox.2 h)
   have:=ih i ((i+j) / 2) (by omega) h1 (by omega) (by omega)
   rw[←hm]at this
   exact this
theorem RB(hG:HG G)(l:List aq)(x:ab)(hs:jt l)(hl:l.length≤50000000) :
  FX G 156154 jJ ((l,x,()),())=some (((((dC l x:Nat):Int),(decide ((l[dC l x]?).map (·.1)=some x),())):Int×(Bool×Unit)),()):=by
 refine aA (fn:=Tryz.f154) (hG _ _ rfl) (by kernel_rfl) (by kernel_rfl) ((QQ _ _ _).trans ?_)
 exact RA hG l x hs hl l.length 0 l.length (by omega) (by omega) (F8 l x) (Nat.le_refl _)
theorem IN(g:aq):∀{l:List aq},jt l→lI g l=if(l[dC l g.1]?).map (·.1)=some g.1 then l.set (dC l g.1) g else l.take (dC l g.1)++(g::l.drop (dC l g.1))
 |[],_=>rfl
 |w::r,hs=>by
  have hw:∀{u:aq},u∈r→lp w.1 u.1=true:=fun {u} hu=>List.rel_of_pairwise_cons hs hu
  have hr:jt r:=List.Pairwise.of_cons hs
  by_cases aM:lp w.1 g.1=true
  ·have e:dC (w::r) g.1=dC r g.1+1:=by unfold dC;rw[List.countP_cons_of_pos (by simpa using aM)]
   have bp:w.1≠g.1:=fun k=>by rw[k,dR]at aM;cases aM
   have qA:¬nP g.1 w.1≤0:=fun k=>by
    rcases qd.1 k with k|k
    ·exact bp k.symm
    ·have:=gY aM k;rw[dR]at this;cases this
   have ih:=IN g hr
   rw[e,lI,if_neg qA,if_pos bp,ih]
   simp only[List.getElem?_cons_succ,List.set_cons_succ,List.take_succ_cons,List.drop_succ_cons,List.cons_append]
   split<;>rfl
  ·have hn:∀u∈w::r,lp u.1 g.1=false:=fun u hu=>by
    rcases List.mem_cons.1 hu with rfl|hu
    ·simpa using aM
    ·rw[Bool.eq_false_iff];intro h2;exact aM (gY (hw hu) h2)
   rw[xR hn]
   by_cases he:w.1=g.1
   ·have XJ:nP g.1 w.1≤0:=qd.2 (.inl he.symm)
    have h1:nQ g (w::r)=r:=by
     have:nQ g (w::r)=nQ g r:=by unfold nQ;rw[List.filter_cons_of_neg (by simp[he])]
     rw[this]
     exact sY (fun q hq k=>by have:=hw hq;rw[k,he,dR]at this;cases this)
    rw[lI,if_pos XJ,h1,if_pos (by simp[he])];rfl
   ·have z7:lp g.1 w.1=true:=sQ (by simpa using aM) he
    have XJ:nP g.1 w.1≤0:=qd.2 (.inr z7)
    have h1:nQ g (w::r)=w::r:=sY (fun q hq k=>by
     rcases List.mem_cons.1 hq with rfl|hq
     ·exact he k
     ·have:=gY z7 (hw hq);rw[k,dR]at this;cases this)
    rw[lI,if_pos XJ,h1,if_neg (by simp[he])];rfl
theorem EB{x:ab}:∀{l:List aq},jt l→(gO l x).isSome=decide ((l[dC l x]?).map (·.1)=some x)
 |[],_=>rfl
 |w::r,hs=>by
  have hw:∀{u:aq},u∈r→lp w.1 u.1=true:=fun {u} hu=>List.rel_of_pairwise_cons hs hu
  have hr:jt r:=List.Pairwise.of_cons hs
  rw[qe]
  by_cases aM:lp w.1 x=true
  ·have e:dC (w::r) x=dC r x+1:=by unfold dC;rw[List.countP_cons_of_pos (by simpa using aM)]
   have bp:w.1≠x:=fun k=>by rw[k,dR]at aM;cases aM
   rw[e,if_neg bp,EB hr,List.getElem?_cons_succ]
  ·have hn:∀u∈w::r,lp u.1 x=false:=fun u hu=>by
    rcases List.mem_cons.1 hu with rfl|hu
    ·simpa using aM
    ·rw[Bool.eq_false_iff];intro h2;exact aM (gY (hw hu) h2)
   rw[xR hn]
   by_cases he:w.1=x
   ·simp[he]
   ·have z7:lp x w.1=true:=sQ (by simpa using aM) he
    have:gO r x=none:=by
     unfold gO
     have:(List.find? (fun q=>decide (q.1=x)) r)=none:=by
      rw[List.find?_eq_none];intro q hq k
      have k:q.1=x:=by simpa using k
      have:=gY z7 (hw hq);rw[k,dR]at this;cases this
     rw[this];rfl
    rw[if_neg he,this];simp[he]
theorem abD(hG:HG G)(l:List aq)(g:aq)(hs:jt l)(hl:l.length≤50000000):FX G 139 H3 ((l,g,()),())=some ((bG l g,()),()):=by
 refine aA (fn:=Tryz.f139) (hG _ _ rfl) (by kernel_rfl) (by kernel_rfl) ((aaq _ _ _).trans ?_)
 refine aa (RB hG l g.1 hs hl) ?_
 refine aa (abq (hG _ _ rfl) l hl) ?_
 unfold bG
 rw[EB hs,IN g hs]
 have hc:dC l g.1≤l.length:=F8 l g.1
 by_cases h:(l[dC l g.1]?).map (·.1)=some g.1
 ·rw[decide_eq_true h,if_neg (fun k=>by cases k.1),if_pos h]
  refine ae rfl ?_
  obtain⟨u,hu,_⟩:∃u,l[dC l g.1]? = some u∧u.1=g.1:=by
   cases hq:l[dC l g.1]? with
   |none=>rw[hq]at h;cases h
   |some u=>rw[hq]at h;exact⟨u,rfl,by simpa using h⟩
  have aM:=(List.getElem?_eq_some_iff.1 hu).1
  refine ae (dq (eX _) (bm aM)) ?_
  exact aa hu rfl
 ·rw[decide_eq_false h,if_neg h]
  refine aj rfl ?_
  by_cases h4:400≤l.length
  ·rw[if_pos ⟨rfl,h4⟩]
   exact aj (decide_eq_false (show ¬((l.length:Nat):Int)<400 by omega)) rfl
  ·rw[if_neg (fun k=>h4 k.2)]
   refine ae (decide_eq_true (show((l.length:Nat):Int)<400 by omega)) ?_
   have mO:qN l ((dC l g.1:Nat):Int) [g]=true:=by
    unfold qN
    rw[decide_eq_true (show(0:Int)≤((dC l g.1:Nat):Int) by omega),decide_eq_true (show((dC l g.1:Nat):Int)≤((l.length:Nat):Int) by omega)]
    rw[fits (by simp;omega)];rfl
   refine ae mO ?_
   have e:gD l ((dC l g.1:Nat):Int) [g]=l.take (dC l g.1)++(g::l.drop (dC l g.1)):=by unfold gD;simp
   exact congrArg (fun r:List aq=>some ((r,()),())) e
theorem EC(hG:HG G)(w:aF)(x to:ab)(hs:jt w.2.2.1)(hl:w.2.2.1.length≤50000000):FX G 116 BE ((x,to,()),(w,()))=some ((),((w.1,(w.2.1,(bG w.2.2.1 (x,to),()))),())):=by
 refine aA (fn:=Tryz.f116) (hG _ _ rfl) (by kernel_rfl) (by kernel_rfl) ((ZZ _ _ _).trans ?_)
 exact aa (abD hG w.2.2.1 (x,to) hs hl) rfl
theorem ED(hG:HG G)(w:aF)(x:ab)(hw:Rw w.1)(hl:w.1.length≤50000000)(hr:∀v∈w.1,v.2.1.length≤50000000){k:Nat}{v:ag}(hk:w.1[k]? = some v)(hx:x∈v.2.1) :
  FX G 118 mw ((x,()),(w,()))=some (((some ((⟨0,by decide⟩:Fin 1),k)),()),(w,())):=by
 refine aA (fn:=Tryz.f118) (hG _ _ rfl) (by kernel_rfl) (by kernel_rfl) ((aab _ _ _).trans ?_)
 have OU:=(List.getElem?_eq_some_iff.1 hk).1
 have loop:∀(n i:Nat),i+n=k→LX G 118 mw Tryz.f118 vM (aY Tryz.prog 118 0) ((((w.1.length:Nat):Int),((i:Int),())),((w,((x,()),())),()))=some (((some ((⟨0,by decide⟩:Fin 1),k)),()),(w,())):=by
  intro n
  induction n with
  |zero =>
   intro i hi
   have hi:i=k:=by omega
   subst hi
   refine aB (j:=0) (by kernel_rfl) ((Ly _ _ _).trans ?_)
   refine ae (bm OU) (ae (dq (eX _) (bm OU)) (aa hk ?_))
   refine aa (Et hG v.2.1 x (by have:=hr v (List.mem_of_getElem? hk);omega)) ?_
   exact ae (decide_eq_true hx) rfl
  |succ n ih =>
   intro i hi
   have lE:i<w.1.length:=by omega
   have hu:w.1[i]? = some w.1[i]:=List.getElem?_eq_getElem lE
   have D8:x∉w.1[i].2.1:=fun hxi=>by
    have h1:w.1[i]=v:=hw.one (List.mem_of_getElem? hk) (List.getElem_mem lE) hx hxi
    have h2:=kl hw.s hk rfl
    have h3:=kl hw.s (x:=v.1) hu (by rw[h1])
    omega
   refine aB (j:=0) (by kernel_rfl) ((Ly _ _ _).trans ?_)
   refine ae (bm lE) (ae (dq (eX _) (bm lE)) (aa hu ?_))
   refine aa (Et hG w.1[i].2.1 x (by have:=hr _ (List.getElem_mem lE);omega)) ?_
   refine aj (decide_eq_false D8) ?_
   have:=ih (i+1) (by omega)
   rw[←aN lE (by omega)]at this
   exact this
 exact loop k 0 (by omega)
theorem KC{l:List ag}{k:Nat}{v:ag}(hs:cf l)(hk:l[k]? = some v)(r:List ab):l.set k (v.1,(r,v.2.2))=l.map (gr v.1 r):=by
 have h:=dS hs (List.mem_of_getElem? hk)
 rw[kl hs hk rfl]
 refine(II hs h (gr v.1 r) (fun u=>(u.1,(r,u.2.2))) (fun u hu=>?_) (fun u hu=>?_)).symm
 ·unfold gr;rw[if_pos hu]
 ·unfold gr;rw[if_neg hu]
theorem rM{l:List ag}{x:ab}(h:x∈ak l):∃(k:Nat) (v:ag),l[k]? = some v∧x∈v.2.1∧v∈l:=by
 obtain⟨v,hv,hx⟩:=aG.1 h
 obtain⟨k,hk,he⟩:=List.getElem_of_mem hv
 exact⟨k,v,by rw[List.getElem?_eq_getElem hk,he],hx,hv⟩
structure Sv(l:List ag):Prop where
 n:l.length≤50000000
 r:∀v∈l,v.2.1.length≤50000000
theorem RC{n:Int}(h:n=0∨n=1):fz .xor .i64 n 1=IntKind.wrap .i64 (1-n):=by
 rcases h with rfl|rfl<;>decide
theorem IP(hG:G 122 oD=none)(x:ab)(h:x.2=0∨x.2=1):FX G 122 oD ((x,()),())=some ((af x,()),()):=by
 refine aA (fn:=Tryz.f122) hG (by kernel_rfl) (by kernel_rfl) ((aae _ _ _).trans ?_)
 exact congrArg (fun n:Int=>some ((((x.1,n):ab),()),())) (RC h)
theorem NX{d:ai}(h:Rw d.1){v:ag}{x:ab}(hv:v∈d.1)(hx:x∈v.2.1):c9 d x=if(jM v.2.1 x).1=x.1 then(if(jM v.2.1 (jM v.2.1 x)).1=x.1 then zD else jM v.2.1 (jM v.2.1 x)) else jM v.2.1 x:=by
 unfold c9
 have e:bA d ((bY d x).getD zI)=v.2.1:=by
  unfold bY;rw[cQ h hv hx];exact g8 h.s hv
 simp only[e]
 by_cases h1:(jM v.2.1 x).1=x.1
 ·simp only[if_pos h1]
 ·simp only[if_neg h1]
theorem V8(hG:HG G)(w:aF)(x:ab)(hw:Rw w.1)(hs:Sv w.1)(hx:x∈ak w.1)(e:List ah):FX G 117 BF ((x,()),(w,()))=some ((c9 (w.1,e) x,()),(w,())):=by
 obtain⟨k,v,hk,js,hv⟩:=rM hx
 have PO:=hs.r v hv
 refine aA (fn:=Tryz.f117) (hG _ _ rfl) (by kernel_rfl) (by kernel_rfl) ((aaa _ _ _).trans ?_)
 rw[NX (d:=(w.1,e)) hw hv js]
 have prev:∀y:ab,FX G 140 Ei ((v.2.1,y,()),())=some (((jM v.2.1 y),((Iu (dd v.2.1 y (v.2.1.length-1))).2)),()):=fun y=>by
  refine(abB hG v.2.1 y (by omega)).trans ?_
  have:(Iu (dd v.2.1 y (v.2.1.length-1))).1=jM v.2.1 y:=Ai _
  rw[←this]
 have fZ:∀y:ab,((y.1.1==x.1.1)&&(y.1.2==x.1.2))=decide (y.1=x.1):=fun y=>jT y.1 x.1
 refine aB (j:=0) (by kernel_rfl) ((FE _ _ _).trans ?_)
 refine ae rfl (aa (ED hG w x hw hs.n hs.r hk js) ?_)
 refine tN rfl (ae rfl (aa hk ?_))
 refine aa (prev x) ?_
 by_cases h1:(jM v.2.1 x).1=x.1
 ·rw[if_pos h1]
  refine aS ((fZ _).trans (decide_eq_true h1)) ?_
  refine aB (j:=0) (by kernel_rfl) ((FE _ _ _).trans ?_)
  refine ae rfl (aa (ED hG w x hw hs.n hs.r hk js) ?_)
  refine tN rfl (ae rfl (aa hk ?_))
  refine aa (prev (jM v.2.1 x)) ?_
  by_cases h2:(jM v.2.1 (jM v.2.1 x)).1=x.1
  ·rw[if_pos h2]
   refine aS ((fZ _).trans (decide_eq_true h2)) ?_
   refine aB (j:=0) (by kernel_rfl) ((FE _ _ _).trans ?_)
   exact aj rfl rfl
  ·rw[if_neg h2]
   exact aS ((fZ _).trans (decide_eq_false h2)) rfl
 ·rw[if_neg h1]
  exact aS ((fZ _).trans (decide_eq_false h1)) rfl
theorem IQ{l:List ah}{x:ID}(hs:dv l)(h:(aU l x).isSome=true)(hl:l.length≤50000000) :
  jU l ((cj l x:Nat):Int) (IntKind.wrap .i64 (((cj l x:Nat):Int)+1))=true∧dx l ((cj l x:Nat):Int) (IntKind.wrap .i64 (((cj l x:Nat):Int)+1))=cE l x:=by
 obtain⟨e,he⟩:=Option.isSome_iff_exists.1 h
 have aM:=(List.getElem?_eq_some_iff.1 (mF hs he)).1
 have hw:IntKind.wrap .i64 (((cj l x:Nat):Int)+1)=((cj l x+1:Nat):Int):=aN aM (by omega)
 constructor
 ·rw[hw]
  unfold jU
  rw[decide_eq_true (show(0:Int)≤((cj l x:Nat):Int) by omega),decide_eq_true (show((cj l x:Nat):Int)<((cj l x+1:Nat):Int) by omega),decide_eq_true (show((cj l x+1:Nat):Int)≤((l.length:Nat):Int) by omega),fits (by omega)];rfl
 ·rw[hw,xL hs h]
  unfold dx;simp only[Int.toNat_natCast]
theorem RD{l:List ag}{x:ID}(hs:cf l)(h:(aQ l x).isSome=true)(hl:l.length≤50000000) :
  jU l ((bJ l x:Nat):Int) (IntKind.wrap .i64 (((bJ l x:Nat):Int)+1))=true∧dx l ((bJ l x:Nat):Int) (IntKind.wrap .i64 (((bJ l x:Nat):Int)+1))=cT l x:=by
 obtain⟨e,he⟩:=Option.isSome_iff_exists.1 h
 have aM:=(List.getElem?_eq_some_iff.1 (dp hs he)).1
 have hw:IntKind.wrap .i64 (((bJ l x:Nat):Int)+1)=((bJ l x+1:Nat):Int):=aN aM (by omega)
 constructor
 ·rw[hw]
  unfold jU
  rw[decide_eq_true (show(0:Int)≤((bJ l x:Nat):Int) by omega),decide_eq_true (show((bJ l x:Nat):Int)<((bJ l x+1:Nat):Int) by omega),decide_eq_true (show((bJ l x+1:Nat):Int)≤((l.length:Nat):Int) by omega),fits (by omega)];rfl
 ·rw[hw,xI hs h]
  unfold dx;simp only[Int.toNat_natCast]
theorem Sv.re{l:List ag}(h:Sv l)(x:ID){r:List ab}(hr:r.length≤50000000):Sv (l.map (gr x r)):=by
 refine⟨by simp;exact h.n,fun w hw=>?_⟩
 obtain⟨u,hu,rfl⟩:=List.mem_map.1 hw
 unfold gr
 split
 ·exact hr
 ·exact h.r u hu
theorem CA{row:List ab}(d:ab):(c6 row d).length≤row.length:=by
 unfold c6;rw[gN];exact List.length_filter_le _ _
theorem L7{w:aF}{x:ab}(hw:Rw w.1){k:Nat}{v:ag}(hk:w.1[k]? = some v)(hx:x∈v.2.1)(e:List ah):w.1.set k (v.1,(c6 v.2.1 x,v.2.2))=(az (w.1,e) x).1:=by
 rw[da (d:=(w.1,e)) hw (List.mem_of_getElem? hk) hx]
 exact KC hw.s hk _
theorem agW(hG:HG G)(s:StateT)(o:bL)(h:im s)(hs:Sv s.1.1) :
  ∃(e:Int) (w:aF),FX G 93 BA ((o,()),(aI s,()))=some ((e,()),(w,()))∧ic e w=Cl s o:=by
 have bp:=h.d.ne
 unfold Cl
 cases hf:(aU s.1.2 (ba o)).isSome with
 |false =>
  refine⟨13,aI s,?_,?_⟩
  ·refine aA (fn:=Tryz.f93) (hG _ _ rfl) (by kernel_rfl) (by kernel_rfl) ((ZL _ _ _).trans ?_)
   refine aa (oO hG (aI s) (ba o) h.d.se (by show s.1.2.length≤_;omega)) ?_
   exact aS ((dr (l:=s.1.2) h.d.se).trans hf) rfl
  ·rw[if_pos (show(fZ s.1 (ba o)).isSome=false from hf)];rfl
 |true =>
  rw[if_neg (show ¬(fZ s.1 (ba o)).isSome=false by show ¬(aU s.1.2 (ba o)).isSome=false;rw[hf];simp)]
  obtain⟨x,hx⟩:∃x:ab,x=(ba o,0):=⟨_,rfl⟩
  obtain⟨y,hy⟩:∃y:ab,y=(ba o,1):=⟨_,rfl⟩
  have KD:x∈ak s.1.1:=by rw[hx];exact h.d.mI hf (.inl rfl)
  have IS:y∈ak s.1.1:=by rw[hy];exact h.d.mI hf (.inr rfl)
  have g1:=ku h.g h.n (x,c9 s.1 x)
  have hn:=h.n
  obtain⟨p1,q1⟩:=dB h.d.rw KD
  have agX:y∈ak (az s.1 x).1:=by
   rcases List.mem_cons.1 (p1.mem_iff.1 IS) with k|k
   ·rw[hx,hy]at k;cases k
   ·exact k
  have L5:=kr (kr h.d.gv x) y
  refine⟨0,((az (az s.1 x) y).1,(cE s.1.2 (ba o),(bG (bG s.2 (x,c9 s.1 x)) (y,c9 s.1 y),()))),?_,?_⟩
  ·refine aA (fn:=Tryz.f93) (hG _ _ rfl) (by kernel_rfl) (by kernel_rfl) ((ZL _ _ _).trans ?_)
   refine aa (oO hG (aI s) (ba o) h.d.se (by show s.1.2.length≤_;omega)) ?_
   refine aS ((dr (l:=s.1.2) h.d.se).trans hf) (aj rfl ?_)
   have agY:FX G 111 BB ((ba o,()),())=some ((x,y,()),()):=by
    rw[hx,hy];exact aA (fn:=Tryz.f111) (hG _ _ rfl) (by kernel_rfl) (by kernel_rfl) (VD _ _ _)
   refine aa agY ?_
   refine aB (j:=0) (by kernel_rfl) ((Kg _ _ _).trans ?_)
   refine ae rfl (ae rfl (aa (a:=x) rfl ?_))
   refine aa (V8 hG (aI s) x h.d.rw hs KD s.1.2) ?_
   refine aa (EC hG (aI s) x (c9 s.1 x) h.g (by show s.2.length≤_;omega)) ?_
   refine aB (j:=0) (by kernel_rfl) ((Kg _ _ _).trans ?_)
   refine ae rfl (ae rfl (aa (a:=y) rfl ?_))
   refine aa (V8 hG (s.1.1,(s.1.2,(bG s.2 (x,c9 s.1 x),()))) y h.d.rw hs IS s.1.2) ?_
   refine aa (EC hG (s.1.1,(s.1.2,(bG s.2 (x,c9 s.1 x),()))) y (c9 s.1 y) g1.1 (by have:=g1.2;show(bG s.2 (x,c9 s.1 x)).length≤_;omega)) ?_
   refine aB (j:=0) (by kernel_rfl) ((Kg _ _ _).trans ?_)
   refine aj rfl ?_
   generalize bG (bG s.2 (x,c9 s.1 x)) (y,c9 s.1 y)=gg
   obtain⟨k,v,hk,js,hv⟩:=rM KD
   refine aB (j:=1) (by kernel_rfl) ((Kh _ _ _).trans ?_)
   refine ae rfl (ae rfl (aa (a:=x) rfl ?_))
   refine aa (ED hG (s.1.1,(s.1.2,(gg,()))) x h.d.rw hs.n hs.r hk js) ?_
   refine tN rfl (ae rfl (aa hk ?_))
   refine aa (V5 hG v.2.1 x (h.d.rw.ring hv) (hs.r v hv)) ?_
   refine aa hk ?_
   have e1:s.1.1.set k (v.1,(c6 v.2.1 x,v.2.2))=(az s.1 x).1:=L7 (w:=(s.1.1,(s.1.2,(gg,())))) h.d.rw hk js s.1.2
   have Gx:Sv (az s.1 x).1:=by
    rw[da h.d.rw hv js]
    exact hs.re _ (Nat.le_trans (CA x) (hs.r v hv))
   obtain⟨k2,v2,nX,Tb,yr⟩:=rM agX
   have e2:(az s.1 x).1.set k2 (v2.1,(c6 v2.2.1 y,v2.2.2))=(az (az s.1 x) y).1:=L7 (w:=((az s.1 x).1,(s.1.2,(gg,())))) q1 nX Tb (az s.1 x).2
   have rest:∀a:List ag,a=(az s.1 x).1→LX G 93 BA Tryz.f93 xu (aY Tryz.prog 93 1) ((((cj s.1.2 (ba o):Nat):Int),((2:Int),((1:Int),()))),(((a,(s.1.2,(gg,()))),()),([x,y],())))=some (((0:Int),()),(((az (az s.1 x) y).1,(cE s.1.2 (ba o),(gg,()))),())):=by
    intro a ha
    subst ha
    refine aB (j:=1) (by kernel_rfl) ((Kh _ _ _).trans ?_)
    refine ae rfl (ae rfl (aa (a:=y) rfl ?_))
    refine aa (ED hG ((az s.1 x).1,(s.1.2,(gg,()))) y q1 Gx.n Gx.r nX Tb) ?_
    refine tN rfl (ae rfl (aa nX ?_))
    refine aa (V5 hG v2.2.1 y (q1.ring yr) (Gx.r v2 yr)) ?_
    refine aa nX ?_
    have last:∀b:List ag,b=(az (az s.1 x) y).1→LX G 93 BA Tryz.f93 xu (aY Tryz.prog 93 1) ((((cj s.1.2 (ba o):Nat):Int),((2:Int),((2:Int),()))),(((b,(s.1.2,(gg,()))),()),([x,y],())))=some (((0:Int),()),(((az (az s.1 x) y).1,(cE s.1.2 (ba o),(gg,()))),())):=by
     intro b hb
     subst hb
     refine aB (j:=1) (by kernel_rfl) ((Kh _ _ _).trans ?_)
     obtain⟨d1,d2⟩:=IQ h.d.se hf (by omega)
     refine aj rfl (ae d1 ?_)
     exact congrArg (fun l:List ah=>some (((0:Int),()),(((az (az s.1 x) y).1,(l,(gg,()))),()))) d2
    exact last _ e2
   exact rest _ e1
  ·rw[←hx,←hy]
   unfold aJ
   rw[qc L5]
   rfl
end Go.Vs
namespace Go.Vs
open Go.Proofs
variable {G:(f:FuncId)→(g:aL)→Option (g.A→Option g.B)}
theorem KE{n:Int}(h0:0≤n)(h3:n≤3):fz .xor .i64 1 (fz .and .i64 n 1)=IntKind.wrap .i64 (1-Int.tmod n 2)∧lB .i64 n 1=IntKind.wrap .i64 (Int.tdiv n 2):=by
 have:n=0∨n=1∨n=2∨n=3:=by omega
 rcases this with rfl|rfl|rfl|rfl<;>exact⟨by decide,by decide⟩
theorem IT{l:List ag}{x:ab}(hw:Rw l){k:Nat}{v:ag}(hk:l[k]? = some v)(hx:x∈v.2.1)(y:ab)(e:List ah):l.set k (v.1,(fE v.2.1 x y,v.2.2))=(av (l,e) x y).1:=by
 rw[p7 (d:=(l,e)) hw y (List.mem_of_getElem? hk) hx]
 exact KC hw.s hk _
theorem agZ(hG:HG G)(s:StateT)(o:bL)(h:im s)(hs:Sv s.1.1)(hm:c5 o=0)(XK:o.1=5) :
    ∃(e:Int) (w:aF),FX G 94 zz ((o,()),(aI s,()))=some ((e,()),(w,()))∧ic e w=lq s o:=by
  have bp:=h.d.ne;have Ot:=h.d.nv
  obtain⟨m1,m2,m3,m4⟩:=xQ hm XK
  obtain⟨s1,s2⟩:=Cz m3 m4
  obtain⟨c1,c2⟩:=KE m3 m4
  have key:∀(e:Int) (w:aF),FX G 94 zz ((o,()),(aI s,()))=some ((e,()),(w,()))→ic e w=lq s o→∃(e:Int) (w:aF),FX G 94 zz ((o,()),(aI s,()))=some ((e,()),(w,()))∧ic e w=lq s o:=fun e w a b=>⟨e,w,a,b⟩
  have start:∀(e:Int) (w:aF),cp 94 zz Tryz.f94 (FX G) (LX G 94 zz Tryz.f94) ((o,()),(aI s,()))=some ((e,()),(w,()))→FX G 94 zz ((o,()),(aI s,()))=some ((e,()),(w,())):=fun e w a =>
    aA (fn:=Tryz.f94) (hG _ _ rfl) (by kernel_rfl) (by kernel_rfl) a
  unfold lq
  cases hf:(aU s.1.2 (ba o)).isSome with
  |false =>
    refine⟨13,aI s,start _ _ ((TV _ _ _).trans ?_),?_⟩
    · refine aa (oO hG (aI s) (ba o) h.d.se (by show s.1.2.length≤_;omega)) ?_
      refine aa (qw hG (aI s) (fk o) h.d.sv (by show s.1.1.length≤_;omega)) ?_
      refine aa (oO hG (aI s) (bh o) h.d.se (by show s.1.2.length≤_;omega)) ?_
      exact aS ((dr (l:=s.1.2) h.d.se).trans hf) rfl
    · rw[if_pos (show(fZ s.1 (ba o)).isSome=false from hf)];rfl
  |true =>
  rw[if_neg (show ¬(fZ s.1 (ba o)).isSome=false by show ¬(aU s.1.2 (ba o)).isSome=false;rw[hf];simp)]
  cases TD:(aQ s.1.1 (fk o)).isSome with
  |true =>
    refine⟨12,aI s,start _ _ ((TV _ _ _).trans ?_),?_⟩
    · refine aa (oO hG (aI s) (ba o) h.d.se (by show s.1.2.length≤_;omega)) ?_
      refine aa (qw hG (aI s) (fk o) h.d.sv (by show s.1.1.length≤_;omega)) ?_
      refine aa (oO hG (aI s) (bh o) h.d.se (by show s.1.2.length≤_;omega)) ?_
      refine aS ((dr (l:=s.1.2) h.d.se).trans hf) (aj rfl ?_)
      exact ae ((fU (l:=s.1.1) h.d.sv).trans TD) rfl
    · rw[if_pos (show(bg s.1 (fk o)).isSome=true from TD)];rfl
  |false =>
  rw[if_neg (show ¬(bg s.1 (fk o)).isSome=true by show ¬(aQ s.1.1 (fk o)).isSome=true;rw[TD];simp)]
  cases TZ:(aU s.1.2 (bh o)).isSome with
  |true =>
    refine⟨12,aI s,start _ _ ((TV _ _ _).trans ?_),?_⟩
    · refine aa (oO hG (aI s) (ba o) h.d.se (by show s.1.2.length≤_;omega)) ?_
      refine aa (qw hG (aI s) (fk o) h.d.sv (by show s.1.1.length≤_;omega)) ?_
      refine aa (oO hG (aI s) (bh o) h.d.se (by show s.1.2.length≤_;omega)) ?_
      refine aS ((dr (l:=s.1.2) h.d.se).trans hf) (aj rfl ?_)
      refine aj ((fU (l:=s.1.1) h.d.sv).trans TD) ?_
      exact ae ((dr (l:=s.1.2) h.d.se).trans TZ) rfl
    · rw[if_pos (show(fZ s.1 (bh o)).isSome=true from TZ)];rfl
  |false =>
  rw[if_neg (show ¬(fZ s.1 (bh o)).isSome=true by show ¬(aU s.1.2 (bh o)).isSome=true;rw[TZ];simp)]
  have ag0:aQ s.1.1 (fk o)=none:=by simpa using TD
  have XL:aU s.1.2 (bh o)=none:=by simpa using TZ
  obtain⟨m,Ow⟩:∃m:ab,m=IC o:=⟨_,rfl⟩
  obtain⟨kk,Tt⟩:∃m:ab,m=Er o:=⟨_,rfl⟩
  have KA:m∈ak s.1.1:=by rw[Ow];exact h.d.mI hf s1
  have D2:af kk∉ak s.1.1:=by rw[Tt];exact h.d.nu XL _
  obtain⟨p1,q1⟩:=jP h.d.rw KA D2
  have nX:kk.2=0∨kk.2=1:=by rw[Tt];exact s2
  obtain⟨k,v,hk,js,hv⟩:=rM KA
  have e1:s.1.1.set k (v.1,(fE v.2.1 m (af kk),v.2.2))=(av s.1 m (af kk)).1:=IT h.d.rw hk js _ s.1.2
  have hlen:(av s.1 m (af kk)).1.length=s.1.1.length:=by unfold av;exact gQ _ _ _
  have Ul:aQ (av s.1 m (af kk)).1 (fk o)=none:=by
    unfold av Vs.bM
    rw[oM (rK _ _),ag0];rfl
  have eM:((ba o,fz .xor .i64 1 (fz .and .i64 (oN o) 1)):ab)=m:=by rw[Ow,c1];rfl
  have eK:((bh o,lB .i64 (oN o) 1):ab)=kk:=by rw[Tt,c2];rfl
  have go:∀(e:Int) (w:aF),(∀a:List ag,a=(av s.1 m (af kk)).1→((FX G 90 HQ (((fk o,(bZ [m,kk],(e0,(0:Int)))),()),((a,(s.1.2,(s.2,()))),()))).bind fun(lF:((Int×Unit)×(aF×Unit))) =>
       cond (lF.1.1 != (0:Int))
        (some (lF.1,((lF.2.1.1,(lF.2.1.2.1,lF.2.1.2.2)),())))
        ((FX G 110 yR ((bh o,()),((lF.2.1.1,(lF.2.1.2.1,lF.2.1.2.2)),()))).bind fun(nk:((Int×Unit)×(aF×Unit))) =>
        some (nk.1,((nk.2.1.1,(nk.2.1.2.1,nk.2.1.2.2)),()))))=some ((e,()),(w,())))→FX G 94 zz ((o,()),(aI s,()))=some ((e,()),(w,())):=fun e w rest=>by
    refine start _ _ ((TV _ _ _).trans ?_)
    refine aa (oO hG (aI s) (ba o) h.d.se (by show s.1.2.length≤_;omega)) ?_
    refine aa (qw hG (aI s) (fk o) h.d.sv (by show s.1.1.length≤_;omega)) ?_
    refine aa (oO hG (aI s) (bh o) h.d.se (by show s.1.2.length≤_;omega)) ?_
    refine aS ((dr (l:=s.1.2) h.d.se).trans hf) (aj rfl ?_)
    refine aj ((fU (l:=s.1.1) h.d.sv).trans TD) ?_
    refine aj ((dr (l:=s.1.2) h.d.se).trans TZ) ?_
    refine aj rfl ?_
    have body:∀mm k2:ab,mm=m→k2=kk→((FX G 118 mw ((mm,()),(aI s,()))).bind fun(y4:(((Option ((Fin 1)×Nat))×Unit)×(aF×Unit))) =>
      qM y4.1.1
       (none) fun(p5:((Fin 1)×Nat)) =>
      cond (p5.1.val==0)
       (((y4.2.1.1)[p5.2]?).bind fun(y6:ag) =>
       (FX G 122 oD ((k2,()),())).bind fun(y7:((ab×Unit)×Unit)) =>
       (FX G 121 tJ ((y6.2.1,(mm,((y7.1.1.1,y7.1.1.2),()))),())).bind fun(y8:(((List ab)×Unit)×Unit)) =>
       ((y4.2.1.1)[p5.2]?).bind fun(y9:ag) =>
       (FX G 123 rp (([mm,k2],()),())).bind fun(pW:(((List ab)×Unit)×Unit)) =>
       (FX G 90 HQ (((fk o,(pW.1.1,((⟨#[]⟩:ByteArray),(0:Int)))),()),(((List.set y4.2.1.1 p5.2 (y9.1,(y8.1.1,y9.2.2))),(y4.2.1.2.1,y4.2.1.2.2)),()))).bind fun(lF:((Int×Unit)×(aF×Unit))) =>
       cond (lF.1.1 != (0:Int))
        (some (lF.1,((lF.2.1.1,(lF.2.1.2.1,lF.2.1.2.2)),())))
        ((FX G 110 yR ((bh o,()),((lF.2.1.1,(lF.2.1.2.1,lF.2.1.2.2)),()))).bind fun(nk:((Int×Unit)×(aF×Unit))) =>
        some (nk.1,((nk.2.1.1,(nk.2.1.2.1,nk.2.1.2.2)),()))))
       (none))=some ((e,()),(w,())):=by
      intro mm k2 ag1 ag2
      subst ag1 ag2
      refine aa (ED hG (aI s) mm h.d.rw hs.n hs.r hk js) ?_
      refine tN rfl (ae rfl (aa hk ?_))
      refine aa (IP (hG _ _ rfl) k2 nX) ?_
      refine aa (V6 hG v.2.1 mm (af k2) (hs.r v hv)) ?_
      refine aa hk ?_
      refine aa (Eu hG [mm,k2] (by simp)) ?_
      exact rest _ e1
    exact body _ _ eM eK
  have ag3:24≤s.1.1.length→qx ((av s.1 m (af kk)).1,(s.1.2,(s.2,()))) (fk o,(bZ [m,kk],(e0,0)))=(3,((av s.1 m (af kk)).1,(s.1.2,(s.2,())))):=fun hb=>by
    unfold qx
    rw[if_neg (by rw[show aQ ((av s.1 m (af kk)).1,(s.1.2,(s.2,()))).1 ((fk o,(bZ [m,kk],(e0,0))):ag).1=none from Ul];simp)]
    rw[if_pos (by show 24≤(av s.1 m (af kk)).1.length;omega)]
  have XM:¬24≤s.1.1.length→qx ((av s.1 m (af kk)).1,(s.1.2,(s.2,()))) (fk o,(bZ [m,kk],(e0,0)))=(0,(cX (fk o,(bZ [m,kk],(e0,0))) (av s.1 m (af kk)).1,(s.1.2,(s.2,())))):=fun hb=>by
    unfold qx
    rw[if_neg (by rw[show aQ ((av s.1 m (af kk)).1,(s.1.2,(s.2,()))).1 ((fk o,(bZ [m,kk],(e0,0))):ag).1=none from Ul];simp)]
    rw[if_neg (by show ¬24≤(av s.1 m (af kk)).1.length;omega)]
  by_cases hb:24≤s.1.1.length
  · refine⟨3,((av s.1 m (af kk)).1,(s.1.2,(s.2,()))),go _ _ (fun a ha=>?_),?_⟩
    · subst ha
      refine aa (Uh hG ((av s.1 m (af kk)).1,(s.1.2,(s.2,()))) (fk o,(bZ [m,kk],(e0,0))) q1.s (by show(av s.1 m (af kk)).1.length≤_;omega)) ?_
      rw[ag3 hb]
      exact ae rfl rfl
    · rw[if_pos hb];rfl
  rw[if_neg hb]
  have hE:tO (cX (fk o,(bZ [m,kk],(e0,0))) (av s.1 m (af kk)).1,(s.1.2,(s.2,()))) (bh o)=if 40≤s.1.2.length then(3,(cX (fk o,(bZ [m,kk],(e0,0))) (av s.1 m (af kk)).1,(s.1.2,(s.2,())))) else(0,(cX (fk o,(bZ [m,kk],(e0,0))) (av s.1 m (af kk)).1,(cF (bh o,(e0,0)) s.1.2,(s.2,())))):=by
    unfold tO
    rw[if_neg (by show ¬(aU s.1.2 (bh o)).isSome=true;rw[TZ];simp)]
  have fin:FX G 94 zz ((o,()),(aI s,()))=some (((tO (cX (fk o,(bZ [m,kk],(e0,0))) (av s.1 m (af kk)).1,(s.1.2,(s.2,()))) (bh o)).1,()),((tO (cX (fk o,(bZ [m,kk],(e0,0))) (av s.1 m (af kk)).1,(s.1.2,(s.2,()))) (bh o)).2,())):=by
    refine go _ _ (fun a ha=>?_)
    subst ha
    refine aa (Uh hG ((av s.1 m (af kk)).1,(s.1.2,(s.2,()))) (fk o,(bZ [m,kk],(e0,0))) q1.s (by show(av s.1 m (af kk)).1.length≤_;omega)) ?_
    rw[XM hb]
    refine aj rfl ?_
    exact aa (VW hG (cX (fk o,(bZ [m,kk],(e0,0))) (av s.1 m (af kk)).1,(s.1.2,(s.2,()))) (bh o) h.d.se (by show s.1.2.length≤_;omega)) rfl
  rw[hE]at fin
  by_cases hb4:40≤s.1.2.length
  · rw[if_pos hb4]at fin ⊢
    exact⟨_,_,fin,rfl⟩
  · rw[if_neg hb4]at fin ⊢
    refine⟨_,_,fin,?_⟩
    rw[Ow,Tt];rfl
theorem ag4(hG:HG G)(s:StateT)(o:bL)(h:im s)(hs:Sv s.1.1) :
    ∃(e:Int) (w:aF),FX G 95 rm ((o,()),(aI s,()))=some ((e,()),(w,()))∧ic e w=kE s o:=by
  have bp:=h.d.ne;have Ot:=h.d.nv;have hgn:=h.n
  have start:∀(e:Int) (w:aF),cp 95 rm Tryz.f95 (FX G) (LX G 95 rm Tryz.f95) ((o,()),(aI s,()))=some ((e,()),(w,()))→FX G 95 rm ((o,()),(aI s,()))=some ((e,()),(w,())):=fun e w a =>
    aA (fn:=Tryz.f95) (hG _ _ rfl) (by kernel_rfl) (by kernel_rfl) a
  unfold kE
  cases hf:aQ s.1.1 (ba o) with
  |none =>
    refine⟨13,aI s,start _ _ ((ZM _ _ _).trans ?_),?_⟩
    · refine aa (qw hG (aI s) (ba o) h.d.sv (by show s.1.1.length≤_;omega)) ?_
      exact aS ((fU (l:=s.1.1) h.d.sv).trans (by rw[hf])) rfl
    · rw[show bg s.1 (ba o)=none from hf];rfl
  |some v =>
  have hfs:(aQ s.1.1 (ba o)).isSome=true:=by rw[hf];rfl
  have hv:=fw hf
  have XH:=iF hf
  have nJ:=dp h.d.sv hf
  have aM:=(List.getElem?_eq_some_iff.1 nJ).1
  have hgr:=h.d.rw
  have go:∀(e:Int) (w:aF),(cond ((((List.length v.2.1):Nat):Int) != (2:Int)) (some (((14:Int),()),(aI s,()))) _=some ((e,()),(w,())))→FX G 95 rm ((o,()),(aI s,()))=some ((e,()),(w,())):=fun e w rest=>by
    refine start _ _ ((ZM _ _ _).trans ?_)
    refine aa (qw hG (aI s) (ba o) h.d.sv (by show s.1.1.length≤_;omega)) ?_
    refine aS ((fU (l:=s.1.1) h.d.sv).trans hfs) (aj rfl ?_)
    refine ae (dq (eX _) (bm aM)) (aa nJ ?_)
    exact rest
  rw[show bg s.1 (ba o)=some v from hf]
  by_cases uc:v.2.1.length=2
  case neg =>
    refine⟨14,aI s,go _ _ (ae (by rw[bne_iff_ne];omega) rfl),?_⟩
    show ic 14 (aI s)=(match v.2.1 with | [r0,r1]=>jO s o r0 r1|_=>(zS,(14,())))
    split
    · rename_i hr;rw[hr]at uc;exact absurd rfl uc
    · rfl
  obtain⟨r0,r1,hr⟩:∃r0 r1,v.2.1=[r0,r1]:=by
    match hq:v.2.1,uc with
    |[a,b],_=>exact⟨a,b,rfl⟩
  have Ee:(((List.length v.2.1:Nat):Int) != (2:Int))=false:=by rw[uc];rfl
  have g0:br v.2.1 (0:Int)=some r0:=by rw[hr];rfl
  have g1:br v.2.1 (1:Int)=some r1:=by rw[hr];rfl
  show ∃(e:Int) (w:aF),FX G 95 rm ((o,()),(aI s,()))=some ((e,()),(w,()))∧ic e w=(match v.2.1 with | [r0,r1]=>jO s o r0 r1|_=>(zS,(14,())))
  rw[hr]
  show ∃(e:Int) (w:aF),FX G 95 rm ((o,()),(aI s,()))=some ((e,()),(w,()))∧ic e w=jO s o r0 r1
  unfold jO
  by_cases Um:r0.1=r1.1
  · refine⟨14,aI s,go _ _ (aj Ee (aa g0 (aa g1 (ae ((jT r0.1 r1.1).trans (decide_eq_true Um)) rfl)))),?_⟩
    rw[if_pos Um];rfl
  rw[if_neg Um]
  have b01:=(jT r0.1 r1.1).trans (decide_eq_false Um)
  have tail:∀a b:ab,v.2.1.Perm [a,b]→a.1≠b.1→((FX G 122 oD ((b,()),())).bind fun(y7:((ab×Unit)×Unit)) =>
        cond (jU s.1.1 ((bJ s.1.1 (ba o):Nat):Int) (IntKind.wrap .i64 (((bJ s.1.1 (ba o):Nat):Int)+(1:Int))))
         ((FX G 118 mw (((y7.1.1.1,y7.1.1.2),()),(((dx s.1.1 ((bJ s.1.1 (ba o):Nat):Int) (IntKind.wrap .i64 (((bJ s.1.1 (ba o):Nat):Int)+(1:Int)))),(s.1.2,(s.2,()))),()))).bind fun(y8:(((Option ((Fin 1)×Nat))×Unit)×(aF×Unit))) =>
         qM y8.1.1
          (none) fun(p9:((Fin 1)×Nat)) =>
         cond (p9.1.val==0)
          (((y8.2.1.1)[p9.2]?).bind fun(pW:ag) =>
          (FX G 121 tJ ((pW.2.1,((y7.1.1.1,y7.1.1.2),(a,()))),())).bind fun(lF:(((List ab)×Unit)×Unit)) =>
          ((y8.2.1.1)[p9.2]?).bind fun(nk:ag) =>
          (FX G 115 nj ((b.1,()),(((List.set y8.2.1.1 p9.2 (nk.1,(lF.1.1,nk.2.2))),(y8.2.1.2.1,y8.2.1.2.2)),()))).bind fun(ln:((Int×(Bool×Unit))×(aF×Unit))) =>
          cond (jU ln.2.1.2.1 ln.1.1 (IntKind.wrap .i64 (ln.1.1+(1:Int))))
           (LX G 95 rm Tryz.f95 nO (aY Tryz.prog 95 0) (((0:Int),()),(((ln.2.1.1,((dx ln.2.1.2.1 ln.1.1 (IntKind.wrap .i64 (ln.1.1+(1:Int)))),ln.2.1.2.2)),((a,()),((b,()),(((y7.1.1.1,y7.1.1.2),()),())))),())))
           (none))
          (none))
         (none))=some (((0:Int),()),(((Gz s o a b).1,((Gz s o a b).2,(IE s.2 a b,()))),())):=by
    intro a b hp yW
    obtain⟨p,q,h1,_,h2,_⟩:=mH h.d.sv hv
    have pd:(ak s.1.1).Perm (a::b::ak (p++q)):=by
      have:=(g6 p q v).trans (List.Perm.append_right _ hp)
      rw[←h1]at this;exact this
    have L8:cT s.1.1 (ba o)=p++q:=by rw[←XH];exact h2
    have KB:aJ s.1 (ba o) zI=(p++q,s.1.2):=by unfold aJ;rw[L8,qb h.d.ge]
    have C5:=pd.nodup_iff.1 hgr.n
    have hbm:b∈ends s.1.2:=h.d.pd.mem_iff.1 (pd.mem_iff.2 (by simp))
    obtain⟨e,he,Zp,vj⟩:=eQ.1 hbm
    have Bn:(aU s.1.2 b.1).isSome=true:=by
      unfold aU;rw[List.find?_isSome];exact⟨e,he,by simpa using Zp⟩
    obtain⟨_,ho⟩:=g9 vj
    have NW:af b∈ak (p++q):=by
      have h3:af b∈ak s.1.1:=h.d.mI (s:=(af b).2) Bn (by rcases ho with⟨_,k⟩|⟨_,k⟩<;>omega)
      rcases List.mem_cons.1 (pd.mem_iff.1 h3) with k|k
      · exact absurd (congrArg Prod.fst k) (fun k=>yW k.symm)
      rcases List.mem_cons.1 k with k|k
      · have:=congrArg Prod.snd k;omega
      · exact k
    have F7:Rw (p++q):=⟨by rw[←h2];exact mE h.d.sv,(List.nodup_cons.1 (List.nodup_cons.1 C5).2).2⟩
    have bz:∀u∈p++q,u∈s.1.1:=fun u hu=>by
      rw[h1]
      rcases List.mem_append.1 hu with k|k
      · exact List.mem_append_left _ k
      · exact List.mem_append_right _ (List.mem_cons_of_mem _ k)
    have Gx:Sv (p++q):=⟨by
      have:=hs.n;rw[h1]at this;simp at this ⊢;omega,fun u hu=>hs.r u (bz u hu)⟩
    obtain⟨dk1,dk2⟩:=RD h.d.sv hfs (by omega)
    rw[L8]at dk2
    obtain⟨k,u,hk,hxu,hu⟩:=rM NW
    have e1:(p++q).set k (u.1,(fE u.2.1 (af b) a,u.2.2))=(av (p++q,s.1.2) (af b) a).1:=IT F7 hk hxu _ s.1.2
    have L5:∀w∈(av (p++q,s.1.2) (af b) a).1,GV w:=qa (d:=(p++q,s.1.2)) (fun w hw=>h.d.gv w (bz w hw)) _ _
    have eD:Gz s o a b=((av (p++q,s.1.2) (af b) a).1,cE s.1.2 b.1):=by
      unfold Gz
      rw[KB]
      unfold aJ
      rw[qc L5];rfl
    have ga:=ku h.g h.n ((b.1,0),qF a b 0)
    rw[eD]
    refine aa (IP (hG _ _ rfl) b vj) ?_
    refine ae dk1 ?_
    have r1:∀l1:List ag,l1=p++q→((FX G 118 mw ((af b,()),((l1,(s.1.2,(s.2,()))),()))).bind fun(y8:(((Option ((Fin 1)×Nat))×Unit)×(aF×Unit))) =>
         qM y8.1.1
          (none) fun(p9:((Fin 1)×Nat)) =>
         cond (p9.1.val==0)
          (((y8.2.1.1)[p9.2]?).bind fun(pW:ag) =>
          (FX G 121 tJ ((pW.2.1,(af b,(a,()))),())).bind fun(lF:(((List ab)×Unit)×Unit)) =>
          ((y8.2.1.1)[p9.2]?).bind fun(nk:ag) =>
          (FX G 115 nj ((b.1,()),(((List.set y8.2.1.1 p9.2 (nk.1,(lF.1.1,nk.2.2))),(y8.2.1.2.1,y8.2.1.2.2)),()))).bind fun(ln:((Int×(Bool×Unit))×(aF×Unit))) =>
          cond (jU ln.2.1.2.1 ln.1.1 (IntKind.wrap .i64 (ln.1.1+(1:Int))))
           (LX G 95 rm Tryz.f95 nO (aY Tryz.prog 95 0) (((0:Int),()),(((ln.2.1.1,((dx ln.2.1.2.1 ln.1.1 (IntKind.wrap .i64 (ln.1.1+(1:Int)))),ln.2.1.2.2)),((a,()),((b,()),((af b,()),())))),())))
           (none))
          (none))=some (((0:Int),()),(((av (p++q,s.1.2) (af b) a).1,(cE s.1.2 b.1,(IE s.2 a b,()))),())):=by
      intro l1 hl1
      subst hl1
      refine aa (ED hG (p++q,(s.1.2,(s.2,()))) (af b) F7 Gx.n Gx.r hk hxu) ?_
      refine tN rfl (ae rfl (aa hk ?_))
      refine aa (V6 hG u.2.1 (af b) a (Gx.r u hu)) ?_
      refine aa hk ?_
      have r2:∀l2:List ag,l2=(av (p++q,s.1.2) (af b) a).1→((FX G 115 nj ((b.1,()),((l2,(s.1.2,(s.2,()))),()))).bind fun(ln:((Int×(Bool×Unit))×(aF×Unit))) =>
          cond (jU ln.2.1.2.1 ln.1.1 (IntKind.wrap .i64 (ln.1.1+(1:Int))))
           (LX G 95 rm Tryz.f95 nO (aY Tryz.prog 95 0) (((0:Int),()),(((ln.2.1.1,((dx ln.2.1.2.1 ln.1.1 (IntKind.wrap .i64 (ln.1.1+(1:Int)))),ln.2.1.2.2)),((a,()),((b,()),((af b,()),())))),())))
           (none))=some (((0:Int),()),(((av (p++q,s.1.2) (af b) a).1,(cE s.1.2 b.1,(IE s.2 a b,()))),())):=by
        intro l2 uc
        subst uc
        refine aa (oO hG ((av (p++q,s.1.2) (af b) a).1,(s.1.2,(s.2,()))) b.1 h.d.se (by show s.1.2.length≤_;omega)) ?_
        obtain⟨ek1,ek2⟩:=IQ h.d.se Bn (by omega)
        refine ae ek1 ?_
        have r3:∀l3:List ah,l3=cE s.1.2 b.1→(LX G 95 rm Tryz.f95 nO (aY Tryz.prog 95 0) (((0:Int),()),((((av (p++q,s.1.2) (af b) a).1,(l3,(s.2,()))),((a,()),((b,()),((af b,()),())))),())))=some (((0:Int),()),(((av (p++q,s.1.2) (af b) a).1,(cE s.1.2 b.1,(IE s.2 a b,()))),())):=by
          intro l3 hl3
          subst hl3
          have eb:b=(b.1,b.2):=rfl
          have eo:af b=(b.1,(af b).2):=rfl
          rcases ho with⟨DA,OY⟩|⟨QV,ho0⟩
          · rw[DA]at eb;rw[OY]at eo
            have t0:qF a b 0=zD:=by unfold qF;rw[if_neg (by rw[eo];simp)]
            have t1:qF a b 1=a:=by unfold qF;rw[if_pos eo.symm]
            rw[t0,←eb]at ga
            have eG:IE s.2 a b=bG (bG s.2 (b,zD)) (af b,a):=by unfold IE;rw[t0,t1,←eb,←eo]
            rw[eG]
            refine aB (j:=0) (by kernel_rfl) ((xy _ _ _).trans ?_)
            refine ae rfl (ae (by show(b.2==(0:Int))=true;simp[DA]) ?_)
            refine aa (EC hG ((av (p++q,s.1.2) (af b) a).1,(cE s.1.2 b.1,(s.2,()))) b zD h.g (by show s.2.length≤_;omega)) ?_
            refine aB (j:=0) (by kernel_rfl) ((xy _ _ _).trans ?_)
            refine ae rfl (aj (by show(b.2==(1:Int))=false;simp[DA]) ?_)
            refine aa (EC hG ((av (p++q,s.1.2) (af b) a).1,(cE s.1.2 b.1,(bG s.2 (b,zD),()))) (af b) a ga.1 (by have:=ga.2;show(bG s.2 (b,zD)).length≤_;omega)) ?_
            refine aB (j:=0) (by kernel_rfl) ((xy _ _ _).trans ?_)
            exact aj rfl rfl
          · rw[QV]at eb;rw[ho0]at eo
            have t0:qF a b 0=a:=by unfold qF;rw[if_pos eo.symm]
            have t1:qF a b 1=zD:=by unfold qF;rw[if_neg (by rw[eo];simp)]
            rw[t0,←eo]at ga
            have eG:IE s.2 a b=bG (bG s.2 (af b,a)) (b,zD):=by unfold IE;rw[t0,t1,←eb,←eo]
            rw[eG]
            refine aB (j:=0) (by kernel_rfl) ((xy _ _ _).trans ?_)
            refine ae rfl (aj (by show(b.2==(0:Int))=false;simp[QV]) ?_)
            refine aa (EC hG ((av (p++q,s.1.2) (af b) a).1,(cE s.1.2 b.1,(s.2,()))) (af b) a h.g (by show s.2.length≤_;omega)) ?_
            refine aB (j:=0) (by kernel_rfl) ((xy _ _ _).trans ?_)
            refine ae rfl (ae (by show(b.2==(1:Int))=true;simp[QV]) ?_)
            refine aa (EC hG ((av (p++q,s.1.2) (af b) a).1,(cE s.1.2 b.1,(bG s.2 (af b,a),()))) b zD ga.1 (by have:=ga.2;show(bG s.2 (af b,a)).length≤_;omega)) ?_
            refine aB (j:=0) (by kernel_rfl) ((xy _ _ _).trans ?_)
            exact aj rfl rfl
        exact r3 _ ek2
      exact r2 _ e1
    exact r1 _ dk2
  have bo:∀y:ab,((y.1.1==(bh o).1)&&(y.1.2==(bh o).2))=decide (y.1=bh o):=fun y=>jT y.1 (bh o)
  by_cases h0:r0.1=bh o
  · rw[if_pos h0]
    refine⟨0,((Gz s o r1 r0).1,((Gz s o r1 r0).2,(IE s.2 r1 r0,()))),go _ _ (aj Ee (aa g0 (aa g1 (aj b01 (aa g0 (aa g1 (ae ((bo r0).trans (decide_eq_true h0)) ?_))))))),rfl⟩
    refine aS ((bo r0).trans (decide_eq_true h0)) (aj rfl ?_)
    exact tail r1 r0 (by rw[hr];exact List.Perm.swap _ _ _) (fun k=>Um k.symm)
  rw[if_neg h0]
  by_cases h1:r1.1=bh o
  · rw[if_pos h1]
    refine⟨0,((Gz s o r0 r1).1,((Gz s o r0 r1).2,(IE s.2 r0 r1,()))),go _ _ (aj Ee (aa g0 (aa g1 (aj b01 (aa g0 (aa g1 (aj ((bo r0).trans (decide_eq_false h0)) ?_))))))),rfl⟩
    refine aS ((bo r1).trans (decide_eq_true h1)) (aj rfl ?_)
    exact tail r0 r1 (by rw[hr]) Um
  rw[if_neg h1]
  refine⟨14,aI s,go _ _ (aj Ee (aa g0 (aa g1 (aj b01 (aa g0 (aa g1 (aj ((bo r0).trans (decide_eq_false h0)) ?_))))))),rfl⟩
  exact aS ((bo r1).trans (decide_eq_false h1)) (ae rfl rfl)
end Go.Vs
namespace Go.Vs
open Go.Proofs
theorem Un{row:List ab}{j m:Nat}(hj:j≤row.length)(hm:m≤row.length)(h0:0<row.length):qv (qv row j) m=qv row ((j+m)%row.length):=by
 apply List.ext_getElem?
 intro i
 have hl:(qv row j).length=row.length:=gM _ _
 have hp:=Nat.mod_lt (j+m) h0
 by_cases hi:i<row.length
 ·rw[sM (by omega) (by omega),hl,sM (by omega) (Nat.mod_lt _ h0),sM (Nat.le_of_lt hp) hi]
  congr 1
  simp only[Nat.add_mod_mod,Nat.mod_add_mod,Nat.add_assoc]
 ·rw[List.getElem?_eq_none (by rw[gM,gM];omega),List.getElem?_eq_none (by rw[gM];omega)]
theorem xS{row:List ab}(hn:row.Nodup){i j:Nat}{hi:i<row.length}{hj:j<row.length}(h:row[i]=row[j]):i=j:=by
 rcases Nat.lt_trichotomy i j with k|k|k
 ·exact absurd h (List.pairwise_iff_getElem.1 hn i j hi hj k)
 ·exact k
 ·exact absurd h.symm (List.pairwise_iff_getElem.1 hn j i hj hi k)
theorem xT{row:List ab}(hn:row.Nodup){i j:Nat}{x:ab}(hi:row[i]? = some x)(hj:row[j]? = some x):i=j:=by
 obtain⟨h1,h2⟩:=List.getElem?_eq_some_iff.1 hi
 obtain⟨h3,h4⟩:=List.getElem?_eq_some_iff.1 hj
 exact xS hn (h2.trans h4.symm)
theorem RE{row:List ab}(hn:row.Nodup){j:Nat}(hj:j≤row.length):bZ (qv row j)=bZ row:=by
 by_cases h0:row.length=0
 ·have:row=[]:=by simpa using h0
  subst this
  have:j=0:=by simpa using hj
  subst this;rfl
 have hp:0<row.length:=by omega
 have hl:(qv row j).length=row.length:=gM _ _
 have hm:=kC row row 0 0 hp (by omega)
 have Ox:=kC (qv row j) (qv row j) 0 0 (by omega) (by omega)
 have l1:=mG hp
 have l2:=mG (row:=qv row j) (by omega)
 unfold bZ
 rw[Un hj (by omega) hp]
 generalize eZ (qv row j) (qv row j) 0 0=m' at *
 generalize eZ row row 0 0=m at *
 rw[hl]at Ox
 have hx:(qv row j)[m']? = row[(j+m')%row.length]? := sM hj Ox
 have hq:=Nat.mod_lt (j+m') hp
 rw[lJ hm]at l1
 rw[lJ (by omega)]at l2
 have e1:(qv row j)[m']'(by omega)=row[(j+m')%row.length]:=by
  rw[List.getElem?_eq_getElem (by omega),List.getElem?_eq_getElem hq]at hx
  exact Option.some.inj hx
 rw[e1]at l2
 have h1:=l1.1 _ hq
 have h2:lp row[m] row[(j+m')%row.length]=false:=by
  have gH:row[m]∈qv row j:=LV.2 (List.getElem_mem hm)
  obtain⟨t,ht,he⟩:=List.getElem_of_mem gH
  rw[←he];exact l2.1 t ht
 have heq:row[(j+m')%row.length]=row[m]:=Classical.byContradiction fun k=>by
  have:=sQ h1 k
  rw[h2]at this;cases this
 have:=xS hn heq
 rw[this]
theorem kY(row:List ab):∃j,j≤row.length∧bZ row=qv row j:=by
 by_cases h0:row.length=0
 ·have:row=[]:=by simpa using h0
  subst this;exact⟨0,by simp,rfl⟩
 ·exact⟨eZ row row 0 0,Nat.le_of_lt (kC row row 0 0 (by omega) (by omega)),rfl⟩
theorem NY{row:List ab}(hn:row.Nodup){k:Nat}{m y:ab}(hk:row[k]? = some m)(hy:y∉row):(row.set k y).Nodup:=by
 obtain⟨h1,h2⟩:=List.getElem?_eq_some_iff.1 hk
 rw[List.set_eq_take_append_cons_drop,if_pos h1]
 have p:(row.take k++y::row.drop (k+1)).Perm (y::(row.take k++row.drop (k+1))):=List.perm_middle
 refine p.nodup_iff.2 (List.nodup_cons.2 ⟨fun h=>hy ?_,?_⟩)
 ·rcases List.mem_append.1 h with h|h
  ·exact List.mem_of_mem_take h
  ·exact List.mem_of_mem_drop h
 ·refine List.Sublist.nodup ?_ hn
  conv=>rhs;rw[←List.take_append_drop k row]
  refine List.Sublist.append (List.Sublist.refl _) ?_
  exact(List.drop_sublist_drop_left row (show k≤k+1 by omega))
theorem F9{row:List ab}(hn:row.Nodup){k:Nat}{x:ab}(hk:row[k]? = some x):idx x row 0=(k:Int):=by
 have:=Kx (d:=x) (row:=row) (k:=k) (i:=0) hk (fun j hj he=>by have:=xT hn hk he;omega)
 omega
theorem RF(m k:ab):bZ [m,k]=[m,k]∨bZ [m,k]=[k,m]:=by
 have hm:=kC [m,k] [m,k] 0 0 (by simp) (by simp)
 have:eZ [m,k] [m,k] 0 0=0∨eZ [m,k] [m,k] 0 0=1:=by simp at hm;omega
 unfold bZ
 rcases this with h|h<;>rw[h]
 ·exact .inl rfl
 ·exact .inr rfl
end Go.Vs
namespace Go.Vs
open Go.Proofs
variable {G:(f:FuncId)→(g:aL)→Option (g.A→Option g.B)}
theorem NZ(l:List ag)(x:ID):l.any (fun w=>decide (w.1=x))=(aQ l x).isSome:=by
 rw[Bool.eq_iff_iff,List.any_eq_true];unfold aQ;rw[List.find?_isSome]
theorem N0(l:List ah)(x:ID):l.any (fun w=>decide (w.1=x))=(aU l x).isSome:=by
 rw[Bool.eq_iff_iff,List.any_eq_true];unfold aU;rw[List.find?_isSome]
theorem N1(s:StateT)(o:bL):ic (uF (aI s) o).1 (uF (aI s) o).2=wg s o:=by
 unfold uF wg IA FV
 rw[NZ,N0]
 by_cases ho:nR o=true
 ·have hv:s.1.1.map (il o)=s.1.1:=by
   conv=>rhs;rw[←List.map_id s.1.1]
   exact List.map_congr_left fun u hu=>by unfold il;rw[if_neg (by rw[ho];simp)];rfl
  rw[if_pos ho,ho,hv]
  show ic (if(aU s.1.2 (ba o)).isSome=true then _ else _:Int×aF).1 (if(aU s.1.2 (ba o)).isSome=true then _ else _:Int×aF).2=_
  cases (aU s.1.2 (ba o)).isSome<;>rfl
 ·have nK:nR o=false:=by simpa using ho
  have he:s.1.2.map (jN o)=s.1.2:=by
   conv=>rhs;rw[←List.map_id s.1.2]
   exact List.map_congr_left fun u hu=>by unfold jN;rw[if_neg (by rw[nK];simp)];rfl
  rw[if_neg ho,nK,he]
  show ic (if(aQ s.1.1 (ba o)).isSome=true then _ else _:Int×aF).1 (if(aQ s.1.1 (ba o)).isSome=true then _ else _:Int×aF).2=_
  cases (aQ s.1.1 (ba o)).isSome<;>rfl
theorem RG(hG:HG G)(w:aF)(o:bL)(hk:7≤o.1)(hv:cf w.1)(he:dv w.2.1)(VX:w.1.length≤50000000)(hle:w.2.1.length≤50000000) :
  FX G 66 zt ((o,()),(w,()))=some (((uF w o).1,()),((uF w o).2,())):=by
 refine aA (fn:=Tryz.f66) (hG _ _ rfl) (by kernel_rfl) (by kernel_rfl) ((FD _ _ _).trans ?_)
 have kn:∀k:Int,k<7→(o.1==k)=false:=fun k nX=>ze (by omega)
 refine aj (kn 1 (by omega)) (aj (kn 2 (by omega)) (aj (kn 3 (by omega)) (aj (kn 4 (by omega)) (aj (kn 5 (by omega)) (aj (kn 6 (by omega)) ?_)))))
 exact aa (agT hG w o hv he VX hle) rfl
def opL(x:ID)(e:Bool)(t:ByteArray):bL:=(7,(x,(zI,(zI,(zC,(zC,(e,(t,0))))))))
def opA(x:ID)(e:Bool)(n:Int):bL:=(8,(x,(zI,(zI,(zC,(zC,(e,(e0,n))))))))
theorem Uo:NL 0:=by unfold NL;omega
theorem wq{l:List ag}(hs:cf l){v w:ag}(hv:v∈l)(hw:w∈l)(h:w.1=v.1):w=v:=by
 have h1:=dS hs hv
 have h2:=dS hs hw
 rw[h,h1]at h2
 exact(Option.some.inj h2).symm
structure Lay(s t:StateT):Prop where
 v:cf t.1.1
 e:dv t.1.2
 sm:Sm t.1
 g:t.2.length≤50000000
end Go.Vs
namespace Go.Vs
open Go.Proofs
variable {G:(f:FuncId)→(g:aL)→Option (g.A→Option g.B)}
theorem zg(l:List ah):(ends l).length=2*l.length:=by
 induction l with
 |nil=>rfl
 |cons e r ih=>rw[kq];simp[ih];omega
theorem Up{l:List ag}{v:ag}(h:v∈l):v.2.1.length≤(ak l).length:=by
 obtain⟨a,b,rfl⟩:=List.append_of_mem h
 rw[oP,km];simp;omega
theorem Wf.rN{d:ai}(h:Wf d):∀v∈d.1,v.2.1.length≤80:=fun v hv=>by
 have h1:=Up hv
 have h2:=h.pd.length_eq
 have h3:=h.ne
 rw[zg]at h2;omega
theorem Wf.sm{d:ai}(h:Wf d):Sm d:=⟨by have:=h.nv;omega,by have:=h.ne;omega,fun v hv=>by have:=h.rN v hv;omega⟩
theorem Wf.small{d:ai}(h:Wf d):Sv d.1:=⟨by have:=h.nv;omega,fun v hv=>by have:=h.rN v hv;omega⟩
theorem N2(s:StateT)(o:bL):ic (qx (aI s) (ba o,([],(e0,0)))).1 (qx (aI s) (ba o,([],(e0,0)))).2=rJ s o:=by
 by_cases hh:(aQ s.1.1 (ba o)).isSome=true
 ·have a:qx (aI s) (ba o,([],(e0,0)))=(12,aI s):=if_pos hh
  have b:rJ s o=(zS,(12,())):=if_pos hh
  rw[a,b];rfl
 by_cases h:24≤s.1.1.length
 ·have a:qx (aI s) (ba o,([],(e0,0)))=(3,aI s):=(if_neg hh).trans (if_pos h)
  have b:rJ s o=(zS,(3,())):=(if_neg hh).trans (if_pos h)
  rw[a,b];rfl
 ·have a:qx (aI s) (ba o,([],(e0,0)))=(0,(cX (ba o,([],(e0,0))) (aI s).1,(aI s).2)):=(if_neg hh).trans (if_neg h)
  have b:rJ s o=(((cX (ba o,([],(e0,0))) s.1.1,s.1.2),s.2),(0,())):=(if_neg hh).trans (if_neg h)
  rw[a,b];rfl
theorem N3{s:StateT}(h:im s)(o:bL):ic (zd (aI s) (ba o)).1 (zd (aI s) (ba o)).2=wh s o:=by
 unfold zd wh bg
 show ic (match aQ s.1.1 (ba o) with|none=>(13,aI s)|some v=>if 0<v.2.1.length then(14,aI s) else(0,(cT s.1.1 (ba o),(s.1.2,(s.2,())))):Int×aF).1 (match aQ s.1.1 (ba o) with|none=>(13,aI s)|some v=>if 0<v.2.1.length then(14,aI s) else(0,(cT s.1.1 (ba o),(s.1.2,(s.2,())))):Int×aF).2=_
 cases aQ s.1.1 (ba o) with
 |none=>rfl
 |some v =>
  simp only
  by_cases hl:0<v.2.1.length
  ·rw[if_pos hl,if_pos hl];rfl
  ·rw[if_neg hl,if_neg hl]
   unfold aJ
   rw[qb h.d.ge];rfl
def RH(s:StateT)(o:bL):StateT×(Int×Unit) :=
 if o.1=1 then rJ s o else if o.1=2 then wh s o else if o.1=3 then nt s o else if o.1=4 then Cl s o else if o.1=5 then lq s o else if o.1=6 then kE s o else wg s o
theorem xU(s:StateT)(o:bL):mT s o=if c5 o≠0 then(zS,(c5 o,())) else RH s o:=rfl
theorem RI(hG:HG G)(s:StateT)(o:bL)(h:im s)(hm:c5 o=0)(h3:o.1=3→∃(e:Int) (w:aF),FX G 92 oC ((o,()),(aI s,()))=some ((e,()),(w,()))∧ic e w=nt s o) :
  ∃(e:Int) (w:aF),FX G 66 zt ((o,()),(aI s,()))=some ((e,()),(w,()))∧ic e w=RH s o:=by
 have hk:=Cw hm
 have Uq:=h.d.small
 have Ot:=h.d.nv;have bp:=h.d.ne
 have start:∀(e:Int) (w:aF),cp 66 zt Tryz.f66 (FX G) (LX G 66 zt Tryz.f66) ((o,()),(aI s,()))=some ((e,()),(w,()))→FX G 66 zt ((o,()),(aI s,()))=some ((e,()),(w,())):=fun e w a =>
  aA (fn:=Tryz.f66) (hG _ _ rfl) (by kernel_rfl) (by kernel_rfl) a
 unfold RH
 by_cases h1:o.1=1
 ·rw[if_pos h1]
  refine⟨_,_,start _ _ ((FD _ _ _).trans (ae (GA h1) (aa (Uh hG (aI s) (ba o,([],(e0,0))) h.d.sv Uq.n) rfl))),?_⟩
  exact N2 s o
 rw[if_neg h1]
 by_cases h2:o.1=2
 ·rw[if_pos h2]
  refine⟨_,_,start _ _ ((FD _ _ _).trans (aj (ze h1) (ae (GA h2) (aa (abr hG (aI s) o h.d.sv Uq.n) rfl)))),?_⟩
  exact N3 h o
 rw[if_neg h2]
 by_cases OD:o.1=3
 ·rw[if_pos OD]
  obtain⟨e,w,a,b⟩:=h3 OD
  exact⟨e,w,start _ _ ((FD _ _ _).trans (aj (ze h1) (aj (ze h2) (ae (GA OD) (aa a rfl))))),b⟩
 rw[if_neg OD]
 by_cases hk4:o.1=4
 ·rw[if_pos hk4]
  obtain⟨e,w,a,b⟩:=agW hG s o h Uq
  exact⟨e,w,start _ _ ((FD _ _ _).trans (aj (ze h1) (aj (ze h2) (aj (ze OD) (ae (GA hk4) (aa a rfl)))))),b⟩
 rw[if_neg hk4]
 by_cases XK:o.1=5
 ·rw[if_pos XK]
  obtain⟨e,w,a,b⟩:=agZ hG s o h Uq hm XK
  exact⟨e,w,start _ _ ((FD _ _ _).trans (aj (ze h1) (aj (ze h2) (aj (ze OD) (aj (ze hk4) (ae (GA XK) (aa a rfl))))))),b⟩
 rw[if_neg XK]
 by_cases hk6:o.1=6
 ·rw[if_pos hk6]
  obtain⟨e,w,a,b⟩:=ag4 hG s o h Uq
  exact⟨e,w,start _ _ ((FD _ _ _).trans (aj (ze h1) (aj (ze h2) (aj (ze OD) (aj (ze hk4) (aj (ze XK) (ae (GA hk6) (aa a rfl)))))))),b⟩
 rw[if_neg hk6]
 refine⟨_,_,RG hG (aI s) o (by omega) h.d.sv h.d.se Uq.n (by show s.1.2.length≤_;omega),?_⟩
 exact N1 s o
theorem RJ(hG:HG G)(s:StateT)(o:bL)(h:im s)(hf:Fit o)(h3:c5 o=0→o.1=3→∃(e:Int) (w:aF),FX G 92 oC ((o,()),(aI s,()))=some ((e,()),(w,()))∧ic e w=nt s o) :
  FX G 14 zo ((s,o,()),())=some (mT s o,()):=by
 rw[xU]
 have hn:=h.n
 by_cases hm:c5 o=0
 ·obtain⟨e,w,a,b⟩:=RI hG s o h hm (h3 hm)
  refine(LZ hG s o (abw hG o hf) h.d.sm (by omega) (fun _=>a)).trans ?_
  rw[hm,if_neg (by simp),b];rfl
 ·rw[if_pos hm]
  refine aA (fn:=Tryz.f14) (hG _ _ rfl) (by kernel_rfl) (by kernel_rfl) ((ZJ _ _ _).trans ?_)
  refine aa (abw hG o hf) ?_
  exact ae (by simpa using hm) rfl
end Go.Vs
namespace Go.Vs
open Go.Proofs
variable {G:(f:FuncId)→(g:aL)→Option (g.A→Option g.B)}
def Ga(G:(f:FuncId)→(g:aL)→Option (g.A→Option g.B))(o:bL):Prop:=∀s,im s→c5 o=0→o.1=3→∃(e:Int) (w:aF),FX G 92 oC ((o,()),(aI s,()))=some ((e,()),(w,()))∧ic e w=nt s o
end Go.Vs
