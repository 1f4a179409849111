/- Edges cut and split -/
import Derived.Test.YtpkfpbpbkabkdaaGreatFormed
import Derived.Test.YtpkfpbpbkabkdaaGreatTop
set_option linter.unusedVariables false
set_option linter.unusedSimpArgs false
namespace Go.Vs
open Go.Proofs
variable {G:(f:FuncId)→(g:aL)→Option (g.A→Option g.B)}
theorem VM(hG:HG G)(v:aw)(x:ab):FX G 232 Dx ((v,x,()),())=some ((mT v.1 x,()),()):=by refine aq (hG _ _ rfl) aak ?_;exact aa (VH hG v.1 x) rfl
def dr(l:List aw)(x:ab):Nat:=l.countP fun v=>kF v.1 x
theorem Fs(l:List aw)(x:ab):dr l x≤l.length:=adI
theorem wT{l:List aw}{x:ab}(h:∀v∈l,kF v.1 x=false):dr l x=0:=by unfold dr;rw[List.countP_eq_zero];intro v hv;simp[h v hv]
theorem DW{x:ab}:∀{l:List aw},iC l→∀(k:Nat) (v:aw),l[k]? = some v→(kF v.1 x=true↔k<dr l x)
 |[],_,k,v,h=>by simp at h
 |w::r,hs,k,v,h=>by
  have hw:∀{u:aw},u∈r→kF w.1 u.1=true:=fun {u} hu=>adn hs hu;have hr:iC r:=hs.of_cons;by_cases aF:kF w.1 x=true
  ·have e:dr (w::r) x=dr r x+1:=by unfold dr;rw[List.countP_cons_of_pos (by simpa using aF)]
   cases k with
   |zero=>simp at h;subst h;simp[aF,e]
   |succ k=>have:=DW (x:=x) hr k v (by simpa using h);rw[this,e];omega
  ·have hn:∀u∈w::r,kF u.1 x=false:=fun u hu=>by
    rcases acn.1 hu with rfl|hu
    ·simpa using aF
    ·rw[Bool.eq_false_iff];intro h2;exact aF (gq (hw hu) h2)
   rw[wT hn,hn v (List.mem_of_getElem? h)];simp
theorem Rn(hG:HG G)(l:List aw)(x:ab)(hs:iC l)(hl:l.length≤50000000):∀(n i j:Nat),j-i≤n→i≤dr l x→dr l x≤j→j≤l.length → LX G 233231 iX Tryz.f231 ij (aN Tryz.prog 231 0) ((l,(((l.length:Nat):Int),((i:Int),((j:Int),())))),(((x,()),()),()))=some (((((dr l x:Nat):Int),(decide ((l[dr l x]?).map (·.1)=some x),())):Int×(Bool×Unit)),()):=by
 have rU:=Fs l x;have fin:∀(i j:Nat),¬(i<j)→i≤dr l x→dr l x≤j→LX G 233231 iX Tryz.f231 ij (aN Tryz.prog 231 0) ((l,(((l.length:Nat):Int),((i:Int),((j:Int),())))),(((x,()),()),()))=some (((((dr l x:Nat):Int),(decide ((l[dr l x]?).map (·.1)=some x),())):Int×(Bool×Unit)),()):=fun i j zZ h1 h2=>by
  have hi:i=dr l x:=by omega
  subst hi;refine au Bo ?_;refine af (decide_eq_false (show ¬(((dr l x:Nat):Int)<(j:Int)) by omega)) ?_;by_cases hc:dr l x<l.length
  ·have hx:l[dr l x]? = some l[dr l x]:=aci hc;refine ae (aX hc) ?_;refine aa (aJ hx) ?_;refine aa (VM hG l[dr l x] x) ?_;refine congrArg (fun b:Bool=>some ((((dr l x:Nat):Int),(b,())),())) ?_;rw[hx];unfold mT;by_cases he:l[dr l x].1=x
   ·simp[he]
   ·simp[he];split<;>simp
  ·refine af (decide_eq_false (show ¬(((dr l x:Nat):Int)<((l.length:Nat):Int)) by omega)) ?_;refine congrArg (fun b:Bool=>some ((((dr l x:Nat):Int),(b,())),())) ?_;rw[List.getElem?_eq_none (by omega)];simp
 intro n
 induction n with
 |zero=>intro i j zZ h1 h2 h3;exact fin i j (by omega) h1 h2
 |succ n ih =>
  intro i j zZ h1 h2 h3;by_cases aF:i<j
  case neg=>exact fin i j aF h1 h2
  refine au Bo ?_;refine ae (decide_eq_true (show((i:Int)<(j:Int)) by omega)) ?_;refine af rfl ?_;have hm:=J6 (i:=i) (j:=j) (by omega) (by omega);have hh:(i+j) / 2<l.length:=by omega
  have hx:l[(i+j) / 2]? = some l[(i+j) / 2]:=aci hh;have nE:=DW (x:=x) hs ((i+j) / 2) _ hx;refine aa (show aT l (IntKind.wrap .i64 (kJ .u64 (IntKind.wrap .u64 (IntKind.wrap .i64 ((i:Int)+(j:Int)))) (1:Int)))=some l[(i+j) / 2] by rw[hm];exact aJ hx) ?_;refine aa (VM hG l[(i+j) / 2] x) ?_;by_cases ho:kF l[(i+j) / 2].1 x=true
  ·refine ae (decide_eq_true ((zg _ _).2 ho)) ?_;have hc:=nE.1 ho;have hw:IntKind.wrap .i64 (IntKind.wrap .i64 (kJ .u64 (IntKind.wrap .u64 (IntKind.wrap .i64 ((i:Int)+(j:Int)))) (1:Int))+1)=(((i+j) / 2+1:Nat):Int):=by rw[hm];exact aG hh (by omega)
   have:=ih ((i+j) / 2+1) j (by omega) (by omega) h2 h3;rw[←hw]at this;exact this
  ·refine af (decide_eq_false (fun h=>ho ((zg _ _).1 h))) ?_;have hc:¬(i+j) / 2<dr l x:=fun h=>ho (nE.2 h);have:=ih i ((i+j) / 2) (by omega) h1 (by omega) (by omega);rw[←hm]at this;exact this
theorem Ro(hG:HG G)(l:List aw)(x:ab)(hs:iC l)(hl:l.length≤50000000) :
  FX G 233231 iX ((l,x,()),())=some (((((dr l x:Nat):Int),(decide ((l[dr l x]?).map (·.1)=some x),())):Int×(Bool×Unit)),()):=by
 refine aq (hG _ _ rfl) QB ?_;exact Rn hG l x hs hl l.length 0 l.length (by omega) (by omega) (Fs l x) (adg _)
theorem HZ(g:aw):∀{l:List aw},iC l→kR g l=if(l[dr l g.1]?).map (·.1)=some g.1 then l.set (dr l g.1) g else l.take (dr l g.1)++(g::l.drop (dr l g.1))
 |[],_=>rfl
 |w::r,hs=>by
  have hw:∀{u:aw},u∈r→kF w.1 u.1=true:=fun {u} hu=>adn hs hu;have hr:iC r:=adX hs;by_cases aF:kF w.1 g.1=true
  ·have e:dr (w::r) g.1=dr r g.1+1:=by unfold dr;rw[List.countP_cons_of_pos (by simpa using aF)]
   have bq:w.1≠g.1:=fun k=>by rw[k,dG]at aF;cases aF
   have ql:¬mT g.1 w.1≤0:=fun k=>by
    rcases oX.1 k with k|k
    ·exact bq k.symm
    ·have:=gq aF k;rw[dG]at this;cases this
   have ih:=HZ g hr;rw[e,kR,if_neg ql,if_pos bq,ih];simp only[List.getElem?_cons_succ,List.set_cons_succ,List.take_succ_cons,List.drop_succ_cons,List.cons_append]
   split<;>rfl
  ·have hn:∀u∈w::r,kF u.1 g.1=false:=fun u hu=>by
    rcases acn.1 hu with rfl|hu
    ·simpa using aF
    ·rw[Bool.eq_false_iff];intro h2;exact aF (gq (hw hu) h2)
   rw[wT hn];by_cases he:w.1=g.1
   ·have Xt:mT g.1 w.1≤0:=oX.2 (.inl he.symm);have h1:mU g (w::r)=r:=by
     have:mU g (w::r)=mU g r:=by unfold mU;rw[List.filter_cons_of_neg (by simp[he])]
     rw[this];exact rP (fun q hq k=>by have:=hw hq;rw[k,he,dG]at this;cases this)
    rw[kR,if_pos Xt,h1,if_pos (by simp[he])];rfl
   ·have IU:kF g.1 w.1=true:=wQ (by simpa using aF) he;have Xt:mT g.1 w.1≤0:=oX.2 (.inr IU);have h1:mU g (w::r)=w::r:=rP (fun q hq k=>by
     rcases acn.1 hq with rfl|hq
     ·exact he k
     ·have:=gq IU (hw hq);rw[k,dG]at this;cases this)
    rw[kR,if_pos Xt,h1,if_neg (by simp[he])];rfl
theorem DX{x:ab}:∀{l:List aw},iC l→(fV l x).isSome=decide ((l[dr l x]?).map (·.1)=some x)
 |[],_=>rfl
 |w::r,hs=>by
  have hw:∀{u:aw},u∈r→kF w.1 u.1=true:=fun {u} hu=>adn hs hu;have hr:iC r:=adX hs;rw[oY];by_cases aF:kF w.1 x=true
  ·have e:dr (w::r) x=dr r x+1:=by unfold dr;rw[List.countP_cons_of_pos (by simpa using aF)]
   have bq:w.1≠x:=fun k=>by rw[k,dG]at aF;cases aF
   rw[e,if_neg bq,DX hr,List.getElem?_cons_succ]
  ·have hn:∀u∈w::r,kF u.1 x=false:=fun u hu=>by
    rcases acn.1 hu with rfl|hu
    ·simpa using aF
    ·rw[Bool.eq_false_iff];intro h2;exact aF (gq (hw hu) h2)
   rw[wT hn];by_cases he:w.1=x
   ·simp[he]
   ·have IU:kF x w.1=true:=wQ (by simpa using aF) he;have:fV r x=none:=by
     unfold fV;have:(List.find? (fun q=>decide (q.1=x)) r)=none:=by
      rw[List.find?_eq_none];intro q hq k;have k:q.1=x:=by simpa using k
      have:=gq IU (hw hq);rw[k,dG]at this;cases this
     rw[this];rfl
    rw[if_neg he,this];simp[he]
theorem abK(hG:HG G)(l:List aw)(g:aw)(hs:iC l)(hl:l.length≤50000000):FX G 215 Hd ((l,g,()),())=some ((bK l g,()),()):=by
 refine aq (hG _ _ rfl) aaa ?_;refine aa (Ro hG l g.1 hs hl) ?_;refine aa (Xp (hG _ _ rfl) l hl) ?_;unfold bK;rw[DX hs,HZ g hs];have hc:dr l g.1≤l.length:=Fs l g.1;by_cases h:(l[dr l g.1]?).map (·.1)=some g.1
 ·rw[decide_eq_true h,if_neg (fun k=>by cases k.1),if_pos h];refine ae rfl ?_;obtain⟨u,hu,_⟩:∃u,l[dr l g.1]? = some u∧u.1=g.1:=by
   cases hq:l[dr l g.1]? with
   |none=>rw[hq]at h;cases h
   |some u=>rw[hq]at h;exact⟨u,rfl,by simpa using h⟩
  have aF:=(ack.1 hu).1;refine ae (db (eQ _) (aX aF)) ?_;exact aa hu rfl
 ·rw[decide_eq_false h,if_neg h];refine af rfl ?_;by_cases h4:400≤l.length
  ·rw[if_pos ⟨rfl,h4⟩];exact af (decide_eq_false (show ¬((l.length:Nat):Int)<400 by omega)) rfl
  ·rw[if_neg (fun k=>h4 k.2)];refine ae (decide_eq_true (show((l.length:Nat):Int)<400 by omega)) ?_;have lu:p6 l ((dr l g.1:Nat):Int) [g]=true:=by unfold p6;rw[decide_eq_true (show(0:Int)≤((dr l g.1:Nat):Int) by omega),decide_eq_true (show((dr l g.1:Nat):Int)≤((l.length:Nat):Int) by omega)];rw[fits (by simp;omega)];rfl
   refine ae lu ?_;have e:fO l ((dr l g.1:Nat):Int) [g]=l.take (dr l g.1)++(g::l.drop (dr l g.1)):=by unfold fO;simp
   exact congrArg (fun r:List aw=>some ((r,()),())) e
theorem DY(hG:HG G)(w:aQ)(x to:ab)(hs:iC w.2.2.1)(hl:w.2.2.1.length≤50000000):FX G 183 AM ((x,to,()),(w,()))=some ((),((w.1,(w.2.1,(bK w.2.2.1 (x,to),()))),())):=by refine aq (hG _ _ rfl) ZJ ?_;exact aa (abK hG w.2.2.1 (x,to) hs hl) rfl
theorem DZ(hG:HG G)(w:aQ)(x:ab)(hw:Rw w.1)(hl:w.1.length≤50000000)(hr:∀v∈w.1,v.2.1.length≤50000000){k:Nat}{v:ag}(hk:w.1[k]? = some v)(hx:x∈v.2.1) :
  FX G 185 lL ((x,()),(w,()))=some (((some ((⟨0,by decide⟩:Fin 1),k)),()),(w,())):=by
 refine aq (hG _ _ rfl) ZL ?_;have Ov:=(ack.1 hk).1;have loop:∀(n i:Nat),i+n=k→LX G 185 lL Tryz.f185 uP (aN Tryz.prog 185 0) ((((w.1.length:Nat):Int),((i:Int),())),((w,((x,()),())),()))=some (((some ((⟨0,by decide⟩:Fin 1),k)),()),(w,())):=by
  intro n
  induction n with
  |zero =>
   intro i hi;have hi:i=k:=by omega
   subst hi;refine au K3 ?_;refine ae (aX Ov) (ae (db (eQ _) (aX Ov)) (aa hk ?_));refine aa (DN hG v.2.1 x (by have:=hr v (adj hk);omega)) ?_;exact ae (decide_eq_true hx) rfl
  |succ n ih =>
   intro i hi;have oc:i<w.1.length:=by omega
   have hu:w.1[i]? = some w.1[i]:=aci oc;have Dh:x∉w.1[i].2.1:=fun hxi=>by have h1:w.1[i]=v:=hw.one (adj hk) (adr oc) hx hxi;have h2:=jF hw.s hk rfl;have h3:=jF hw.s (x:=v.1) hu (by rw[h1]);omega
   refine au K3 ?_;refine ae (aX oc) (ae (db (eQ _) (aX oc)) (aa hu ?_));refine aa (DN hG w.1[i].2.1 x (by have:=hr _ (adr oc);omega)) ?_;refine af (decide_eq_false Dh) ?_;have:=ih (i+1) (by omega);rw[←aG oc (by omega)]at this;exact this
 exact loop k 0 (by omega)
theorem Ka{l:List ag}{k:Nat}{v:ag}(hs:bY l)(hk:l[k]? = some v)(r:List ab):l.set k (v.1,(r,v.2.2))=l.map (rG v.1 r):=by
 have h:=ki hs (adj hk);rw[jF hs hk rfl];refine(HT hs h (rG v.1 r) (fun u=>(u.1,(r,u.2.2))) (fun u hu=>?_) (fun u hu=>?_)).symm
 ·unfold rG;rw[if_pos hu]
 ·unfold rG;rw[if_neg hu]
theorem qO{l:List ag}{x:ab}(h:x∈ar l):∃(k:Nat) (v:ag),l[k]? = some v∧x∈v.2.1∧v∈l:=by obtain⟨v,hv,hx⟩:=br.1 h;obtain⟨k,hk,he⟩:=adM hv;exact⟨k,v,by rw[List.getElem?_eq_getElem hk,he],hx,hv⟩
structure Sv(l:List ag):Prop where
 n:l.length≤50000000
 r:∀v∈l,v.2.1.length≤50000000
theorem Rp{n:Int}(h:n=0∨n=1):dR .xor .i64 n 1=IntKind.wrap .i64 (1-n):=by rcases h with rfl|rfl<;>decide
theorem H3(hG:G 188 nH=none)(x:ab)(h:x.2=0∨x.2=1):FX G 188 nH ((x,()),())=some ((ao x,()),()):=by refine aq hG ZO ?_;exact congrArg (fun n:Int=>some ((((x.1,n):ab),()),())) (Rp h)
theorem Nw{d:aj}(h:Rw d.1){v:ag}{x:ab}(hv:v∈d.1)(hx:x∈v.2.1):da d x=if(iZ v.2.1 x).1=x.1 then(if(iZ v.2.1 (iZ v.2.1 x)).1=x.1 then zD else iZ v.2.1 (iZ v.2.1 x)) else iZ v.2.1 x:=by
 unfold da;have e:bJ d ((cm d x).getD zI)=v.2.1:=by unfold cm;rw[jg h hv hx];exact jI h.s hv
 simp only[e];by_cases h1:(iZ v.2.1 x).1=x.1
 ·simp only[if_pos h1]
 ·simp only[if_neg h1]
theorem VN(hG:HG G)(w:aQ)(x:ab)(hw:Rw w.1)(hs:Sv w.1)(hx:x∈ar w.1)(e:List ah):FX G 184 AO ((x,()),(w,()))=some ((da (w.1,e) x,()),(w,())):=by
 obtain⟨k,v,hk,kA,hv⟩:=qO hx;have Pu:=hs.r v hv;refine aq (hG _ _ rfl) ZK ?_;rw[Nw (d:=(w.1,e)) hw hv kA];have prev:∀y:ab,FX G 140 Du ((v.2.1,y,()),())=some (((iZ v.2.1 y),((HH (dF v.2.1 y (v.2.1.length-1))).2)),()):=fun y=>by refine(abH hG v.2.1 y (by omega)).trans ?_;have:(HH (dF v.2.1 y (v.2.1.length-1))).1=iZ v.2.1 y:=zc _;rw[←this]
 have gE:∀y:ab,((y.1.1==x.1.1)&&(y.1.2==x.1.2))=decide (y.1=x.1):=fun y=>jk y.1 x.1;refine au EY ?_;refine ae rfl (aa (DZ hG w x hw hs.n hs.r hk kA) ?_);refine sL rfl (ae rfl (aa hk ?_));refine aa (prev x) ?_;by_cases h1:(iZ v.2.1 x).1=x.1
 ·rw[if_pos h1];refine bj ((gE _).trans (decide_eq_true h1)) ?_;refine au EY ?_;refine ae rfl (aa (DZ hG w x hw hs.n hs.r hk kA) ?_);refine sL rfl (ae rfl (aa hk ?_));refine aa (prev (iZ v.2.1 x)) ?_;by_cases h2:(iZ v.2.1 (iZ v.2.1 x)).1=x.1
  ·rw[if_pos h2];refine bj ((gE _).trans (decide_eq_true h2)) ?_;refine au EY ?_;exact af rfl rfl
  ·rw[if_neg h2];exact bj ((gE _).trans (decide_eq_false h2)) rfl
 ·rw[if_neg h1];exact bj ((gE _).trans (decide_eq_false h1)) rfl
theorem H4{l:List ah}{x:ID}(hs:dh l)(h:(aV l x).isSome=true)(hl:l.length≤50000000) :
  jl l ((bZ l x:Nat):Int) (IntKind.wrap .i64 (((bZ l x:Nat):Int)+1))=true∧dm l ((bZ l x:Nat):Int) (IntKind.wrap .i64 (((bZ l x:Nat):Int)+1))=cS l x:=by
 obtain⟨e,he⟩:=adi.1 h;have aF:=(ack.1 (lX hs he)).1;have hw:IntKind.wrap .i64 (((bZ l x:Nat):Int)+1)=((bZ l x+1:Nat):Int):=aG aF (by omega);constructor
 ·rw[hw];unfold jl;rw[decide_eq_true (show(0:Int)≤((bZ l x:Nat):Int) by omega),decide_eq_true (show((bZ l x:Nat):Int)<((bZ l x+1:Nat):Int) by omega),decide_eq_true (show((bZ l x+1:Nat):Int)≤((l.length:Nat):Int) by omega),fits (by omega)];rfl
 ·rw[hw,wO hs h];unfold dm;simp only[Int.toNat_natCast]
theorem Rq{l:List ag}{x:ID}(hs:bY l)(h:(aR l x).isSome=true)(hl:l.length≤50000000) :
  jl l ((bD l x:Nat):Int) (IntKind.wrap .i64 (((bD l x:Nat):Int)+1))=true∧dm l ((bD l x:Nat):Int) (IntKind.wrap .i64 (((bD l x:Nat):Int)+1))=dv l x:=by
 obtain⟨e,he⟩:=adi.1 h;have aF:=(ack.1 (cZ hs he)).1;have hw:IntKind.wrap .i64 (((bD l x:Nat):Int)+1)=((bD l x+1:Nat):Int):=aG aF (by omega);constructor
 ·rw[hw];unfold jl;rw[decide_eq_true (show(0:Int)≤((bD l x:Nat):Int) by omega),decide_eq_true (show((bD l x:Nat):Int)<((bD l x+1:Nat):Int) by omega),decide_eq_true (show((bD l x+1:Nat):Int)≤((l.length:Nat):Int) by omega),fits (by omega)];rfl
 ·rw[hw,wL hs h];unfold dm;simp only[Int.toNat_natCast]
theorem Sv.re{l:List ag}(h:Sv l)(x:ID){r:List ab}(hr:r.length≤50000000):Sv (l.map (rG x r)):=by
 refine⟨by simp;exact h.n,fun w hw=>?_⟩;obtain⟨u,hu,rfl⟩:=adq.1 hw;unfold rG
 split
 ·exact hr
 ·exact h.r u hu
theorem BR{row:List ab}(d:ab):(gS row d).length≤row.length:=by unfold gS;rw[fU];exact adv _ _
theorem LA{w:aQ}{x:ab}(hw:Rw w.1){k:Nat}{v:ag}(hk:w.1[k]? = some v)(hx:x∈v.2.1)(e:List ah):w.1.set k (v.1,(gS v.2.1 x,v.2.2))=(aB (w.1,e) x).1:=by rw[jJ (d:=(w.1,e)) hw (List.mem_of_getElem? hk) hx];exact Ka hw.s hk _
theorem agX(hG:HG G)(s:StateT)(o:aY)(h:fb s)(hs:Sv s.1.1) :
  ∃(e:Int) (w:aQ),FX G 155 AI ((o,()),(aI s,()))=some ((e,()),(w,()))∧jf e w=Fi s o:=by
 have bq:=h.d.ne;unfold Fi
 cases hf:(aV s.1.2 (aW o)).isSome with
 |false =>
  refine⟨13,aI s,?_,?_⟩
  ·refine aq (hG _ _ rfl) Zv ?_;refine aa (nS hG (aI s) (aW o) h.d.se (by show s.1.2.length≤_;omega)) ?_;exact bj ((dd (l:=s.1.2) h.d.se).trans hf) rfl
  ·rw[if_pos (show(gE s.1 (aW o)).isSome=false from hf)];rfl
 |true =>
  rw[if_neg (show ¬(gE s.1 (aW o)).isSome=false by show ¬(aV s.1.2 (aW o)).isSome=false;rw[hf];simp)];obtain⟨x,hx⟩:∃x:ab,x=(aW o,0):=⟨_,rfl⟩;obtain⟨y,hy⟩:∃y:ab,y=(aW o,1):=⟨_,rfl⟩;have hxd:x∈ar s.1.1:=by rw[hx];exact h.d.mW hf (.inl rfl)
  have hyd:y∈ar s.1.1:=by rw[hy];exact h.d.mW hf (.inr rfl)
  have g1:=jL h.g h.n (x,da s.1 x);have hn:=h.n;obtain⟨p1,q1⟩:=eY h.d.rw hxd;have agZ:y∈ar (aB s.1 x).1:=by
   rcases acn.1 (p1.mem_iff.1 hyd) with k|k
   ·rw[hx,hy]at k;cases k
   ·exact k
  have N9:=jK (jK h.d.gv x) y;refine⟨0,((aB (aB s.1 x) y).1,(cS s.1.2 (aW o),(bK (bK s.2 (x,da s.1 x)) (y,da s.1 y),()))),?_,?_⟩
  ·refine aq (hG _ _ rfl) Zv ?_;refine aa (nS hG (aI s) (aW o) h.d.se (by show s.1.2.length≤_;omega)) ?_;refine bj ((dd (l:=s.1.2) h.d.se).trans hf) (af rfl ?_);have ag0:FX G 179 AJ ((aW o,()),())=some ((x,y,()),()):=by rw[hx,hy];exact aq (hG _ _ rfl) Vo rfl
   refine aa ag0 ?_;refine au JK ?_;refine ae rfl (ae rfl (aa (a:=x) rfl ?_));refine aa (VN hG (aI s) x h.d.rw hs hxd s.1.2) ?_;refine aa (DY hG (aI s) x (da s.1 x) h.g (by show s.2.length≤_;omega)) ?_;refine au JK ?_;refine ae rfl (ae rfl (aa (a:=y) rfl ?_));refine aa (VN hG (s.1.1,(s.1.2,(bK s.2 (x,da s.1 x),()))) y h.d.rw hs hyd s.1.2) ?_;refine aa (DY hG (s.1.1,(s.1.2,(bK s.2 (x,da s.1 x),()))) y (da s.1 y) g1.1 (by have:=g1.2;show(bK s.2 (x,da s.1 x)).length≤_;omega)) ?_;refine au JK ?_;refine af rfl ?_;generalize bK (bK s.2 (x,da s.1 x)) (y,da s.1 y)=gg;obtain⟨k,v,hk,kA,hv⟩:=qO hxd;refine au JM ?_;refine ae rfl (ae rfl (aa (a:=x) rfl ?_));refine aa (DZ hG (s.1.1,(s.1.2,(gg,()))) x h.d.rw hs.n hs.r hk kA) ?_;refine sL rfl (ae rfl (aa hk ?_));refine aa (VJ hG v.2.1 x (h.d.rw.ring hv) (hs.r v hv)) ?_;refine aa hk ?_;have e1:s.1.1.set k (v.1,(gS v.2.1 x,v.2.2))=(aB s.1 x).1:=LA (w:=(s.1.1,(s.1.2,(gg,())))) h.d.rw hk kA s.1.2;have IV:Sv (aB s.1 x).1:=by rw[jJ h.d.rw hv kA];exact hs.re _ (adk (BR x) (hs.r v hv))
   obtain⟨k2,v2,mY,SO,xg⟩:=qO agZ;have e2:(aB s.1 x).1.set k2 (v2.1,(gS v2.2.1 y,v2.2.2))=(aB (aB s.1 x) y).1:=LA (w:=((aB s.1 x).1,(s.1.2,(gg,())))) q1 mY SO (aB s.1 x).2;have rest:∀a:List ag,a=(aB s.1 x).1→LX G 155 AI Tryz.f155 wz (aN Tryz.prog 155 1) ((((bZ s.1.2 (aW o):Nat):Int),((2:Int),((1:Int),()))),(((a,(s.1.2,(gg,()))),()),([x,y],())))=some (((0:Int),()),(((aB (aB s.1 x) y).1,(cS s.1.2 (aW o),(gg,()))),())):=by
    intro a ha;subst ha;refine au JM ?_;refine ae rfl (ae rfl (aa (a:=y) rfl ?_));refine aa (DZ hG ((aB s.1 x).1,(s.1.2,(gg,()))) y q1 IV.n IV.r mY SO) ?_;refine sL rfl (ae rfl (aa mY ?_));refine aa (VJ hG v2.2.1 y (q1.ring xg) (IV.r v2 xg)) ?_;refine aa mY ?_;have last:∀b:List ag,b=(aB (aB s.1 x) y).1→LX G 155 AI Tryz.f155 wz (aN Tryz.prog 155 1) ((((bZ s.1.2 (aW o):Nat):Int),((2:Int),((2:Int),()))),(((b,(s.1.2,(gg,()))),()),([x,y],())))=some (((0:Int),()),(((aB (aB s.1 x) y).1,(cS s.1.2 (aW o),(gg,()))),())):=by intro b hb;subst hb;refine au JM ?_;obtain⟨d1,d2⟩:=H4 h.d.se hf (by omega);refine af rfl (ae d1 ?_);exact congrArg (fun l:List ah=>some (((0:Int),()),(((aB (aB s.1 x) y).1,(l,(gg,()))),()))) d2
    exact last _ e2
   exact rest _ e1
  ·rw[←hx,←hy];unfold aS;rw[vq N9];rfl
theorem Kb{n:Int}(h0:0≤n)(h3:n≤3):dR .xor .i64 1 (dR .and .i64 n 1)=IntKind.wrap .i64 (1-Int.tmod n 2)∧kJ .i64 n 1=IntKind.wrap .i64 (Int.tdiv n 2):=by
 have:n=0∨n=1∨n=2∨n=3:=by omega
 rcases this with rfl|rfl|rfl|rfl<;>exact⟨by decide,by decide⟩
theorem H5{l:List ag}{x:ab}(hw:Rw l){k:Nat}{v:ag}(hk:l[k]? = some v)(hx:x∈v.2.1)(y:ab)(e:List ah):l.set k (v.1,(jo v.2.1 x y,v.2.2))=(aC (l,e) x y).1:=by rw[BL (d:=(l,e)) hw y (List.mem_of_getElem? hk) hx];exact Ka hw.s hk _
theorem ag1(hG:HG G)(s:StateT)(o:aY)(h:fb s)(hs:Sv s.1.1)(hm:cj o=0)(Xu:o.1=5) :
    ∃(e:Int) (w:aQ),FX G 156 yr ((o,()),(aI s,()))=some ((e,()),(w,()))∧jf e w=lV s o:=by
  have bq:=h.d.ne;have SY:=h.d.nv;obtain⟨m1,m2,m3,m4⟩:=DT hm Xu;obtain⟨s1,s2⟩:=HY m3 m4;obtain⟨c1,c2⟩:=Kb m3 m4;have key:∀(e:Int) (w:aQ),FX G 156 yr ((o,()),(aI s,()))=some ((e,()),(w,()))→jf e w=lV s o→∃(e:Int) (w:aQ),FX G 156 yr ((o,()),(aI s,()))=some ((e,()),(w,()))∧jf e w=lV s o:=fun e w a b=>⟨e,w,a,b⟩;have start:∀(e:Int) (w:aQ),bO 156 yr Tryz.f156 (FX G) (LX G 156 yr Tryz.f156) ((o,()),(aI s,()))=some ((e,()),(w,()))→FX G 156 yr ((o,()),(aI s,()))=some ((e,()),(w,())):=fun e w a =>aq (hG _ _ rfl) a rfl;unfold lV
  cases hf:(aV s.1.2 (aW o)).isSome with
  |false =>
    refine⟨13,aI s,start _ _ ((TF).trans ?_),?_⟩
    · refine aa (nS hG (aI s) (aW o) h.d.se (by show s.1.2.length≤_;omega)) ?_
      refine aa (pH hG (aI s) (eL o) h.d.sv (by show s.1.1.length≤_;omega)) ?_;refine aa (nS hG (aI s) (ba o) h.d.se (by show s.1.2.length≤_;omega)) ?_;exact bj ((dd (l:=s.1.2) h.d.se).trans hf) rfl
    · rw[if_pos (show(gE s.1 (aW o)).isSome=false from hf)];rfl
  |true =>
  rw[if_neg (show ¬(gE s.1 (aW o)).isSome=false by show ¬(aV s.1.2 (aW o)).isSome=false;rw[hf];simp)]
  cases Tn:(aR s.1.1 (eL o)).isSome with
  |true =>
    refine⟨12,aI s,start _ _ ((TF).trans ?_),?_⟩
    · refine aa (nS hG (aI s) (aW o) h.d.se (by show s.1.2.length≤_;omega)) ?_
      refine aa (pH hG (aI s) (eL o) h.d.sv (by show s.1.1.length≤_;omega)) ?_;refine aa (nS hG (aI s) (ba o) h.d.se (by show s.1.2.length≤_;omega)) ?_;refine bj ((dd (l:=s.1.2) h.d.se).trans hf) (af rfl ?_);exact ae ((fw (l:=s.1.1) h.d.sv).trans Tn) rfl
    · rw[if_pos (show(bp s.1 (eL o)).isSome=true from Tn)];rfl
  |false =>
  rw[if_neg (show ¬(bp s.1 (eL o)).isSome=true by show ¬(aR s.1.1 (eL o)).isSome=true;rw[Tn];simp)]
  cases TL:(aV s.1.2 (ba o)).isSome with
  |true =>
    refine⟨12,aI s,start _ _ ((TF).trans ?_),?_⟩
    · refine aa (nS hG (aI s) (aW o) h.d.se (by show s.1.2.length≤_;omega)) ?_
      refine aa (pH hG (aI s) (eL o) h.d.sv (by show s.1.1.length≤_;omega)) ?_;refine aa (nS hG (aI s) (ba o) h.d.se (by show s.1.2.length≤_;omega)) ?_;refine bj ((dd (l:=s.1.2) h.d.se).trans hf) (af rfl ?_);refine af ((fw (l:=s.1.1) h.d.sv).trans Tn) ?_;exact ae ((dd (l:=s.1.2) h.d.se).trans TL) rfl
    · rw[if_pos (show(gE s.1 (ba o)).isSome=true from TL)];rfl
  |false =>
  rw[if_neg (show ¬(gE s.1 (ba o)).isSome=true by show ¬(aV s.1.2 (ba o)).isSome=true;rw[TL];simp)];have ag2:aR s.1.1 (eL o)=none:=by simpa using Tn
  have ag3:aV s.1.2 (ba o)=none:=by simpa using TL
  obtain⟨m,N2⟩:∃m:ab,m=IX o:=⟨_,rfl⟩;obtain⟨kk,Ta⟩:∃m:ab,m=FK o:=⟨_,rfl⟩;have hmd:m∈ar s.1.1:=by rw[N2];exact h.d.mW hf s1
  have IT:ao kk∉ar s.1.1:=by rw[Ta];exact h.d.zi ag3 _
  obtain⟨p1,q1⟩:=oW h.d.rw hmd IT;have mY:kk.2=0∨kk.2=1:=by rw[Ta];exact s2
  obtain⟨k,v,hk,kA,hv⟩:=qO hmd;have e1:s.1.1.set k (v.1,(jo v.2.1 m (ao kk),v.2.2))=(aC s.1 m (ao kk)).1:=H5 h.d.rw hk kA _ s.1.2;have hlen:(aC s.1 m (ao kk)).1.length=s.1.1.length:=by unfold aC;exact eZ _ _ _
  have Ua:aR (aC s.1 m (ao kk)).1 (eL o)=none:=by unfold aC Vs.b8;rw[nR (qM _ _),ag2];rfl
  have eM:((aW o,dR .xor .i64 1 (dR .and .i64 (oN o) 1)):ab)=m:=by rw[N2,c1];rfl
  have eK:((ba o,kJ .i64 (oN o) 1):ab)=kk:=by rw[Ta,c2];rfl
  have go:∀(e:Int) (w:aQ),(∀a:List ag,a=(aC s.1 m (ao kk)).1→((FX G 152 G1 (((eL o,(cI [m,kk],(e0,(0:Int)))),()),((a,(s.1.2,(s.2,()))),()))).bind fun(kN:((Int×Unit)×(aQ×Unit))) =>cond (kN.1.1 != (0:Int)) (some (kN.1,((kN.2.1.1,(kN.2.1.2.1,kN.2.1.2.2)),()))) ((FX G 178 xN ((ba o,()),((kN.2.1.1,(kN.2.1.2.1,kN.2.1.2.2)),()))).bind fun(pQ:((Int×Unit)×(aQ×Unit))) =>some (pQ.1,((pQ.2.1.1,(pQ.2.1.2.1,pQ.2.1.2.2)),()))))=some ((e,()),(w,())))→FX G 156 yr ((o,()),(aI s,()))=some ((e,()),(w,())):=fun e w rest=>by
    refine start _ _ ((TF).trans ?_);refine aa (nS hG (aI s) (aW o) h.d.se (by show s.1.2.length≤_;omega)) ?_;refine aa (pH hG (aI s) (eL o) h.d.sv (by show s.1.1.length≤_;omega)) ?_;refine aa (nS hG (aI s) (ba o) h.d.se (by show s.1.2.length≤_;omega)) ?_;refine bj ((dd (l:=s.1.2) h.d.se).trans hf) (af rfl ?_);refine af ((fw (l:=s.1.1) h.d.sv).trans Tn) ?_;refine af ((dd (l:=s.1.2) h.d.se).trans TL) ?_;refine af rfl ?_;have body:∀mm k2:ab,mm=m→k2=kk→((FX G 185 lL ((mm,()),(aI s,()))).bind fun(y4:(((Option ((Fin 1)×Nat))×Unit)×(aQ×Unit))) =>pZ y4.1.1 (none) fun(p5:((Fin 1)×Nat)) =>cond (p5.1.val==0) (((y4.2.1.1)[p5.2]?).bind fun(y6:ag) =>(FX G 188 nH ((k2,()),())).bind fun(y7:((ab×Unit)×Unit)) =>(FX G 187 sE ((y6.2.1,(mm,((y7.1.1.1,y7.1.1.2),()))),())).bind fun(y8:(((List ab)×Unit)×Unit)) =>((y4.2.1.1)[p5.2]?).bind fun(y9:ag) =>(FX G 169 qB (([mm,k2],()),())).bind fun(py:(((List ab)×Unit)×Unit)) =>(FX G 152 G1 (((eL o,(py.1.1,((⟨#[]⟩:ByteArray),(0:Int)))),()),(((List.set y4.2.1.1 p5.2 (y9.1,(y8.1.1,y9.2.2))),(y4.2.1.2.1,y4.2.1.2.2)),()))).bind fun(kN:((Int×Unit)×(aQ×Unit))) =>cond (kN.1.1 != (0:Int)) (some (kN.1,((kN.2.1.1,(kN.2.1.2.1,kN.2.1.2.2)),()))) ((FX G 178 xN ((ba o,()),((kN.2.1.1,(kN.2.1.2.1,kN.2.1.2.2)),()))).bind fun(pQ:((Int×Unit)×(aQ×Unit))) =>some (pQ.1,((pQ.2.1.1,(pQ.2.1.2.1,pQ.2.1.2.2)),())))) (none))=some ((e,()),(w,())):=by intro mm k2 ag4 ag5;subst ag4 ag5;refine aa (DZ hG (aI s) mm h.d.rw hs.n hs.r hk kA) ?_;refine sL rfl (ae rfl (aa hk ?_));refine aa (H3 (hG _ _ rfl) k2 mY) ?_;refine aa (VL hG v.2.1 mm (ao k2) (hs.r v hv)) ?_;refine aa hk ?_;refine aa (DO hG [mm,k2] (by simp)) ?_;exact rest _ e1
    exact body _ _ eM eK
  have ag6:24≤s.1.1.length→pI ((aC s.1 m (ao kk)).1,(s.1.2,(s.2,()))) (eL o,(cI [m,kk],(e0,0)))=(3,((aC s.1 m (ao kk)).1,(s.1.2,(s.2,())))):=fun hb=>by unfold pI;rw[if_neg (by rw[show aR ((aC s.1 m (ao kk)).1,(s.1.2,(s.2,()))).1 ((eL o,(cI [m,kk],(e0,0))):ag).1=none from Ua];simp)];rw[if_pos (by show 24≤(aC s.1 m (ao kk)).1.length;omega)]
  have Xv:¬24≤s.1.1.length→pI ((aC s.1 m (ao kk)).1,(s.1.2,(s.2,()))) (eL o,(cI [m,kk],(e0,0)))=(0,(dW (eL o,(cI [m,kk],(e0,0))) (aC s.1 m (ao kk)).1,(s.1.2,(s.2,())))):=fun hb=>by unfold pI;rw[if_neg (by rw[show aR ((aC s.1 m (ao kk)).1,(s.1.2,(s.2,()))).1 ((eL o,(cI [m,kk],(e0,0))):ag).1=none from Ua];simp)];rw[if_neg (by show ¬24≤(aC s.1 m (ao kk)).1.length;omega)]
  by_cases hb:24≤s.1.1.length
  · refine⟨3,((aC s.1 m (ao kk)).1,(s.1.2,(s.2,()))),go _ _ (fun a ha=>?_),?_⟩
    · subst ha
      refine aa (Xq hG ((aC s.1 m (ao kk)).1,(s.1.2,(s.2,()))) (eL o,(cI [m,kk],(e0,0))) q1.s (by show(aC s.1 m (ao kk)).1.length≤_;omega)) ?_;rw[ag6 hb];exact ae rfl rfl
    · rw[if_pos hb];rfl
  rw[if_neg hb];have hE:sM (dW (eL o,(cI [m,kk],(e0,0))) (aC s.1 m (ao kk)).1,(s.1.2,(s.2,()))) (ba o)=if 40≤s.1.2.length then(3,(dW (eL o,(cI [m,kk],(e0,0))) (aC s.1 m (ao kk)).1,(s.1.2,(s.2,())))) else(0,(dW (eL o,(cI [m,kk],(e0,0))) (aC s.1 m (ao kk)).1,(dq (ba o,(e0,0)) s.1.2,(s.2,())))):=by unfold sM;rw[if_neg (by show ¬(aV s.1.2 (ba o)).isSome=true;rw[TL];simp)]
  have fin:FX G 156 yr ((o,()),(aI s,()))=some (((sM (dW (eL o,(cI [m,kk],(e0,0))) (aC s.1 m (ao kk)).1,(s.1.2,(s.2,()))) (ba o)).1,()),((sM (dW (eL o,(cI [m,kk],(e0,0))) (aC s.1 m (ao kk)).1,(s.1.2,(s.2,()))) (ba o)).2,())):=by refine go _ _ (fun a ha=>?_);subst ha;refine aa (Xq hG ((aC s.1 m (ao kk)).1,(s.1.2,(s.2,()))) (eL o,(cI [m,kk],(e0,0))) q1.s (by show(aC s.1 m (ao kk)).1.length≤_;omega)) ?_;rw[Xv hb];refine af rfl ?_;exact aa (VF hG (dW (eL o,(cI [m,kk],(e0,0))) (aC s.1 m (ao kk)).1,(s.1.2,(s.2,()))) (ba o) h.d.se (by show s.1.2.length≤_;omega)) rfl
  rw[hE]at fin;by_cases hb4:40≤s.1.2.length
  · rw[if_pos hb4]at fin ⊢
    exact⟨_,_,fin,rfl⟩
  · rw[if_neg hb4]at fin ⊢
    refine⟨_,_,fin,?_⟩;rw[N2,Ta];rfl
theorem ag7(hG:HG G)(s:StateT)(o:aY)(h:fb s)(hs:Sv s.1.1) :
    ∃(e:Int) (w:aQ),FX G 157 qA ((o,()),(aI s,()))=some ((e,()),(w,()))∧jf e w=kS s o:=by
  have bq:=h.d.ne;have SY:=h.d.nv;have hgn:=h.n;have start:∀(e:Int) (w:aQ),bO 157 qA Tryz.f157 (FX G) (LX G 157 qA Tryz.f157) ((o,()),(aI s,()))=some ((e,()),(w,()))→FX G 157 qA ((o,()),(aI s,()))=some ((e,()),(w,())):=fun e w a =>aq (hG _ _ rfl) a rfl;unfold kS
  cases hf:aR s.1.1 (aW o) with
  |none =>
    refine⟨13,aI s,start _ _ ((Zw).trans ?_),?_⟩
    · refine aa (pH hG (aI s) (aW o) h.d.sv (by show s.1.1.length≤_;omega)) ?_
      exact bj ((fw (l:=s.1.1) h.d.sv).trans (by rw[hf])) rfl
    · rw[show bp s.1 (aW o)=none from hf];rfl
  |some v =>
  have hfs:(aR s.1.1 (aW o)).isSome=true:=by rw[hf];rfl
  have hv:=gm hf;have hvi:=kh hf;have mM:=cZ h.d.sv hf;have aF:=(ack.1 mM).1;have hgr:=h.d.rw;have go:∀(e:Int) (w:aQ),(cond ((((List.length v.2.1):Nat):Int) != (2:Int)) (some (((14:Int),()),(aI s,()))) _=some ((e,()),(w,())))→FX G 157 qA ((o,()),(aI s,()))=some ((e,()),(w,())):=fun e w rest=>by refine start _ _ ((Zw).trans ?_);refine aa (pH hG (aI s) (aW o) h.d.sv (by show s.1.1.length≤_;omega)) ?_;refine bj ((fw (l:=s.1.1) h.d.sv).trans hfs) (af rfl ?_);refine ae (db (eQ _) (aX aF)) (aa mM ?_);exact rest
  rw[show bp s.1 (aW o)=some v from hf];by_cases vQ:v.2.1.length=2
  case neg =>
    refine⟨14,aI s,go _ _ (ae (by rw[bne_iff_ne];omega) rfl),?_⟩;show jf 14 (aI s)=(match v.2.1 with | [r0,r1]=>jT s o r0 r1|_=>(zS,(14,())))
    split
    · rename_i hr;rw[hr]at vQ;exact absurd rfl vQ
    · rfl
  obtain⟨r0,r1,hr⟩:∃r0 r1,v.2.1=[r0,r1]:=by
    match hq:v.2.1,vQ with
    |[a,b],_=>exact⟨a,b,rfl⟩
  have Dn:(((List.length v.2.1:Nat):Int) != (2:Int))=false:=by rw[vQ];rfl
  have g0:aT v.2.1 (0:Int)=some r0:=by rw[hr];rfl
  have g1:aT v.2.1 (1:Int)=some r1:=by rw[hr];rfl
  show ∃(e:Int) (w:aQ),FX G 157 qA ((o,()),(aI s,()))=some ((e,()),(w,()))∧jf e w=(match v.2.1 with | [r0,r1]=>jT s o r0 r1|_=>(zS,(14,())));rw[hr];show ∃(e:Int) (w:aQ),FX G 157 qA ((o,()),(aI s,()))=some ((e,()),(w,()))∧jf e w=jT s o r0 r1;unfold jT;by_cases Yv:r0.1=r1.1
  · refine⟨14,aI s,go _ _ (af Dn (aa g0 (aa g1 (ae ((jk r0.1 r1.1).trans (decide_eq_true Yv)) rfl)))),?_⟩
    rw[if_pos Yv];rfl
  rw[if_neg Yv];have b01:=(jk r0.1 r1.1).trans (decide_eq_false Yv);have tail:∀a b:ab,v.2.1.Perm [a,b]→a.1≠b.1→((FX G 188 nH ((b,()),())).bind fun(y7:((ab×Unit)×Unit)) =>cond (jl s.1.1 ((bD s.1.1 (aW o):Nat):Int) (IntKind.wrap .i64 (((bD s.1.1 (aW o):Nat):Int)+(1:Int)))) ((FX G 185 lL (((y7.1.1.1,y7.1.1.2),()),(((dm s.1.1 ((bD s.1.1 (aW o):Nat):Int) (IntKind.wrap .i64 (((bD s.1.1 (aW o):Nat):Int)+(1:Int)))),(s.1.2,(s.2,()))),()))).bind fun(y8:(((Option ((Fin 1)×Nat))×Unit)×(aQ×Unit))) =>pZ y8.1.1 (none) fun(p9:((Fin 1)×Nat)) =>cond (p9.1.val==0) (((y8.2.1.1)[p9.2]?).bind fun(py:ag) =>(FX G 187 sE ((py.2.1,((y7.1.1.1,y7.1.1.2),(a,()))),())).bind fun(kN:(((List ab)×Unit)×Unit)) =>((y8.2.1.1)[p9.2]?).bind fun(pQ:ag) =>(FX G 182 mw ((b.1,()),(((List.set y8.2.1.1 p9.2 (pQ.1,(kN.1.1,pQ.2.2))),(y8.2.1.2.1,y8.2.1.2.2)),()))).bind fun(kO:((Int×(Bool×Unit))×(aQ×Unit))) =>cond (jl kO.2.1.2.1 kO.1.1 (IntKind.wrap .i64 (kO.1.1+(1:Int)))) (LX G 157 qA Tryz.f157 mS (aN Tryz.prog 157 0) (((0:Int),()),(((kO.2.1.1,((dm kO.2.1.2.1 kO.1.1 (IntKind.wrap .i64 (kO.1.1+(1:Int)))),kO.2.1.2.2)),((a,()),((b,()),(((y7.1.1.1,y7.1.1.2),()),())))),()))) (none)) (none)) (none))=some (((0:Int),()),(((J4 s o a b).1,((J4 s o a b).2,(HQ s.2 a b,()))),())):=by
    intro a b hp Cq;obtain⟨p,q,h1,_,h2,_⟩:=qN h.d.sv hv;have pd:(ar s.1.1).Perm (a::b::ar (p++q)):=by have:=(iB p q v).trans (adx _ hp);rw[←h1]at this;exact this
    have LB:dv s.1.1 (aW o)=p++q:=by rw[←hvi];exact h2
    have Nv:aS s.1 (aW o) zI=(p++q,s.1.2):=by unfold aS;rw[LB,vp h.d.ge]
    have FI:=pd.nodup_iff.1 hgr.n;have hbm:b∈ends s.1.2:=h.d.pd.mem_iff.1 (pd.mem_iff.2 (by simp));obtain⟨e,he,Y8,Cx⟩:=eJ.1 hbm;have EE:(aV s.1.2 b.1).isSome=true:=by unfold aV;rw[List.find?_isSome];exact⟨e,he,by simpa using Y8⟩
    obtain⟨_,ho⟩:=iD Cx;have Xs:ao b∈ar (p++q):=by
      have h3:ao b∈ar s.1.1:=h.d.mW (s:=(ao b).2) EE (by rcases ho with⟨_,k⟩|⟨_,k⟩<;>omega);rcases acn.1 (pd.mem_iff.1 h3) with k|k
      · exact absurd (congrArg Prod.fst k) (fun k=>Cq k.symm)
      rcases acn.1 k with k|k
      · have:=congrArg Prod.snd k;omega
      · exact k
    have Ub:Rw (p++q):=⟨by rw[←h2];exact oU h.d.sv,(adf.1 (adf.1 FI).2).2⟩;have bu:∀u∈p++q,u∈s.1.1:=fun u hu=>by
      rw[h1];rcases adb.1 hu with k|k
      · exact acr _ k
      · exact acW _ (acm _ k)
    have IV:Sv (p++q):=⟨by have:=hs.n;rw[h1]at this;simp at this ⊢;omega,fun u hu=>hs.r u (bu u hu)⟩;obtain⟨dk1,dk2⟩:=Rq h.d.sv hfs (by omega);rw[LB]at dk2;obtain⟨k,u,hk,hxu,hu⟩:=qO Xs;have e1:(p++q).set k (u.1,(jo u.2.1 (ao b) a,u.2.2))=(aC (p++q,s.1.2) (ao b) a).1:=H5 Ub hk hxu _ s.1.2;have N9:∀w∈(aC (p++q,s.1.2) (ao b) a).1,GV w:=tF (d:=(p++q,s.1.2)) (fun w hw=>h.d.gv w (bu w hw)) _ _;have eD:J4 s o a b=((aC (p++q,s.1.2) (ao b) a).1,cS s.1.2 b.1):=by unfold J4;rw[Nv];unfold aS;rw[vq N9];rfl
    have ga:=jL h.g h.n ((b.1,0),pS a b 0);rw[eD];refine aa (H3 (hG _ _ rfl) b Cx) ?_;refine ae dk1 ?_;have r1:∀l1:List ag,l1=p++q→((FX G 185 lL ((ao b,()),((l1,(s.1.2,(s.2,()))),()))).bind fun(y8:(((Option ((Fin 1)×Nat))×Unit)×(aQ×Unit))) =>pZ y8.1.1 (none) fun(p9:((Fin 1)×Nat)) =>cond (p9.1.val==0) (((y8.2.1.1)[p9.2]?).bind fun(py:ag) =>(FX G 187 sE ((py.2.1,(ao b,(a,()))),())).bind fun(kN:(((List ab)×Unit)×Unit)) =>((y8.2.1.1)[p9.2]?).bind fun(pQ:ag) =>(FX G 182 mw ((b.1,()),(((List.set y8.2.1.1 p9.2 (pQ.1,(kN.1.1,pQ.2.2))),(y8.2.1.2.1,y8.2.1.2.2)),()))).bind fun(kO:((Int×(Bool×Unit))×(aQ×Unit))) =>cond (jl kO.2.1.2.1 kO.1.1 (IntKind.wrap .i64 (kO.1.1+(1:Int)))) (LX G 157 qA Tryz.f157 mS (aN Tryz.prog 157 0) (((0:Int),()),(((kO.2.1.1,((dm kO.2.1.2.1 kO.1.1 (IntKind.wrap .i64 (kO.1.1+(1:Int)))),kO.2.1.2.2)),((a,()),((b,()),((ao b,()),())))),()))) (none)) (none))=some (((0:Int),()),(((aC (p++q,s.1.2) (ao b) a).1,(cS s.1.2 b.1,(HQ s.2 a b,()))),())):=by
      intro l1 hl1;subst hl1;refine aa (DZ hG (p++q,(s.1.2,(s.2,()))) (ao b) Ub IV.n IV.r hk hxu) ?_;refine sL rfl (ae rfl (aa hk ?_));refine aa (VL hG u.2.1 (ao b) a (IV.r u hu)) ?_;refine aa hk ?_;have r2:∀l2:List ag,l2=(aC (p++q,s.1.2) (ao b) a).1→((FX G 182 mw ((b.1,()),((l2,(s.1.2,(s.2,()))),()))).bind fun(kO:((Int×(Bool×Unit))×(aQ×Unit))) =>cond (jl kO.2.1.2.1 kO.1.1 (IntKind.wrap .i64 (kO.1.1+(1:Int)))) (LX G 157 qA Tryz.f157 mS (aN Tryz.prog 157 0) (((0:Int),()),(((kO.2.1.1,((dm kO.2.1.2.1 kO.1.1 (IntKind.wrap .i64 (kO.1.1+(1:Int)))),kO.2.1.2.2)),((a,()),((b,()),((ao b,()),())))),()))) (none))=some (((0:Int),()),(((aC (p++q,s.1.2) (ao b) a).1,(cS s.1.2 b.1,(HQ s.2 a b,()))),())):=by
        intro l2 vQ;subst vQ;refine aa (nS hG ((aC (p++q,s.1.2) (ao b) a).1,(s.1.2,(s.2,()))) b.1 h.d.se (by show s.1.2.length≤_;omega)) ?_;obtain⟨ek1,ek2⟩:=H4 h.d.se EE (by omega);refine ae ek1 ?_;have r3:∀l3:List ah,l3=cS s.1.2 b.1→(LX G 157 qA Tryz.f157 mS (aN Tryz.prog 157 0) (((0:Int),()),((((aC (p++q,s.1.2) (ao b) a).1,(l3,(s.2,()))),((a,()),((b,()),((ao b,()),())))),())))=some (((0:Int),()),(((aC (p++q,s.1.2) (ao b) a).1,(cS s.1.2 b.1,(HQ s.2 a b,()))),())):=by
          intro l3 hl3;subst hl3;have eb:b=(b.1,b.2):=rfl;have eo:ao b=(b.1,(ao b).2):=rfl;rcases ho with⟨Hq,KX⟩|⟨TI,ho0⟩
          · rw[Hq]at eb;rw[KX]at eo
            have t0:pS a b 0=zD:=by unfold pS;rw[if_neg (by rw[eo];simp)]
            have t1:pS a b 1=a:=by unfold pS;rw[if_pos eo.symm]
            rw[t0,←eb]at ga;have eG:HQ s.2 a b=bK (bK s.2 (b,zD)) (ao b,a):=by unfold HQ;rw[t0,t1,←eb,←eo]
            rw[eG];refine au wC ?_;refine ae rfl (ae (by show(b.2==(0:Int))=true;simp[Hq]) ?_);refine aa (DY hG ((aC (p++q,s.1.2) (ao b) a).1,(cS s.1.2 b.1,(s.2,()))) b zD h.g (by show s.2.length≤_;omega)) ?_;refine au wC ?_;refine ae rfl (af (by show(b.2==(1:Int))=false;simp[Hq]) ?_);refine aa (DY hG ((aC (p++q,s.1.2) (ao b) a).1,(cS s.1.2 b.1,(bK s.2 (b,zD),()))) (ao b) a ga.1 (by have:=ga.2;show(bK s.2 (b,zD)).length≤_;omega)) ?_;refine au wC ?_;exact af rfl rfl
          · rw[TI]at eb;rw[ho0]at eo
            have t0:pS a b 0=a:=by unfold pS;rw[if_pos eo.symm]
            have t1:pS a b 1=zD:=by unfold pS;rw[if_neg (by rw[eo];simp)]
            rw[t0,←eo]at ga;have eG:HQ s.2 a b=bK (bK s.2 (ao b,a)) (b,zD):=by unfold HQ;rw[t0,t1,←eb,←eo]
            rw[eG];refine au wC ?_;refine ae rfl (af (by show(b.2==(0:Int))=false;simp[TI]) ?_);refine aa (DY hG ((aC (p++q,s.1.2) (ao b) a).1,(cS s.1.2 b.1,(s.2,()))) (ao b) a h.g (by show s.2.length≤_;omega)) ?_;refine au wC ?_;refine ae rfl (ae (by show(b.2==(1:Int))=true;simp[TI]) ?_);refine aa (DY hG ((aC (p++q,s.1.2) (ao b) a).1,(cS s.1.2 b.1,(bK s.2 (ao b,a),()))) b zD ga.1 (by have:=ga.2;show(bK s.2 (ao b,a)).length≤_;omega)) ?_;refine au wC ?_;exact af rfl rfl
        exact r3 _ ek2
      exact r2 _ e1
    exact r1 _ dk2
  have bo:∀y:ab,((y.1.1==(ba o).1)&&(y.1.2==(ba o).2))=decide (y.1=ba o):=fun y=>jk y.1 (ba o);by_cases h0:r0.1=ba o
  · rw[if_pos h0]
    refine⟨0,((J4 s o r1 r0).1,((J4 s o r1 r0).2,(HQ s.2 r1 r0,()))),go _ _ (af Dn (aa g0 (aa g1 (af b01 (aa g0 (aa g1 (ae ((bo r0).trans (decide_eq_true h0)) ?_))))))),rfl⟩;refine bj ((bo r0).trans (decide_eq_true h0)) (af rfl ?_);exact tail r1 r0 (by rw[hr];exact List.Perm.swap _ _ _) (fun k=>Yv k.symm)
  rw[if_neg h0];by_cases h1:r1.1=ba o
  · rw[if_pos h1]
    refine⟨0,((J4 s o r0 r1).1,((J4 s o r0 r1).2,(HQ s.2 r0 r1,()))),go _ _ (af Dn (aa g0 (aa g1 (af b01 (aa g0 (aa g1 (af ((bo r0).trans (decide_eq_false h0)) ?_))))))),rfl⟩;refine bj ((bo r1).trans (decide_eq_true h1)) (af rfl ?_);exact tail r0 r1 (by rw[hr]) Yv
  rw[if_neg h1];refine⟨14,aI s,go _ _ (af Dn (aa g0 (aa g1 (af b01 (aa g0 (aa g1 (af ((bo r0).trans (decide_eq_false h0)) ?_))))))),rfl⟩;exact bj ((bo r1).trans (decide_eq_false h1)) (ae rfl rfl)
end Go.Vs
namespace Go.Vs
open Go.Proofs
theorem D0{row:List ab}(hn:row.Nodup){i j:Nat}{hi:i<row.length}{hj:j<row.length}(h:row[i]=row[j]):i=j:=by
 rcases Nat.lt_trichotomy i j with k|k|k
 ·exact absurd h (adT.1 hn i j hi hj k)
 ·exact k
 ·exact absurd h.symm (adT.1 hn j i hj hi k)
theorem D1{row:List ab}(hn:row.Nodup){i j:Nat}{x:ab}(hi:row[i]? = some x)(hj:row[j]? = some x):i=j:=by obtain⟨h1,h2⟩:=ack.1 hi;obtain⟨h3,h4⟩:=ack.1 hj;exact D0 hn (h2.trans h4.symm)
theorem H6(row:List ab):∃j,j≤row.length∧cI row=Cr row j:=by
 by_cases h0:row.length=0
 ·have:row=[]:=by simpa using h0
  subst this;exact⟨0,by simp,rfl⟩
 ·exact⟨fi row row 0 0,Nat.le_of_lt (oS row row 0 0 (by omega) (by omega)),rfl⟩
theorem Uc{row:List ab}(hn:row.Nodup){k:Nat}{x:ab}(hk:row[k]? = some x):idx x row 0=(k:Int):=by have:=J7 (d:=x) (row:=row) (k:=k) (i:=0) hk (fun j hj he=>by have:=D1 hn hk he;omega);omega
end Go.Vs
namespace Go.Vs
open Go.Proofs
variable {G:(f:FuncId)→(g:aL)→Option (g.A→Option g.B)}
theorem Nx(l:List ag)(x:ID):l.any (fun w=>decide (w.1=x))=(aR l x).isSome:=by rw[Bool.eq_iff_iff,List.any_eq_true];unfold aR;rw[List.find?_isSome]
theorem Ny(l:List ah)(x:ID):l.any (fun w=>decide (w.1=x))=(aV l x).isSome:=by rw[Bool.eq_iff_iff,List.any_eq_true];unfold aV;rw[List.find?_isSome]
theorem Nz(s:StateT)(o:aY):jf (tD (aI s) o).1 (tD (aI s) o).2=wH s o:=by
 unfold tD wH HO Fg;rw[Nx,Ny];by_cases ho:mV o=true
 ·have hv:s.1.1.map (iH o)=s.1.1:=by
   conv=>rhs;rw[←List.map_id s.1.1]
   exact ad1 fun u hu=>by unfold iH;rw[if_neg (by rw[ho];simp)];rfl
  rw[if_pos ho,ho,hv];show jf (if(aV s.1.2 (aW o)).isSome=true then _ else _:Int×aQ).1 (if(aV s.1.2 (aW o)).isSome=true then _ else _:Int×aQ).2=_
  cases (aV s.1.2 (aW o)).isSome<;>rfl
 ·have mO:mV o=false:=by simpa using ho
  have he:s.1.2.map (jE o)=s.1.2:=by
   conv=>rhs;rw[←List.map_id s.1.2]
   exact ad1 fun u hu=>by unfold jE;rw[if_neg (by rw[mO];simp)];rfl
  rw[if_neg ho,mO,he];show jf (if(aR s.1.1 (aW o)).isSome=true then _ else _:Int×aQ).1 (if(aR s.1.1 (aW o)).isSome=true then _ else _:Int×aQ).2=_
  cases (aR s.1.1 (aW o)).isSome<;>rfl
theorem Rr(hG:HG G)(w:aQ)(o:aY)(hk:7≤o.1)(hv:bY w.1)(he:dh w.2.1)(VG:w.1.length≤50000000)(hle:w.2.1.length≤50000000) :
  FX G 131 EU ((o,()),(w,()))=some (((tD w o).1,()),((tD w o).2,())):=by
 refine aq (hG _ _ rfl) JJ ?_;have kn:∀k:Int,k<7→(o.1==k)=false:=fun k mY=>yc (by omega);refine af (kn 1 (by omega)) (af (kn 2 (by omega)) (af (kn 3 (by omega)) (af (kn 4 (by omega)) (af (kn 5 (by omega)) (af (kn 6 (by omega)) ?_)))));exact aa (agU hG w o hv he VG hle) rfl
def opL(x:ID)(e:Bool)(t:ByteArray):aY:=(7,(x,(zI,(zI,(zC,(zC,(e,(t,0))))))))
def opA(x:ID)(e:Bool)(n:Int):aY:=(8,(x,(zI,(zI,(zC,(zC,(e,(e0,n))))))))
theorem Xw:Nl 0:=by unfold Nl;omega
theorem LC{l:List ag}(hs:bY l){v w:ag}(hv:v∈l)(hw:w∈l)(h:w.1=v.1):w=v:=by have h1:=ki hs hv;have h2:=ki hs hw;rw[h,h1]at h2;exact(ada h2).symm
structure Lay(s t:StateT):Prop where
 v:bY t.1.1
 e:dh t.1.2
 sm:Sm t.1
 g:t.2.length≤50000000
theorem H7(l:List ah):(ends l).length=2*l.length:=by
 induction l with
 |nil=>rfl
 |cons e r ih=>rw[jH];simp[ih];omega
theorem Ud{l:List ag}{v:ag}(h:v∈l):v.2.1.length≤(ar l).length:=by obtain⟨a,b,rfl⟩:=adA h;rw[nV,jG];simp;omega
theorem Wf.tG{d:aj}(h:Wf d):∀v∈d.1,v.2.1.length≤80:=fun v hv=>by have h1:=Ud hv;have h2:=h.pd.length_eq;have h3:=h.ne;rw[H7]at h2;omega
theorem Wf.sm{d:aj}(h:Wf d):Sm d:=⟨by have:=h.nv;omega,by have:=h.ne;omega,fun v hv=>by have:=h.tG v hv;omega⟩
theorem Wf.small{d:aj}(h:Wf d):Sv d.1:=⟨by have:=h.nv;omega,fun v hv=>by have:=h.tG v hv;omega⟩
theorem NA(s:StateT)(o:aY):jf (pI (aI s) (aW o,([],(e0,0)))).1 (pI (aI s) (aW o,([],(e0,0)))).2=pG s o:=by
 by_cases hh:(aR s.1.1 (aW o)).isSome=true
 ·have a:pI (aI s) (aW o,([],(e0,0)))=(12,aI s):=if_pos hh;have b:pG s o=(zS,(12,())):=if_pos hh;rw[a,b];rfl
 by_cases h:24≤s.1.1.length
 ·have a:pI (aI s) (aW o,([],(e0,0)))=(3,aI s):=(if_neg hh).trans (if_pos h);have b:pG s o=(zS,(3,())):=(if_neg hh).trans (if_pos h);rw[a,b];rfl
 ·have a:pI (aI s) (aW o,([],(e0,0)))=(0,(dW (aW o,([],(e0,0))) (aI s).1,(aI s).2)):=(if_neg hh).trans (if_neg h);have b:pG s o=(((dW (aW o,([],(e0,0))) s.1.1,s.1.2),s.2),(0,())):=(if_neg hh).trans (if_neg h);rw[a,b];rfl
theorem NB{s:StateT}(h:fb s)(o:aY):jf (DM (aI s) (aW o)).1 (DM (aI s) (aW o)).2=ya s o:=by
 unfold DM ya bp;show jf (match aR s.1.1 (aW o) with|none=>(13,aI s)|some v=>if 0<v.2.1.length then(14,aI s) else(0,(dv s.1.1 (aW o),(s.1.2,(s.2,())))):Int×aQ).1 (match aR s.1.1 (aW o) with|none=>(13,aI s)|some v=>if 0<v.2.1.length then(14,aI s) else(0,(dv s.1.1 (aW o),(s.1.2,(s.2,())))):Int×aQ).2=_
 cases aR s.1.1 (aW o) with
 |none=>rfl
 |some v =>
  simp only;by_cases hl:0<v.2.1.length
  ·rw[if_pos hl,if_pos hl];rfl
  ·rw[if_neg hl,if_neg hl];unfold aS;rw[vp h.d.ge];rfl
def LD(s:StateT)(o:aY):StateT×(Int×Unit) :=if o.1=1 then pG s o else if o.1=2 then ya s o else if o.1=3 then pC s o else if o.1=4 then Fi s o else if o.1=5 then lV s o else if o.1=6 then kS s o else wH s o
theorem NC(s:StateT)(o:aY):kT s o=if cj o≠0 then(zS,(cj o,())) else LD s o:=rfl
theorem Rs(hG:HG G)(s:StateT)(o:aY)(h:fb s)(hm:cj o=0)(h3:o.1=3→∃(e:Int) (w:aQ),FX G 154 oQ ((o,()),(aI s,()))=some ((e,()),(w,()))∧jf e w=pC s o) :
  ∃(e:Int) (w:aQ),FX G 131 EU ((o,()),(aI s,()))=some ((e,()),(w,()))∧jf e w=LD s o:=by
 have hk:=BP hm;have Ue:=h.d.small;have SY:=h.d.nv;have bq:=h.d.ne;have start:∀(e:Int) (w:aQ),bO 131 EU Tryz.f131 (FX G) (LX G 131 EU Tryz.f131) ((o,()),(aI s,()))=some ((e,()),(w,()))→FX G 131 EU ((o,()),(aI s,()))=some ((e,()),(w,())):=fun e w a =>aq (hG _ _ rfl) a rfl;unfold LD;by_cases h1:o.1=1
 ·rw[if_pos h1];refine⟨_,_,start _ _ ((JJ).trans (ae (FM h1) (aa (Xq hG (aI s) (aW o,([],(e0,0))) h.d.sv Ue.n) rfl))),?_⟩;exact NA s o
 rw[if_neg h1];by_cases h2:o.1=2
 ·rw[if_pos h2];refine⟨_,_,start _ _ ((JJ).trans (af (yc h1) (ae (FM h2) (aa (agN hG (aI s) o h.d.sv Ue.n) rfl)))),?_⟩;exact NB h o
 rw[if_neg h2];by_cases N8:o.1=3
 ·rw[if_pos N8];obtain⟨e,w,a,b⟩:=h3 N8;exact⟨e,w,start _ _ ((JJ).trans (af (yc h1) (af (yc h2) (ae (FM N8) (aa a rfl))))),b⟩
 rw[if_neg N8];by_cases hk4:o.1=4
 ·rw[if_pos hk4];obtain⟨e,w,a,b⟩:=agX hG s o h Ue;exact⟨e,w,start _ _ ((JJ).trans (af (yc h1) (af (yc h2) (af (yc N8) (ae (FM hk4) (aa a rfl)))))),b⟩
 rw[if_neg hk4];by_cases Xu:o.1=5
 ·rw[if_pos Xu];obtain⟨e,w,a,b⟩:=ag1 hG s o h Ue hm Xu;exact⟨e,w,start _ _ ((JJ).trans (af (yc h1) (af (yc h2) (af (yc N8) (af (yc hk4) (ae (FM Xu) (aa a rfl))))))),b⟩
 rw[if_neg Xu];by_cases hk6:o.1=6
 ·rw[if_pos hk6];obtain⟨e,w,a,b⟩:=ag7 hG s o h Ue;exact⟨e,w,start _ _ ((JJ).trans (af (yc h1) (af (yc h2) (af (yc N8) (af (yc hk4) (af (yc Xu) (ae (FM hk6) (aa a rfl)))))))),b⟩
 rw[if_neg hk6];refine⟨_,_,Rr hG (aI s) o (by omega) h.d.sv h.d.se Ue.n (by show s.1.2.length≤_;omega),?_⟩;exact Nz s o
def il(G:(f:FuncId)→(g:aL)→Option (g.A→Option g.B))(o:aY):Prop:=∀s,fb s→cj o=0→o.1=3→∃(e:Int) (w:aQ),FX G 154 oQ ((o,()),(aI s,()))=some ((e,()),(w,()))∧jf e w=pC s o
theorem Rt{s:StateT}{o:aY}(hm:cj o=0):LD s o=kT s o:=by rw[NC,if_neg (by simp[hm])]
theorem ahb(hG:HG G)(l:List aY)(hl:l.length≤1073741824)(hm:∀o∈l,cj o=0)(h3:∀o∈l,il G o):∀(n i:Nat) (s:StateT),i+n=l.length→fb s → LX G 103 GR Tryz.f103 A9 (aN Tryz.prog 103 0) ((l,(((l.length:Nat):Int),((i:Int),()))),((zW,(aI s,())),()))=some (Fj (l.drop i) s,()):=by
 intro n
 induction n with
 |zero =>intro i s hi hw;refine au P7 ?_;refine af (decide_eq_false (show ¬((i:Int)<((l.length:Nat):Int)) by omega)) ?_;rw[List.drop_eq_nil_of_le (by omega)];rfl
 |succ n ih =>
  intro i s hi hw;have aF:i<l.length:=by omega
  have ho:=hm l[i] (adr aF);obtain⟨e,w,h1,h2⟩:=Rs hG s l[i] hw ho (h3 _ (adr aF) s hw ho);rw[Rt ho]at h2;refine au P7 ?_;refine ae (aX aF) (aa (aJ (aci aF)) ?_);refine aa h1 ?_;rw[List.drop_eq_getElem_cons aF,Fj];have Eo:=hw.one l[i];by_cases he:e=0
  ·have e1:jf e w=(ze w,(0,())):=if_neg (by simp[he]);rw[e1]at h2;rw[←h2]at Eo ⊢;rw[if_neg (by simp)];refine af (show(e != 0)=false by simp[he]) ?_;have:=ih (i+1) (ze w) (by omega) Eo;rw[←aG aF hl]at this;exact this
  ·have e1:jf e w=(zS,(e,())):=if_pos he;rw[e1]at h2;rw[←h2,if_pos he];exact ae (show(e != 0)=true by simp[he]) rfl
theorem Xx(hG:HG G)(s:StateT)(l:List aY)(hw:fb s)(hl:l.length≤1073741824)(hm:∀o∈l,cj o=0)(h3:∀o∈l,il G o):FX G 103 GR ((s,l,()),())=some (Fj l s,()):=by have hn:=hw.n;refine aq (hG _ _ rfl) ae8 ?_;refine aa (abz hG s.1 hw.d.sm) ?_;refine aa (Xp (hG _ _ rfl) s.2 (by omega)) ?_;have:=ahb hG l hl hm h3 l.length 0 s (by omega) hw;rw[List.drop_zero]at this;exact this
theorem H8(l:List aY)(h:gT l=0):∀o∈l,cj o=0:=by
 induction l with
 |nil=>intro o ho;simp at ho
 |cons o r ih =>
  rw[gT]at h;by_cases ho:cj o=0
  ·rw[if_neg (fun k=>k ho)]at h;intro p hp;rcases acn.1 hp with e|hp
   ·rw[e];exact ho
   ·exact ih h p hp
  ·rw[if_pos ho]at h;exact absurd h ho
theorem Kc{l:List aY}(h:cg l=0):∀o∈l,cj o=0:=by
 unfold cg at h
 split at h
 ·exact H8 l h
 ·cases h
theorem ahc(hG:HG G)(s:StateT)(l:List aY)(hw:fb s)(hl:l.length≤1073741824)(hf:∀o∈l,Fit o)(h3:∀o∈l,il G o):FX G 63 PC ((s,l,()),())=some (cP s l,()):=by
 refine aq (hG _ _ rfl) aeZ ?_;refine aa (abC hG l hl hf) ?_;unfold cP;by_cases hm:cg l=0
 ·rw[if_neg (by simp[hm])];refine af (show(cg l != 0)=false by simp[hm]) ?_;exact aa (Xx hG s l hw hl (Kc hm) h3) rfl
 ·rw[if_pos hm];exact ae (show(cg l != 0)=true by simp[hm]) rfl
theorem abN(hG:HG G)(s:StateT)(l:List aY)(hw:fb s)(hl:l.length≤1073741824)(hf:∀o∈l,Fit o)(h3:∀o∈l,il G o):FX G 102 GQ ((s,l,()),())=some ((je s l,()),()):=by
 have hn:=hw.n;refine aq (hG _ _ rfl) ae3 ?_;refine aa (ahc hG s l hw hl hf h3) ?_;unfold je;by_cases he:(cP s l).2.1=0
 ·rw[if_neg (by simp[he])];exact af (show((cP s l).2.1 != 0)=false by simp[he]) rfl
 ·rw[if_pos he];refine ae (show((cP s l).2.1 != 0)=true by simp[he]) ?_;refine aa (abz hG s.1 hw.d.sm) ?_;exact aa (Xp (hG _ _ rfl) s.2 (by omega)) rfl
end Go.Vs
