/- Edges cut and split -/
import Derived.Test.YtpkfpbpbkabkdaaGreatFormed
import Derived.Test.YtpkfpbpbkabkdaaGreatTop
set_option linter.unusedVariables false
set_option linter.unusedSimpArgs false
namespace Go.Vs
open Go.Proofs
variable {G:(f:FuncId)→(g:aX)→Option (g.A→Option g.B)}
theorem aaL(hG:HG G)(v:aE)(x:ae):FX G 232 G9 ((v,x,()),())=some ((n8 v.1 x,()),()):=by refine aB (hG _ _ rfl) aeV ?_;exact aa (aaH hG v.1 x) rfl
def eu(l:List aE)(x:ae):Nat:=l.countP fun v=>lz v.1 x
theorem Jt(l:List aE)(x:ae):eu l x≤l.length:=adq
theorem Av{l:List aE}{x:ae}(h:∀v∈l,lz v.1 x=false):eu l x=0:=by unfold eu;rw[List.countP_eq_zero];intro v hv;simp[h v hv]
theorem Hw{x:ae}:∀{l:List aE},jS l→∀(k:Nat) (v:aE),l[k]? = some v→(lz v.1 x=true↔k<eu l x)
 |[],_,k,v,h=>by simp at h
 |w::r,hs,k,v,h=>by
  have hw:∀{u:aE},u∈r→lz w.1 u.1=true:=fun {u} hu=>acV hs hu;have hr:jS r:=hs.of_cons;by_cases aH:lz w.1 x=true
  ·have e:eu (w::r) x=eu r x+1:=by unfold eu;rw[List.countP_cons_of_pos (by simpa using aH)]
   cases k with
   |zero=>simp at h;subst h;simp[aH,e]
   |succ k=>have:=Hw (x:=x) hr k v (by simpa using h);rw[this,e];omega
  ·have hn:∀u∈w::r,lz u.1 x=false:=fun u hu=>by
    rcases abi.1 hu with rfl|hu
    ·simpa using aH
    ·rw[Bool.eq_false_iff];intro h2;exact aH (gX (hw hu) h2)
   rw[Av hn,hn v (List.mem_of_getElem? h)];simp
theorem VV(hG:HG G)(l:List aE)(x:ae)(hs:jS l)(hl:l.length≤50000000):∀(n i j:Nat),j-i≤n→i≤eu l x→eu l x≤j→j≤l.length → LX G 233231 kh Tryz.f231 jI (aS Tryz.prog 231 0) ((l,(((l.length:Nat):Int),((i:Int),((j:Int),())))),(((x,()),()),()))=some (((((eu l x:Nat):Int),(decide ((l[eu l x]?).map (·.1)=some x),())):Int×(Bool×Unit)),()):=by
 have ue:=Jt l x;have fin:∀(i j:Nat),¬(i<j)→i≤eu l x→eu l x≤j→LX G 233231 kh Tryz.f231 jI (aS Tryz.prog 231 0) ((l,(((l.length:Nat):Int),((i:Int),((j:Int),())))),(((x,()),()),()))=some (((((eu l x:Nat):Int),(decide ((l[eu l x]?).map (·.1)=some x),())):Int×(Bool×Unit)),()):=fun i j Ce h1 h2=>by
  have hi:i=eu l x:=by omega
  subst hi;refine ax EB ?_;refine ag (decide_eq_false (show ¬(((eu l x:Nat):Int)<(j:Int)) by omega)) ?_;by_cases hc:eu l x<l.length
  ·have hx:l[eu l x]? = some l[eu l x]:=abb hc;refine af (bg hc) ?_;refine aa (aC hx) ?_;refine aa (aaL hG l[eu l x] x) ?_;refine congrArg (fun b:Bool=>some ((((eu l x:Nat):Int),(b,())),())) ?_;rw[hx];unfold n8;by_cases he:l[eu l x].1=x
   ·simp[he]
   ·simp[he];split<;>simp
  ·refine ag (decide_eq_false (show ¬(((eu l x:Nat):Int)<((l.length:Nat):Int)) by omega)) ?_;refine congrArg (fun b:Bool=>some ((((eu l x:Nat):Int),(b,())),())) ?_;rw[List.getElem?_eq_none (by omega)];simp
 intro n
 induction n with
 |zero=>intro i j Ce h1 h2 h3;exact fin i j (by omega) h1 h2
 |succ n ih =>
  intro i j Ce h1 h2 h3;by_cases aH:i<j
  case neg=>exact fin i j aH h1 h2
  refine ax EB ?_;refine af (decide_eq_true (show((i:Int)<(j:Int)) by omega)) ?_;refine ag rfl ?_;have hm:=NV (i:=i) (j:=j) (by omega) (by omega);have hh:(i+j) / 2<l.length:=by omega
  have hx:l[(i+j) / 2]? = some l[(i+j) / 2]:=abb hh;have qk:=Hw (x:=x) hs ((i+j) / 2) _ hx;refine aa (show bh l (IntKind.wrap .i64 (mC .u64 (IntKind.wrap .u64 (IntKind.wrap .i64 ((i:Int)+(j:Int)))) (1:Int)))=some l[(i+j) / 2] by rw[hm];exact aC hx) ?_;refine aa (aaL hG l[(i+j) / 2] x) ?_;by_cases ho:lz l[(i+j) / 2].1 x=true
  ·refine af (decide_eq_true ((uM _ _).2 ho)) ?_;have hc:=qk.1 ho;have hw:IntKind.wrap .i64 (IntKind.wrap .i64 (mC .u64 (IntKind.wrap .u64 (IntKind.wrap .i64 ((i:Int)+(j:Int)))) (1:Int))+1)=(((i+j) / 2+1:Nat):Int):=by rw[hm];exact aK hh (by omega)
   have:=ih ((i+j) / 2+1) j (by omega) (by omega) h2 h3;rw[←hw]at this;exact this
  ·refine ag (decide_eq_false (fun h=>ho ((uM _ _).1 h))) ?_;have hc:¬(i+j) / 2<eu l x:=fun h=>ho (qk.2 h);have:=ih i ((i+j) / 2) (by omega) h1 (by omega) (by omega);rw[←hm]at this;exact this
theorem VW(hG:HG G)(l:List aE)(x:ae)(hs:jS l)(hl:l.length≤50000000) :
  FX G 233231 kh ((l,x,()),())=some (((((eu l x:Nat):Int),(decide ((l[eu l x]?).map (·.1)=some x),())):Int×(Bool×Unit)),()):=by
 refine aB (hG _ _ rfl) Vf ?_;exact VV hG l x hs hl l.length 0 l.length (by omega) (by omega) (Jt l x) (aci _)
theorem LP(g:aE):∀{l:List aE},jS l→mM g l=if(l[eu l g.1]?).map (·.1)=some g.1 then l.set (eu l g.1) g else l.take (eu l g.1)++(g::l.drop (eu l g.1))
 |[],_=>rfl
 |w::r,hs=>by
  have hw:∀{u:aE},u∈r→lz w.1 u.1=true:=fun {u} hu=>acV hs hu;have hr:jS r:=adS hs;by_cases aH:lz w.1 g.1=true
  ·have e:eu (w::r) g.1=eu r g.1+1:=by unfold eu;rw[List.countP_cons_of_pos (by simpa using aH)]
   have bq:w.1≠g.1:=fun k=>by rw[k,eV]at aH;cases aH
   have sr:¬n8 g.1 w.1≤0:=fun k=>by
    rcases rK.1 k with k|k
    ·exact bq k.symm
    ·have:=gX aH k;rw[eV]at this;cases this
   have ih:=LP g hr;rw[e,mM,if_neg sr,if_pos bq,ih];simp only[List.getElem?_cons_succ,List.set_cons_succ,List.take_succ_cons,List.drop_succ_cons,List.cons_append]
   split<;>rfl
  ·have hn:∀u∈w::r,lz u.1 g.1=false:=fun u hu=>by
    rcases abi.1 hu with rfl|hu
    ·simpa using aH
    ·rw[Bool.eq_false_iff];intro h2;exact aH (gX (hw hu) h2)
   rw[Av hn];by_cases he:w.1=g.1
   ·have abX:n8 g.1 w.1≤0:=rK.2 (.inl he.symm);have h1:pN g (w::r)=r:=by
     have:pN g (w::r)=pN g r:=by unfold pN;rw[List.filter_cons_of_neg (by simp[he])]
     rw[this];exact uQ (fun q hq k=>by have:=hw hq;rw[k,he,eV]at this;cases this)
    rw[mM,if_pos abX,h1,if_pos (by simp[he])];rfl
   ·have MO:lz g.1 w.1=true:=uL (by simpa using aH) he;have abX:n8 g.1 w.1≤0:=rK.2 (.inr MO);have h1:pN g (w::r)=w::r:=uQ (fun q hq k=>by
     rcases abi.1 hq with rfl|hq
     ·exact he k
     ·have:=gX MO (hw hq);rw[k,eV]at this;cases this)
    rw[mM,if_pos abX,h1,if_neg (by simp[he])];rfl
theorem Hy{x:ae}:∀{l:List aE},jS l→(iw l x).isSome=decide ((l[eu l x]?).map (·.1)=some x)
 |[],_=>rfl
 |w::r,hs=>by
  have hw:∀{u:aE},u∈r→lz w.1 u.1=true:=fun {u} hu=>acV hs hu;have hr:jS r:=adS hs;rw[rL];by_cases aH:lz w.1 x=true
  ·have e:eu (w::r) x=eu r x+1:=by unfold eu;rw[List.countP_cons_of_pos (by simpa using aH)]
   have bq:w.1≠x:=fun k=>by rw[k,eV]at aH;cases aH
   rw[e,if_neg bq,Hy hr,List.getElem?_cons_succ]
  ·have hn:∀u∈w::r,lz u.1 x=false:=fun u hu=>by
    rcases abi.1 hu with rfl|hu
    ·simpa using aH
    ·rw[Bool.eq_false_iff];intro h2;exact aH (gX (hw hu) h2)
   rw[Av hn];by_cases he:w.1=x
   ·simp[he]
   ·have MO:lz x w.1=true:=uL (by simpa using aH) he;have:iw r x=none:=by
     unfold iw;have:(List.find? (fun q=>decide (q.1=x)) r)=none:=by
      rw[List.find?_eq_none];intro q hq k;have k:q.1=x:=by simpa using k
      have:=gX MO (hw hq);rw[k,eV]at this;cases this
     rw[this];rfl
    rw[if_neg he,this];simp[he]
theorem af7(hG:HG G)(l:List aE)(g:aE)(hs:jS l)(hl:l.length≤50000000):FX G 215 K7 ((l,g,()),())=some ((bM l g,()),()):=by
 refine aB (hG _ _ rfl) aeL ?_;refine aa (VW hG l g.1 hs hl) ?_;refine aa (YH (hG _ _ rfl) l hl) ?_;unfold bM;rw[Hy hs,LP g hs];have hc:eu l g.1≤l.length:=Jt l g.1;by_cases h:(l[eu l g.1]?).map (·.1)=some g.1
 ·rw[decide_eq_true h,if_neg (fun k=>by cases k.1),if_pos h];refine af rfl ?_;obtain⟨u,hu,_⟩:∃u,l[eu l g.1]? = some u∧u.1=g.1:=by
   cases hq:l[eu l g.1]? with
   |none=>rw[hq]at h;cases h
   |some u=>rw[hq]at h;exact⟨u,rfl,by simpa using h⟩
  have aH:=(aa9.1 hu).1;refine af (dA (gr _) (bg aH)) ?_;exact aa hu rfl
 ·rw[decide_eq_false h,if_neg h];refine ag rfl ?_;by_cases h4:400≤l.length
  ·rw[if_pos ⟨rfl,h4⟩];exact ag (decide_eq_false (show ¬((l.length:Nat):Int)<400 by omega)) rfl
  ·rw[if_neg (fun k=>h4 k.2)];refine af (decide_eq_true (show((l.length:Nat):Int)<400 by omega)) ?_;have nD:sM l ((eu l g.1:Nat):Int) [g]=true:=by unfold sM;rw[decide_eq_true (show(0:Int)≤((eu l g.1:Nat):Int) by omega),decide_eq_true (show((eu l g.1:Nat):Int)≤((l.length:Nat):Int) by omega)];rw[fits (by simp;omega)];rfl
   refine af nD ?_;have e:ij l ((eu l g.1:Nat):Int) [g]=l.take (eu l g.1)++(g::l.drop (eu l g.1)):=by unfold ij;simp
   exact congrArg (fun r:List aE=>some ((r,()),())) e
theorem Hz(hG:HG G)(w:bf)(x to:ae)(hs:jS w.2.2.1)(hl:w.2.2.1.length≤50000000):FX G 183 D2 ((x,to,()),(w,()))=some ((),((w.1,(w.2.1,(bM w.2.2.1 (x,to),()))),())):=by refine aB (hG _ _ rfl) aeu ?_;exact aa (af7 hG w.2.2.1 (x,to) hs hl) rfl
theorem HA(hG:HG G)(w:bf)(x:ae)(hw:Rw w.1)(hl:w.1.length≤50000000)(hr:∀v∈w.1,v.2.1.length≤50000000){k:Nat}{v:ai}(hk:w.1[k]? = some v)(hx:x∈v.2.1) :
  FX G 185 nR ((x,()),(w,()))=some (((some ((⟨0,by decide⟩:Fin 1),k)),()),(w,())):=by
 refine aB (hG _ _ rfl) aew ?_;have Qx:=(aa9.1 hk).1;have loop:∀(n i:Nat),i+n=k→LX G 185 nR Tryz.f185 xV (aS Tryz.prog 185 0) ((((w.1.length:Nat):Int),((i:Int),())),((w,((x,()),())),()))=some (((some ((⟨0,by decide⟩:Fin 1),k)),()),(w,())):=by
  intro n
  induction n with
  |zero =>
   intro i hi;have hi:i=k:=by omega
   subst hi;refine ax Pd ?_;refine af (bg Qx) (af (dA (gr _) (bg Qx)) (aa hk ?_));refine aa (Ho hG v.2.1 x (by have:=hr v (acd hk);omega)) ?_;exact af (decide_eq_true hx) rfl
  |succ n ih =>
   intro i hi;have pJ:i<w.1.length:=by omega
   have hu:w.1[i]? = some w.1[i]:=abb pJ;have GY:x∉w.1[i].2.1:=fun hxi=>by have h1:w.1[i]=v:=hw.one (acd hk) (acy pJ) hx hxi;have h2:=kY hw.s hk rfl;have h3:=kY hw.s (x:=v.1) hu (by rw[h1]);omega
   refine ax Pd ?_;refine af (bg pJ) (af (dA (gr _) (bg pJ)) (aa hu ?_));refine aa (Ho hG w.1[i].2.1 x (by have:=hr _ (acy pJ);omega)) ?_;refine ag (decide_eq_false GY) ?_;have:=ih (i+1) (by omega);rw[←aK pJ (by omega)]at this;exact this
 exact loop k 0 (by omega)
theorem N1{l:List ai}{k:Nat}{v:ai}(hs:cd l)(hk:l[k]? = some v)(r:List ae):l.set k (v.1,(r,v.2.2))=l.map (iM v.1 r):=by
 have h:=eW hs (acd hk);rw[kY hs hk rfl];refine(LJ hs h (iM v.1 r) (fun u=>(u.1,(r,u.2.2))) (fun u hu=>?_) (fun u hu=>?_)).symm
 ·unfold iM;rw[if_pos hu]
 ·unfold iM;rw[if_neg hu]
theorem tJ{l:List ai}{x:ae}(h:x∈aq l):∃(k:Nat) (v:ai),l[k]? = some v∧x∈v.2.1∧v∈l:=by obtain⟨v,hv,hx⟩:=aM.1 h;obtain⟨k,hk,he⟩:=adk hv;exact⟨k,v,by rw[List.getElem?_eq_getElem hk,he],hx,hv⟩
structure Sv(l:List ai):Prop where
 n:l.length≤50000000
 r:∀v∈l,v.2.1.length≤50000000
theorem VX{n:Int}(h:n=0∨n=1):du .xor .i64 n 1=IntKind.wrap .i64 (1-n):=by rcases h with rfl|rfl<;>decide
theorem LQ(hG:G 188 qp=none)(x:ae)(h:x.2=0∨x.2=1):FX G 188 qp ((x,()),())=some ((ah x,()),()):=by refine aB hG aez ?_;exact congrArg (fun n:Int=>some ((((x.1,n):ae),()),())) (VX h)
theorem RV{d:ak}(h:Rw d.1){v:ai}{x:ae}(hv:v∈d.1)(hx:x∈v.2.1):dy d x=if(cC v.2.1 x).1=x.1 then(if(cC v.2.1 (cC v.2.1 x)).1=x.1 then zD else cC v.2.1 (cC v.2.1 x)) else cC v.2.1 x:=by
 unfold dy;have e:aV d ((bJ d x).getD zI)=v.2.1:=by unfold bJ;rw[dp h hv hx];exact gk h.s hv
 simp only[e];by_cases h1:(cC v.2.1 x).1=x.1
 ·simp only[if_pos h1]
 ·simp only[if_neg h1]
theorem aaM(hG:HG G)(w:bf)(x:ae)(hw:Rw w.1)(hs:Sv w.1)(hx:x∈aq w.1)(e:List an):FX G 184 D3 ((x,()),(w,()))=some ((dy (w.1,e) x,()),(w,())):=by
 obtain⟨k,v,hk,j4,hv⟩:=tJ hx;have SL:=hs.r v hv;refine aB (hG _ _ rfl) aev ?_;rw[RV (d:=(w.1,e)) hw hv j4];have prev:∀y:ae,FX G 140 D6 ((v.2.1,y,()),())=some (((cC v.2.1 y),((BB (cU v.2.1 y (v.2.1.length-1))).2)),()):=fun y=>by refine(aaK hG v.2.1 y (by omega)).trans ?_;have:(BB (cU v.2.1 y (v.2.1.length-1))).1=cC v.2.1 y:=yv _;rw[←this]
 have cH:∀y:ae,((y.1.1==x.1.1)&&(y.1.2==x.1.2))=decide (y.1=x.1):=fun y=>jl y.1 x.1;refine ax IX ?_;refine af rfl (aa (HA hG w x hw hs.n hs.r hk j4) ?_);refine vG rfl (af rfl (aa hk ?_));refine aa (prev x) ?_;by_cases h1:(cC v.2.1 x).1=x.1
 ·rw[if_pos h1];refine aZ ((cH _).trans (decide_eq_true h1)) ?_;refine ax IX ?_;refine af rfl (aa (HA hG w x hw hs.n hs.r hk j4) ?_);refine vG rfl (af rfl (aa hk ?_));refine aa (prev (cC v.2.1 x)) ?_;by_cases h2:(cC v.2.1 (cC v.2.1 x)).1=x.1
  ·rw[if_pos h2];refine aZ ((cH _).trans (decide_eq_true h2)) ?_;refine ax IX ?_;exact ag rfl rfl
  ·rw[if_neg h2];exact aZ ((cH _).trans (decide_eq_false h2)) rfl
 ·rw[if_neg h1];exact aZ ((cH _).trans (decide_eq_false h1)) rfl
theorem LR{l:List an}{x:ID}(hs:dw l)(h:(aL l x).isSome=true)(hl:l.length≤50000000) :
  kF l ((cE l x:Nat):Int) (IntKind.wrap .i64 (((cE l x:Nat):Int)+1))=true∧eg l ((cE l x:Nat):Int) (IntKind.wrap .i64 (((cE l x:Nat):Int)+1))=bF l x:=by
 obtain⟨e,he⟩:=ab3.1 h;have aH:=(aa9.1 (ma hs he)).1;have hw:IntKind.wrap .i64 (((cE l x:Nat):Int)+1)=((cE l x+1:Nat):Int):=aK aH (by omega);constructor
 ·rw[hw];unfold kF;rw[decide_eq_true (show(0:Int)≤((cE l x:Nat):Int) by omega),decide_eq_true (show((cE l x:Nat):Int)<((cE l x+1:Nat):Int) by omega),decide_eq_true (show((cE l x+1:Nat):Int)≤((l.length:Nat):Int) by omega),fits (by omega)];rfl
 ·rw[hw,Ao hs h];unfold eg;simp only[Int.toNat_natCast]
theorem VY{l:List ai}{x:ID}(hs:cd l)(h:(aN l x).isSome=true)(hl:l.length≤50000000) :
  kF l ((bP l x:Nat):Int) (IntKind.wrap .i64 (((bP l x:Nat):Int)+1))=true∧eg l ((bP l x:Nat):Int) (IntKind.wrap .i64 (((bP l x:Nat):Int)+1))=bE l x:=by
 obtain⟨e,he⟩:=ab3.1 h;have aH:=(aa9.1 (dK hs he)).1;have hw:IntKind.wrap .i64 (((bP l x:Nat):Int)+1)=((bP l x+1:Nat):Int):=aK aH (by omega);constructor
 ·rw[hw];unfold kF;rw[decide_eq_true (show(0:Int)≤((bP l x:Nat):Int) by omega),decide_eq_true (show((bP l x:Nat):Int)<((bP l x+1:Nat):Int) by omega),decide_eq_true (show((bP l x+1:Nat):Int)≤((l.length:Nat):Int) by omega),fits (by omega)];rfl
 ·rw[hw,Ak hs h];unfold eg;simp only[Int.toNat_natCast]
theorem Sv.re{l:List ai}(h:Sv l)(x:ID){r:List ae}(hr:r.length≤50000000):Sv (l.map (iM x r)):=by
 refine⟨by simp;exact h.n,fun w hw=>?_⟩;obtain⟨u,hu,rfl⟩:=ace.1 hw;unfold iM
 split
 ·exact hr
 ·exact h.r u hu
theorem E5{row:List ae}(d:ae):(bz row d).length≤row.length:=by unfold bz;rw[iv];exact ac5 _ _
theorem PM{w:bf}{x:ae}(hw:Rw w.1){k:Nat}{v:ai}(hk:w.1[k]? = some v)(hx:x∈v.2.1)(e:List an):w.1.set k (v.1,(bz v.2.1 x,v.2.2))=(av (w.1,e) x).1:=by rw[c9 (d:=(w.1,e)) hw (List.mem_of_getElem? hk) hx];exact N1 hw.s hk _
theorem alG(hG:HG G)(s:StateT)(o:aW)(h:dU s)(hs:Sv s.1.1) :
  ∃(e:Int) (w:bf),FX G 155 DY ((o,()),(aT s,()))=some ((e,()),(w,()))∧iy e w=wK s o:=by
 have bq:=h.d.ne;unfold wK
 cases hf:(aL s.1.2 (au o)).isSome with
 |false =>
  refine⟨13,aT s,?_,?_⟩
  ·refine aB (hG _ _ rfl) aef ?_;refine aa (qC hG (aT s) (au o) h.d.se (by show s.1.2.length≤_;omega)) ?_;exact aZ ((dS (l:=s.1.2) h.d.se).trans hf) rfl
  ·rw[if_pos (show(cH s.1 (au o)).isSome=false from hf)];rfl
 |true =>
  rw[if_neg (show ¬(cH s.1 (au o)).isSome=false by show ¬(aL s.1.2 (au o)).isSome=false;rw[hf];simp)];obtain⟨x,hx⟩:∃x:ae,x=(au o,0):=⟨_,rfl⟩;obtain⟨y,hy⟩:∃y:ae,y=(au o,1):=⟨_,rfl⟩;have hxd:x∈aq s.1.1:=by rw[hx];exact h.d.g9 hf (.inl rfl)
  have SV:y∈aq s.1.1:=by rw[hy];exact h.d.g9 hf (.inr rfl)
  have g1:=lh h.g h.n (x,dy s.1 x);have hn:=h.n;obtain⟨p1,q1⟩:=cZ h.d.rw hxd;have alH:y∈aq (av s.1 x).1:=by
   rcases abi.1 (p1.mem_iff.1 SV) with k|k
   ·rw[hx,hy]at k;cases k
   ·exact k
  have PJ:=iz (iz h.d.gv x) y;refine⟨0,((av (av s.1 x) y).1,(bF s.1.2 (au o),(bM (bM s.2 (x,dy s.1 x)) (y,dy s.1 y),()))),?_,?_⟩
  ·refine aB (hG _ _ rfl) aef ?_;refine aa (qC hG (aT s) (au o) h.d.se (by show s.1.2.length≤_;omega)) ?_;refine aZ ((dS (l:=s.1.2) h.d.se).trans hf) (ag rfl ?_);have alI:FX G 179 DZ ((au o,()),())=some ((x,y,()),()):=by rw[hx,hy];exact aB (hG _ _ rfl) aan rfl
   refine aa alI ?_;refine ax ND ?_;refine af rfl (af rfl (aa (a:=x) rfl ?_));refine aa (aaM hG (aT s) x h.d.rw hs hxd s.1.2) ?_;refine aa (Hz hG (aT s) x (dy s.1 x) h.g (by show s.2.length≤_;omega)) ?_;refine ax ND ?_;refine af rfl (af rfl (aa (a:=y) rfl ?_));refine aa (aaM hG (s.1.1,(s.1.2,(bM s.2 (x,dy s.1 x),()))) y h.d.rw hs SV s.1.2) ?_;refine aa (Hz hG (s.1.1,(s.1.2,(bM s.2 (x,dy s.1 x),()))) y (dy s.1 y) g1.1 (by have:=g1.2;show(bM s.2 (x,dy s.1 x)).length≤_;omega)) ?_;refine ax ND ?_;refine ag rfl ?_;generalize bM (bM s.2 (x,dy s.1 x)) (y,dy s.1 y)=gg;obtain⟨k,v,hk,j4,hv⟩:=tJ hxd;refine ax NF ?_;refine af rfl (af rfl (aa (a:=x) rfl ?_));refine aa (HA hG (s.1.1,(s.1.2,(gg,()))) x h.d.rw hs.n hs.r hk j4) ?_;refine vG rfl (af rfl (aa hk ?_));refine aa (VR hG v.2.1 x (h.d.rw.ring hv) (hs.r v hv)) ?_;refine aa hk ?_;have e1:s.1.1.set k (v.1,(bz v.2.1 x,v.2.2))=(av s.1 x).1:=PM (w:=(s.1.1,(s.1.2,(gg,())))) h.d.rw hk j4 s.1.2;have KG:Sv (av s.1 x).1:=by rw[c9 h.d.rw hv j4];exact hs.re _ (acX (E5 x) (hs.r v hv))
   obtain⟨k2,v2,pH,XJ,AZ⟩:=tJ alH;have e2:(av s.1 x).1.set k2 (v2.1,(bz v2.2.1 y,v2.2.2))=(av (av s.1 x) y).1:=PM (w:=((av s.1 x).1,(s.1.2,(gg,())))) q1 pH XJ (av s.1 x).2;have rest:∀a:List ai,a=(av s.1 x).1→LX G 155 DY Tryz.f155 Aa (aS Tryz.prog 155 1) ((((cE s.1.2 (au o):Nat):Int),((2:Int),((1:Int),()))),(((a,(s.1.2,(gg,()))),()),([x,y],())))=some (((0:Int),()),(((av (av s.1 x) y).1,(bF s.1.2 (au o),(gg,()))),())):=by
    intro a ha;subst ha;refine ax NF ?_;refine af rfl (af rfl (aa (a:=y) rfl ?_));refine aa (HA hG ((av s.1 x).1,(s.1.2,(gg,()))) y q1 KG.n KG.r pH XJ) ?_;refine vG rfl (af rfl (aa pH ?_));refine aa (VR hG v2.2.1 y (q1.ring AZ) (KG.r v2 AZ)) ?_;refine aa pH ?_;have last:∀b:List ai,b=(av (av s.1 x) y).1→LX G 155 DY Tryz.f155 Aa (aS Tryz.prog 155 1) ((((cE s.1.2 (au o):Nat):Int),((2:Int),((2:Int),()))),(((b,(s.1.2,(gg,()))),()),([x,y],())))=some (((0:Int),()),(((av (av s.1 x) y).1,(bF s.1.2 (au o),(gg,()))),())):=by intro b hb;subst hb;refine ax NF ?_;obtain⟨d1,d2⟩:=LR h.d.se hf (by omega);refine ag rfl (af d1 ?_);exact congrArg (fun l:List an=>some (((0:Int),()),(((av (av s.1 x) y).1,(l,(gg,()))),()))) d2
    exact last _ e2
   exact rest _ e1
  ·rw[←hx,←hy];unfold aF;rw[lE PJ];rfl
theorem N2{n:Int}(h0:0≤n)(h3:n≤3):du .xor .i64 1 (du .and .i64 n 1)=IntKind.wrap .i64 (1-Int.tmod n 2)∧mC .i64 n 1=IntKind.wrap .i64 (Int.tdiv n 2):=by
 have:n=0∨n=1∨n=2∨n=3:=by omega
 rcases this with rfl|rfl|rfl|rfl<;>exact⟨by decide,by decide⟩
theorem LS{l:List ai}{x:ae}(hw:Rw l){k:Nat}{v:ai}(hk:l[k]? = some v)(hx:x∈v.2.1)(y:ae)(e:List an):l.set k (v.1,(dJ v.2.1 x y,v.2.2))=(az (l,e) x y).1:=by rw[la (d:=(l,e)) hw y (List.mem_of_getElem? hk) hx];exact N1 hw.s hk _
theorem alJ(hG:HG G)(s:StateT)(o:aW)(h:dU s)(hs:Sv s.1.1)(hm:bm o=0)(YM:o.1=5) :
    ∃(e:Int) (w:bf),FX G 156 B4 ((o,()),(aT s,()))=some ((e,()),(w,()))∧iy e w=iS s o:=by
  have bq:=h.d.ne;have Qv:=h.d.nv;obtain⟨m1,m2,m3,m4⟩:=mZ hm YM;obtain⟨s1,s2⟩:=yy m3 m4;obtain⟨c1,c2⟩:=N2 m3 m4;have key:∀(e:Int) (w:bf),FX G 156 B4 ((o,()),(aT s,()))=some ((e,()),(w,()))→iy e w=iS s o→∃(e:Int) (w:bf),FX G 156 B4 ((o,()),(aT s,()))=some ((e,()),(w,()))∧iy e w=iS s o:=fun e w a b=>⟨e,w,a,b⟩;have start:∀(e:Int) (w:bf),cm 156 B4 Tryz.f156 (FX G) (LX G 156 B4 Tryz.f156) ((o,()),(aT s,()))=some ((e,()),(w,()))→FX G 156 B4 ((o,()),(aT s,()))=some ((e,()),(w,())):=fun e w a =>aB (hG _ _ rfl) a rfl;unfold iS
  cases hf:(aL s.1.2 (au o)).isSome with
  |false =>
    refine⟨13,aT s,start _ _ ((Yn).trans ?_),?_⟩
    · refine aa (qC hG (aT s) (au o) h.d.se (by show s.1.2.length≤_;omega)) ?_
      refine aa (si hG (aT s) (b6 o) h.d.sv (by show s.1.1.length≤_;omega)) ?_;refine aa (qC hG (aT s) (aj o) h.d.se (by show s.1.2.length≤_;omega)) ?_;exact aZ ((dS (l:=s.1.2) h.d.se).trans hf) rfl
    · rw[if_pos (show(cH s.1 (au o)).isSome=false from hf)];rfl
  |true =>
  rw[if_neg (show ¬(cH s.1 (au o)).isSome=false by show ¬(aL s.1.2 (au o)).isSome=false;rw[hf];simp)]
  cases QT:(aN s.1.1 (b6 o)).isSome with
  |true =>
    refine⟨12,aT s,start _ _ ((Yn).trans ?_),?_⟩
    · refine aa (qC hG (aT s) (au o) h.d.se (by show s.1.2.length≤_;omega)) ?_
      refine aa (si hG (aT s) (b6 o) h.d.sv (by show s.1.1.length≤_;omega)) ?_;refine aa (qC hG (aT s) (aj o) h.d.se (by show s.1.2.length≤_;omega)) ?_;refine aZ ((dS (l:=s.1.2) h.d.se).trans hf) (ag rfl ?_);exact af ((gW (l:=s.1.1) h.d.sv).trans QT) rfl
    · rw[if_pos (show(aO s.1 (b6 o)).isSome=true from QT)];rfl
  |false =>
  rw[if_neg (show ¬(aO s.1 (b6 o)).isSome=true by show ¬(aN s.1.1 (b6 o)).isSome=true;rw[QT];simp)]
  cases Ys:(aL s.1.2 (aj o)).isSome with
  |true =>
    refine⟨12,aT s,start _ _ ((Yn).trans ?_),?_⟩
    · refine aa (qC hG (aT s) (au o) h.d.se (by show s.1.2.length≤_;omega)) ?_
      refine aa (si hG (aT s) (b6 o) h.d.sv (by show s.1.1.length≤_;omega)) ?_;refine aa (qC hG (aT s) (aj o) h.d.se (by show s.1.2.length≤_;omega)) ?_;refine aZ ((dS (l:=s.1.2) h.d.se).trans hf) (ag rfl ?_);refine ag ((gW (l:=s.1.1) h.d.sv).trans QT) ?_;exact af ((dS (l:=s.1.2) h.d.se).trans Ys) rfl
    · rw[if_pos (show(cH s.1 (aj o)).isSome=true from Ys)];rfl
  |false =>
  rw[if_neg (show ¬(cH s.1 (aj o)).isSome=true by show ¬(aL s.1.2 (aj o)).isSome=true;rw[Ys];simp)];have alK:aN s.1.1 (b6 o)=none:=by simpa using QT
  have alL:aL s.1.2 (aj o)=none:=by simpa using Ys
  obtain⟨m,OX⟩:∃m:ae,m=Jj o:=⟨_,rfl⟩;obtain⟨kk,Nb⟩:∃m:ae,m=FQ o:=⟨_,rfl⟩;have LO:m∈aq s.1.1:=by rw[OX];exact h.d.g9 hf s1
  have GR:ah kk∉aq s.1.1:=by rw[Nb];exact h.d.mP alL _
  obtain⟨p1,q1⟩:=iI h.d.rw LO GR;have pH:kk.2=0∨kk.2=1:=by rw[Nb];exact s2
  obtain⟨k,v,hk,j4,hv⟩:=tJ LO;have e1:s.1.1.set k (v.1,(dJ v.2.1 m (ah kk),v.2.2))=(az s.1 m (ah kk)).1:=LS h.d.rw hk j4 _ s.1.2;have hlen:(az s.1 m (ah kk)).1.length=s.1.1.length:=by unfold az;exact fK _ _ _
  have YL:aN (az s.1 m (ah kk)).1 (b6 o)=none:=by unfold az Vs.b8;rw[iH (pP _ _),alK];rfl
  have eM:((au o,du .xor .i64 1 (du .and .i64 (oN o) 1)):ae)=m:=by rw[OX,c1];rfl
  have eK:((aj o,mC .i64 (oN o) 1):ae)=kk:=by rw[Nb,c2];rfl
  have go:∀(e:Int) (w:bf),(∀a:List ai,a=(az s.1 m (ah kk)).1→((FX G 152 KZ (((b6 o,(bB [m,kk],(e0,(0:Int)))),()),((a,(s.1.2,(s.2,()))),()))).bind fun(oG:((Int×Unit)×(bf×Unit))) =>cond (oG.1.1 != (0:Int)) (some (oG.1,((oG.2.1.1,(oG.2.1.2.1,oG.2.1.2.2)),()))) ((FX G 178 Br ((aj o,()),((oG.2.1.1,(oG.2.1.2.1,oG.2.1.2.2)),()))).bind fun(sf:((Int×Unit)×(bf×Unit))) =>some (sf.1,((sf.2.1.1,(sf.2.1.2.1,sf.2.1.2.2)),()))))=some ((e,()),(w,())))→FX G 156 B4 ((o,()),(aT s,()))=some ((e,()),(w,())):=fun e w rest=>by
    refine start _ _ ((Yn).trans ?_);refine aa (qC hG (aT s) (au o) h.d.se (by show s.1.2.length≤_;omega)) ?_;refine aa (si hG (aT s) (b6 o) h.d.sv (by show s.1.1.length≤_;omega)) ?_;refine aa (qC hG (aT s) (aj o) h.d.se (by show s.1.2.length≤_;omega)) ?_;refine aZ ((dS (l:=s.1.2) h.d.se).trans hf) (ag rfl ?_);refine ag ((gW (l:=s.1.1) h.d.sv).trans QT) ?_;refine ag ((dS (l:=s.1.2) h.d.se).trans Ys) ?_;refine ag rfl ?_;have body:∀mm k2:ae,mm=m→k2=kk→((FX G 185 nR ((mm,()),(aT s,()))).bind fun(y4:(((Option ((Fin 1)×Nat))×Unit)×(bf×Unit))) =>sL y4.1.1 (none) fun(p5:((Fin 1)×Nat)) =>cond (p5.1.val==0) (((y4.2.1.1)[p5.2]?).bind fun(y6:ai) =>(FX G 188 qp ((k2,()),())).bind fun(y7:((ae×Unit)×Unit)) =>(FX G 187 vx ((y6.2.1,(mm,((y7.1.1.1,y7.1.1.2),()))),())).bind fun(y8:(((List ae)×Unit)×Unit)) =>((y4.2.1.1)[p5.2]?).bind fun(y9:ai) =>(FX G 169 tp (([mm,k2],()),())).bind fun(sd:(((List ae)×Unit)×Unit)) =>(FX G 152 KZ (((b6 o,(sd.1.1,((⟨#[]⟩:ByteArray),(0:Int)))),()),(((List.set y4.2.1.1 p5.2 (y9.1,(y8.1.1,y9.2.2))),(y4.2.1.2.1,y4.2.1.2.2)),()))).bind fun(oG:((Int×Unit)×(bf×Unit))) =>cond (oG.1.1 != (0:Int)) (some (oG.1,((oG.2.1.1,(oG.2.1.2.1,oG.2.1.2.2)),()))) ((FX G 178 Br ((aj o,()),((oG.2.1.1,(oG.2.1.2.1,oG.2.1.2.2)),()))).bind fun(sf:((Int×Unit)×(bf×Unit))) =>some (sf.1,((sf.2.1.1,(sf.2.1.2.1,sf.2.1.2.2)),())))) (none))=some ((e,()),(w,())):=by intro mm k2 alM alN;subst alM alN;refine aa (HA hG (aT s) mm h.d.rw hs.n hs.r hk j4) ?_;refine vG rfl (af rfl (aa hk ?_));refine aa (LQ (hG _ _ rfl) k2 pH) ?_;refine aa (aaJ hG v.2.1 mm (ah k2) (hs.r v hv)) ?_;refine aa hk ?_;refine aa (Hq hG [mm,k2] (by simp)) ?_;exact rest _ e1
    exact body _ _ eM eK
  have alO:24≤s.1.1.length→sj ((az s.1 m (ah kk)).1,(s.1.2,(s.2,()))) (b6 o,(bB [m,kk],(e0,0)))=(3,((az s.1 m (ah kk)).1,(s.1.2,(s.2,())))):=fun hb=>by unfold sj;rw[if_neg (by rw[show aN ((az s.1 m (ah kk)).1,(s.1.2,(s.2,()))).1 ((b6 o,(bB [m,kk],(e0,0))):ai).1=none from YL];simp)];rw[if_pos (by show 24≤(az s.1 m (ah kk)).1.length;omega)]
  have abY:¬24≤s.1.1.length→sj ((az s.1 m (ah kk)).1,(s.1.2,(s.2,()))) (b6 o,(bB [m,kk],(e0,0)))=(0,(cr (b6 o,(bB [m,kk],(e0,0))) (az s.1 m (ah kk)).1,(s.1.2,(s.2,())))):=fun hb=>by unfold sj;rw[if_neg (by rw[show aN ((az s.1 m (ah kk)).1,(s.1.2,(s.2,()))).1 ((b6 o,(bB [m,kk],(e0,0))):ai).1=none from YL];simp)];rw[if_neg (by show ¬24≤(az s.1 m (ah kk)).1.length;omega)]
  by_cases hb:24≤s.1.1.length
  · refine⟨3,((az s.1 m (ah kk)).1,(s.1.2,(s.2,()))),go _ _ (fun a ha=>?_),?_⟩
    · subst ha
      refine aa (abU hG ((az s.1 m (ah kk)).1,(s.1.2,(s.2,()))) (b6 o,(bB [m,kk],(e0,0))) q1.s (by show(az s.1 m (ah kk)).1.length≤_;omega)) ?_;rw[alO hb];exact af rfl rfl
    · rw[if_pos hb];rfl
  rw[if_neg hb];have hE:vH (cr (b6 o,(bB [m,kk],(e0,0))) (az s.1 m (ah kk)).1,(s.1.2,(s.2,()))) (aj o)=if 40≤s.1.2.length then(3,(cr (b6 o,(bB [m,kk],(e0,0))) (az s.1 m (ah kk)).1,(s.1.2,(s.2,())))) else(0,(cr (b6 o,(bB [m,kk],(e0,0))) (az s.1 m (ah kk)).1,(bR (aj o,(e0,0)) s.1.2,(s.2,())))):=by unfold vH;rw[if_neg (by show ¬(aL s.1.2 (aj o)).isSome=true;rw[Ys];simp)]
  have fin:FX G 156 B4 ((o,()),(aT s,()))=some (((vH (cr (b6 o,(bB [m,kk],(e0,0))) (az s.1 m (ah kk)).1,(s.1.2,(s.2,()))) (aj o)).1,()),((vH (cr (b6 o,(bB [m,kk],(e0,0))) (az s.1 m (ah kk)).1,(s.1.2,(s.2,()))) (aj o)).2,())):=by refine go _ _ (fun a ha=>?_);subst ha;refine aa (abU hG ((az s.1 m (ah kk)).1,(s.1.2,(s.2,()))) (b6 o,(bB [m,kk],(e0,0))) q1.s (by show(az s.1 m (ah kk)).1.length≤_;omega)) ?_;rw[abY hb];refine ag rfl ?_;exact aa (aaG hG (cr (b6 o,(bB [m,kk],(e0,0))) (az s.1 m (ah kk)).1,(s.1.2,(s.2,()))) (aj o) h.d.se (by show s.1.2.length≤_;omega)) rfl
  rw[hE]at fin;by_cases hb4:40≤s.1.2.length
  · rw[if_pos hb4]at fin ⊢
    exact⟨_,_,fin,rfl⟩
  · rw[if_neg hb4]at fin ⊢
    refine⟨_,_,fin,?_⟩;rw[OX,Nb];rfl
theorem alP(hG:HG G)(s:StateT)(o:aW)(h:dU s)(hs:Sv s.1.1) :
    ∃(e:Int) (w:bf),FX G 157 tn ((o,()),(aT s,()))=some ((e,()),(w,()))∧iy e w=fU s o:=by
  have bq:=h.d.ne;have Qv:=h.d.nv;have hgn:=h.n;have start:∀(e:Int) (w:bf),cm 157 tn Tryz.f157 (FX G) (LX G 157 tn Tryz.f157) ((o,()),(aT s,()))=some ((e,()),(w,()))→FX G 157 tn ((o,()),(aT s,()))=some ((e,()),(w,())):=fun e w a =>aB (hG _ _ rfl) a rfl;unfold fU
  cases hf:aN s.1.1 (au o) with
  |none =>
    refine⟨13,aT s,start _ _ ((aeg).trans ?_),?_⟩
    · refine aa (si hG (aT s) (au o) h.d.sv (by show s.1.1.length≤_;omega)) ?_
      exact aZ ((gW (l:=s.1.1) h.d.sv).trans (by rw[hf])) rfl
    · rw[show aO s.1 (au o)=none from hf];rfl
  |some v =>
  have hfs:(aN s.1.1 (au o)).isSome=true:=by rw[hf];rfl
  have hv:=dr hf;have LL:=gj hf;have pw:=dK h.d.sv hf;have aH:=(aa9.1 pw).1;have hgr:=h.d.rw;have go:∀(e:Int) (w:bf),(cond ((((List.length v.2.1):Nat):Int) != (2:Int)) (some (((14:Int),()),(aT s,()))) _=some ((e,()),(w,())))→FX G 157 tn ((o,()),(aT s,()))=some ((e,()),(w,())):=fun e w rest=>by refine start _ _ ((aeg).trans ?_);refine aa (si hG (aT s) (au o) h.d.sv (by show s.1.1.length≤_;omega)) ?_;refine aZ ((gW (l:=s.1.1) h.d.sv).trans hfs) (ag rfl ?_);refine af (dA (gr _) (bg aH)) (aa pw ?_);exact rest
  rw[show aO s.1 (au o)=some v from hf];by_cases yV:v.2.1.length=2
  case neg =>
    refine⟨14,aT s,go _ _ (af (by rw[bne_iff_ne];omega) rfl),?_⟩;show iy 14 (aT s)=(match v.2.1 with | [r0,r1]=>dG s o r0 r1|_=>(zS,(14,())))
    split
    · rename_i hr;rw[hr]at yV;exact absurd rfl yV
    · rfl
  obtain⟨r0,r1,hr⟩:∃r0 r1,v.2.1=[r0,r1]:=by
    match hq:v.2.1,yV with
    |[a,b],_=>exact⟨a,b,rfl⟩
  have Bo:(((List.length v.2.1:Nat):Int) != (2:Int))=false:=by rw[yV];rfl
  have g0:bh v.2.1 (0:Int)=some r0:=by rw[hr];rfl
  have g1:bh v.2.1 (1:Int)=some r1:=by rw[hr];rfl
  show ∃(e:Int) (w:bf),FX G 157 tn ((o,()),(aT s,()))=some ((e,()),(w,()))∧iy e w=(match v.2.1 with | [r0,r1]=>dG s o r0 r1|_=>(zS,(14,())));rw[hr];show ∃(e:Int) (w:bf),FX G 157 tn ((o,()),(aT s,()))=some ((e,()),(w,()))∧iy e w=dG s o r0 r1;unfold dG;by_cases N3:r0.1=r1.1
  · refine⟨14,aT s,go _ _ (ag Bo (aa g0 (aa g1 (af ((jl r0.1 r1.1).trans (decide_eq_true N3)) rfl)))),?_⟩
    rw[if_pos N3];rfl
  rw[if_neg N3];have b01:=(jl r0.1 r1.1).trans (decide_eq_false N3);have tail:∀a b:ae,v.2.1.Perm [a,b]→a.1≠b.1→((FX G 188 qp ((b,()),())).bind fun(y7:((ae×Unit)×Unit)) =>cond (kF s.1.1 ((bP s.1.1 (au o):Nat):Int) (IntKind.wrap .i64 (((bP s.1.1 (au o):Nat):Int)+(1:Int)))) ((FX G 185 nR (((y7.1.1.1,y7.1.1.2),()),(((eg s.1.1 ((bP s.1.1 (au o):Nat):Int) (IntKind.wrap .i64 (((bP s.1.1 (au o):Nat):Int)+(1:Int)))),(s.1.2,(s.2,()))),()))).bind fun(y8:(((Option ((Fin 1)×Nat))×Unit)×(bf×Unit))) =>sL y8.1.1 (none) fun(p9:((Fin 1)×Nat)) =>cond (p9.1.val==0) (((y8.2.1.1)[p9.2]?).bind fun(sd:ai) =>(FX G 187 vx ((sd.2.1,((y7.1.1.1,y7.1.1.2),(a,()))),())).bind fun(oG:(((List ae)×Unit)×Unit)) =>((y8.2.1.1)[p9.2]?).bind fun(sf:ai) =>(FX G 182 oW ((b.1,()),(((List.set y8.2.1.1 p9.2 (sf.1,(oG.1.1,sf.2.2))),(y8.2.1.2.1,y8.2.1.2.2)),()))).bind fun(mH:((Int×(Bool×Unit))×(bf×Unit))) =>cond (kF mH.2.1.2.1 mH.1.1 (IntKind.wrap .i64 (mH.1.1+(1:Int)))) (LX G 157 tn Tryz.f157 pK (aS Tryz.prog 157 0) (((0:Int),()),(((mH.2.1.1,((eg mH.2.1.2.1 mH.1.1 (IntKind.wrap .i64 (mH.1.1+(1:Int)))),mH.2.1.2.2)),((a,()),((b,()),(((y7.1.1.1,y7.1.1.2),()),())))),()))) (none)) (none)) (none))=some (((0:Int),()),(((Gq s o a b).1,((Gq s o a b).2,(Hk s.2 a b,()))),())):=by
    intro a b hp mI;obtain⟨p,q,h1,_,h2,_⟩:=mu h.d.sv hv;have pd:(aq s.1.1).Perm (a::b::aq (p++q)):=by have:=(gY p q v).trans (ac3 _ hp);rw[←h1]at this;exact this
    have PN:bE s.1.1 (au o)=p++q:=by rw[←LL];exact h2
    have N0:aF s.1 (au o) zI=(p++q,s.1.2):=by unfold aF;rw[PN,kx h.d.ge]
    have Ck:=pd.nodup_iff.1 hgr.n;have hbm:b∈ends s.1.2:=h.d.pd.mem_iff.1 (pd.mem_iff.2 (by simp));obtain⟨e,he,he1,zp⟩:=cO.1 hbm;have u4:(aL s.1.2 b.1).isSome=true:=by unfold aL;rw[List.find?_isSome];exact⟨e,he,by simpa using he1⟩
    obtain⟨_,ho⟩:=iJ zp;have RU:ah b∈aq (p++q):=by
      have h3:ah b∈aq s.1.1:=h.d.g9 (s:=(ah b).2) u4 (by rcases ho with⟨_,k⟩|⟨_,k⟩<;>omega);rcases abi.1 (pd.mem_iff.1 h3) with k|k
      · exact absurd (congrArg Prod.fst k) (fun k=>mI k.symm)
      rcases abi.1 k with k|k
      · have:=congrArg Prod.snd k;omega
      · exact k
    have Js:Rw (p++q):=⟨by rw[←h2];exact kX h.d.sv,(abv.1 (abv.1 Ck).2).2⟩;have bI:∀u∈p++q,u∈s.1.1:=fun u hu=>by
      rw[h1];rcases abG.1 hu with k|k
      · exact abn _ k
      · exact abj _ (aa6 _ k)
    have KG:Sv (p++q):=⟨by have:=hs.n;rw[h1]at this;simp at this ⊢;omega,fun u hu=>hs.r u (bI u hu)⟩;obtain⟨dk1,dk2⟩:=VY h.d.sv hfs (by omega);rw[PN]at dk2;obtain⟨k,u,hk,hxu,hu⟩:=tJ RU;have e1:(p++q).set k (u.1,(dJ u.2.1 (ah b) a,u.2.2))=(az (p++q,s.1.2) (ah b) a).1:=LS Js hk hxu _ s.1.2;have PJ:∀w∈(az (p++q,s.1.2) (ah b) a).1,GV w:=og (d:=(p++q,s.1.2)) (fun w hw=>h.d.gv w (bI w hw)) _ _;have eD:Gq s o a b=((az (p++q,s.1.2) (ah b) a).1,bF s.1.2 b.1):=by unfold Gq;rw[N0];unfold aF;rw[lE PJ];rfl
    have ga:=lh h.g h.n ((b.1,0),sB a b 0);rw[eD];refine aa (LQ (hG _ _ rfl) b zp) ?_;refine af dk1 ?_;have r1:∀l1:List ai,l1=p++q→((FX G 185 nR ((ah b,()),((l1,(s.1.2,(s.2,()))),()))).bind fun(y8:(((Option ((Fin 1)×Nat))×Unit)×(bf×Unit))) =>sL y8.1.1 (none) fun(p9:((Fin 1)×Nat)) =>cond (p9.1.val==0) (((y8.2.1.1)[p9.2]?).bind fun(sd:ai) =>(FX G 187 vx ((sd.2.1,(ah b,(a,()))),())).bind fun(oG:(((List ae)×Unit)×Unit)) =>((y8.2.1.1)[p9.2]?).bind fun(sf:ai) =>(FX G 182 oW ((b.1,()),(((List.set y8.2.1.1 p9.2 (sf.1,(oG.1.1,sf.2.2))),(y8.2.1.2.1,y8.2.1.2.2)),()))).bind fun(mH:((Int×(Bool×Unit))×(bf×Unit))) =>cond (kF mH.2.1.2.1 mH.1.1 (IntKind.wrap .i64 (mH.1.1+(1:Int)))) (LX G 157 tn Tryz.f157 pK (aS Tryz.prog 157 0) (((0:Int),()),(((mH.2.1.1,((eg mH.2.1.2.1 mH.1.1 (IntKind.wrap .i64 (mH.1.1+(1:Int)))),mH.2.1.2.2)),((a,()),((b,()),((ah b,()),())))),()))) (none)) (none))=some (((0:Int),()),(((az (p++q,s.1.2) (ah b) a).1,(bF s.1.2 b.1,(Hk s.2 a b,()))),())):=by
      intro l1 hl1;subst hl1;refine aa (HA hG (p++q,(s.1.2,(s.2,()))) (ah b) Js KG.n KG.r hk hxu) ?_;refine vG rfl (af rfl (aa hk ?_));refine aa (aaJ hG u.2.1 (ah b) a (KG.r u hu)) ?_;refine aa hk ?_;have r2:∀l2:List ai,l2=(az (p++q,s.1.2) (ah b) a).1→((FX G 182 oW ((b.1,()),((l2,(s.1.2,(s.2,()))),()))).bind fun(mH:((Int×(Bool×Unit))×(bf×Unit))) =>cond (kF mH.2.1.2.1 mH.1.1 (IntKind.wrap .i64 (mH.1.1+(1:Int)))) (LX G 157 tn Tryz.f157 pK (aS Tryz.prog 157 0) (((0:Int),()),(((mH.2.1.1,((eg mH.2.1.2.1 mH.1.1 (IntKind.wrap .i64 (mH.1.1+(1:Int)))),mH.2.1.2.2)),((a,()),((b,()),((ah b,()),())))),()))) (none))=some (((0:Int),()),(((az (p++q,s.1.2) (ah b) a).1,(bF s.1.2 b.1,(Hk s.2 a b,()))),())):=by
        intro l2 yV;subst yV;refine aa (qC hG ((az (p++q,s.1.2) (ah b) a).1,(s.1.2,(s.2,()))) b.1 h.d.se (by show s.1.2.length≤_;omega)) ?_;obtain⟨ek1,ek2⟩:=LR h.d.se u4 (by omega);refine af ek1 ?_;have r3:∀l3:List an,l3=bF s.1.2 b.1→(LX G 157 tn Tryz.f157 pK (aS Tryz.prog 157 0) (((0:Int),()),((((az (p++q,s.1.2) (ah b) a).1,(l3,(s.2,()))),((a,()),((b,()),((ah b,()),())))),())))=some (((0:Int),()),(((az (p++q,s.1.2) (ah b) a).1,(bF s.1.2 b.1,(Hk s.2 a b,()))),())):=by
          intro l3 hl3;subst hl3;have eb:b=(b.1,b.2):=rfl;have eo:ah b=(b.1,(ah b).2):=rfl;rcases ho with⟨I3,T3⟩|⟨JV,ho0⟩
          · rw[I3]at eb;rw[T3]at eo
            have t0:sB a b 0=zD:=by unfold sB;rw[if_neg (by rw[eo];simp)]
            have t1:sB a b 1=a:=by unfold sB;rw[if_pos eo.symm]
            rw[t0,←eb]at ga;have eG:Hk s.2 a b=bM (bM s.2 (b,zD)) (ah b,a):=by unfold Hk;rw[t0,t1,←eb,←eo]
            rw[eG];refine ax Ad ?_;refine af rfl (af (by show(b.2==(0:Int))=true;simp[I3]) ?_);refine aa (Hz hG ((az (p++q,s.1.2) (ah b) a).1,(bF s.1.2 b.1,(s.2,()))) b zD h.g (by show s.2.length≤_;omega)) ?_;refine ax Ad ?_;refine af rfl (ag (by show(b.2==(1:Int))=false;simp[I3]) ?_);refine aa (Hz hG ((az (p++q,s.1.2) (ah b) a).1,(bF s.1.2 b.1,(bM s.2 (b,zD),()))) (ah b) a ga.1 (by have:=ga.2;show(bM s.2 (b,zD)).length≤_;omega)) ?_;refine ax Ad ?_;exact ag rfl rfl
          · rw[JV]at eb;rw[ho0]at eo
            have t0:sB a b 0=a:=by unfold sB;rw[if_pos eo.symm]
            have t1:sB a b 1=zD:=by unfold sB;rw[if_neg (by rw[eo];simp)]
            rw[t0,←eo]at ga;have eG:Hk s.2 a b=bM (bM s.2 (ah b,a)) (b,zD):=by unfold Hk;rw[t0,t1,←eb,←eo]
            rw[eG];refine ax Ad ?_;refine af rfl (ag (by show(b.2==(0:Int))=false;simp[JV]) ?_);refine aa (Hz hG ((az (p++q,s.1.2) (ah b) a).1,(bF s.1.2 b.1,(s.2,()))) (ah b) a h.g (by show s.2.length≤_;omega)) ?_;refine ax Ad ?_;refine af rfl (af (by show(b.2==(1:Int))=true;simp[JV]) ?_);refine aa (Hz hG ((az (p++q,s.1.2) (ah b) a).1,(bF s.1.2 b.1,(bM s.2 (ah b,a),()))) b zD ga.1 (by have:=ga.2;show(bM s.2 (ah b,a)).length≤_;omega)) ?_;refine ax Ad ?_;exact ag rfl rfl
        exact r3 _ ek2
      exact r2 _ e1
    exact r1 _ dk2
  have bo:∀y:ae,((y.1.1==(aj o).1)&&(y.1.2==(aj o).2))=decide (y.1=aj o):=fun y=>jl y.1 (aj o);by_cases h0:r0.1=aj o
  · rw[if_pos h0]
    refine⟨0,((Gq s o r1 r0).1,((Gq s o r1 r0).2,(Hk s.2 r1 r0,()))),go _ _ (ag Bo (aa g0 (aa g1 (ag b01 (aa g0 (aa g1 (af ((bo r0).trans (decide_eq_true h0)) ?_))))))),rfl⟩;refine aZ ((bo r0).trans (decide_eq_true h0)) (ag rfl ?_);exact tail r1 r0 (by rw[hr];exact List.Perm.swap _ _ _) (fun k=>N3 k.symm)
  rw[if_neg h0];by_cases h1:r1.1=aj o
  · rw[if_pos h1]
    refine⟨0,((Gq s o r0 r1).1,((Gq s o r0 r1).2,(Hk s.2 r0 r1,()))),go _ _ (ag Bo (aa g0 (aa g1 (ag b01 (aa g0 (aa g1 (ag ((bo r0).trans (decide_eq_false h0)) ?_))))))),rfl⟩;refine aZ ((bo r1).trans (decide_eq_true h1)) (ag rfl ?_);exact tail r0 r1 (by rw[hr]) N3
  rw[if_neg h1];refine⟨14,aT s,go _ _ (ag Bo (aa g0 (aa g1 (ag b01 (aa g0 (aa g1 (ag ((bo r0).trans (decide_eq_false h0)) ?_))))))),rfl⟩;exact aZ ((bo r1).trans (decide_eq_false h1)) (af rfl rfl)
end Go.Vs
namespace Go.Vs
open Go.Proofs
theorem YN{row:List ae}{j m:Nat}(hj:j≤row.length)(hm:m≤row.length)(h0:0<row.length):kD (kD row j) m=kD row ((j+m)%row.length):=by
 apply adh;intro i;have hl:(kD row j).length=row.length:=dR _ _;have hp:=adr (j+m) h0;by_cases hi:i<row.length
 ·rw[mL (by omega) (by omega),hl,mL (by omega) (Nat.mod_lt _ h0),mL (Nat.le_of_lt hp) hi];congr 1;simp only[Nat.add_mod_mod,Nat.mod_add_mod,Nat.add_assoc]
 ·rw[List.getElem?_eq_none (by rw[dR,dR];omega),List.getElem?_eq_none (by rw[dR];omega)]
theorem Aw{row:List ae}(hn:row.Nodup){i j:Nat}{hi:i<row.length}{hj:j<row.length}(h:row[i]=row[j]):i=j:=by
 rcases Nat.lt_trichotomy i j with k|k|k
 ·exact absurd h (adv.1 hn i j hi hj k)
 ·exact k
 ·exact absurd h.symm (adv.1 hn j i hj hi k)
theorem ng{row:List ae}(hn:row.Nodup){i j:Nat}{x:ae}(hi:row[i]? = some x)(hj:row[j]? = some x):i=j:=by obtain⟨h1,h2⟩:=aa9.1 hi;obtain⟨h3,h4⟩:=aa9.1 hj;exact Aw hn (h2.trans h4.symm)
theorem oi{row:List ae}(hn:row.Nodup){j:Nat}(hj:j≤row.length):bB (kD row j)=bB row:=by
 by_cases h0:row.length=0
 ·have:row=[]:=by simpa using h0
  subst this;have:j=0:=by simpa using hj
  subst this;rfl
 have hp:0<row.length:=by omega
 have hl:(kD row j).length=row.length:=dR _ _;have hm:=lA row row 0 0 hp (by omega);have zB:=lA (kD row j) (kD row j) 0 0 (by omega) (by omega);have l1:=od hp;have l2:=od (row:=kD row j) (by omega);unfold bB;rw[YN hj (by omega) hp];generalize fP (kD row j) (kD row j) 0 0=m' at *;generalize fP row row 0 0=m at *;rw[hl]at zB;have hx:(kD row j)[m']? = row[(j+m')%row.length]? := mL hj zB;have hq:=adr (j+m') hp;rw[mO hm]at l1;rw[mO (by omega)]at l2;have e1:(kD row j)[m']'(by omega)=row[(j+m')%row.length]:=by rw[List.getElem?_eq_getElem (by omega),List.getElem?_eq_getElem hq]at hx;exact abZ hx
 rw[e1]at l2;have h1:=l1.1 _ hq;have h2:lz row[m] row[(j+m')%row.length]=false:=by have gI:row[m]∈kD row j:=CC.2 (acy hm);obtain⟨t,ht,he⟩:=adk gI;rw[←he];exact l2.1 t ht
 have heq:row[(j+m')%row.length]=row[m]:=Classical.byContradiction fun k=>by have:=uL h1 k;rw[h2]at this;cases this
 have:=Aw hn heq;rw[this]
theorem mb(row:List ae):∃j,j≤row.length∧bB row=kD row j:=by
 by_cases h0:row.length=0
 ·have:row=[]:=by simpa using h0
  subst this;exact⟨0,by simp,rfl⟩
 ·exact⟨fP row row 0 0,Nat.le_of_lt (lA row row 0 0 (by omega) (by omega)),rfl⟩
theorem YO{row:List ae}{j t k:Nat}(hj:j≤row.length)(ht:t<row.length)(hk:(j+t)%row.length=k)(x:ae):(kD row j).set t x=kD (row.set k x) j:=by
 have h0:0<row.length:=by omega
 have hl:(kD row j).length=row.length:=dR _ _;apply adh;intro i;by_cases hi:i<row.length
 ·rw[List.getElem?_set,hl,mL (row:=row.set k x) (by rw[List.length_set];exact hj) (by rw[List.length_set];exact hi),List.length_set,List.getElem?_set];have aH:=adr (j+i) h0;by_cases hit:t=i
  ·subst hit;rw[if_pos rfl,if_pos ht,if_pos hk.symm,if_pos (by rw[←hk];exact Nat.mod_lt _ h0)]
  ·rw[if_neg hit,if_neg,mL hj hi];intro Nb;apply hit;rw[←hk]at Nb;by_cases h1:j+t<row.length<;>by_cases h2:j+i<row.length
   ·rw[Nat.mod_eq_of_lt h1,Nat.mod_eq_of_lt h2]at Nb;omega
   ·rw[Nat.mod_eq_of_lt h1,Nat.mod_eq_sub_mod (by omega),Nat.mod_eq_of_lt (by omega)]at Nb;omega
   ·rw[Nat.mod_eq_of_lt h2,Nat.mod_eq_sub_mod (by omega),Nat.mod_eq_of_lt (by omega)]at Nb;omega
   ·rw[Nat.mod_eq_sub_mod (by omega),Nat.mod_eq_of_lt (by omega),Nat.mod_eq_sub_mod (by omega),Nat.mod_eq_of_lt (by omega)]at Nb;omega
 ·rw[List.getElem?_eq_none (by rw[List.length_set,dR];omega),List.getElem?_eq_none (by rw[dR,List.length_set];omega)]
theorem HB{row:List ae}(hn:row.Nodup){k:Nat}{m y:ae}(hk:row[k]? = some m)(hy:y∉row):(row.set k y).Nodup:=by
 obtain⟨h1,h2⟩:=aa9.1 hk;rw[List.set_eq_take_append_cons_drop,if_pos h1];have p:(row.take k++y::row.drop (k+1)).Perm (y::(row.take k++row.drop (k+1))):=adf;refine p.nodup_iff.2 (abv.2 ⟨fun h=>hy ?_,?_⟩)
 ·rcases abG.1 h with h|h
  ·exact adB h
  ·exact adn h
 ·refine List.Sublist.nodup ?_ hn
  conv=>rhs;rw[←List.take_append_drop k row]
  refine List.Sublist.append (List.Sublist.refl _) ?_;exact(List.drop_sublist_drop_left row (show k≤k+1 by omega))
theorem yz{row:List ae}(hn:row.Nodup){k:Nat}{x:ae}(hk:row[k]? = some x):idx x row 0=(k:Int):=by have:=NY (d:=x) (row:=row) (k:=k) (i:=0) hk (fun j hj he=>by have:=ng hn hk he;omega);omega
theorem RW{row:List ae}(hn:row.Nodup)(ht:bB row=row){m y:ae}(hm:m∈row)(hy:y∉row):dJ (dJ row m y) y m=row:=by
 obtain⟨k,hk⟩:=ade hm;have Qx:=(aa9.1 hk).1;have h0:0<row.length:=by omega
 have e1:dJ row m y=bB (row.set k y):=by unfold dJ;rw[if_pos ⟨hm,hy⟩,yz hn hk,Int.toNat_natCast]
 have hn2:=HB hn hk hy;have hl:(row.set k y).length=row.length:=List.length_set;obtain⟨j,hj,hr⟩:=mb (row.set k y);rw[e1,hr];have hn3:(kD (row.set k y) j).Nodup:=by
  have:(kD (row.set k y) j).Perm (row.set k y):=by unfold kD;exact adg.trans (List.Perm.of_eq (List.take_append_drop _ _))
  exact this.nodup_iff.2 hn2
 have hyk:(row.set k y)[k]? = some y:=by rw[List.getElem?_set,if_pos rfl,if_pos Qx]
 have hym:y∈kD (row.set k y) j:=CC.2 (acd hyk);have hmy:m≠y:=fun e=>hy (e▸hm);have OX:m∉kD (row.set k y) j:=fun h=>by
  have h:=CC.1 h;obtain⟨i,hi⟩:=ade h;rw[List.getElem?_set]at hi
  split at hi
  ·exact hmy (by simpa using hi.symm)
  ·rename_i bq;exact bq (ng hn hk hi)
 obtain⟨t,ht2⟩:=ade hym;have htl:=(aa9.1 ht2).1;rw[dR]at htl;unfold dJ;rw[if_pos ⟨hym,OX⟩,yz hn3 ht2,Int.toNat_natCast];have hjt:(j+t)%(row.set k y).length=k:=by rw[mL hj htl]at ht2;exact ng hn2 ht2 hyk
 rw[YO hj htl hjt,List.set_set];have e2:row.set k m=row:=LH hk;rw[e2];rw[oi hn (by omega),ht]
theorem E6(m k:ae):bB [m,k]=[m,k]∨bB [m,k]=[k,m]:=by
 have hm:=lA [m,k] [m,k] 0 0 (by simp) (by simp);have:fP [m,k] [m,k] 0 0=0∨fP [m,k] [m,k] 0 0=1:=by simp at hm;omega
 unfold bB;rcases this with h|h<;>rw[h]
 ·exact .inl rfl
 ·exact .inr rfl
end Go.Vs
namespace Go.Vs
open Go.Proofs
variable {G:(f:FuncId)→(g:aX)→Option (g.A→Option g.B)}
theorem Ax(l:List ai)(x:ID):l.any (fun w=>decide (w.1=x))=(aN l x).isSome:=by rw[Bool.eq_iff_iff,List.any_eq_true];unfold aN;rw[List.find?_isSome]
theorem Ay(l:List an)(x:ID):l.any (fun w=>decide (w.1=x))=(aL l x).isSome:=by rw[Bool.eq_iff_iff,List.any_eq_true];unfold aL;rw[List.find?_isSome]
theorem RX(s:StateT)(o:aW):iy (wM (aT s) o).1 (wM (aT s) o).2=qz s o:=by
 unfold wM qz Gp EO;rw[Ax,Ay];by_cases ho:cX o=true
 ·have hv:s.1.1.map (fJ o)=s.1.1:=by
   conv=>rhs;rw[←List.map_id s.1.1]
   exact acY fun u hu=>by unfold fJ;rw[if_neg (by rw[ho];simp)];rfl
  rw[if_pos ho,ho,hv];show iy (if(aL s.1.2 (au o)).isSome=true then _ else _:Int×bf).1 (if(aL s.1.2 (au o)).isSome=true then _ else _:Int×bf).2=_
  cases (aL s.1.2 (au o)).isSome<;>rfl
 ·have pz:cX o=false:=by simpa using ho
  have he:s.1.2.map (gL o)=s.1.2:=by
   conv=>rhs;rw[←List.map_id s.1.2]
   exact acY fun u hu=>by unfold gL;rw[if_neg (by rw[pz];simp)];rfl
  rw[if_neg ho,pz,he];show iy (if(aN s.1.1 (au o)).isSome=true then _ else _:Int×bf).1 (if(aN s.1.1 (au o)).isSome=true then _ else _:Int×bf).2=_
  cases (aN s.1.1 (au o)).isSome<;>rfl
theorem VZ(hG:HG G)(w:bf)(o:aW)(hk:7≤o.1)(hv:cd w.1)(he:dw w.2.1)(SS:w.1.length≤50000000)(hle:w.2.1.length≤50000000) :
  FX G 131 DX ((o,()),(w,()))=some (((wM w o).1,()),((wM w o).2,())):=by
 refine aB (hG _ _ rfl) NC ?_;have kn:∀k:Int,k<7→(o.1==k)=false:=fun k pH=>BG (by omega);refine ag (kn 1 (by omega)) (ag (kn 2 (by omega)) (ag (kn 3 (by omega)) (ag (kn 4 (by omega)) (ag (kn 5 (by omega)) (ag (kn 6 (by omega)) ?_)))));exact aa (alD hG w o hv he SS hle) rfl
def SW(x:ID)(e:Bool)(t:ByteArray):aW:=(7,(x,(zI,(zI,(zC,(zC,(e,(t,0))))))))
def RY(x:ID)(e:Bool)(n:Int):aW:=(8,(x,(zI,(zI,(zC,(zC,(e,(e0,n))))))))
theorem CG{x:ID}{e:Bool}{t:ByteArray}(hx:cz x=true)(ht:lY t=true):bm (SW x e t)=0:=by
 unfold bm;rw[if_neg (by simp[SW]),if_neg (by simp[SW]),if_neg (by simp[SW,hx]),if_neg,if_neg (by simp[SW]),if_neg (by simp[SW]),if_neg (by simp[SW]),if_neg (by simp[SW]),if_pos (show(SW x e t).1=7 from rfl)]
 ·exact if_pos ht
 intro h;have:sw (km (SW x e t)) FP=true:=(kq _ _).2 rfl;rw[this]at h;cases h
theorem CH{x:ID}{e:Bool}{n:Int}(hx:cz x=true)(ht:jZ n=true):bm (RY x e n)=0:=by
 unfold bm;rw[if_neg (by simp[RY]),if_neg (by simp[RY]),if_neg (by simp[RY,hx]),if_neg,if_neg (by simp[RY]),if_neg (by simp[RY]),if_neg (by simp[RY]),if_pos (show(RY x e n).1=8 from rfl)]
 ·exact if_pos ht
 intro h;have:sw (km (RY x e n)) FP=true:=(kq _ _).2 rfl;rw[this]at h;cases h
theorem RZ{t:ByteArray}(h:lY t=true):t.size≤16:=by unfold lY at h;simp only[Bool.and_eq_true,decide_eq_true_eq]at h;exact h.2
theorem YP{n:Int}(h:jZ n=true):ER n:=by unfold jZ at h;simp only[decide_eq_true_eq]at h;unfold ER;omega
theorem sD:ER 0:=by unfold ER;omega
theorem vI{l:List ai}(hs:cd l){v w:ai}(hv:v∈l)(hw:w∈l)(h:w.1=v.1):w=v:=by have h1:=eW hs hv;have h2:=eW hs hw;rw[h,h1]at h2;exact(abZ h2).symm
theorem yD{l:List an}{v:an}(hs:dw l)(h:v∈l):aL l v.1=some v:=by
 have hf:(aL l v.1).isSome=true:=by unfold aL;rw[List.find?_isSome];exact⟨v,h,by simp⟩
 obtain⟨u,hu⟩:=ab3.1 hf;have h1:=ma hs hu;obtain⟨k,hk,he⟩:=adk h;have h2:l[k]? = some v:=by rw[List.getElem?_eq_getElem hk,he]
 rw[Hm hs h2 rfl,h1]at h2;rw[hu];exact h2
theorem E7{α:Type}{l:List α}{f g:α→α}(h:∀w∈l,f (g w)=w):(l.map g).map f=l:=by
 rw[List.map_map]
 conv=>rhs;rw[←List.map_id l]
 exact acY fun w hw=>h w hw
theorem LU{o:aW}(h:cX o=true)(w:ai):fJ o w=w:=by unfold fJ;rw[if_neg (by rw[h];simp)]
theorem LV{o:aW}(h:cX o=false)(w:an):gL o w=w:=by unfold gL;rw[if_neg (by rw[h];simp)]
theorem R1{s:StateT}{o:aW}(h:(if cX o=true then(aL s.1.2 (au o)).isSome else(aN s.1.1 (au o)).isSome)=false):qz s o=(zS,(13,())):=by
 unfold qz Gp EO;rw[Ax,Ay]
 cases ho:cX o<;>rw[ho]at h<;>simp at h<;>rw[if_neg]<;>simp[h]
theorem wO{s:StateT}{o:aW}(h:(if cX o=true then(aL s.1.2 (au o)).isSome else(aN s.1.1 (au o)).isSome)=true):qz s o=(((s.1.1.map (fJ o),s.1.2.map (gL o)),s.2),(0,())):=by
 unfold qz Gp EO;rw[Ax,Ay]
 cases ho:cX o<;>rw[ho]at h<;>simp at h<;>rw[if_pos]<;>simp[h]
theorem CI{o:aW}{w:an}(h:cX o=true)(hx:w.1=au o):gL o w=if o.1=7 then(w.1,(gO o,w.2.2)) else(w.1,(w.2.1,oN o)):=if_pos ⟨h,hx⟩
theorem PO{o:aW}{w:an}(hx:w.1≠au o):gL o w=w:=if_neg fun k=>hx k.2
theorem CJ{o:aW}{w:ai}(h:cX o=false)(hx:w.1=au o):fJ o w=if o.1=7 then(w.1,(w.2.1,(gO o,w.2.2.2))) else(w.1,(w.2.1,(w.2.2.1,oN o))):=if_pos ⟨h,hx⟩
theorem PQ{o:aW}{w:ai}(hx:w.1≠au o):fJ o w=w:=if_neg fun k=>hx k.2
theorem V5{s:StateT}(h:dU s){o p:aW}(hi:au o=au p)(he:cX o=cX p)(hk:o.1=p.1) (hV:∀v,aN s.1.1 (au o)=some v→cX o=false→(o.1=7→gO p=v.2.2.1)∧(o.1≠7→oN p=v.2.2.2)) (hE:∀v,aL s.1.2 (au o)=some v→cX o=true→(o.1=7→gO p=v.2.1)∧(o.1≠7→oN p=v.2.2)) :
  (((s.1.1.map (fJ o)).map (fJ p),(s.1.2.map (gL o)).map (gL p)),s.2)=s:=by
 rw[E7 (l:=s.1.1),E7 (l:=s.1.2)]
 ·intro w hw
  cases ho:cX o with
  |false=>rw[LV ho,LV (he▸ho)]
  |true =>
   have XF:cX p=true:=by rw[←he];exact ho
   by_cases hx:w.1=au o
   ·have u4:aL s.1.2 (au o)=some w:=by rw[←hx];exact yD h.d.se hw
    obtain⟨h1,h2⟩:=hE w u4 ho;have XG:w.1=au p:=hx.trans hi;by_cases h7:o.1=7
    ·have h72:p.1=7:=hk▸h7;rw[CI ho hx,if_pos h7,CI (w:=(w.1,(gO o,w.2.2))) XF XG,if_pos h72,h1 h7]
    ·have h72:¬p.1=7:=hk▸h7;rw[CI ho hx,if_neg h7,CI (w:=(w.1,(w.2.1,oN o))) XF XG,if_neg h72,h2 h7]
   ·rw[PO hx,PO (fun k=>hx (k.trans hi.symm))]
 ·intro w hw
  cases ho:cX o with
  |true=>rw[LU ho,LU (he▸ho)]
  |false =>
   have XF:cX p=false:=by rw[←he];exact ho
   by_cases hx:w.1=au o
   ·have u4:aN s.1.1 (au o)=some w:=by rw[←hx];exact eW h.d.sv hw
    obtain⟨h1,h2⟩:=hV w u4 ho;have XG:w.1=au p:=hx.trans hi;by_cases h7:o.1=7
    ·have h72:p.1=7:=hk▸h7;rw[CJ ho hx,if_pos h7,CJ (w:=(w.1,(w.2.1,(gO o,w.2.2.2)))) XF XG,if_pos h72,h1 h7]
    ·have h72:¬p.1=7:=hk▸h7;rw[CJ ho hx,if_neg h7,CJ (w:=(w.1,(w.2.1,(w.2.2.1,oN o)))) XF XG,if_neg h72,h2 h7]
   ·rw[PQ hx,PQ (fun k=>hx (k.trans hi.symm))]
structure Lay(s t:StateT):Prop where
 v:cd t.1.1
 e:dw t.1.2
 sm:Sm t.1
 g:t.2.length≤50000000
theorem BH(l:List an):(ends l).length=2*l.length:=by
 induction l with
 |nil=>rfl
 |cons e r ih=>rw[k9];simp[ih];omega
theorem YQ{l:List ai}{v:ai}(h:v∈l):v.2.1.length≤(aq l).length:=by obtain⟨a,b,rfl⟩:=ac6 h;rw[qE,jJ];simp;omega
theorem Wf.wR{d:ak}(h:Wf d):∀v∈d.1,v.2.1.length≤80:=fun v hv=>by have h1:=YQ hv;have h2:=h.pd.length_eq;have h3:=h.ne;rw[BH]at h2;omega
theorem Wf.sm{d:ak}(h:Wf d):Sm d:=⟨by have:=h.nv;omega,by have:=h.ne;omega,fun v hv=>by have:=h.wR v hv;omega⟩
theorem Wf.small{d:ak}(h:Wf d):Sv d.1:=⟨by have:=h.nv;omega,fun v hv=>by have:=h.wR v hv;omega⟩
theorem R4(s:StateT)(o:aW):iy (sj (aT s) (au o,([],(e0,0)))).1 (sj (aT s) (au o,([],(e0,0)))).2=l8 s o:=by
 by_cases hh:(aN s.1.1 (au o)).isSome=true
 ·have a:sj (aT s) (au o,([],(e0,0)))=(12,aT s):=if_pos hh;have b:l8 s o=(zS,(12,())):=if_pos hh;rw[a,b];rfl
 by_cases h:24≤s.1.1.length
 ·have a:sj (aT s) (au o,([],(e0,0)))=(3,aT s):=(if_neg hh).trans (if_pos h);have b:l8 s o=(zS,(3,())):=(if_neg hh).trans (if_pos h);rw[a,b];rfl
 ·have a:sj (aT s) (au o,([],(e0,0)))=(0,(cr (au o,([],(e0,0))) (aT s).1,(aT s).2)):=(if_neg hh).trans (if_neg h);have b:l8 s o=(((cr (au o,([],(e0,0))) s.1.1,s.1.2),s.2),(0,())):=(if_neg hh).trans (if_neg h);rw[a,b];rfl
theorem R5{s:StateT}(h:dU s)(o:aW):iy (Hl (aT s) (au o)).1 (Hl (aT s) (au o)).2=qA s o:=by
 unfold Hl qA aO;show iy (match aN s.1.1 (au o) with|none=>(13,aT s)|some v=>if 0<v.2.1.length then(14,aT s) else(0,(bE s.1.1 (au o),(s.1.2,(s.2,())))):Int×bf).1 (match aN s.1.1 (au o) with|none=>(13,aT s)|some v=>if 0<v.2.1.length then(14,aT s) else(0,(bE s.1.1 (au o),(s.1.2,(s.2,())))):Int×bf).2=_
 cases aN s.1.1 (au o) with
 |none=>rfl
 |some v =>
  simp only;by_cases hl:0<v.2.1.length
  ·rw[if_pos hl,if_pos hl];rfl
  ·rw[if_neg hl,if_neg hl];unfold aF;rw[kx h.d.ge];rfl
def PR(s:StateT)(o:aW):StateT×(Int×Unit) :=if o.1=1 then l8 s o else if o.1=2 then qA s o else if o.1=3 then kJ s o else if o.1=4 then wK s o else if o.1=5 then iS s o else if o.1=6 then fU s o else qz s o
theorem HC(s:StateT)(o:aW):bZ s o=if bm o≠0 then(zS,(bm o,())) else PR s o:=rfl
theorem LW(hG:HG G)(s:StateT)(o:aW)(h:dU s)(hm:bm o=0)(h3:o.1=3→∃(e:Int) (w:bf),FX G 154 qn ((o,()),(aT s,()))=some ((e,()),(w,()))∧iy e w=kJ s o) :
  ∃(e:Int) (w:bf),FX G 131 DX ((o,()),(aT s,()))=some ((e,()),(w,()))∧iy e w=PR s o:=by
 have hk:=ky hm;have V6:=h.d.small;have Qv:=h.d.nv;have bq:=h.d.ne;have start:∀(e:Int) (w:bf),cm 131 DX Tryz.f131 (FX G) (LX G 131 DX Tryz.f131) ((o,()),(aT s,()))=some ((e,()),(w,()))→FX G 131 DX ((o,()),(aT s,()))=some ((e,()),(w,())):=fun e w a =>aB (hG _ _ rfl) a rfl;unfold PR;by_cases h1:o.1=1
 ·rw[if_pos h1];refine⟨_,_,start _ _ ((NC).trans (af (JY h1) (aa (abU hG (aT s) (au o,([],(e0,0))) h.d.sv V6.n) rfl))),?_⟩;exact R4 s o
 rw[if_neg h1];by_cases h2:o.1=2
 ·rw[if_pos h2];refine⟨_,_,start _ _ ((NC).trans (ag (BG h1) (af (JY h2) (aa (alw hG (aT s) o h.d.sv V6.n) rfl)))),?_⟩;exact R5 h o
 rw[if_neg h2];by_cases SU:o.1=3
 ·rw[if_pos SU];obtain⟨e,w,a,b⟩:=h3 SU;exact⟨e,w,start _ _ ((NC).trans (ag (BG h1) (ag (BG h2) (af (JY SU) (aa a rfl))))),b⟩
 rw[if_neg SU];by_cases hk4:o.1=4
 ·rw[if_pos hk4];obtain⟨e,w,a,b⟩:=alG hG s o h V6;exact⟨e,w,start _ _ ((NC).trans (ag (BG h1) (ag (BG h2) (ag (BG SU) (af (JY hk4) (aa a rfl)))))),b⟩
 rw[if_neg hk4];by_cases YM:o.1=5
 ·rw[if_pos YM];obtain⟨e,w,a,b⟩:=alJ hG s o h V6 hm YM;exact⟨e,w,start _ _ ((NC).trans (ag (BG h1) (ag (BG h2) (ag (BG SU) (ag (BG hk4) (af (JY YM) (aa a rfl))))))),b⟩
 rw[if_neg YM];by_cases hk6:o.1=6
 ·rw[if_pos hk6];obtain⟨e,w,a,b⟩:=alP hG s o h V6;exact⟨e,w,start _ _ ((NC).trans (ag (BG h1) (ag (BG h2) (ag (BG SU) (ag (BG hk4) (ag (BG YM) (af (JY hk6) (aa a rfl)))))))),b⟩
 rw[if_neg hk6];refine⟨_,_,VZ hG (aT s) o (by omega) h.d.sv h.d.se V6.n (by show s.1.2.length≤_;omega),?_⟩;exact RX s o
theorem E8(hG:HG G)(s:StateT)(o:aW)(h:dU s)(hf:Fit o)(h3:bm o=0→o.1=3→∃(e:Int) (w:bf),FX G 154 qn ((o,()),(aT s,()))=some ((e,()),(w,()))∧iy e w=kJ s o) :
  FX G 73 KP ((s,o,()),())=some (bZ s o,()):=by
 rw[HC];have hn:=h.n;by_cases hm:bm o=0
 ·obtain⟨e,w,a,b⟩:=LW hG s o h hm (h3 hm);refine(YI hG s o (abV hG o hf) h.d.sm (by omega) (fun _=>a)).trans ?_;rw[hm,if_neg (by simp),b];rfl
 ·rw[if_pos hm];refine aB (hG _ _ rfl) aed ?_;refine aa (abV hG o hf) ?_;exact af (by simpa using hm) rfl
def pQ(G:(f:FuncId)→(g:aX)→Option (g.A→Option g.B))(o:aW):Prop:=∀s,dU s→bm o=0→o.1=3→∃(e:Int) (w:bf),FX G 154 qn ((o,()),(aT s,()))=some ((e,()),(w,()))∧iy e w=kJ s o
theorem V7{s:StateT}{o:aW}(hm:bm o=0):PR s o=bZ s o:=by rw[HC,if_neg (by simp[hm])]
theorem alU(hG:HG G)(l:List aW)(hl:l.length≤1073741824)(hm:∀o∈l,bm o=0)(h3:∀o∈l,pQ G o):∀(n i:Nat) (s:StateT),i+n=l.length→dU s → LX G 103 Gg Tryz.f103 Em (aS Tryz.prog 103 0) ((l,(((l.length:Nat):Int),((i:Int),()))),((zW,(aT s,())),()))=some (lC (l.drop i) s,()):=by
 intro n
 induction n with
 |zero =>intro i s hi hw;refine ax IV ?_;refine ag (decide_eq_false (show ¬((i:Int)<((l.length:Nat):Int)) by omega)) ?_;rw[List.drop_eq_nil_of_le (by omega)];rfl
 |succ n ih =>
  intro i s hi hw;have aH:i<l.length:=by omega
  have ho:=hm l[i] (acy aH);obtain⟨e,w,h1,h2⟩:=LW hG s l[i] hw ho (h3 _ (acy aH) s hw ho);rw[V7 ho]at h2;refine ax IV ?_;refine af (bg aH) (aa (aC (abb aH)) ?_);refine aa h1 ?_;rw[List.drop_eq_getElem_cons aH,lC];have s6:=hw.one l[i];by_cases he:e=0
  ·have e1:iy e w=(CE w,(0,())):=if_neg (by simp[he]);rw[e1]at h2;rw[←h2]at s6 ⊢;rw[if_neg (by simp)];refine ag (show(e != 0)=false by simp[he]) ?_;have:=ih (i+1) (CE w) (by omega) s6;rw[←aK aH hl]at this;exact this
  ·have e1:iy e w=(zS,(e,())):=if_pos he;rw[e1]at h2;rw[←h2,if_pos he];exact af (show(e != 0)=true by simp[he]) rfl
theorem ab0(hG:HG G)(s:StateT)(l:List aW)(hw:dU s)(hl:l.length≤1073741824)(hm:∀o∈l,bm o=0)(h3:∀o∈l,pQ G o):FX G 103 Gg ((s,l,()),())=some (lC l s,()):=by have hn:=hw.n;refine aB (hG _ _ rfl) aee ?_;refine aa (abT hG s.1 hw.d.sm) ?_;refine aa (YH (hG _ _ rfl) s.2 (by omega)) ?_;have:=alU hG l hl hm h3 l.length 0 s (by omega) hw;rw[List.drop_zero]at this;exact this
theorem LY(l:List aW)(h:lZ l=0):∀o∈l,bm o=0:=by
 induction l with
 |nil=>intro o ho;simp at ho
 |cons o r ih =>
  rw[lZ]at h;by_cases ho:bm o=0
  ·rw[if_neg (fun k=>k ho)]at h;intro p hp;rcases abi.1 hp with e|hp
   ·rw[e];exact ho
   ·exact ih h p hp
  ·rw[if_pos ho]at h;exact absurd h ho
theorem N4{l:List aW}(h:fC l=0):∀o∈l,bm o=0:=by
 unfold fC at h
 split at h
 ·exact LY l h
 ·cases h
theorem alV(hG:HG G)(s:StateT)(l:List aW)(hw:dU s)(hl:l.length≤1073741824)(hf:∀o∈l,Fit o)(h3:∀o∈l,pQ G o):FX G 63 Uc ((s,l,()),())=some (cS s l,()):=by
 refine aB (hG _ _ rfl) ajH ?_;refine aa (alC hG l hl hf) ?_;unfold cS;by_cases hm:fC l=0
 ·rw[if_neg (by simp[hm])];refine ag (show(fC l != 0)=false by simp[hm]) ?_;exact aa (ab0 hG s l hw hl (N4 hm) h3) rfl
 ·rw[if_pos hm];exact af (show(fC l != 0)=true by simp[hm]) rfl
end Go.Vs
