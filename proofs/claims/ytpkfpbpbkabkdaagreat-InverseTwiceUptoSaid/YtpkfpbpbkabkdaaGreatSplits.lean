/- Edges cut and split -/
import Derived.Test.YtpkfpbpbkabkdaaGreatFormed
import Derived.Test.YtpkfpbpbkabkdaaGreatTop
set_option linter.unusedVariables false
set_option linter.unusedSimpArgs false
namespace Go.Vs
open Go.Proofs
variable {G:(f:FuncId)→(g:aX)→Option (g.A→Option g.B)}
theorem aaT(hG:HG G)(v:aE)(x:ae):FX G 232 Hi ((v,x,()),())=some ((oc v.1 x,()),()):=by refine aB (hG _ _ rfl) ae2 ?_;exact aa (aaP hG v.1 x) rfl
def eu(l:List aE)(x:ae):Nat:=l.countP fun v=>lA v.1 x
theorem Jx(l:List aE)(x:ae):eu l x≤l.length:=adu
theorem Ay{l:List aE}{x:ae}(h:∀v∈l,lA v.1 x=false):eu l x=0:=by unfold eu;rw[List.countP_eq_zero];intro v hv;simp[h v hv]
theorem HD{x:ae}:∀{l:List aE},jS l→∀(k:Nat) (v:aE),l[k]? = some v→(lA v.1 x=true↔k<eu l x)
 |[],_,k,v,h=>by simp at h
 |w::r,hs,k,v,h=>by
  have hw:∀{u:aE},u∈r→lA w.1 u.1=true:=fun {u} hu=>acF hs hu;have hr:jS r:=hs.of_cons;by_cases aG:lA w.1 x=true
  ·have e:eu (w::r) x=eu r x+1:=by unfold eu;rw[List.countP_cons_of_pos (by simpa using aG)]
   cases k with
   |zero=>simp at h;subst h;simp[aG,e]
   |succ k=>have:=HD (x:=x) hr k v (by simpa using h);rw[this,e];omega
  ·have hn:∀u∈w::r,lA u.1 x=false:=fun u hu=>by
    rcases abd.1 hu with rfl|hu
    ·simpa using aG
    ·rw[Bool.eq_false_iff];intro h2;exact aG (gX (hw hu) h2)
   rw[Ay hn,hn v (List.mem_of_getElem? h)];simp
theorem V9(hG:HG G)(l:List aE)(x:ae)(hs:jS l)(hl:l.length≤50000000):∀(n i j:Nat),j-i≤n→i≤eu l x→eu l x≤j→j≤l.length → LX G 233231 kj Tryz.f231 jI (aS Tryz.prog 231 0) ((l,(((l.length:Nat):Int),((i:Int),((j:Int),())))),(((x,()),()),()))=some (((((eu l x:Nat):Int),(decide ((l[eu l x]?).map (·.1)=some x),())):Int×(Bool×Unit)),()):=by
 have uf:=Jx l x;have fin:∀(i j:Nat),¬(i<j)→i≤eu l x→eu l x≤j→LX G 233231 kj Tryz.f231 jI (aS Tryz.prog 231 0) ((l,(((l.length:Nat):Int),((i:Int),((j:Int),())))),(((x,()),()),()))=some (((((eu l x:Nat):Int),(decide ((l[eu l x]?).map (·.1)=some x),())):Int×(Bool×Unit)),()):=fun i j Ck h1 h2=>by
  have hi:i=eu l x:=by omega
  subst hi;refine aw EI ?_;refine ag (decide_eq_false (show ¬(((eu l x:Nat):Int)<(j:Int)) by omega)) ?_;by_cases hc:eu l x<l.length
  ·have hx:l[eu l x]? = some l[eu l x]:=aa4 hc;refine af (ba hc) ?_;refine aa (aC hx) ?_;refine aa (aaT hG l[eu l x] x) ?_;refine congrArg (fun b:Bool=>some ((((eu l x:Nat):Int),(b,())),())) ?_;rw[hx];unfold oc;by_cases he:l[eu l x].1=x
   ·simp[he]
   ·simp[he];split<;>simp
  ·refine ag (decide_eq_false (show ¬(((eu l x:Nat):Int)<((l.length:Nat):Int)) by omega)) ?_;refine congrArg (fun b:Bool=>some ((((eu l x:Nat):Int),(b,())),())) ?_;rw[List.getElem?_eq_none (by omega)];simp
 intro n
 induction n with
 |zero=>intro i j Ck h1 h2 h3;exact fin i j (by omega) h1 h2
 |succ n ih =>
  intro i j Ck h1 h2 h3;by_cases aG:i<j
  case neg=>exact fin i j aG h1 h2
  refine aw EI ?_;refine af (decide_eq_true (show((i:Int)<(j:Int)) by omega)) ?_;refine ag rfl ?_;have hm:=N1 (i:=i) (j:=j) (by omega) (by omega);have hh:(i+j) / 2<l.length:=by omega
  have hx:l[(i+j) / 2]? = some l[(i+j) / 2]:=aa4 hh;have qm:=HD (x:=x) hs ((i+j) / 2) _ hx;refine aa (show bh l (IntKind.wrap .i64 (mD .u64 (IntKind.wrap .u64 (IntKind.wrap .i64 ((i:Int)+(j:Int)))) (1:Int)))=some l[(i+j) / 2] by rw[hm];exact aC hx) ?_;refine aa (aaT hG l[(i+j) / 2] x) ?_;by_cases ho:lA l[(i+j) / 2].1 x=true
  ·refine af (decide_eq_true ((uN _ _).2 ho)) ?_;have hc:=qm.1 ho;have hw:IntKind.wrap .i64 (IntKind.wrap .i64 (mD .u64 (IntKind.wrap .u64 (IntKind.wrap .i64 ((i:Int)+(j:Int)))) (1:Int))+1)=(((i+j) / 2+1:Nat):Int):=by rw[hm];exact aI hh (by omega)
   have:=ih ((i+j) / 2+1) j (by omega) (by omega) h2 h3;rw[←hw]at this;exact this
  ·refine ag (decide_eq_false (fun h=>ho ((uN _ _).1 h))) ?_;have hc:¬(i+j) / 2<eu l x:=fun h=>ho (qm.2 h);have:=ih i ((i+j) / 2) (by omega) h1 (by omega) (by omega);rw[←hm]at this;exact this
theorem Wa(hG:HG G)(l:List aE)(x:ae)(hs:jS l)(hl:l.length≤50000000) :
  FX G 233231 kj ((l,x,()),())=some (((((eu l x:Nat):Int),(decide ((l[eu l x]?).map (·.1)=some x),())):Int×(Bool×Unit)),()):=by
 refine aB (hG _ _ rfl) Vo ?_;exact V9 hG l x hs hl l.length 0 l.length (by omega) (by omega) (Jx l x) (ack _)
theorem LU(g:aE):∀{l:List aE},jS l→mM g l=if(l[eu l g.1]?).map (·.1)=some g.1 then l.set (eu l g.1) g else l.take (eu l g.1)++(g::l.drop (eu l g.1))
 |[],_=>rfl
 |w::r,hs=>by
  have hw:∀{u:aE},u∈r→lA w.1 u.1=true:=fun {u} hu=>acF hs hu;have hr:jS r:=adI hs;by_cases aG:lA w.1 g.1=true
  ·have e:eu (w::r) g.1=eu r g.1+1:=by unfold eu;rw[List.countP_cons_of_pos (by simpa using aG)]
   have bq:w.1≠g.1:=fun k=>by rw[k,eV]at aG;cases aG
   have su:¬oc g.1 w.1≤0:=fun k=>by
    rcases rN.1 k with k|k
    ·exact bq k.symm
    ·have:=gX aG k;rw[eV]at this;cases this
   have ih:=LU g hr;rw[e,mM,if_neg su,if_pos bq,ih];simp only[List.getElem?_cons_succ,List.set_cons_succ,List.take_succ_cons,List.drop_succ_cons,List.cons_append]
   split<;>rfl
  ·have hn:∀u∈w::r,lA u.1 g.1=false:=fun u hu=>by
    rcases abd.1 hu with rfl|hu
    ·simpa using aG
    ·rw[Bool.eq_false_iff];intro h2;exact aG (gX (hw hu) h2)
   rw[Ay hn];by_cases he:w.1=g.1
   ·have ab4:oc g.1 w.1≤0:=rN.2 (.inl he.symm);have h1:pP g (w::r)=r:=by
     have:pP g (w::r)=pP g r:=by unfold pP;rw[List.filter_cons_of_neg (by simp[he])]
     rw[this];exact uR (fun q hq k=>by have:=hw hq;rw[k,he,eV]at this;cases this)
    rw[mM,if_pos ab4,h1,if_pos (by simp[he])];rfl
   ·have MT:lA g.1 w.1=true:=uM (by simpa using aG) he;have ab4:oc g.1 w.1≤0:=rN.2 (.inr MT);have h1:pP g (w::r)=w::r:=uR (fun q hq k=>by
     rcases abd.1 hq with rfl|hq
     ·exact he k
     ·have:=gX MT (hw hq);rw[k,eV]at this;cases this)
    rw[mM,if_pos ab4,h1,if_neg (by simp[he])];rfl
theorem HE{x:ae}:∀{l:List aE},jS l→(iw l x).isSome=decide ((l[eu l x]?).map (·.1)=some x)
 |[],_=>rfl
 |w::r,hs=>by
  have hw:∀{u:aE},u∈r→lA w.1 u.1=true:=fun {u} hu=>acF hs hu;have hr:jS r:=adI hs;rw[rO];by_cases aG:lA w.1 x=true
  ·have e:eu (w::r) x=eu r x+1:=by unfold eu;rw[List.countP_cons_of_pos (by simpa using aG)]
   have bq:w.1≠x:=fun k=>by rw[k,eV]at aG;cases aG
   rw[e,if_neg bq,HE hr,List.getElem?_cons_succ]
  ·have hn:∀u∈w::r,lA u.1 x=false:=fun u hu=>by
    rcases abd.1 hu with rfl|hu
    ·simpa using aG
    ·rw[Bool.eq_false_iff];intro h2;exact aG (gX (hw hu) h2)
   rw[Ay hn];by_cases he:w.1=x
   ·simp[he]
   ·have MT:lA x w.1=true:=uM (by simpa using aG) he;have:iw r x=none:=by
     unfold iw;have:(List.find? (fun q=>decide (q.1=x)) r)=none:=by
      rw[List.find?_eq_none];intro q hq k;have k:q.1=x:=by simpa using k
      have:=gX MT (hw hq);rw[k,eV]at this;cases this
     rw[this];rfl
    rw[if_neg he,this];simp[he]
theorem agf(hG:HG G)(l:List aE)(g:aE)(hs:jS l)(hl:l.length≤50000000):FX G 215 Lb ((l,g,()),())=some ((bN l g,()),()):=by
 refine aB (hG _ _ rfl) aeS ?_;refine aa (Wa hG l g.1 hs hl) ?_;refine aa (YQ (hG _ _ rfl) l hl) ?_;unfold bN;rw[HE hs,LU g hs];have hc:eu l g.1≤l.length:=Jx l g.1;by_cases h:(l[eu l g.1]?).map (·.1)=some g.1
 ·rw[decide_eq_true h,if_neg (fun k=>by cases k.1),if_pos h];refine af rfl ?_;obtain⟨u,hu,_⟩:∃u,l[eu l g.1]? = some u∧u.1=g.1:=by
   cases hq:l[eu l g.1]? with
   |none=>rw[hq]at h;cases h
   |some u=>rw[hq]at h;exact⟨u,rfl,by simpa using h⟩
  have aG:=(aa2.1 hu).1;refine af (dp (gr _) (ba aG)) ?_;exact aa hu rfl
 ·rw[decide_eq_false h,if_neg h];refine ag rfl ?_;by_cases h4:400≤l.length
  ·rw[if_pos ⟨rfl,h4⟩];exact ag (decide_eq_false (show ¬((l.length:Nat):Int)<400 by omega)) rfl
  ·rw[if_neg (fun k=>h4 k.2)];refine af (decide_eq_true (show((l.length:Nat):Int)<400 by omega)) ?_;have nE:sO l ((eu l g.1:Nat):Int) [g]=true:=by unfold sO;rw[decide_eq_true (show(0:Int)≤((eu l g.1:Nat):Int) by omega),decide_eq_true (show((eu l g.1:Nat):Int)≤((l.length:Nat):Int) by omega)];rw[fits (by simp;omega)];rfl
   refine af nE ?_;have e:ij l ((eu l g.1:Nat):Int) [g]=l.take (eu l g.1)++(g::l.drop (eu l g.1)):=by unfold ij;simp
   exact congrArg (fun r:List aE=>some ((r,()),())) e
theorem HF(hG:HG G)(w:bg)(x to:ae)(hs:jS w.2.2.1)(hl:w.2.2.1.length≤50000000):FX G 183 D8 ((x,to,()),(w,()))=some ((),((w.1,(w.2.1,(bN w.2.2.1 (x,to),()))),())):=by refine aB (hG _ _ rfl) aeB ?_;exact aa (agf hG w.2.2.1 (x,to) hs hl) rfl
theorem HH(hG:HG G)(w:bg)(x:ae)(hw:Rw w.1)(hl:w.1.length≤50000000)(hr:∀v∈w.1,v.2.1.length≤50000000){k:Nat}{v:ai}(hk:w.1[k]? = some v)(hx:x∈v.2.1) :
  FX G 185 nS ((x,()),(w,()))=some (((some ((⟨0,by decide⟩:Fin 1),k)),()),(w,())):=by
 refine aB (hG _ _ rfl) aeD ?_;have QJ:=(aa2.1 hk).1;have loop:∀(n i:Nat),i+n=k→LX G 185 nS Tryz.f185 xZ (aS Tryz.prog 185 0) ((((w.1.length:Nat):Int),((i:Int),())),((w,((x,()),())),()))=some (((some ((⟨0,by decide⟩:Fin 1),k)),()),(w,())):=by
  intro n
  induction n with
  |zero =>
   intro i hi;have hi:i=k:=by omega
   subst hi;refine aw Pp ?_;refine af (ba QJ) (af (dp (gr _) (ba QJ)) (aa hk ?_));refine aa (Hv hG v.2.1 x (by have:=hr v (ab6 hk);omega)) ?_;exact af (decide_eq_true hx) rfl
  |succ n ih =>
   intro i hi;have pM:i<w.1.length:=by omega
   have hu:w.1[i]? = some w.1[i]:=aa4 pM;have G6:x∉w.1[i].2.1:=fun hxi=>by have h1:w.1[i]=v:=hw.one (ab6 hk) (acm pM) hx hxi;have h2:=kZ hw.s hk rfl;have h3:=kZ hw.s (x:=v.1) hu (by rw[h1]);omega
   refine aw Pp ?_;refine af (ba pM) (af (dp (gr _) (ba pM)) (aa hu ?_));refine aa (Hv hG w.1[i].2.1 x (by have:=hr _ (acm pM);omega)) ?_;refine ag (decide_eq_false G6) ?_;have:=ih (i+1) (by omega);rw[←aI pM (by omega)]at this;exact this
 exact loop k 0 (by omega)
theorem N8{l:List ai}{k:Nat}{v:ai}(hs:cd l)(hk:l[k]? = some v)(r:List ae):l.set k (v.1,(r,v.2.2))=l.map (iM v.1 r):=by
 have h:=eW hs (ab6 hk);rw[kZ hs hk rfl];refine(LN hs h (iM v.1 r) (fun u=>(u.1,(r,u.2.2))) (fun u hu=>?_) (fun u hu=>?_)).symm
 ·unfold iM;rw[if_pos hu]
 ·unfold iM;rw[if_neg hu]
theorem tL{l:List ai}{x:ae}(h:x∈aq l):∃(k:Nat) (v:ai),l[k]? = some v∧x∈v.2.1∧v∈l:=by obtain⟨v,hv,hx⟩:=aM.1 h;obtain⟨k,hk,he⟩:=ado hv;exact⟨k,v,by rw[List.getElem?_eq_getElem hk,he],hx,hv⟩
structure Sv(l:List ai):Prop where
 n:l.length≤50000000
 r:∀v∈l,v.2.1.length≤50000000
theorem Wb{n:Int}(h:n=0∨n=1):dv .xor .i64 n 1=IntKind.wrap .i64 (1-n):=by rcases h with rfl|rfl<;>decide
theorem LV(hG:G 188 qu=none)(x:ae)(h:x.2=0∨x.2=1):FX G 188 qu ((x,()),())=some ((ah x,()),()):=by refine aB hG aeG ?_;exact congrArg (fun n:Int=>some ((((x.1,n):ae),()),())) (Wb h)
theorem Sa{d:ak}(h:Rw d.1){v:ai}{x:ae}(hv:v∈d.1)(hx:x∈v.2.1):dA d x=if(cC v.2.1 x).1=x.1 then(if(cC v.2.1 (cC v.2.1 x)).1=x.1 then zD else cC v.2.1 (cC v.2.1 x)) else cC v.2.1 x:=by
 unfold dA;have e:aV d ((bJ d x).getD zI)=v.2.1:=by unfold bJ;rw[dq h hv hx];exact gk h.s hv
 simp only[e];by_cases h1:(cC v.2.1 x).1=x.1
 ·simp only[if_pos h1]
 ·simp only[if_neg h1]
theorem aaU(hG:HG G)(w:bg)(x:ae)(hw:Rw w.1)(hs:Sv w.1)(hx:x∈aq w.1)(e:List an):FX G 184 D9 ((x,()),(w,()))=some ((dA (w.1,e) x,()),(w,())):=by
 obtain⟨k,v,hk,j6,hv⟩:=tL hx;have SZ:=hs.r v hv;refine aB (hG _ _ rfl) aeC ?_;rw[Sa (d:=(w.1,e)) hw hv j6];have prev:∀y:ae,FX G 140 Ec ((v.2.1,y,()),())=some (((cC v.2.1 y),((BG (cT v.2.1 y (v.2.1.length-1))).2)),()):=fun y=>by refine(aaS hG v.2.1 y (by omega)).trans ?_;have:(BG (cT v.2.1 y (v.2.1.length-1))).1=cC v.2.1 y:=yD _;rw[←this]
 have cH:∀y:ae,((y.1.1==x.1.1)&&(y.1.2==x.1.2))=decide (y.1=x.1):=fun y=>jl y.1 x.1;refine aw I2 ?_;refine af rfl (aa (HH hG w x hw hs.n hs.r hk j6) ?_);refine vH rfl (af rfl (aa hk ?_));refine aa (prev x) ?_;by_cases h1:(cC v.2.1 x).1=x.1
 ·rw[if_pos h1];refine aZ ((cH _).trans (decide_eq_true h1)) ?_;refine aw I2 ?_;refine af rfl (aa (HH hG w x hw hs.n hs.r hk j6) ?_);refine vH rfl (af rfl (aa hk ?_));refine aa (prev (cC v.2.1 x)) ?_;by_cases h2:(cC v.2.1 (cC v.2.1 x)).1=x.1
  ·rw[if_pos h2];refine aZ ((cH _).trans (decide_eq_true h2)) ?_;refine aw I2 ?_;exact ag rfl rfl
  ·rw[if_neg h2];exact aZ ((cH _).trans (decide_eq_false h2)) rfl
 ·rw[if_neg h1];exact aZ ((cH _).trans (decide_eq_false h1)) rfl
theorem LW{l:List an}{x:ID}(hs:dx l)(h:(aL l x).isSome=true)(hl:l.length≤50000000) :
  kG l ((cE l x:Nat):Int) (IntKind.wrap .i64 (((cE l x:Nat):Int)+1))=true∧eg l ((cE l x:Nat):Int) (IntKind.wrap .i64 (((cE l x:Nat):Int)+1))=bF l x:=by
 obtain⟨e,he⟩:=abC.1 h;have aG:=(aa2.1 (ma hs he)).1;have hw:IntKind.wrap .i64 (((cE l x:Nat):Int)+1)=((cE l x+1:Nat):Int):=aI aG (by omega);constructor
 ·rw[hw];unfold kG;rw[decide_eq_true (show(0:Int)≤((cE l x:Nat):Int) by omega),decide_eq_true (show((cE l x:Nat):Int)<((cE l x+1:Nat):Int) by omega),decide_eq_true (show((cE l x+1:Nat):Int)≤((l.length:Nat):Int) by omega),fits (by omega)];rfl
 ·rw[hw,Ar hs h];unfold eg;simp only[Int.toNat_natCast]
theorem Wc{l:List ai}{x:ID}(hs:cd l)(h:(aN l x).isSome=true)(hl:l.length≤50000000) :
  kG l ((bQ l x:Nat):Int) (IntKind.wrap .i64 (((bQ l x:Nat):Int)+1))=true∧eg l ((bQ l x:Nat):Int) (IntKind.wrap .i64 (((bQ l x:Nat):Int)+1))=bE l x:=by
 obtain⟨e,he⟩:=abC.1 h;have aG:=(aa2.1 (dK hs he)).1;have hw:IntKind.wrap .i64 (((bQ l x:Nat):Int)+1)=((bQ l x+1:Nat):Int):=aI aG (by omega);constructor
 ·rw[hw];unfold kG;rw[decide_eq_true (show(0:Int)≤((bQ l x:Nat):Int) by omega),decide_eq_true (show((bQ l x:Nat):Int)<((bQ l x+1:Nat):Int) by omega),decide_eq_true (show((bQ l x+1:Nat):Int)≤((l.length:Nat):Int) by omega),fits (by omega)];rfl
 ·rw[hw,Ao hs h];unfold eg;simp only[Int.toNat_natCast]
theorem Sv.re{l:List ai}(h:Sv l)(x:ID){r:List ae}(hr:r.length≤50000000):Sv (l.map (iM x r)):=by
 refine⟨by simp;exact h.n,fun w hw=>?_⟩;obtain⟨u,hu,rfl⟩:=aca.1 hw;unfold iM
 split
 ·exact hr
 ·exact h.r u hu
theorem Fc{row:List ae}(d:ae):(bz row d).length≤row.length:=by unfold bz;rw[iv];exact ac9 _ _
theorem PX{w:bg}{x:ae}(hw:Rw w.1){k:Nat}{v:ai}(hk:w.1[k]? = some v)(hx:x∈v.2.1)(e:List an):w.1.set k (v.1,(bz v.2.1 x,v.2.2))=(av (w.1,e) x).1:=by rw[c9 (d:=(w.1,e)) hw (List.mem_of_getElem? hk) hx];exact N8 hw.s hk _
theorem alR(hG:HG G)(s:StateT)(o:aW)(h:dN s)(hs:Sv s.1.1) :
  ∃(e:Int) (w:bg),FX G 155 D4 ((o,()),(aT s,()))=some ((e,()),(w,()))∧iy e w=wM s o:=by
 have bq:=h.d.ne;unfold wM
 cases hf:(aL s.1.2 (au o)).isSome with
 |false =>
  refine⟨13,aT s,?_,?_⟩
  ·refine aB (hG _ _ rfl) aem ?_;refine aa (qF hG (aT s) (au o) h.d.se (by show s.1.2.length≤_;omega)) ?_;exact aZ ((dU (l:=s.1.2) h.d.se).trans hf) rfl
  ·rw[if_pos (show(cH s.1 (au o)).isSome=false from hf)];rfl
 |true =>
  rw[if_neg (show ¬(cH s.1 (au o)).isSome=false by show ¬(aL s.1.2 (au o)).isSome=false;rw[hf];simp)];obtain⟨x,hx⟩:∃x:ae,x=(au o,0):=⟨_,rfl⟩;obtain⟨y,hy⟩:∃y:ae,y=(au o,1):=⟨_,rfl⟩;have hxd:x∈aq s.1.1:=by rw[hx];exact h.d.g9 hf (.inl rfl)
  have Tb:y∈aq s.1.1:=by rw[hy];exact h.d.g9 hf (.inr rfl)
  have g1:=lj h.g h.n (x,dA s.1 x);have hn:=h.n;obtain⟨p1,q1⟩:=cZ h.d.rw hxd;have alS:y∈aq (av s.1 x).1:=by
   rcases abd.1 (p1.mem_iff.1 Tb) with k|k
   ·rw[hx,hy]at k;cases k
   ·exact k
  have PV:=iz (iz h.d.gv x) y;refine⟨0,((av (av s.1 x) y).1,(bF s.1.2 (au o),(bN (bN s.2 (x,dA s.1 x)) (y,dA s.1 y),()))),?_,?_⟩
  ·refine aB (hG _ _ rfl) aem ?_;refine aa (qF hG (aT s) (au o) h.d.se (by show s.1.2.length≤_;omega)) ?_;refine aZ ((dU (l:=s.1.2) h.d.se).trans hf) (ag rfl ?_);have alT:FX G 179 D5 ((au o,()),())=some ((x,y,()),()):=by rw[hx,hy];exact aB (hG _ _ rfl) aav rfl
   refine aa alT ?_;refine aw NK ?_;refine af rfl (af rfl (aa (a:=x) rfl ?_));refine aa (aaU hG (aT s) x h.d.rw hs hxd s.1.2) ?_;refine aa (HF hG (aT s) x (dA s.1 x) h.g (by show s.2.length≤_;omega)) ?_;refine aw NK ?_;refine af rfl (af rfl (aa (a:=y) rfl ?_));refine aa (aaU hG (s.1.1,(s.1.2,(bN s.2 (x,dA s.1 x),()))) y h.d.rw hs Tb s.1.2) ?_;refine aa (HF hG (s.1.1,(s.1.2,(bN s.2 (x,dA s.1 x),()))) y (dA s.1 y) g1.1 (by have:=g1.2;show(bN s.2 (x,dA s.1 x)).length≤_;omega)) ?_;refine aw NK ?_;refine ag rfl ?_;generalize bN (bN s.2 (x,dA s.1 x)) (y,dA s.1 y)=gg;obtain⟨k,v,hk,j6,hv⟩:=tL hxd;refine aw NL ?_;refine af rfl (af rfl (aa (a:=x) rfl ?_));refine aa (HH hG (s.1.1,(s.1.2,(gg,()))) x h.d.rw hs.n hs.r hk j6) ?_;refine vH rfl (af rfl (aa hk ?_));refine aa (V5 hG v.2.1 x (h.d.rw.ring hv) (hs.r v hv)) ?_;refine aa hk ?_;have e1:s.1.1.set k (v.1,(bz v.2.1 x,v.2.2))=(av s.1 x).1:=PX (w:=(s.1.1,(s.1.2,(gg,())))) h.d.rw hk j6 s.1.2;have KK:Sv (av s.1 x).1:=by rw[c9 h.d.rw hv j6];exact hs.re _ (acN (Fc x) (hs.r v hv))
   obtain⟨k2,v2,pJ,XS,A5⟩:=tL alS;have e2:(av s.1 x).1.set k2 (v2.1,(bz v2.2.1 y,v2.2.2))=(av (av s.1 x) y).1:=PX (w:=((av s.1 x).1,(s.1.2,(gg,())))) q1 pJ XS (av s.1 x).2;have rest:∀a:List ai,a=(av s.1 x).1→LX G 155 D4 Tryz.f155 Ad (aS Tryz.prog 155 1) ((((cE s.1.2 (au o):Nat):Int),((2:Int),((1:Int),()))),(((a,(s.1.2,(gg,()))),()),([x,y],())))=some (((0:Int),()),(((av (av s.1 x) y).1,(bF s.1.2 (au o),(gg,()))),())):=by
    intro a ha;subst ha;refine aw NL ?_;refine af rfl (af rfl (aa (a:=y) rfl ?_));refine aa (HH hG ((av s.1 x).1,(s.1.2,(gg,()))) y q1 KK.n KK.r pJ XS) ?_;refine vH rfl (af rfl (aa pJ ?_));refine aa (V5 hG v2.2.1 y (q1.ring A5) (KK.r v2 A5)) ?_;refine aa pJ ?_;have last:∀b:List ai,b=(av (av s.1 x) y).1→LX G 155 D4 Tryz.f155 Ad (aS Tryz.prog 155 1) ((((cE s.1.2 (au o):Nat):Int),((2:Int),((2:Int),()))),(((b,(s.1.2,(gg,()))),()),([x,y],())))=some (((0:Int),()),(((av (av s.1 x) y).1,(bF s.1.2 (au o),(gg,()))),())):=by intro b hb;subst hb;refine aw NL ?_;obtain⟨d1,d2⟩:=LW h.d.se hf (by omega);refine ag rfl (af d1 ?_);exact congrArg (fun l:List an=>some (((0:Int),()),(((av (av s.1 x) y).1,(l,(gg,()))),()))) d2
    exact last _ e2
   exact rest _ e1
  ·rw[←hx,←hy];unfold aF;rw[lE PV];rfl
theorem N9{n:Int}(h0:0≤n)(h3:n≤3):dv .xor .i64 1 (dv .and .i64 n 1)=IntKind.wrap .i64 (1-Int.tmod n 2)∧mD .i64 n 1=IntKind.wrap .i64 (Int.tdiv n 2):=by
 have:n=0∨n=1∨n=2∨n=3:=by omega
 rcases this with rfl|rfl|rfl|rfl<;>exact⟨by decide,by decide⟩
theorem LY{l:List ai}{x:ae}(hw:Rw l){k:Nat}{v:ai}(hk:l[k]? = some v)(hx:x∈v.2.1)(y:ae)(e:List an):l.set k (v.1,(dJ v.2.1 x y,v.2.2))=(az (l,e) x y).1:=by rw[lf (d:=(l,e)) hw y (List.mem_of_getElem? hk) hx];exact N8 hw.s hk _
theorem alU(hG:HG G)(s:StateT)(o:aW)(h:dN s)(hs:Sv s.1.1)(hm:bm o=0)(YV:o.1=5) :
    ∃(e:Int) (w:bg),FX G 156 B9 ((o,()),(aT s,()))=some ((e,()),(w,()))∧iy e w=iS s o:=by
  have bq:=h.d.ne;have QH:=h.d.nv;obtain⟨m1,m2,m3,m4⟩:=nc hm YV;obtain⟨s1,s2⟩:=yG m3 m4;obtain⟨c1,c2⟩:=N9 m3 m4;have key:∀(e:Int) (w:bg),FX G 156 B9 ((o,()),(aT s,()))=some ((e,()),(w,()))→iy e w=iS s o→∃(e:Int) (w:bg),FX G 156 B9 ((o,()),(aT s,()))=some ((e,()),(w,()))∧iy e w=iS s o:=fun e w a b=>⟨e,w,a,b⟩;have start:∀(e:Int) (w:bg),cp 156 B9 Tryz.f156 (FX G) (LX G 156 B9 Tryz.f156) ((o,()),(aT s,()))=some ((e,()),(w,()))→FX G 156 B9 ((o,()),(aT s,()))=some ((e,()),(w,())):=fun e w a =>aB (hG _ _ rfl) a rfl;unfold iS
  cases hf:(aL s.1.2 (au o)).isSome with
  |false =>
    refine⟨13,aT s,start _ _ ((Yw).trans ?_),?_⟩
    · refine aa (qF hG (aT s) (au o) h.d.se (by show s.1.2.length≤_;omega)) ?_
      refine aa (so hG (aT s) (b6 o) h.d.sv (by show s.1.1.length≤_;omega)) ?_;refine aa (qF hG (aT s) (aj o) h.d.se (by show s.1.2.length≤_;omega)) ?_;exact aZ ((dU (l:=s.1.2) h.d.se).trans hf) rfl
    · rw[if_pos (show(cH s.1 (au o)).isSome=false from hf)];rfl
  |true =>
  rw[if_neg (show ¬(cH s.1 (au o)).isSome=false by show ¬(aL s.1.2 (au o)).isSome=false;rw[hf];simp)]
  cases Rf:(aN s.1.1 (b6 o)).isSome with
  |true =>
    refine⟨12,aT s,start _ _ ((Yw).trans ?_),?_⟩
    · refine aa (qF hG (aT s) (au o) h.d.se (by show s.1.2.length≤_;omega)) ?_
      refine aa (so hG (aT s) (b6 o) h.d.sv (by show s.1.1.length≤_;omega)) ?_;refine aa (qF hG (aT s) (aj o) h.d.se (by show s.1.2.length≤_;omega)) ?_;refine aZ ((dU (l:=s.1.2) h.d.se).trans hf) (ag rfl ?_);exact af ((gW (l:=s.1.1) h.d.sv).trans Rf) rfl
    · rw[if_pos (show(aO s.1 (b6 o)).isSome=true from Rf)];rfl
  |false =>
  rw[if_neg (show ¬(aO s.1 (b6 o)).isSome=true by show ¬(aN s.1.1 (b6 o)).isSome=true;rw[Rf];simp)]
  cases YB:(aL s.1.2 (aj o)).isSome with
  |true =>
    refine⟨12,aT s,start _ _ ((Yw).trans ?_),?_⟩
    · refine aa (qF hG (aT s) (au o) h.d.se (by show s.1.2.length≤_;omega)) ?_
      refine aa (so hG (aT s) (b6 o) h.d.sv (by show s.1.1.length≤_;omega)) ?_;refine aa (qF hG (aT s) (aj o) h.d.se (by show s.1.2.length≤_;omega)) ?_;refine aZ ((dU (l:=s.1.2) h.d.se).trans hf) (ag rfl ?_);refine ag ((gW (l:=s.1.1) h.d.sv).trans Rf) ?_;exact af ((dU (l:=s.1.2) h.d.se).trans YB) rfl
    · rw[if_pos (show(cH s.1 (aj o)).isSome=true from YB)];rfl
  |false =>
  rw[if_neg (show ¬(cH s.1 (aj o)).isSome=true by show ¬(aL s.1.2 (aj o)).isSome=true;rw[YB];simp)];have alV:aN s.1.1 (b6 o)=none:=by simpa using Rf
  have alW:aL s.1.2 (aj o)=none:=by simpa using YB
  obtain⟨m,O7⟩:∃m:ae,m=Jn o:=⟨_,rfl⟩;obtain⟨kk,Ni⟩:∃m:ae,m=F3 o:=⟨_,rfl⟩;have LS:m∈aq s.1.1:=by rw[O7];exact h.d.g9 hf s1
  have G1:ah kk∉aq s.1.1:=by rw[Ni];exact h.d.mP alW _
  obtain⟨p1,q1⟩:=iI h.d.rw LS G1;have pJ:kk.2=0∨kk.2=1:=by rw[Ni];exact s2
  obtain⟨k,v,hk,j6,hv⟩:=tL LS;have e1:s.1.1.set k (v.1,(dJ v.2.1 m (ah kk),v.2.2))=(az s.1 m (ah kk)).1:=LY h.d.rw hk j6 _ s.1.2;have hlen:(az s.1 m (ah kk)).1.length=s.1.1.length:=by unfold az;exact fK _ _ _
  have YU:aN (az s.1 m (ah kk)).1 (b6 o)=none:=by unfold az Vs.b8;rw[iH (pR _ _),alV];rfl
  have eM:((au o,dv .xor .i64 1 (dv .and .i64 (oN o) 1)):ae)=m:=by rw[O7,c1];rfl
  have eK:((aj o,mD .i64 (oN o) 1):ae)=kk:=by rw[Ni,c2];rfl
  have go:∀(e:Int) (w:bg),(∀a:List ai,a=(az s.1 m (ah kk)).1→((FX G 152 K3 (((b6 o,(bB [m,kk],(e0,(0:Int)))),()),((a,(s.1.2,(s.2,()))),()))).bind fun(n8:((Int×Unit)×(bg×Unit))) =>cond (n8.1.1 != (0:Int)) (some (n8.1,((n8.2.1.1,(n8.2.1.2.1,n8.2.1.2.2)),()))) ((FX G 178 By ((aj o,()),((n8.2.1.1,(n8.2.1.2.1,n8.2.1.2.2)),()))).bind fun(sj:((Int×Unit)×(bg×Unit))) =>some (sj.1,((sj.2.1.1,(sj.2.1.2.1,sj.2.1.2.2)),()))))=some ((e,()),(w,())))→FX G 156 B9 ((o,()),(aT s,()))=some ((e,()),(w,())):=fun e w rest=>by
    refine start _ _ ((Yw).trans ?_);refine aa (qF hG (aT s) (au o) h.d.se (by show s.1.2.length≤_;omega)) ?_;refine aa (so hG (aT s) (b6 o) h.d.sv (by show s.1.1.length≤_;omega)) ?_;refine aa (qF hG (aT s) (aj o) h.d.se (by show s.1.2.length≤_;omega)) ?_;refine aZ ((dU (l:=s.1.2) h.d.se).trans hf) (ag rfl ?_);refine ag ((gW (l:=s.1.1) h.d.sv).trans Rf) ?_;refine ag ((dU (l:=s.1.2) h.d.se).trans YB) ?_;refine ag rfl ?_;have body:∀mm k2:ae,mm=m→k2=kk→((FX G 185 nS ((mm,()),(aT s,()))).bind fun(y4:(((Option ((Fin 1)×Nat))×Unit)×(bg×Unit))) =>sN y4.1.1 (none) fun(p5:((Fin 1)×Nat)) =>cond (p5.1.val==0) (((y4.2.1.1)[p5.2]?).bind fun(y6:ai) =>(FX G 188 qu ((k2,()),())).bind fun(y7:((ae×Unit)×Unit)) =>(FX G 187 vz ((y6.2.1,(mm,((y7.1.1.1,y7.1.1.2),()))),())).bind fun(y8:(((List ae)×Unit)×Unit)) =>((y4.2.1.1)[p5.2]?).bind fun(y9:ai) =>(FX G 169 tx (([mm,k2],()),())).bind fun(qy:(((List ae)×Unit)×Unit)) =>(FX G 152 K3 (((b6 o,(qy.1.1,((⟨#[]⟩:ByteArray),(0:Int)))),()),(((List.set y4.2.1.1 p5.2 (y9.1,(y8.1.1,y9.2.2))),(y4.2.1.2.1,y4.2.1.2.2)),()))).bind fun(n8:((Int×Unit)×(bg×Unit))) =>cond (n8.1.1 != (0:Int)) (some (n8.1,((n8.2.1.1,(n8.2.1.2.1,n8.2.1.2.2)),()))) ((FX G 178 By ((aj o,()),((n8.2.1.1,(n8.2.1.2.1,n8.2.1.2.2)),()))).bind fun(sj:((Int×Unit)×(bg×Unit))) =>some (sj.1,((sj.2.1.1,(sj.2.1.2.1,sj.2.1.2.2)),())))) (none))=some ((e,()),(w,())):=by intro mm k2 alX alY;subst alX alY;refine aa (HH hG (aT s) mm h.d.rw hs.n hs.r hk j6) ?_;refine vH rfl (af rfl (aa hk ?_));refine aa (LV (hG _ _ rfl) k2 pJ) ?_;refine aa (aaR hG v.2.1 mm (ah k2) (hs.r v hv)) ?_;refine aa hk ?_;refine aa (Hw hG [mm,k2] (by simp)) ?_;exact rest _ e1
    exact body _ _ eM eK
  have alZ:24≤s.1.1.length→sq ((az s.1 m (ah kk)).1,(s.1.2,(s.2,()))) (b6 o,(bB [m,kk],(e0,0)))=(3,((az s.1 m (ah kk)).1,(s.1.2,(s.2,())))):=fun hb=>by unfold sq;rw[if_neg (by rw[show aN ((az s.1 m (ah kk)).1,(s.1.2,(s.2,()))).1 ((b6 o,(bB [m,kk],(e0,0))):ai).1=none from YU];simp)];rw[if_pos (by show 24≤(az s.1 m (ah kk)).1.length;omega)]
  have ab5:¬24≤s.1.1.length→sq ((az s.1 m (ah kk)).1,(s.1.2,(s.2,()))) (b6 o,(bB [m,kk],(e0,0)))=(0,(ct (b6 o,(bB [m,kk],(e0,0))) (az s.1 m (ah kk)).1,(s.1.2,(s.2,())))):=fun hb=>by unfold sq;rw[if_neg (by rw[show aN ((az s.1 m (ah kk)).1,(s.1.2,(s.2,()))).1 ((b6 o,(bB [m,kk],(e0,0))):ai).1=none from YU];simp)];rw[if_neg (by show ¬24≤(az s.1 m (ah kk)).1.length;omega)]
  by_cases hb:24≤s.1.1.length
  · refine⟨3,((az s.1 m (ah kk)).1,(s.1.2,(s.2,()))),go _ _ (fun a ha=>?_),?_⟩
    · subst ha
      refine aa (ab1 hG ((az s.1 m (ah kk)).1,(s.1.2,(s.2,()))) (b6 o,(bB [m,kk],(e0,0))) q1.s (by show(az s.1 m (ah kk)).1.length≤_;omega)) ?_;rw[alZ hb];exact af rfl rfl
    · rw[if_pos hb];rfl
  rw[if_neg hb];have hE:vI (ct (b6 o,(bB [m,kk],(e0,0))) (az s.1 m (ah kk)).1,(s.1.2,(s.2,()))) (aj o)=if 40≤s.1.2.length then(3,(ct (b6 o,(bB [m,kk],(e0,0))) (az s.1 m (ah kk)).1,(s.1.2,(s.2,())))) else(0,(ct (b6 o,(bB [m,kk],(e0,0))) (az s.1 m (ah kk)).1,(bS (aj o,(e0,0)) s.1.2,(s.2,())))):=by unfold vI;rw[if_neg (by show ¬(aL s.1.2 (aj o)).isSome=true;rw[YB];simp)]
  have fin:FX G 156 B9 ((o,()),(aT s,()))=some (((vI (ct (b6 o,(bB [m,kk],(e0,0))) (az s.1 m (ah kk)).1,(s.1.2,(s.2,()))) (aj o)).1,()),((vI (ct (b6 o,(bB [m,kk],(e0,0))) (az s.1 m (ah kk)).1,(s.1.2,(s.2,()))) (aj o)).2,())):=by refine go _ _ (fun a ha=>?_);subst ha;refine aa (ab1 hG ((az s.1 m (ah kk)).1,(s.1.2,(s.2,()))) (b6 o,(bB [m,kk],(e0,0))) q1.s (by show(az s.1 m (ah kk)).1.length≤_;omega)) ?_;rw[ab5 hb];refine ag rfl ?_;exact aa (aaO hG (ct (b6 o,(bB [m,kk],(e0,0))) (az s.1 m (ah kk)).1,(s.1.2,(s.2,()))) (aj o) h.d.se (by show s.1.2.length≤_;omega)) rfl
  rw[hE]at fin;by_cases hb4:40≤s.1.2.length
  · rw[if_pos hb4]at fin ⊢
    exact⟨_,_,fin,rfl⟩
  · rw[if_neg hb4]at fin ⊢
    refine⟨_,_,fin,?_⟩;rw[O7,Ni];rfl
theorem al0(hG:HG G)(s:StateT)(o:aW)(h:dN s)(hs:Sv s.1.1) :
    ∃(e:Int) (w:bg),FX G 157 tu ((o,()),(aT s,()))=some ((e,()),(w,()))∧iy e w=fU s o:=by
  have bq:=h.d.ne;have QH:=h.d.nv;have hgn:=h.n;have start:∀(e:Int) (w:bg),cp 157 tu Tryz.f157 (FX G) (LX G 157 tu Tryz.f157) ((o,()),(aT s,()))=some ((e,()),(w,()))→FX G 157 tu ((o,()),(aT s,()))=some ((e,()),(w,())):=fun e w a =>aB (hG _ _ rfl) a rfl;unfold fU
  cases hf:aN s.1.1 (au o) with
  |none =>
    refine⟨13,aT s,start _ _ ((aen).trans ?_),?_⟩
    · refine aa (so hG (aT s) (au o) h.d.sv (by show s.1.1.length≤_;omega)) ?_
      exact aZ ((gW (l:=s.1.1) h.d.sv).trans (by rw[hf])) rfl
    · rw[show aO s.1 (au o)=none from hf];rfl
  |some v =>
  have hfs:(aN s.1.1 (au o)).isSome=true:=by rw[hf];rfl
  have hv:=du hf;have LP:=gj hf;have pz:=dK h.d.sv hf;have aG:=(aa2.1 pz).1;have hgr:=h.d.rw;have go:∀(e:Int) (w:bg),(cond ((((List.length v.2.1):Nat):Int) != (2:Int)) (some (((14:Int),()),(aT s,()))) _=some ((e,()),(w,())))→FX G 157 tu ((o,()),(aT s,()))=some ((e,()),(w,())):=fun e w rest=>by refine start _ _ ((aen).trans ?_);refine aa (so hG (aT s) (au o) h.d.sv (by show s.1.1.length≤_;omega)) ?_;refine aZ ((gW (l:=s.1.1) h.d.sv).trans hfs) (ag rfl ?_);refine af (dp (gr _) (ba aG)) (aa pz ?_);exact rest
  rw[show aO s.1 (au o)=some v from hf];by_cases v5:v.2.1.length=2
  case neg =>
    refine⟨14,aT s,go _ _ (af (by rw[bne_iff_ne];omega) rfl),?_⟩;show iy 14 (aT s)=(match v.2.1 with | [r0,r1]=>dG s o r0 r1|_=>(zS,(14,())))
    split
    · rename_i hr;rw[hr]at v5;exact absurd rfl v5
    · rfl
  obtain⟨r0,r1,hr⟩:∃r0 r1,v.2.1=[r0,r1]:=by
    match hq:v.2.1,v5 with
    |[a,b],_=>exact⟨a,b,rfl⟩
  have Bv:(((List.length v.2.1:Nat):Int) != (2:Int))=false:=by rw[v5];rfl
  have g0:bh v.2.1 (0:Int)=some r0:=by rw[hr];rfl
  have g1:bh v.2.1 (1:Int)=some r1:=by rw[hr];rfl
  show ∃(e:Int) (w:bg),FX G 157 tu ((o,()),(aT s,()))=some ((e,()),(w,()))∧iy e w=(match v.2.1 with | [r0,r1]=>dG s o r0 r1|_=>(zS,(14,())));rw[hr];show ∃(e:Int) (w:bg),FX G 157 tu ((o,()),(aT s,()))=some ((e,()),(w,()))∧iy e w=dG s o r0 r1;unfold dG;by_cases Oa:r0.1=r1.1
  · refine⟨14,aT s,go _ _ (ag Bv (aa g0 (aa g1 (af ((jl r0.1 r1.1).trans (decide_eq_true Oa)) rfl)))),?_⟩
    rw[if_pos Oa];rfl
  rw[if_neg Oa];have b01:=(jl r0.1 r1.1).trans (decide_eq_false Oa);have tail:∀a b:ae,v.2.1.Perm [a,b]→a.1≠b.1→((FX G 188 qu ((b,()),())).bind fun(y7:((ae×Unit)×Unit)) =>cond (kG s.1.1 ((bQ s.1.1 (au o):Nat):Int) (IntKind.wrap .i64 (((bQ s.1.1 (au o):Nat):Int)+(1:Int)))) ((FX G 185 nS (((y7.1.1.1,y7.1.1.2),()),(((eg s.1.1 ((bQ s.1.1 (au o):Nat):Int) (IntKind.wrap .i64 (((bQ s.1.1 (au o):Nat):Int)+(1:Int)))),(s.1.2,(s.2,()))),()))).bind fun(y8:(((Option ((Fin 1)×Nat))×Unit)×(bg×Unit))) =>sN y8.1.1 (none) fun(p9:((Fin 1)×Nat)) =>cond (p9.1.val==0) (((y8.2.1.1)[p9.2]?).bind fun(qy:ai) =>(FX G 187 vz ((qy.2.1,((y7.1.1.1,y7.1.1.2),(a,()))),())).bind fun(n8:(((List ae)×Unit)×Unit)) =>((y8.2.1.1)[p9.2]?).bind fun(sj:ai) =>(FX G 182 oY ((b.1,()),(((List.set y8.2.1.1 p9.2 (sj.1,(n8.1.1,sj.2.2))),(y8.2.1.2.1,y8.2.1.2.2)),()))).bind fun(mH:((Int×(Bool×Unit))×(bg×Unit))) =>cond (kG mH.2.1.2.1 mH.1.1 (IntKind.wrap .i64 (mH.1.1+(1:Int)))) (LX G 157 tu Tryz.f157 pN (aS Tryz.prog 157 0) (((0:Int),()),(((mH.2.1.1,((eg mH.2.1.2.1 mH.1.1 (IntKind.wrap .i64 (mH.1.1+(1:Int)))),mH.2.1.2.2)),((a,()),((b,()),(((y7.1.1.1,y7.1.1.2),()),())))),()))) (none)) (none)) (none))=some (((0:Int),()),(((Gz s o a b).1,((Gz s o a b).2,(Hs s.2 a b,()))),())):=by
    intro a b hp mI;obtain⟨p,q,h1,_,h2,_⟩:=mw h.d.sv hv;have pd:(aq s.1.1).Perm (a::b::aq (p++q)):=by have:=(gY p q v).trans (ac7 _ hp);rw[←h1]at this;exact this
    have PY:bE s.1.1 (au o)=p++q:=by rw[←LP];exact h2
    have N7:aF s.1 (au o) zI=(p++q,s.1.2):=by unfold aF;rw[PY,kz h.d.ge]
    have Cq:=pd.nodup_iff.1 hgr.n;have hbm:b∈ends s.1.2:=h.d.pd.mem_iff.1 (pd.mem_iff.2 (by simp));obtain⟨e,he,he1,zt⟩:=cO.1 hbm;have u5:(aL s.1.2 b.1).isSome=true:=by unfold aL;rw[List.find?_isSome];exact⟨e,he,by simpa using he1⟩
    obtain⟨_,ho⟩:=iJ zt;have R9:ah b∈aq (p++q):=by
      have h3:ah b∈aq s.1.1:=h.d.g9 (s:=(ah b).2) u5 (by rcases ho with⟨_,k⟩|⟨_,k⟩<;>omega);rcases abd.1 (pd.mem_iff.1 h3) with k|k
      · exact absurd (congrArg Prod.fst k) (fun k=>mI k.symm)
      rcases abd.1 k with k|k
      · have:=congrArg Prod.snd k;omega
      · exact k
    have Jw:Rw (p++q):=⟨by rw[←h2];exact kY h.d.sv,(abv.1 (abv.1 Cq).2).2⟩;have bI:∀u∈p++q,u∈s.1.1:=fun u hu=>by
      rw[h1];rcases abw.1 hu with k|k
      · exact abi _ k
      · exact abg _ (aa1 _ k)
    have KK:Sv (p++q):=⟨by have:=hs.n;rw[h1]at this;simp at this ⊢;omega,fun u hu=>hs.r u (bI u hu)⟩;obtain⟨dk1,dk2⟩:=Wc h.d.sv hfs (by omega);rw[PY]at dk2;obtain⟨k,u,hk,hxu,hu⟩:=tL R9;have e1:(p++q).set k (u.1,(dJ u.2.1 (ah b) a,u.2.2))=(az (p++q,s.1.2) (ah b) a).1:=LY Jw hk hxu _ s.1.2;have PV:∀w∈(az (p++q,s.1.2) (ah b) a).1,GV w:=oo (d:=(p++q,s.1.2)) (fun w hw=>h.d.gv w (bI w hw)) _ _;have eD:Gz s o a b=((az (p++q,s.1.2) (ah b) a).1,bF s.1.2 b.1):=by unfold Gz;rw[N7];unfold aF;rw[lE PV];rfl
    have ga:=lj h.g h.n ((b.1,0),sE a b 0);rw[eD];refine aa (LV (hG _ _ rfl) b zt) ?_;refine af dk1 ?_;have r1:∀l1:List ai,l1=p++q→((FX G 185 nS ((ah b,()),((l1,(s.1.2,(s.2,()))),()))).bind fun(y8:(((Option ((Fin 1)×Nat))×Unit)×(bg×Unit))) =>sN y8.1.1 (none) fun(p9:((Fin 1)×Nat)) =>cond (p9.1.val==0) (((y8.2.1.1)[p9.2]?).bind fun(qy:ai) =>(FX G 187 vz ((qy.2.1,(ah b,(a,()))),())).bind fun(n8:(((List ae)×Unit)×Unit)) =>((y8.2.1.1)[p9.2]?).bind fun(sj:ai) =>(FX G 182 oY ((b.1,()),(((List.set y8.2.1.1 p9.2 (sj.1,(n8.1.1,sj.2.2))),(y8.2.1.2.1,y8.2.1.2.2)),()))).bind fun(mH:((Int×(Bool×Unit))×(bg×Unit))) =>cond (kG mH.2.1.2.1 mH.1.1 (IntKind.wrap .i64 (mH.1.1+(1:Int)))) (LX G 157 tu Tryz.f157 pN (aS Tryz.prog 157 0) (((0:Int),()),(((mH.2.1.1,((eg mH.2.1.2.1 mH.1.1 (IntKind.wrap .i64 (mH.1.1+(1:Int)))),mH.2.1.2.2)),((a,()),((b,()),((ah b,()),())))),()))) (none)) (none))=some (((0:Int),()),(((az (p++q,s.1.2) (ah b) a).1,(bF s.1.2 b.1,(Hs s.2 a b,()))),())):=by
      intro l1 hl1;subst hl1;refine aa (HH hG (p++q,(s.1.2,(s.2,()))) (ah b) Jw KK.n KK.r hk hxu) ?_;refine vH rfl (af rfl (aa hk ?_));refine aa (aaR hG u.2.1 (ah b) a (KK.r u hu)) ?_;refine aa hk ?_;have r2:∀l2:List ai,l2=(az (p++q,s.1.2) (ah b) a).1→((FX G 182 oY ((b.1,()),((l2,(s.1.2,(s.2,()))),()))).bind fun(mH:((Int×(Bool×Unit))×(bg×Unit))) =>cond (kG mH.2.1.2.1 mH.1.1 (IntKind.wrap .i64 (mH.1.1+(1:Int)))) (LX G 157 tu Tryz.f157 pN (aS Tryz.prog 157 0) (((0:Int),()),(((mH.2.1.1,((eg mH.2.1.2.1 mH.1.1 (IntKind.wrap .i64 (mH.1.1+(1:Int)))),mH.2.1.2.2)),((a,()),((b,()),((ah b,()),())))),()))) (none))=some (((0:Int),()),(((az (p++q,s.1.2) (ah b) a).1,(bF s.1.2 b.1,(Hs s.2 a b,()))),())):=by
        intro l2 v5;subst v5;refine aa (qF hG ((az (p++q,s.1.2) (ah b) a).1,(s.1.2,(s.2,()))) b.1 h.d.se (by show s.1.2.length≤_;omega)) ?_;obtain⟨ek1,ek2⟩:=LW h.d.se u5 (by omega);refine af ek1 ?_;have r3:∀l3:List an,l3=bF s.1.2 b.1→(LX G 157 tu Tryz.f157 pN (aS Tryz.prog 157 0) (((0:Int),()),((((az (p++q,s.1.2) (ah b) a).1,(l3,(s.2,()))),((a,()),((b,()),((ah b,()),())))),())))=some (((0:Int),()),(((az (p++q,s.1.2) (ah b) a).1,(bF s.1.2 b.1,(Hs s.2 a b,()))),())):=by
          intro l3 hl3;subst hl3;have eb:b=(b.1,b.2):=rfl;have eo:ah b=(b.1,(ah b).2):=rfl;rcases ho with⟨I7,Ud⟩|⟨J0,ho0⟩
          · rw[I7]at eb;rw[Ud]at eo
            have t0:sE a b 0=zD:=by unfold sE;rw[if_neg (by rw[eo];simp)]
            have t1:sE a b 1=a:=by unfold sE;rw[if_pos eo.symm]
            rw[t0,←eb]at ga;have eG:Hs s.2 a b=bN (bN s.2 (b,zD)) (ah b,a):=by unfold Hs;rw[t0,t1,←eb,←eo]
            rw[eG];refine aw Ag ?_;refine af rfl (af (by show(b.2==(0:Int))=true;simp[I7]) ?_);refine aa (HF hG ((az (p++q,s.1.2) (ah b) a).1,(bF s.1.2 b.1,(s.2,()))) b zD h.g (by show s.2.length≤_;omega)) ?_;refine aw Ag ?_;refine af rfl (ag (by show(b.2==(1:Int))=false;simp[I7]) ?_);refine aa (HF hG ((az (p++q,s.1.2) (ah b) a).1,(bF s.1.2 b.1,(bN s.2 (b,zD),()))) (ah b) a ga.1 (by have:=ga.2;show(bN s.2 (b,zD)).length≤_;omega)) ?_;refine aw Ag ?_;exact ag rfl rfl
          · rw[J0]at eb;rw[ho0]at eo
            have t0:sE a b 0=a:=by unfold sE;rw[if_pos eo.symm]
            have t1:sE a b 1=zD:=by unfold sE;rw[if_neg (by rw[eo];simp)]
            rw[t0,←eo]at ga;have eG:Hs s.2 a b=bN (bN s.2 (ah b,a)) (b,zD):=by unfold Hs;rw[t0,t1,←eb,←eo]
            rw[eG];refine aw Ag ?_;refine af rfl (ag (by show(b.2==(0:Int))=false;simp[J0]) ?_);refine aa (HF hG ((az (p++q,s.1.2) (ah b) a).1,(bF s.1.2 b.1,(s.2,()))) (ah b) a h.g (by show s.2.length≤_;omega)) ?_;refine aw Ag ?_;refine af rfl (af (by show(b.2==(1:Int))=true;simp[J0]) ?_);refine aa (HF hG ((az (p++q,s.1.2) (ah b) a).1,(bF s.1.2 b.1,(bN s.2 (ah b,a),()))) b zD ga.1 (by have:=ga.2;show(bN s.2 (ah b,a)).length≤_;omega)) ?_;refine aw Ag ?_;exact ag rfl rfl
        exact r3 _ ek2
      exact r2 _ e1
    exact r1 _ dk2
  have bo:∀y:ae,((y.1.1==(aj o).1)&&(y.1.2==(aj o).2))=decide (y.1=aj o):=fun y=>jl y.1 (aj o);by_cases h0:r0.1=aj o
  · rw[if_pos h0]
    refine⟨0,((Gz s o r1 r0).1,((Gz s o r1 r0).2,(Hs s.2 r1 r0,()))),go _ _ (ag Bv (aa g0 (aa g1 (ag b01 (aa g0 (aa g1 (af ((bo r0).trans (decide_eq_true h0)) ?_))))))),rfl⟩;refine aZ ((bo r0).trans (decide_eq_true h0)) (ag rfl ?_);exact tail r1 r0 (by rw[hr];exact List.Perm.swap _ _ _) (fun k=>Oa k.symm)
  rw[if_neg h0];by_cases h1:r1.1=aj o
  · rw[if_pos h1]
    refine⟨0,((Gz s o r0 r1).1,((Gz s o r0 r1).2,(Hs s.2 r0 r1,()))),go _ _ (ag Bv (aa g0 (aa g1 (ag b01 (aa g0 (aa g1 (ag ((bo r0).trans (decide_eq_false h0)) ?_))))))),rfl⟩;refine aZ ((bo r1).trans (decide_eq_true h1)) (ag rfl ?_);exact tail r0 r1 (by rw[hr]) Oa
  rw[if_neg h1];refine⟨14,aT s,go _ _ (ag Bv (aa g0 (aa g1 (ag b01 (aa g0 (aa g1 (ag ((bo r0).trans (decide_eq_false h0)) ?_))))))),rfl⟩;exact aZ ((bo r1).trans (decide_eq_false h1)) (af rfl rfl)
end Go.Vs
namespace Go.Vs
open Go.Proofs
theorem YW{row:List ae}{j m:Nat}(hj:j≤row.length)(hm:m≤row.length)(h0:0<row.length):kF (kF row j) m=kF row ((j+m)%row.length):=by
 apply adl;intro i;have hl:(kF row j).length=row.length:=dS _ _;have hp:=adv (j+m) h0;by_cases hi:i<row.length
 ·rw[mL (by omega) (by omega),hl,mL (by omega) (Nat.mod_lt _ h0),mL (Nat.le_of_lt hp) hi];congr 1;simp only[Nat.add_mod_mod,Nat.mod_add_mod,Nat.add_assoc]
 ·rw[List.getElem?_eq_none (by rw[dS,dS];omega),List.getElem?_eq_none (by rw[dS];omega)]
theorem Az{row:List ae}(hn:row.Nodup){i j:Nat}{hi:i<row.length}{hj:j<row.length}(h:row[i]=row[j]):i=j:=by
 rcases Nat.lt_trichotomy i j with k|k|k
 ·exact absurd h (adx.1 hn i j hi hj k)
 ·exact k
 ·exact absurd h.symm (adx.1 hn j i hj hi k)
theorem nh{row:List ae}(hn:row.Nodup){i j:Nat}{x:ae}(hi:row[i]? = some x)(hj:row[j]? = some x):i=j:=by obtain⟨h1,h2⟩:=aa2.1 hi;obtain⟨h3,h4⟩:=aa2.1 hj;exact Az hn (h2.trans h4.symm)
theorem oq{row:List ae}(hn:row.Nodup){j:Nat}(hj:j≤row.length):bB (kF row j)=bB row:=by
 by_cases h0:row.length=0
 ·have:row=[]:=by simpa using h0
  subst this;have:j=0:=by simpa using hj
  subst this;rfl
 have hp:0<row.length:=by omega
 have hl:(kF row j).length=row.length:=dS _ _;have hm:=lB row row 0 0 hp (by omega);have zH:=lB (kF row j) (kF row j) 0 0 (by omega) (by omega);have l1:=oi hp;have l2:=oi (row:=kF row j) (by omega);unfold bB;rw[YW hj (by omega) hp];generalize fP (kF row j) (kF row j) 0 0=m' at *;generalize fP row row 0 0=m at *;rw[hl]at zH;have hx:(kF row j)[m']? = row[(j+m')%row.length]? := mL hj zH;have hq:=adv (j+m') hp;rw[mO hm]at l1;rw[mO (by omega)]at l2;have e1:(kF row j)[m']'(by omega)=row[(j+m')%row.length]:=by rw[List.getElem?_eq_getElem (by omega),List.getElem?_eq_getElem hq]at hx;exact aby hx
 rw[e1]at l2;have h1:=l1.1 _ hq;have h2:lA row[m] row[(j+m')%row.length]=false:=by have gI:row[m]∈kF row j:=CI.2 (acm hm);obtain⟨t,ht,he⟩:=ado gI;rw[←he];exact l2.1 t ht
 have heq:row[(j+m')%row.length]=row[m]:=Classical.byContradiction fun k=>by have:=uM h1 k;rw[h2]at this;cases this
 have:=Az hn heq;rw[this]
theorem mb(row:List ae):∃j,j≤row.length∧bB row=kF row j:=by
 by_cases h0:row.length=0
 ·have:row=[]:=by simpa using h0
  subst this;exact⟨0,by simp,rfl⟩
 ·exact⟨fP row row 0 0,Nat.le_of_lt (lB row row 0 0 (by omega) (by omega)),rfl⟩
theorem YX{row:List ae}{j t k:Nat}(hj:j≤row.length)(ht:t<row.length)(hk:(j+t)%row.length=k)(x:ae):(kF row j).set t x=kF (row.set k x) j:=by
 have h0:0<row.length:=by omega
 have hl:(kF row j).length=row.length:=dS _ _;apply adl;intro i;by_cases hi:i<row.length
 ·rw[List.getElem?_set,hl,mL (row:=row.set k x) (by rw[List.length_set];exact hj) (by rw[List.length_set];exact hi),List.length_set,List.getElem?_set];have aG:=adv (j+i) h0;by_cases hit:t=i
  ·subst hit;rw[if_pos rfl,if_pos ht,if_pos hk.symm,if_pos (by rw[←hk];exact Nat.mod_lt _ h0)]
  ·rw[if_neg hit,if_neg,mL hj hi];intro Ni;apply hit;rw[←hk]at Ni;by_cases h1:j+t<row.length<;>by_cases h2:j+i<row.length
   ·rw[Nat.mod_eq_of_lt h1,Nat.mod_eq_of_lt h2]at Ni;omega
   ·rw[Nat.mod_eq_of_lt h1,Nat.mod_eq_sub_mod (by omega),Nat.mod_eq_of_lt (by omega)]at Ni;omega
   ·rw[Nat.mod_eq_of_lt h2,Nat.mod_eq_sub_mod (by omega),Nat.mod_eq_of_lt (by omega)]at Ni;omega
   ·rw[Nat.mod_eq_sub_mod (by omega),Nat.mod_eq_of_lt (by omega),Nat.mod_eq_sub_mod (by omega),Nat.mod_eq_of_lt (by omega)]at Ni;omega
 ·rw[List.getElem?_eq_none (by rw[List.length_set,dS];omega),List.getElem?_eq_none (by rw[dS,List.length_set];omega)]
theorem HI{row:List ae}(hn:row.Nodup){k:Nat}{m y:ae}(hk:row[k]? = some m)(hy:y∉row):(row.set k y).Nodup:=by
 obtain⟨h1,h2⟩:=aa2.1 hk;rw[List.set_eq_take_append_cons_drop,if_pos h1];have p:(row.take k++y::row.drop (k+1)).Perm (y::(row.take k++row.drop (k+1))):=adj;refine p.nodup_iff.2 (abv.2 ⟨fun h=>hy ?_,?_⟩)
 ·rcases abw.1 h with h|h
  ·exact adC h
  ·exact adr h
 ·refine List.Sublist.nodup ?_ hn
  conv=>rhs;rw[←List.take_append_drop k row]
  refine List.Sublist.append (List.Sublist.refl _) ?_;exact(List.drop_sublist_drop_left row (show k≤k+1 by omega))
theorem yH{row:List ae}(hn:row.Nodup){k:Nat}{x:ae}(hk:row[k]? = some x):idx x row 0=(k:Int):=by have:=N4 (d:=x) (row:=row) (k:=k) (i:=0) hk (fun j hj he=>by have:=nh hn hk he;omega);omega
theorem Sb{row:List ae}(hn:row.Nodup)(ht:bB row=row){m y:ae}(hm:m∈row)(hy:y∉row):dJ (dJ row m y) y m=row:=by
 obtain⟨k,hk⟩:=adi hm;have QJ:=(aa2.1 hk).1;have h0:0<row.length:=by omega
 have e1:dJ row m y=bB (row.set k y):=by unfold dJ;rw[if_pos ⟨hm,hy⟩,yH hn hk,Int.toNat_natCast]
 have hn2:=HI hn hk hy;have hl:(row.set k y).length=row.length:=List.length_set;obtain⟨j,hj,hr⟩:=mb (row.set k y);rw[e1,hr];have hn3:(kF (row.set k y) j).Nodup:=by
  have:(kF (row.set k y) j).Perm (row.set k y):=by unfold kF;exact adk.trans (List.Perm.of_eq (List.take_append_drop _ _))
  exact this.nodup_iff.2 hn2
 have hyk:(row.set k y)[k]? = some y:=by rw[List.getElem?_set,if_pos rfl,if_pos QJ]
 have hym:y∈kF (row.set k y) j:=CI.2 (ab6 hyk);have hmy:m≠y:=fun e=>hy (e▸hm);have O7:m∉kF (row.set k y) j:=fun h=>by
  have h:=CI.1 h;obtain⟨i,hi⟩:=adi h;rw[List.getElem?_set]at hi
  split at hi
  ·exact hmy (by simpa using hi.symm)
  ·rename_i bq;exact bq (nh hn hk hi)
 obtain⟨t,ht2⟩:=adi hym;have htl:=(aa2.1 ht2).1;rw[dS]at htl;unfold dJ;rw[if_pos ⟨hym,O7⟩,yH hn3 ht2,Int.toNat_natCast];have hjt:(j+t)%(row.set k y).length=k:=by rw[mL hj htl]at ht2;exact nh hn2 ht2 hyk
 rw[YX hj htl hjt,List.set_set];have e2:row.set k m=row:=LL hk;rw[e2];rw[oq hn (by omega),ht]
theorem Fe(m k:ae):bB [m,k]=[m,k]∨bB [m,k]=[k,m]:=by
 have hm:=lB [m,k] [m,k] 0 0 (by simp) (by simp);have:fP [m,k] [m,k] 0 0=0∨fP [m,k] [m,k] 0 0=1:=by simp at hm;omega
 unfold bB;rcases this with h|h<;>rw[h]
 ·exact .inl rfl
 ·exact .inr rfl
end Go.Vs
namespace Go.Vs
open Go.Proofs
variable {G:(f:FuncId)→(g:aX)→Option (g.A→Option g.B)}
theorem AA(l:List ai)(x:ID):l.any (fun w=>decide (w.1=x))=(aN l x).isSome:=by rw[Bool.eq_iff_iff,List.any_eq_true];unfold aN;rw[List.find?_isSome]
theorem AB(l:List an)(x:ID):l.any (fun w=>decide (w.1=x))=(aL l x).isSome:=by rw[Bool.eq_iff_iff,List.any_eq_true];unfold aL;rw[List.find?_isSome]
theorem Sc(s:StateT)(o:aW):iy (wO (aT s) o).1 (wO (aT s) o).2=qC s o:=by
 unfold wO qC Gy EW;rw[AA,AB];by_cases ho:cW o=true
 ·have hv:s.1.1.map (fJ o)=s.1.1:=by
   conv=>rhs;rw[←List.map_id s.1.1]
   exact ac2 fun u hu=>by unfold fJ;rw[if_neg (by rw[ho];simp)];rfl
  rw[if_pos ho,ho,hv];show iy (if(aL s.1.2 (au o)).isSome=true then _ else _:Int×bg).1 (if(aL s.1.2 (au o)).isSome=true then _ else _:Int×bg).2=_
  cases (aL s.1.2 (au o)).isSome<;>rfl
 ·have pG:cW o=false:=by simpa using ho
  have he:s.1.2.map (gL o)=s.1.2:=by
   conv=>rhs;rw[←List.map_id s.1.2]
   exact ac2 fun u hu=>by unfold gL;rw[if_neg (by rw[pG];simp)];rfl
  rw[if_neg ho,pG,he];show iy (if(aN s.1.1 (au o)).isSome=true then _ else _:Int×bg).1 (if(aN s.1.1 (au o)).isSome=true then _ else _:Int×bg).2=_
  cases (aN s.1.1 (au o)).isSome<;>rfl
theorem We(hG:HG G)(w:bg)(o:aW)(hk:7≤o.1)(hv:cd w.1)(he:dx w.2.1)(S8:w.1.length≤50000000)(hle:w.2.1.length≤50000000) :
  FX G 131 D3 ((o,()),(w,()))=some (((wO w o).1,()),((wO w o).2,())):=by
 refine aB (hG _ _ rfl) NJ ?_;have kn:∀k:Int,k<7→(o.1==k)=false:=fun k pJ=>BM (by omega);refine ag (kn 1 (by omega)) (ag (kn 2 (by omega)) (ag (kn 3 (by omega)) (ag (kn 4 (by omega)) (ag (kn 5 (by omega)) (ag (kn 6 (by omega)) ?_)))));exact aa (alO hG w o hv he S8 hle) rfl
def Td(x:ID)(e:Bool)(t:ByteArray):aW:=(7,(x,(zI,(zI,(zC,(zC,(e,(t,0))))))))
def Sd(x:ID)(e:Bool)(n:Int):aW:=(8,(x,(zI,(zI,(zC,(zC,(e,(e0,n))))))))
theorem CN{x:ID}{e:Bool}{t:ByteArray}(hx:cz x=true)(ht:lY t=true):bm (Td x e t)=0:=by
 unfold bm;rw[if_neg (by simp[Td]),if_neg (by simp[Td]),if_neg (by simp[Td,hx]),if_neg,if_neg (by simp[Td]),if_neg (by simp[Td]),if_neg (by simp[Td]),if_neg (by simp[Td]),if_pos (show(Td x e t).1=7 from rfl)]
 ·exact if_pos ht
 intro h;have:sD (kr (Td x e t)) F2=true:=(ku _ _).2 rfl;rw[this]at h;cases h
theorem CO{x:ID}{e:Bool}{n:Int}(hx:cz x=true)(ht:jZ n=true):bm (Sd x e n)=0:=by
 unfold bm;rw[if_neg (by simp[Sd]),if_neg (by simp[Sd]),if_neg (by simp[Sd,hx]),if_neg,if_neg (by simp[Sd]),if_neg (by simp[Sd]),if_neg (by simp[Sd]),if_pos (show(Sd x e n).1=8 from rfl)]
 ·exact if_pos ht
 intro h;have:sD (kr (Sd x e n)) F2=true:=(ku _ _).2 rfl;rw[this]at h;cases h
theorem Se{t:ByteArray}(h:lY t=true):t.size≤16:=by unfold lY at h;simp only[Bool.and_eq_true,decide_eq_true_eq]at h;exact h.2
theorem YY{n:Int}(h:jZ n=true):EY n:=by unfold jZ at h;simp only[decide_eq_true_eq]at h;unfold EY;omega
theorem sF:EY 0:=by unfold EY;omega
theorem vJ{l:List ai}(hs:cd l){v w:ai}(hv:v∈l)(hw:w∈l)(h:w.1=v.1):w=v:=by have h1:=eW hs hv;have h2:=eW hs hw;rw[h,h1]at h2;exact(aby h2).symm
theorem yI{l:List an}{v:an}(hs:dx l)(h:v∈l):aL l v.1=some v:=by
 have hf:(aL l v.1).isSome=true:=by unfold aL;rw[List.find?_isSome];exact⟨v,h,by simp⟩
 obtain⟨u,hu⟩:=abC.1 hf;have h1:=ma hs hu;obtain⟨k,hk,he⟩:=ado h;have h2:l[k]? = some v:=by rw[List.getElem?_eq_getElem hk,he]
 rw[Hu hs h2 rfl,h1]at h2;rw[hu];exact h2
theorem Ff{α:Type}{l:List α}{f g:α→α}(h:∀w∈l,f (g w)=w):(l.map g).map f=l:=by
 rw[List.map_map]
 conv=>rhs;rw[←List.map_id l]
 exact ac2 fun w hw=>h w hw
theorem LZ{o:aW}(h:cW o=true)(w:ai):fJ o w=w:=by unfold fJ;rw[if_neg (by rw[h];simp)]
theorem L0{o:aW}(h:cW o=false)(w:an):gL o w=w:=by unfold gL;rw[if_neg (by rw[h];simp)]
theorem Sf{s:StateT}{o:aW}(h:(if cW o=true then(aL s.1.2 (au o)).isSome else(aN s.1.1 (au o)).isSome)=false):qC s o=(zS,(13,())):=by
 unfold qC Gy EW;rw[AA,AB]
 cases ho:cW o<;>rw[ho]at h<;>simp at h<;>rw[if_neg]<;>simp[h]
theorem wS{s:StateT}{o:aW}(h:(if cW o=true then(aL s.1.2 (au o)).isSome else(aN s.1.1 (au o)).isSome)=true):qC s o=(((s.1.1.map (fJ o),s.1.2.map (gL o)),s.2),(0,())):=by
 unfold qC Gy EW;rw[AA,AB]
 cases ho:cW o<;>rw[ho]at h<;>simp at h<;>rw[if_pos]<;>simp[h]
theorem CP{o:aW}{w:an}(h:cW o=true)(hx:w.1=au o):gL o w=if o.1=7 then(w.1,(gO o,w.2.2)) else(w.1,(w.2.1,oN o)):=if_pos ⟨h,hx⟩
theorem PZ{o:aW}{w:an}(hx:w.1≠au o):gL o w=w:=if_neg fun k=>hx k.2
theorem CQ{o:aW}{w:ai}(h:cW o=false)(hx:w.1=au o):fJ o w=if o.1=7 then(w.1,(w.2.1,(gO o,w.2.2.2))) else(w.1,(w.2.1,(w.2.2.1,oN o))):=if_pos ⟨h,hx⟩
theorem P1{o:aW}{w:ai}(hx:w.1≠au o):fJ o w=w:=if_neg fun k=>hx k.2
theorem Wg{s:StateT}(h:dN s){o p:aW}(hi:au o=au p)(he:cW o=cW p)(hk:o.1=p.1) (hV:∀v,aN s.1.1 (au o)=some v→cW o=false→(o.1=7→gO p=v.2.2.1)∧(o.1≠7→oN p=v.2.2.2)) (hE:∀v,aL s.1.2 (au o)=some v→cW o=true→(o.1=7→gO p=v.2.1)∧(o.1≠7→oN p=v.2.2)) :
  (((s.1.1.map (fJ o)).map (fJ p),(s.1.2.map (gL o)).map (gL p)),s.2)=s:=by
 rw[Ff (l:=s.1.1),Ff (l:=s.1.2)]
 ·intro w hw
  cases ho:cW o with
  |false=>rw[L0 ho,L0 (he▸ho)]
  |true =>
   have XO:cW p=true:=by rw[←he];exact ho
   by_cases hx:w.1=au o
   ·have u5:aL s.1.2 (au o)=some w:=by rw[←hx];exact yI h.d.se hw
    obtain⟨h1,h2⟩:=hE w u5 ho;have XP:w.1=au p:=hx.trans hi;by_cases h7:o.1=7
    ·have h72:p.1=7:=hk▸h7;rw[CP ho hx,if_pos h7,CP (w:=(w.1,(gO o,w.2.2))) XO XP,if_pos h72,h1 h7]
    ·have h72:¬p.1=7:=hk▸h7;rw[CP ho hx,if_neg h7,CP (w:=(w.1,(w.2.1,oN o))) XO XP,if_neg h72,h2 h7]
   ·rw[PZ hx,PZ (fun k=>hx (k.trans hi.symm))]
 ·intro w hw
  cases ho:cW o with
  |true=>rw[LZ ho,LZ (he▸ho)]
  |false =>
   have XO:cW p=false:=by rw[←he];exact ho
   by_cases hx:w.1=au o
   ·have u5:aN s.1.1 (au o)=some w:=by rw[←hx];exact eW h.d.sv hw
    obtain⟨h1,h2⟩:=hV w u5 ho;have XP:w.1=au p:=hx.trans hi;by_cases h7:o.1=7
    ·have h72:p.1=7:=hk▸h7;rw[CQ ho hx,if_pos h7,CQ (w:=(w.1,(w.2.1,(gO o,w.2.2.2)))) XO XP,if_pos h72,h1 h7]
    ·have h72:¬p.1=7:=hk▸h7;rw[CQ ho hx,if_neg h7,CQ (w:=(w.1,(w.2.1,(w.2.2.1,oN o)))) XO XP,if_neg h72,h2 h7]
   ·rw[P1 hx,P1 (fun k=>hx (k.trans hi.symm))]
structure Lay(s t:StateT):Prop where
 v:cd t.1.1
 e:dx t.1.2
 sm:Sm t.1
 g:t.2.length≤50000000
theorem BN(l:List an):(ends l).length=2*l.length:=by
 induction l with
 |nil=>rfl
 |cons e r ih=>rw[la];simp[ih];omega
theorem YZ{l:List ai}{v:ai}(h:v∈l):v.2.1.length≤(aq l).length:=by obtain⟨a,b,rfl⟩:=ada h;rw[qH,jJ];simp;omega
theorem Wf.wT{d:ak}(h:Wf d):∀v∈d.1,v.2.1.length≤80:=fun v hv=>by have h1:=YZ hv;have h2:=h.pd.length_eq;have h3:=h.ne;rw[BN]at h2;omega
theorem Wf.sm{d:ak}(h:Wf d):Sm d:=⟨by have:=h.nv;omega,by have:=h.ne;omega,fun v hv=>by have:=h.wT v hv;omega⟩
theorem Wf.small{d:ak}(h:Wf d):Sv d.1:=⟨by have:=h.nv;omega,fun v hv=>by have:=h.wT v hv;omega⟩
theorem Sh(s:StateT)(o:aW):iy (sq (aT s) (au o,([],(e0,0)))).1 (sq (aT s) (au o,([],(e0,0)))).2=l8 s o:=by
 by_cases hh:(aN s.1.1 (au o)).isSome=true
 ·have a:sq (aT s) (au o,([],(e0,0)))=(12,aT s):=if_pos hh;have b:l8 s o=(zS,(12,())):=if_pos hh;rw[a,b];rfl
 by_cases h:24≤s.1.1.length
 ·have a:sq (aT s) (au o,([],(e0,0)))=(3,aT s):=(if_neg hh).trans (if_pos h);have b:l8 s o=(zS,(3,())):=(if_neg hh).trans (if_pos h);rw[a,b];rfl
 ·have a:sq (aT s) (au o,([],(e0,0)))=(0,(ct (au o,([],(e0,0))) (aT s).1,(aT s).2)):=(if_neg hh).trans (if_neg h);have b:l8 s o=(((ct (au o,([],(e0,0))) s.1.1,s.1.2),s.2),(0,())):=(if_neg hh).trans (if_neg h);rw[a,b];rfl
theorem Si{s:StateT}(h:dN s)(o:aW):iy (Ht (aT s) (au o)).1 (Ht (aT s) (au o)).2=qD s o:=by
 unfold Ht qD aO;show iy (match aN s.1.1 (au o) with|none=>(13,aT s)|some v=>if 0<v.2.1.length then(14,aT s) else(0,(bE s.1.1 (au o),(s.1.2,(s.2,())))):Int×bg).1 (match aN s.1.1 (au o) with|none=>(13,aT s)|some v=>if 0<v.2.1.length then(14,aT s) else(0,(bE s.1.1 (au o),(s.1.2,(s.2,())))):Int×bg).2=_
 cases aN s.1.1 (au o) with
 |none=>rfl
 |some v =>
  simp only;by_cases hl:0<v.2.1.length
  ·rw[if_pos hl,if_pos hl];rfl
  ·rw[if_neg hl,if_neg hl];unfold aF;rw[kz h.d.ge];rfl
def P2(s:StateT)(o:aW):StateT×(Int×Unit) :=if o.1=1 then l8 s o else if o.1=2 then qD s o else if o.1=3 then kK s o else if o.1=4 then wM s o else if o.1=5 then iS s o else if o.1=6 then fU s o else qC s o
theorem HJ(s:StateT)(o:aW):bT s o=if bm o≠0 then(zS,(bm o,())) else P2 s o:=rfl
theorem L3(hG:HG G)(s:StateT)(o:aW)(h:dN s)(hm:bm o=0)(h3:o.1=3→∃(e:Int) (w:bg),FX G 154 qp ((o,()),(aT s,()))=some ((e,()),(w,()))∧iy e w=kK s o) :
  ∃(e:Int) (w:bg),FX G 131 D3 ((o,()),(aT s,()))=some ((e,()),(w,()))∧iy e w=P2 s o:=by
 have hk:=kC hm;have Wh:=h.d.small;have QH:=h.d.nv;have bq:=h.d.ne;have start:∀(e:Int) (w:bg),cp 131 D3 Tryz.f131 (FX G) (LX G 131 D3 Tryz.f131) ((o,()),(aT s,()))=some ((e,()),(w,()))→FX G 131 D3 ((o,()),(aT s,()))=some ((e,()),(w,())):=fun e w a =>aB (hG _ _ rfl) a rfl;unfold P2;by_cases h1:o.1=1
 ·rw[if_pos h1];refine⟨_,_,start _ _ ((NJ).trans (af (J3 h1) (aa (ab1 hG (aT s) (au o,([],(e0,0))) h.d.sv Wh.n) rfl))),?_⟩;exact Sh s o
 rw[if_neg h1];by_cases h2:o.1=2
 ·rw[if_pos h2];refine⟨_,_,start _ _ ((NJ).trans (ag (BM h1) (af (J3 h2) (aa (alH hG (aT s) o h.d.sv Wh.n) rfl)))),?_⟩;exact Si h o
 rw[if_neg h2];by_cases Ta:o.1=3
 ·rw[if_pos Ta];obtain⟨e,w,a,b⟩:=h3 Ta;exact⟨e,w,start _ _ ((NJ).trans (ag (BM h1) (ag (BM h2) (af (J3 Ta) (aa a rfl))))),b⟩
 rw[if_neg Ta];by_cases hk4:o.1=4
 ·rw[if_pos hk4];obtain⟨e,w,a,b⟩:=alR hG s o h Wh;exact⟨e,w,start _ _ ((NJ).trans (ag (BM h1) (ag (BM h2) (ag (BM Ta) (af (J3 hk4) (aa a rfl)))))),b⟩
 rw[if_neg hk4];by_cases YV:o.1=5
 ·rw[if_pos YV];obtain⟨e,w,a,b⟩:=alU hG s o h Wh hm YV;exact⟨e,w,start _ _ ((NJ).trans (ag (BM h1) (ag (BM h2) (ag (BM Ta) (ag (BM hk4) (af (J3 YV) (aa a rfl))))))),b⟩
 rw[if_neg YV];by_cases hk6:o.1=6
 ·rw[if_pos hk6];obtain⟨e,w,a,b⟩:=al0 hG s o h Wh;exact⟨e,w,start _ _ ((NJ).trans (ag (BM h1) (ag (BM h2) (ag (BM Ta) (ag (BM hk4) (ag (BM YV) (af (J3 hk6) (aa a rfl)))))))),b⟩
 rw[if_neg hk6];refine⟨_,_,We hG (aT s) o (by omega) h.d.sv h.d.se Wh.n (by show s.1.2.length≤_;omega),?_⟩;exact Sc s o
theorem Fg(hG:HG G)(s:StateT)(o:aW)(h:dN s)(hf:Fit o)(h3:bm o=0→o.1=3→∃(e:Int) (w:bg),FX G 154 qp ((o,()),(aT s,()))=some ((e,()),(w,()))∧iy e w=kK s o) :
  FX G 73 KT ((s,o,()),())=some (bT s o,()):=by
 rw[HJ];have hn:=h.n;by_cases hm:bm o=0
 ·obtain⟨e,w,a,b⟩:=L3 hG s o h hm (h3 hm);refine(YR hG s o (ab2 hG o hf) h.d.sm (by omega) (fun _=>a)).trans ?_;rw[hm,if_neg (by simp),b];rfl
 ·rw[if_pos hm];refine aB (hG _ _ rfl) aek ?_;refine aa (ab2 hG o hf) ?_;exact af (by simpa using hm) rfl
def pS(G:(f:FuncId)→(g:aX)→Option (g.A→Option g.B))(o:aW):Prop:=∀s,dN s→bm o=0→o.1=3→∃(e:Int) (w:bg),FX G 154 qp ((o,()),(aT s,()))=some ((e,()),(w,()))∧iy e w=kK s o
theorem Wi{s:StateT}{o:aW}(hm:bm o=0):P2 s o=bT s o:=by rw[HJ,if_neg (by simp[hm])]
theorem al5(hG:HG G)(l:List aW)(hl:l.length≤1073741824)(hm:∀o∈l,bm o=0)(h3:∀o∈l,pS G o):∀(n i:Nat) (s:StateT),i+n=l.length→dN s → LX G 103 Gn Tryz.f103 Eu (aS Tryz.prog 103 0) ((l,(((l.length:Nat):Int),((i:Int),()))),((zW,(aT s,())),()))=some (j5 (l.drop i) s,()):=by
 intro n
 induction n with
 |zero =>intro i s hi hw;refine aw IZ ?_;refine ag (decide_eq_false (show ¬((i:Int)<((l.length:Nat):Int)) by omega)) ?_;rw[List.drop_eq_nil_of_le (by omega)];rfl
 |succ n ih =>
  intro i s hi hw;have aG:i<l.length:=by omega
  have ho:=hm l[i] (acm aG);obtain⟨e,w,h1,h2⟩:=L3 hG s l[i] hw ho (h3 _ (acm aG) s hw ho);rw[Wi ho]at h2;refine aw IZ ?_;refine af (ba aG) (aa (aC (aa4 aG)) ?_);refine aa h1 ?_;rw[List.drop_eq_getElem_cons aG,j5];have ta:=hw.one l[i];by_cases he:e=0
  ·have e1:iy e w=(CL w,(0,())):=if_neg (by simp[he]);rw[e1]at h2;rw[←h2]at ta ⊢;rw[if_neg (by simp)];refine ag (show(e != 0)=false by simp[he]) ?_;have:=ih (i+1) (CL w) (by omega) ta;rw[←aI aG hl]at this;exact this
  ·have e1:iy e w=(zS,(e,())):=if_pos he;rw[e1]at h2;rw[←h2,if_pos he];exact af (show(e != 0)=true by simp[he]) rfl
theorem ab7(hG:HG G)(s:StateT)(l:List aW)(hw:dN s)(hl:l.length≤1073741824)(hm:∀o∈l,bm o=0)(h3:∀o∈l,pS G o):FX G 103 Gn ((s,l,()),())=some (j5 l s,()):=by have hn:=hw.n;refine aB (hG _ _ rfl) ael ?_;refine aa (ab0 hG s.1 hw.d.sm) ?_;refine aa (YQ (hG _ _ rfl) s.2 (by omega)) ?_;have:=al5 hG l hl hm h3 l.length 0 s (by omega) hw;rw[List.drop_zero]at this;exact this
theorem L4(l:List aW)(h:lZ l=0):∀o∈l,bm o=0:=by
 induction l with
 |nil=>intro o ho;simp at ho
 |cons o r ih =>
  rw[lZ]at h;by_cases ho:bm o=0
  ·rw[if_neg (fun k=>k ho)]at h;intro p hp;rcases abd.1 hp with e|hp
   ·rw[e];exact ho
   ·exact ih h p hp
  ·rw[if_pos ho]at h;exact absurd h ho
theorem Oc{l:List aW}(h:fC l=0):∀o∈l,bm o=0:=by
 unfold fC at h
 split at h
 ·exact L4 l h
 ·cases h
theorem al6(hG:HG G)(s:StateT)(l:List aW)(hw:dN s)(hl:l.length≤1073741824)(hf:∀o∈l,Fit o)(h3:∀o∈l,pS G o):FX G 63 Ul ((s,l,()),())=some (cX s l,()):=by
 refine aB (hG _ _ rfl) ajT ?_;refine aa (alN hG l hl hf) ?_;unfold cX;by_cases hm:fC l=0
 ·rw[if_neg (by simp[hm])];refine ag (show(fC l != 0)=false by simp[hm]) ?_;exact aa (ab7 hG s l hw hl (Oc hm) h3) rfl
 ·rw[if_pos hm];exact af (show(fC l != 0)=true by simp[hm]) rfl
end Go.Vs
