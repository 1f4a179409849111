/- Edges cut and split -/
import Derived.Test.YtoleelddkocpkaaGreatFormed
import Derived.Test.YtoleelddkocpkaaGreatTop
set_option linter.unusedVariables false
set_option linter.unusedSimpArgs false
namespace Go.Vs
open Go.Proofs
variable {G:(f:FuncId)→(g:aO)→Option (g.A→Option g.B)}
theorem abQ(hG:HG G)(v:aC)(x:ag):FX G 219 H4 ((v,x,()),())=some ((kZ v.1 x,()),()):=by refine au (hG _ _ rfl) agu ?_;exact aa (Fq hG v.1 x) rfl
def fe(l:List aC)(x:ag):Nat:=l.countP fun v=>kG v.1 x
theorem Ki(l:List aC)(x:ag):fe l x≤l.length:=aew
theorem Bj{l:List aC}{x:ag}(h:∀v∈l,kG v.1 x=false):fe l x=0:=by
 grind [fe,List.countP_eq_zero]
theorem IC{x:ag}:∀{l:List aC},iS l→∀(k:Nat) (v:aC),l[k]? = some v→(kG v.1 x=true↔k<fe l x)
 |[],_,k,v,h=>by simp at h
 |w::r,hs,k,v,h=>by
  have hw:∀{u:aC},u∈r→kG w.1 u.1=true:=fun {u} hu=>acS hs hu;have hr:iS r:=hs.of_cons;by_cases aG:kG w.1 x=true
  ·have e:fe (w::r) x=fe r x+1:=by grind [fe,List.countP_cons_of_pos]
   cases k with
   |zero=>simp_all
   |succ k=>have:=IC (x:=x) hr k v (by simpa using h);simp_all
  ·have hn:∀u∈w::r,kG u.1 x=false:=fun u hu=>by
    rcases abq.1 hu with rfl|hu
    ·simp_all
    ·rw[Bool.eq_false_iff];grind [iO]
   grind [Bj,List.mem_of_getElem?]
theorem WY(hG:HG G)(l:List aC)(x:ag)(hs:iS l)(hl:l.length≤50000000):∀(n i j:Nat),j-i≤n→i≤fe l x→fe l x≤j→j≤l.length → LX G 220218 kf Tryz.f218 jK (aE Tryz.prog 218 0) ((l,(((l.length:Nat):Int),((i:Int),((j:Int),())))),(((x,()),()),()))=some (((((fe l x:Nat):Int),(decide ((l[fe l x]?).map (·.1)=some x),())):Int×(Bool×Unit)),()):=by
 have wh:=Ki l x;have fin:∀(i j:Nat),¬(i<j)→i≤fe l x→fe l x≤j→LX G 220218 kf Tryz.f218 jK (aE Tryz.prog 218 0) ((l,(((l.length:Nat):Int),((i:Int),((j:Int),())))),(((x,()),()),()))=some (((((fe l x:Nat):Int),(decide ((l[fe l x]?).map (·.1)=some x),())):Int×(Bool×Unit)),()):=fun i j GG h1 h2=>by
  have hi:i=fe l x:=by omega
  subst hi;refine ak E7 ?_;refine af (decide_eq_false (show ¬(((fe l x:Nat):Int)<(j:Int)) by omega)) ?_;by_cases hc:fe l x<l.length
  ·have hx:l[fe l x]? = some l[fe l x]:=abf hc;refine ae (aJ hc) ?_;refine aa (ai hx) ?_;refine aa (abQ hG l[fe l x] x) ?_;refine congrArg (fun b:Bool=>some ((((fe l x:Nat):Int),(b,())),())) ?_
   grind [kZ,fe]
  ·refine af (decide_eq_false (show ¬(((fe l x:Nat):Int)<((l.length:Nat):Int)) by omega)) ?_;refine congrArg (fun b:Bool=>some ((((fe l x:Nat):Int),(b,())),())) ?_;simp_all
 intro n
 induction n with
 |zero=>grind
 |succ n ih =>
  intro i j GG h1 h2 h3;by_cases aG:i<j
  case neg=>grind
  refine ak E7 ?_;refine ae (decide_eq_true (show((i:Int)<(j:Int)) by omega)) ?_;refine af rfl ?_;have hm:=O6 (i:=i) (j:=j) (by omega) (by omega);have hh:(i+j) / 2<l.length:=by omega
  have hx:l[(i+j) / 2]? = some l[(i+j) / 2]:=abf hh;have rL:=IC (x:=x) hs ((i+j) / 2) _ hx;refine aa (show aP l (IntKind.wrap .i64 (iq .u64 (IntKind.wrap .u64 (IntKind.wrap .i64 ((i:Int)+(j:Int)))) (1:Int)))=some l[(i+j) / 2] by rw[hm];exact ai hx) ?_;refine aa (abQ hG l[(i+j) / 2] x) ?_;by_cases ho:kG l[(i+j) / 2].1 x=true
  ·refine ae (decide_eq_true ((mP _ _).2 ho)) ?_;have hc:=rL.1 ho;have hw:IntKind.wrap .i64 (IntKind.wrap .i64 (iq .u64 (IntKind.wrap .u64 (IntKind.wrap .i64 ((i:Int)+(j:Int)))) (1:Int))+1)=(((i+j) / 2+1:Nat):Int):=by rw[hm];exact aB hh (by omega)
   have:=ih ((i+j) / 2+1) j (by omega) (by omega) h2 h3;rw[←hw]at this;exact this
  ·refine af (decide_eq_false (fun h=>ho ((mP _ _).1 h))) ?_;have hc:¬(i+j) / 2<fe l x:=fun h=>ho (rL.2 h);have:=ih i ((i+j) / 2) (by omega) h1 (by omega) (by omega);rw[←hm]at this;exact this
theorem WZ(hG:HG G)(l:List aC)(x:ag)(hs:iS l)(hl:l.length≤50000000) :
  FX G 220218 kf ((l,x,()),())=some (((((fe l x:Nat):Int),(decide ((l[fe l x]?).map (·.1)=some x),())):Int×(Bool×Unit)),()):=by
 refine au (hG _ _ rfl) Wh ?_;exact WY hG l x hs hl l.length 0 l.length (by omega) (by omega) (Ki l x) (abX _)
theorem MN(g:aC):∀{l:List aC},iS l→tf g l=if(l[fe l g.1]?).map (·.1)=some g.1 then l.set (fe l g.1) g else l.take (fe l g.1)++(g::l.drop (fe l g.1))
 |[],_=>rfl
 |w::r,hs=>by
  have hw:∀{u:aC},u∈r→kG w.1 u.1=true:=fun {u} hu=>acS hs hu;have hr:iS r:=aeP hs;by_cases aG:kG w.1 g.1=true
  ·have e:fe (w::r) g.1=fe r g.1+1:=by grind [fe,List.countP_cons_of_pos]
   have bA:w.1≠g.1:=fun k=>by grind [fj]
   have ta:¬kZ g.1 w.1≤0:=fun k=>by
    grind [sr,iO,fj]
   have ih:=MN g hr;rw[e,tf,if_neg ta,if_pos bA,ih]
   grind
  ·have hn:∀u∈w::r,kG u.1 g.1=false:=fun u hu=>by
    rcases abq.1 hu with rfl|hu
    ·simp_all
    ·rw[Bool.eq_false_iff];grind [iO]
   rw[Bj hn];by_cases he:w.1=g.1
   ·have amH:kZ g.1 w.1≤0:=sr.2 (.inl he.symm);have h1:vZ g (w::r)=r:=by
     have:vZ g (w::r)=vZ g r:=by grind [vZ,List.filter_cons_of_neg]
     grind [vJ,fj]
    simp_all [tf,if_pos]
   ·have Qc:kG g.1 w.1=true:=Bf (by simp_all) he;have amH:kZ g.1 w.1≤0:=sr.2 (.inr Qc);have h1:vZ g (w::r)=w::r:=vJ (fun q hq k=>by
     grind)
    simp_all [tf,if_pos,if_neg]
theorem IE{x:ag}:∀{l:List aC},iS l→(pf l x).isSome=decide ((l[fe l x]?).map (·.1)=some x)
 |[],_=>rfl
 |w::r,hs=>by
  have hw:∀{u:aC},u∈r→kG w.1 u.1=true:=fun {u} hu=>acS hs hu;have hr:iS r:=aeP hs;rw[ss];by_cases aG:kG w.1 x=true
  ·have e:fe (w::r) x=fe r x+1:=by grind [fe,List.countP_cons_of_pos]
   have bA:w.1≠x:=fun k=>by grind [fj]
   rw[e,if_neg bA,IE hr,List.getElem?_cons_succ]
  ·have hn:∀u∈w::r,kG u.1 x=false:=fun u hu=>by
    rcases abq.1 hu with rfl|hu
    ·simp_all
    ·rw[Bool.eq_false_iff];grind [iO]
   rw[Bj hn];by_cases he:w.1=x
   ·simp[he]
   ·have Qc:kG x w.1=true:=Bf (by simp_all) he;have:pf r x=none:=by
     grind [pf,List.find?,decide,List.find?_eq_none,iO,fj]
    simp_all
theorem ahC(hG:HG G)(l:List aC)(g:aC)(hs:iS l)(hl:l.length≤50000000):FX G 199 LV ((l,g,()),())=some ((ct l g,()),()):=by
 refine au (hG _ _ rfl) agl ?_;refine aa (WZ hG l g.1 hs hl) ?_;refine aa (adw (hG _ _ rfl) l hl) ?_;unfold ct;rw[IE hs,MN g hs];have hc:fe l g.1≤l.length:=Ki l g.1;by_cases h:(l[fe l g.1]?).map (·.1)=some g.1
 ·rw[decide_eq_true h,if_neg (fun k=>by cases k.1),if_pos h];refine ae rfl ?_;obtain⟨u,hu,_⟩:∃u,l[fe l g.1]? = some u∧u.1=g.1:=by simp_all
  have aG:=(abp.1 hu).1;refine ae (dw (kl _) (aJ aG)) ?_;exact aa hu rfl
 ·rw[decide_eq_false h,if_neg h];refine af rfl ?_;by_cases h4:400≤l.length
  ·rw[if_pos ⟨rfl,h4⟩];exact af (decide_eq_false (show ¬((l.length:Nat):Int)<400 by omega)) rfl
  ·rw[if_neg (fun k=>h4 k.2)];refine ae (decide_eq_true (show((l.length:Nat):Int)<400 by omega)) ?_;have ly:tC l ((fe l g.1:Nat):Int) [g]=true:=by
    grind [tC,decide_eq_true,fe,fits]
   refine ae ly ?_;rfl
theorem IF(hG:HG G)(w:aV)(x to:ag)(hs:iS w.2.2.1)(hl:w.2.2.1.length≤50000000):FX G 160 ED ((x,to,()),(w,()))=some ((),((w.1,(w.2.1,(ct w.2.2.1 (x,to),()))),())):=by refine au (hG _ _ rfl) af3 ?_;exact aa (ahC hG w.2.2.1 (x,to) hs hl) rfl
theorem IG(hG:HG G)(w:aV)(x:ag)(hw:Rw w.1)(hl:w.1.length≤50000000)(hr:∀v∈w.1,v.2.1.length≤50000000){k:Nat}{v:an}(hk:w.1[k]? = some v)(hx:x∈v.2.1) :
  FX G 162 nT ((x,()),(w,()))=some (((some ((⟨0,by decide⟩:Fin 1),k)),()),(w,())):=by
 refine au (hG _ _ rfl) af5 ?_;have hkl:=(abp.1 hk).1;have loop:∀(n i:Nat),i+n=k→LX G 162 nT Tryz.f162 yU (aE Tryz.prog 162 0) ((((w.1.length:Nat):Int),((i:Int),())),((w,((x,()),())),()))=some (((some ((⟨0,by decide⟩:Fin 1),k)),()),(w,())):=by
  intro n
  induction n with
  |zero =>
   intro i hi;have hi:i=k:=by omega
   subst hi;refine ak Ql ?_;refine ae (aJ hkl) (ae (dw (kl _) (aJ hkl)) (aa hk ?_));refine aa (It hG v.2.1 x (by grind)) ?_;exact ae (decide_eq_true hx) rfl
  |succ n ih =>
   intro i hi;have nP:i<w.1.length:=by omega
   have hu:w.1[i]? = some w.1[i]:=abf nP;have SA:x∉w.1[i].2.1:=fun hxi=>by have h1:w.1[i]=v:=hw.one (abC hk) (acG nP) hx hxi;have h2:=k9 hw.s hk rfl;have h3:=k9 hw.s (x:=v.1) hu (by rw[h1]);omega
   refine ak Ql ?_;refine ae (aJ nP) (ae (dw (kl _) (aJ nP)) (aa hu ?_));refine aa (It hG w.1[i].2.1 x (by grind)) ?_;refine af (decide_eq_false SA) ?_;have:=ih (i+1) (by omega);rw[←aB nP (by omega)]at this;exact this
 exact loop k 0 (by omega)
theorem Pb{l:List an}{k:Nat}{v:an}(hs:cg l)(hk:l[k]? = some v)(r:List ag):l.set k (v.1,(r,v.2.2))=l.map (A4 v.1 r):=by
 have h:=ma hs (abC hk);rw[k9 hs hk rfl];refine(MG hs h (A4 v.1 r) (fun u=>(u.1,(r,u.2.2))) (fun u hu=>?_) (fun u hu=>?_)).symm
 ·unfold A4;rw[if_pos hu]
 simp_all [A4,if_neg]
theorem uz{l:List an}{x:ag}(h:x∈av l):∃(k:Nat) (v:an),l[k]? = some v∧x∈v.2.1∧v∈l:=by obtain⟨v,hv,hx⟩:=aS.1 h;obtain⟨k,hk,he⟩:=aeL hv;exact⟨k,v,by simp_all,hx,hv⟩
structure Sv(l:List an):Prop where
 n:l.length≤50000000
 r:∀v∈l,v.2.1.length≤50000000
theorem W0{n:Int}(h:n=0∨n=1):dI .xor .i64 n 1=IntKind.wrap .i64 (1-n):=by rcases h with rfl|rfl<;>decide
theorem MO(hG:G 166 qv=none)(x:ag)(h:x.2=0∨x.2=1):FX G 166 qv ((x,()),())=some ((aw x,()),()):=by refine au hG af8 ?_;exact congrArg (fun n:Int=>some ((((x.1,n):ag),()),())) (W0 h)
theorem IH{d:ar}(h:Rw d.1){v:an}{x:ag}(hv:v∈d.1)(hx:x∈v.2.1):fL d x=if(my v.2.1 x).1=x.1 then(if(my v.2.1 (my v.2.1 x)).1=x.1 then zD else my v.2.1 (my v.2.1 x)) else my v.2.1 x:=by
 unfold fL;have e:dd d ((dA d x).getD zI)=v.2.1:=by unfold dA;rw[fk h hv hx];exact lh h.s hv
 grind
theorem abR(hG:HG G)(w:aV)(x:ag)(hw:Rw w.1)(hs:Sv w.1)(hx:x∈av w.1)(e:List aj):FX G 161 EE ((x,()),(w,()))=some ((fL (w.1,e) x,()),(w,())):=by
 obtain⟨k,v,hk,pW,hv⟩:=uz hx;have KK:=hs.r v hv;refine au (hG _ _ rfl) af4 ?_;rw[IH (d:=(w.1,e)) hw hv pW];have prev:∀y:ag,FX G 200 H3 ((v.2.1,y,()),())=some (((my v.2.1 y),((QH (fR v.2.1 y (v.2.1.length-1))).2)),()):=fun y=>by
  grind [ahA,trans,QH,fR,my,QJ]
 have oF:∀y:ag,((y.1.1==x.1.1)&&(y.1.2==x.1.2))=decide (y.1=x.1):=fun y=>vX y.1 x.1;refine ak JV ?_;refine ae rfl (aa (IG hG w x hw hs.n hs.r hk pW) ?_);refine wK rfl (ae rfl (aa hk ?_));refine aa (prev x) ?_;by_cases h1:(my v.2.1 x).1=x.1
 ·rw[if_pos h1];refine aW ((oF _).trans (decide_eq_true h1)) ?_;refine ak JV ?_;refine ae rfl (aa (IG hG w x hw hs.n hs.r hk pW) ?_);refine wK rfl (ae rfl (aa hk ?_));refine aa (prev (my v.2.1 x)) ?_;by_cases h2:(my v.2.1 (my v.2.1 x)).1=x.1
  ·rw[if_pos h2];refine aW ((oF _).trans (decide_eq_true h2)) ?_;refine ak JV ?_;rfl
  ·rw[if_neg h2];exact aW ((oF _).trans (decide_eq_false h2)) rfl
 ·rw[if_neg h1];exact aW ((oF _).trans (decide_eq_false h1)) rfl
theorem MP{l:List aj}{x:ID}(hs:dv l)(h:(ba l x).isSome=true)(hl:l.length≤50000000) :
  kD l ((cI l x:Nat):Int) (IntKind.wrap .i64 (((cI l x:Nat):Int)+1))=true∧dW l ((cI l x:Nat):Int) (IntKind.wrap .i64 (((cI l x:Nat):Int)+1))=fw l x:=by
 grind [Option.isSome_iff_exists,List.getElem?_eq_some_iff,ot,IntKind.wrap,cI,aB,kD,decide_eq_true,fits,Bb,dW,Int.toNat_natCast]
theorem W9{l:List an}{x:ID}(hs:cg l)(h:(aZ l x).isSome=true)(hl:l.length≤50000000) :
  kD l ((bV l x:Nat):Int) (IntKind.wrap .i64 (((bV l x:Nat):Int)+1))=true∧dW l ((bV l x:Nat):Int) (IntKind.wrap .i64 (((bV l x:Nat):Int)+1))=gu l x:=by
 grind [Option.isSome_iff_exists,List.getElem?_eq_some_iff,dF,IntKind.wrap,bV,aB,kD,decide_eq_true,fits,A8,dW,Int.toNat_natCast]
theorem Sv.re{l:List an}(h:Sv l)(x:ID){r:List ag}(hr:r.length≤50000000):Sv (l.map (A4 x r)):=by
 refine⟨by simp;exact h.n,fun w hw=>?_⟩;obtain⟨u,hu,rfl⟩:=acE.1 hw;unfold A4
 split
 ·exact hr
 ·exact h.r u hu
theorem FB{row:List ag}(d:ag):(j0 row d).length≤row.length:=by
 grind [j0,jW,List.length_filter_le]
theorem QO{w:aV}{x:ag}(hw:Rw w.1){k:Nat}{v:an}(hk:w.1[k]? = some v)(hx:x∈v.2.1)(e:List aj):w.1.set k (v.1,(j0 v.2.1 x,v.2.2))=(aN (w.1,e) x).1:=by rw[lj (d:=(w.1,e)) hw (List.mem_of_getElem? hk) hx];exact Pb hw.s hk _
theorem amI(hG:HG G)(s:StateT)(o:bP)(h:fN s)(hs:Sv s.1.1) :
  ∃(e:Int) (w:aV),FX G 115 Ez ((o,()),(aQ s,()))=some ((e,()),(w,()))∧km e w=MC s o:=by
 have bA:=h.d.ne;unfold MC
 cases hf:(ba s.1.2 (bK o)).isSome with
 |false =>
  refine⟨13,aQ s,?_,?_⟩
  ·refine au (hG _ _ rfl) afS ?_;refine aa (qL hG (aQ s) (bK o) h.d.se (by show s.1.2.length≤_;omega)) ?_;exact aW ((dP (l:=s.1.2) h.d.se).trans hf) rfl
  ·rw[if_pos (show(oF s.1 (bK o)).isSome=false from hf)];rfl
 |true =>
  rw[if_neg (show ¬(oF s.1 (bK o)).isSome=false by show ¬(ba s.1.2 (bK o)).isSome=false;rw[hf];simp)];obtain⟨x,hx⟩:∃x:ag,x=(bK o,0):=⟨_,rfl⟩;obtain⟨y,hy⟩:∃y:ag,y=(bK o,1):=⟨_,rfl⟩;have hxd:x∈av s.1.1:=by rw[hx];exact h.d.mn hf (.inl rfl)
  have hyd:y∈av s.1.1:=by rw[hy];exact h.d.mn hf (.inr rfl)
  have g1:=ll h.g h.n (x,fL s.1 x);have hn:=h.n;obtain⟨p1,q1⟩:=gk h.d.rw hxd;have amK:y∈av (aN s.1 x).1:=by
   grind
  have MK:=lk (lk h.d.gv x) y;refine⟨0,((aN (aN s.1 x) y).1,(fw s.1.2 (bK o),(ct (ct s.2 (x,fL s.1 x)) (y,fL s.1 y),()))),?_,?_⟩
  ·refine au (hG _ _ rfl) afS ?_;refine aa (qL hG (aQ s) (bK o) h.d.se (by show s.1.2.length≤_;omega)) ?_;refine aW ((dP (l:=s.1.2) h.d.se).trans hf) (af rfl ?_);have amL:FX G 156 EB ((bK o,()),())=some ((x,y,()),()):=by rw[hx,hy];exact au (hG _ _ rfl) abx rfl
   refine aa amL ?_;refine ak ON ?_;refine ae rfl (ae rfl (aa (a:=x) rfl ?_));refine aa (abR hG (aQ s) x h.d.rw hs hxd s.1.2) ?_;refine aa (IF hG (aQ s) x (fL s.1 x) h.g (by show s.2.length≤_;omega)) ?_;refine ak ON ?_;refine ae rfl (ae rfl (aa (a:=y) rfl ?_));refine aa (abR hG (s.1.1,(s.1.2,(ct s.2 (x,fL s.1 x),()))) y h.d.rw hs hyd s.1.2) ?_;refine aa (IF hG (s.1.1,(s.1.2,(ct s.2 (x,fL s.1 x),()))) y (fL s.1 y) g1.1 (by grind)) ?_;refine ak ON ?_;refine af rfl ?_;generalize ct (ct s.2 (x,fL s.1 x)) (y,fL s.1 y)=gg;obtain⟨k,v,hk,pW,hv⟩:=uz hxd;refine ak OO ?_;refine ae rfl (ae rfl (aa (a:=x) rfl ?_));refine aa (IG hG (s.1.1,(s.1.2,(gg,()))) x h.d.rw hs.n hs.r hk pW) ?_;refine wK rfl (ae rfl (aa hk ?_));refine aa (abN hG v.2.1 x (h.d.rw.ring hv) (hs.r v hv)) ?_;refine aa hk ?_;have e1:s.1.1.set k (v.1,(j0 v.2.1 x,v.2.2))=(aN s.1 x).1:=QO (w:=(s.1.1,(s.1.2,(gg,())))) h.d.rw hk pW s.1.2;have NJ:Sv (aN s.1 x).1:=by rw[lj h.d.rw hv pW];exact hs.re _ (acR (FB x) (hs.r v hv))
   obtain⟨k2,v2,sL,YW,CP⟩:=uz amK;have e2:(aN s.1 x).1.set k2 (v2.1,(j0 v2.2.1 y,v2.2.2))=(aN (aN s.1 x) y).1:=QO (w:=((aN s.1 x).1,(s.1.2,(gg,())))) q1 sL YW (aN s.1 x).2;have rest:∀a:List an,a=(aN s.1 x).1→LX G 115 Ez Tryz.f115 AX (aE Tryz.prog 115 1) ((((cI s.1.2 (bK o):Nat):Int),((2:Int),((1:Int),()))),(((a,(s.1.2,(gg,()))),()),([x,y],())))=some (((0:Int),()),(((aN (aN s.1 x) y).1,(fw s.1.2 (bK o),(gg,()))),())):=by
    intro a ha;subst ha;refine ak OO ?_;refine ae rfl (ae rfl (aa (a:=y) rfl ?_));refine aa (IG hG ((aN s.1 x).1,(s.1.2,(gg,()))) y q1 NJ.n NJ.r sL YW) ?_;refine wK rfl (ae rfl (aa sL ?_));refine aa (abN hG v2.2.1 y (q1.ring CP) (NJ.r v2 CP)) ?_;refine aa sL ?_;have last:∀b:List an,b=(aN (aN s.1 x) y).1→LX G 115 Ez Tryz.f115 AX (aE Tryz.prog 115 1) ((((cI s.1.2 (bK o):Nat):Int),((2:Int),((2:Int),()))),(((b,(s.1.2,(gg,()))),()),([x,y],())))=some (((0:Int),()),(((aN (aN s.1 x) y).1,(fw s.1.2 (bK o),(gg,()))),())):=by intro b hb;subst hb;refine ak OO ?_;obtain⟨d1,d2⟩:=MP h.d.se hf (by omega);refine af rfl (ae d1 ?_);exact congrArg (fun l:List aj=>some (((0:Int),()),(((aN (aN s.1 x) y).1,(l,(gg,()))),()))) d2
    exact last _ e2
   exact rest _ e1
  ·rw[←hx,←hy];unfold bj;rw[zF MK];rfl
theorem Pc{n:Int}(h0:0≤n)(h3:n≤3):dI .xor .i64 1 (dI .and .i64 n 1)=IntKind.wrap .i64 (1-Int.tmod n 2)∧iq .i64 n 1=IntKind.wrap .i64 (Int.tdiv n 2):=by
 have:n=0∨n=1∨n=2∨n=3:=by omega
 rcases this with rfl|rfl|rfl|rfl<;>exact⟨by decide,by decide⟩
theorem MQ{l:List an}{x:ag}(hw:Rw l){k:Nat}{v:an}(hk:l[k]? = some v)(hx:x∈v.2.1)(y:ag)(e:List aj):l.set k (v.1,(oc v.2.1 x y,v.2.2))=(aU (l,e) x y).1:=by rw[Fw (d:=(l,e)) hw y (List.mem_of_getElem? hk) hx];exact Pb hw.s hk _
theorem amM(hG:HG G)(s:StateT)(o:bP)(h:fN s)(hs:Sv s.1.1)(hm:dV o=0)(hk5:o.1=5) :
    ∃(e:Int) (w:aV),FX G 116 CE ((o,()),(aQ s,()))=some ((e,()),(w,()))∧km e w=pQ s o:=by
  have bA:=h.d.ne;have ND:=h.d.nv;obtain⟨m1,m2,m3,m4⟩:=IA hm hk5;obtain⟨s1,s2⟩:=MM m3 m4;obtain⟨c1,c2⟩:=Pc m3 m4;have key:∀(e:Int) (w:aV),FX G 116 CE ((o,()),(aQ s,()))=some ((e,()),(w,()))→km e w=pQ s o→∃(e:Int) (w:aV),FX G 116 CE ((o,()),(aQ s,()))=some ((e,()),(w,()))∧km e w=pQ s o:=fun e w a b=>⟨e,w,a,b⟩;have start:∀(e:Int) (w:aV),bN 116 CE Tryz.f116 (FX G) (LX G 116 CE Tryz.f116) ((o,()),(aQ s,()))=some ((e,()),(w,()))→FX G 116 CE ((o,()),(aQ s,()))=some ((e,()),(w,())):=fun e w a =>au (hG _ _ rfl) a rfl;unfold pQ
  cases hf:(ba s.1.2 (bK o)).isSome with
  |false =>
    refine⟨13,aQ s,start _ _ ((Zy).trans ?_),?_⟩
    · refine aa (qL hG (aQ s) (bK o) h.d.se (by show s.1.2.length≤_;omega)) ?_
      refine aa (sX hG (aQ s) (iM o) h.d.sv (by show s.1.1.length≤_;omega)) ?_;refine aa (qL hG (aQ s) (bY o) h.d.se (by show s.1.2.length≤_;omega)) ?_;exact aW ((dP (l:=s.1.2) h.d.se).trans hf) rfl
    · rw[if_pos (show(oF s.1 (bK o)).isSome=false from hf)];rfl
  |true =>
  rw[if_neg (show ¬(oF s.1 (bK o)).isSome=false by show ¬(ba s.1.2 (bK o)).isSome=false;rw[hf];simp)]
  cases hfv:(aZ s.1.1 (iM o)).isSome with
  |true =>
    refine⟨12,aQ s,start _ _ ((Zy).trans ?_),?_⟩
    · refine aa (qL hG (aQ s) (bK o) h.d.se (by show s.1.2.length≤_;omega)) ?_
      refine aa (sX hG (aQ s) (iM o) h.d.sv (by show s.1.1.length≤_;omega)) ?_;refine aa (qL hG (aQ s) (bY o) h.d.se (by show s.1.2.length≤_;omega)) ?_;refine aW ((dP (l:=s.1.2) h.d.se).trans hf) (af rfl ?_);exact ae ((gY (l:=s.1.1) h.d.sv).trans hfv) rfl
    · rw[if_pos (show(cH s.1 (iM o)).isSome=true from hfv)];rfl
  |false =>
  rw[if_neg (show ¬(cH s.1 (iM o)).isSome=true by show ¬(aZ s.1.1 (iM o)).isSome=true;rw[hfv];simp)]
  cases hfo:(ba s.1.2 (bY o)).isSome with
  |true =>
    refine⟨12,aQ s,start _ _ ((Zy).trans ?_),?_⟩
    · refine aa (qL hG (aQ s) (bK o) h.d.se (by show s.1.2.length≤_;omega)) ?_
      refine aa (sX hG (aQ s) (iM o) h.d.sv (by show s.1.1.length≤_;omega)) ?_;refine aa (qL hG (aQ s) (bY o) h.d.se (by show s.1.2.length≤_;omega)) ?_;refine aW ((dP (l:=s.1.2) h.d.se).trans hf) (af rfl ?_);refine af ((gY (l:=s.1.1) h.d.sv).trans hfv) ?_;exact ae ((dP (l:=s.1.2) h.d.se).trans hfo) rfl
    · rw[if_pos (show(oF s.1 (bY o)).isSome=true from hfo)];rfl
  |false =>
  rw[if_neg (show ¬(oF s.1 (bY o)).isSome=true by show ¬(ba s.1.2 (bY o)).isSome=true;rw[hfo];simp)];have aq9:aZ s.1.1 (iM o)=none:=by simp_all
  have amN:ba s.1.2 (bY o)=none:=by simp_all
  obtain⟨m,hmm⟩:∃m:ag,m=ZR o:=⟨_,rfl⟩;obtain⟨kk,Zh⟩:∃m:ag,m=YV o:=⟨_,rfl⟩;have Ox:m∈av s.1.1:=by rw[hmm];exact h.d.mn hf s1
  have P7:aw kk∉av s.1.1:=by rw[Zh];exact h.d.De amN _
  obtain⟨p1,q1⟩:=sq h.d.rw Ox P7;have sL:kk.2=0∨kk.2=1:=by rw[Zh];exact s2
  obtain⟨k,v,hk,pW,hv⟩:=uz Ox;have e1:s.1.1.set k (v.1,(oc v.2.1 m (aw kk),v.2.2))=(aU s.1 m (aw kk)).1:=MQ h.d.rw hk pW _ s.1.2;have hlen:(aU s.1 m (aw kk)).1.length=s.1.1.length:=by grind
  have ahB:aZ (aU s.1 m (aw kk)).1 (iM o)=none:=by
    grind [aU,Vs.cE,qK,uq]
  have eM:((bK o,dI .xor .i64 1 (dI .and .i64 (oN o) 1)):ag)=m:=by rw[hmm,c1];rfl
  have eK:((bY o,iq .i64 (oN o) 1):ag)=kk:=by rw[Zh,c2];rfl
  have go:∀(e:Int) (w:aV),(∀a:List an,a=(aU s.1 m (aw kk)).1→((FX G 112 LN (((iM o,(cZ [m,kk],(e0,(0:Int)))),()),((a,(s.1.2,(s.2,()))),()))).bind fun(kj:((Int×Unit)×(aV×Unit))) =>cond (kj.1.1 != (0:Int)) (some (kj.1,((kj.2.1.1,(kj.2.1.2.1,kj.2.1.2.2)),()))) ((FX G 155 B3 ((bY o,()),((kj.2.1.1,(kj.2.1.2.1,kj.2.1.2.2)),()))).bind fun(q8:((Int×Unit)×(aV×Unit))) =>some (q8.1,((q8.2.1.1,(q8.2.1.2.1,q8.2.1.2.2)),()))))=some ((e,()),(w,())))→FX G 116 CE ((o,()),(aQ s,()))=some ((e,()),(w,())):=fun e w rest=>by
    refine start _ _ ((Zy).trans ?_);refine aa (qL hG (aQ s) (bK o) h.d.se (by show s.1.2.length≤_;omega)) ?_;refine aa (sX hG (aQ s) (iM o) h.d.sv (by show s.1.1.length≤_;omega)) ?_;refine aa (qL hG (aQ s) (bY o) h.d.se (by show s.1.2.length≤_;omega)) ?_;refine aW ((dP (l:=s.1.2) h.d.se).trans hf) (af rfl ?_);refine af ((gY (l:=s.1.1) h.d.sv).trans hfv) ?_;refine af ((dP (l:=s.1.2) h.d.se).trans hfo) ?_;refine af rfl ?_;have body:∀mm k2:ag,mm=m→k2=kk→((FX G 162 nT ((mm,()),(aQ s,()))).bind fun(y4:(((Option ((Fin 1)×Nat))×Unit)×(aV×Unit))) =>tB y4.1.1 (none) fun(p5:((Fin 1)×Nat)) =>cond (p5.1.val==0) (((y4.2.1.1)[p5.2]?).bind fun(y6:an) =>(FX G 166 qv ((k2,()),())).bind fun(y7:((ag×Unit)×Unit)) =>(FX G 165 wD ((y6.2.1,(mm,((y7.1.1.1,y7.1.1.2),()))),())).bind fun(y8:(((List ag)×Unit)×Unit)) =>((y4.2.1.1)[p5.2]?).bind fun(y9:an) =>(FX G 167 sQ (([mm,k2],()),())).bind fun(mK:(((List ag)×Unit)×Unit)) =>(FX G 112 LN (((iM o,(mK.1.1,((⟨#[]⟩:ByteArray),(0:Int)))),()),(((List.set y4.2.1.1 p5.2 (y9.1,(y8.1.1,y9.2.2))),(y4.2.1.2.1,y4.2.1.2.2)),()))).bind fun(kj:((Int×Unit)×(aV×Unit))) =>cond (kj.1.1 != (0:Int)) (some (kj.1,((kj.2.1.1,(kj.2.1.2.1,kj.2.1.2.2)),()))) ((FX G 155 B3 ((bY o,()),((kj.2.1.1,(kj.2.1.2.1,kj.2.1.2.2)),()))).bind fun(q8:((Int×Unit)×(aV×Unit))) =>some (q8.1,((q8.2.1.1,(q8.2.1.2.1,q8.2.1.2.2)),())))) (none))=some ((e,()),(w,())):=by intro mm k2 amO amP;subst amO amP;refine aa (IG hG (aQ s) mm h.d.rw hs.n hs.r hk pW) ?_;refine wK rfl (ae rfl (aa hk ?_));refine aa (MO (hG _ _ rfl) k2 sL) ?_;refine aa (abO hG v.2.1 mm (aw k2) (hs.r v hv)) ?_;refine aa hk ?_;refine aa (zy hG [mm,k2] (by simp)) ?_;exact rest _ e1
    exact body _ _ eM eK
  have ara:24≤s.1.1.length→sY ((aU s.1 m (aw kk)).1,(s.1.2,(s.2,()))) (iM o,(cZ [m,kk],(e0,0)))=(3,((aU s.1 m (aw kk)).1,(s.1.2,(s.2,())))):=fun hb=>by
    unfold sY
    grind
  have adD:¬24≤s.1.1.length→sY ((aU s.1 m (aw kk)).1,(s.1.2,(s.2,()))) (iM o,(cZ [m,kk],(e0,0)))=(0,(im (iM o,(cZ [m,kk],(e0,0))) (aU s.1 m (aw kk)).1,(s.1.2,(s.2,())))):=fun hb=>by
    unfold sY
    grind
  by_cases hb:24≤s.1.1.length
  · refine⟨3,((aU s.1 m (aw kk)).1,(s.1.2,(s.2,()))),go _ _ (fun a ha=>?_),?_⟩
    · subst ha
      refine aa (adx hG ((aU s.1 m (aw kk)).1,(s.1.2,(s.2,()))) (iM o,(cZ [m,kk],(e0,0))) q1.s (by grind)) ?_
      grind
    · rw[if_pos hb];rfl
  rw[if_neg hb];have hE:wL (im (iM o,(cZ [m,kk],(e0,0))) (aU s.1 m (aw kk)).1,(s.1.2,(s.2,()))) (bY o)=if 40≤s.1.2.length then(3,(im (iM o,(cZ [m,kk],(e0,0))) (aU s.1 m (aw kk)).1,(s.1.2,(s.2,())))) else(0,(im (iM o,(cZ [m,kk],(e0,0))) (aU s.1 m (aw kk)).1,(ib (bY o,(e0,0)) s.1.2,(s.2,())))):=by
    unfold wL
    grind
  have fin:FX G 116 CE ((o,()),(aQ s,()))=some (((wL (im (iM o,(cZ [m,kk],(e0,0))) (aU s.1 m (aw kk)).1,(s.1.2,(s.2,()))) (bY o)).1,()),((wL (im (iM o,(cZ [m,kk],(e0,0))) (aU s.1 m (aw kk)).1,(s.1.2,(s.2,()))) (bY o)).2,())):=by refine go _ _ (fun a ha=>?_);subst ha;refine aa (adx hG ((aU s.1 m (aw kk)).1,(s.1.2,(s.2,()))) (iM o,(cZ [m,kk],(e0,0))) q1.s (by grind)) ?_;rw[adD hb];refine af rfl ?_;exact aa (abL hG (im (iM o,(cZ [m,kk],(e0,0))) (aU s.1 m (aw kk)).1,(s.1.2,(s.2,()))) (bY o) h.d.se (by grind)) rfl
  rw[hE]at fin;by_cases hb4:40≤s.1.2.length
  · rw[if_pos hb4]at fin ⊢
    exact⟨_,_,fin,rfl⟩
  · rw[if_neg hb4]at fin ⊢
    refine⟨_,_,fin,?_⟩;rw[hmm,Zh];rfl
theorem amQ(hG:HG G)(s:StateT)(o:bP)(h:fN s)(hs:Sv s.1.1) :
    ∃(e:Int) (w:aV),FX G 117 tU ((o,()),(aQ s,()))=some ((e,()),(w,()))∧km e w=pj s o:=by
  have bA:=h.d.ne;have ND:=h.d.nv;have hgn:=h.n;have start:∀(e:Int) (w:aV),bN 117 tU Tryz.f117 (FX G) (LX G 117 tU Tryz.f117) ((o,()),(aQ s,()))=some ((e,()),(w,()))→FX G 117 tU ((o,()),(aQ s,()))=some ((e,()),(w,())):=fun e w a =>au (hG _ _ rfl) a rfl;unfold pj
  cases hf:aZ s.1.1 (bK o) with
  |none =>
    refine⟨13,aQ s,start _ _ ((afT).trans ?_),?_⟩
    · refine aa (sX hG (aQ s) (bK o) h.d.sv (by show s.1.1.length≤_;omega)) ?_
      exact aW ((gY (l:=s.1.1) h.d.sv).trans (by rw[hf])) rfl
    · rw[show cH s.1 (bK o)=none from hf];rfl
  |some v =>
  have hfs:(aZ s.1.1 (bK o)).isSome=true:=by rw[hf];rfl
  have hv:=gZ hf;have hvi:=l9 hf;have oC:=dF h.d.sv hf;have aG:=(abp.1 oC).1;have hgr:=h.d.rw;have go:∀(e:Int) (w:aV),(cond ((((List.length v.2.1):Nat):Int) != (2:Int)) (some (((14:Int),()),(aQ s,()))) _=some ((e,()),(w,())))→FX G 117 tU ((o,()),(aQ s,()))=some ((e,()),(w,())):=fun e w rest=>by refine start _ _ ((afT).trans ?_);refine aa (sX hG (aQ s) (bK o) h.d.sv (by show s.1.1.length≤_;omega)) ?_;refine aW ((gY (l:=s.1.1) h.d.sv).trans hfs) (af rfl ?_);refine ae (dw (kl _) (aJ aG)) (aa oC ?_);exact rest
  rw[show cH s.1 (bK o)=some v from hf];by_cases tL:v.2.1.length=2
  case neg =>
    refine⟨14,aQ s,go _ _ (ae (by grind) rfl),?_⟩;show km 14 (aQ s)=(match v.2.1 with | [r0,r1]=>mO s o r0 r1|_=>(zS,(14,())))
    split
    · grind
    · rfl
  obtain⟨r0,r1,hr⟩:∃r0 r1,v.2.1=[r0,r1]:=by
    match hq:v.2.1,tL with
    |[a,b],_=>grind
  have HW:(((List.length v.2.1:Nat):Int) != (2:Int))=false:=by rw[tL];rfl
  have g0:aP v.2.1 (0:Int)=some r0:=by rw[hr];rfl
  have g1:aP v.2.1 (1:Int)=some r1:=by rw[hr];rfl
  show ∃(e:Int) (w:aV),FX G 117 tU ((o,()),(aQ s,()))=some ((e,()),(w,()))∧km e w=(match v.2.1 with | [r0,r1]=>mO s o r0 r1|_=>(zS,(14,())));rw[hr];show ∃(e:Int) (w:aV),FX G 117 tU ((o,()),(aQ s,()))=some ((e,()),(w,()))∧km e w=mO s o r0 r1;unfold mO;by_cases h01:r0.1=r1.1
  · refine⟨14,aQ s,go _ _ (af HW (aa g0 (aa g1 (ae ((vX r0.1 r1.1).trans (decide_eq_true h01)) rfl)))),?_⟩
    rw[if_pos h01];rfl
  rw[if_neg h01];have b01:=(vX r0.1 r1.1).trans (decide_eq_false h01);have tail:∀a b:ag,v.2.1.Perm [a,b]→a.1≠b.1→((FX G 166 qv ((b,()),())).bind fun(y7:((ag×Unit)×Unit)) =>cond (kD s.1.1 ((bV s.1.1 (bK o):Nat):Int) (IntKind.wrap .i64 (((bV s.1.1 (bK o):Nat):Int)+(1:Int)))) ((FX G 162 nT (((y7.1.1.1,y7.1.1.2),()),(((dW s.1.1 ((bV s.1.1 (bK o):Nat):Int) (IntKind.wrap .i64 (((bV s.1.1 (bK o):Nat):Int)+(1:Int)))),(s.1.2,(s.2,()))),()))).bind fun(y8:(((Option ((Fin 1)×Nat))×Unit)×(aV×Unit))) =>tB y8.1.1 (none) fun(p9:((Fin 1)×Nat)) =>cond (p9.1.val==0) (((y8.2.1.1)[p9.2]?).bind fun(mK:an) =>(FX G 165 wD ((mK.2.1,((y7.1.1.1,y7.1.1.2),(a,()))),())).bind fun(kj:(((List ag)×Unit)×Unit)) =>((y8.2.1.1)[p9.2]?).bind fun(q8:an) =>(FX G 159 oV ((b.1,()),(((List.set y8.2.1.1 p9.2 (q8.1,(kj.1.1,q8.2.2))),(y8.2.1.2.1,y8.2.1.2.2)),()))).bind fun(mY:((Int×(Bool×Unit))×(aV×Unit))) =>cond (kD mY.2.1.2.1 mY.1.1 (IntKind.wrap .i64 (mY.1.1+(1:Int)))) (LX G 117 tU Tryz.f117 pP (aE Tryz.prog 117 0) (((0:Int),()),(((mY.2.1.1,((dW mY.2.1.2.1 mY.1.1 (IntKind.wrap .i64 (mY.1.1+(1:Int)))),mY.2.1.2.2)),((a,()),((b,()),(((y7.1.1.1,y7.1.1.2),()),())))),()))) (none)) (none)) (none))=some (((0:Int),()),(((Ta s o a b).1,((Ta s o a b).2,(NO s.2 a b,()))),())):=by
    intro a b hp Fc;obtain⟨p,q,h1,_,h2,_⟩:=uy h.d.sv hv;have pd:(av s.1.1).Perm (a::b::av (p++q)):=by
      have:=(lg p q v).trans (ad1 _ hp)
      grind
    have QP:gu s.1.1 (bK o)=p++q:=by grind
    have WX:bj s.1 (bK o) zI=(p++q,s.1.2):=by unfold bj;rw[QP,zB h.d.ge]
    have GL:=pd.nodup_iff.1 hgr.n;have hbm:b∈ends s.1.2:=h.d.pd.mem_iff.1 (pd.mem_iff.2 (by simp));obtain⟨e,he,he1,KI⟩:=cy.1 hbm;have Ek:(ba s.1.2 b.1).isSome=true:=by unfold ba;grind
    obtain⟨_,ho⟩:=iP KI;have adB:aw b∈av (p++q):=by
      have h3:aw b∈av s.1.1:=h.d.mn (s:=(aw b).2) Ek (by omega);rcases abq.1 (pd.mem_iff.1 h3) with k|k
      · grind
      rcases abq.1 k with k|k
      · have:=congrArg Prod.snd k;omega
      · exact k
    have ZW:Rw (p++q):=⟨by rw[←h2];exact sj h.d.sv,(acC.1 (acC.1 GL).2).2⟩;have br:∀u∈p++q,u∈s.1.1:=fun u hu=>by
      grind
    have NJ:Sv (p++q):=⟨by
      grind,fun u hu=>hs.r u (br u hu)⟩
    obtain⟨dk1,dk2⟩:=W9 h.d.sv hfs (by omega);rw[QP]at dk2;obtain⟨k,u,hk,hxu,hu⟩:=uz adB;have e1:(p++q).set k (u.1,(oc u.2.1 (aw b) a,u.2.2))=(aU (p++q,s.1.2) (aw b) a).1:=MQ ZW hk hxu _ s.1.2;have MK:∀w∈(aU (p++q,s.1.2) (aw b) a).1,GV w:=xL (d:=(p++q,s.1.2)) (fun w hw=>h.d.gv w (br w hw)) _ _;have eD:Ta s o a b=((aU (p++q,s.1.2) (aw b) a).1,fw s.1.2 b.1):=by unfold Ta;rw[WX];unfold bj;rw[zF MK];rfl
    have ga:=ll h.g h.n ((b.1,0),ti a b 0);rw[eD];refine aa (MO (hG _ _ rfl) b KI) ?_;refine ae dk1 ?_;have r1:∀l1:List an,l1=p++q→((FX G 162 nT ((aw b,()),((l1,(s.1.2,(s.2,()))),()))).bind fun(y8:(((Option ((Fin 1)×Nat))×Unit)×(aV×Unit))) =>tB y8.1.1 (none) fun(p9:((Fin 1)×Nat)) =>cond (p9.1.val==0) (((y8.2.1.1)[p9.2]?).bind fun(mK:an) =>(FX G 165 wD ((mK.2.1,(aw b,(a,()))),())).bind fun(kj:(((List ag)×Unit)×Unit)) =>((y8.2.1.1)[p9.2]?).bind fun(q8:an) =>(FX G 159 oV ((b.1,()),(((List.set y8.2.1.1 p9.2 (q8.1,(kj.1.1,q8.2.2))),(y8.2.1.2.1,y8.2.1.2.2)),()))).bind fun(mY:((Int×(Bool×Unit))×(aV×Unit))) =>cond (kD mY.2.1.2.1 mY.1.1 (IntKind.wrap .i64 (mY.1.1+(1:Int)))) (LX G 117 tU Tryz.f117 pP (aE Tryz.prog 117 0) (((0:Int),()),(((mY.2.1.1,((dW mY.2.1.2.1 mY.1.1 (IntKind.wrap .i64 (mY.1.1+(1:Int)))),mY.2.1.2.2)),((a,()),((b,()),((aw b,()),())))),()))) (none)) (none))=some (((0:Int),()),(((aU (p++q,s.1.2) (aw b) a).1,(fw s.1.2 b.1,(NO s.2 a b,()))),())):=by
      intro l1 hl1;subst hl1;refine aa (IG hG (p++q,(s.1.2,(s.2,()))) (aw b) ZW NJ.n NJ.r hk hxu) ?_;refine wK rfl (ae rfl (aa hk ?_));refine aa (abO hG u.2.1 (aw b) a (NJ.r u hu)) ?_;refine aa hk ?_;have r2:∀l2:List an,l2=(aU (p++q,s.1.2) (aw b) a).1→((FX G 159 oV ((b.1,()),((l2,(s.1.2,(s.2,()))),()))).bind fun(mY:((Int×(Bool×Unit))×(aV×Unit))) =>cond (kD mY.2.1.2.1 mY.1.1 (IntKind.wrap .i64 (mY.1.1+(1:Int)))) (LX G 117 tU Tryz.f117 pP (aE Tryz.prog 117 0) (((0:Int),()),(((mY.2.1.1,((dW mY.2.1.2.1 mY.1.1 (IntKind.wrap .i64 (mY.1.1+(1:Int)))),mY.2.1.2.2)),((a,()),((b,()),((aw b,()),())))),()))) (none))=some (((0:Int),()),(((aU (p++q,s.1.2) (aw b) a).1,(fw s.1.2 b.1,(NO s.2 a b,()))),())):=by
        intro l2 tL;subst tL;refine aa (qL hG ((aU (p++q,s.1.2) (aw b) a).1,(s.1.2,(s.2,()))) b.1 h.d.se (by grind)) ?_;obtain⟨ek1,ek2⟩:=MP h.d.se Ek (by omega);refine ae ek1 ?_;have r3:∀l3:List aj,l3=fw s.1.2 b.1→(LX G 117 tU Tryz.f117 pP (aE Tryz.prog 117 0) (((0:Int),()),((((aU (p++q,s.1.2) (aw b) a).1,(l3,(s.2,()))),((a,()),((b,()),((aw b,()),())))),())))=some (((0:Int),()),(((aU (p++q,s.1.2) (aw b) a).1,(fw s.1.2 b.1,(NO s.2 a b,()))),())):=by
          intro l3 hl3;subst hl3;have eb:b=(b.1,b.2):=rfl;have eo:aw b=(b.1,(aw b).2):=rfl;rcases ho with⟨NM,SH⟩|⟨hb1,Y9⟩
          · rw[NM]at eb;rw[SH]at eo
            have t0:ti a b 0=zD:=by unfold ti;rw[if_neg (by rw[eo];simp)]
            have t1:ti a b 1=a:=by unfold ti;grind
            rw[t0,←eb]at ga;have eG:NO s.2 a b=ct (ct s.2 (b,zD)) (aw b,a):=by grind [NO]
            rw[eG];refine ak AZ ?_;refine ae rfl (ae (by grind) ?_);refine aa (IF hG ((aU (p++q,s.1.2) (aw b) a).1,(fw s.1.2 b.1,(s.2,()))) b zD h.g (by grind)) ?_;refine ak AZ ?_;refine ae rfl (af (by show(b.2==(1:Int))=false;simp[NM]) ?_);refine aa (IF hG ((aU (p++q,s.1.2) (aw b) a).1,(fw s.1.2 b.1,(ct s.2 (b,zD),()))) (aw b) a ga.1 (by grind)) ?_;refine ak AZ ?_;rfl
          · rw[hb1]at eb;rw[Y9]at eo
            have t0:ti a b 0=a:=by unfold ti;grind
            have t1:ti a b 1=zD:=by unfold ti;rw[if_neg (by rw[eo];simp)]
            rw[t0,←eo]at ga;have eG:NO s.2 a b=ct (ct s.2 (aw b,a)) (b,zD):=by grind [NO]
            rw[eG];refine ak AZ ?_;refine ae rfl (af (by grind) ?_);refine aa (IF hG ((aU (p++q,s.1.2) (aw b) a).1,(fw s.1.2 b.1,(s.2,()))) (aw b) a h.g (by grind)) ?_;refine ak AZ ?_;refine ae rfl (ae (by show(b.2==(1:Int))=true;simp[hb1]) ?_);refine aa (IF hG ((aU (p++q,s.1.2) (aw b) a).1,(fw s.1.2 b.1,(ct s.2 (aw b,a),()))) b zD ga.1 (by grind)) ?_;refine ak AZ ?_;rfl
        exact r3 _ ek2
      exact r2 _ e1
    exact r1 _ dk2
  have bo:∀y:ag,((y.1.1==(bY o).1)&&(y.1.2==(bY o).2))=decide (y.1=bY o):=fun y=>vX y.1 (bY o);by_cases h0:r0.1=bY o
  · rw[if_pos h0]
    refine⟨0,((Ta s o r1 r0).1,((Ta s o r1 r0).2,(NO s.2 r1 r0,()))),go _ _ (af HW (aa g0 (aa g1 (af b01 (aa g0 (aa g1 (ae ((bo r0).trans (decide_eq_true h0)) ?_))))))),rfl⟩;refine aW ((bo r0).trans (decide_eq_true h0)) (af rfl ?_);exact tail r1 r0 (by rw[hr];exact List.Perm.swap _ _ _) (fun k=>h01 k.symm)
  rw[if_neg h0];by_cases h1:r1.1=bY o
  · rw[if_pos h1]
    refine⟨0,((Ta s o r0 r1).1,((Ta s o r0 r1).2,(NO s.2 r0 r1,()))),go _ _ (af HW (aa g0 (aa g1 (af b01 (aa g0 (aa g1 (af ((bo r0).trans (decide_eq_false h0)) ?_))))))),rfl⟩;refine aW ((bo r1).trans (decide_eq_true h1)) (af rfl ?_);exact tail r0 r1 (by rw[hr]) h01
  rw[if_neg h1];refine⟨14,aQ s,go _ _ (af HW (aa g0 (aa g1 (af b01 (aa g0 (aa g1 (af ((bo r0).trans (decide_eq_false h0)) ?_))))))),rfl⟩;exact aW ((bo r1).trans (decide_eq_false h1)) (ae rfl rfl)
end Go.Vs
namespace Go.Vs
open Go.Proofs
theorem II{row:List ag}(hn:row.Nodup){i j:Nat}{hi:i<row.length}{hj:j<row.length}(h:row[i]=row[j]):i=j:=by
 grind [Nat.lt_trichotomy,absurd,List.pairwise_iff_getElem]
theorem IJ{row:List ag}(hn:row.Nodup){i j:Nat}{x:ag}(hi:row[i]? = some x)(hj:row[j]? = some x):i=j:=by
 grind [List.getElem?_eq_some_iff,II]
theorem MR(row:List ag):∃j,j≤row.length∧cZ row=Gv row j:=by
 by_cases h0:row.length=0
 ·have:row=[]:=by simpa using h0
  subst this;exact⟨0,by simp,rfl⟩
 ·exact⟨ia row row 0 0,Nat.le_of_lt (sf row row 0 0 (by omega) (by omega)),rfl⟩
theorem ZX{row:List ag}(hn:row.Nodup){k:Nat}{x:ag}(hk:row[k]? = some x):idx x row 0=(k:Int):=by
 grind [O7,IJ]
end Go.Vs
namespace Go.Vs
open Go.Proofs
variable {G:(f:FuncId)→(g:aO)→Option (g.A→Option g.B)}
theorem Tn(l:List an)(x:ID):l.any (fun w=>decide (w.1=x))=(aZ l x).isSome:=by rw[Bool.eq_iff_iff,List.any_eq_true];unfold aZ;simp_all
theorem Tp(l:List aj)(x:ID):l.any (fun w=>decide (w.1=x))=(ba l x).isSome:=by rw[Bool.eq_iff_iff,List.any_eq_true];unfold ba;simp_all
theorem Tq(s:StateT)(o:bP):km (xJ (aQ s) o).1 (xJ (aQ s) o).2=A6 s o:=by
 unfold xJ A6 ahr ahs;rw[Tn,Tp];by_cases ho:A5 o=true
 ·have hv:s.1.1.map (tg o)=s.1.1:=by
   conv=>rhs;rw[←List.map_id s.1.1]
   exact List.map_congr_left fun u hu=>by simp_all [tg,if_neg]
  rw[if_pos ho,ho,hv];show km (if(ba s.1.2 (bK o)).isSome=true then _ else _:Int×aV).1 (if(ba s.1.2 (bK o)).isSome=true then _ else _:Int×aV).2=_
  cases (ba s.1.2 (bK o)).isSome<;>rfl
 ·have mC:A5 o=false:=by simpa using ho
  have he:s.1.2.map (xH o)=s.1.2:=by
   conv=>rhs;rw[←List.map_id s.1.2]
   exact List.map_congr_left fun u hu=>by simp_all [xH,if_neg]
  rw[if_neg ho,mC,he];show km (if(aZ s.1.1 (bK o)).isSome=true then _ else _:Int×aV).1 (if(aZ s.1.1 (bK o)).isSome=true then _ else _:Int×aV).2=_
  cases (aZ s.1.1 (bK o)).isSome<;>rfl
theorem Xa(hG:HG G)(w:aV)(o:bP)(hk:7≤o.1)(hv:cg w.1)(he:dv w.2.1)(T8:w.1.length≤50000000)(hle:w.2.1.length≤50000000) :
  FX G 85 JQ ((o,()),(w,()))=some (((xJ w o).1,()),((xJ w o).2,())):=by
 refine au (hG _ _ rfl) OM ?_;have kn:∀k:Int,k<7→(o.1==k)=false:=fun k sL=>Cj (by omega);refine af (kn 1 (by omega)) (af (kn 2 (by omega)) (af (kn 3 (by omega)) (af (kn 4 (by omega)) (af (kn 5 (by omega)) (af (kn 6 (by omega)) ?_)))));exact aa (amE hG w o hv he T8 hle) rfl
def opL(x:ID)(e:Bool)(t:ByteArray):bP:=(7,(x,(zI,(zI,(zC,(zC,(e,(t,0))))))))
def opA(x:ID)(e:Bool)(n:Int):bP:=(8,(x,(zI,(zI,(zC,(zC,(e,(e0,n))))))))
theorem Bk{t:ByteArray}(h:dY t=true):t.size≤16:=by simp_all [dY,Bool.and_eq_true,decide_eq_true_eq]
theorem adE:oq 0:=by unfold oq;omega
theorem MS{l:List an}(hs:cg l){v w:an}(hv:v∈l)(hw:w∈l)(h:w.1=v.1):w=v:=by
 have h1:=ma hs hv
 grind [ma,Option.some.inj]
structure Lay(s t:StateT):Prop where
 v:cg t.1.1
 e:dv t.1.2
 sm:Sm t.1
 g:t.2.length≤50000000
theorem Cl(l:List aj):(ends l).length=2*l.length:=by
 induction l with
 |nil=>rfl
 |cons e r ih=>grind [eY]
theorem ZY{l:List an}{v:an}(h:v∈l):v.2.1.length≤(av l).length:=by
 obtain⟨a,b,rfl⟩:=adm h
 grind [la,dQ]
theorem Wf.mo{d:ar}(h:Wf d):∀v∈d.1,v.2.1.length≤80:=fun v hv=>by
 have h1:=ZY hv;have h2:=h.pd.length_eq;have h3:=h.ne
 grind [Cl]
theorem Wf.sm{d:ar}(h:Wf d):Sm d:=⟨by have:=h.nv;omega,by have:=h.ne;omega,fun v hv=>by have:=h.mo v hv;omega⟩
theorem Wf.small{d:ar}(h:Wf d):Sv d.1:=⟨by have:=h.nv;omega,fun v hv=>by have:=h.mo v hv;omega⟩
theorem Ts(s:StateT)(o:bP):km (sY (aQ s) (bK o,([],(e0,0)))).1 (sY (aQ s) (bK o,([],(e0,0)))).2=sW s o:=by
 by_cases hh:(aZ s.1.1 (bK o)).isSome=true
 ·have a:sY (aQ s) (bK o,([],(e0,0)))=(12,aQ s):=if_pos hh;have b:sW s o=(zS,(12,())):=if_pos hh;rw[a,b];rfl
 by_cases h:24≤s.1.1.length
 ·have a:sY (aQ s) (bK o,([],(e0,0)))=(3,aQ s):=(if_neg hh).trans (if_pos h);have b:sW s o=(zS,(3,())):=(if_neg hh).trans (if_pos h);rw[a,b];rfl
 ·have a:sY (aQ s) (bK o,([],(e0,0)))=(0,(im (bK o,([],(e0,0))) (aQ s).1,(aQ s).2)):=(if_neg hh).trans (if_neg h);have b:sW s o=(((im (bK o,([],(e0,0))) s.1.1,s.1.2),s.2),(0,())):=(if_neg hh).trans (if_neg h);rw[a,b];rfl
theorem Tt{s:StateT}(h:fN s)(o:bP):km (Is (aQ s) (bK o)).1 (Is (aQ s) (bK o)).2=Ci s o:=by
 unfold Is Ci cH;show km (match aZ s.1.1 (bK o) with|none=>(13,aQ s)|some v=>if 0<v.2.1.length then(14,aQ s) else(0,(gu s.1.1 (bK o),(s.1.2,(s.2,())))):Int×aV).1 (match aZ s.1.1 (bK o) with|none=>(13,aQ s)|some v=>if 0<v.2.1.length then(14,aQ s) else(0,(gu s.1.1 (bK o),(s.1.2,(s.2,())))):Int×aV).2=_
 cases aZ s.1.1 (bK o) with
 |none=>rfl
 |some v =>
  simp only;by_cases hl:0<v.2.1.length
  ·rw[if_pos hl,if_pos hl];rfl
  ·rw[if_neg hl,if_neg hl];unfold bj;rw[zB h.d.ge];rfl
def QQ(s:StateT)(o:bP):StateT×(Int×Unit) :=if o.1=1 then sW s o else if o.1=2 then Ci s o else if o.1=3 then uo s o else if o.1=4 then MC s o else if o.1=5 then pQ s o else if o.1=6 then pj s o else A6 s o
theorem Tu(s:StateT)(o:bP):qI s o=if dV o≠0 then(zS,(dV o,())) else QQ s o:=rfl
theorem Xb(hG:HG G)(s:StateT)(o:bP)(h:fN s)(hm:dV o=0)(h3:o.1=3→∃(e:Int) (w:aV),FX G 114 rP ((o,()),(aQ s,()))=some ((e,()),(w,()))∧km e w=uo s o) :
  ∃(e:Int) (w:aV),FX G 85 JQ ((o,()),(aQ s,()))=some ((e,()),(w,()))∧km e w=QQ s o:=by
 have hk:=FA hm;have ZZ:=h.d.small;have ND:=h.d.nv;have bA:=h.d.ne;have start:∀(e:Int) (w:aV),bN 85 JQ Tryz.f85 (FX G) (LX G 85 JQ Tryz.f85) ((o,()),(aQ s,()))=some ((e,()),(w,()))→FX G 85 JQ ((o,()),(aQ s,()))=some ((e,()),(w,())):=fun e w a =>au (hG _ _ rfl) a rfl;unfold QQ;by_cases h1:o.1=1
 ·rw[if_pos h1];refine⟨_,_,start _ _ ((OM).trans (ae (KP h1) (aa (adx hG (aQ s) (bK o,([],(e0,0))) h.d.sv ZZ.n) rfl))),?_⟩;exact Ts s o
 rw[if_neg h1];by_cases h2:o.1=2
 ·rw[if_pos h2];refine⟨_,_,start _ _ ((OM).trans (af (Cj h1) (ae (KP h2) (aa (amz hG (aQ s) o h.d.sv ZZ.n) rfl)))),?_⟩;exact Tt h o
 rw[if_neg h2];by_cases T9:o.1=3
 ·rw[if_pos T9];obtain⟨e,w,a,b⟩:=h3 T9;exact⟨e,w,start _ _ ((OM).trans (af (Cj h1) (af (Cj h2) (ae (KP T9) (aa a rfl))))),b⟩
 rw[if_neg T9];by_cases hk4:o.1=4
 ·rw[if_pos hk4];obtain⟨e,w,a,b⟩:=amI hG s o h ZZ;exact⟨e,w,start _ _ ((OM).trans (af (Cj h1) (af (Cj h2) (af (Cj T9) (ae (KP hk4) (aa a rfl)))))),b⟩
 rw[if_neg hk4];by_cases hk5:o.1=5
 ·rw[if_pos hk5];obtain⟨e,w,a,b⟩:=amM hG s o h ZZ hm hk5;exact⟨e,w,start _ _ ((OM).trans (af (Cj h1) (af (Cj h2) (af (Cj T9) (af (Cj hk4) (ae (KP hk5) (aa a rfl))))))),b⟩
 rw[if_neg hk5];by_cases hk6:o.1=6
 ·rw[if_pos hk6];obtain⟨e,w,a,b⟩:=amQ hG s o h ZZ;exact⟨e,w,start _ _ ((OM).trans (af (Cj h1) (af (Cj h2) (af (Cj T9) (af (Cj hk4) (af (Cj hk5) (ae (KP hk6) (aa a rfl)))))))),b⟩
 rw[if_neg hk6];refine⟨_,_,Xa hG (aQ s) o (by omega) h.d.sv h.d.se ZZ.n (by show s.1.2.length≤_;omega),?_⟩;exact Tq s o
def kq(G:(f:FuncId)→(g:aO)→Option (g.A→Option g.B))(o:bP):Prop:=∀s,fN s→dV o=0→o.1=3→∃(e:Int) (w:aV),FX G 114 rP ((o,()),(aQ s,()))=some ((e,()),(w,()))∧km e w=uo s o
theorem Xc{s:StateT}{o:bP}(hm:dV o=0):QQ s o=qI s o:=by simp_all [Tu,if_neg]
theorem amU(hG:HG G)(l:List bP)(hl:l.length≤1073741824)(hm:∀o∈l,dV o=0)(h3:∀o∈l,kq G o):∀(n i:Nat) (s:StateT),i+n=l.length→fN s → LX G 64 LL Tryz.f64 ET (aE Tryz.prog 64 0) ((l,(((l.length:Nat):Int),((i:Int),()))),((zW,(aQ s,())),()))=some (Kc (l.drop i) s,()):=by
 intro n
 induction n with
 |zero =>intro i s hi hw;refine ak VI ?_;refine af (decide_eq_false (show ¬((i:Int)<((l.length:Nat):Int)) by omega)) ?_;rw[List.drop_eq_nil_of_le (by omega)];rfl
 |succ n ih =>
  intro i s hi hw;have aG:i<l.length:=by omega
  have ho:=hm l[i] (acG aG);obtain⟨e,w,h1,h2⟩:=Xb hG s l[i] hw ho (h3 _ (acG aG) s hw ho);rw[Xc ho]at h2;refine ak VI ?_;refine ae (aJ aG) (aa (ai (abf aG)) ?_);refine aa h1 ?_;rw[List.drop_eq_getElem_cons aG,Kc];have Jh:=hw.one l[i];by_cases he:e=0
  ·have e1:km e w=(Dc w,(0,())):=if_neg (by simp[he]);rw[e1]at h2;rw[←h2]at Jh ⊢;rw[if_neg (by simp)];refine af (show(e != 0)=false by simp[he]) ?_;have:=ih (i+1) (Dc w) (by omega) Jh;rw[←aB aG hl]at this;exact this
  ·have e1:km e w=(zS,(e,())):=if_pos he;rw[e1]at h2;rw[←h2,if_pos he];exact ae (show(e != 0)=true by simp[he]) rfl
theorem adF(hG:HG G)(s:StateT)(l:List bP)(hw:fN s)(hl:l.length≤1073741824)(hm:∀o∈l,dV o=0)(h3:∀o∈l,kq G o):FX G 64 LL ((s,l,()),())=some (Kc l s,()):=by have hn:=hw.n;refine au (hG _ _ rfl) alp ?_;refine aa (aht hG s.1 hw.d.sm) ?_;refine aa (adw (hG _ _ rfl) s.2 (by omega)) ?_;have:=amU hG l hl hm h3 l.length 0 s (by omega) hw;rw[List.drop_zero]at this;exact this
theorem MT(l:List bP)(h:qF l=0):∀o∈l,dV o=0:=by
 induction l with
 |nil=>simp_all
 |cons o r ih =>
  rw[qF]at h
  grind
theorem Pd{l:List bP}(h:ig l=0):∀o∈l,dV o=0:=by
 grind [ig,MT]
theorem amV(hG:HG G)(s:StateT)(l:List bP)(hw:fN s)(hl:l.length≤1073741824)(hf:∀o∈l,Fit o)(h3:∀o∈l,kq G o):FX G 40 Vk ((s,l,()),())=some (eV s l,()):=by
 refine au (hG _ _ rfl) ali ?_;refine aa (ahx hG l hl hf) ?_;unfold eV;by_cases hm:ig l=0
 ·rw[if_neg (by simp[hm])];refine af (show(ig l != 0)=false by simp[hm]) ?_;exact aa (adF hG s l hw hl (Pd hm) h3) rfl
 ·rw[if_pos hm];exact ae (show(ig l != 0)=true by simp[hm]) rfl
theorem ahF(hG:HG G)(s:StateT)(l:List bP)(hw:fN s)(hl:l.length≤1073741824)(hf:∀o∈l,Fit o)(h3:∀o∈l,kq G o):FX G 62 LK ((s,l,()),())=some ((kB s l,()),()):=by
 have hn:=hw.n;refine au (hG _ _ rfl) alm ?_;refine aa (amV hG s l hw hl hf h3) ?_;unfold kB;by_cases he:(eV s l).2.1=0
 ·rw[if_neg (by simp[he])];exact af (show((eV s l).2.1 != 0)=false by simp[he]) rfl
 ·rw[if_pos he];refine ae (show((eV s l).2.1 != 0)=true by simp[he]) ?_;refine aa (aht hG s.1 hw.d.sm) ?_;exact aa (adw (hG _ _ rfl) s.2 (by omega)) rfl
end Go.Vs
