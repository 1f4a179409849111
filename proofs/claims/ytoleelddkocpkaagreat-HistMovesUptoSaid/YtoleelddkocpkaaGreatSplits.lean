/- Edges cut and split -/
import Derived.Test.YtoleelddkocpkaaGreatFormed
import Derived.Test.YtoleelddkocpkaaGreatTop
set_option linter.unusedVariables false
set_option linter.unusedSimpArgs false
namespace Go.Vs
open Go.Proofs
variable {G:(f:FuncId)→(g:aN)→Option (g.A→Option g.B)}
theorem aaD(hG:HG G)(v:ax)(x:ab):FX G 219 GH ((v,x,()),())=some ((nL v.1 x,()),()):=by refine av (hG _ _ rfl) ae2 ?_;exact aa (VA hG v.1 x) rfl
def eT(l:List ax)(x:ab):Nat:=l.countP fun v=>mv v.1 x
theorem IW(l:List ax)(x:ab):eT l x≤l.length:=adr
theorem zO{l:List ax}{x:ab}(h:∀v∈l,mv v.1 x=false):eT l x=0:=by
 grind [eT,List.countP_eq_zero]
theorem G9{x:ab}:∀{l:List ax},iQ l→∀(k:Nat) (v:ax),l[k]? = some v→(mv v.1 x=true↔k<eT l x)
 |[],_,k,v,h=>by simp at h
 |w::r,hs,k,v,h=>by
  have hw:∀{u:ax},u∈r→mv w.1 u.1=true:=fun {u} hu=>acF hs hu;have hr:iQ r:=hs.of_cons;by_cases aO:mv w.1 x=true
  ·have e:eT (w::r) x=eT r x+1:=by grind [eT,List.countP_cons_of_pos]
   cases k with
   |zero=>simp_all
   |succ k=>have:=G9 (x:=x) hr k v (by simpa using h);simp_all
  ·have hn:∀u∈w::r,mv u.1 x=false:=fun u hu=>by
    rcases abz.1 hu with rfl|hu
    ·simp_all
    ·rw[Bool.eq_false_iff];grind [jG]
   grind [zO,List.mem_of_getElem?]
theorem VN(hG:HG G)(l:List ax)(x:ab)(hs:iQ l)(hl:l.length≤50000000):∀(n i j:Nat),j-i≤n→i≤eT l x→eT l x≤j→j≤l.length → LX G 220218 jV Tryz.f218 ju (aK Tryz.prog 218 0) ((l,(((l.length:Nat):Int),((i:Int),((j:Int),())))),(((x,()),()),()))=some (((((eT l x:Nat):Int),(decide ((l[eT l x]?).map (·.1)=some x),())):Int×(Bool×Unit)),()):=by
 have vF:=IW l x;have fin:∀(i j:Nat),¬(i<j)→i≤eT l x→eT l x≤j→LX G 220218 jV Tryz.f218 ju (aK Tryz.prog 218 0) ((l,(((l.length:Nat):Int),((i:Int),((j:Int),())))),(((x,()),()),()))=some (((((eT l x:Nat):Int),(decide ((l[eT l x]?).map (·.1)=some x),())):Int×(Bool×Unit)),()):=fun i j Gf h1 h2=>by
  have hi:i=eT l x:=by omega
  subst hi;refine ar DT ?_;refine af (decide_eq_false (show ¬(((eT l x:Nat):Int)<(j:Int)) by omega)) ?_;by_cases hc:eT l x<l.length
  ·have hx:l[eT l x]? = some l[eT l x]:=abn hc;refine ae (aT hc) ?_;refine aa (aA hx) ?_;refine aa (aaD hG l[eT l x] x) ?_;refine congrArg (fun b:Bool=>some ((((eT l x:Nat):Int),(b,())),())) ?_
   grind [nL,eT]
  ·refine af (decide_eq_false (show ¬(((eT l x:Nat):Int)<((l.length:Nat):Int)) by omega)) ?_;refine congrArg (fun b:Bool=>some ((((eT l x:Nat):Int),(b,())),())) ?_;simp_all
 intro n
 induction n with
 |zero=>grind
 |succ n ih =>
  intro i j Gf h1 h2 h3;by_cases aO:i<j
  case neg=>grind
  refine ar DT ?_;refine ae (decide_eq_true (show((i:Int)<(j:Int)) by omega)) ?_;refine af rfl ?_;have hm:=Nr (i:=i) (j:=j) (by omega) (by omega);have hh:(i+j) / 2<l.length:=by omega
  have hx:l[(i+j) / 2]? = some l[(i+j) / 2]:=abn hh;have qL:=G9 (x:=x) hs ((i+j) / 2) _ hx;refine aa (show aS l (IntKind.wrap .i64 (ir .u64 (IntKind.wrap .u64 (IntKind.wrap .i64 ((i:Int)+(j:Int)))) (1:Int)))=some l[(i+j) / 2] by rw[hm];exact aA hx) ?_;refine aa (aaD hG l[(i+j) / 2] x) ?_;by_cases ho:mv l[(i+j) / 2].1 x=true
  ·refine ae (decide_eq_true ((xZ _ _).2 ho)) ?_;have hc:=qL.1 ho;have hw:IntKind.wrap .i64 (IntKind.wrap .i64 (ir .u64 (IntKind.wrap .u64 (IntKind.wrap .i64 ((i:Int)+(j:Int)))) (1:Int))+1)=(((i+j) / 2+1:Nat):Int):=by rw[hm];exact aD hh (by omega)
   have:=ih ((i+j) / 2+1) j (by omega) (by omega) h2 h3;rw[←hw]at this;exact this
  ·refine af (decide_eq_false (fun h=>ho ((xZ _ _).1 h))) ?_;have hc:¬(i+j) / 2<eT l x:=fun h=>ho (qL.2 h);have:=ih i ((i+j) / 2) (by omega) h1 (by omega) (by omega);rw[←hm]at this;exact this
theorem VO(hG:HG G)(l:List ax)(x:ab)(hs:iQ l)(hl:l.length≤50000000) :
  FX G 220218 jV ((l,x,()),())=some (((((eT l x:Nat):Int),(decide ((l[eT l x]?).map (·.1)=some x),())):Int×(Bool×Unit)),()):=by
 refine av (hG _ _ rfl) U5 ?_;exact VN hG l x hs hl l.length 0 l.length (by omega) (by omega) (IW l x) (acb _)
theorem Lt(g:ax):∀{l:List ax},iQ l→mj g l=if(l[eT l g.1]?).map (·.1)=some g.1 then l.set (eT l g.1) g else l.take (eT l g.1)++(g::l.drop (eT l g.1))
 |[],_=>rfl
 |w::r,hs=>by
  have hw:∀{u:ax},u∈r→mv w.1 u.1=true:=fun {u} hu=>acF hs hu;have hr:iQ r:=adE hs;by_cases aO:mv w.1 g.1=true
  ·have e:eT (w::r) g.1=eT r g.1+1:=by grind [eT,List.countP_cons_of_pos]
   have bz:w.1≠g.1:=fun k=>by grind [eX]
   have tG:¬nL g.1 w.1≤0:=fun k=>by
    grind [q8,jG,eX]
   have ih:=Lt g hr;rw[e,mj,if_neg tG,if_pos bz,ih]
   grind
  ·have hn:∀u∈w::r,mv u.1 g.1=false:=fun u hu=>by
    rcases abz.1 hu with rfl|hu
    ·simp_all
    ·rw[Bool.eq_false_iff];grind [jG]
   rw[zO hn];by_cases he:w.1=g.1
   ·have al2:nL g.1 w.1≤0:=q8.2 (.inl he.symm);have h1:oK g (w::r)=r:=by
     have:oK g (w::r)=oK g r:=by grind [oK,List.filter_cons_of_neg]
     grind [uG,eX]
    simp_all [mj,if_pos]
   ·have Ov:mv g.1 w.1=true:=zK (by simp_all) he;have al2:nL g.1 w.1≤0:=q8.2 (.inr Ov);have h1:oK g (w::r)=w::r:=uG (fun q hq k=>by
     grind)
    simp_all [mj,if_pos,if_neg]
theorem Hc{x:ab}:∀{l:List ax},iQ l→(ia l x).isSome=decide ((l[eT l x]?).map (·.1)=some x)
 |[],_=>rfl
 |w::r,hs=>by
  have hw:∀{u:ax},u∈r→mv w.1 u.1=true:=fun {u} hu=>acF hs hu;have hr:iQ r:=adE hs;rw[q9];by_cases aO:mv w.1 x=true
  ·have e:eT (w::r) x=eT r x+1:=by grind [eT,List.countP_cons_of_pos]
   have bz:w.1≠x:=fun k=>by grind [eX]
   rw[e,if_neg bz,Hc hr,List.getElem?_cons_succ]
  ·have hn:∀u∈w::r,mv u.1 x=false:=fun u hu=>by
    rcases abz.1 hu with rfl|hu
    ·simp_all
    ·rw[Bool.eq_false_iff];grind [jG]
   rw[zO hn];by_cases he:w.1=x
   ·simp[he]
   ·have Ov:mv x w.1=true:=zK (by simp_all) he;have:ia r x=none:=by
     grind [ia,List.find?,decide,List.find?_eq_none,jG,eX]
    simp_all
theorem agk(hG:HG G)(l:List ax)(g:ax)(hs:iQ l)(hl:l.length≤50000000):FX G 199 KB ((l,g,()),())=some ((bS l g,()),()):=by
 refine av (hG _ _ rfl) aeT ?_;refine aa (VO hG l g.1 hs hl) ?_;refine aa (ab9 (hG _ _ rfl) l hl) ?_;unfold bS;rw[Hc hs,Lt g hs];have hc:eT l g.1≤l.length:=IW l g.1;by_cases h:(l[eT l g.1]?).map (·.1)=some g.1
 ·rw[decide_eq_true h,if_neg (fun k=>by cases k.1),if_pos h];refine ae rfl ?_;obtain⟨u,hu,_⟩:∃u,l[eT l g.1]? = some u∧u.1=g.1:=by simp_all
  have aO:=(abu.1 hu).1;refine ae (cK (fG _) (aT aO)) ?_;exact aa hu rfl
 ·rw[decide_eq_false h,if_neg h];refine af rfl ?_;by_cases h4:400≤l.length
  ·rw[if_pos ⟨rfl,h4⟩];exact af (decide_eq_false (show ¬((l.length:Nat):Int)<400 by omega)) rfl
  ·rw[if_neg (fun k=>h4 k.2)];refine ae (decide_eq_true (show((l.length:Nat):Int)<400 by omega)) ?_;have jO:sq l ((eT l g.1:Nat):Int) [g]=true:=by
    grind [sq,decide_eq_true,eT,fits]
   refine ae jO ?_;rfl
theorem Hd(hG:HG G)(w:aW)(x to:ab)(hs:iQ w.2.2.1)(hl:w.2.2.1.length≤50000000):FX G 160 Dg ((x,to,()),(w,()))=some ((),((w.1,(w.2.1,(bS w.2.2.1 (x,to),()))),())):=by refine av (hG _ _ rfl) aeC ?_;exact aa (agk hG w.2.2.1 (x,to) hs hl) rfl
theorem He(hG:HG G)(w:aW)(x:ab)(hw:Rw w.1)(hl:w.1.length≤50000000)(hr:∀v∈w.1,v.2.1.length≤50000000){k:Nat}{v:ai}(hk:w.1[k]? = some v)(hx:x∈v.2.1) :
  FX G 162 mY ((x,()),(w,()))=some (((some ((⟨0,by decide⟩:Fin 1),k)),()),(w,())):=by
 refine av (hG _ _ rfl) aeE ?_;have Xo:=(abu.1 hk).1;have loop:∀(n i:Nat),i+n=k→LX G 162 mY Tryz.f162 xu (aK Tryz.prog 162 0) ((((w.1.length:Nat):Int),((i:Int),())),((w,((x,()),())),()))=some (((some ((⟨0,by decide⟩:Fin 1),k)),()),(w,())):=by
  intro n
  induction n with
  |zero =>
   intro i hi;have hi:i=k:=by omega
   subst hi;refine ar OM ?_;refine ae (aT Xo) (ae (cK (fG _) (aT Xo)) (aa hk ?_));refine aa (G3 hG v.2.1 x (by grind)) ?_;exact ae (decide_eq_true hx) rfl
  |succ n ih =>
   intro i hi;have rB:i<w.1.length:=by omega
   have hu:w.1[i]? = some w.1[i]:=abn rB;have QT:x∉w.1[i].2.1:=fun hxi=>by have h1:w.1[i]=v:=hw.one (acw hk) (ac8 rB) hx hxi;have h2:=kK hw.s hk rfl;have h3:=kK hw.s (x:=v.1) hu (by rw[h1]);omega
   refine ar OM ?_;refine ae (aT rB) (ae (cK (fG _) (aT rB)) (aa hu ?_));refine aa (G3 hG w.1[i].2.1 x (by grind)) ?_;refine af (decide_eq_false QT) ?_;have:=ih (i+1) (by omega);rw[←aD rB (by omega)]at this;exact this
 exact loop k 0 (by omega)
theorem Nw{l:List ai}{k:Nat}{v:ai}(hs:b7 l)(hk:l[k]? = some v)(r:List ab):l.set k (v.1,(r,v.2.2))=l.map (uu v.1 r):=by
 have h:=j5 hs (acw hk);rw[kK hs hk rfl];refine(Lm hs h (uu v.1 r) (fun u=>(u.1,(r,u.2.2))) (fun u hu=>?_) (fun u hu=>?_)).symm
 ·unfold uu;rw[if_pos hu]
 simp_all [uu,if_neg]
theorem ta{l:List ai}{x:ab}(h:x∈an l):∃(k:Nat) (v:ai),l[k]? = some v∧x∈v.2.1∧v∈l:=by obtain⟨v,hv,hx⟩:=aU.1 h;obtain⟨k,hk,he⟩:=adA hv;exact⟨k,v,by simp_all,hx,hv⟩
structure Sv(l:List ai):Prop where
 n:l.length≤50000000
 r:∀v∈l,v.2.1.length≤50000000
theorem VP{n:Int}(h:n=0∨n=1):dr .xor .i64 n 1=IntKind.wrap .i64 (1-n):=by rcases h with rfl|rfl<;>decide
theorem Lu(hG:G 166 pI=none)(x:ab)(h:x.2=0∨x.2=1):FX G 166 pI ((x,()),())=some ((aj x,()),()):=by refine av hG aeH ?_;exact congrArg (fun n:Int=>some ((((x.1,n):ab),()),())) (VP h)
theorem Hf{d:ak}(h:Rw d.1){v:ai}{x:ab}(hv:v∈d.1)(hx:x∈v.2.1):dk d x=if(jE v.2.1 x).1=x.1 then(if(jE v.2.1 (jE v.2.1 x)).1=x.1 then zD else jE v.2.1 (jE v.2.1 x)) else jE v.2.1 x:=by
 unfold dk;have e:bH d ((cd d x).getD zI)=v.2.1:=by unfold cd;rw[eZ h hv hx];exact kN h.s hv
 grind
theorem aaE(hG:HG G)(w:aW)(x:ab)(hw:Rw w.1)(hs:Sv w.1)(hx:x∈an w.1)(e:List ag):FX G 161 Dh ((x,()),(w,()))=some ((dk (w.1,e) x,()),(w,())):=by
 obtain⟨k,v,hk,oS,hv⟩:=ta hx;have Oz:=hs.r v hv;refine av (hG _ _ rfl) aeD ?_;rw[Hf (d:=(w.1,e)) hw hv oS];have prev:∀y:ab,FX G 200 GG ((v.2.1,y,()),())=some (((jE v.2.1 y),((K9 (dB v.2.1 y (v.2.1.length-1))).2)),()):=fun y=>by
  grind [agi,trans,K9,dB,jE,BV]
 have hM:∀y:ab,((y.1.1==x.1.1)&&(y.1.2==x.1.2))=decide (y.1=x.1):=fun y=>lH y.1 x.1;refine ar Is ?_;refine ae rfl (aa (He hG w x hw hs.n hs.r hk oS) ?_);refine vt rfl (ae rfl (aa hk ?_));refine aa (prev x) ?_;by_cases h1:(jE v.2.1 x).1=x.1
 ·rw[if_pos h1];refine bw ((hM _).trans (decide_eq_true h1)) ?_;refine ar Is ?_;refine ae rfl (aa (He hG w x hw hs.n hs.r hk oS) ?_);refine vt rfl (ae rfl (aa hk ?_));refine aa (prev (jE v.2.1 x)) ?_;by_cases h2:(jE v.2.1 (jE v.2.1 x)).1=x.1
  ·rw[if_pos h2];refine bw ((hM _).trans (decide_eq_true h2)) ?_;refine ar Is ?_;rfl
  ·rw[if_neg h2];exact bw ((hM _).trans (decide_eq_false h2)) rfl
 ·rw[if_neg h1];exact bw ((hM _).trans (decide_eq_false h1)) rfl
theorem Lv{l:List ag}{x:ID}(hs:dC l)(h:(aZ l x).isSome=true)(hl:l.length≤50000000) :
  kg l ((ct l x:Nat):Int) (IntKind.wrap .i64 (((ct l x:Nat):Int)+1))=true∧dF l ((ct l x:Nat):Int) (IntKind.wrap .i64 (((ct l x:Nat):Int)+1))=c9 l x:=by
 grind [Option.isSome_iff_exists,List.getElem?_eq_some_iff,nw,IntKind.wrap,ct,aD,kg,decide_eq_true,fits,zH,dF,Int.toNat_natCast]
theorem VQ{l:List ai}{x:ID}(hs:b7 l)(h:(aR l x).isSome=true)(hl:l.length≤50000000) :
  kg l ((bT l x:Nat):Int) (IntKind.wrap .i64 (((bT l x:Nat):Int)+1))=true∧dF l ((bT l x:Nat):Int) (IntKind.wrap .i64 (((bT l x:Nat):Int)+1))=cU l x:=by
 grind [Option.isSome_iff_exists,List.getElem?_eq_some_iff,dm,IntKind.wrap,bT,aD,kg,decide_eq_true,fits,zB,dF,Int.toNat_natCast]
theorem Sv.re{l:List ai}(h:Sv l)(x:ID){r:List ab}(hr:r.length≤50000000):Sv (l.map (uu x r)):=by
 refine⟨by simp;exact h.n,fun w hw=>?_⟩;obtain⟨u,hu,rfl⟩:=ace.1 hw;unfold uu
 split
 ·exact hr
 ·exact h.r u hu
theorem Ej{row:List ab}(d:ab):(iM row d).length≤row.length:=by
 grind [iM,jD,List.length_filter_le]
theorem Pn{w:aW}{x:ab}(hw:Rw w.1){k:Nat}{v:ai}(hk:w.1[k]? = some v)(hx:x∈v.2.1)(e:List ag):w.1.set k (v.1,(iM v.2.1 x,v.2.2))=(aH (w.1,e) x).1:=by rw[kO (d:=(w.1,e)) hw (List.mem_of_getElem? hk) hx];exact Nw hw.s hk _
theorem al3(hG:HG G)(s:StateT)(o:bq)(h:eI s)(hs:Sv s.1.1) :
  ∃(e:Int) (w:aW),FX G 115 Dc ((o,()),(aP s,()))=some ((e,()),(w,()))∧j4 e w=D4 s o:=by
 have bz:=h.d.ne;unfold D4
 cases hf:(aZ s.1.2 (ba o)).isSome with
 |false =>
  refine⟨13,aP s,?_,?_⟩
  ·refine av (hG _ _ rfl) aeo ?_;refine aa (pX hG (aP s) (ba o) h.d.se (by show s.1.2.length≤_;omega)) ?_;exact bw ((dy (l:=s.1.2) h.d.se).trans hf) rfl
  ·rw[if_pos (show(hM s.1 (ba o)).isSome=false from hf)];rfl
 |true =>
  rw[if_neg (show ¬(hM s.1 (ba o)).isSome=false by show ¬(aZ s.1.2 (ba o)).isSome=false;rw[hf];simp)];obtain⟨x,hx⟩:∃x:ab,x=(ba o,0):=⟨_,rfl⟩;obtain⟨y,hy⟩:∃y:ab,y=(ba o,1):=⟨_,rfl⟩;have hxd:x∈an s.1.1:=by rw[hx];exact h.d.kR hf (.inl rfl)
  have hyd:y∈an s.1.1:=by rw[hy];exact h.d.kR hf (.inr rfl)
  have g1:=kQ h.g h.n (x,dk s.1 x);have hn:=h.n;obtain⟨p1,q1⟩:=fU h.d.rw hxd;have al5:y∈an (aH s.1 x).1:=by
   grind
  have RO:=kP (kP h.d.gv x) y;refine⟨0,((aH (aH s.1 x) y).1,(c9 s.1.2 (ba o),(bS (bS s.2 (x,dk s.1 x)) (y,dk s.1 y),()))),?_,?_⟩
  ·refine av (hG _ _ rfl) aeo ?_;refine aa (pX hG (aP s) (ba o) h.d.se (by show s.1.2.length≤_;omega)) ?_;refine bw ((dy (l:=s.1.2) h.d.se).trans hf) (af rfl ?_);have al6:FX G 156 De ((ba o,()),())=some ((x,y,()),()):=by rw[hx,hy];exact av (hG _ _ rfl) aag rfl
   refine aa al6 ?_;refine ar M9 ?_;refine ae rfl (ae rfl (aa (a:=x) rfl ?_));refine aa (aaE hG (aP s) x h.d.rw hs hxd s.1.2) ?_;refine aa (Hd hG (aP s) x (dk s.1 x) h.g (by show s.2.length≤_;omega)) ?_;refine ar M9 ?_;refine ae rfl (ae rfl (aa (a:=y) rfl ?_));refine aa (aaE hG (s.1.1,(s.1.2,(bS s.2 (x,dk s.1 x),()))) y h.d.rw hs hyd s.1.2) ?_;refine aa (Hd hG (s.1.1,(s.1.2,(bS s.2 (x,dk s.1 x),()))) y (dk s.1 y) g1.1 (by grind)) ?_;refine ar M9 ?_;refine af rfl ?_;generalize bS (bS s.2 (x,dk s.1 x)) (y,dk s.1 y)=gg;obtain⟨k,v,hk,oS,hv⟩:=ta hxd;refine ar Na ?_;refine ae rfl (ae rfl (aa (a:=x) rfl ?_));refine aa (He hG (s.1.1,(s.1.2,(gg,()))) x h.d.rw hs.n hs.r hk oS) ?_;refine vt rfl (ae rfl (aa hk ?_));refine aa (aaB hG v.2.1 x (h.d.rw.ring hv) (hs.r v hv)) ?_;refine aa hk ?_;have e1:s.1.1.set k (v.1,(iM v.2.1 x,v.2.2))=(aH s.1 x).1:=Pn (w:=(s.1.1,(s.1.2,(gg,())))) h.d.rw hk oS s.1.2;have M1:Sv (aH s.1 x).1:=by rw[kO h.d.rw hv oS];exact hs.re _ (acz (Ej x) (hs.r v hv))
   obtain⟨k2,v2,qh,XG,BA⟩:=ta al5;have e2:(aH s.1 x).1.set k2 (v2.1,(iM v2.2.1 y,v2.2.2))=(aH (aH s.1 x) y).1:=Pn (w:=((aH s.1 x).1,(s.1.2,(gg,())))) q1 qh XG (aH s.1 x).2;have rest:∀a:List ai,a=(aH s.1 x).1→LX G 115 Dc Tryz.f115 zq (aK Tryz.prog 115 1) ((((ct s.1.2 (ba o):Nat):Int),((2:Int),((1:Int),()))),(((a,(s.1.2,(gg,()))),()),([x,y],())))=some (((0:Int),()),(((aH (aH s.1 x) y).1,(c9 s.1.2 (ba o),(gg,()))),())):=by
    intro a ha;subst ha;refine ar Na ?_;refine ae rfl (ae rfl (aa (a:=y) rfl ?_));refine aa (He hG ((aH s.1 x).1,(s.1.2,(gg,()))) y q1 M1.n M1.r qh XG) ?_;refine vt rfl (ae rfl (aa qh ?_));refine aa (aaB hG v2.2.1 y (q1.ring BA) (M1.r v2 BA)) ?_;refine aa qh ?_;have last:∀b:List ai,b=(aH (aH s.1 x) y).1→LX G 115 Dc Tryz.f115 zq (aK Tryz.prog 115 1) ((((ct s.1.2 (ba o):Nat):Int),((2:Int),((2:Int),()))),(((b,(s.1.2,(gg,()))),()),([x,y],())))=some (((0:Int),()),(((aH (aH s.1 x) y).1,(c9 s.1.2 (ba o),(gg,()))),())):=by intro b hb;subst hb;refine ar Na ?_;obtain⟨d1,d2⟩:=Lv h.d.se hf (by omega);refine af rfl (ae d1 ?_);exact congrArg (fun l:List ag=>some (((0:Int),()),(((aH (aH s.1 x) y).1,(l,(gg,()))),()))) d2
    exact last _ e2
   exact rest _ e1
  ·rw[←hx,←hy];unfold aM;rw[uD RO];rfl
theorem Nx{n:Int}(h0:0≤n)(h3:n≤3):dr .xor .i64 1 (dr .and .i64 n 1)=IntKind.wrap .i64 (1-Int.tmod n 2)∧ir .i64 n 1=IntKind.wrap .i64 (Int.tdiv n 2):=by
 have:n=0∨n=1∨n=2∨n=3:=by omega
 rcases this with rfl|rfl|rfl|rfl<;>exact⟨by decide,by decide⟩
theorem Lw{l:List ai}{x:ab}(hw:Rw l){k:Nat}{v:ai}(hk:l[k]? = some v)(hx:x∈v.2.1)(y:ab)(e:List ag):l.set k (v.1,(fF v.2.1 x y,v.2.2))=(aE (l,e) x y).1:=by rw[qZ (d:=(l,e)) hw y (List.mem_of_getElem? hk) hx];exact Nw hw.s hk _
theorem al7(hG:HG G)(s:StateT)(o:bq)(h:eI s)(hs:Sv s.1.1)(hm:cC o=0)(hk5:o.1=5) :
    ∃(e:Int) (w:aW),FX G 116 Bp ((o,()),(aP s,()))=some ((e,()),(w,()))∧j4 e w=kJ s o:=by
  have bz:=h.d.ne;have My:=h.d.nv;obtain⟨m1,m2,m3,m4⟩:=zN hm hk5;obtain⟨s1,s2⟩:=Ei m3 m4;obtain⟨c1,c2⟩:=Nx m3 m4;have key:∀(e:Int) (w:aW),FX G 116 Bp ((o,()),(aP s,()))=some ((e,()),(w,()))→j4 e w=kJ s o→∃(e:Int) (w:aW),FX G 116 Bp ((o,()),(aP s,()))=some ((e,()),(w,()))∧j4 e w=kJ s o:=fun e w a b=>⟨e,w,a,b⟩;have start:∀(e:Int) (w:aW),bF 116 Bp Tryz.f116 (FX G) (LX G 116 Bp Tryz.f116) ((o,()),(aP s,()))=some ((e,()),(w,()))→FX G 116 Bp ((o,()),(aP s,()))=some ((e,()),(w,())):=fun e w a =>av (hG _ _ rfl) a rfl;unfold kJ
  cases hf:(aZ s.1.2 (ba o)).isSome with
  |false =>
    refine⟨13,aP s,start _ _ ((Yi).trans ?_),?_⟩
    · refine aa (pX hG (aP s) (ba o) h.d.se (by show s.1.2.length≤_;omega)) ?_
      refine aa (rH hG (aP s) (fC o) h.d.sv (by show s.1.1.length≤_;omega)) ?_;refine aa (pX hG (aP s) (bC o) h.d.se (by show s.1.2.length≤_;omega)) ?_;exact bw ((dy (l:=s.1.2) h.d.se).trans hf) rfl
    · rw[if_pos (show(hM s.1 (ba o)).isSome=false from hf)];rfl
  |true =>
  rw[if_neg (show ¬(hM s.1 (ba o)).isSome=false by show ¬(aZ s.1.2 (ba o)).isSome=false;rw[hf];simp)]
  cases ZJ:(aR s.1.1 (fC o)).isSome with
  |true =>
    refine⟨12,aP s,start _ _ ((Yi).trans ?_),?_⟩
    · refine aa (pX hG (aP s) (ba o) h.d.se (by show s.1.2.length≤_;omega)) ?_
      refine aa (rH hG (aP s) (fC o) h.d.sv (by show s.1.1.length≤_;omega)) ?_;refine aa (pX hG (aP s) (bC o) h.d.se (by show s.1.2.length≤_;omega)) ?_;refine bw ((dy (l:=s.1.2) h.d.se).trans hf) (af rfl ?_);exact ae ((gr (l:=s.1.1) h.d.sv).trans ZJ) rfl
    · rw[if_pos (show(bp s.1 (fC o)).isSome=true from ZJ)];rfl
  |false =>
  rw[if_neg (show ¬(bp s.1 (fC o)).isSome=true by show ¬(aR s.1.1 (fC o)).isSome=true;rw[ZJ];simp)]
  cases hfo:(aZ s.1.2 (bC o)).isSome with
  |true =>
    refine⟨12,aP s,start _ _ ((Yi).trans ?_),?_⟩
    · refine aa (pX hG (aP s) (ba o) h.d.se (by show s.1.2.length≤_;omega)) ?_
      refine aa (rH hG (aP s) (fC o) h.d.sv (by show s.1.1.length≤_;omega)) ?_;refine aa (pX hG (aP s) (bC o) h.d.se (by show s.1.2.length≤_;omega)) ?_;refine bw ((dy (l:=s.1.2) h.d.se).trans hf) (af rfl ?_);refine af ((gr (l:=s.1.1) h.d.sv).trans ZJ) ?_;exact ae ((dy (l:=s.1.2) h.d.se).trans hfo) rfl
    · rw[if_pos (show(hM s.1 (bC o)).isSome=true from hfo)];rfl
  |false =>
  rw[if_neg (show ¬(hM s.1 (bC o)).isSome=true by show ¬(aZ s.1.2 (bC o)).isSome=true;rw[hfo];simp)];have aqF:aR s.1.1 (fC o)=none:=by simp_all
  have al8:aZ s.1.2 (bC o)=none:=by simp_all
  obtain⟨m,hmm⟩:∃m:ab,m=Li o:=⟨_,rfl⟩;obtain⟨kk,XZ⟩:∃m:ab,m=G1 o:=⟨_,rfl⟩;have Jm:m∈an s.1.1:=by rw[hmm];exact h.d.kR hf s1
  have Jl:aj kk∉an s.1.1:=by rw[XZ];exact h.d.uH al8 _
  obtain⟨p1,q1⟩:=j6 h.d.rw Jm Jl;have qh:kk.2=0∨kk.2=1:=by rw[XZ];exact s2
  obtain⟨k,v,hk,oS,hv⟩:=ta Jm;have e1:s.1.1.set k (v.1,(fF v.2.1 m (aj kk),v.2.2))=(aE s.1 m (aj kk)).1:=Lw h.d.rw hk oS _ s.1.2;have hlen:(aE s.1 m (aj kk)).1.length=s.1.1.length:=by grind
  have agj:aR (aE s.1 m (aj kk)).1 (fC o)=none:=by
    grind [aE,Vs.cj,pW,s8]
  have eM:((ba o,dr .xor .i64 1 (dr .and .i64 (oN o) 1)):ab)=m:=by rw[hmm,c1];rfl
  have eK:((bC o,ir .i64 (oN o) 1):ab)=kk:=by rw[XZ,c2];rfl
  have go:∀(e:Int) (w:aW),(∀a:List ai,a=(aE s.1 m (aj kk)).1→((FX G 112 Ks (((fC o,(cp [m,kk],(e0,(0:Int)))),()),((a,(s.1.2,(s.2,()))),()))).bind fun(lF:((Int×Unit)×(aW×Unit))) =>cond (lF.1.1 != (0:Int)) (some (lF.1,((lF.2.1.1,(lF.2.1.2.1,lF.2.1.2.2)),()))) ((FX G 155 AJ ((bC o,()),((lF.2.1.1,(lF.2.1.2.1,lF.2.1.2.2)),()))).bind fun(qi:((Int×Unit)×(aW×Unit))) =>some (qi.1,((qi.2.1.1,(qi.2.1.2.1,qi.2.1.2.2)),()))))=some ((e,()),(w,())))→FX G 116 Bp ((o,()),(aP s,()))=some ((e,()),(w,())):=fun e w rest=>by
    refine start _ _ ((Yi).trans ?_);refine aa (pX hG (aP s) (ba o) h.d.se (by show s.1.2.length≤_;omega)) ?_;refine aa (rH hG (aP s) (fC o) h.d.sv (by show s.1.1.length≤_;omega)) ?_;refine aa (pX hG (aP s) (bC o) h.d.se (by show s.1.2.length≤_;omega)) ?_;refine bw ((dy (l:=s.1.2) h.d.se).trans hf) (af rfl ?_);refine af ((gr (l:=s.1.1) h.d.sv).trans ZJ) ?_;refine af ((dy (l:=s.1.2) h.d.se).trans hfo) ?_;refine af rfl ?_;have body:∀mm k2:ab,mm=m→k2=kk→((FX G 162 mY ((mm,()),(aP s,()))).bind fun(y4:(((Option ((Fin 1)×Nat))×Unit)×(aW×Unit))) =>so y4.1.1 (none) fun(p5:((Fin 1)×Nat)) =>cond (p5.1.val==0) (((y4.2.1.1)[p5.2]?).bind fun(y6:ai) =>(FX G 166 pI ((k2,()),())).bind fun(y7:((ab×Unit)×Unit)) =>(FX G 165 vm ((y6.2.1,(mm,((y7.1.1.1,y7.1.1.2),()))),())).bind fun(y8:(((List ab)×Unit)×Unit)) =>((y4.2.1.1)[p5.2]?).bind fun(y9:ai) =>(FX G 167 rE (([mm,k2],()),())).bind fun(nK:(((List ab)×Unit)×Unit)) =>(FX G 112 Ks (((fC o,(nK.1.1,((⟨#[]⟩:ByteArray),(0:Int)))),()),(((List.set y4.2.1.1 p5.2 (y9.1,(y8.1.1,y9.2.2))),(y4.2.1.2.1,y4.2.1.2.2)),()))).bind fun(lF:((Int×Unit)×(aW×Unit))) =>cond (lF.1.1 != (0:Int)) (some (lF.1,((lF.2.1.1,(lF.2.1.2.1,lF.2.1.2.2)),()))) ((FX G 155 AJ ((bC o,()),((lF.2.1.1,(lF.2.1.2.1,lF.2.1.2.2)),()))).bind fun(qi:((Int×Unit)×(aW×Unit))) =>some (qi.1,((qi.2.1.1,(qi.2.1.2.1,qi.2.1.2.2)),())))) (none))=some ((e,()),(w,())):=by intro mm k2 al9 ama;subst al9 ama;refine aa (He hG (aP s) mm h.d.rw hs.n hs.r hk oS) ?_;refine vt rfl (ae rfl (aa hk ?_));refine aa (Lu (hG _ _ rfl) k2 qh) ?_;refine aa (aaC hG v.2.1 mm (aj k2) (hs.r v hv)) ?_;refine aa hk ?_;refine aa (Ec hG [mm,k2] (by simp)) ?_;exact rest _ e1
    exact body _ _ eM eK
  have aqG:24≤s.1.1.length→rI ((aE s.1 m (aj kk)).1,(s.1.2,(s.2,()))) (fC o,(cp [m,kk],(e0,0)))=(3,((aE s.1 m (aj kk)).1,(s.1.2,(s.2,())))):=fun hb=>by
    unfold rI
    grind
  have acf:¬24≤s.1.1.length→rI ((aE s.1 m (aj kk)).1,(s.1.2,(s.2,()))) (fC o,(cp [m,kk],(e0,0)))=(0,(cW (fC o,(cp [m,kk],(e0,0))) (aE s.1 m (aj kk)).1,(s.1.2,(s.2,())))):=fun hb=>by
    unfold rI
    grind
  by_cases hb:24≤s.1.1.length
  · refine⟨3,((aE s.1 m (aj kk)).1,(s.1.2,(s.2,()))),go _ _ (fun a ha=>?_),?_⟩
    · subst ha
      refine aa (aca hG ((aE s.1 m (aj kk)).1,(s.1.2,(s.2,()))) (fC o,(cp [m,kk],(e0,0))) q1.s (by grind)) ?_
      grind
    · rw[if_pos hb];rfl
  rw[if_neg hb];have hE:vu (cW (fC o,(cp [m,kk],(e0,0))) (aE s.1 m (aj kk)).1,(s.1.2,(s.2,()))) (bC o)=if 40≤s.1.2.length then(3,(cW (fC o,(cp [m,kk],(e0,0))) (aE s.1 m (aj kk)).1,(s.1.2,(s.2,())))) else(0,(cW (fC o,(cp [m,kk],(e0,0))) (aE s.1 m (aj kk)).1,(dH (bC o,(e0,0)) s.1.2,(s.2,())))):=by
    unfold vu
    grind
  have fin:FX G 116 Bp ((o,()),(aP s,()))=some (((vu (cW (fC o,(cp [m,kk],(e0,0))) (aE s.1 m (aj kk)).1,(s.1.2,(s.2,()))) (bC o)).1,()),((vu (cW (fC o,(cp [m,kk],(e0,0))) (aE s.1 m (aj kk)).1,(s.1.2,(s.2,()))) (bC o)).2,())):=by refine go _ _ (fun a ha=>?_);subst ha;refine aa (aca hG ((aE s.1 m (aj kk)).1,(s.1.2,(s.2,()))) (fC o,(cp [m,kk],(e0,0))) q1.s (by grind)) ?_;rw[acf hb];refine af rfl ?_;exact aa (aay hG (cW (fC o,(cp [m,kk],(e0,0))) (aE s.1 m (aj kk)).1,(s.1.2,(s.2,()))) (bC o) h.d.se (by grind)) rfl
  rw[hE]at fin;by_cases hb4:40≤s.1.2.length
  · rw[if_pos hb4]at fin ⊢
    exact⟨_,_,fin,rfl⟩
  · rw[if_neg hb4]at fin ⊢
    refine⟨_,_,fin,?_⟩;rw[hmm,XZ];rfl
theorem amb(hG:HG G)(s:StateT)(o:bq)(h:eI s)(hs:Sv s.1.1) :
    ∃(e:Int) (w:aW),FX G 117 sP ((o,()),(aP s,()))=some ((e,()),(w,()))∧j4 e w=j0 s o:=by
  have bz:=h.d.ne;have My:=h.d.nv;have hgn:=h.n;have start:∀(e:Int) (w:aW),bF 117 sP Tryz.f117 (FX G) (LX G 117 sP Tryz.f117) ((o,()),(aP s,()))=some ((e,()),(w,()))→FX G 117 sP ((o,()),(aP s,()))=some ((e,()),(w,())):=fun e w a =>av (hG _ _ rfl) a rfl;unfold j0
  cases hf:aR s.1.1 (ba o) with
  |none =>
    refine⟨13,aP s,start _ _ ((aep).trans ?_),?_⟩
    · refine aa (rH hG (aP s) (ba o) h.d.sv (by show s.1.1.length≤_;omega)) ?_
      exact bw ((gr (l:=s.1.1) h.d.sv).trans (by rw[hf])) rfl
    · rw[show bp s.1 (ba o)=none from hf];rfl
  |some v =>
  have hfs:(aR s.1.1 (ba o)).isSome=true:=by rw[hf];rfl
  have hv:=eO hf;have hvi:=iP hf;have sD:=dm h.d.sv hf;have aO:=(abu.1 sD).1;have hgr:=h.d.rw;have go:∀(e:Int) (w:aW),(cond ((((List.length v.2.1):Nat):Int) != (2:Int)) (some (((14:Int),()),(aP s,()))) _=some ((e,()),(w,())))→FX G 117 sP ((o,()),(aP s,()))=some ((e,()),(w,())):=fun e w rest=>by refine start _ _ ((aep).trans ?_);refine aa (rH hG (aP s) (ba o) h.d.sv (by show s.1.1.length≤_;omega)) ?_;refine bw ((gr (l:=s.1.1) h.d.sv).trans hfs) (af rfl ?_);refine ae (cK (fG _) (aT aO)) (aa sD ?_);exact rest
  rw[show bp s.1 (ba o)=some v from hf];by_cases u5:v.2.1.length=2
  case neg =>
    refine⟨14,aP s,go _ _ (ae (by grind) rfl),?_⟩;show j4 14 (aP s)=(match v.2.1 with | [r0,r1]=>je s o r0 r1|_=>(zS,(14,())))
    split
    · grind
    · rfl
  obtain⟨r0,r1,hr⟩:∃r0 r1,v.2.1=[r0,r1]:=by
    match hq:v.2.1,u5 with
    |[a,b],_=>grind
  have GB:(((List.length v.2.1:Nat):Int) != (2:Int))=false:=by rw[u5];rfl
  have g0:aS v.2.1 (0:Int)=some r0:=by rw[hr];rfl
  have g1:aS v.2.1 (1:Int)=some r1:=by rw[hr];rfl
  show ∃(e:Int) (w:aW),FX G 117 sP ((o,()),(aP s,()))=some ((e,()),(w,()))∧j4 e w=(match v.2.1 with | [r0,r1]=>je s o r0 r1|_=>(zS,(14,())));rw[hr];show ∃(e:Int) (w:aW),FX G 117 sP ((o,()),(aP s,()))=some ((e,()),(w,()))∧j4 e w=je s o r0 r1;unfold je;by_cases h01:r0.1=r1.1
  · refine⟨14,aP s,go _ _ (af GB (aa g0 (aa g1 (ae ((lH r0.1 r1.1).trans (decide_eq_true h01)) rfl)))),?_⟩
    rw[if_pos h01];rfl
  rw[if_neg h01];have b01:=(lH r0.1 r1.1).trans (decide_eq_false h01);have tail:∀a b:ab,v.2.1.Perm [a,b]→a.1≠b.1→((FX G 166 pI ((b,()),())).bind fun(y7:((ab×Unit)×Unit)) =>cond (kg s.1.1 ((bT s.1.1 (ba o):Nat):Int) (IntKind.wrap .i64 (((bT s.1.1 (ba o):Nat):Int)+(1:Int)))) ((FX G 162 mY (((y7.1.1.1,y7.1.1.2),()),(((dF s.1.1 ((bT s.1.1 (ba o):Nat):Int) (IntKind.wrap .i64 (((bT s.1.1 (ba o):Nat):Int)+(1:Int)))),(s.1.2,(s.2,()))),()))).bind fun(y8:(((Option ((Fin 1)×Nat))×Unit)×(aW×Unit))) =>so y8.1.1 (none) fun(p9:((Fin 1)×Nat)) =>cond (p9.1.val==0) (((y8.2.1.1)[p9.2]?).bind fun(nK:ai) =>(FX G 165 vm ((nK.2.1,((y7.1.1.1,y7.1.1.2),(a,()))),())).bind fun(lF:(((List ab)×Unit)×Unit)) =>((y8.2.1.1)[p9.2]?).bind fun(qi:ai) =>(FX G 159 oc ((b.1,()),(((List.set y8.2.1.1 p9.2 (qi.1,(lF.1.1,qi.2.2))),(y8.2.1.2.1,y8.2.1.2.2)),()))).bind fun(lR:((Int×(Bool×Unit))×(aW×Unit))) =>cond (kg lR.2.1.2.1 lR.1.1 (IntKind.wrap .i64 (lR.1.1+(1:Int)))) (LX G 117 sP Tryz.f117 oJ (aK Tryz.prog 117 0) (((0:Int),()),(((lR.2.1.1,((dF lR.2.1.2.1 lR.1.1 (IntKind.wrap .i64 (lR.1.1+(1:Int)))),lR.2.1.2.2)),((a,()),((b,()),(((y7.1.1.1,y7.1.1.2),()),())))),()))) (none)) (none)) (none))=some (((0:Int),()),(((Jp s o a b).1,((Jp s o a b).2,(Jo s.2 a b,()))),())):=by
    intro a b hp AW;obtain⟨p,q,h1,_,h2,_⟩:=nC h.d.sv hv;have pd:(an s.1.1).Perm (a::b::an (p++q)):=by
      have:=(jH p q v).trans (adm _ hp)
      grind
    have Po:cU s.1.1 (ba o)=p++q:=by grind
    have RP:aM s.1 (ba o) zI=(p++q,s.1.2):=by unfold aM;rw[Po,q7 h.d.ge]
    have E9:=pd.nodup_iff.1 hgr.n;have hbm:b∈ends s.1.2:=h.d.pd.mem_iff.1 (pd.mem_iff.2 (by simp));obtain⟨e,he,he1,E5⟩:=dZ.1 hbm;have Gz:(aZ s.1.2 b.1).isSome=true:=by unfold aZ;grind
    obtain⟨_,ho⟩:=hP E5;have RQ:aj b∈an (p++q):=by
      have h3:aj b∈an s.1.1:=h.d.kR (s:=(aj b).2) Gz (by omega);rcases abz.1 (pd.mem_iff.1 h3) with k|k
      · grind
      rcases abz.1 k with k|k
      · have:=congrArg Prod.snd k;omega
      · exact k
    have IV:Rw (p++q):=⟨by rw[←h2];exact nu h.d.sv,(abP.1 (abP.1 E9).2).2⟩;have bu:∀u∈p++q,u∈s.1.1:=fun u hu=>by
      grind
    have M1:Sv (p++q):=⟨by
      grind,fun u hu=>hs.r u (bu u hu)⟩
    obtain⟨dk1,dk2⟩:=VQ h.d.sv hfs (by omega);rw[Po]at dk2;obtain⟨k,u,hk,hxu,hu⟩:=ta RQ;have e1:(p++q).set k (u.1,(fF u.2.1 (aj b) a,u.2.2))=(aE (p++q,s.1.2) (aj b) a).1:=Lw IV hk hxu _ s.1.2;have RO:∀w∈(aE (p++q,s.1.2) (aj b) a).1,GV w:=q6 (d:=(p++q,s.1.2)) (fun w hw=>h.d.gv w (bu w hw)) _ _;have eD:Jp s o a b=((aE (p++q,s.1.2) (aj b) a).1,c9 s.1.2 b.1):=by unfold Jp;rw[RP];unfold aM;rw[uD RO];rfl
    have ga:=kQ h.g h.n ((b.1,0),oL a b 0);rw[eD];refine aa (Lu (hG _ _ rfl) b E5) ?_;refine ae dk1 ?_;have r1:∀l1:List ai,l1=p++q→((FX G 162 mY ((aj b,()),((l1,(s.1.2,(s.2,()))),()))).bind fun(y8:(((Option ((Fin 1)×Nat))×Unit)×(aW×Unit))) =>so y8.1.1 (none) fun(p9:((Fin 1)×Nat)) =>cond (p9.1.val==0) (((y8.2.1.1)[p9.2]?).bind fun(nK:ai) =>(FX G 165 vm ((nK.2.1,(aj b,(a,()))),())).bind fun(lF:(((List ab)×Unit)×Unit)) =>((y8.2.1.1)[p9.2]?).bind fun(qi:ai) =>(FX G 159 oc ((b.1,()),(((List.set y8.2.1.1 p9.2 (qi.1,(lF.1.1,qi.2.2))),(y8.2.1.2.1,y8.2.1.2.2)),()))).bind fun(lR:((Int×(Bool×Unit))×(aW×Unit))) =>cond (kg lR.2.1.2.1 lR.1.1 (IntKind.wrap .i64 (lR.1.1+(1:Int)))) (LX G 117 sP Tryz.f117 oJ (aK Tryz.prog 117 0) (((0:Int),()),(((lR.2.1.1,((dF lR.2.1.2.1 lR.1.1 (IntKind.wrap .i64 (lR.1.1+(1:Int)))),lR.2.1.2.2)),((a,()),((b,()),((aj b,()),())))),()))) (none)) (none))=some (((0:Int),()),(((aE (p++q,s.1.2) (aj b) a).1,(c9 s.1.2 b.1,(Jo s.2 a b,()))),())):=by
      intro l1 hl1;subst hl1;refine aa (He hG (p++q,(s.1.2,(s.2,()))) (aj b) IV M1.n M1.r hk hxu) ?_;refine vt rfl (ae rfl (aa hk ?_));refine aa (aaC hG u.2.1 (aj b) a (M1.r u hu)) ?_;refine aa hk ?_;have r2:∀l2:List ai,l2=(aE (p++q,s.1.2) (aj b) a).1→((FX G 159 oc ((b.1,()),((l2,(s.1.2,(s.2,()))),()))).bind fun(lR:((Int×(Bool×Unit))×(aW×Unit))) =>cond (kg lR.2.1.2.1 lR.1.1 (IntKind.wrap .i64 (lR.1.1+(1:Int)))) (LX G 117 sP Tryz.f117 oJ (aK Tryz.prog 117 0) (((0:Int),()),(((lR.2.1.1,((dF lR.2.1.2.1 lR.1.1 (IntKind.wrap .i64 (lR.1.1+(1:Int)))),lR.2.1.2.2)),((a,()),((b,()),((aj b,()),())))),()))) (none))=some (((0:Int),()),(((aE (p++q,s.1.2) (aj b) a).1,(c9 s.1.2 b.1,(Jo s.2 a b,()))),())):=by
        intro l2 u5;subst u5;refine aa (pX hG ((aE (p++q,s.1.2) (aj b) a).1,(s.1.2,(s.2,()))) b.1 h.d.se (by grind)) ?_;obtain⟨ek1,ek2⟩:=Lv h.d.se Gz (by omega);refine ae ek1 ?_;have r3:∀l3:List ag,l3=c9 s.1.2 b.1→(LX G 117 sP Tryz.f117 oJ (aK Tryz.prog 117 0) (((0:Int),()),((((aE (p++q,s.1.2) (aj b) a).1,(l3,(s.2,()))),((a,()),((b,()),((aj b,()),())))),())))=some (((0:Int),()),(((aE (p++q,s.1.2) (aj b) a).1,(c9 s.1.2 b.1,(Jo s.2 a b,()))),())):=by
          intro l3 hl3;subst hl3;have eb:b=(b.1,b.2):=rfl;have eo:aj b=(b.1,(aj b).2):=rfl;rcases ho with⟨Mm,QZ⟩|⟨hb1,XT⟩
          · rw[Mm]at eb;rw[QZ]at eo
            have t0:oL a b 0=zD:=by unfold oL;rw[if_neg (by rw[eo];simp)]
            have t1:oL a b 1=a:=by unfold oL;grind
            rw[t0,←eb]at ga;have eG:Jo s.2 a b=bS (bS s.2 (b,zD)) (aj b,a):=by grind [Jo]
            rw[eG];refine ar zu ?_;refine ae rfl (ae (by grind) ?_);refine aa (Hd hG ((aE (p++q,s.1.2) (aj b) a).1,(c9 s.1.2 b.1,(s.2,()))) b zD h.g (by grind)) ?_;refine ar zu ?_;refine ae rfl (af (by show(b.2==(1:Int))=false;simp[Mm]) ?_);refine aa (Hd hG ((aE (p++q,s.1.2) (aj b) a).1,(c9 s.1.2 b.1,(bS s.2 (b,zD),()))) (aj b) a ga.1 (by grind)) ?_;refine ar zu ?_;rfl
          · rw[hb1]at eb;rw[XT]at eo
            have t0:oL a b 0=a:=by unfold oL;grind
            have t1:oL a b 1=zD:=by unfold oL;rw[if_neg (by rw[eo];simp)]
            rw[t0,←eo]at ga;have eG:Jo s.2 a b=bS (bS s.2 (aj b,a)) (b,zD):=by grind [Jo]
            rw[eG];refine ar zu ?_;refine ae rfl (af (by grind) ?_);refine aa (Hd hG ((aE (p++q,s.1.2) (aj b) a).1,(c9 s.1.2 b.1,(s.2,()))) (aj b) a h.g (by grind)) ?_;refine ar zu ?_;refine ae rfl (ae (by show(b.2==(1:Int))=true;simp[hb1]) ?_);refine aa (Hd hG ((aE (p++q,s.1.2) (aj b) a).1,(c9 s.1.2 b.1,(bS s.2 (aj b,a),()))) b zD ga.1 (by grind)) ?_;refine ar zu ?_;rfl
        exact r3 _ ek2
      exact r2 _ e1
    exact r1 _ dk2
  have bo:∀y:ab,((y.1.1==(bC o).1)&&(y.1.2==(bC o).2))=decide (y.1=bC o):=fun y=>lH y.1 (bC o);by_cases h0:r0.1=bC o
  · rw[if_pos h0]
    refine⟨0,((Jp s o r1 r0).1,((Jp s o r1 r0).2,(Jo s.2 r1 r0,()))),go _ _ (af GB (aa g0 (aa g1 (af b01 (aa g0 (aa g1 (ae ((bo r0).trans (decide_eq_true h0)) ?_))))))),rfl⟩;refine bw ((bo r0).trans (decide_eq_true h0)) (af rfl ?_);exact tail r1 r0 (by rw[hr];exact List.Perm.swap _ _ _) (fun k=>h01 k.symm)
  rw[if_neg h0];by_cases h1:r1.1=bC o
  · rw[if_pos h1]
    refine⟨0,((Jp s o r0 r1).1,((Jp s o r0 r1).2,(Jo s.2 r0 r1,()))),go _ _ (af GB (aa g0 (aa g1 (af b01 (aa g0 (aa g1 (af ((bo r0).trans (decide_eq_false h0)) ?_))))))),rfl⟩;refine bw ((bo r1).trans (decide_eq_true h1)) (af rfl ?_);exact tail r0 r1 (by rw[hr]) h01
  rw[if_neg h1];refine⟨14,aP s,go _ _ (af GB (aa g0 (aa g1 (af b01 (aa g0 (aa g1 (af ((bo r0).trans (decide_eq_false h0)) ?_))))))),rfl⟩;exact bw ((bo r1).trans (decide_eq_false h1)) (ae rfl rfl)
end Go.Vs
namespace Go.Vs
open Go.Proofs
theorem Hg{row:List ab}(hn:row.Nodup){i j:Nat}{hi:i<row.length}{hj:j<row.length}(h:row[i]=row[j]):i=j:=by
 grind [Nat.lt_trichotomy,absurd,List.pairwise_iff_getElem]
theorem zP{row:List ab}(hn:row.Nodup){i j:Nat}{x:ab}(hi:row[i]? = some x)(hj:row[j]? = some x):i=j:=by
 grind [List.getElem?_eq_some_iff,Hg]
theorem A3(row:List ab):∃j,j≤row.length∧cp row=EX row j:=by
 by_cases h0:row.length=0
 ·have:row=[]:=by simpa using h0
  subst this;exact⟨0,by simp,rfl⟩
 ·exact⟨fT row row 0 0,Nat.le_of_lt (ot row row 0 0 (by omega) (by omega)),rfl⟩
theorem RR{row:List ab}(hn:row.Nodup){k:Nat}{m y:ab}(hk:row[k]? = some m)(hy:y∉row):(row.set k y).Nodup:=by
 grind
theorem YH{row:List ab}(hn:row.Nodup){k:Nat}{x:ab}(hk:row[k]? = some x):idx x row 0=(k:Int):=by
 grind [Nt,zP]
theorem VR(m k:ab):cp [m,k]=[m,k]∨cp [m,k]=[k,m]:=by
 have hm:=ot [m,k] [m,k] 0 0 (by simp) (by simp);have:fT [m,k] [m,k] 0 0=0∨fT [m,k] [m,k] 0 0=1:=by grind
 unfold cp;rcases this with h|h<;>rw[h]
 ·exact .inl rfl
 ·exact .inr rfl
end Go.Vs
namespace Go.Vs
open Go.Proofs
variable {G:(f:FuncId)→(g:aN)→Option (g.A→Option g.B)}
theorem RS(l:List ai)(x:ID):l.any (fun w=>decide (w.1=x))=(aR l x).isSome:=by rw[Bool.eq_iff_iff,List.any_eq_true];unfold aR;simp_all
theorem RT(l:List ag)(x:ID):l.any (fun w=>decide (w.1=x))=(aZ l x).isSome:=by rw[Bool.eq_iff_iff,List.any_eq_true];unfold aZ;simp_all
theorem RU(s:StateT)(o:bq):j4 (wi (aP s) o).1 (wi (aP s) o).2=wg s o:=by
 unfold wi wg Lg IM;rw[RS,RT];by_cases ho:qX o=true
 ·have hv:s.1.1.map (iO o)=s.1.1:=by
   conv=>rhs;rw[←List.map_id s.1.1]
   exact List.map_congr_left fun u hu=>by simp_all [iO,if_neg]
  rw[if_pos ho,ho,hv];show j4 (if(aZ s.1.2 (ba o)).isSome=true then _ else _:Int×aW).1 (if(aZ s.1.2 (ba o)).isSome=true then _ else _:Int×aW).2=_
  cases (aZ s.1.2 (ba o)).isSome<;>rfl
 ·have rY:qX o=false:=by simpa using ho
  have he:s.1.2.map (jY o)=s.1.2:=by
   conv=>rhs;rw[←List.map_id s.1.2]
   exact List.map_congr_left fun u hu=>by simp_all [jY,if_neg]
  rw[if_neg ho,rY,he];show j4 (if(aR s.1.1 (ba o)).isSome=true then _ else _:Int×aW).1 (if(aR s.1.1 (ba o)).isSome=true then _ else _:Int×aW).2=_
  cases (aR s.1.1 (ba o)).isSome<;>rfl
theorem VS(hG:HG G)(w:aW)(o:bq)(hk:7≤o.1)(hv:b7 w.1)(he:dC w.2.1)(hlv:w.1.length≤50000000)(hle:w.2.1.length≤50000000) :
  FX G 85 Im ((o,()),(w,()))=some (((wi w o).1,()),((wi w o).2,())):=by
 refine av (hG _ _ rfl) M8 ?_;have kn:∀k:Int,k<7→(o.1==k)=false:=fun k qh=>A1 (by omega);refine af (kn 1 (by omega)) (af (kn 2 (by omega)) (af (kn 3 (by omega)) (af (kn 4 (by omega)) (af (kn 5 (by omega)) (af (kn 6 (by omega)) ?_)))));exact aa (alZ hG w o hv he hlv hle) rfl
def opL(x:ID)(e:Bool)(t:ByteArray):bq:=(7,(x,(zI,(zI,(zC,(zC,(e,(t,0))))))))
def opA(x:ID)(e:Bool)(n:Int):bq:=(8,(x,(zI,(zI,(zC,(zC,(e,(e0,n))))))))
theorem zQ{t:ByteArray}(h:kI t=true):t.size≤16:=by simp_all [kI,Bool.and_eq_true,decide_eq_true_eq]
theorem acg:RD 0:=by unfold RD;omega
theorem Lx{l:List ai}(hs:b7 l){v w:ai}(hv:v∈l)(hw:w∈l)(h:w.1=v.1):w=v:=by
 have h1:=j5 hs hv
 grind [j5,Option.some.inj]
structure Lay(s t:StateT):Prop where
 v:b7 t.1.1
 e:dC t.1.2
 sm:Sm t.1
 g:t.2.length≤50000000
theorem A4(l:List ag):(ends l).length=2*l.length:=by
 induction l with
 |nil=>rfl
 |cons e r ih=>grind [gu]
theorem YI{l:List ai}{v:ai}(h:v∈l):v.2.1.length≤(an l).length:=by
 obtain⟨a,b,rfl⟩:=adh h
 grind [kM,eY]
theorem Wf.tc{d:ak}(h:Wf d):∀v∈d.1,v.2.1.length≤80:=fun v hv=>by
 have h1:=YI hv;have h2:=h.pd.length_eq;have h3:=h.ne
 grind [A4]
theorem Wf.sm{d:ak}(h:Wf d):Sm d:=⟨by have:=h.nv;omega,by have:=h.ne;omega,fun v hv=>by have:=h.tc v hv;omega⟩
theorem Wf.small{d:ak}(h:Wf d):Sv d.1:=⟨by have:=h.nv;omega,fun v hv=>by have:=h.tc v hv;omega⟩
theorem RV(s:StateT)(o:bq):j4 (rI (aP s) (ba o,([],(e0,0)))).1 (rI (aP s) (ba o,([],(e0,0)))).2=ov s o:=by
 by_cases hh:(aR s.1.1 (ba o)).isSome=true
 ·have a:rI (aP s) (ba o,([],(e0,0)))=(12,aP s):=if_pos hh;have b:ov s o=(zS,(12,())):=if_pos hh;rw[a,b];rfl
 by_cases h:24≤s.1.1.length
 ·have a:rI (aP s) (ba o,([],(e0,0)))=(3,aP s):=(if_neg hh).trans (if_pos h);have b:ov s o=(zS,(3,())):=(if_neg hh).trans (if_pos h);rw[a,b];rfl
 ·have a:rI (aP s) (ba o,([],(e0,0)))=(0,(cW (ba o,([],(e0,0))) (aP s).1,(aP s).2)):=(if_neg hh).trans (if_neg h);have b:ov s o=(((cW (ba o,([],(e0,0))) s.1.1,s.1.2),s.2),(0,())):=(if_neg hh).trans (if_neg h);rw[a,b];rfl
theorem RW{s:StateT}(h:eI s)(o:bq):j4 (G2 (aP s) (ba o)).1 (G2 (aP s) (ba o)).2=vq s o:=by
 unfold G2 vq bp;show j4 (match aR s.1.1 (ba o) with|none=>(13,aP s)|some v=>if 0<v.2.1.length then(14,aP s) else(0,(cU s.1.1 (ba o),(s.1.2,(s.2,())))):Int×aW).1 (match aR s.1.1 (ba o) with|none=>(13,aP s)|some v=>if 0<v.2.1.length then(14,aP s) else(0,(cU s.1.1 (ba o),(s.1.2,(s.2,())))):Int×aW).2=_
 cases aR s.1.1 (ba o) with
 |none=>rfl
 |some v =>
  simp only;by_cases hl:0<v.2.1.length
  ·rw[if_pos hl,if_pos hl];rfl
  ·rw[if_neg hl,if_neg hl];unfold aM;rw[q7 h.d.ge];rfl
def Pp(s:StateT)(o:bq):StateT×(Int×Unit) :=if o.1=1 then ov s o else if o.1=2 then vq s o else if o.1=3 then ou s o else if o.1=4 then D4 s o else if o.1=5 then kJ s o else if o.1=6 then j0 s o else wg s o
theorem RX(s:StateT)(o:bq):ke s o=if cC o≠0 then(zS,(cC o,())) else Pp s o:=rfl
theorem VT(hG:HG G)(s:StateT)(o:bq)(h:eI s)(hm:cC o=0)(h3:o.1=3→∃(e:Int) (w:aW),FX G 114 qR ((o,()),(aP s,()))=some ((e,()),(w,()))∧j4 e w=ou s o) :
  ∃(e:Int) (w:aW),FX G 85 Im ((o,()),(aP s,()))=some ((e,()),(w,()))∧j4 e w=Pp s o:=by
 have hk:=Eh hm;have YJ:=h.d.small;have My:=h.d.nv;have bz:=h.d.ne;have start:∀(e:Int) (w:aW),bF 85 Im Tryz.f85 (FX G) (LX G 85 Im Tryz.f85) ((o,()),(aP s,()))=some ((e,()),(w,()))→FX G 85 Im ((o,()),(aP s,()))=some ((e,()),(w,())):=fun e w a =>av (hG _ _ rfl) a rfl;unfold Pp;by_cases h1:o.1=1
 ·rw[if_pos h1];refine⟨_,_,start _ _ ((M8).trans (ae (Jq h1) (aa (aca hG (aP s) (ba o,([],(e0,0))) h.d.sv YJ.n) rfl))),?_⟩;exact RV s o
 rw[if_neg h1];by_cases h2:o.1=2
 ·rw[if_pos h2];refine⟨_,_,start _ _ ((M8).trans (af (A1 h1) (ae (Jq h2) (aa (alU hG (aP s) o h.d.sv YJ.n) rfl)))),?_⟩;exact RW h o
 rw[if_neg h2];by_cases SJ:o.1=3
 ·rw[if_pos SJ];obtain⟨e,w,a,b⟩:=h3 SJ;exact⟨e,w,start _ _ ((M8).trans (af (A1 h1) (af (A1 h2) (ae (Jq SJ) (aa a rfl))))),b⟩
 rw[if_neg SJ];by_cases hk4:o.1=4
 ·rw[if_pos hk4];obtain⟨e,w,a,b⟩:=al3 hG s o h YJ;exact⟨e,w,start _ _ ((M8).trans (af (A1 h1) (af (A1 h2) (af (A1 SJ) (ae (Jq hk4) (aa a rfl)))))),b⟩
 rw[if_neg hk4];by_cases hk5:o.1=5
 ·rw[if_pos hk5];obtain⟨e,w,a,b⟩:=al7 hG s o h YJ hm hk5;exact⟨e,w,start _ _ ((M8).trans (af (A1 h1) (af (A1 h2) (af (A1 SJ) (af (A1 hk4) (ae (Jq hk5) (aa a rfl))))))),b⟩
 rw[if_neg hk5];by_cases hk6:o.1=6
 ·rw[if_pos hk6];obtain⟨e,w,a,b⟩:=amb hG s o h YJ;exact⟨e,w,start _ _ ((M8).trans (af (A1 h1) (af (A1 h2) (af (A1 SJ) (af (A1 hk4) (af (A1 hk5) (ae (Jq hk6) (aa a rfl)))))))),b⟩
 rw[if_neg hk6];refine⟨_,_,VS hG (aP s) o (by omega) h.d.sv h.d.se YJ.n (by show s.1.2.length≤_;omega),?_⟩;exact RU s o
def jw(G:(f:FuncId)→(g:aN)→Option (g.A→Option g.B))(o:bq):Prop:=∀s,eI s→cC o=0→o.1=3→∃(e:Int) (w:aW),FX G 114 qR ((o,()),(aP s,()))=some ((e,()),(w,()))∧j4 e w=ou s o
theorem VU{s:StateT}{o:bq}(hm:cC o=0):Pp s o=ke s o:=by simp_all [RX,if_neg]
theorem amg(hG:HG G)(l:List bq)(hl:l.length≤1073741824)(hm:∀o∈l,cC o=0)(h3:∀o∈l,jw G o):∀(n i:Nat) (s:StateT),i+n=l.length→eI s → LX G 64 Km Tryz.f64 DF (aK Tryz.prog 64 0) ((l,(((l.length:Nat):Int),((i:Int),()))),((zW,(aP s,())),()))=some (D5 (l.drop i) s,()):=by
 intro n
 induction n with
 |zero =>intro i s hi hw;refine ar Uy ?_;refine af (decide_eq_false (show ¬((i:Int)<((l.length:Nat):Int)) by omega)) ?_;rw[List.drop_eq_nil_of_le (by omega)];rfl
 |succ n ih =>
  intro i s hi hw;have aO:i<l.length:=by omega
  have ho:=hm l[i] (ac8 aO);obtain⟨e,w,h1,h2⟩:=VT hG s l[i] hw ho (h3 _ (ac8 aO) s hw ho);rw[VU ho]at h2;refine ar Uy ?_;refine ae (aT aO) (aa (aA (abn aO)) ?_);refine aa h1 ?_;rw[List.drop_eq_getElem_cons aO,D5];have HN:=hw.one l[i];by_cases he:e=0
  ·have e1:j4 e w=(BX w,(0,())):=if_neg (by simp[he]);rw[e1]at h2;rw[←h2]at HN ⊢;rw[if_neg (by simp)];refine af (show(e != 0)=false by simp[he]) ?_;have:=ih (i+1) (BX w) (by omega) HN;rw[←aD aO hl]at this;exact this
  ·have e1:j4 e w=(zS,(e,())):=if_pos he;rw[e1]at h2;rw[←h2,if_pos he];exact ae (show(e != 0)=true by simp[he]) rfl
theorem ach(hG:HG G)(s:StateT)(l:List bq)(hw:eI s)(hl:l.length≤1073741824)(hm:∀o∈l,cC o=0)(h3:∀o∈l,jw G o):FX G 64 Km ((s,l,()),())=some (D5 l s,()):=by have hn:=hw.n;refine av (hG _ _ rfl) akj ?_;refine aa (aga hG s.1 hw.d.sm) ?_;refine aa (ab9 (hG _ _ rfl) s.2 (by omega)) ?_;have:=amg hG l hl hm h3 l.length 0 s (by omega) hw;rw[List.drop_zero]at this;exact this
theorem Ly(l:List bq)(h:lL l=0):∀o∈l,cC o=0:=by
 induction l with
 |nil=>simp_all
 |cons o r ih =>
  rw[lL]at h
  grind
theorem Ny{l:List bq}(h:c8 l=0):∀o∈l,cC o=0:=by
 grind [c8,Ly]
theorem amh(hG:HG G)(s:StateT)(l:List bq)(hw:eI s)(hl:l.length≤1073741824)(hf:∀o∈l,Fit o)(h3:∀o∈l,jw G o):FX G 40 T6 ((s,l,()),())=some (cV s l,()):=by
 refine av (hG _ _ rfl) aka ?_;refine aa (age hG l hl hf) ?_;unfold cV;by_cases hm:c8 l=0
 ·rw[if_neg (by simp[hm])];refine af (show(c8 l != 0)=false by simp[hm]) ?_;exact aa (ach hG s l hw hl (Ny hm) h3) rfl
 ·rw[if_pos hm];exact ae (show(c8 l != 0)=true by simp[hm]) rfl
theorem agm(hG:HG G)(s:StateT)(l:List bq)(hw:eI s)(hl:l.length≤1073741824)(hf:∀o∈l,Fit o)(h3:∀o∈l,jw G o):FX G 62 Kk ((s,l,()),())=some ((il s l,()),()):=by
 have hn:=hw.n;refine av (hG _ _ rfl) ake ?_;refine aa (amh hG s l hw hl hf h3) ?_;unfold il;by_cases he:(cV s l).2.1=0
 ·rw[if_neg (by simp[he])];exact af (show((cV s l).2.1 != 0)=false by simp[he]) rfl
 ·rw[if_pos he];refine ae (show((cV s l).2.1 != 0)=true by simp[he]) ?_;refine aa (aga hG s.1 hw.d.sm) ?_;exact aa (ab9 (hG _ _ rfl) s.2 (by omega)) rfl
end Go.Vs
