/- Edges cut and split -/
import Derived.Test.YtoleelddkocpkaaGreatFormed
import Derived.Test.YtoleelddkocpkaaGreatTop
set_option linter.unusedVariables false
set_option linter.unusedSimpArgs false
namespace Go.Vs
open Go.Proofs
variable {G:(f:FuncId)→(g:aO)→Option (g.A→Option g.B)}
theorem Zx(hG:HG G)(v:ax)(x:ab):FX G 219 FV ((v,x,()),())=some ((oV v.1 x,()),()):=by refine aw (hG _ _ rfl) adM ?_;exact aa (Zt hG v.1 x) rfl
def ep(l:List ax)(x:ab):Nat:=l.countP fun v=>lY v.1 x
theorem H6(l:List ax)(x:ab):ep l x≤l.length:=acL
theorem yQ{l:List ax}{x:ab}(h:∀v∈l,lY v.1 x=false):ep l x=0:=by
 grind [ep,List.countP_eq_zero]
theorem Gk{x:ab}:∀{l:List ax},jt l→∀(k:Nat) (v:ax),l[k]? = some v→(lY v.1 x=true↔k<ep l x)
 |[],_,k,v,h=>by simp at h
 |w::r,hs,k,v,h=>by
  have hw:∀{u:ax},u∈r→lY w.1 u.1=true:=fun {u} hu=>ab1 hs hu;have hr:jt r:=hs.of_cons;by_cases aK:lY w.1 x=true
  ·have e:ep (w::r) x=ep r x+1:=by grind [ep,List.countP_cons_of_pos]
   cases k with
   |zero=>simp_all
   |succ k=>have:=Gk (x:=x) hr k v (by simpa using h);simp_all
  ·have hn:∀u∈w::r,lY u.1 x=false:=fun u hu=>by
    rcases abM.1 hu with rfl|hu
    ·simp_all
    ·rw[Bool.eq_false_iff];grind [jr]
   grind [yQ,List.mem_of_getElem?]
theorem UE(hG:HG G)(l:List ax)(x:ab)(hs:jt l)(hl:l.length≤50000000):∀(n i j:Nat),j-i≤n→i≤ep l x→ep l x≤j→j≤l.length → LX G 220218 jH Tryz.f218 je (aM Tryz.prog 218 0) ((l,(((l.length:Nat):Int),((i:Int),((j:Int),())))),(((x,()),()),()))=some (((((ep l x:Nat):Int),(decide ((l[ep l x]?).map (·.1)=some x),())):Int×(Bool×Unit)),()):=by
 have uW:=H6 l x;have fin:∀(i j:Nat),¬(i<j)→i≤ep l x→ep l x≤j→LX G 220218 jH Tryz.f218 je (aM Tryz.prog 218 0) ((l,(((l.length:Nat):Int),((i:Int),((j:Int),())))),(((x,()),()),()))=some (((((ep l x:Nat):Int),(decide ((l[ep l x]?).map (·.1)=some x),())):Int×(Bool×Unit)),()):=fun i j Fu h1 h2=>by
  have hi:i=ep l x:=by omega
  subst hi;refine au C2 ?_;refine af (decide_eq_false (show ¬(((ep l x:Nat):Int)<(j:Int)) by omega)) ?_;by_cases hc:ep l x<l.length
  ·have hx:l[ep l x]? = some l[ep l x]:=abk hc;refine ae (aR hc) ?_;refine aa (aG hx) ?_;refine aa (Zx hG l[ep l x] x) ?_;refine congrArg (fun b:Bool=>some ((((ep l x:Nat):Int),(b,())),())) ?_
   grind [oV,ep]
  ·refine af (decide_eq_false (show ¬(((ep l x:Nat):Int)<((l.length:Nat):Int)) by omega)) ?_;refine congrArg (fun b:Bool=>some ((((ep l x:Nat):Int),(b,())),())) ?_;simp_all
 intro n
 induction n with
 |zero=>grind
 |succ n ih =>
  intro i j Fu h1 h2 h3;by_cases aK:i<j
  case neg=>grind
  refine au C2 ?_;refine ae (decide_eq_true (show((i:Int)<(j:Int)) by omega)) ?_;refine af rfl ?_;have hm:=Mx (i:=i) (j:=j) (by omega) (by omega);have hh:(i+j) / 2<l.length:=by omega
  have hx:l[(i+j) / 2]? = some l[(i+j) / 2]:=abk hh;have qg:=Gk (x:=x) hs ((i+j) / 2) _ hx;refine aa (show aW l (IntKind.wrap .i64 (g9 .u64 (IntKind.wrap .u64 (IntKind.wrap .i64 ((i:Int)+(j:Int)))) (1:Int)))=some l[(i+j) / 2] by rw[hm];exact aG hx) ?_;refine aa (Zx hG l[(i+j) / 2] x) ?_;by_cases ho:lY l[(i+j) / 2].1 x=true
  ·refine ae (decide_eq_true ((A9 _ _).2 ho)) ?_;have hc:=qg.1 ho;have hw:IntKind.wrap .i64 (IntKind.wrap .i64 (g9 .u64 (IntKind.wrap .u64 (IntKind.wrap .i64 ((i:Int)+(j:Int)))) (1:Int))+1)=(((i+j) / 2+1:Nat):Int):=by rw[hm];exact aB hh (by omega)
   have:=ih ((i+j) / 2+1) j (by omega) (by omega) h2 h3;rw[←hw]at this;exact this
  ·refine af (decide_eq_false (fun h=>ho ((A9 _ _).1 h))) ?_;have hc:¬(i+j) / 2<ep l x:=fun h=>ho (qg.2 h);have:=ih i ((i+j) / 2) (by omega) h1 (by omega) (by omega);rw[←hm]at this;exact this
theorem UF(hG:HG G)(l:List ax)(x:ab)(hs:jt l)(hl:l.length≤50000000) :
  FX G 220218 jH ((l,x,()),())=some (((((ep l x:Nat):Int),(decide ((l[ep l x]?).map (·.1)=some x),())):Int×(Bool×Unit)),()):=by
 refine aw (hG _ _ rfl) T0 ?_;exact UE hG l x hs hl l.length 0 l.length (by omega) (by omega) (H6 l x) (abX _)
theorem KH(g:ax):∀{l:List ax},jt l→lR g l=if(l[ep l g.1]?).map (·.1)=some g.1 then l.set (ep l g.1) g else l.take (ep l g.1)++(g::l.drop (ep l g.1))
 |[],_=>rfl
 |w::r,hs=>by
  have hw:∀{u:ax},u∈r→lY w.1 u.1=true:=fun {u} hu=>ab1 hs hu;have hr:jt r:=adj hs;by_cases aK:lY w.1 g.1=true
  ·have e:ep (w::r) g.1=ep r g.1+1:=by grind [ep,List.countP_cons_of_pos]
   have bw:w.1≠g.1:=fun k=>by grind [eF]
   have uY:¬oV g.1 w.1≤0:=fun k=>by
    grind [qx,jr,eF]
   have ih:=KH g hr;rw[e,lR,if_neg uY,if_pos bw,ih]
   grind
  ·have hn:∀u∈w::r,lY u.1 g.1=false:=fun u hu=>by
    rcases abM.1 hu with rfl|hu
    ·simp_all
    ·rw[Bool.eq_false_iff];grind [jr]
   rw[yQ hn];by_cases he:w.1=g.1
   ·have aks:oV g.1 w.1≤0:=qx.2 (.inl he.symm);have h1:nX g (w::r)=r:=by
     have:nX g (w::r)=nX g r:=by grind [nX,List.filter_cons_of_neg]
     grind [tP,eF]
    simp_all [lR,if_pos]
   ·have Ny:lY g.1 w.1=true:=yM (by simp_all) he;have aks:oV g.1 w.1≤0:=qx.2 (.inr Ny);have h1:nX g (w::r)=w::r:=tP (fun q hq k=>by
     grind)
    simp_all [lR,if_pos,if_neg]
theorem Gl{x:ab}:∀{l:List ax},jt l→(gS l x).isSome=decide ((l[ep l x]?).map (·.1)=some x)
 |[],_=>rfl
 |w::r,hs=>by
  have hw:∀{u:ax},u∈r→lY w.1 u.1=true:=fun {u} hu=>ab1 hs hu;have hr:jt r:=adj hs;rw[qy];by_cases aK:lY w.1 x=true
  ·have e:ep (w::r) x=ep r x+1:=by grind [ep,List.countP_cons_of_pos]
   have bw:w.1≠x:=fun k=>by grind [eF]
   rw[e,if_neg bw,Gl hr,List.getElem?_cons_succ]
  ·have hn:∀u∈w::r,lY u.1 x=false:=fun u hu=>by
    rcases abM.1 hu with rfl|hu
    ·simp_all
    ·rw[Bool.eq_false_iff];grind [jr]
   rw[yQ hn];by_cases he:w.1=x
   ·simp[he]
   ·have Ny:lY x w.1=true:=yM (by simp_all) he;have:gS r x=none:=by
     grind [gS,List.find?,decide,List.find?_eq_none,jr,eF]
    simp_all
theorem aeZ(hG:HG G)(l:List ax)(g:ax)(hs:jt l)(hl:l.length≤50000000):FX G 199 JV ((l,g,()),())=some ((bR l g,()),()):=by
 refine aw (hG _ _ rfl) adD ?_;refine aa (UF hG l g.1 hs hl) ?_;refine aa (aaX (hG _ _ rfl) l hl) ?_;unfold bR;rw[Gl hs,KH g hs];have hc:ep l g.1≤l.length:=H6 l g.1;by_cases h:(l[ep l g.1]?).map (·.1)=some g.1
 ·rw[decide_eq_true h,if_neg (fun k=>by cases k.1),if_pos h];refine ae rfl ?_;obtain⟨u,hu,_⟩:∃u,l[ep l g.1]? = some u∧u.1=g.1:=by simp_all
  have aK:=(aby.1 hu).1;refine ae (cz (fj _) (aR aK)) ?_;exact aa hu rfl
 ·rw[decide_eq_false h,if_neg h];refine af rfl ?_;by_cases h4:400≤l.length
  ·rw[if_pos ⟨rfl,h4⟩];exact af (decide_eq_false (show ¬((l.length:Nat):Int)<400 by omega)) rfl
  ·rw[if_neg (fun k=>h4 k.2)];refine ae (decide_eq_true (show((l.length:Nat):Int)<400 by omega)) ?_;have kG:rB l ((ep l g.1:Nat):Int) [g]=true:=by
    grind [rB,decide_eq_true,ep,fits]
   refine ae kG ?_;rfl
theorem Gm(hG:HG G)(w:aV)(x to:ab)(hs:jt w.2.2.1)(hl:w.2.2.1.length≤50000000):FX G 160 Cu ((x,to,()),(w,()))=some ((),((w.1,(w.2.1,(bR w.2.2.1 (x,to),()))),())):=by refine aw (hG _ _ rfl) adm ?_;exact aa (aeZ hG w.2.2.1 (x,to) hs hl) rfl
theorem Gn(hG:HG G)(w:aV)(x:ab)(hw:Rw w.1)(hl:w.1.length≤50000000)(hr:∀v∈w.1,v.2.1.length≤50000000){k:Nat}{v:ai}(hk:w.1[k]? = some v)(hx:x∈v.2.1) :
  FX G 162 mE ((x,()),(w,()))=some (((some ((⟨0,by decide⟩:Fin 1),k)),()),(w,())):=by
 refine aw (hG _ _ rfl) ado ?_;have Wg:=(aby.1 hk).1;have loop:∀(n i:Nat),i+n=k→LX G 162 mE Tryz.f162 wL (aM Tryz.prog 162 0) ((((w.1.length:Nat):Int),((i:Int),())),((w,((x,()),())),()))=some (((some ((⟨0,by decide⟩:Fin 1),k)),()),(w,())):=by
  intro n
  induction n with
  |zero =>
   intro i hi;have hi:i=k:=by omega
   subst hi;refine au NJ ?_;refine ae (aR Wg) (ae (cz (fj _) (aR Wg)) (aa hk ?_));refine aa (Ge hG v.2.1 x (by grind)) ?_;exact ae (decide_eq_true hx) rfl
  |succ n ih =>
   intro i hi;have qO:i<w.1.length:=by omega
   have hu:w.1[i]? = some w.1[i]:=abk qO;have PX:x∉w.1[i].2.1:=fun hxi=>by have h1:w.1[i]=v:=hw.one (ab3 hk) (ab4 qO) hx hxi;have h2:=km hw.s hk rfl;have h3:=km hw.s (x:=v.1) hu (by rw[h1]);omega
   refine au NJ ?_;refine ae (aR qO) (ae (cz (fj _) (aR qO)) (aa hu ?_));refine aa (Ge hG w.1[i].2.1 x (by grind)) ?_;refine af (decide_eq_false PX) ?_;have:=ih (i+1) (by omega);rw[←aB qO (by omega)]at this;exact this
 exact loop k 0 (by omega)
theorem MC{l:List ai}{k:Nat}{v:ai}(hs:b6 l)(hk:l[k]? = some v)(r:List ab):l.set k (v.1,(r,v.2.2))=l.map (tF v.1 r):=by
 have h:=jO hs (ab3 hk);rw[km hs hk rfl];refine(KB hs h (tF v.1 r) (fun u=>(u.1,(r,u.2.2))) (fun u hu=>?_) (fun u hu=>?_)).symm
 ·unfold tF;rw[if_pos hu]
 simp_all [tF,if_neg]
theorem ss{l:List ai}{x:ab}(h:x∈an l):∃(k:Nat) (v:ai),l[k]? = some v∧x∈v.2.1∧v∈l:=by obtain⟨v,hv,hx⟩:=aS.1 h;obtain⟨k,hk,he⟩:=acY hv;exact⟨k,v,by simp_all,hx,hv⟩
structure Sv(l:List ai):Prop where
 n:l.length≤50000000
 r:∀v∈l,v.2.1.length≤50000000
theorem UG{n:Int}(h:n=0∨n=1):fe .xor .i64 n 1=IntKind.wrap .i64 (1-n):=by rcases h with rfl|rfl<;>decide
theorem KI(hG:G 166 oQ=none)(x:ab)(h:x.2=0∨x.2=1):FX G 166 oQ ((x,()),())=some ((ag x,()),()):=by refine aw hG adr ?_;exact congrArg (fun n:Int=>some ((((x.1,n):ab),()),())) (UG h)
theorem Gp{d:ak}(h:Rw d.1){v:ai}{x:ab}(hv:v∈d.1)(hx:x∈v.2.1):db d x=if(jo v.2.1 x).1=x.1 then(if(jo v.2.1 (jo v.2.1 x)).1=x.1 then zD else jo v.2.1 (jo v.2.1 x)) else jo v.2.1 x:=by
 unfold db;have e:bF d ((b8 d x).getD zI)=v.2.1:=by unfold b8;rw[eJ h hv hx];exact ku h.s hv
 grind
theorem Zy(hG:HG G)(w:aV)(x:ab)(hw:Rw w.1)(hs:Sv w.1)(hx:x∈an w.1)(e:List aj):FX G 161 Cv ((x,()),(w,()))=some ((db (w.1,e) x,()),(w,())):=by
 obtain⟨k,v,hk,od,hv⟩:=ss hx;have P3:=hs.r v hv;refine aw (hG _ _ rfl) adn ?_;rw[Gp (d:=(w.1,e)) hw hv od];have prev:∀y:ab,FX G 200 FR ((v.2.1,y,()),())=some (((jo v.2.1 y),((Kp (dp v.2.1 y (v.2.1.length-1))).2)),()):=fun y=>by
  grind [aeX,trans,Kp,dp,jo,A6]
 have gN:∀y:ab,((y.1.1==x.1.1)&&(y.1.2==x.1.2))=decide (y.1=x.1):=fun y=>lh y.1 x.1;refine au HD ?_;refine ae rfl (aa (Gn hG w x hw hs.n hs.r hk od) ?_);refine uJ rfl (ae rfl (aa hk ?_));refine aa (prev x) ?_;by_cases h1:(jo v.2.1 x).1=x.1
 ·rw[if_pos h1];refine bu ((gN _).trans (decide_eq_true h1)) ?_;refine au HD ?_;refine ae rfl (aa (Gn hG w x hw hs.n hs.r hk od) ?_);refine uJ rfl (ae rfl (aa hk ?_));refine aa (prev (jo v.2.1 x)) ?_;by_cases h2:(jo v.2.1 (jo v.2.1 x)).1=x.1
  ·rw[if_pos h2];refine bu ((gN _).trans (decide_eq_true h2)) ?_;refine au HD ?_;rfl
  ·rw[if_neg h2];exact bu ((gN _).trans (decide_eq_false h2)) rfl
 ·rw[if_neg h1];exact bu ((gN _).trans (decide_eq_false h1)) rfl
theorem KJ{l:List aj}{x:ID}(hs:dq l)(h:(aY l x).isSome=true)(hl:l.length≤50000000) :
  jX l ((cp l x:Nat):Int) (IntKind.wrap .i64 (((cp l x:Nat):Int)+1))=true∧du l ((cp l x:Nat):Int) (IntKind.wrap .i64 (((cp l x:Nat):Int)+1))=cY l x:=by
 grind [Option.isSome_iff_exists,List.getElem?_eq_some_iff,mS,IntKind.wrap,cp,aB,jX,decide_eq_true,fits,yK,du,Int.toNat_natCast]
theorem UH{l:List ai}{x:ID}(hs:b6 l)(h:(aQ l x).isSome=true)(hl:l.length≤50000000) :
  jX l ((bS l x:Nat):Int) (IntKind.wrap .i64 (((bS l x:Nat):Int)+1))=true∧du l ((bS l x:Nat):Int) (IntKind.wrap .i64 (((bS l x:Nat):Int)+1))=cT l x:=by
 grind [Option.isSome_iff_exists,List.getElem?_eq_some_iff,dd,IntKind.wrap,bS,aB,jX,decide_eq_true,fits,yH,du,Int.toNat_natCast]
theorem Sv.re{l:List ai}(h:Sv l)(x:ID){r:List ab}(hr:r.length≤50000000):Sv (l.map (tF x r)):=by
 refine⟨by simp;exact h.n,fun w hw=>?_⟩;obtain⟨u,hu,rfl⟩:=abW.1 hw;unfold tF
 split
 ·exact hr
 ·exact h.r u hu
theorem Dy{row:List ab}(d:ab):(iz row d).length≤row.length:=by
 grind [iz,jn,List.length_filter_le]
theorem Og{w:aV}{x:ab}(hw:Rw w.1){k:Nat}{v:ai}(hk:w.1[k]? = some v)(hx:x∈v.2.1)(e:List aj):w.1.set k (v.1,(iz v.2.1 x,v.2.2))=(aF (w.1,e) x).1:=by rw[kx (d:=(w.1,e)) hw (List.mem_of_getElem? hk) hx];exact MC hw.s hk _
theorem akt(hG:HG G)(s:StateT)(o:bg)(h:dF s)(hs:Sv s.1.1) :
  ∃(e:Int) (w:aV),FX G 115 Cr ((o,()),(aN s,()))=some ((e,()),(w,()))∧jN e w=De s o:=by
 have bw:=h.d.ne;unfold De
 cases hf:(aY s.1.2 (aZ o)).isSome with
 |false =>
  refine⟨13,aN s,?_,?_⟩
  ·refine aw (hG _ _ rfl) ac5 ?_;refine aa (o8 hG (aN s) (aZ o) h.d.se (by show s.1.2.length≤_;omega)) ?_;exact bu ((dk (l:=s.1.2) h.d.se).trans hf) rfl
  ·rw[if_pos (show(gN s.1 (aZ o)).isSome=false from hf)];rfl
 |true =>
  rw[if_neg (show ¬(gN s.1 (aZ o)).isSome=false by show ¬(aY s.1.2 (aZ o)).isSome=false;rw[hf];simp)];obtain⟨x,hx⟩:∃x:ab,x=(aZ o,0):=⟨_,rfl⟩;obtain⟨y,hy⟩:∃y:ab,y=(aZ o,1):=⟨_,rfl⟩;have hxd:x∈an s.1.1:=by rw[hx];exact h.d.kA hf (.inl rfl)
  have hyd:y∈an s.1.1:=by rw[hy];exact h.d.kA hf (.inr rfl)
  have g1:=kz h.g h.n (x,db s.1 x);have hn:=h.n;obtain⟨p1,q1⟩:=fJ h.d.rw hxd;have akv:y∈an (aF s.1 x).1:=by
   grind
  have UC:=ky (ky h.d.gv x) y;refine⟨0,((aF (aF s.1 x) y).1,(cY s.1.2 (aZ o),(bR (bR s.2 (x,db s.1 x)) (y,db s.1 y),()))),?_,?_⟩
  ·refine aw (hG _ _ rfl) ac5 ?_;refine aa (o8 hG (aN s) (aZ o) h.d.se (by show s.1.2.length≤_;omega)) ?_;refine bu ((dk (l:=s.1.2) h.d.se).trans hf) (af rfl ?_);have akw:FX G 156 Cs ((aZ o,()),())=some ((x,y,()),()):=by rw[hx,hy];exact aw (hG _ _ rfl) Y8 rfl
   refine aa akw ?_;refine au Mg ?_;refine ae rfl (ae rfl (aa (a:=x) rfl ?_));refine aa (Zy hG (aN s) x h.d.rw hs hxd s.1.2) ?_;refine aa (Gm hG (aN s) x (db s.1 x) h.g (by show s.2.length≤_;omega)) ?_;refine au Mg ?_;refine ae rfl (ae rfl (aa (a:=y) rfl ?_));refine aa (Zy hG (s.1.1,(s.1.2,(bR s.2 (x,db s.1 x),()))) y h.d.rw hs hyd s.1.2) ?_;refine aa (Gm hG (s.1.1,(s.1.2,(bR s.2 (x,db s.1 x),()))) y (db s.1 y) g1.1 (by grind)) ?_;refine au Mg ?_;refine af rfl ?_;generalize bR (bR s.2 (x,db s.1 x)) (y,db s.1 y)=gg;obtain⟨k,v,hk,od,hv⟩:=ss hxd;refine au Mh ?_;refine ae rfl (ae rfl (aa (a:=x) rfl ?_));refine aa (Gn hG (s.1.1,(s.1.2,(gg,()))) x h.d.rw hs.n hs.r hk od) ?_;refine uJ rfl (ae rfl (aa hk ?_));refine aa (Zv hG v.2.1 x (h.d.rw.ring hv) (hs.r v hv)) ?_;refine aa hk ?_;have e1:s.1.1.set k (v.1,(iz v.2.1 x,v.2.2))=(aF s.1 x).1:=Og (w:=(s.1.1,(s.1.2,(gg,())))) h.d.rw hk od s.1.2;have Ma:Sv (aF s.1 x).1:=by rw[kx h.d.rw hv od];exact hs.re _ (ab0 (Dy x) (hs.r v hv))
   obtain⟨k2,v2,oF,Wy,AJ⟩:=ss akv;have e2:(aF s.1 x).1.set k2 (v2.1,(iz v2.2.1 y,v2.2.2))=(aF (aF s.1 x) y).1:=Og (w:=((aF s.1 x).1,(s.1.2,(gg,())))) q1 oF Wy (aF s.1 x).2;have rest:∀a:List ai,a=(aF s.1 x).1→LX G 115 Cr Tryz.f115 yx (aM Tryz.prog 115 1) ((((cp s.1.2 (aZ o):Nat):Int),((2:Int),((1:Int),()))),(((a,(s.1.2,(gg,()))),()),([x,y],())))=some (((0:Int),()),(((aF (aF s.1 x) y).1,(cY s.1.2 (aZ o),(gg,()))),())):=by
    intro a ha;subst ha;refine au Mh ?_;refine ae rfl (ae rfl (aa (a:=y) rfl ?_));refine aa (Gn hG ((aF s.1 x).1,(s.1.2,(gg,()))) y q1 Ma.n Ma.r oF Wy) ?_;refine uJ rfl (ae rfl (aa oF ?_));refine aa (Zv hG v2.2.1 y (q1.ring AJ) (Ma.r v2 AJ)) ?_;refine aa oF ?_;have last:∀b:List ai,b=(aF (aF s.1 x) y).1→LX G 115 Cr Tryz.f115 yx (aM Tryz.prog 115 1) ((((cp s.1.2 (aZ o):Nat):Int),((2:Int),((2:Int),()))),(((b,(s.1.2,(gg,()))),()),([x,y],())))=some (((0:Int),()),(((aF (aF s.1 x) y).1,(cY s.1.2 (aZ o),(gg,()))),())):=by intro b hb;subst hb;refine au Mh ?_;obtain⟨d1,d2⟩:=KJ h.d.se hf (by omega);refine af rfl (ae d1 ?_);exact congrArg (fun l:List aj=>some (((0:Int),()),(((aF (aF s.1 x) y).1,(l,(gg,()))),()))) d2
    exact last _ e2
   exact rest _ e1
  ·rw[←hx,←hy];unfold aJ;rw[tM UC];rfl
theorem MD{n:Int}(h0:0≤n)(h3:n≤3):fe .xor .i64 1 (fe .and .i64 n 1)=IntKind.wrap .i64 (1-Int.tmod n 2)∧g9 .i64 n 1=IntKind.wrap .i64 (Int.tdiv n 2):=by
 have:n=0∨n=1∨n=2∨n=3:=by omega
 rcases this with rfl|rfl|rfl|rfl<;>exact⟨by decide,by decide⟩
theorem KK{l:List ai}{x:ab}(hw:Rw l){k:Nat}{v:ai}(hk:l[k]? = some v)(hx:x∈v.2.1)(y:ab)(e:List aj):l.set k (v.1,(fi v.2.1 x y,v.2.2))=(aC (l,e) x y).1:=by rw[qu (d:=(l,e)) hw y (List.mem_of_getElem? hk) hx];exact MC hw.s hk _
theorem akx(hG:HG G)(s:StateT)(o:bg)(h:dF s)(hs:Sv s.1.1)(hm:cx o=0)(hk5:o.1=5) :
    ∃(e:Int) (w:aV),FX G 116 Az ((o,()),(aN s,()))=some ((e,()),(w,()))∧jN e w=kl s o:=by
  have bw:=h.d.ne;have Nn:=h.d.nv;obtain⟨m1,m2,m3,m4⟩:=yP hm hk5;obtain⟨s1,s2⟩:=Dx m3 m4;obtain⟨c1,c2⟩:=MD m3 m4;have key:∀(e:Int) (w:aV),FX G 116 Az ((o,()),(aN s,()))=some ((e,()),(w,()))→jN e w=kl s o→∃(e:Int) (w:aV),FX G 116 Az ((o,()),(aN s,()))=some ((e,()),(w,()))∧jN e w=kl s o:=fun e w a b=>⟨e,w,a,b⟩;have start:∀(e:Int) (w:aV),bJ 116 Az Tryz.f116 (FX G) (LX G 116 Az Tryz.f116) ((o,()),(aN s,()))=some ((e,()),(w,()))→FX G 116 Az ((o,()),(aN s,()))=some ((e,()),(w,())):=fun e w a =>aw (hG _ _ rfl) a rfl;unfold kl
  cases hf:(aY s.1.2 (aZ o)).isSome with
  |false =>
    refine⟨13,aN s,start _ _ ((Xo).trans ?_),?_⟩
    · refine aa (o8 hG (aN s) (aZ o) h.d.se (by show s.1.2.length≤_;omega)) ?_
      refine aa (qU hG (aN s) (fb o) h.d.sv (by show s.1.1.length≤_;omega)) ?_;refine aa (o8 hG (aN s) (bB o) h.d.se (by show s.1.2.length≤_;omega)) ?_;exact bu ((dk (l:=s.1.2) h.d.se).trans hf) rfl
    · rw[if_pos (show(gN s.1 (aZ o)).isSome=false from hf)];rfl
  |true =>
  rw[if_neg (show ¬(gN s.1 (aZ o)).isSome=false by show ¬(aY s.1.2 (aZ o)).isSome=false;rw[hf];simp)]
  cases YL:(aQ s.1.1 (fb o)).isSome with
  |true =>
    refine⟨12,aN s,start _ _ ((Xo).trans ?_),?_⟩
    · refine aa (o8 hG (aN s) (aZ o) h.d.se (by show s.1.2.length≤_;omega)) ?_
      refine aa (qU hG (aN s) (fb o) h.d.sv (by show s.1.1.length≤_;omega)) ?_;refine aa (o8 hG (aN s) (bB o) h.d.se (by show s.1.2.length≤_;omega)) ?_;refine bu ((dk (l:=s.1.2) h.d.se).trans hf) (af rfl ?_);exact ae ((fU (l:=s.1.1) h.d.sv).trans YL) rfl
    · rw[if_pos (show(bj s.1 (fb o)).isSome=true from YL)];rfl
  |false =>
  rw[if_neg (show ¬(bj s.1 (fb o)).isSome=true by show ¬(aQ s.1.1 (fb o)).isSome=true;rw[YL];simp)]
  cases hfo:(aY s.1.2 (bB o)).isSome with
  |true =>
    refine⟨12,aN s,start _ _ ((Xo).trans ?_),?_⟩
    · refine aa (o8 hG (aN s) (aZ o) h.d.se (by show s.1.2.length≤_;omega)) ?_
      refine aa (qU hG (aN s) (fb o) h.d.sv (by show s.1.1.length≤_;omega)) ?_;refine aa (o8 hG (aN s) (bB o) h.d.se (by show s.1.2.length≤_;omega)) ?_;refine bu ((dk (l:=s.1.2) h.d.se).trans hf) (af rfl ?_);refine af ((fU (l:=s.1.1) h.d.sv).trans YL) ?_;exact ae ((dk (l:=s.1.2) h.d.se).trans hfo) rfl
    · rw[if_pos (show(gN s.1 (bB o)).isSome=true from hfo)];rfl
  |false =>
  rw[if_neg (show ¬(gN s.1 (bB o)).isSome=true by show ¬(aY s.1.2 (bB o)).isSome=true;rw[hfo];simp)];have aox:aQ s.1.1 (fb o)=none:=by simp_all
  have aky:aY s.1.2 (bB o)=none:=by simp_all
  obtain⟨m,hmm⟩:∃m:ab,m=Ky o:=⟨_,rfl⟩;obtain⟨kk,WU⟩:∃m:ab,m=Gc o:=⟨_,rfl⟩;have IA:m∈an s.1.1:=by rw[hmm];exact h.d.kA hf s1
  have Iz:ag kk∉an s.1.1:=by rw[WU];exact h.d.tQ aky _
  obtain⟨p1,q1⟩:=jP h.d.rw IA Iz;have oF:kk.2=0∨kk.2=1:=by rw[WU];exact s2
  obtain⟨k,v,hk,od,hv⟩:=ss IA;have e1:s.1.1.set k (v.1,(fi v.2.1 m (ag kk),v.2.2))=(aC s.1 m (ag kk)).1:=KK h.d.rw hk od _ s.1.2;have hlen:(aC s.1 m (ag kk)).1.length=s.1.1.length:=by grind
  have aeY:aQ (aC s.1 m (ag kk)).1 (fb o)=none:=by
    grind [aC,Vs.cf,o6,sr]
  have eM:((aZ o,fe .xor .i64 1 (fe .and .i64 (oN o) 1)):ab)=m:=by rw[hmm,c1];rfl
  have eK:((bB o,g9 .i64 (oN o) 1):ab)=kk:=by rw[WU,c2];rfl
  have go:∀(e:Int) (w:aV),(∀a:List ai,a=(aC s.1 m (ag kk)).1→((FX G 112 JJ (((fb o,(cj [m,kk],(e0,(0:Int)))),()),((a,(s.1.2,(s.2,()))),()))).bind fun(nW:((Int×Unit)×(aV×Unit))) =>cond (nW.1.1 != (0:Int)) (some (nW.1,((nW.2.1.1,(nW.2.1.2.1,nW.2.1.2.2)),()))) ((FX G 155 zT ((bB o,()),((nW.2.1.1,(nW.2.1.2.1,nW.2.1.2.2)),()))).bind fun(sd:((Int×Unit)×(aV×Unit))) =>some (sd.1,((sd.2.1.1,(sd.2.1.2.1,sd.2.1.2.2)),()))))=some ((e,()),(w,())))→FX G 116 Az ((o,()),(aN s,()))=some ((e,()),(w,())):=fun e w rest=>by
    refine start _ _ ((Xo).trans ?_);refine aa (o8 hG (aN s) (aZ o) h.d.se (by show s.1.2.length≤_;omega)) ?_;refine aa (qU hG (aN s) (fb o) h.d.sv (by show s.1.1.length≤_;omega)) ?_;refine aa (o8 hG (aN s) (bB o) h.d.se (by show s.1.2.length≤_;omega)) ?_;refine bu ((dk (l:=s.1.2) h.d.se).trans hf) (af rfl ?_);refine af ((fU (l:=s.1.1) h.d.sv).trans YL) ?_;refine af ((dk (l:=s.1.2) h.d.se).trans hfo) ?_;refine af rfl ?_;have body:∀mm k2:ab,mm=m→k2=kk→((FX G 162 mE ((mm,()),(aN s,()))).bind fun(y4:(((Option ((Fin 1)×Nat))×Unit)×(aV×Unit))) =>rz y4.1.1 (none) fun(p5:((Fin 1)×Nat)) =>cond (p5.1.val==0) (((y4.2.1.1)[p5.2]?).bind fun(y6:ai) =>(FX G 166 oQ ((k2,()),())).bind fun(y7:((ab×Unit)×Unit)) =>(FX G 165 uD ((y6.2.1,(mm,((y7.1.1.1,y7.1.1.2),()))),())).bind fun(y8:(((List ab)×Unit)×Unit)) =>((y4.2.1.1)[p5.2]?).bind fun(y9:ai) =>(FX G 167 qR (([mm,k2],()),())).bind fun(qS:(((List ab)×Unit)×Unit)) =>(FX G 112 JJ (((fb o,(qS.1.1,((⟨#[]⟩:ByteArray),(0:Int)))),()),(((List.set y4.2.1.1 p5.2 (y9.1,(y8.1.1,y9.2.2))),(y4.2.1.2.1,y4.2.1.2.2)),()))).bind fun(nW:((Int×Unit)×(aV×Unit))) =>cond (nW.1.1 != (0:Int)) (some (nW.1,((nW.2.1.1,(nW.2.1.2.1,nW.2.1.2.2)),()))) ((FX G 155 zT ((bB o,()),((nW.2.1.1,(nW.2.1.2.1,nW.2.1.2.2)),()))).bind fun(sd:((Int×Unit)×(aV×Unit))) =>some (sd.1,((sd.2.1.1,(sd.2.1.2.1,sd.2.1.2.2)),())))) (none))=some ((e,()),(w,())):=by intro mm k2 akz akA;subst akz akA;refine aa (Gn hG (aN s) mm h.d.rw hs.n hs.r hk od) ?_;refine uJ rfl (ae rfl (aa hk ?_));refine aa (KI (hG _ _ rfl) k2 oF) ?_;refine aa (Zw hG v.2.1 mm (ag k2) (hs.r v hv)) ?_;refine aa hk ?_;refine aa (Dn hG [mm,k2] (by simp)) ?_;exact rest _ e1
    exact body _ _ eM eK
  have aoy:24≤s.1.1.length→qV ((aC s.1 m (ag kk)).1,(s.1.2,(s.2,()))) (fb o,(cj [m,kk],(e0,0)))=(3,((aC s.1 m (ag kk)).1,(s.1.2,(s.2,())))):=fun hb=>by
    unfold qV
    grind
  have aa2:¬24≤s.1.1.length→qV ((aC s.1 m (ag kk)).1,(s.1.2,(s.2,()))) (fb o,(cj [m,kk],(e0,0)))=(0,(cU (fb o,(cj [m,kk],(e0,0))) (aC s.1 m (ag kk)).1,(s.1.2,(s.2,())))):=fun hb=>by
    unfold qV
    grind
  by_cases hb:24≤s.1.1.length
  · refine⟨3,((aC s.1 m (ag kk)).1,(s.1.2,(s.2,()))),go _ _ (fun a ha=>?_),?_⟩
    · subst ha
      refine aa (aaY hG ((aC s.1 m (ag kk)).1,(s.1.2,(s.2,()))) (fb o,(cj [m,kk],(e0,0))) q1.s (by grind)) ?_
      grind
    · rw[if_pos hb];rfl
  rw[if_neg hb];have hE:uK (cU (fb o,(cj [m,kk],(e0,0))) (aC s.1 m (ag kk)).1,(s.1.2,(s.2,()))) (bB o)=if 40≤s.1.2.length then(3,(cU (fb o,(cj [m,kk],(e0,0))) (aC s.1 m (ag kk)).1,(s.1.2,(s.2,())))) else(0,(cU (fb o,(cj [m,kk],(e0,0))) (aC s.1 m (ag kk)).1,(dv (bB o,(e0,0)) s.1.2,(s.2,())))):=by
    unfold uK
    grind
  have fin:FX G 116 Az ((o,()),(aN s,()))=some (((uK (cU (fb o,(cj [m,kk],(e0,0))) (aC s.1 m (ag kk)).1,(s.1.2,(s.2,()))) (bB o)).1,()),((uK (cU (fb o,(cj [m,kk],(e0,0))) (aC s.1 m (ag kk)).1,(s.1.2,(s.2,()))) (bB o)).2,())):=by refine go _ _ (fun a ha=>?_);subst ha;refine aa (aaY hG ((aC s.1 m (ag kk)).1,(s.1.2,(s.2,()))) (fb o,(cj [m,kk],(e0,0))) q1.s (by grind)) ?_;rw[aa2 hb];refine af rfl ?_;exact aa (Zr hG (cU (fb o,(cj [m,kk],(e0,0))) (aC s.1 m (ag kk)).1,(s.1.2,(s.2,()))) (bB o) h.d.se (by grind)) rfl
  rw[hE]at fin;by_cases hb4:40≤s.1.2.length
  · rw[if_pos hb4]at fin ⊢
    exact⟨_,_,fin,rfl⟩
  · rw[if_neg hb4]at fin ⊢
    refine⟨_,_,fin,?_⟩;rw[hmm,WU];rfl
theorem akB(hG:HG G)(s:StateT)(o:bg)(h:dF s)(hs:Sv s.1.1) :
    ∃(e:Int) (w:aV),FX G 117 rS ((o,()),(aN s,()))=some ((e,()),(w,()))∧jN e w=jM s o:=by
  have bw:=h.d.ne;have Nn:=h.d.nv;have hgn:=h.n;have start:∀(e:Int) (w:aV),bJ 117 rS Tryz.f117 (FX G) (LX G 117 rS Tryz.f117) ((o,()),(aN s,()))=some ((e,()),(w,()))→FX G 117 rS ((o,()),(aN s,()))=some ((e,()),(w,())):=fun e w a =>aw (hG _ _ rfl) a rfl;unfold jM
  cases hf:aQ s.1.1 (aZ o) with
  |none =>
    refine⟨13,aN s,start _ _ ((ac6).trans ?_),?_⟩
    · refine aa (qU hG (aN s) (aZ o) h.d.sv (by show s.1.1.length≤_;omega)) ?_
      exact bu ((fU (l:=s.1.1) h.d.sv).trans (by rw[hf])) rfl
    · rw[show bj s.1 (aZ o)=none from hf];rfl
  |some v =>
  have hfs:(aQ s.1.1 (aZ o)).isSome=true:=by rw[hf];rfl
  have hv:=dX hf;have hvi:=iC hf;have vU:=dd h.d.sv hf;have aK:=(aby.1 vU).1;have hgr:=h.d.rw;have go:∀(e:Int) (w:aV),(cond ((((List.length v.2.1):Nat):Int) != (2:Int)) (some (((14:Int),()),(aN s,()))) _=some ((e,()),(w,())))→FX G 117 rS ((o,()),(aN s,()))=some ((e,()),(w,())):=fun e w rest=>by refine start _ _ ((ac6).trans ?_);refine aa (qU hG (aN s) (aZ o) h.d.sv (by show s.1.1.length≤_;omega)) ?_;refine bu ((fU (l:=s.1.1) h.d.sv).trans hfs) (af rfl ?_);refine ae (cz (fj _) (aR aK)) (aa vU ?_);exact rest
  rw[show bj s.1 (aZ o)=some v from hf];by_cases Aq:v.2.1.length=2
  case neg =>
    refine⟨14,aN s,go _ _ (ae (by grind) rfl),?_⟩;show jN 14 (aN s)=(match v.2.1 with | [r0,r1]=>iM s o r0 r1|_=>(zS,(14,())))
    split
    · grind
    · rfl
  obtain⟨r0,r1,hr⟩:∃r0 r1,v.2.1=[r0,r1]:=by
    match hq:v.2.1,Aq with
    |[a,b],_=>grind
  have FN:(((List.length v.2.1:Nat):Int) != (2:Int))=false:=by rw[Aq];rfl
  have g0:aW v.2.1 (0:Int)=some r0:=by rw[hr];rfl
  have g1:aW v.2.1 (1:Int)=some r1:=by rw[hr];rfl
  show ∃(e:Int) (w:aV),FX G 117 rS ((o,()),(aN s,()))=some ((e,()),(w,()))∧jN e w=(match v.2.1 with | [r0,r1]=>iM s o r0 r1|_=>(zS,(14,())));rw[hr];show ∃(e:Int) (w:aV),FX G 117 rS ((o,()),(aN s,()))=some ((e,()),(w,()))∧jN e w=iM s o r0 r1;unfold iM;by_cases h01:r0.1=r1.1
  · refine⟨14,aN s,go _ _ (af FN (aa g0 (aa g1 (ae ((lh r0.1 r1.1).trans (decide_eq_true h01)) rfl)))),?_⟩
    rw[if_pos h01];rfl
  rw[if_neg h01];have b01:=(lh r0.1 r1.1).trans (decide_eq_false h01);have tail:∀a b:ab,v.2.1.Perm [a,b]→a.1≠b.1→((FX G 166 oQ ((b,()),())).bind fun(y7:((ab×Unit)×Unit)) =>cond (jX s.1.1 ((bS s.1.1 (aZ o):Nat):Int) (IntKind.wrap .i64 (((bS s.1.1 (aZ o):Nat):Int)+(1:Int)))) ((FX G 162 mE (((y7.1.1.1,y7.1.1.2),()),(((du s.1.1 ((bS s.1.1 (aZ o):Nat):Int) (IntKind.wrap .i64 (((bS s.1.1 (aZ o):Nat):Int)+(1:Int)))),(s.1.2,(s.2,()))),()))).bind fun(y8:(((Option ((Fin 1)×Nat))×Unit)×(aV×Unit))) =>rz y8.1.1 (none) fun(p9:((Fin 1)×Nat)) =>cond (p9.1.val==0) (((y8.2.1.1)[p9.2]?).bind fun(qS:ai) =>(FX G 165 uD ((qS.2.1,((y7.1.1.1,y7.1.1.2),(a,()))),())).bind fun(nW:(((List ab)×Unit)×Unit)) =>((y8.2.1.1)[p9.2]?).bind fun(sd:ai) =>(FX G 159 nG ((b.1,()),(((List.set y8.2.1.1 p9.2 (sd.1,(nW.1.1,sd.2.2))),(y8.2.1.2.1,y8.2.1.2.2)),()))).bind fun(mO:((Int×(Bool×Unit))×(aV×Unit))) =>cond (jX mO.2.1.2.1 mO.1.1 (IntKind.wrap .i64 (mO.1.1+(1:Int)))) (LX G 117 rS Tryz.f117 nV (aM Tryz.prog 117 0) (((0:Int),()),(((mO.2.1.1,((du mO.2.1.2.1 mO.1.1 (IntKind.wrap .i64 (mO.1.1+(1:Int)))),mO.2.1.2.2)),((a,()),((b,()),(((y7.1.1.1,y7.1.1.2),()),())))),()))) (none)) (none)) (none))=some (((0:Int),()),(((IE s o a b).1,((IE s o a b).2,(IC s.2 a b,()))),())):=by
    intro a b hp z8;obtain⟨p,q,h1,_,h2,_⟩:=mT h.d.sv hv;have pd:(an s.1.1).Perm (a::b::an (p++q)):=by
      have:=(js p q v).trans (ach _ hp)
      grind
    have Oh:cT s.1.1 (aZ o)=p++q:=by grind
    have QH:aJ s.1 (aZ o) zI=(p++q,s.1.2):=by unfold aJ;rw[Oh,qw h.d.ge]
    have Et:=pd.nodup_iff.1 hgr.n;have hbm:b∈ends s.1.2:=h.d.pd.mem_iff.1 (pd.mem_iff.2 (by simp));obtain⟨e,he,he1,Eo⟩:=dO.1 hbm;have FL:(aY s.1.2 b.1).isSome=true:=by unfold aY;grind
    obtain⟨_,ho⟩:=gO Eo;have QI:ag b∈an (p++q):=by
      have h3:ag b∈an s.1.1:=h.d.kA (s:=(ag b).2) FL (by omega);rcases abM.1 (pd.mem_iff.1 h3) with k|k
      · grind
      rcases abM.1 k with k|k
      · have:=congrArg Prod.snd k;omega
      · exact k
    have H5:Rw (p++q):=⟨by rw[←h2];exact mR h.d.sv,(abR.1 (abR.1 Et).2).2⟩;have bz:∀u∈p++q,u∈s.1.1:=fun u hu=>by
      grind
    have Ma:Sv (p++q):=⟨by
      grind,fun u hu=>hs.r u (bz u hu)⟩
    obtain⟨dk1,dk2⟩:=UH h.d.sv hfs (by omega);rw[Oh]at dk2;obtain⟨k,u,hk,hxu,hu⟩:=ss QI;have e1:(p++q).set k (u.1,(fi u.2.1 (ag b) a,u.2.2))=(aC (p++q,s.1.2) (ag b) a).1:=KK H5 hk hxu _ s.1.2;have UC:∀w∈(aC (p++q,s.1.2) (ag b) a).1,GV w:=qv (d:=(p++q,s.1.2)) (fun w hw=>h.d.gv w (bz w hw)) _ _;have eD:IE s o a b=((aC (p++q,s.1.2) (ag b) a).1,cY s.1.2 b.1):=by unfold IE;rw[QH];unfold aJ;rw[tM UC];rfl
    have ga:=kz h.g h.n ((b.1,0),nY a b 0);rw[eD];refine aa (KI (hG _ _ rfl) b Eo) ?_;refine ae dk1 ?_;have r1:∀l1:List ai,l1=p++q→((FX G 162 mE ((ag b,()),((l1,(s.1.2,(s.2,()))),()))).bind fun(y8:(((Option ((Fin 1)×Nat))×Unit)×(aV×Unit))) =>rz y8.1.1 (none) fun(p9:((Fin 1)×Nat)) =>cond (p9.1.val==0) (((y8.2.1.1)[p9.2]?).bind fun(qS:ai) =>(FX G 165 uD ((qS.2.1,(ag b,(a,()))),())).bind fun(nW:(((List ab)×Unit)×Unit)) =>((y8.2.1.1)[p9.2]?).bind fun(sd:ai) =>(FX G 159 nG ((b.1,()),(((List.set y8.2.1.1 p9.2 (sd.1,(nW.1.1,sd.2.2))),(y8.2.1.2.1,y8.2.1.2.2)),()))).bind fun(mO:((Int×(Bool×Unit))×(aV×Unit))) =>cond (jX mO.2.1.2.1 mO.1.1 (IntKind.wrap .i64 (mO.1.1+(1:Int)))) (LX G 117 rS Tryz.f117 nV (aM Tryz.prog 117 0) (((0:Int),()),(((mO.2.1.1,((du mO.2.1.2.1 mO.1.1 (IntKind.wrap .i64 (mO.1.1+(1:Int)))),mO.2.1.2.2)),((a,()),((b,()),((ag b,()),())))),()))) (none)) (none))=some (((0:Int),()),(((aC (p++q,s.1.2) (ag b) a).1,(cY s.1.2 b.1,(IC s.2 a b,()))),())):=by
      intro l1 hl1;subst hl1;refine aa (Gn hG (p++q,(s.1.2,(s.2,()))) (ag b) H5 Ma.n Ma.r hk hxu) ?_;refine uJ rfl (ae rfl (aa hk ?_));refine aa (Zw hG u.2.1 (ag b) a (Ma.r u hu)) ?_;refine aa hk ?_;have r2:∀l2:List ai,l2=(aC (p++q,s.1.2) (ag b) a).1→((FX G 159 nG ((b.1,()),((l2,(s.1.2,(s.2,()))),()))).bind fun(mO:((Int×(Bool×Unit))×(aV×Unit))) =>cond (jX mO.2.1.2.1 mO.1.1 (IntKind.wrap .i64 (mO.1.1+(1:Int)))) (LX G 117 rS Tryz.f117 nV (aM Tryz.prog 117 0) (((0:Int),()),(((mO.2.1.1,((du mO.2.1.2.1 mO.1.1 (IntKind.wrap .i64 (mO.1.1+(1:Int)))),mO.2.1.2.2)),((a,()),((b,()),((ag b,()),())))),()))) (none))=some (((0:Int),()),(((aC (p++q,s.1.2) (ag b) a).1,(cY s.1.2 b.1,(IC s.2 a b,()))),())):=by
        intro l2 Aq;subst Aq;refine aa (o8 hG ((aC (p++q,s.1.2) (ag b) a).1,(s.1.2,(s.2,()))) b.1 h.d.se (by grind)) ?_;obtain⟨ek1,ek2⟩:=KJ h.d.se FL (by omega);refine ae ek1 ?_;have r3:∀l3:List aj,l3=cY s.1.2 b.1→(LX G 117 rS Tryz.f117 nV (aM Tryz.prog 117 0) (((0:Int),()),((((aC (p++q,s.1.2) (ag b) a).1,(l3,(s.2,()))),((a,()),((b,()),((ag b,()),())))),())))=some (((0:Int),()),(((aC (p++q,s.1.2) (ag b) a).1,(cY s.1.2 b.1,(IC s.2 a b,()))),())):=by
          intro l3 hl3;subst hl3;have eb:b=(b.1,b.2):=rfl;have eo:ag b=(b.1,(ag b).2):=rfl;rcases ho with⟨Ls,Wq⟩|⟨Ze,WM⟩
          · rw[Ls]at eb;rw[Wq]at eo
            have t0:nY a b 0=zD:=by unfold nY;rw[if_neg (by rw[eo];simp)]
            have t1:nY a b 1=a:=by unfold nY;grind
            rw[t0,←eb]at ga;have eG:IC s.2 a b=bR (bR s.2 (b,zD)) (ag b,a):=by grind [IC]
            rw[eG];refine au yC ?_;refine ae rfl (ae (by grind) ?_);refine aa (Gm hG ((aC (p++q,s.1.2) (ag b) a).1,(cY s.1.2 b.1,(s.2,()))) b zD h.g (by grind)) ?_;refine au yC ?_;refine ae rfl (af (by show(b.2==(1:Int))=false;simp[Ls]) ?_);refine aa (Gm hG ((aC (p++q,s.1.2) (ag b) a).1,(cY s.1.2 b.1,(bR s.2 (b,zD),()))) (ag b) a ga.1 (by grind)) ?_;refine au yC ?_;rfl
          · rw[Ze]at eb;rw[WM]at eo
            have t0:nY a b 0=a:=by unfold nY;grind
            have t1:nY a b 1=zD:=by unfold nY;rw[if_neg (by rw[eo];simp)]
            rw[t0,←eo]at ga;have eG:IC s.2 a b=bR (bR s.2 (ag b,a)) (b,zD):=by grind [IC]
            rw[eG];refine au yC ?_;refine ae rfl (af (by grind) ?_);refine aa (Gm hG ((aC (p++q,s.1.2) (ag b) a).1,(cY s.1.2 b.1,(s.2,()))) (ag b) a h.g (by grind)) ?_;refine au yC ?_;refine ae rfl (ae (by show(b.2==(1:Int))=true;simp[Ze]) ?_);refine aa (Gm hG ((aC (p++q,s.1.2) (ag b) a).1,(cY s.1.2 b.1,(bR s.2 (ag b,a),()))) b zD ga.1 (by grind)) ?_;refine au yC ?_;rfl
        exact r3 _ ek2
      exact r2 _ e1
    exact r1 _ dk2
  have bo:∀y:ab,((y.1.1==(bB o).1)&&(y.1.2==(bB o).2))=decide (y.1=bB o):=fun y=>lh y.1 (bB o);by_cases h0:r0.1=bB o
  · rw[if_pos h0]
    refine⟨0,((IE s o r1 r0).1,((IE s o r1 r0).2,(IC s.2 r1 r0,()))),go _ _ (af FN (aa g0 (aa g1 (af b01 (aa g0 (aa g1 (ae ((bo r0).trans (decide_eq_true h0)) ?_))))))),rfl⟩;refine bu ((bo r0).trans (decide_eq_true h0)) (af rfl ?_);exact tail r1 r0 (by rw[hr];exact List.Perm.swap _ _ _) (fun k=>h01 k.symm)
  rw[if_neg h0];by_cases h1:r1.1=bB o
  · rw[if_pos h1]
    refine⟨0,((IE s o r0 r1).1,((IE s o r0 r1).2,(IC s.2 r0 r1,()))),go _ _ (af FN (aa g0 (aa g1 (af b01 (aa g0 (aa g1 (af ((bo r0).trans (decide_eq_false h0)) ?_))))))),rfl⟩;refine bu ((bo r1).trans (decide_eq_true h1)) (af rfl ?_);exact tail r0 r1 (by rw[hr]) h01
  rw[if_neg h1];refine⟨14,aN s,go _ _ (af FN (aa g0 (aa g1 (af b01 (aa g0 (aa g1 (af ((bo r0).trans (decide_eq_false h0)) ?_))))))),rfl⟩;exact bu ((bo r1).trans (decide_eq_false h1)) (ae rfl rfl)
end Go.Vs
namespace Go.Vs
open Go.Proofs
theorem Gq{row:List ab}(hn:row.Nodup){i j:Nat}{hi:i<row.length}{hj:j<row.length}(h:row[i]=row[j]):i=j:=by
 grind [Nat.lt_trichotomy,absurd,List.pairwise_iff_getElem]
theorem yR{row:List ab}(hn:row.Nodup){i j:Nat}{x:ab}(hi:row[i]? = some x)(hj:row[j]? = some x):i=j:=by
 grind [List.getElem?_eq_some_iff,Gq]
theorem Ag(row:List ab):∃j,j≤row.length∧cj row=Eg row j:=by
 by_cases h0:row.length=0
 ·have:row=[]:=by simpa using h0
  subst this;exact⟨0,by simp,rfl⟩
 ·exact⟨fH row row 0 0,Nat.le_of_lt (nH row row 0 0 (by omega) (by omega)),rfl⟩
theorem QJ{row:List ab}(hn:row.Nodup){k:Nat}{m y:ab}(hk:row[k]? = some m)(hy:y∉row):(row.set k y).Nodup:=by
 grind
theorem XL{row:List ab}(hn:row.Nodup){k:Nat}{x:ab}(hk:row[k]? = some x):idx x row 0=(k:Int):=by
 grind [Mz,yR]
theorem UI(m k:ab):cj [m,k]=[m,k]∨cj [m,k]=[k,m]:=by
 have hm:=nH [m,k] [m,k] 0 0 (by simp) (by simp);have:fH [m,k] [m,k] 0 0=0∨fH [m,k] [m,k] 0 0=1:=by grind
 unfold cj;rcases this with h|h<;>rw[h]
 ·exact .inl rfl
 ·exact .inr rfl
end Go.Vs
namespace Go.Vs
open Go.Proofs
variable {G:(f:FuncId)→(g:aO)→Option (g.A→Option g.B)}
theorem QK(l:List ai)(x:ID):l.any (fun w=>decide (w.1=x))=(aQ l x).isSome:=by rw[Bool.eq_iff_iff,List.any_eq_true];unfold aQ;simp_all
theorem QL(l:List aj)(x:ID):l.any (fun w=>decide (w.1=x))=(aY l x).isSome:=by rw[Bool.eq_iff_iff,List.any_eq_true];unfold aY;simp_all
theorem QM(s:StateT)(o:bg):jN (vB (aN s) o).1 (vB (aN s) o).2=vz s o:=by
 unfold vB vz Kw HV;rw[QK,QL];by_cases ho:qp o=true
 ·have hv:s.1.1.map (iA o)=s.1.1:=by
   conv=>rhs;rw[←List.map_id s.1.1]
   exact List.map_congr_left fun u hu=>by simp_all [iA,if_neg]
  rw[if_pos ho,ho,hv];show jN (if(aY s.1.2 (aZ o)).isSome=true then _ else _:Int×aV).1 (if(aY s.1.2 (aZ o)).isSome=true then _ else _:Int×aV).2=_
  cases (aY s.1.2 (aZ o)).isSome<;>rfl
 ·have rl:qp o=false:=by simpa using ho
  have he:s.1.2.map (jK o)=s.1.2:=by
   conv=>rhs;rw[←List.map_id s.1.2]
   exact List.map_congr_left fun u hu=>by simp_all [jK,if_neg]
  rw[if_neg ho,rl,he];show jN (if(aQ s.1.1 (aZ o)).isSome=true then _ else _:Int×aV).1 (if(aQ s.1.1 (aZ o)).isSome=true then _ else _:Int×aV).2=_
  cases (aQ s.1.1 (aZ o)).isSome<;>rfl
theorem UJ(hG:HG G)(w:aV)(o:bg)(hk:7≤o.1)(hv:b6 w.1)(he:dq w.2.1)(Zs:w.1.length≤50000000)(hle:w.2.1.length≤50000000) :
  FX G 85 Hy ((o,()),(w,()))=some (((vB w o).1,()),((vB w o).2,())):=by
 refine aw (hG _ _ rfl) Mf ?_;have kn:∀k:Int,k<7→(o.1==k)=false:=fun k oF=>Ae (by omega);refine af (kn 1 (by omega)) (af (kn 2 (by omega)) (af (kn 3 (by omega)) (af (kn 4 (by omega)) (af (kn 5 (by omega)) (af (kn 6 (by omega)) ?_)))));exact aa (akp hG w o hv he Zs hle) rfl
def opL(x:ID)(e:Bool)(t:ByteArray):bg:=(7,(x,(zI,(zI,(zC,(zC,(e,(t,0))))))))
def opA(x:ID)(e:Bool)(n:Int):bg:=(8,(x,(zI,(zI,(zC,(zC,(e,(e0,n))))))))
theorem yS{t:ByteArray}(h:kj t=true):t.size≤16:=by simp_all [kj,Bool.and_eq_true,decide_eq_true_eq]
theorem aa3:Qx 0:=by unfold Qx;omega
theorem KM{l:List ai}(hs:b6 l){v w:ai}(hv:v∈l)(hw:w∈l)(h:w.1=v.1):w=v:=by
 have h1:=jO hs hv
 grind [jO,Option.some.inj]
structure Lay(s t:StateT):Prop where
 v:b6 t.1.1
 e:dq t.1.2
 sm:Sm t.1
 g:t.2.length≤50000000
theorem Ah(l:List aj):(ends l).length=2*l.length:=by
 induction l with
 |nil=>rfl
 |cons e r ih=>grind [fV]
theorem XM{l:List ai}{v:ai}(h:v∈l):v.2.1.length≤(an l).length:=by
 obtain⟨a,b,rfl⟩:=acb h
 grind [kr,eI]
theorem Wf.su{d:ak}(h:Wf d):∀v∈d.1,v.2.1.length≤80:=fun v hv=>by
 have h1:=XM hv;have h2:=h.pd.length_eq;have h3:=h.ne
 grind [Ah]
theorem Wf.sm{d:ak}(h:Wf d):Sm d:=⟨by have:=h.nv;omega,by have:=h.ne;omega,fun v hv=>by have:=h.su v hv;omega⟩
theorem Wf.small{d:ak}(h:Wf d):Sv d.1:=⟨by have:=h.nv;omega,fun v hv=>by have:=h.su v hv;omega⟩
theorem QN(s:StateT)(o:bg):jN (qV (aN s) (aZ o,([],(e0,0)))).1 (qV (aN s) (aZ o,([],(e0,0)))).2=nJ s o:=by
 by_cases hh:(aQ s.1.1 (aZ o)).isSome=true
 ·have a:qV (aN s) (aZ o,([],(e0,0)))=(12,aN s):=if_pos hh;have b:nJ s o=(zS,(12,())):=if_pos hh;rw[a,b];rfl
 by_cases h:24≤s.1.1.length
 ·have a:qV (aN s) (aZ o,([],(e0,0)))=(3,aN s):=(if_neg hh).trans (if_pos h);have b:nJ s o=(zS,(3,())):=(if_neg hh).trans (if_pos h);rw[a,b];rfl
 ·have a:qV (aN s) (aZ o,([],(e0,0)))=(0,(cU (aZ o,([],(e0,0))) (aN s).1,(aN s).2)):=(if_neg hh).trans (if_neg h);have b:nJ s o=(((cU (aZ o,([],(e0,0))) s.1.1,s.1.2),s.2),(0,())):=(if_neg hh).trans (if_neg h);rw[a,b];rfl
theorem QO{s:StateT}(h:dF s)(o:bg):jN (Gd (aN s) (aZ o)).1 (Gd (aN s) (aZ o)).2=uI s o:=by
 unfold Gd uI bj;show jN (match aQ s.1.1 (aZ o) with|none=>(13,aN s)|some v=>if 0<v.2.1.length then(14,aN s) else(0,(cT s.1.1 (aZ o),(s.1.2,(s.2,())))):Int×aV).1 (match aQ s.1.1 (aZ o) with|none=>(13,aN s)|some v=>if 0<v.2.1.length then(14,aN s) else(0,(cT s.1.1 (aZ o),(s.1.2,(s.2,())))):Int×aV).2=_
 cases aQ s.1.1 (aZ o) with
 |none=>rfl
 |some v =>
  simp only;by_cases hl:0<v.2.1.length
  ·rw[if_pos hl,if_pos hl];rfl
  ·rw[if_neg hl,if_neg hl];unfold aJ;rw[qw h.d.ge];rfl
def Oi(s:StateT)(o:bg):StateT×(Int×Unit) :=if o.1=1 then nJ s o else if o.1=2 then uI s o else if o.1=3 then nI s o else if o.1=4 then De s o else if o.1=5 then kl s o else if o.1=6 then jM s o else vz s o
theorem QP(s:StateT)(o:bg):jW s o=if cx o≠0 then(zS,(cx o,())) else Oi s o:=rfl
theorem UK(hG:HG G)(s:StateT)(o:bg)(h:dF s)(hm:cx o=0)(h3:o.1=3→∃(e:Int) (w:aV),FX G 114 qk ((o,()),(aN s,()))=some ((e,()),(w,()))∧jN e w=nI s o) :
  ∃(e:Int) (w:aV),FX G 85 Hy ((o,()),(aN s,()))=some ((e,()),(w,()))∧jN e w=Oi s o:=by
 have hk:=Dv hm;have XN:=h.d.small;have Nn:=h.d.nv;have bw:=h.d.ne;have start:∀(e:Int) (w:aV),bJ 85 Hy Tryz.f85 (FX G) (LX G 85 Hy Tryz.f85) ((o,()),(aN s,()))=some ((e,()),(w,()))→FX G 85 Hy ((o,()),(aN s,()))=some ((e,()),(w,())):=fun e w a =>aw (hG _ _ rfl) a rfl;unfold Oi;by_cases h1:o.1=1
 ·rw[if_pos h1];refine⟨_,_,start _ _ ((Mf).trans (ae (IF h1) (aa (aaY hG (aN s) (aZ o,([],(e0,0))) h.d.sv XN.n) rfl))),?_⟩;exact QN s o
 rw[if_neg h1];by_cases h2:o.1=2
 ·rw[if_pos h2];refine⟨_,_,start _ _ ((Mf).trans (af (Ae h1) (ae (IF h2) (aa (akj hG (aN s) o h.d.sv XN.n) rfl)))),?_⟩;exact QO h o
 rw[if_neg h2];by_cases RB:o.1=3
 ·rw[if_pos RB];obtain⟨e,w,a,b⟩:=h3 RB;exact⟨e,w,start _ _ ((Mf).trans (af (Ae h1) (af (Ae h2) (ae (IF RB) (aa a rfl))))),b⟩
 rw[if_neg RB];by_cases hk4:o.1=4
 ·rw[if_pos hk4];obtain⟨e,w,a,b⟩:=akt hG s o h XN;exact⟨e,w,start _ _ ((Mf).trans (af (Ae h1) (af (Ae h2) (af (Ae RB) (ae (IF hk4) (aa a rfl)))))),b⟩
 rw[if_neg hk4];by_cases hk5:o.1=5
 ·rw[if_pos hk5];obtain⟨e,w,a,b⟩:=akx hG s o h XN hm hk5;exact⟨e,w,start _ _ ((Mf).trans (af (Ae h1) (af (Ae h2) (af (Ae RB) (af (Ae hk4) (ae (IF hk5) (aa a rfl))))))),b⟩
 rw[if_neg hk5];by_cases hk6:o.1=6
 ·rw[if_pos hk6];obtain⟨e,w,a,b⟩:=akB hG s o h XN;exact⟨e,w,start _ _ ((Mf).trans (af (Ae h1) (af (Ae h2) (af (Ae RB) (af (Ae hk4) (af (Ae hk5) (ae (IF hk6) (aa a rfl)))))))),b⟩
 rw[if_neg hk6];refine⟨_,_,UJ hG (aN s) o (by omega) h.d.sv h.d.se XN.n (by show s.1.2.length≤_;omega),?_⟩;exact QM s o
def gZ(G:(f:FuncId)→(g:aO)→Option (g.A→Option g.B))(o:bg):Prop:=∀s,dF s→cx o=0→o.1=3→∃(e:Int) (w:aV),FX G 114 qk ((o,()),(aN s,()))=some ((e,()),(w,()))∧jN e w=nI s o
theorem UL{s:StateT}{o:bg}(hm:cx o=0):Oi s o=jW s o:=by simp_all [QP,if_neg]
theorem akF(hG:HG G)(l:List bg)(hl:l.length≤1073741824)(hm:∀o∈l,cx o=0)(h3:∀o∈l,gZ G o):∀(n i:Nat) (s:StateT),i+n=l.length→dF s → LX G 64 JC Tryz.f64 CO (aM Tryz.prog 64 0) ((l,(((l.length:Nat):Int),((i:Int),()))),((zW,(aN s,())),()))=some (Df (l.drop i) s,()):=by
 intro n
 induction n with
 |zero =>intro i s hi hw;refine au Ty ?_;refine af (decide_eq_false (show ¬((i:Int)<((l.length:Nat):Int)) by omega)) ?_;rw[List.drop_eq_nil_of_le (by omega)];rfl
 |succ n ih =>
  intro i s hi hw;have aK:i<l.length:=by omega
  have ho:=hm l[i] (ab4 aK);obtain⟨e,w,h1,h2⟩:=UK hG s l[i] hw ho (h3 _ (ab4 aK) s hw ho);rw[UL ho]at h2;refine au Ty ?_;refine ae (aR aK) (aa (aG (abk aK)) ?_);refine aa h1 ?_;rw[List.drop_eq_getElem_cons aK,Df];have GZ:=hw.one l[i];by_cases he:e=0
  ·have e1:jN e w=(A8 w,(0,())):=if_neg (by simp[he]);rw[e1]at h2;rw[←h2]at GZ ⊢;rw[if_neg (by simp)];refine af (show(e != 0)=false by simp[he]) ?_;have:=ih (i+1) (A8 w) (by omega) GZ;rw[←aB aK hl]at this;exact this
  ·have e1:jN e w=(zS,(e,())):=if_pos he;rw[e1]at h2;rw[←h2,if_pos he];exact ae (show(e != 0)=true by simp[he]) rfl
theorem aa4(hG:HG G)(s:StateT)(l:List bg)(hw:dF s)(hl:l.length≤1073741824)(hm:∀o∈l,cx o=0)(h3:∀o∈l,gZ G o):FX G 64 JC ((s,l,()),())=some (Df l s,()):=by have hn:=hw.n;refine aw (hG _ _ rfl) aiI ?_;refine aa (aeO hG s.1 hw.d.sm) ?_;refine aa (aaX (hG _ _ rfl) s.2 (by omega)) ?_;have:=akF hG l hl hm h3 l.length 0 s (by omega) hw;rw[List.drop_zero]at this;exact this
theorem KN(l:List bg)(h:lk l=0):∀o∈l,cx o=0:=by
 induction l with
 |nil=>simp_all
 |cons o r ih =>
  rw[lk]at h
  grind
theorem ME{l:List bg}(h:eU l=0):∀o∈l,cx o=0:=by
 grind [eU,KN]
theorem ae1(hG:HG G)(s:StateT)(l:List bg)(hw:dF s)(hl:l.length≤1073741824)(hf:∀o∈l,Fit o)(h3:∀o∈l,gZ G o):FX G 40 Md ((s,l,()),())=some (cv s l,()):=by
 refine aw (hG _ _ rfl) aiz ?_;refine aa (ako hG l hl hf) ?_;unfold cv;by_cases hm:eU l=0
 ·rw[if_neg (by simp[hm])];refine af (show(eU l != 0)=false by simp[hm]) ?_;exact aa (aa4 hG s l hw hl (ME hm) h3) rfl
 ·rw[if_pos hm];exact ae (show(eU l != 0)=true by simp[hm]) rfl
theorem ae2(hG:HG G)(s:StateT)(l:List bg)(hw:dF s)(hl:l.length≤1073741824)(hf:∀o∈l,Fit o)(h3:∀o∈l,gZ G o):FX G 62 EC ((s,l,()),())=some ((iB s l,()),()):=by
 have hn:=hw.n;refine aw (hG _ _ rfl) aiD ?_;refine aa (ae1 hG s l hw hl hf h3) ?_;unfold iB;by_cases he:(cv s l).2.1=0
 ·rw[if_neg (by simp[he])];exact af (show((cv s l).2.1 != 0)=false by simp[he]) rfl
 ·rw[if_pos he];refine ae (show((cv s l).2.1 != 0)=true by simp[he]) ?_;refine aa (aeO hG s.1 hw.d.sm) ?_;exact aa (aaX (hG _ _ rfl) s.2 (by omega)) rfl
end Go.Vs
