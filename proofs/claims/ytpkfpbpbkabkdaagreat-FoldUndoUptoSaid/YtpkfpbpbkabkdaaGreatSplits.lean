/- Edges cut and split -/
import Derived.Test.YtpkfpbpbkabkdaaGreatFormed
import Derived.Test.YtpkfpbpbkabkdaaGreatTop
set_option linter.unusedVariables false
set_option linter.unusedSimpArgs false
namespace Go.Vs
open Go.Proofs
variable {G:(f:FuncId)→(g:aX)→Option (g.A→Option g.B)}
theorem abl(hG:HG G)(v:aF)(x:ab):FX G 232 Hv ((v,x,()),())=some ((pW v.1 x,()),()):=by refine aC (hG _ _ rfl) afu ?_;exact aa (abh hG v.1 x) rfl
def eF(l:List aF)(x:ab):Nat:=l.countP fun v=>mC v.1 x
theorem JJ(l:List aF)(x:ab):eF l x≤l.length:=adQ
theorem AF{l:List aF}{x:ab}(h:∀v∈l,mC v.1 x=false):eF l x=0:=by unfold eF;rw[List.countP_eq_zero];intro v hv;simp[h v hv]
theorem HS{x:ab}:∀{l:List aF},j5 l→∀(k:Nat) (v:aF),l[k]? = some v→(mC v.1 x=true↔k<eF l x)
 |[],_,k,v,h=>by simp at h
 |w::r,hs,k,v,h=>by
  have hw:∀{u:aF},u∈r→mC w.1 u.1=true:=fun {u} hu=>acr hs hu;have hr:j5 r:=hs.of_cons;by_cases aK:mC w.1 x=true
  ·have e:eF (w::r) x=eF r x+1:=by unfold eF;rw[List.countP_cons_of_pos (by simpa using aK)]
   cases k with
   |zero=>simp at h;subst h;simp[aK,e]
   |succ k=>have:=HS (x:=x) hr k v (by simpa using h);rw[this,e];omega
  ·have hn:∀u∈w::r,mC u.1 x=false:=fun u hu=>by
    rcases abn.1 hu with rfl|hu
    ·simpa using aK
    ·rw[Bool.eq_false_iff];intro h2;exact aK (iP (hw hu) h2)
   rw[AF hn,hn v (List.mem_of_getElem? h)];simp
theorem WE(hG:HG G)(l:List aF)(x:ab)(hs:j5 l)(hl:l.length≤50000000):∀(n i j:Nat),j-i≤n→i≤eF l x→eF l x≤j→j≤l.length → LX G 233231 ku Tryz.f231 jS (aY Tryz.prog 231 0) ((l,(((l.length:Nat):Int),((i:Int),((j:Int),())))),(((x,()),()),()))=some (((((eF l x:Nat):Int),(decide ((l[eF l x]?).map (·.1)=some x),())):Int×(Bool×Unit)),()):=by
 have vv:=JJ l x;have fin:∀(i j:Nat),¬(i<j)→i≤eF l x→eF l x≤j→LX G 233231 ku Tryz.f231 jS (aY Tryz.prog 231 0) ((l,(((l.length:Nat):Int),((i:Int),((j:Int),())))),(((x,()),()),()))=some (((((eF l x:Nat):Int),(decide ((l[eF l x]?).map (·.1)=some x),())):Int×(Bool×Unit)),()):=fun i j Dy h1 h2=>by
  have hi:i=eF l x:=by omega
  subst hi;refine aB EN ?_;refine ah (decide_eq_false (show ¬(((eF l x:Nat):Int)<(j:Int)) by omega)) ?_;by_cases hc:eF l x<l.length
  ·have hx:l[eF l x]? = some l[eF l x]:=aba hc;refine ae (bj hc) ?_;refine aa (aT hx) ?_;refine aa (abl hG l[eF l x] x) ?_;refine congrArg (fun b:Bool=>some ((((eF l x:Nat):Int),(b,())),())) ?_;rw[hx];unfold pW;by_cases he:l[eF l x].1=x
   ·simp[he]
   ·simp[he];split<;>simp
  ·refine ah (decide_eq_false (show ¬(((eF l x:Nat):Int)<((l.length:Nat):Int)) by omega)) ?_;refine congrArg (fun b:Bool=>some ((((eF l x:Nat):Int),(b,())),())) ?_;rw[List.getElem?_eq_none (by omega)];simp
 intro n
 induction n with
 |zero=>intro i j Dy h1 h2 h3;exact fin i j (by omega) h1 h2
 |succ n ih =>
  intro i j Dy h1 h2 h3;by_cases aK:i<j
  case neg=>exact fin i j aK h1 h2
  refine aB EN ?_;refine ae (decide_eq_true (show((i:Int)<(j:Int)) by omega)) ?_;refine ah rfl ?_;have hm:=Oo (i:=i) (j:=j) (by omega) (by omega);have hh:(i+j) / 2<l.length:=by omega
  have hx:l[(i+j) / 2]? = some l[(i+j) / 2]:=aba hh;have qz:=HS (x:=x) hs ((i+j) / 2) _ hx;refine aa (show bm l (IntKind.wrap .i64 (mM .u64 (IntKind.wrap .u64 (IntKind.wrap .i64 ((i:Int)+(j:Int)))) (1:Int)))=some l[(i+j) / 2] by rw[hm];exact aT hx) ?_;refine aa (abl hG l[(i+j) / 2] x) ?_;by_cases ho:mC l[(i+j) / 2].1 x=true
  ·refine ae (decide_eq_true ((CO _ _).2 ho)) ?_;have hc:=qz.1 ho;have hw:IntKind.wrap .i64 (IntKind.wrap .i64 (mM .u64 (IntKind.wrap .u64 (IntKind.wrap .i64 ((i:Int)+(j:Int)))) (1:Int))+1)=(((i+j) / 2+1:Nat):Int):=by rw[hm];exact aN hh (by omega)
   have:=ih ((i+j) / 2+1) j (by omega) (by omega) h2 h3;rw[←hw]at this;exact this
  ·refine ah (decide_eq_false (fun h=>ho ((CO _ _).1 h))) ?_;have hc:¬(i+j) / 2<eF l x:=fun h=>ho (qz.2 h);have:=ih i ((i+j) / 2) (by omega) h1 (by omega) (by omega);rw[←hm]at this;exact this
theorem WG(hG:HG G)(l:List aF)(x:ab)(hs:j5 l)(hl:l.length≤50000000) :
  FX G 233231 ku ((l,x,()),())=some (((((eF l x:Nat):Int),(decide ((l[eF l x]?).map (·.1)=some x),())):Int×(Bool×Unit)),()):=by
 refine aC (hG _ _ rfl) VQ ?_;exact WE hG l x hs hl l.length 0 l.length (by omega) (by omega) (JJ l x) (abZ _)
theorem Mf(g:aF):∀{l:List aF},j5 l→mS g l=if(l[eF l g.1]?).map (·.1)=some g.1 then l.set (eF l g.1) g else l.take (eF l g.1)++(g::l.drop (eF l g.1))
 |[],_=>rfl
 |w::r,hs=>by
  have hw:∀{u:aF},u∈r→mC w.1 u.1=true:=fun {u} hu=>acr hs hu;have hr:j5 r:=adY hs;by_cases aK:mC w.1 g.1=true
  ·have e:eF (w::r) g.1=eF r g.1+1:=by unfold eF;rw[List.countP_cons_of_pos (by simpa using aK)]
   have bp:w.1≠g.1:=fun k=>by rw[k,eY]at aK;cases aK
   have sM:¬pW g.1 w.1≤0:=fun k=>by
    rcases rZ.1 k with k|k
    ·exact bp k.symm
    ·have:=iP aK k;rw[eY]at this;cases this
   have ih:=Mf g hr;rw[e,mS,if_neg sM,if_pos bp,ih];simp only[List.getElem?_cons_succ,List.set_cons_succ,List.take_succ_cons,List.drop_succ_cons,List.cons_append]
   split<;>rfl
  ·have hn:∀u∈w::r,mC u.1 g.1=false:=fun u hu=>by
    rcases abn.1 hu with rfl|hu
    ·simpa using aK
    ·rw[Bool.eq_false_iff];intro h2;exact aK (iP (hw hu) h2)
   rw[AF hn];by_cases he:w.1=g.1
   ·have acz:pW g.1 w.1≤0:=rZ.2 (.inl he.symm);have h1:pZ g (w::r)=r:=by
     have:pZ g (w::r)=pZ g r:=by unfold pZ;rw[List.filter_cons_of_neg (by simp[he])]
     rw[this];exact vh (fun q hq k=>by have:=hw hq;rw[k,he,eY]at this;cases this)
    rw[mS,if_pos acz,h1,if_pos (by simp[he])];rfl
   ·have Nc:mC g.1 w.1=true:=vd (by simpa using aK) he;have acz:pW g.1 w.1≤0:=rZ.2 (.inr Nc);have h1:pZ g (w::r)=w::r:=vh (fun q hq k=>by
     rcases abn.1 hq with rfl|hq
     ·exact he k
     ·have:=iP Nc (hw hq);rw[k,eY]at this;cases this)
    rw[mS,if_pos acz,h1,if_neg (by simp[he])];rfl
theorem HT{x:ab}:∀{l:List aF},j5 l→(iD l x).isSome=decide ((l[eF l x]?).map (·.1)=some x)
 |[],_=>rfl
 |w::r,hs=>by
  have hw:∀{u:aF},u∈r→mC w.1 u.1=true:=fun {u} hu=>acr hs hu;have hr:j5 r:=adY hs;rw[r9];by_cases aK:mC w.1 x=true
  ·have e:eF (w::r) x=eF r x+1:=by unfold eF;rw[List.countP_cons_of_pos (by simpa using aK)]
   have bp:w.1≠x:=fun k=>by rw[k,eY]at aK;cases aK
   rw[e,if_neg bp,HT hr,List.getElem?_cons_succ]
  ·have hn:∀u∈w::r,mC u.1 x=false:=fun u hu=>by
    rcases abn.1 hu with rfl|hu
    ·simpa using aK
    ·rw[Bool.eq_false_iff];intro h2;exact aK (iP (hw hu) h2)
   rw[AF hn];by_cases he:w.1=x
   ·simp[he]
   ·have Nc:mC x w.1=true:=vd (by simpa using aK) he;have:iD r x=none:=by
     unfold iD;have:(List.find? (fun q=>decide (q.1=x)) r)=none:=by
      rw[List.find?_eq_none];intro q hq k;have k:q.1=x:=by simpa using k
      have:=iP Nc (hw hq);rw[k,eY]at this;cases this
     rw[this];rfl
    rw[if_neg he,this];simp[he]
theorem agW(hG:HG G)(l:List aF)(g:aF)(hs:j5 l)(hl:l.length≤50000000):FX G 215 Lo ((l,g,()),())=some ((bR l g,()),()):=by
 refine aC (hG _ _ rfl) afk ?_;refine aa (WG hG l g.1 hs hl) ?_;refine aa (Wr (hG _ _ rfl) l hl) ?_;unfold bR;rw[HT hs,Mf g hs];have hc:eF l g.1≤l.length:=JJ l g.1;by_cases h:(l[eF l g.1]?).map (·.1)=some g.1
 ·rw[decide_eq_true h,if_neg (fun k=>by cases k.1),if_pos h];refine ae rfl ?_;obtain⟨u,hu,_⟩:∃u,l[eF l g.1]? = some u∧u.1=g.1:=by
   cases hq:l[eF l g.1]? with
   |none=>rw[hq]at h;cases h
   |some u=>rw[hq]at h;exact⟨u,rfl,by simpa using h⟩
  have aK:=(abg.1 hu).1;refine ae (dU (gy _) (bj aK)) ?_;exact aa hu rfl
 ·rw[decide_eq_false h,if_neg h];refine ah rfl ?_;by_cases h4:400≤l.length
  ·rw[if_pos ⟨rfl,h4⟩];exact ah (decide_eq_false (show ¬((l.length:Nat):Int)<400 by omega)) rfl
  ·rw[if_neg (fun k=>h4 k.2)];refine ae (decide_eq_true (show((l.length:Nat):Int)<400 by omega)) ?_;have nL:s6 l ((eF l g.1:Nat):Int) [g]=true:=by unfold s6;rw[decide_eq_true (show(0:Int)≤((eF l g.1:Nat):Int) by omega),decide_eq_true (show((eF l g.1:Nat):Int)≤((l.length:Nat):Int) by omega)];rw[fits (by simp;omega)];rfl
   refine ae nL ?_;have e:iu l ((eF l g.1:Nat):Int) [g]=l.take (eF l g.1)++(g::l.drop (eF l g.1)):=by unfold iu;simp
   exact congrArg (fun r:List aF=>some ((r,()),())) e
theorem HU(hG:HG G)(w:ba)(x to:ab)(hs:j5 w.2.2.1)(hl:w.2.2.1.length≤50000000):FX G 183 Ec ((x,to,()),(w,()))=some ((),((w.1,(w.2.1,(bR w.2.2.1 (x,to),()))),())):=by refine aC (hG _ _ rfl) ae3 ?_;exact aa (agW hG w.2.2.1 (x,to) hs hl) rfl
theorem HV(hG:HG G)(w:ba)(x:ab)(hw:Rw w.1)(hl:w.1.length≤50000000)(hr:∀v∈w.1,v.2.1.length≤50000000){k:Nat}{v:ai}(hk:w.1[k]? = some v)(hx:x∈v.2.1) :
  FX G 185 n8 ((x,()),(w,()))=some (((some ((⟨0,by decide⟩:Fin 1),k)),()),(w,())):=by
 refine aC (hG _ _ rfl) ae5 ?_;have Rl:=(abg.1 hk).1;have loop:∀(n i:Nat),i+n=k→LX G 185 n8 Tryz.f185 yn (aY Tryz.prog 185 0) ((((w.1.length:Nat):Int),((i:Int),())),((w,((x,()),())),()))=some (((some ((⟨0,by decide⟩:Fin 1),k)),()),(w,())):=by
  intro n
  induction n with
  |zero =>
   intro i hi;have hi:i=k:=by omega
   subst hi;refine aB PN ?_;refine ae (bj Rl) (ae (dU (gy _) (bj Rl)) (aa hk ?_));refine aa (HL hG v.2.1 x (by have:=hr v (ab1 hk);omega)) ?_;exact ae (decide_eq_true hx) rfl
  |succ n ih =>
   intro i hi;have rf:i<w.1.length:=by omega
   have hu:w.1[i]? = some w.1[i]:=aba rf;have Hj:x∉w.1[i].2.1:=fun hxi=>by have h1:w.1[i]=v:=hw.one (ab1 hk) (acB rf) hx hxi;have h2:=lj hw.s hk rfl;have h3:=lj hw.s (x:=v.1) hu (by rw[h1]);omega
   refine aB PN ?_;refine ae (bj rf) (ae (dU (gy _) (bj rf)) (aa hu ?_));refine aa (HL hG w.1[i].2.1 x (by have:=hr _ (acB rf);omega)) ?_;refine ah (decide_eq_false Hj) ?_;have:=ih (i+1) (by omega);rw[←aN rf (by omega)]at this;exact this
 exact loop k 0 (by omega)
theorem Ox{l:List ai}{k:Nat}{v:ai}(hs:cq l)(hk:l[k]? = some v)(r:List ab):l.set k (v.1,(r,v.2.2))=l.map (iX v.1 r):=by
 have h:=dM hs (ab1 hk);rw[lj hs hk rfl];refine(L9 hs h (iX v.1 r) (fun u=>(u.1,(r,u.2.2))) (fun u hu=>?_) (fun u hu=>?_)).symm
 ·unfold iX;rw[if_pos hu]
 ·unfold iX;rw[if_neg hu]
theorem ue{l:List ai}{x:ab}(h:x∈an l):∃(k:Nat) (v:ai),l[k]? = some v∧x∈v.2.1∧v∈l:=by obtain⟨v,hv,hx⟩:=aM.1 h;obtain⟨k,hk,he⟩:=adJ hv;exact⟨k,v,by rw[List.getElem?_eq_getElem hk,he],hx,hv⟩
structure Sv(l:List ai):Prop where
 n:l.length≤50000000
 r:∀v∈l,v.2.1.length≤50000000
theorem WH{n:Int}(h:n=0∨n=1):dx .xor .i64 n 1=IntKind.wrap .i64 (1-n):=by rcases h with rfl|rfl<;>decide
theorem Mg(hG:G 188 qD=none)(x:ab)(h:x.2=0∨x.2=1):FX G 188 qD ((x,()),())=some ((ag x,()),()):=by refine aC hG ae8 ?_;exact congrArg (fun n:Int=>some ((((x.1,n):ab),()),())) (WH h)
theorem SO{d:ak}(h:Rw d.1){v:ai}{x:ab}(hv:v∈d.1)(hx:x∈v.2.1):dB d x=if(cr v.2.1 x).1=x.1 then(if(cr v.2.1 (cr v.2.1 x)).1=x.1 then zD else cr v.2.1 (cr v.2.1 x)) else cr v.2.1 x:=by
 unfold dB;have e:aW d ((bM d x).getD zI)=v.2.1:=by unfold bM;rw[du h hv hx];exact gm h.s hv
 simp only[e];by_cases h1:(cr v.2.1 x).1=x.1
 ·simp only[if_pos h1]
 ·simp only[if_neg h1]
theorem abm(hG:HG G)(w:ba)(x:ab)(hw:Rw w.1)(hs:Sv w.1)(hx:x∈an w.1)(e:List aj):FX G 184 Ed ((x,()),(w,()))=some ((dB (w.1,e) x,()),(w,())):=by
 obtain⟨k,v,hk,kb,hv⟩:=ue hx;have TG:=hs.r v hv;refine aC (hG _ _ rfl) ae4 ?_;rw[SO (d:=(w.1,e)) hw hv kb];have prev:∀y:ab,FX G 140 Eg ((v.2.1,y,()),())=some (((cr v.2.1 y),((zt (cK v.2.1 y (v.2.1.length-1))).2)),()):=fun y=>by refine(abk hG v.2.1 y (by omega)).trans ?_;have:(zt (cK v.2.1 y (v.2.1.length-1))).1=cr v.2.1 y:=u6 _;rw[←this]
 have b5:∀y:ab,((y.1.1==x.1.1)&&(y.1.2==x.1.2))=decide (y.1=x.1):=fun y=>iL y.1 x.1;refine aB Je ?_;refine ae rfl (aa (HV hG w x hw hs.n hs.r hk kb) ?_);refine wh rfl (ae rfl (aa hk ?_));refine aa (prev x) ?_;by_cases h1:(cr v.2.1 x).1=x.1
 ·rw[if_pos h1];refine bB ((b5 _).trans (decide_eq_true h1)) ?_;refine aB Je ?_;refine ae rfl (aa (HV hG w x hw hs.n hs.r hk kb) ?_);refine wh rfl (ae rfl (aa hk ?_));refine aa (prev (cr v.2.1 x)) ?_;by_cases h2:(cr v.2.1 (cr v.2.1 x)).1=x.1
  ·rw[if_pos h2];refine bB ((b5 _).trans (decide_eq_true h2)) ?_;refine aB Je ?_;exact ah rfl rfl
  ·rw[if_neg h2];exact bB ((b5 _).trans (decide_eq_false h2)) rfl
 ·rw[if_neg h1];exact bB ((b5 _).trans (decide_eq_false h1)) rfl
theorem Mh{l:List aj}{x:ID}(hs:dA l)(h:(aP l x).isSome=true)(hl:l.length≤50000000) :
  kL l ((cH l x:Nat):Int) (IntKind.wrap .i64 (((cH l x:Nat):Int)+1))=true∧eu l ((cH l x:Nat):Int) (IntKind.wrap .i64 (((cH l x:Nat):Int)+1))=bH l x:=by
 obtain⟨e,he⟩:=abM.1 h;have aK:=(abg.1 (mj hs he)).1;have hw:IntKind.wrap .i64 (((cH l x:Nat):Int)+1)=((cH l x+1:Nat):Int):=aN aK (by omega);constructor
 ·rw[hw];unfold kL;rw[decide_eq_true (show(0:Int)≤((cH l x:Nat):Int) by omega),decide_eq_true (show((cH l x:Nat):Int)<((cH l x+1:Nat):Int) by omega),decide_eq_true (show((cH l x+1:Nat):Int)≤((l.length:Nat):Int) by omega),fits (by omega)];rfl
 ·rw[hw,Ay hs h];unfold eu;simp only[Int.toNat_natCast]
theorem WI{l:List ai}{x:ID}(hs:cq l)(h:(aO l x).isSome=true)(hl:l.length≤50000000) :
  kL l ((bU l x:Nat):Int) (IntKind.wrap .i64 (((bU l x:Nat):Int)+1))=true∧eu l ((bU l x:Nat):Int) (IntKind.wrap .i64 (((bU l x:Nat):Int)+1))=bF l x:=by
 obtain⟨e,he⟩:=abM.1 h;have aK:=(abg.1 (dL hs he)).1;have hw:IntKind.wrap .i64 (((bU l x:Nat):Int)+1)=((bU l x+1:Nat):Int):=aN aK (by omega);constructor
 ·rw[hw];unfold kL;rw[decide_eq_true (show(0:Int)≤((bU l x:Nat):Int) by omega),decide_eq_true (show((bU l x:Nat):Int)<((bU l x+1:Nat):Int) by omega),decide_eq_true (show((bU l x+1:Nat):Int)≤((l.length:Nat):Int) by omega),fits (by omega)];rfl
 ·rw[hw,Av hs h];unfold eu;simp only[Int.toNat_natCast]
theorem Sv.re{l:List ai}(h:Sv l)(x:ID){r:List ab}(hr:r.length≤50000000):Sv (l.map (iX x r)):=by
 refine⟨by simp;exact h.n,fun w hw=>?_⟩;obtain⟨u,hu,rfl⟩:=abY.1 hw;unfold iX
 split
 ·exact hr
 ·exact h.r u hu
theorem Fm{row:List ab}(d:ab):(bw row d).length≤row.length:=by unfold bw;rw[iC];exact adx _ _
theorem Qp{w:ba}{x:ab}(hw:Rw w.1){k:Nat}{v:ai}(hk:w.1[k]? = some v)(hx:x∈v.2.1)(e:List aj):w.1.set k (v.1,(bw v.2.1 x,v.2.2))=(au (w.1,e) x).1:=by rw[db (d:=(w.1,e)) hw (List.mem_of_getElem? hk) hx];exact Ox hw.s hk _
theorem amE(hG:HG G)(s:StateT)(o:aE)(h:cS s)(hs:Sv s.1.1) :
  ∃(e:Int) (w:ba),FX G 155 D8 ((o,()),(aV s,()))=some ((e,()),(w,()))∧iE e w=w8 s o:=by
 have bp:=h.d.ne;unfold w8
 cases hf:(aP s.1.2 (ar o)).isSome with
 |false =>
  refine⟨13,aV s,?_,?_⟩
  ·refine aC (hG _ _ rfl) aeP ?_;refine aa (qN hG (aV s) (ar o) h.d.se (by show s.1.2.length≤_;omega)) ?_;exact bB ((dV (l:=s.1.2) h.d.se).trans hf) rfl
  ·rw[if_pos (show(b5 s.1 (ar o)).isSome=false from hf)];rfl
 |true =>
  rw[if_neg (show ¬(b5 s.1 (ar o)).isSome=false by show ¬(aP s.1.2 (ar o)).isSome=false;rw[hf];simp)];obtain⟨x,hx⟩:∃x:ab,x=(ar o,0):=⟨_,rfl⟩;obtain⟨y,hy⟩:∃y:ab,y=(ar o,1):=⟨_,rfl⟩;have hxd:x∈an s.1.1:=by rw[hx];exact h.d.gq hf (.inl rfl)
  have TN:y∈an s.1.1:=by rw[hy];exact h.d.gq hf (.inr rfl)
  have g1:=lu h.g h.n (x,dB s.1 x);have hn:=h.n;obtain⟨p1,q1⟩:=c9 h.d.rw hxd;have amF:y∈an (au s.1 x).1:=by
   rcases abn.1 (p1.mem_iff.1 TN) with k|k
   ·rw[hx,hy]at k;cases k
   ·exact k
  have Qn:=iF (iF h.d.gv x) y;refine⟨0,((au (au s.1 x) y).1,(bH s.1.2 (ar o),(bR (bR s.2 (x,dB s.1 x)) (y,dB s.1 y),()))),?_,?_⟩
  ·refine aC (hG _ _ rfl) aeP ?_;refine aa (qN hG (aV s) (ar o) h.d.se (by show s.1.2.length≤_;omega)) ?_;refine bB ((dV (l:=s.1.2) h.d.se).trans hf) (ah rfl ?_);have amG:FX G 179 D9 ((ar o,()),())=some ((x,y,()),()):=by rw[hx,hy];exact aC (hG _ _ rfl) aaX rfl
   refine aa amG ?_;refine aB N4 ?_;refine ae rfl (ae rfl (aa (a:=x) rfl ?_));refine aa (abm hG (aV s) x h.d.rw hs hxd s.1.2) ?_;refine aa (HU hG (aV s) x (dB s.1 x) h.g (by show s.2.length≤_;omega)) ?_;refine aB N4 ?_;refine ae rfl (ae rfl (aa (a:=y) rfl ?_));refine aa (abm hG (s.1.1,(s.1.2,(bR s.2 (x,dB s.1 x),()))) y h.d.rw hs TN s.1.2) ?_;refine aa (HU hG (s.1.1,(s.1.2,(bR s.2 (x,dB s.1 x),()))) y (dB s.1 y) g1.1 (by have:=g1.2;show(bR s.2 (x,dB s.1 x)).length≤_;omega)) ?_;refine aB N4 ?_;refine ah rfl ?_;generalize bR (bR s.2 (x,dB s.1 x)) (y,dB s.1 y)=gg;obtain⟨k,v,hk,kb,hv⟩:=ue hxd;refine aB N5 ?_;refine ae rfl (ae rfl (aa (a:=x) rfl ?_));refine aa (HV hG (s.1.1,(s.1.2,(gg,()))) x h.d.rw hs.n hs.r hk kb) ?_;refine wh rfl (ae rfl (aa hk ?_));refine aa (WA hG v.2.1 x (h.d.rw.ring hv) (hs.r v hv)) ?_;refine aa hk ?_;have e1:s.1.1.set k (v.1,(bw v.2.1 x,v.2.2))=(au s.1 x).1:=Qp (w:=(s.1.1,(s.1.2,(gg,())))) h.d.rw hk kb s.1.2;have Nd:Sv (au s.1 x).1:=by rw[db h.d.rw hv kb];exact hs.re _ (acH (Fm x) (hs.r v hv))
   obtain⟨k2,v2,pS,Yl,A8⟩:=ue amF;have e2:(au s.1 x).1.set k2 (v2.1,(bw v2.2.1 y,v2.2.2))=(au (au s.1 x) y).1:=Qp (w:=((au s.1 x).1,(s.1.2,(gg,())))) q1 pS Yl (au s.1 x).2;have rest:∀a:List ai,a=(au s.1 x).1→LX G 155 D8 Tryz.f155 Ak (aY Tryz.prog 155 1) ((((cH s.1.2 (ar o):Nat):Int),((2:Int),((1:Int),()))),(((a,(s.1.2,(gg,()))),()),([x,y],())))=some (((0:Int),()),(((au (au s.1 x) y).1,(bH s.1.2 (ar o),(gg,()))),())):=by
    intro a ha;subst ha;refine aB N5 ?_;refine ae rfl (ae rfl (aa (a:=y) rfl ?_));refine aa (HV hG ((au s.1 x).1,(s.1.2,(gg,()))) y q1 Nd.n Nd.r pS Yl) ?_;refine wh rfl (ae rfl (aa pS ?_));refine aa (WA hG v2.2.1 y (q1.ring A8) (Nd.r v2 A8)) ?_;refine aa pS ?_;have last:∀b:List ai,b=(au (au s.1 x) y).1→LX G 155 D8 Tryz.f155 Ak (aY Tryz.prog 155 1) ((((cH s.1.2 (ar o):Nat):Int),((2:Int),((2:Int),()))),(((b,(s.1.2,(gg,()))),()),([x,y],())))=some (((0:Int),()),(((au (au s.1 x) y).1,(bH s.1.2 (ar o),(gg,()))),())):=by intro b hb;subst hb;refine aB N5 ?_;obtain⟨d1,d2⟩:=Mh h.d.se hf (by omega);refine ah rfl (ae d1 ?_);exact congrArg (fun l:List aj=>some (((0:Int),()),(((au (au s.1 x) y).1,(l,(gg,()))),()))) d2
    exact last _ e2
   exact rest _ e1
  ·rw[←hx,←hy];unfold aH;rw[lK Qn];rfl
theorem Oy{n:Int}(h0:0≤n)(h3:n≤3):dx .xor .i64 1 (dx .and .i64 n 1)=IntKind.wrap .i64 (1-Int.tmod n 2)∧mM .i64 n 1=IntKind.wrap .i64 (Int.tdiv n 2):=by
 have:n=0∨n=1∨n=2∨n=3:=by omega
 rcases this with rfl|rfl|rfl|rfl<;>exact⟨by decide,by decide⟩
theorem Mi{l:List ai}{x:ab}(hw:Rw l){k:Nat}{v:ai}(hk:l[k]? = some v)(hx:x∈v.2.1)(y:ab)(e:List aj):l.set k (v.1,(dK v.2.1 x y,v.2.2))=(az (l,e) x y).1:=by rw[ln (d:=(l,e)) hw y (List.mem_of_getElem? hk) hx];exact Ox hw.s hk _
theorem amH(hG:HG G)(s:StateT)(o:aE)(h:cS s)(hs:Sv s.1.1)(hm:bg o=0)(Zp:o.1=5) :
    ∃(e:Int) (w:ba),FX G 156 Cc ((o,()),(aV s,()))=some ((e,()),(w,()))∧iE e w=jg s o:=by
  have bp:=h.d.ne;have Rj:=h.d.nv;obtain⟨m1,m2,m3,m4⟩:=np hm Zp;obtain⟨s1,s2⟩:=yV m3 m4;obtain⟨c1,c2⟩:=Oy m3 m4;have key:∀(e:Int) (w:ba),FX G 156 Cc ((o,()),(aV s,()))=some ((e,()),(w,()))→iE e w=jg s o→∃(e:Int) (w:ba),FX G 156 Cc ((o,()),(aV s,()))=some ((e,()),(w,()))∧iE e w=jg s o:=fun e w a b=>⟨e,w,a,b⟩;have start:∀(e:Int) (w:ba),cf 156 Cc Tryz.f156 (FX G) (LX G 156 Cc Tryz.f156) ((o,()),(aV s,()))=some ((e,()),(w,()))→FX G 156 Cc ((o,()),(aV s,()))=some ((e,()),(w,())):=fun e w a =>aC (hG _ _ rfl) a rfl;unfold jg
  cases hf:(aP s.1.2 (ar o)).isSome with
  |false =>
    refine⟨13,aV s,start _ _ ((YX).trans ?_),?_⟩
    · refine aa (qN hG (aV s) (ar o) h.d.se (by show s.1.2.length≤_;omega)) ?_
      refine aa (sI hG (aV s) (cc o) h.d.sv (by show s.1.1.length≤_;omega)) ?_;refine aa (qN hG (aV s) (af o) h.d.se (by show s.1.2.length≤_;omega)) ?_;exact bB ((dV (l:=s.1.2) h.d.se).trans hf) rfl
    · rw[if_pos (show(b5 s.1 (ar o)).isSome=false from hf)];rfl
  |true =>
  rw[if_neg (show ¬(b5 s.1 (ar o)).isSome=false by show ¬(aP s.1.2 (ar o)).isSome=false;rw[hf];simp)]
  cases RI:(aO s.1.1 (cc o)).isSome with
  |true =>
    refine⟨12,aV s,start _ _ ((YX).trans ?_),?_⟩
    · refine aa (qN hG (aV s) (ar o) h.d.se (by show s.1.2.length≤_;omega)) ?_
      refine aa (sI hG (aV s) (cc o) h.d.sv (by show s.1.1.length≤_;omega)) ?_;refine aa (qN hG (aV s) (af o) h.d.se (by show s.1.2.length≤_;omega)) ?_;refine bB ((dV (l:=s.1.2) h.d.se).trans hf) (ah rfl ?_);exact ae ((gZ (l:=s.1.1) h.d.sv).trans RI) rfl
    · rw[if_pos (show(aG s.1 (cc o)).isSome=true from RI)];rfl
  |false =>
  rw[if_neg (show ¬(aG s.1 (cc o)).isSome=true by show ¬(aO s.1.1 (cc o)).isSome=true;rw[RI];simp)]
  cases Y2:(aP s.1.2 (af o)).isSome with
  |true =>
    refine⟨12,aV s,start _ _ ((YX).trans ?_),?_⟩
    · refine aa (qN hG (aV s) (ar o) h.d.se (by show s.1.2.length≤_;omega)) ?_
      refine aa (sI hG (aV s) (cc o) h.d.sv (by show s.1.1.length≤_;omega)) ?_;refine aa (qN hG (aV s) (af o) h.d.se (by show s.1.2.length≤_;omega)) ?_;refine bB ((dV (l:=s.1.2) h.d.se).trans hf) (ah rfl ?_);refine ah ((gZ (l:=s.1.1) h.d.sv).trans RI) ?_;exact ae ((dV (l:=s.1.2) h.d.se).trans Y2) rfl
    · rw[if_pos (show(b5 s.1 (af o)).isSome=true from Y2)];rfl
  |false =>
  rw[if_neg (show ¬(b5 s.1 (af o)).isSome=true by show ¬(aP s.1.2 (af o)).isSome=true;rw[Y2];simp)];have amI:aO s.1.1 (cc o)=none:=by simpa using RI
  have amJ:aP s.1.2 (af o)=none:=by simpa using Y2
  obtain⟨m,Pz⟩:∃m:ab,m=JA o:=⟨_,rfl⟩;obtain⟨kk,NC⟩:∃m:ab,m=Gf o:=⟨_,rfl⟩;have Me:m∈an s.1.1:=by rw[Pz];exact h.d.gq hf s1
  have He:ag kk∉an s.1.1:=by rw[NC];exact h.d.mV amJ _
  obtain⟨p1,q1⟩:=iQ h.d.rw Me He;have pS:kk.2=0∨kk.2=1:=by rw[NC];exact s2
  obtain⟨k,v,hk,kb,hv⟩:=ue Me;have e1:s.1.1.set k (v.1,(dK v.2.1 m (ag kk),v.2.2))=(az s.1 m (ag kk)).1:=Mi h.d.rw hk kb _ s.1.2;have hlen:(az s.1 m (ag kk)).1.length=s.1.1.length:=by unfold az;exact fO _ _ _
  have Zo:aO (az s.1 m (ag kk)).1 (cc o)=none:=by unfold az Vs.cj;rw[iO (qa _ _),amI];rfl
  have eM:((ar o,dx .xor .i64 1 (dx .and .i64 (oN o) 1)):ab)=m:=by rw[Pz,c1];rfl
  have eK:((af o,mM .i64 (oN o) 1):ab)=kk:=by rw[NC,c2];rfl
  have go:∀(e:Int) (w:ba),(∀a:List ai,a=(az s.1 m (ag kk)).1→((FX G 152 Lf (((cc o,(bG [m,kk],(e0,(0:Int)))),()),((a,(s.1.2,(s.2,()))),()))).bind fun(oM:((Int×Unit)×(ba×Unit))) =>cond (oM.1.1 != (0:Int)) (some (oM.1,((oM.2.1.1,(oM.2.1.2.1,oM.2.1.2.2)),()))) ((FX G 178 Bz ((af o,()),((oM.2.1.1,(oM.2.1.2.1,oM.2.1.2.2)),()))).bind fun(tT:((Int×Unit)×(ba×Unit))) =>some (tT.1,((tT.2.1.1,(tT.2.1.2.1,tT.2.1.2.2)),()))))=some ((e,()),(w,())))→FX G 156 Cc ((o,()),(aV s,()))=some ((e,()),(w,())):=fun e w rest=>by
    refine start _ _ ((YX).trans ?_);refine aa (qN hG (aV s) (ar o) h.d.se (by show s.1.2.length≤_;omega)) ?_;refine aa (sI hG (aV s) (cc o) h.d.sv (by show s.1.1.length≤_;omega)) ?_;refine aa (qN hG (aV s) (af o) h.d.se (by show s.1.2.length≤_;omega)) ?_;refine bB ((dV (l:=s.1.2) h.d.se).trans hf) (ah rfl ?_);refine ah ((gZ (l:=s.1.1) h.d.sv).trans RI) ?_;refine ah ((dV (l:=s.1.2) h.d.se).trans Y2) ?_;refine ah rfl ?_;have body:∀mm k2:ab,mm=m→k2=kk→((FX G 185 n8 ((mm,()),(aV s,()))).bind fun(y4:(((Option ((Fin 1)×Nat))×Unit)×(ba×Unit))) =>s5 y4.1.1 (none) fun(p5:((Fin 1)×Nat)) =>cond (p5.1.val==0) (((y4.2.1.1)[p5.2]?).bind fun(y6:ai) =>(FX G 188 qD ((k2,()),())).bind fun(y7:((ab×Unit)×Unit)) =>(FX G 187 vX ((y6.2.1,(mm,((y7.1.1.1,y7.1.1.2),()))),())).bind fun(y8:(((List ab)×Unit)×Unit)) =>((y4.2.1.1)[p5.2]?).bind fun(y9:ai) =>(FX G 169 tJ (([mm,k2],()),())).bind fun(rh:(((List ab)×Unit)×Unit)) =>(FX G 152 Lf (((cc o,(rh.1.1,((⟨#[]⟩:ByteArray),(0:Int)))),()),(((List.set y4.2.1.1 p5.2 (y9.1,(y8.1.1,y9.2.2))),(y4.2.1.2.1,y4.2.1.2.2)),()))).bind fun(oM:((Int×Unit)×(ba×Unit))) =>cond (oM.1.1 != (0:Int)) (some (oM.1,((oM.2.1.1,(oM.2.1.2.1,oM.2.1.2.2)),()))) ((FX G 178 Bz ((af o,()),((oM.2.1.1,(oM.2.1.2.1,oM.2.1.2.2)),()))).bind fun(tT:((Int×Unit)×(ba×Unit))) =>some (tT.1,((tT.2.1.1,(tT.2.1.2.1,tT.2.1.2.2)),())))) (none))=some ((e,()),(w,())):=by intro mm k2 amK amL;subst amK amL;refine aa (HV hG (aV s) mm h.d.rw hs.n hs.r hk kb) ?_;refine wh rfl (ae rfl (aa hk ?_));refine aa (Mg (hG _ _ rfl) k2 pS) ?_;refine aa (abj hG v.2.1 mm (ag k2) (hs.r v hv)) ?_;refine aa hk ?_;refine aa (HM hG [mm,k2] (by simp)) ?_;exact rest _ e1
    exact body _ _ eM eK
  have amM:24≤s.1.1.length→sJ ((az s.1 m (ag kk)).1,(s.1.2,(s.2,()))) (cc o,(bG [m,kk],(e0,0)))=(3,((az s.1 m (ag kk)).1,(s.1.2,(s.2,())))):=fun hb=>by unfold sJ;rw[if_neg (by rw[show aO ((az s.1 m (ag kk)).1,(s.1.2,(s.2,()))).1 ((cc o,(bG [m,kk],(e0,0))):ai).1=none from Zo];simp)];rw[if_pos (by show 24≤(az s.1 m (ag kk)).1.length;omega)]
  have acA:¬24≤s.1.1.length→sJ ((az s.1 m (ag kk)).1,(s.1.2,(s.2,()))) (cc o,(bG [m,kk],(e0,0)))=(0,(cx (cc o,(bG [m,kk],(e0,0))) (az s.1 m (ag kk)).1,(s.1.2,(s.2,())))):=fun hb=>by unfold sJ;rw[if_neg (by rw[show aO ((az s.1 m (ag kk)).1,(s.1.2,(s.2,()))).1 ((cc o,(bG [m,kk],(e0,0))):ai).1=none from Zo];simp)];rw[if_neg (by show ¬24≤(az s.1 m (ag kk)).1.length;omega)]
  by_cases hb:24≤s.1.1.length
  · refine⟨3,((az s.1 m (ag kk)).1,(s.1.2,(s.2,()))),go _ _ (fun a ha=>?_),?_⟩
    · subst ha
      refine aa (acw hG ((az s.1 m (ag kk)).1,(s.1.2,(s.2,()))) (cc o,(bG [m,kk],(e0,0))) q1.s (by show(az s.1 m (ag kk)).1.length≤_;omega)) ?_;rw[amM hb];exact ae rfl rfl
    · rw[if_pos hb];rfl
  rw[if_neg hb];have hE:wi (cx (cc o,(bG [m,kk],(e0,0))) (az s.1 m (ag kk)).1,(s.1.2,(s.2,()))) (af o)=if 40≤s.1.2.length then(3,(cx (cc o,(bG [m,kk],(e0,0))) (az s.1 m (ag kk)).1,(s.1.2,(s.2,())))) else(0,(cx (cc o,(bG [m,kk],(e0,0))) (az s.1 m (ag kk)).1,(bW (af o,(e0,0)) s.1.2,(s.2,())))):=by unfold wi;rw[if_neg (by show ¬(aP s.1.2 (af o)).isSome=true;rw[Y2];simp)]
  have fin:FX G 156 Cc ((o,()),(aV s,()))=some (((wi (cx (cc o,(bG [m,kk],(e0,0))) (az s.1 m (ag kk)).1,(s.1.2,(s.2,()))) (af o)).1,()),((wi (cx (cc o,(bG [m,kk],(e0,0))) (az s.1 m (ag kk)).1,(s.1.2,(s.2,()))) (af o)).2,())):=by refine go _ _ (fun a ha=>?_);subst ha;refine aa (acw hG ((az s.1 m (ag kk)).1,(s.1.2,(s.2,()))) (cc o,(bG [m,kk],(e0,0))) q1.s (by show(az s.1 m (ag kk)).1.length≤_;omega)) ?_;rw[acA hb];refine ah rfl ?_;exact aa (abf hG (cx (cc o,(bG [m,kk],(e0,0))) (az s.1 m (ag kk)).1,(s.1.2,(s.2,()))) (af o) h.d.se (by show s.1.2.length≤_;omega)) rfl
  rw[hE]at fin;by_cases hb4:40≤s.1.2.length
  · rw[if_pos hb4]at fin ⊢
    exact⟨_,_,fin,rfl⟩
  · rw[if_neg hb4]at fin ⊢
    refine⟨_,_,fin,?_⟩;rw[Pz,NC];rfl
theorem amN(hG:HG G)(s:StateT)(o:aE)(h:cS s)(hs:Sv s.1.1) :
    ∃(e:Int) (w:ba),FX G 157 tI ((o,()),(aV s,()))=some ((e,()),(w,()))∧iE e w=fX s o:=by
  have bp:=h.d.ne;have Rj:=h.d.nv;have hgn:=h.n;have start:∀(e:Int) (w:ba),cf 157 tI Tryz.f157 (FX G) (LX G 157 tI Tryz.f157) ((o,()),(aV s,()))=some ((e,()),(w,()))→FX G 157 tI ((o,()),(aV s,()))=some ((e,()),(w,())):=fun e w a =>aC (hG _ _ rfl) a rfl;unfold fX
  cases hf:aO s.1.1 (ar o) with
  |none =>
    refine⟨13,aV s,start _ _ ((aeQ).trans ?_),?_⟩
    · refine aa (sI hG (aV s) (ar o) h.d.sv (by show s.1.1.length≤_;omega)) ?_
      exact bB ((gZ (l:=s.1.1) h.d.sv).trans (by rw[hf])) rfl
    · rw[show aG s.1 (ar o)=none from hf];rfl
  |some v =>
  have hfs:(aO s.1.1 (ar o)).isSome=true:=by rw[hf];rfl
  have hv:=dw hf;have Mb:=gk hf;have pN:=dL h.d.sv hf;have aK:=(abg.1 pN).1;have hgr:=h.d.rw;have go:∀(e:Int) (w:ba),(cond ((((List.length v.2.1):Nat):Int) != (2:Int)) (some (((14:Int),()),(aV s,()))) _=some ((e,()),(w,())))→FX G 157 tI ((o,()),(aV s,()))=some ((e,()),(w,())):=fun e w rest=>by refine start _ _ ((aeQ).trans ?_);refine aa (sI hG (aV s) (ar o) h.d.sv (by show s.1.1.length≤_;omega)) ?_;refine bB ((gZ (l:=s.1.1) h.d.sv).trans hfs) (ah rfl ?_);refine ae (dU (gy _) (bj aK)) (aa pN ?_);exact rest
  rw[show aG s.1 (ar o)=some v from hf];by_cases zK:v.2.1.length=2
  case neg =>
    refine⟨14,aV s,go _ _ (ae (by rw[bne_iff_ne];omega) rfl),?_⟩;show iE 14 (aV s)=(match v.2.1 with | [r0,r1]=>dH s o r0 r1|_=>(zS,(14,())))
    split
    · rename_i hr;rw[hr]at zK;exact absurd rfl zK
    · rfl
  obtain⟨r0,r1,hr⟩:∃r0 r1,v.2.1=[r0,r1]:=by
    match hq:v.2.1,zK with
    |[a,b],_=>exact⟨a,b,rfl⟩
  have Hq:(((List.length v.2.1:Nat):Int) != (2:Int))=false:=by rw[zK];rfl
  have g0:bm v.2.1 (0:Int)=some r0:=by rw[hr];rfl
  have g1:bm v.2.1 (1:Int)=some r1:=by rw[hr];rfl
  show ∃(e:Int) (w:ba),FX G 157 tI ((o,()),(aV s,()))=some ((e,()),(w,()))∧iE e w=(match v.2.1 with | [r0,r1]=>dH s o r0 r1|_=>(zS,(14,())));rw[hr];show ∃(e:Int) (w:ba),FX G 157 tI ((o,()),(aV s,()))=some ((e,()),(w,()))∧iE e w=dH s o r0 r1;unfold dH;by_cases Oz:r0.1=r1.1
  · refine⟨14,aV s,go _ _ (ah Hq (aa g0 (aa g1 (ae ((iL r0.1 r1.1).trans (decide_eq_true Oz)) rfl)))),?_⟩
    rw[if_pos Oz];rfl
  rw[if_neg Oz];have b01:=(iL r0.1 r1.1).trans (decide_eq_false Oz);have tail:∀a b:ab,v.2.1.Perm [a,b]→a.1≠b.1→((FX G 188 qD ((b,()),())).bind fun(y7:((ab×Unit)×Unit)) =>cond (kL s.1.1 ((bU s.1.1 (ar o):Nat):Int) (IntKind.wrap .i64 (((bU s.1.1 (ar o):Nat):Int)+(1:Int)))) ((FX G 185 n8 (((y7.1.1.1,y7.1.1.2),()),(((eu s.1.1 ((bU s.1.1 (ar o):Nat):Int) (IntKind.wrap .i64 (((bU s.1.1 (ar o):Nat):Int)+(1:Int)))),(s.1.2,(s.2,()))),()))).bind fun(y8:(((Option ((Fin 1)×Nat))×Unit)×(ba×Unit))) =>s5 y8.1.1 (none) fun(p9:((Fin 1)×Nat)) =>cond (p9.1.val==0) (((y8.2.1.1)[p9.2]?).bind fun(rh:ai) =>(FX G 187 vX ((rh.2.1,((y7.1.1.1,y7.1.1.2),(a,()))),())).bind fun(oM:(((List ab)×Unit)×Unit)) =>((y8.2.1.1)[p9.2]?).bind fun(tT:ai) =>(FX G 182 pe ((b.1,()),(((List.set y8.2.1.1 p9.2 (tT.1,(oM.1.1,tT.2.2))),(y8.2.1.2.1,y8.2.1.2.2)),()))).bind fun(ov:((Int×(Bool×Unit))×(ba×Unit))) =>cond (kL ov.2.1.2.1 ov.1.1 (IntKind.wrap .i64 (ov.1.1+(1:Int)))) (LX G 157 tI Tryz.f157 pU (aY Tryz.prog 157 0) (((0:Int),()),(((ov.2.1.1,((eu ov.2.1.2.1 ov.1.1 (IntKind.wrap .i64 (ov.1.1+(1:Int)))),ov.2.1.2.2)),((a,()),((b,()),(((y7.1.1.1,y7.1.1.2),()),())))),()))) (none)) (none)) (none))=some (((0:Int),()),(((GM s o a b).1,((GM s o a b).2,(HI s.2 a b,()))),())):=by
    intro a b hp rT;obtain⟨p,q,h1,_,h2,_⟩:=mE h.d.sv hv;have pd:(an s.1.1).Perm (a::b::an (p++q)):=by have:=(g6 p q v).trans (ac9 _ hp);rw[←h1]at this;exact this
    have Qq:bF s.1.1 (ar o)=p++q:=by rw[←Mb];exact h2
    have Ow:aH s.1 (ar o) zI=(p++q,s.1.2):=by unfold aH;rw[Qq,kH h.d.ge]
    have Cs:=pd.nodup_iff.1 hgr.n;have hbm:b∈ends s.1.2:=h.d.pd.mem_iff.1 (pd.mem_iff.2 (by simp));obtain⟨e,he,he1,Cm⟩:=dr.1 hbm;have zp:(aP s.1.2 b.1).isSome=true:=by unfold aP;rw[List.find?_isSome];exact⟨e,he,by simpa using he1⟩
    obtain⟨_,ho⟩:=iR Cm;have SM:ag b∈an (p++q):=by
      have h3:ag b∈an s.1.1:=h.d.gq (s:=(ag b).2) zp (by rcases ho with⟨_,k⟩|⟨_,k⟩<;>omega);rcases abn.1 (pd.mem_iff.1 h3) with k|k
      · exact absurd (congrArg Prod.fst k) (fun k=>rT k.symm)
      rcases abn.1 k with k|k
      · have:=congrArg Prod.snd k;omega
      · exact k
    have JI:Rw (p++q):=⟨by rw[←h2];exact lh h.d.sv,(abx.1 (abx.1 Cs).2).2⟩;have bL:∀u∈p++q,u∈s.1.1:=fun u hu=>by
      rw[h1];rcases abH.1 hu with k|k
      · exact abt _ k
      · exact abo _ (aa5 _ k)
    have Nd:Sv (p++q):=⟨by have:=hs.n;rw[h1]at this;simp at this ⊢;omega,fun u hu=>hs.r u (bL u hu)⟩;obtain⟨dk1,dk2⟩:=WI h.d.sv hfs (by omega);rw[Qq]at dk2;obtain⟨k,u,hk,hxu,hu⟩:=ue SM;have e1:(p++q).set k (u.1,(dK u.2.1 (ag b) a,u.2.2))=(az (p++q,s.1.2) (ag b) a).1:=Mi JI hk hxu _ s.1.2;have Qn:∀w∈(az (p++q,s.1.2) (ag b) a).1,GV w:=oC (d:=(p++q,s.1.2)) (fun w hw=>h.d.gv w (bL w hw)) _ _;have eD:GM s o a b=((az (p++q,s.1.2) (ag b) a).1,bH s.1.2 b.1):=by unfold GM;rw[Ow];unfold aH;rw[lK Qn];rfl
    have ga:=lu h.g h.n ((b.1,0),sP a b 0);rw[eD];refine aa (Mg (hG _ _ rfl) b Cm) ?_;refine ae dk1 ?_;have r1:∀l1:List ai,l1=p++q→((FX G 185 n8 ((ag b,()),((l1,(s.1.2,(s.2,()))),()))).bind fun(y8:(((Option ((Fin 1)×Nat))×Unit)×(ba×Unit))) =>s5 y8.1.1 (none) fun(p9:((Fin 1)×Nat)) =>cond (p9.1.val==0) (((y8.2.1.1)[p9.2]?).bind fun(rh:ai) =>(FX G 187 vX ((rh.2.1,(ag b,(a,()))),())).bind fun(oM:(((List ab)×Unit)×Unit)) =>((y8.2.1.1)[p9.2]?).bind fun(tT:ai) =>(FX G 182 pe ((b.1,()),(((List.set y8.2.1.1 p9.2 (tT.1,(oM.1.1,tT.2.2))),(y8.2.1.2.1,y8.2.1.2.2)),()))).bind fun(ov:((Int×(Bool×Unit))×(ba×Unit))) =>cond (kL ov.2.1.2.1 ov.1.1 (IntKind.wrap .i64 (ov.1.1+(1:Int)))) (LX G 157 tI Tryz.f157 pU (aY Tryz.prog 157 0) (((0:Int),()),(((ov.2.1.1,((eu ov.2.1.2.1 ov.1.1 (IntKind.wrap .i64 (ov.1.1+(1:Int)))),ov.2.1.2.2)),((a,()),((b,()),((ag b,()),())))),()))) (none)) (none))=some (((0:Int),()),(((az (p++q,s.1.2) (ag b) a).1,(bH s.1.2 b.1,(HI s.2 a b,()))),())):=by
      intro l1 hl1;subst hl1;refine aa (HV hG (p++q,(s.1.2,(s.2,()))) (ag b) JI Nd.n Nd.r hk hxu) ?_;refine wh rfl (ae rfl (aa hk ?_));refine aa (abj hG u.2.1 (ag b) a (Nd.r u hu)) ?_;refine aa hk ?_;have r2:∀l2:List ai,l2=(az (p++q,s.1.2) (ag b) a).1→((FX G 182 pe ((b.1,()),((l2,(s.1.2,(s.2,()))),()))).bind fun(ov:((Int×(Bool×Unit))×(ba×Unit))) =>cond (kL ov.2.1.2.1 ov.1.1 (IntKind.wrap .i64 (ov.1.1+(1:Int)))) (LX G 157 tI Tryz.f157 pU (aY Tryz.prog 157 0) (((0:Int),()),(((ov.2.1.1,((eu ov.2.1.2.1 ov.1.1 (IntKind.wrap .i64 (ov.1.1+(1:Int)))),ov.2.1.2.2)),((a,()),((b,()),((ag b,()),())))),()))) (none))=some (((0:Int),()),(((az (p++q,s.1.2) (ag b) a).1,(bH s.1.2 b.1,(HI s.2 a b,()))),())):=by
        intro l2 zK;subst zK;refine aa (qN hG ((az (p++q,s.1.2) (ag b) a).1,(s.1.2,(s.2,()))) b.1 h.d.se (by show s.1.2.length≤_;omega)) ?_;obtain⟨ek1,ek2⟩:=Mh h.d.se zp (by omega);refine ae ek1 ?_;have r3:∀l3:List aj,l3=bH s.1.2 b.1→(LX G 157 tI Tryz.f157 pU (aY Tryz.prog 157 0) (((0:Int),()),((((az (p++q,s.1.2) (ag b) a).1,(l3,(s.2,()))),((a,()),((b,()),((ag b,()),())))),())))=some (((0:Int),()),(((az (p++q,s.1.2) (ag b) a).1,(bH s.1.2 b.1,(HI s.2 a b,()))),())):=by
          intro l3 hl3;subst hl3;have eb:b=(b.1,b.2):=rfl;have eo:ag b=(b.1,(ag b).2):=rfl;rcases ho with⟨Jj,UK⟩|⟨Qb,ho0⟩
          · rw[Jj]at eb;rw[UK]at eo
            have t0:sP a b 0=zD:=by unfold sP;rw[if_neg (by rw[eo];simp)]
            have t1:sP a b 1=a:=by unfold sP;rw[if_pos eo.symm]
            rw[t0,←eb]at ga;have eG:HI s.2 a b=bR (bR s.2 (b,zD)) (ag b,a):=by unfold HI;rw[t0,t1,←eb,←eo]
            rw[eG];refine aB Ao ?_;refine ae rfl (ae (by show(b.2==(0:Int))=true;simp[Jj]) ?_);refine aa (HU hG ((az (p++q,s.1.2) (ag b) a).1,(bH s.1.2 b.1,(s.2,()))) b zD h.g (by show s.2.length≤_;omega)) ?_;refine aB Ao ?_;refine ae rfl (ah (by show(b.2==(1:Int))=false;simp[Jj]) ?_);refine aa (HU hG ((az (p++q,s.1.2) (ag b) a).1,(bH s.1.2 b.1,(bR s.2 (b,zD),()))) (ag b) a ga.1 (by have:=ga.2;show(bR s.2 (b,zD)).length≤_;omega)) ?_;refine aB Ao ?_;exact ah rfl rfl
          · rw[Qb]at eb;rw[ho0]at eo
            have t0:sP a b 0=a:=by unfold sP;rw[if_pos eo.symm]
            have t1:sP a b 1=zD:=by unfold sP;rw[if_neg (by rw[eo];simp)]
            rw[t0,←eo]at ga;have eG:HI s.2 a b=bR (bR s.2 (ag b,a)) (b,zD):=by unfold HI;rw[t0,t1,←eb,←eo]
            rw[eG];refine aB Ao ?_;refine ae rfl (ah (by show(b.2==(0:Int))=false;simp[Qb]) ?_);refine aa (HU hG ((az (p++q,s.1.2) (ag b) a).1,(bH s.1.2 b.1,(s.2,()))) (ag b) a h.g (by show s.2.length≤_;omega)) ?_;refine aB Ao ?_;refine ae rfl (ae (by show(b.2==(1:Int))=true;simp[Qb]) ?_);refine aa (HU hG ((az (p++q,s.1.2) (ag b) a).1,(bH s.1.2 b.1,(bR s.2 (ag b,a),()))) b zD ga.1 (by have:=ga.2;show(bR s.2 (ag b,a)).length≤_;omega)) ?_;refine aB Ao ?_;exact ah rfl rfl
        exact r3 _ ek2
      exact r2 _ e1
    exact r1 _ dk2
  have bo:∀y:ab,((y.1.1==(af o).1)&&(y.1.2==(af o).2))=decide (y.1=af o):=fun y=>iL y.1 (af o);by_cases h0:r0.1=af o
  · rw[if_pos h0]
    refine⟨0,((GM s o r1 r0).1,((GM s o r1 r0).2,(HI s.2 r1 r0,()))),go _ _ (ah Hq (aa g0 (aa g1 (ah b01 (aa g0 (aa g1 (ae ((bo r0).trans (decide_eq_true h0)) ?_))))))),rfl⟩;refine bB ((bo r0).trans (decide_eq_true h0)) (ah rfl ?_);exact tail r1 r0 (by rw[hr];exact List.Perm.swap _ _ _) (fun k=>Oz k.symm)
  rw[if_neg h0];by_cases h1:r1.1=af o
  · rw[if_pos h1]
    refine⟨0,((GM s o r0 r1).1,((GM s o r0 r1).2,(HI s.2 r0 r1,()))),go _ _ (ah Hq (aa g0 (aa g1 (ah b01 (aa g0 (aa g1 (ah ((bo r0).trans (decide_eq_false h0)) ?_))))))),rfl⟩;refine bB ((bo r1).trans (decide_eq_true h1)) (ah rfl ?_);exact tail r0 r1 (by rw[hr]) Oz
  rw[if_neg h1];refine⟨14,aV s,go _ _ (ah Hq (aa g0 (aa g1 (ah b01 (aa g0 (aa g1 (ah ((bo r0).trans (decide_eq_false h0)) ?_))))))),rfl⟩;exact bB ((bo r1).trans (decide_eq_false h1)) (ae rfl rfl)
end Go.Vs
namespace Go.Vs
open Go.Proofs
theorem Zq{row:List ab}{j m:Nat}(hj:j≤row.length)(hm:m≤row.length)(h0:0<row.length):kK (kK row j) m=kK row ((j+m)%row.length):=by
 apply adG;intro i;have hl:(kK row j).length=row.length:=dS _ _;have hp:=adR (j+m) h0;by_cases hi:i<row.length
 ·rw[mR (by omega) (by omega),hl,mR (by omega) (Nat.mod_lt _ h0),mR (Nat.le_of_lt hp) hi];congr 1;simp only[Nat.add_mod_mod,Nat.mod_add_mod,Nat.add_assoc]
 ·rw[List.getElem?_eq_none (by rw[dS,dS];omega),List.getElem?_eq_none (by rw[dS];omega)]
theorem AG{row:List ab}(hn:row.Nodup){i j:Nat}{hi:i<row.length}{hj:j<row.length}(h:row[i]=row[j]):i=j:=by
 rcases Nat.lt_trichotomy i j with k|k|k
 ·exact absurd h (adV.1 hn i j hi hj k)
 ·exact k
 ·exact absurd h.symm (adV.1 hn j i hj hi k)
theorem nr{row:List ab}(hn:row.Nodup){i j:Nat}{x:ab}(hi:row[i]? = some x)(hj:row[j]? = some x):i=j:=by obtain⟨h1,h2⟩:=abg.1 hi;obtain⟨h3,h4⟩:=abg.1 hj;exact AG hn (h2.trans h4.symm)
theorem oD{row:List ab}(hn:row.Nodup){j:Nat}(hj:j≤row.length):bG (kK row j)=bG row:=by
 by_cases h0:row.length=0
 ·have:row=[]:=by simpa using h0
  subst this;have:j=0:=by simpa using hj
  subst this;rfl
 have hp:0<row.length:=by omega
 have hl:(kK row j).length=row.length:=dS _ _;have hm:=lH row row 0 0 hp (by omega);have Ct:=lH (kK row j) (kK row j) 0 0 (by omega) (by omega);have l1:=oz hp;have l2:=oz (row:=kK row j) (by omega);unfold bG;rw[Zq hj (by omega) hp];generalize fT (kK row j) (kK row j) 0 0=m' at *;generalize fT row row 0 0=m at *;rw[hl]at Ct;have hx:(kK row j)[m']? = row[(j+m')%row.length]? := mR hj Ct;have hq:=adR (j+m') hp;rw[mU hm]at l1;rw[mU (by omega)]at l2;have e1:(kK row j)[m']'(by omega)=row[(j+m')%row.length]:=by rw[List.getElem?_eq_getElem (by omega),List.getElem?_eq_getElem hq]at hx;exact abK hx
 rw[e1]at l2;have h1:=l1.1 _ hq;have h2:mC row[m] row[(j+m')%row.length]=false:=by have iz:row[m]∈kK row j:=CL.2 (acB hm);obtain⟨t,ht,he⟩:=adJ iz;rw[←he];exact l2.1 t ht
 have heq:row[(j+m')%row.length]=row[m]:=Classical.byContradiction fun k=>by have:=vd h1 k;rw[h2]at this;cases this
 have:=AG hn heq;rw[this]
theorem ml(row:List ab):∃j,j≤row.length∧bG row=kK row j:=by
 by_cases h0:row.length=0
 ·have:row=[]:=by simpa using h0
  subst this;exact⟨0,by simp,rfl⟩
 ·exact⟨fT row row 0 0,Nat.le_of_lt (lH row row 0 0 (by omega) (by omega)),rfl⟩
theorem Zr{row:List ab}{j t k:Nat}(hj:j≤row.length)(ht:t<row.length)(hk:(j+t)%row.length=k)(x:ab):(kK row j).set t x=kK (row.set k x) j:=by
 have h0:0<row.length:=by omega
 have hl:(kK row j).length=row.length:=dS _ _;apply adG;intro i;by_cases hi:i<row.length
 ·rw[List.getElem?_set,hl,mR (row:=row.set k x) (by rw[List.length_set];exact hj) (by rw[List.length_set];exact hi),List.length_set,List.getElem?_set];have aK:=adR (j+i) h0;by_cases hit:t=i
  ·subst hit;rw[if_pos rfl,if_pos ht,if_pos hk.symm,if_pos (by rw[←hk];exact Nat.mod_lt _ h0)]
  ·rw[if_neg hit,if_neg,mR hj hi];intro NC;apply hit;rw[←hk]at NC;by_cases h1:j+t<row.length<;>by_cases h2:j+i<row.length
   ·rw[Nat.mod_eq_of_lt h1,Nat.mod_eq_of_lt h2]at NC;omega
   ·rw[Nat.mod_eq_of_lt h1,Nat.mod_eq_sub_mod (by omega),Nat.mod_eq_of_lt (by omega)]at NC;omega
   ·rw[Nat.mod_eq_of_lt h2,Nat.mod_eq_sub_mod (by omega),Nat.mod_eq_of_lt (by omega)]at NC;omega
   ·rw[Nat.mod_eq_sub_mod (by omega),Nat.mod_eq_of_lt (by omega),Nat.mod_eq_sub_mod (by omega),Nat.mod_eq_of_lt (by omega)]at NC;omega
 ·rw[List.getElem?_eq_none (by rw[List.length_set,dS];omega),List.getElem?_eq_none (by rw[dS,List.length_set];omega)]
theorem HW{row:List ab}(hn:row.Nodup){k:Nat}{m y:ab}(hk:row[k]? = some m)(hy:y∉row):(row.set k y).Nodup:=by
 obtain⟨h1,h2⟩:=abg.1 hk;rw[List.set_eq_take_append_cons_drop,if_pos h1];have p:(row.take k++y::row.drop (k+1)).Perm (y::(row.take k++row.drop (k+1))):=adE;refine p.nodup_iff.2 (abx.2 ⟨fun h=>hy ?_,?_⟩)
 ·rcases abH.1 h with h|h
  ·exact adS h
  ·exact adM h
 ·refine List.Sublist.nodup ?_ hn
  conv=>rhs;rw[←List.take_append_drop k row]
  refine List.Sublist.append (List.Sublist.refl _) ?_;exact(List.drop_sublist_drop_left row (show k≤k+1 by omega))
theorem yW{row:List ab}(hn:row.Nodup){k:Nat}{x:ab}(hk:row[k]? = some x):idx x row 0=(k:Int):=by have:=Ou (d:=x) (row:=row) (k:=k) (i:=0) hk (fun j hj he=>by have:=nr hn hk he;omega);omega
theorem SP{row:List ab}(hn:row.Nodup)(ht:bG row=row){m y:ab}(hm:m∈row)(hy:y∉row):dK (dK row m y) y m=row:=by
 obtain⟨k,hk⟩:=adD hm;have Rl:=(abg.1 hk).1;have h0:0<row.length:=by omega
 have e1:dK row m y=bG (row.set k y):=by unfold dK;rw[if_pos ⟨hm,hy⟩,yW hn hk,Int.toNat_natCast]
 have hn2:=HW hn hk hy;have hl:(row.set k y).length=row.length:=List.length_set;obtain⟨j,hj,hr⟩:=ml (row.set k y);rw[e1,hr];have hn3:(kK (row.set k y) j).Nodup:=by
  have:(kK (row.set k y) j).Perm (row.set k y):=by unfold kK;exact adF.trans (List.Perm.of_eq (List.take_append_drop _ _))
  exact this.nodup_iff.2 hn2
 have hyk:(row.set k y)[k]? = some y:=by rw[List.getElem?_set,if_pos rfl,if_pos Rl]
 have hym:y∈kK (row.set k y) j:=CL.2 (ab1 hyk);have hmy:m≠y:=fun e=>hy (e▸hm);have Pz:m∉kK (row.set k y) j:=fun h=>by
  have h:=CL.1 h;obtain⟨i,hi⟩:=adD h;rw[List.getElem?_set]at hi
  split at hi
  ·exact hmy (by simpa using hi.symm)
  ·rename_i bp;exact bp (nr hn hk hi)
 obtain⟨t,ht2⟩:=adD hym;have htl:=(abg.1 ht2).1;rw[dS]at htl;unfold dK;rw[if_pos ⟨hym,Pz⟩,yW hn3 ht2,Int.toNat_natCast];have hjt:(j+t)%(row.set k y).length=k:=by rw[mR hj htl]at ht2;exact nr hn2 ht2 hyk
 rw[Zr hj htl hjt,List.set_set];have e2:row.set k m=row:=L7 hk;rw[e2];rw[oD hn (by omega),ht]
theorem Fp(m k:ab):bG [m,k]=[m,k]∨bG [m,k]=[k,m]:=by
 have hm:=lH [m,k] [m,k] 0 0 (by simp) (by simp);have:fT [m,k] [m,k] 0 0=0∨fT [m,k] [m,k] 0 0=1:=by simp at hm;omega
 unfold bG;rcases this with h|h<;>rw[h]
 ·exact .inl rfl
 ·exact .inr rfl
end Go.Vs
namespace Go.Vs
open Go.Proofs
variable {G:(f:FuncId)→(g:aX)→Option (g.A→Option g.B)}
theorem AH(l:List ai)(x:ID):l.any (fun w=>decide (w.1=x))=(aO l x).isSome:=by rw[Bool.eq_iff_iff,List.any_eq_true];unfold aO;rw[List.find?_isSome]
theorem AI(l:List aj)(x:ID):l.any (fun w=>decide (w.1=x))=(aP l x).isSome:=by rw[Bool.eq_iff_iff,List.any_eq_true];unfold aP;rw[List.find?_isSome]
theorem SQ(s:StateT)(o:aE):iE (xc (aV s) o).1 (xc (aV s) o).2=qK s o:=by
 unfold xc qK GL E5;rw[AH,AI];by_cases ho:cQ o=true
 ·have hv:s.1.1.map (fN o)=s.1.1:=by
   conv=>rhs;rw[←List.map_id s.1.1]
   exact acM fun u hu=>by unfold fN;rw[if_neg (by rw[ho];simp)];rfl
  rw[if_pos ho,ho,hv];show iE (if(aP s.1.2 (ar o)).isSome=true then _ else _:Int×ba).1 (if(aP s.1.2 (ar o)).isSome=true then _ else _:Int×ba).2=_
  cases (aP s.1.2 (ar o)).isSome<;>rfl
 ·have pP:cQ o=false:=by simpa using ho
  have he:s.1.2.map (gN o)=s.1.2:=by
   conv=>rhs;rw[←List.map_id s.1.2]
   exact acM fun u hu=>by unfold gN;rw[if_neg (by rw[pP];simp)];rfl
  rw[if_neg ho,pP,he];show iE (if(aO s.1.1 (ar o)).isSome=true then _ else _:Int×ba).1 (if(aO s.1.1 (ar o)).isSome=true then _ else _:Int×ba).2=_
  cases (aO s.1.1 (ar o)).isSome<;>rfl
theorem WJ(hG:HG G)(w:ba)(o:aE)(hk:7≤o.1)(hv:cq w.1)(he:dA w.2.1)(hlv:w.1.length≤50000000)(hle:w.2.1.length≤50000000) :
  FX G 131 D7 ((o,()),(w,()))=some (((xc w o).1,()),((xc w o).2,())):=by
 refine aC (hG _ _ rfl) N3 ?_;have kn:∀k:Int,k<7→(o.1==k)=false:=fun k pS=>BQ (by omega);refine ah (kn 1 (by omega)) (ah (kn 2 (by omega)) (ah (kn 3 (by omega)) (ah (kn 4 (by omega)) (ah (kn 5 (by omega)) (ah (kn 6 (by omega)) ?_)))));exact aa (amB hG w o hv he hlv hle) rfl
def SR(x:ID)(e:Bool)(t:ByteArray):aE:=(7,(x,(zI,(zI,(zC,(zC,(e,(t,0))))))))
def Qr(x:ID)(e:Bool)(n:Int):aE:=(8,(x,(zI,(zI,(zC,(zC,(e,(e0,n))))))))
theorem CQ{x:ID}{e:Bool}{t:ByteArray}(hx:cY x=true)(ht:p4 t=true):bg (SR x e t)=0:=by
 unfold bg;rw[if_neg (by simp[SR]),if_neg (by simp[SR]),if_neg (by simp[SR,hx]),if_neg,if_neg (by simp[SR]),if_neg (by simp[SR]),if_neg (by simp[SR]),if_neg (by simp[SR]),if_pos (show(SR x e t).1=7 from rfl)]
 ·exact if_pos ht
 intro h;have:sO (kC (SR x e t)) Ge=true:=(kD _ _).2 rfl;rw[this]at h;cases h
theorem CR{x:ID}{e:Bool}{n:Int}(hx:cY x=true)(ht:mD n=true):bg (Qr x e n)=0:=by
 unfold bg;rw[if_neg (by simp[Qr]),if_neg (by simp[Qr]),if_neg (by simp[Qr,hx]),if_neg,if_neg (by simp[Qr]),if_neg (by simp[Qr]),if_neg (by simp[Qr]),if_pos (show(Qr x e n).1=8 from rfl)]
 ·exact if_pos ht
 intro h;have:sO (kC (Qr x e n)) Ge=true:=(kD _ _).2 rfl;rw[this]at h;cases h
theorem SS{t:ByteArray}(h:p4 t=true):t.size≤16:=by unfold p4 at h;simp only[Bool.and_eq_true,decide_eq_true_eq]at h;exact h.2
theorem Zs{n:Int}(h:mD n=true):E7 n:=by unfold mD at h;simp only[decide_eq_true_eq]at h;unfold E7;omega
theorem sQ:E7 0:=by unfold E7;omega
theorem wj{l:List ai}(hs:cq l){v w:ai}(hv:v∈l)(hw:w∈l)(h:w.1=v.1):w=v:=by have h1:=dM hs hv;have h2:=dM hs hw;rw[h,h1]at h2;exact(abK h2).symm
theorem yX{l:List aj}{v:aj}(hs:dA l)(h:v∈l):aP l v.1=some v:=by
 have hf:(aP l v.1).isSome=true:=by unfold aP;rw[List.find?_isSome];exact⟨v,h,by simp⟩
 obtain⟨u,hu⟩:=abM.1 hf;have h1:=mj hs hu;obtain⟨k,hk,he⟩:=adJ h;have h2:l[k]? = some v:=by rw[List.getElem?_eq_getElem hk,he]
 rw[HK hs h2 rfl,h1]at h2;rw[hu];exact h2
theorem Fq{α:Type}{l:List α}{f g:α→α}(h:∀w∈l,f (g w)=w):(l.map g).map f=l:=by
 rw[List.map_map]
 conv=>rhs;rw[←List.map_id l]
 exact acM fun w hw=>h w hw
theorem Mj{o:aE}(h:cQ o=true)(w:ai):fN o w=w:=by unfold fN;rw[if_neg (by rw[h];simp)]
theorem Mk{o:aE}(h:cQ o=false)(w:aj):gN o w=w:=by unfold gN;rw[if_neg (by rw[h];simp)]
theorem SU{s:StateT}{o:aE}(h:(if cQ o=true then(aP s.1.2 (ar o)).isSome else(aO s.1.1 (ar o)).isSome)=false):qK s o=(zS,(13,())):=by
 unfold qK GL E5;rw[AH,AI]
 cases ho:cQ o<;>rw[ho]at h<;>simp at h<;>rw[if_neg]<;>simp[h]
theorem xe{s:StateT}{o:aE}(h:(if cQ o=true then(aP s.1.2 (ar o)).isSome else(aO s.1.1 (ar o)).isSome)=true):qK s o=(((s.1.1.map (fN o),s.1.2.map (gN o)),s.2),(0,())):=by
 unfold qK GL E5;rw[AH,AI]
 cases ho:cQ o<;>rw[ho]at h<;>simp at h<;>rw[if_pos]<;>simp[h]
theorem CS{o:aE}{w:aj}(h:cQ o=true)(hx:w.1=ar o):gN o w=if o.1=7 then(w.1,(gR o,w.2.2)) else(w.1,(w.2.1,oN o)):=if_pos ⟨h,hx⟩
theorem Qs{o:aE}{w:aj}(hx:w.1≠ar o):gN o w=w:=if_neg fun k=>hx k.2
theorem CT{o:aE}{w:ai}(h:cQ o=false)(hx:w.1=ar o):fN o w=if o.1=7 then(w.1,(w.2.1,(gR o,w.2.2.2))) else(w.1,(w.2.1,(w.2.2.1,oN o))):=if_pos ⟨h,hx⟩
theorem Qt{o:aE}{w:ai}(hx:w.1≠ar o):fN o w=w:=if_neg fun k=>hx k.2
theorem WK{s:StateT}(h:cS s){o p:aE}(hi:ar o=ar p)(he:cQ o=cQ p)(hk:o.1=p.1) (hV:∀v,aO s.1.1 (ar o)=some v→cQ o=false→(o.1=7→gR p=v.2.2.1)∧(o.1≠7→oN p=v.2.2.2)) (hE:∀v,aP s.1.2 (ar o)=some v→cQ o=true→(o.1=7→gR p=v.2.1)∧(o.1≠7→oN p=v.2.2)) :
  (((s.1.1.map (fN o)).map (fN p),(s.1.2.map (gN o)).map (gN p)),s.2)=s:=by
 rw[Fq (l:=s.1.1),Fq (l:=s.1.2)]
 ·intro w hw
  cases ho:cQ o with
  |false=>rw[Mk ho,Mk (he▸ho)]
  |true =>
   have Yh:cQ p=true:=by rw[←he];exact ho
   by_cases hx:w.1=ar o
   ·have zp:aP s.1.2 (ar o)=some w:=by rw[←hx];exact yX h.d.se hw
    obtain⟨h1,h2⟩:=hE w zp ho;have Yi:w.1=ar p:=hx.trans hi;by_cases h7:o.1=7
    ·have h72:p.1=7:=hk▸h7;rw[CS ho hx,if_pos h7,CS (w:=(w.1,(gR o,w.2.2))) Yh Yi,if_pos h72,h1 h7]
    ·have h72:¬p.1=7:=hk▸h7;rw[CS ho hx,if_neg h7,CS (w:=(w.1,(w.2.1,oN o))) Yh Yi,if_neg h72,h2 h7]
   ·rw[Qs hx,Qs (fun k=>hx (k.trans hi.symm))]
 ·intro w hw
  cases ho:cQ o with
  |true=>rw[Mj ho,Mj (he▸ho)]
  |false =>
   have Yh:cQ p=false:=by rw[←he];exact ho
   by_cases hx:w.1=ar o
   ·have zp:aO s.1.1 (ar o)=some w:=by rw[←hx];exact dM h.d.sv hw
    obtain⟨h1,h2⟩:=hV w zp ho;have Yi:w.1=ar p:=hx.trans hi;by_cases h7:o.1=7
    ·have h72:p.1=7:=hk▸h7;rw[CT ho hx,if_pos h7,CT (w:=(w.1,(w.2.1,(gR o,w.2.2.2)))) Yh Yi,if_pos h72,h1 h7]
    ·have h72:¬p.1=7:=hk▸h7;rw[CT ho hx,if_neg h7,CT (w:=(w.1,(w.2.1,(w.2.2.1,oN o)))) Yh Yi,if_neg h72,h2 h7]
   ·rw[Qt hx,Qt (fun k=>hx (k.trans hi.symm))]
structure Lay(s t:StateT):Prop where
 v:cq t.1.1
 e:dA t.1.2
 sm:Sm t.1
 g:t.2.length≤50000000
theorem BR(l:List aj):(ends l).length=2*l.length:=by
 induction l with
 |nil=>rfl
 |cons e r ih=>rw[ll];simp[ih];omega
theorem Zt{l:List ai}{v:ai}(h:v∈l):v.2.1.length≤(an l).length:=by obtain⟨a,b,rfl⟩:=ady h;rw[qP,lk];simp;omega
theorem Wf.sd{d:ak}(h:Wf d):∀v∈d.1,v.2.1.length≤80:=fun v hv=>by have h1:=Zt hv;have h2:=h.pd.length_eq;have h3:=h.ne;rw[BR]at h2;omega
theorem Wf.sm{d:ak}(h:Wf d):Sm d:=⟨by have:=h.nv;omega,by have:=h.ne;omega,fun v hv=>by have:=h.sd v hv;omega⟩
theorem Wf.small{d:ak}(h:Wf d):Sv d.1:=⟨by have:=h.nv;omega,fun v hv=>by have:=h.sd v hv;omega⟩
theorem SV(s:StateT)(o:aE):iE (sJ (aV s) (ar o,([],(e0,0)))).1 (sJ (aV s) (ar o,([],(e0,0)))).2=mh s o:=by
 by_cases hh:(aO s.1.1 (ar o)).isSome=true
 ·have a:sJ (aV s) (ar o,([],(e0,0)))=(12,aV s):=if_pos hh;have b:mh s o=(zS,(12,())):=if_pos hh;rw[a,b];rfl
 by_cases h:24≤s.1.1.length
 ·have a:sJ (aV s) (ar o,([],(e0,0)))=(3,aV s):=(if_neg hh).trans (if_pos h);have b:mh s o=(zS,(3,())):=(if_neg hh).trans (if_pos h);rw[a,b];rfl
 ·have a:sJ (aV s) (ar o,([],(e0,0)))=(0,(cx (ar o,([],(e0,0))) (aV s).1,(aV s).2)):=(if_neg hh).trans (if_neg h);have b:mh s o=(((cx (ar o,([],(e0,0))) s.1.1,s.1.2),s.2),(0,())):=(if_neg hh).trans (if_neg h);rw[a,b];rfl
theorem SW{s:StateT}(h:cS s)(o:aE):iE (HJ (aV s) (ar o)).1 (HJ (aV s) (ar o)).2=qL s o:=by
 unfold HJ qL aG;show iE (match aO s.1.1 (ar o) with|none=>(13,aV s)|some v=>if 0<v.2.1.length then(14,aV s) else(0,(bF s.1.1 (ar o),(s.1.2,(s.2,())))):Int×ba).1 (match aO s.1.1 (ar o) with|none=>(13,aV s)|some v=>if 0<v.2.1.length then(14,aV s) else(0,(bF s.1.1 (ar o),(s.1.2,(s.2,())))):Int×ba).2=_
 cases aO s.1.1 (ar o) with
 |none=>rfl
 |some v =>
  simp only;by_cases hl:0<v.2.1.length
  ·rw[if_pos hl,if_pos hl];rfl
  ·rw[if_neg hl,if_neg hl];unfold aH;rw[kH h.d.ge];rfl
def Qu(s:StateT)(o:aE):StateT×(Int×Unit) :=if o.1=1 then mh s o else if o.1=2 then qL s o else if o.1=3 then kP s o else if o.1=4 then w8 s o else if o.1=5 then jg s o else if o.1=6 then fX s o else qK s o
theorem HX(s:StateT)(o:aE):bP s o=if bg o≠0 then(zS,(bg o,())) else Qu s o:=rfl
theorem Ml(hG:HG G)(s:StateT)(o:aE)(h:cS s)(hm:bg o=0)(h3:o.1=3→∃(e:Int) (w:ba),FX G 154 qC ((o,()),(aV s,()))=some ((e,()),(w,()))∧iE e w=kP s o) :
  ∃(e:Int) (w:ba),FX G 131 D7 ((o,()),(aV s,()))=some ((e,()),(w,()))∧iE e w=Qu s o:=by
 have hk:=jw hm;have WL:=h.d.small;have Rj:=h.d.nv;have bp:=h.d.ne;have start:∀(e:Int) (w:ba),cf 131 D7 Tryz.f131 (FX G) (LX G 131 D7 Tryz.f131) ((o,()),(aV s,()))=some ((e,()),(w,()))→FX G 131 D7 ((o,()),(aV s,()))=some ((e,()),(w,())):=fun e w a =>aC (hG _ _ rfl) a rfl;unfold Qu;by_cases h1:o.1=1
 ·rw[if_pos h1];refine⟨_,_,start _ _ ((N3).trans (ae (Kc h1) (aa (acw hG (aV s) (ar o,([],(e0,0))) h.d.sv WL.n) rfl))),?_⟩;exact SV s o
 rw[if_neg h1];by_cases h2:o.1=2
 ·rw[if_pos h2];refine⟨_,_,start _ _ ((N3).trans (ah (BQ h1) (ae (Kc h2) (aa (amu hG (aV s) o h.d.sv WL.n) rfl)))),?_⟩;exact SW h o
 rw[if_neg h2];by_cases TM:o.1=3
 ·rw[if_pos TM];obtain⟨e,w,a,b⟩:=h3 TM;exact⟨e,w,start _ _ ((N3).trans (ah (BQ h1) (ah (BQ h2) (ae (Kc TM) (aa a rfl))))),b⟩
 rw[if_neg TM];by_cases hk4:o.1=4
 ·rw[if_pos hk4];obtain⟨e,w,a,b⟩:=amE hG s o h WL;exact⟨e,w,start _ _ ((N3).trans (ah (BQ h1) (ah (BQ h2) (ah (BQ TM) (ae (Kc hk4) (aa a rfl)))))),b⟩
 rw[if_neg hk4];by_cases Zp:o.1=5
 ·rw[if_pos Zp];obtain⟨e,w,a,b⟩:=amH hG s o h WL hm Zp;exact⟨e,w,start _ _ ((N3).trans (ah (BQ h1) (ah (BQ h2) (ah (BQ TM) (ah (BQ hk4) (ae (Kc Zp) (aa a rfl))))))),b⟩
 rw[if_neg Zp];by_cases hk6:o.1=6
 ·rw[if_pos hk6];obtain⟨e,w,a,b⟩:=amN hG s o h WL;exact⟨e,w,start _ _ ((N3).trans (ah (BQ h1) (ah (BQ h2) (ah (BQ TM) (ah (BQ hk4) (ah (BQ Zp) (ae (Kc hk6) (aa a rfl)))))))),b⟩
 rw[if_neg hk6];refine⟨_,_,WJ hG (aV s) o (by omega) h.d.sv h.d.se WL.n (by show s.1.2.length≤_;omega),?_⟩;exact SQ s o
theorem Fs(hG:HG G)(s:StateT)(o:aE)(h:cS s)(hf:Fit o)(h3:bg o=0→o.1=3→∃(e:Int) (w:ba),FX G 154 qC ((o,()),(aV s,()))=some ((e,()),(w,()))∧iE e w=kP s o) :
  FX G 73 K2 ((s,o,()),())=some (bP s o,()):=by
 rw[HX];have hn:=h.n;by_cases hm:bg o=0
 ·obtain⟨e,w,a,b⟩:=Ml hG s o h hm (h3 hm);refine(Zl hG s o (acx hG o hf) h.d.sm (by omega) (fun _=>a)).trans ?_;rw[hm,if_neg (by simp),b];rfl
 ·rw[if_pos hm];refine aC (hG _ _ rfl) aeN ?_;refine aa (acx hG o hf) ?_;exact ae (by simpa using hm) rfl
def fP(G:(f:FuncId)→(g:aX)→Option (g.A→Option g.B))(o:aE):Prop:=∀s,cS s→bg o=0→o.1=3→∃(e:Int) (w:ba),FX G 154 qC ((o,()),(aV s,()))=some ((e,()),(w,()))∧iE e w=kP s o
theorem WM{s:StateT}{o:aE}(hm:bg o=0):Qu s o=bP s o:=by rw[HX,if_neg (by simp[hm])]
theorem amS(hG:HG G)(l:List aE)(hl:l.length≤1073741824)(hm:∀o∈l,bg o=0)(h3:∀o∈l,fP G o):∀(n i:Nat) (s:StateT),i+n=l.length→cS s → LX G 103 GD Tryz.f103 Ez (aY Tryz.prog 103 0) ((l,(((l.length:Nat):Int),((i:Int),()))),((zW,(aV s,())),()))=some (ji (l.drop i) s,()):=by
 intro n
 induction n with
 |zero =>intro i s hi hw;refine aB Jd ?_;refine ah (decide_eq_false (show ¬((i:Int)<((l.length:Nat):Int)) by omega)) ?_;rw[List.drop_eq_nil_of_le (by omega)];rfl
 |succ n ih =>
  intro i s hi hw;have aK:i<l.length:=by omega
  have ho:=hm l[i] (acB aK);obtain⟨e,w,h1,h2⟩:=Ml hG s l[i] hw ho (h3 _ (acB aK) s hw ho);rw[WM ho]at h2;refine aB Jd ?_;refine ae (bj aK) (aa (aT (aba aK)) ?_);refine aa h1 ?_;rw[List.drop_eq_getElem_cons aK,ji];have tp:=hw.one l[i];by_cases he:e=0
  ·have e1:iE e w=(CN w,(0,())):=if_neg (by simp[he]);rw[e1]at h2;rw[←h2]at tp ⊢;rw[if_neg (by simp)];refine ah (show(e != 0)=false by simp[he]) ?_;have:=ih (i+1) (CN w) (by omega) tp;rw[←aN aK hl]at this;exact this
  ·have e1:iE e w=(zS,(e,())):=if_pos he;rw[e1]at h2;rw[←h2,if_pos he];exact ae (show(e != 0)=true by simp[he]) rfl
theorem acC(hG:HG G)(s:StateT)(l:List aE)(hw:cS s)(hl:l.length≤1073741824)(hm:∀o∈l,bg o=0)(h3:∀o∈l,fP G o):FX G 103 GD ((s,l,()),())=some (ji l s,()):=by have hn:=hw.n;refine aC (hG _ _ rfl) aeO ?_;refine aa (Zk hG s.1 hw.d.sm) ?_;refine aa (Wr (hG _ _ rfl) s.2 (by omega)) ?_;have:=amS hG l hl hm h3 l.length 0 s (by omega) hw;rw[List.drop_zero]at this;exact this
theorem Mm(l:List aE)(h:mf l=0):∀o∈l,bg o=0:=by
 induction l with
 |nil=>intro o ho;simp at ho
 |cons o r ih =>
  rw[mf]at h;by_cases ho:bg o=0
  ·rw[if_neg (fun k=>k ho)]at h;intro p hp;rcases abn.1 hp with e|hp
   ·rw[e];exact ho
   ·exact ih h p hp
  ·rw[if_pos ho]at h;exact absurd h ho
theorem OE{l:List aE}(h:fh l=0):∀o∈l,bg o=0:=by
 unfold fh at h
 split at h
 ·exact Mm l h
 ·cases h
theorem acD(hG:HG G)(s:StateT)(l:List aE)(hw:cS s)(hl:l.length≤1073741824)(hf:∀o∈l,Fit o)(h3:∀o∈l,fP G o):FX G 63 K5 ((s,l,()),())=some (bC s l,()):=by
 refine aC (hG _ _ rfl) akF ?_;refine aa (amA hG l hl hf) ?_;unfold bC;by_cases hm:fh l=0
 ·rw[if_neg (by simp[hm])];refine ah (show(fh l != 0)=false by simp[hm]) ?_;exact aa (acC hG s l hw hl (OE hm) h3) rfl
 ·rw[if_pos hm];exact ae (show(fh l != 0)=true by simp[hm]) rfl
theorem agY(hG:HG G)(s:StateT)(l:List aE)(hw:cS s)(hl:l.length≤1073741824)(hf:∀o∈l,Fit o)(h3:∀o∈l,fP G o):FX G 102 B6 ((s,l,()),())=some ((iM s l,()),()):=by
 have hn:=hw.n;refine aC (hG _ _ rfl) akJ ?_;refine aa (acD hG s l hw hl hf h3) ?_;unfold iM;by_cases he:(bC s l).2.1=0
 ·rw[if_neg (by simp[he])];exact ah (show((bC s l).2.1 != 0)=false by simp[he]) rfl
 ·rw[if_pos he];refine ae (show((bC s l).2.1 != 0)=true by simp[he]) ?_;refine aa (Zk hG s.1 hw.d.sm) ?_;exact aa (Wr (hG _ _ rfl) s.2 (by omega)) rfl
end Go.Vs
