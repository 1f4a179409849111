/- What the program computes at -/
import Derived.Test.YtpkfpbpbkabkdaaGreatRefB
set_option linter.unusedVariables false
set_option linter.unusedSimpArgs false
namespace Go.Vs
open Go.Proofs
variable {G:(f:FuncId)→(g:aL)→Option (g.A→Option g.B)}
theorem Ni(hG:G 159 qz=none)(x:ID):FX G 159 qz ((x,()),())=some ((cW x,()),()):=by refine aq hG afJ ?_;obtain⟨a,b⟩:=x;show(cond (decide (a≥1)) (cond (decide (a≤8)) (cond (decide (b≥1)) (some ((decide (b≤1048576),()),())) (some ((false,()),()))) (some ((false,()),()))) (some ((false,()),())):Option ((Bool×Unit)×Unit))=some ((cW (a,b),()),());unfold cW;simp only[cond_eq_ite];by_cases h1:(1:Int)≤a<;>by_cases h2:a≤8<;>by_cases h3:(1:Int)≤b<;>simp[h1,h2,h3]
theorem VA(hG:G 235 AS=none)(n:Int):FX G 235 AS ((n,()),())=some ((false,()),()):=by refine aq hG aal ?_;exact congrArg (fun b:Bool=>some ((b,()),())) (show(n != n)=false by simp)
def J5(a b:Int):Int:=if a<b then -1 else if a>b then 1 else 0
theorem QW(hG:HG G)(a b:Int):FX G 219 AQ ((a,b,()),())=some ((J5 a b,()),()):=by
 refine aq (hG _ _ rfl) aaf ?_;refine aa (VA (hG _ _ rfl) a) ?_;refine aa (VA (hG _ _ rfl) b) ?_;refine af rfl (af rfl ?_);unfold J5;by_cases h1:a<b
 ·rw[if_pos h1];exact ae (decide_eq_true h1) rfl
 rw[if_neg h1];refine af (decide_eq_false h1) ?_;by_cases h2:a>b
 ·rw[if_pos h2];exact ae (decide_eq_true h2) rfl
 rw[if_neg h2];exact af (decide_eq_false h2) rfl
theorem VB(hG:G 218 uJ=none)(a b:Int):FX G 218 uJ (([a,b],()),())=some ((if a≠0 then a else b,()),()):=by
 refine aq hG aae ?_;by_cases ha:a=0
 ·rw[if_neg (by simp[ha])];refine au yW ?_;refine ae rfl (aa (a:=a) rfl ?_);refine af (show(a != 0)=false by simp[ha]) ?_;refine au yW ?_;refine ae rfl (aa (a:=b) rfl ?_);by_cases hb:b=0
  ·refine af (show(b != 0)=false by simp[hb]) ?_;refine au yW ?_;rw[hb];exact af rfl rfl
  ·exact ae (show(b != 0)=true by simp[hb]) rfl
 ·rw[if_pos ha];refine au yW ?_;refine ae rfl (aa (a:=a) rfl ?_);exact ae (show(a != 0)=true by simp[ha]) rfl
theorem QX(hG:HG G)(a b:ID):FX G 208 AP ((a,b,()),())=some ((qH a b,()),()):=by
 refine aq (hG _ _ rfl) ZS ?_;unfold qH;by_cases h:a=b
 ·rw[if_pos h];exact ae ((jk a b).trans (decide_eq_true h)) rfl
 rw[if_neg h];refine af ((jk a b).trans (decide_eq_false h)) ?_;refine aa (QW hG a.1 b.1) ?_;refine aa (QW hG a.2 b.2) ?_;refine aa (VB (hG _ _ rfl) (J5 a.1 b.1) (J5 a.2 b.2)) ?_;refine congrArg (fun n:Int=>some ((n,()),())) ?_;obtain⟨a1,a2⟩:=a;obtain⟨b1,b2⟩:=b;unfold J5 fL;simp only[Prod.mk.injEq,not_and]at h;simp only;by_cases h1:a1<b1
 ·simp[h1]
 ·by_cases h2:a1>b1
  ·have:¬a1=b1:=by omega
   simp[h1,h2,this]
  ·have h3:a1=b1:=by omega
   have h4:=h h3;subst h3;by_cases h5:a2<b2
   ·simp[h5]
   ·have:a2>b2:=by omega
    simp[h5,this]
theorem VC(hG:HG G)(v:ag)(x:ID):FX G 207 Dq ((v,x,()),())=some ((qH v.1 x,()),()):=by refine aq (hG _ _ rfl) ZR ?_;exact aa (QX hG v.1 x) rfl
theorem J6{i j:Nat}(hi:i≤1000000000)(hj:j≤1000000000):IntKind.wrap .i64 (kJ .u64 (IntKind.wrap .u64 (IntKind.wrap .i64 ((i:Int)+(j:Int)))) (1:Int))=(((i+j) / 2:Nat):Int):=by
 have e1:IntKind.wrap .i64 ((i:Int)+(j:Int))=((i+j:Nat):Int):=by rw[wrap_small (by omega) (by omega)];rfl
 have e2:IntKind.wrap .u64 ((i+j:Nat):Int)=((i+j:Nat):Int):=by unfold IntKind.wrap;simp[IntKind.bits,IntKind.signed];omega
 have e3:kJ .u64 ((i+j:Nat):Int) 1=(((i+j) / 2:Nat):Int):=by
  unfold kJ;have:(min (Int.toNat 1) IntKind.u64.bits)=1:=by decide
  rw[this,Int.fdiv_eq_ediv_of_nonneg _ (by omega)];rfl
 rw[e1,e2,e3,wrap_small (by omega) (by omega)]
def bD(l:List ag)(x:ID):Nat:=l.countP fun v=>fL v.1 x
def bY(l:List ag):Prop:=l.Pairwise fun a b=>fL a.1 b.1=true
theorem iA{a b c:ID}(h:fL a b=true)(k:fL b c=true):fL a c=true:=by simp[fL]at *;omega
theorem k9{a b:ID}(h:fL a b=true):fL b a=false:=by simp[fL]at *;omega
theorem la{a b:ID}(h:fL a b=false)(k:a≠b):fL b a=true:=by obtain⟨a1,a2⟩:=a;obtain⟨b1,b2⟩:=b;simp[fL]at *;omega
theorem Fk(l:List ag)(x:ID):bD l x≤l.length:=adI
theorem rH{l:List ag}{x:ID}(h:∀v∈l,fL v.1 x=false):bD l x=0:=by unfold bD;rw[List.countP_eq_zero];intro v hv;simp[h v hv]
theorem wK{x:ID}:∀{l:List ag},bY l→∀(k:Nat) (v:ag),l[k]? = some v→(fL v.1 x=true↔k<bD l x)
 |[],_,k,v,h=>by simp at h
 |w::r,hs,k,v,h=>by
  have hw:∀{u:ag},u∈r→fL w.1 u.1=true:=fun {u} hu=>adn hs hu;have hr:bY r:=hs.of_cons;by_cases aF:fL w.1 x=true
  ·have e:bD (w::r) x=bD r x+1:=by unfold bD;rw[List.countP_cons_of_pos (by simpa using aF)]
   cases k with
   |zero=>simp at h;subst h;simp[aF,e]
   |succ k=>have:=wK (x:=x) hr k v (by simpa using h);rw[this,e];omega
  ·have hn:∀u∈w::r,fL u.1 x=false:=fun u hu=>by
    rcases acn.1 hu with rfl|hu
    ·simpa using aF
    ·rw[Bool.eq_false_iff];intro h2;exact aF (iA (hw hu) h2)
   rw[rH hn,hn v (List.mem_of_getElem? h)];simp
theorem QY(hG:HG G)(l:List ag)(x:ID)(hs:bY l)(hl:l.length≤50000000):∀(n i j:Nat),j-i≤n→i≤bD l x→bD l x≤j→j≤l.length → LX G 208206 iV Tryz.f206 ic (aN Tryz.prog 206 0) ((l,(((l.length:Nat):Int),((i:Int),((j:Int),())))),(((x,()),()),()))=some (((((bD l x:Nat):Int),(decide ((l[bD l x]?).map (·.1)=some x),())):Int×(Bool×Unit)),()):=by
 have rU:=Fk l x;have fin:∀(i j:Nat),¬(i<j)→i≤bD l x→bD l x≤j→LX G 208206 iV Tryz.f206 ic (aN Tryz.prog 206 0) ((l,(((l.length:Nat):Int),((i:Int),((j:Int),())))),(((x,()),()),()))=some (((((bD l x:Nat):Int),(decide ((l[bD l x]?).map (·.1)=some x),())):Int×(Bool×Unit)),()):=fun i j zZ h1 h2=>by
  have hi:i=bD l x:=by omega
  subst hi;refine au Bk ?_;refine af (decide_eq_false (show ¬(((bD l x:Nat):Int)<(j:Int)) by omega)) ?_;by_cases hc:bD l x<l.length
  ·have hx:l[bD l x]? = some l[bD l x]:=aci hc;refine ae (aX hc) ?_;refine aa (aJ hx) ?_;refine aa (VC hG l[bD l x] x) ?_;refine congrArg (fun b:Bool=>some ((((bD l x:Nat):Int),(b,())),())) ?_;rw[hx];unfold qH;by_cases he:l[bD l x].1=x
   ·simp[he]
   ·simp[he];split<;>simp
  ·refine af (decide_eq_false (show ¬(((bD l x:Nat):Int)<((l.length:Nat):Int)) by omega)) ?_;refine congrArg (fun b:Bool=>some ((((bD l x:Nat):Int),(b,())),())) ?_;rw[List.getElem?_eq_none (by omega)];simp
 intro n
 induction n with
 |zero=>intro i j zZ h1 h2 h3;exact fin i j (by omega) h1 h2
 |succ n ih =>
  intro i j zZ h1 h2 h3;by_cases aF:i<j
  case neg=>exact fin i j aF h1 h2
  refine au Bk ?_;refine ae (decide_eq_true (show((i:Int)<(j:Int)) by omega)) ?_;refine af rfl ?_;have hm:=J6 (i:=i) (j:=j) (by omega) (by omega);have hh:(i+j) / 2<l.length:=by omega
  have hx:l[(i+j) / 2]? = some l[(i+j) / 2]:=aci hh;have nE:=wK (x:=x) hs ((i+j) / 2) _ hx;refine aa (show aT l (IntKind.wrap .i64 (kJ .u64 (IntKind.wrap .u64 (IntKind.wrap .i64 ((i:Int)+(j:Int)))) (1:Int)))=some l[(i+j) / 2] by rw[hm];exact aJ hx) ?_;refine aa (VC hG l[(i+j) / 2] x) ?_;by_cases ho:fL l[(i+j) / 2].1 x=true
  ·refine ae (decide_eq_true ((mA _ _).2 ho)) ?_;have hc:=nE.1 ho;have hw:IntKind.wrap .i64 (IntKind.wrap .i64 (kJ .u64 (IntKind.wrap .u64 (IntKind.wrap .i64 ((i:Int)+(j:Int)))) (1:Int))+1)=(((i+j) / 2+1:Nat):Int):=by rw[hm];exact aG hh (by omega)
   have:=ih ((i+j) / 2+1) j (by omega) (by omega) h2 h3;rw[←hw]at this;exact this
  ·refine af (decide_eq_false (fun h=>ho ((mA _ _).1 h))) ?_;have hc:¬(i+j) / 2<bD l x:=fun h=>ho (nE.2 h);have:=ih i ((i+j) / 2) (by omega) h1 (by omega) (by omega);rw[←hm]at this;exact this
theorem QZ(hG:HG G)(l:List ag)(x:ID)(hs:bY l)(hl:l.length≤50000000) :
  FX G 208206 iV ((l,x,()),())=some (((((bD l x:Nat):Int),(decide ((l[bD l x]?).map (·.1)=some x),())):Int×(Bool×Unit)),()):=by
 refine aq (hG _ _ rfl) Qx ?_;exact QY hG l x hs hl l.length 0 l.length (by omega) (by omega) (Fk l x) (adg _)
theorem pH(hG:HG G)(w:aQ)(x:ID)(hs:bY w.1)(hl:w.1.length≤50000000) :
  FX G 175 pw ((x,()),(w,()))=some (((((bD w.1 x:Nat):Int),(decide ((w.1[bD w.1 x]?).map (·.1)=some x),())):Int×(Bool×Unit)),(w,())):=by
 refine aq (hG _ _ rfl) ZD ?_;exact aa (QZ hG w.1 x hs hl) rfl
theorem rI{x:ID}:∀{l:List ag},bY l→aR l x=(l[bD l x]?).filter fun v=>decide (v.1=x)
 |[],_=>rfl
 |w::r,hs=>by
  have hw:∀{u:ag},u∈r→fL w.1 u.1=true:=fun {u} hu=>adn hs hu;have hr:bY r:=hs.of_cons;by_cases aF:fL w.1 x=true
  ·have e:bD (w::r) x=bD r x+1:=by unfold bD;rw[List.countP_cons_of_pos (by simpa using aF)]
   have bq:¬w.1=x:=fun e=>by rw[e,b7]at aF;cases aF
   rw[e];simp only[aR,List.find?_cons,bq,decide_false,List.getElem?_cons_succ];exact rI hr
  ·have hn:∀u∈w::r,fL u.1 x=false:=fun u hu=>by
    rcases acn.1 hu with rfl|hu
    ·simpa using aF
    ·rw[Bool.eq_false_iff];intro h2;exact aF (iA (hw hu) h2)
   rw[rH hn];by_cases he:w.1=x
   ·simp[aR,List.find?_cons,he,Option.filter]
   ·have IU:fL x w.1=true:=la (by simpa using aF) he;have:aR r x=none:=by
     unfold aR;rw[List.find?_eq_none];intro u hu h2;have h3:u.1=x:=by simpa using h2
     have h4:=hw hu;rw[h3]at h4;have:=k9 h4;rw[IU]at this;cases this
    rw[show aR (w::r) x=aR r x by simp only[aR,List.find?_cons,he,decide_false],this];simp[he,Option.filter]
theorem fw{l:List ag}{x:ID}(hs:bY l):decide ((l[bD l x]?).map (·.1)=some x)=(aR l x).isSome:=by
 rw[rI hs]
 cases h:l[bD l x]? with
 |none=>simp
 |some v=>by_cases he:v.1=x<;>simp[he,Option.filter]
theorem HR(v:ag):∀{l:List ag},bY l→aR l v.1=none→dW v l=l.take (bD l v.1)++(v::l.drop (bD l v.1))
 |[],_,_=>rfl
 |w::r,hs,hf=>by
  have hw:∀{u:ag},u∈r→fL w.1 u.1=true:=fun {u} hu=>adn hs hu;have hr:bY r:=hs.of_cons;have bq:¬w.1=v.1:=fun e=>by simp[aR,e]at hf
  have CG:aR r v.1=none:=by simpa[aR,List.find?_cons,bq] using hf
  by_cases aF:fL w.1 v.1=true
  ·have e:bD (w::r) v.1=bD r v.1+1:=by unfold bD;rw[List.countP_cons_of_pos (by simpa using aF)]
   have U5:fL v.1 w.1=false:=k9 aF;rw[e,dW,if_neg (by simp[U5]),HR v hr CG];rfl
  ·have hn:∀u∈w::r,fL u.1 v.1=false:=fun u hu=>by
    rcases acn.1 hu with rfl|hu
    ·simpa using aF
    ·rw[Bool.eq_false_iff];intro h2;exact aF (iA (hw hu) h2)
   have IU:fL v.1 w.1=true:=la (by simpa using aF) bq;rw[rH hn,dW,if_pos IU];rfl
theorem wL{x:ID}:∀{l:List ag},bY l→(aR l x).isSome=true→dv l x=l.take (bD l x)++l.drop (bD l x+1)
 |[],_,hf=>by simp[aR]at hf
 |w::r,hs,hf=>by
  have hw:∀{u:ag},u∈r→fL w.1 u.1=true:=fun {u} hu=>adn hs hu;have hr:bY r:=hs.of_cons;by_cases he:w.1=x
  ·have hn:∀u∈w::r,fL u.1 x=false:=fun u hu=>by
    rcases acn.1 hu with rfl|hu
    ·rw[he,b7]
    ·rw[←he];exact k9 (hw hu)
   have fe:dv r x=r:=by unfold dv;rw[List.filter_eq_self];intro u hu;have h4:=hw hu;simp;intro e2;rw[he,e2,b7]at h4;cases h4
   rw[rH hn];unfold dv;rw[List.filter_cons_of_neg (by simp[he])];exact fe
  ·have CG:(aR r x).isSome=true:=by simpa[aR,List.find?_cons,he] using hf
   have aF:fL w.1 x=true:=by
    obtain⟨u,hu⟩:=adi.1 CG;have h1:=adt hu;have h2:u.1=x:=by simpa using adC hu
    rw[←h2];exact hw h1
   have e:bD (w::r) x=bD r x+1:=by unfold bD;rw[List.countP_cons_of_pos (by simpa using aF)]
   rw[e];have:=wL hr CG;simp[dv,List.filter_cons,he]at this ⊢;exact this
theorem nQ(v:ag):∀{l:List ag},bY l→aR l v.1=none→bY (dW v l)
 |[],_,_=>List.pairwise_singleton _ _
 |w::r,hs,hf=>by
  have hw:∀{u:ag},u∈r→fL w.1 u.1=true:=fun {u} hu=>adn hs hu;have hr:bY r:=hs.of_cons;have bq:¬w.1=v.1:=fun e=>by simp[aR,e]at hf
  have CG:aR r v.1=none:=by simpa[aR,List.find?_cons,bq] using hf
  unfold dW
  split
  ·rename_i h;refine List.Pairwise.cons (fun u hu=>?_) hs;rcases acn.1 hu with rfl|hu
   ·exact h
   ·exact iA h (hw hu)
  ·rename_i h;have aF:fL w.1 v.1=true:=la (by simpa using h) (fun e=>bq e.symm);refine List.Pairwise.cons (fun u hu=>?_) (nQ v hr CG);rcases lU.1 hu with rfl|hu
   ·exact aF
   ·exact hw hu
theorem oU{l:List ag}{x:ID}(hs:bY l):bY (dv l x):=hs.filter _
theorem agL(hG:G 127 MX=none)(l:List ag)(hl:l.length≤50000000):FX G 127 MX ((l,()),())=some ((l,()),()):=by
 refine aq hG afF ?_
 cases l with
 |nil=>exact ae rfl (kM (by omega) fun j hj=>by cases j<;>rfl)
 |cons x r=>exact af rfl (ae (fits (by simp at hl ⊢;omega)) rfl)
theorem agM(hG:G 128 MY=none)(l:List ah)(hl:l.length≤50000000):FX G 128 MY ((l,()),())=some ((l,()),()):=by
 refine aq hG afG ?_
 cases l with
 |nil=>exact ae rfl (kM (by omega) fun j hj=>by cases j<;>rfl)
 |cons x r=>exact af rfl (ae (fits (by simp at hl ⊢;omega)) rfl)
theorem Xo(hG:G 110 yq=none)(l:List ab)(hl:l.length≤50000000):FX G 110 yq ((l,()),())=some ((l,()),()):=by
 refine aq hG afH ?_
 cases l with
 |nil=>exact ae rfl (kM (by omega) fun j hj=>by cases j<;>rfl)
 |cons x r=>exact af rfl (ae (fits (by simp at hl ⊢;omega)) rfl)
theorem Xp(hG:G 97 GU=none)(l:List aw)(hl:l.length≤50000000):FX G 97 GU ((l,()),())=some ((l,()),()):=by
 refine aq hG afp ?_
 cases l with
 |nil=>exact ae rfl (kM (by omega) fun j hj=>by cases j<;>rfl)
 |cons x r=>exact af rfl (ae (fits (by simp at hl ⊢;omega)) rfl)
theorem Ra{α:Type}{l:List α}{i:Nat}{x:α}(h:l[i]? = some x):l.set i x=l:=by obtain⟨hi,he⟩:=ack.1 h;subst he;simp
theorem abz(hG:HG G)(d:aj)(hs:Sm d):FX G 96 ET ((d,()),())=some (((d.1,(d.2,())),()),()):=by
 have hv:=hs.v;have he:=hs.e;refine aq (hG _ _ rfl) afo ?_;refine aa (agL (hG _ _ rfl) d.1 (by omega)) ?_;refine aa (agM (hG _ _ rfl) d.2 (by omega)) ?_;have loop:∀(n i:Nat) (out:List ag),i+n=d.1.length→out=d.1→LX G 96 ET Tryz.f96 Bh (aN Tryz.prog 96 0) ((((d.1.length:Nat):Int),((i:Int),())),(((([]:List ag),(([]:List ah),())),((out,(d.2,())),())),()))=some (((d.1,(d.2,())),()),()):=by
  intro n
  induction n with
  |zero =>intro i out hi ho;subst ho;refine au Qn ?_;exact af (decide_eq_false (show ¬((i:Int)<((d.1.length:Nat):Int)) by omega)) rfl
  |succ n ih =>
   intro i out hi ho;have mO:=ho;subst ho;refine au Qn ?_;have aF:i<d.1.length:=by omega
   have hx:d.1[i]? = some d.1[i]:=aci aF;refine ae (aX aF) ?_;refine ae (db (eQ i) (aX aF)) ?_;refine aa hx ?_;refine aa (Xo (hG _ _ rfl) d.1[i].2.1 (hs.r _ (adr aF))) ?_;refine ae (db (eQ i) (aX aF)) ?_;refine aa hx ?_;rw[wI,aG aF (show d.1.length≤1073741824 by omega)];exact ih (i+1) (d.1.set i d.1[i]) (by omega) (Ra hx)
 exact loop d.1.length 0 d.1 (by omega) rfl
def pI(w:aQ)(v:ag):Int×aQ :=if(aR w.1 v.1).isSome=true then(12,w) else if 24≤w.1.length then(3,w) else(0,(dW v w.1,w.2))
def DM(w:aQ)(x:ID):Int×aQ:=match aR w.1 x with
 |none=>(13,w)
 |some v=>if 0<v.2.1.length then(14,w) else(0,(dv w.1 x,w.2))
theorem Xq(hG:HG G)(w:aQ)(v:ag)(hs:bY w.1)(hl:w.1.length≤50000000):FX G 152 G1 ((v,()),(w,()))=some (((pI w v).1,()),((pI w v).2,())):=by
 refine aq (hG _ _ rfl) afN ?_;refine aa (pH hG w v.1 hs hl) ?_;unfold pI
 cases hf:(aR w.1 v.1).isSome
 ·rw[if_neg (by simp)];refine af ((fw hs).trans hf) ?_;by_cases h2:24≤w.1.length
  ·rw[if_pos h2];exact ae (decide_eq_true (show((w.1.length:Nat):Int)≥24 by omega)) rfl
  ·rw[if_neg h2];refine af (decide_eq_false (show ¬((w.1.length:Nat):Int)≥24 by omega)) ?_;have hc:=Fk w.1 v.1;have lu:p6 w.1 ((bD w.1 v.1:Nat):Int) [v]=true:=by unfold p6;rw[decide_eq_true (show(0:Int)≤((bD w.1 v.1:Nat):Int) by omega),decide_eq_true (show((bD w.1 v.1:Nat):Int)≤((w.1.length:Nat):Int) by omega)];rw[fits (by simp;omega)];rfl
   refine ae lu ?_;have e:fO w.1 ((bD w.1 v.1:Nat):Int) [v]=dW v w.1:=by rw[HR v hs (by simpa using hf)];unfold fO;simp
   exact congrArg (fun l:List ag=>some (((0:Int),()),((l,w.2),()))) e
 ·rw[if_pos rfl];exact ae ((fw hs).trans hf) rfl
theorem agN(hG:HG G)(w:aQ)(o:aY)(hs:bY w.1)(hl:w.1.length≤50000000):FX G 153 PM ((o,()),(w,()))=some (((DM w (aW o)).1,()),((DM w (aW o)).2,())):=by
 refine aq (hG _ _ rfl) afO ?_;refine aa (pH hG w (aW o) hs hl) ?_;unfold DM;have hth:=fw (x:=aW o) hs;have kg:=rI (x:=aW o) hs
 cases hf:aR w.1 (aW o) with
 |none =>rw[hf]at hth;refine ae (show(!(decide ((w.1[bD w.1 (aW o)]?).map (·.1)=some (aW o))))=true by rw[hth];rfl) rfl
 |some v =>
  rw[hf]at hth kg;refine af (show(!(decide ((w.1[bD w.1 (aW o)]?).map (·.1)=some (aW o))))=false by rw[hth];rfl) ?_;have hx:w.1[bD w.1 (aW o)]? = some v:=by
   cases hg:w.1[bD w.1 (aW o)]? with
   |none=>rw[hg]at kg;simp[Option.filter]at kg
   |some u =>
    rw[hg]at kg;simp only[Option.filter]at kg
    split at kg
    ·exact kg.symm
    ·cases kg
  have aF:=(ack.1 hx).1;refine ae (db (eQ _) (aX aF)) ?_;refine aa hx ?_;show _=some ((((if 0<v.2.1.length then(14,w) else(0,(dv w.1 (aW o),w.2)):Int×aQ).1,()),((if 0<v.2.1.length then(14,w) else(0,(dv w.1 (aW o),w.2)):Int×aQ).2,())):(Int×Unit)×(aQ×Unit));by_cases h2:0<v.2.1.length
  ·rw[if_pos h2];exact ae (decide_eq_true (show((v.2.1.length:Nat):Int)>0 by omega)) rfl
  ·rw[if_neg h2];refine af (decide_eq_false (show ¬((v.2.1.length:Nat):Int)>0 by omega)) ?_;have hw:IntKind.wrap .i64 (((bD w.1 (aW o):Nat):Int)+1)=((bD w.1 (aW o)+1:Nat):Int):=aG aF (by omega);have lu:jl w.1 ((bD w.1 (aW o):Nat):Int) (IntKind.wrap .i64 (((bD w.1 (aW o):Nat):Int)+1))=true:=by rw[hw];unfold jl;rw[decide_eq_true (show(0:Int)≤((bD w.1 (aW o):Nat):Int) by omega),decide_eq_true (show((bD w.1 (aW o):Nat):Int)<((bD w.1 (aW o)+1:Nat):Int) by omega),decide_eq_true (show((bD w.1 (aW o)+1:Nat):Int)≤((w.1.length:Nat):Int) by omega),fits (by omega)];rfl
   refine ae lu ?_;have e:dm w.1 ((bD w.1 (aW o):Nat):Int) (IntKind.wrap .i64 (((bD w.1 (aW o):Nat):Int)+1))=dv w.1 (aW o):=by rw[hw,wL hs (by rw[hf];rfl)];unfold dm;simp only[Int.toNat_natCast]
   exact congrArg (fun l:List ag=>some (((0:Int),()),((l,w.2),()))) e
def zW:aQ:=([],([],([],())))
def aI(s:StateT):aQ:=(s.1.1,(s.1.2,(s.2,())))
def ze(w:aQ):StateT:=((w.1,w.2.1),w.2.2.1)
def jf(e:Int)(w:aQ):StateT×(Int×Unit):=if e≠0 then(zS,(e,())) else(ze w,(0,()))
def FL(k:Int)(x:ID):aY:=(k,(x,(zI,(zI,(zC,(zC,(false,(e0,0))))))))
def ajd(x:ID):Int:=if cW x=true then 0 else 1
def shS:StateT:=(([((1,1),([],(e0,0)))],[]),[])
end Go.Vs
namespace Go.Vs
open Go.Proofs
theorem bY.map{l:List ag}(h:bY l){f:ag→ag}(hf:∀v,(f v).1=v.1):bY (l.map f):=by unfold bY at h ⊢;rw[List.pairwise_map];exact h.imp fun {a b} Cq=>by rw[hf,hf];exact Cq
theorem nR{x:ID}{f:ag→ag}(hf:∀v,(f v).1=v.1):∀(l:List ag),aR (l.map f) x=(aR l x).map f
 |[]=>rfl
 |w::r=>by
  unfold aR;rw[List.map_cons,List.find?_cons,List.find?_cons,hf];have:=nR (x:=x) hf r;unfold aR at this
  cases decide (w.1=x) with
  |true=>rfl
  |false=>exact this
theorem qM(x:ID)(l:List ab)(w:ag):(rG x l w).1=w.1:=by unfold rG;split<;>rfl
theorem Lw(o:aY)(w:ag):(iH o w).1=w.1:=by unfold iH;split<;>(try split)<;>rfl
structure Iv(d:aj):Prop where
 s:bY d.1
 n:d.1.length≤24
theorem Iv.zero:Iv zS.1:=⟨List.Pairwise.nil,by simp[zS]⟩
theorem Iv.b8{d:aj}(h:Iv d)(x:ID)(l:List ab):Iv (b8 d x l):=⟨h.s.map (qM x l),by unfold Vs.b8;simp;exact h.n⟩
theorem Iv.aS{d:aj}(h:Iv d)(v e:ID):Iv (aS d v e):=⟨oU h.s,adk (adv _ _) h.n⟩
theorem Iv.one{s:StateT}(h:Iv s.1)(o:aY):Iv (kT s o).1.1:=by
 unfold kT
 split;· exact Iv.zero
 split
 ·unfold pG
  split;· exact Iv.zero
  split;· exact Iv.zero
  rename_i h1 h2;exact⟨nQ _ h.s (by simpa[bp] using h1),by rw[fW];omega⟩
 split
 ·unfold ya
  split
  ·exact Iv.zero
  ·split
   ·exact Iv.zero
   ·exact h.aS _ _
 split
 ·unfold pC
  split;· exact Iv.zero
  split;· exact Iv.zero
  split;· exact Iv.zero
  split;· exact Iv.zero
  split;· exact Iv.zero
  have h1:Iv (s.1.1,dq (aW o,(e0,0)) s.1.2):=⟨h.s,h.n⟩;exact(h1.b8 _ _).b8 _ _
 split
 ·unfold Fi
  split;· exact Iv.zero
  exact((h.b8 _ _).b8 _ _).aS _ _
 split
 ·unfold lV
  split;· exact Iv.zero
  split;· exact Iv.zero
  split;· exact Iv.zero
  split;· exact Iv.zero
  split;· exact Iv.zero
  rename_i h1 h2 h3 h4 h5;have h6:aR s.1.1 (eL o)=none:=by simpa[bp] using h2
  have h7:aR (aC s.1 (IX o) (ao (FK o))).1 (eL o)=none:=by unfold aC Vs.b8;rw[nR (qM _ _),h6];rfl
  refine⟨nQ _ (h.b8 _ _).s h7,?_⟩;unfold QV;rw[fW];have:(aC s.1 (IX o) (ao (FK o))).1.length=s.1.1.length:=by unfold aC Vs.b8;simp
  omega
 split
 ·unfold kS;have key:∀a b:ab,Iv (J4 s o a b):=fun a b=>((h.aS _ _).b8 _ _).aS _ _
  split
  ·exact Iv.zero
  ·split
   ·unfold jT
    split;· exact Iv.zero
    split;· exact key _ _
    split;· exact key _ _
    exact Iv.zero
   ·exact Iv.zero
 ·unfold wH
  split
  ·exact⟨h.s.map (Lw o),by simp;exact h.n⟩
  ·exact Iv.zero
theorem Iv.go:∀(l:List aY) {s:StateT},Iv s.1→Iv (Fj l s).1.1
 |[],s,h=>h
 |o::r,s,h=>by
  unfold Fj
  split
  ·exact Iv.zero
  ·exact Iv.go r (h.one o)
theorem Iv.try{s:StateT}(h:Iv s.1)(l:List aY):Iv (je s l).1:=by
 unfold je
 split
 ·exact h
 ·unfold cP
  split
  ·exact Iv.zero
  ·exact Iv.go l h
theorem Iv.reach:∀(m:Nat) (l:List (List aY)) {s:StateT},Iv s.1→Iv (lW m l s).1
 |0,_,s,h=>by simpa[lW] using h
 |m+1,[],s,h=>h
 |m+1,l::r,s,h=>by rw[lW];exact Iv.reach m r (h.try _)
theorem Iv.Lv(l:List (List aY)):Iv (BC l).1:=Iv.reach 30 l Iv.zero
end Go.Vs
