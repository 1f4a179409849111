/- What the program computes at -/
import Derived.Test.YtpkfpbpbkabkdaaGreatRefB
set_option linter.unusedVariables false
set_option linter.unusedSimpArgs false
namespace Go.Vs
open Go.Proofs
variable {G:(f:FuncId)→(g:aO)→Option (g.A→Option g.B)}
theorem KU(hG:G 159 qI=none)(x:ID):FX G 159 qI ((x,()),())=some ((dL x,()),()):=by refine aA hG afG ?_;obtain⟨a,b⟩:=x;show(cond (decide (a≥1)) (cond (decide (a≤8)) (cond (decide (b≥1)) (some ((decide (b≤1048576),()),())) (some ((false,()),()))) (some ((false,()),()))) (some ((false,()),())):Option ((Bool×Unit)×Unit))=some ((dL (a,b),()),());unfold dL;simp only[cond_eq_ite];by_cases h1:(1:Int)≤a<;>by_cases h2:a≤8<;>by_cases h3:(1:Int)≤b<;>simp[h1,h2,h3]
theorem WC(hG:G 235 BI=none)(n:Int):FX G 235 BI ((n,()),())=some ((false,()),()):=by refine aA hG aa3 ?_;exact congrArg (fun b:Bool=>some ((b,()),())) (show(n != n)=false by simp)
def KV(a b:Int):Int:=if a<b then -1 else if a>b then 1 else 0
theorem RC(hG:HG G)(a b:Int):FX G 219 BF ((a,b,()),())=some ((KV a b,()),()):=by
 refine aA (hG _ _ rfl) aaY ?_;refine aa (WC (hG _ _ rfl) a) ?_;refine aa (WC (hG _ _ rfl) b) ?_;refine af rfl (af rfl ?_);unfold KV;by_cases h1:a<b
 ·rw[if_pos h1];exact ae (decide_eq_true h1) rfl
 rw[if_neg h1];refine af (decide_eq_false h1) ?_;by_cases h2:a>b
 ·rw[if_pos h2];exact ae (decide_eq_true h2) rfl
 rw[if_neg h2];exact af (decide_eq_false h2) rfl
theorem WD(hG:G 218 vH=none)(a b:Int):FX G 218 vH (([a,b],()),())=some ((if a≠0 then a else b,()),()):=by
 refine aA hG aaX ?_;by_cases ha:a=0
 ·rw[if_neg (by simp[ha])];refine aC z8 ?_;refine ae rfl (aa (a:=a) rfl ?_);refine af (show(a != 0)=false by simp[ha]) ?_;refine aC z8 ?_;refine ae rfl (aa (a:=b) rfl ?_);by_cases hb:b=0
  ·refine af (show(b != 0)=false by simp[hb]) ?_;refine aC z8 ?_;rw[hb];exact af rfl rfl
  ·exact ae (show(b != 0)=true by simp[hb]) rfl
 ·rw[if_pos ha];refine aC z8 ?_;refine ae rfl (aa (a:=a) rfl ?_);exact ae (show(a != 0)=true by simp[ha]) rfl
theorem Mt(hG:HG G)(a b:ID):FX G 208 yM ((a,b,()),())=some ((Cd a b,()),()):=by
 refine aA (hG _ _ rfl) aaL ?_;unfold Cd;by_cases h:a=b
 ·rw[if_pos h];exact ae ((Cc a b).trans (decide_eq_true h)) rfl
 rw[if_neg h];refine af ((Cc a b).trans (decide_eq_false h)) ?_;refine aa (RC hG a.1 b.1) ?_;refine aa (RC hG a.2 b.2) ?_;refine aa (WD (hG _ _ rfl) (KV a.1 b.1) (KV a.2 b.2)) ?_;refine congrArg (fun n:Int=>some ((n,()),())) ?_;obtain⟨a1,a2⟩:=a;obtain⟨b1,b2⟩:=b;unfold KV gI;simp only[Prod.mk.injEq,not_and]at h;simp only;by_cases h1:a1<b1
 ·simp[h1]
 ·by_cases h2:a1>b1
  ·have:¬a1=b1:=by omega
   simp[h1,h2,this]
  ·have h3:a1=b1:=by omega
   have h4:=h h3;subst h3;by_cases h5:a2<b2
   ·simp[h5]
   ·have:a2>b2:=by omega
    simp[h5,this]
theorem WE(hG:HG G)(v:ai)(x:ID):FX G 207 Et ((v,x,()),())=some ((Cd v.1 x,()),()):=by refine aA (hG _ _ rfl) aaK ?_;exact aa (Mt hG v.1 x) rfl
theorem KW{i j:Nat}(hi:i≤1000000000)(hj:j≤1000000000):IntKind.wrap .i64 (gQ .u64 (IntKind.wrap .u64 (IntKind.wrap .i64 ((i:Int)+(j:Int)))) (1:Int))=(((i+j) / 2:Nat):Int):=by
 have e1:IntKind.wrap .i64 ((i:Int)+(j:Int))=((i+j:Nat):Int):=by rw[wrap_small (by omega) (by omega)];rfl
 have e2:IntKind.wrap .u64 ((i+j:Nat):Int)=((i+j:Nat):Int):=by unfold IntKind.wrap;simp[IntKind.bits,IntKind.signed];omega
 have e3:gQ .u64 ((i+j:Nat):Int) 1=(((i+j) / 2:Nat):Int):=by
  unfold gQ;have:(min (Int.toNat 1) IntKind.u64.bits)=1:=by decide
  rw[this,Int.fdiv_eq_ediv_of_nonneg _ (by omega)];rfl
 rw[e1,e2,e3,wrap_small (by omega) (by omega)]
def bB(l:List ai)(x:ID):Nat:=l.countP fun v=>gI v.1 x
def bY(l:List ai):Prop:=l.Pairwise fun a b=>gI a.1 b.1=true
theorem je{a b c:ID}(h:gI a b=true)(k:gI b c=true):gI a c=true:=by simp[gI]at *;omega
theorem lK{a b:ID}(h:gI a b=true):gI b a=false:=by simp[gI]at *;omega
theorem lL{a b:ID}(h:gI a b=false)(k:a≠b):gI b a=true:=by obtain⟨a1,a2⟩:=a;obtain⟨b1,b2⟩:=b;simp[gI]at *;omega
theorem Gg(l:List ai)(x:ID):bB l x≤l.length:=adV
theorem sQ{l:List ai}{x:ID}(h:∀v∈l,gI v.1 x=false):bB l x=0:=by unfold bB;rw[List.countP_eq_zero];intro v hv;simp[h v hv]
theorem xz{x:ID}:∀{l:List ai},bY l→∀(k:Nat) (v:ai),l[k]? = some v→(gI v.1 x=true↔k<bB l x)
 |[],_,k,v,h=>by simp at h
 |w::r,hs,k,v,h=>by
  have hw:∀{u:ai},u∈r→gI w.1 u.1=true:=fun {u} hu=>acD hs hu;have hr:bY r:=hs.of_cons;by_cases aF:gI w.1 x=true
  ·have e:bB (w::r) x=bB r x+1:=by unfold bB;rw[List.countP_cons_of_pos (by simpa using aF)]
   cases k with
   |zero=>simp at h;subst h;simp[aF,e]
   |succ k=>have:=xz (x:=x) hr k v (by simpa using h);rw[this,e];omega
  ·have hn:∀u∈w::r,gI u.1 x=false:=fun u hu=>by
    rcases abw.1 hu with rfl|hu
    ·simpa using aF
    ·rw[Bool.eq_false_iff];intro h2;exact aF (je (hw hu) h2)
   rw[sQ hn,hn v (List.mem_of_getElem? h)];simp
theorem RD(hG:HG G)(l:List ai)(x:ID)(hs:bY l)(hl:l.length≤50000000):∀(n i j:Nat),j-i≤n→i≤bB l x→bB l x≤j→j≤l.length → LX G 208206 jy Tryz.f206 iO (aZ Tryz.prog 206 0) ((l,(((l.length:Nat):Int),((i:Int),((j:Int),())))),(((x,()),()),()))=some (((((bB l x:Nat):Int),(decide ((l[bB l x]?).map (·.1)=some x),())):Int×(Bool×Unit)),()):=by
 have rh:=Gg l x;have fin:∀(i j:Nat),¬(i<j)→i≤bB l x→bB l x≤j→LX G 208206 jy Tryz.f206 iO (aZ Tryz.prog 206 0) ((l,(((l.length:Nat):Int),((i:Int),((j:Int),())))),(((x,()),()),()))=some (((((bB l x:Nat):Int),(decide ((l[bB l x]?).map (·.1)=some x),())):Int×(Bool×Unit)),()):=fun i j AT h1 h2=>by
  have hi:i=bB l x:=by omega
  subst hi;refine aC BT ?_;refine af (decide_eq_false (show ¬(((bB l x:Nat):Int)<(j:Int)) by omega)) ?_;by_cases hc:bB l x<l.length
  ·have hx:l[bB l x]? = some l[bB l x]:=abv hc;refine ae (bg hc) ?_;refine aa (aR hx) ?_;refine aa (WE hG l[bB l x] x) ?_;refine congrArg (fun b:Bool=>some ((((bB l x:Nat):Int),(b,())),())) ?_;rw[hx];unfold Cd;by_cases he:l[bB l x].1=x
   ·simp[he]
   ·simp[he];split<;>simp
  ·refine af (decide_eq_false (show ¬(((bB l x:Nat):Int)<((l.length:Nat):Int)) by omega)) ?_;refine congrArg (fun b:Bool=>some ((((bB l x:Nat):Int),(b,())),())) ?_;rw[List.getElem?_eq_none (by omega)];simp
 intro n
 induction n with
 |zero=>intro i j AT h1 h2 h3;exact fin i j (by omega) h1 h2
 |succ n ih =>
  intro i j AT h1 h2 h3;by_cases aF:i<j
  case neg=>exact fin i j aF h1 h2
  refine aC BT ?_;refine ae (decide_eq_true (show((i:Int)<(j:Int)) by omega)) ?_;refine af rfl ?_;have hm:=KW (i:=i) (j:=j) (by omega) (by omega);have hh:(i+j) / 2<l.length:=by omega
  have hx:l[(i+j) / 2]? = some l[(i+j) / 2]:=abv hh;have oz:=xz (x:=x) hs ((i+j) / 2) _ hx;refine aa (show bU l (IntKind.wrap .i64 (gQ .u64 (IntKind.wrap .u64 (IntKind.wrap .i64 ((i:Int)+(j:Int)))) (1:Int)))=some l[(i+j) / 2] by rw[hm];exact aR hx) ?_;refine aa (WE hG l[(i+j) / 2] x) ?_;by_cases ho:gI l[(i+j) / 2].1 x=true
  ·refine ae (decide_eq_true ((wj _ _).2 ho)) ?_;have hc:=oz.1 ho;have hw:IntKind.wrap .i64 (IntKind.wrap .i64 (gQ .u64 (IntKind.wrap .u64 (IntKind.wrap .i64 ((i:Int)+(j:Int)))) (1:Int))+1)=(((i+j) / 2+1:Nat):Int):=by rw[hm];exact aK hh (by omega)
   have:=ih ((i+j) / 2+1) j (by omega) (by omega) h2 h3;rw[←hw]at this;exact this
  ·refine af (decide_eq_false (fun h=>ho ((wj _ _).1 h))) ?_;have hc:¬(i+j) / 2<bB l x:=fun h=>ho (oz.2 h);have:=ih i ((i+j) / 2) (by omega) h1 (by omega) (by omega);rw[←hm]at this;exact this
theorem RE(hG:HG G)(l:List ai)(x:ID)(hs:bY l)(hl:l.length≤50000000) :
  FX G 208206 jy ((l,x,()),())=some (((((bB l x:Nat):Int),(decide ((l[bB l x]?).map (·.1)=some x),())):Int×(Bool×Unit)),()):=by
 refine aA (hG _ _ rfl) QY ?_;exact RD hG l x hs hl l.length 0 l.length (by omega) (by omega) (Gg l x) (acn _)
theorem qz(hG:HG G)(w:aQ)(x:ID)(hs:bY w.1)(hl:w.1.length≤50000000) :
  FX G 175 qu ((x,()),(w,()))=some (((((bB w.1 x:Nat):Int),(decide ((w.1[bB w.1 x]?).map (·.1)=some x),())):Int×(Bool×Unit)),(w,())):=by
 refine aA (hG _ _ rfl) aaw ?_;exact aa (RE hG w.1 x hs hl) rfl
theorem sR{x:ID}:∀{l:List ai},bY l→aL l x=(l[bB l x]?).filter fun v=>decide (v.1=x)
 |[],_=>rfl
 |w::r,hs=>by
  have hw:∀{u:ai},u∈r→gI w.1 u.1=true:=fun {u} hu=>acD hs hu;have hr:bY r:=hs.of_cons;by_cases aF:gI w.1 x=true
  ·have e:bB (w::r) x=bB r x+1:=by unfold bB;rw[List.countP_cons_of_pos (by simpa using aF)]
   have aW:¬w.1=x:=fun e=>by rw[e,bV]at aF;cases aF
   rw[e];simp only[aL,List.find?_cons,aW,decide_false,List.getElem?_cons_succ];exact sR hr
  ·have hn:∀u∈w::r,gI u.1 x=false:=fun u hu=>by
    rcases abw.1 hu with rfl|hu
    ·simpa using aF
    ·rw[Bool.eq_false_iff];intro h2;exact aF (je (hw hu) h2)
   rw[sQ hn];by_cases he:w.1=x
   ·simp[aL,List.find?_cons,he,Option.filter]
   ·have JK:gI x w.1=true:=lL (by simpa using aF) he;have:aL r x=none:=by
     unfold aL;rw[List.find?_eq_none];intro u hu h2;have h3:u.1=x:=by simpa using h2
     have h4:=hw hu;rw[h3]at h4;have:=lK h4;rw[JK]at this;cases this
    rw[show aL (w::r) x=aL r x by simp only[aL,List.find?_cons,he,decide_false],this];simp[he,Option.filter]
theorem fK{l:List ai}{x:ID}(hs:bY l):decide ((l[bB l x]?).map (·.1)=some x)=(aL l x).isSome:=by
 rw[sR hs]
 cases h:l[bB l x]? with
 |none=>simp
 |some v=>by_cases he:v.1=x<;>simp[he,Option.filter]
theorem IH(v:ai):∀{l:List ai},bY l→aL l v.1=none→cW v l=l.take (bB l v.1)++(v::l.drop (bB l v.1))
 |[],_,_=>rfl
 |w::r,hs,hf=>by
  have hw:∀{u:ai},u∈r→gI w.1 u.1=true:=fun {u} hu=>acD hs hu;have hr:bY r:=hs.of_cons;have aW:¬w.1=v.1:=fun e=>by simp[aL,e]at hf
  have Bq:aL r v.1=none:=by simpa[aL,List.find?_cons,aW] using hf
  by_cases aF:gI w.1 v.1=true
  ·have e:bB (w::r) v.1=bB r v.1+1:=by unfold bB;rw[List.countP_cons_of_pos (by simpa using aF)]
   have TB:gI v.1 w.1=false:=lK aF;rw[e,cW,if_neg (by simp[TB]),IH v hr Bq];rfl
  ·have hn:∀u∈w::r,gI u.1 v.1=false:=fun u hu=>by
    rcases abw.1 hu with rfl|hu
    ·simpa using aF
    ·rw[Bool.eq_false_iff];intro h2;exact aF (je (hw hu) h2)
   have JK:gI v.1 w.1=true:=lL (by simpa using aF) aW;rw[sQ hn,cW,if_pos JK];rfl
theorem xC{x:ID}:∀{l:List ai},bY l→(aL l x).isSome=true→dv l x=l.take (bB l x)++l.drop (bB l x+1)
 |[],_,hf=>by simp[aL]at hf
 |w::r,hs,hf=>by
  have hw:∀{u:ai},u∈r→gI w.1 u.1=true:=fun {u} hu=>acD hs hu;have hr:bY r:=hs.of_cons;by_cases he:w.1=x
  ·have hn:∀u∈w::r,gI u.1 x=false:=fun u hu=>by
    rcases abw.1 hu with rfl|hu
    ·rw[he,bV]
    ·rw[←he];exact lK (hw hu)
   have fq:dv r x=r:=by unfold dv;rw[List.filter_eq_self];intro u hu;have h4:=hw hu;simp;intro e2;rw[he,e2,bV]at h4;cases h4
   rw[sQ hn];unfold dv;rw[List.filter_cons_of_neg (by simp[he])];exact fq
  ·have Bq:(aL r x).isSome=true:=by simpa[aL,List.find?_cons,he] using hf
   have aF:gI w.1 x=true:=by
    obtain⟨u,hu⟩:=acv.1 Bq;have h1:=adj hu;have h2:u.1=x:=by simpa using adP hu
    rw[←h2];exact hw h1
   have e:bB (w::r) x=bB r x+1:=by unfold bB;rw[List.countP_cons_of_pos (by simpa using aF)]
   rw[e];have:=xC hr Bq;simp[dv,List.filter_cons,he]at this ⊢;exact this
theorem oR(v:ai):∀{l:List ai},bY l→aL l v.1=none→bY (cW v l)
 |[],_,_=>List.pairwise_singleton _ _
 |w::r,hs,hf=>by
  have hw:∀{u:ai},u∈r→gI w.1 u.1=true:=fun {u} hu=>acD hs hu;have hr:bY r:=hs.of_cons;have aW:¬w.1=v.1:=fun e=>by simp[aL,e]at hf
  have Bq:aL r v.1=none:=by simpa[aL,List.find?_cons,aW] using hf
  unfold cW
  split
  ·rename_i h;refine List.Pairwise.cons (fun u hu=>?_) hs;rcases abw.1 hu with rfl|hu
   ·exact h
   ·exact je h (hw hu)
  ·rename_i h;have aF:gI w.1 v.1=true:=lL (by simpa using h) (fun e=>aW e.symm);refine List.Pairwise.cons (fun u hu=>?_) (oR v hr Bq);rcases jG.1 hu with rfl|hu
   ·exact aF
   ·exact hw hu
theorem mI{l:List ai}{x:ID}(hs:bY l):bY (dv l x):=hs.filter _
theorem agf(hG:G 127 N5=none)(l:List ai)(hl:l.length≤50000000):FX G 127 N5 ((l,()),())=some ((l,()),()):=by
 refine aA hG afD ?_
 cases l with
 |nil=>exact ae rfl (np (by omega) fun j hj=>by cases j<;>rfl)
 |cons x r=>exact af rfl (ae (fits (by simp at hl ⊢;omega)) rfl)
theorem agh(hG:G 128 N6=none)(l:List aq)(hl:l.length≤50000000):FX G 128 N6 ((l,()),())=some ((l,()),()):=by
 refine aA hG afE ?_
 cases l with
 |nil=>exact ae rfl (np (by omega) fun j hj=>by cases j<;>rfl)
 |cons x r=>exact af rfl (ae (fits (by simp at hl ⊢;omega)) rfl)
theorem X8(hG:G 110 zq=none)(l:List ab)(hl:l.length≤50000000):FX G 110 zq ((l,()),())=some ((l,()),()):=by
 refine aA hG afF ?_
 cases l with
 |nil=>exact ae rfl (np (by omega) fun j hj=>by cases j<;>rfl)
 |cons x r=>exact af rfl (ae (fits (by simp at hl ⊢;omega)) rfl)
theorem X9(hG:G 97 HS=none)(l:List aM)(hl:l.length≤50000000):FX G 97 HS ((l,()),())=some ((l,()),()):=by
 refine aA hG afz ?_
 cases l with
 |nil=>exact ae rfl (np (by omega) fun j hj=>by cases j<;>rfl)
 |cons x r=>exact af rfl (ae (fits (by simp at hl ⊢;omega)) rfl)
theorem RF{α:Type}{l:List α}{i:Nat}{x:α}(h:l[i]? = some x):l.set i x=l:=by obtain⟨hi,he⟩:=abr.1 h;subst he;simp
theorem abN(hG:HG G)(d:ak)(hs:Sm d):FX G 96 FO ((d,()),())=some (((d.1,(d.2,())),()),()):=by
 have hv:=hs.v;have he:=hs.e;refine aA (hG _ _ rfl) afy ?_;refine aa (agf (hG _ _ rfl) d.1 (by omega)) ?_;refine aa (agh (hG _ _ rfl) d.2 (by omega)) ?_;have loop:∀(n i:Nat) (out:List ai),i+n=d.1.length→out=d.1→LX G 96 FO Tryz.f96 BS (aZ Tryz.prog 96 0) ((((d.1.length:Nat):Int),((i:Int),())),(((([]:List ai),(([]:List aq),())),((out,(d.2,())),())),()))=some (((d.1,(d.2,())),()),()):=by
  intro n
  induction n with
  |zero =>intro i out hi ho;subst ho;refine aC QW ?_;exact af (decide_eq_false (show ¬((i:Int)<((d.1.length:Nat):Int)) by omega)) rfl
  |succ n ih =>
   intro i out hi ho;have nL:=ho;subst ho;refine aC QW ?_;have aF:i<d.1.length:=by omega
   have hx:d.1[i]? = some d.1[i]:=abv aF;refine ae (bg aF) ?_;refine ae (cY (kS i) (bg aF)) ?_;refine aa hx ?_;refine aa (X8 (hG _ _ rfl) d.1[i].2.1 (hs.r _ (acC aF))) ?_;refine ae (cY (kS i) (bg aF)) ?_;refine aa hx ?_;rw[wI,aK aF (show d.1.length≤1073741824 by omega)];exact ih (i+1) (d.1.set i d.1[i]) (by omega) (RF hx)
 exact loop d.1.length 0 d.1 (by omega) rfl
def qA(w:aQ)(v:ai):Int×aQ :=if(aL w.1 v.1).isSome=true then(12,w) else if 24≤w.1.length then(3,w) else(0,(cW v w.1,w.2))
def EI(w:aQ)(x:ID):Int×aQ:=match aL w.1 x with
 |none=>(13,w)
 |some v=>if 0<v.2.1.length then(14,w) else(0,(dv w.1 x,w.2))
theorem Ya(hG:HG G)(w:aQ)(v:ai)(hs:bY w.1)(hl:w.1.length≤50000000):FX G 152 HT ((v,()),(w,()))=some (((qA w v).1,()),((qA w v).2,())):=by
 refine aA (hG _ _ rfl) afK ?_;refine aa (qz hG w v.1 hs hl) ?_;unfold qA
 cases hf:(aL w.1 v.1).isSome
 ·rw[if_neg (by simp)];refine af ((fK hs).trans hf) ?_;by_cases h2:24≤w.1.length
  ·rw[if_pos h2];exact ae (decide_eq_true (show((w.1.length:Nat):Int)≥24 by omega)) rfl
  ·rw[if_neg h2];refine af (decide_eq_false (show ¬((w.1.length:Nat):Int)≥24 by omega)) ?_;have hc:=Gg w.1 v.1;have ki:qW w.1 ((bB w.1 v.1:Nat):Int) [v]=true:=by unfold qW;rw[decide_eq_true (show(0:Int)≤((bB w.1 v.1:Nat):Int) by omega),decide_eq_true (show((bB w.1 v.1:Nat):Int)≤((w.1.length:Nat):Int) by omega)];rw[fits (by simp;omega)];rfl
   refine ae ki ?_;have e:fZ w.1 ((bB w.1 v.1:Nat):Int) [v]=cW v w.1:=by rw[IH v hs (by simpa using hf)];unfold fZ;simp
   exact congrArg (fun l:List ai=>some (((0:Int),()),((l,w.2),()))) e
 ·rw[if_pos rfl];exact ae ((fK hs).trans hf) rfl
theorem agi(hG:HG G)(w:aQ)(o:aY)(hs:bY w.1)(hl:w.1.length≤50000000):FX G 153 QK ((o,()),(w,()))=some (((EI w (bu o)).1,()),((EI w (bu o)).2,())):=by
 refine aA (hG _ _ rfl) afL ?_;refine aa (qz hG w (bu o) hs hl) ?_;unfold EI;have hth:=fK (x:=bu o) hs;have kU:=sR (x:=bu o) hs
 cases hf:aL w.1 (bu o) with
 |none =>rw[hf]at hth;refine ae (show(!(decide ((w.1[bB w.1 (bu o)]?).map (·.1)=some (bu o))))=true by rw[hth];rfl) rfl
 |some v =>
  rw[hf]at hth kU;refine af (show(!(decide ((w.1[bB w.1 (bu o)]?).map (·.1)=some (bu o))))=false by rw[hth];rfl) ?_;have hx:w.1[bB w.1 (bu o)]? = some v:=by
   cases hg:w.1[bB w.1 (bu o)]? with
   |none=>rw[hg]at kU;simp[Option.filter]at kU
   |some u =>
    rw[hg]at kU;simp only[Option.filter]at kU
    split at kU
    ·exact kU.symm
    ·cases kU
  have aF:=(abr.1 hx).1;refine ae (cY (kS _) (bg aF)) ?_;refine aa hx ?_;show _=some ((((if 0<v.2.1.length then(14,w) else(0,(dv w.1 (bu o),w.2)):Int×aQ).1,()),((if 0<v.2.1.length then(14,w) else(0,(dv w.1 (bu o),w.2)):Int×aQ).2,())):(Int×Unit)×(aQ×Unit));by_cases h2:0<v.2.1.length
  ·rw[if_pos h2];exact ae (decide_eq_true (show((v.2.1.length:Nat):Int)>0 by omega)) rfl
  ·rw[if_neg h2];refine af (decide_eq_false (show ¬((v.2.1.length:Nat):Int)>0 by omega)) ?_;have hw:IntKind.wrap .i64 (((bB w.1 (bu o):Nat):Int)+1)=((bB w.1 (bu o)+1:Nat):Int):=aK aF (by omega);have ki:jP w.1 ((bB w.1 (bu o):Nat):Int) (IntKind.wrap .i64 (((bB w.1 (bu o):Nat):Int)+1))=true:=by rw[hw];unfold jP;rw[decide_eq_true (show(0:Int)≤((bB w.1 (bu o):Nat):Int) by omega),decide_eq_true (show((bB w.1 (bu o):Nat):Int)<((bB w.1 (bu o)+1:Nat):Int) by omega),decide_eq_true (show((bB w.1 (bu o)+1:Nat):Int)≤((w.1.length:Nat):Int) by omega),fits (by omega)];rfl
   refine ae ki ?_;have e:dh w.1 ((bB w.1 (bu o):Nat):Int) (IntKind.wrap .i64 (((bB w.1 (bu o):Nat):Int)+1))=dv w.1 (bu o):=by rw[hw,xC hs (by rw[hf];rfl)];unfold dh;simp only[Int.toNat_natCast]
   exact congrArg (fun l:List ai=>some (((0:Int),()),((l,w.2),()))) e
def zW:aQ:=([],([],([],())))
def aG(s:StateT):aQ:=(s.1.1,(s.1.2,(s.2,())))
def Ae(w:aQ):StateT:=((w.1,w.2.1),w.2.2.1)
def jI(e:Int)(w:aQ):StateT×(Int×Unit):=if e≠0 then(zS,(e,())) else(Ae w,(0,()))
def KX(k:Int)(x:ID):aY:=(k,(x,(zI,(zI,(zC,(zC,(false,(e0,0))))))))
def aiC(x:ID):Int:=if dL x=true then 0 else 1
def shS:StateT:=(([((1,1),([],(e0,0)))],[]),[])
end Go.Vs
namespace Go.Vs
open Go.Proofs
theorem bY.map{l:List ai}(h:bY l){f:ai→ai}(hf:∀v,(f v).1=v.1):bY (l.map f):=by unfold bY at h ⊢;rw[List.pairwise_map];exact h.imp fun {a b} yS=>by rw[hf,hf];exact yS
theorem oS{x:ID}{f:ai→ai}(hf:∀v,(f v).1=v.1):∀(l:List ai),aL (l.map f) x=(aL l x).map f
 |[]=>rfl
 |w::r=>by
  unfold aL;rw[List.map_cons,List.find?_cons,List.find?_cons,hf];have:=oS (x:=x) hf r;unfold aL at this
  cases decide (w.1=x) with
  |true=>rfl
  |false=>exact this
theorem rI(x:ID)(l:List ab)(w:ai):(xu x l w).1=w.1:=by unfold xu;split<;>rfl
theorem Mu(o:aY)(w:ai):(mU o w).1=w.1:=by unfold mU;split<;>(try split)<;>rfl
structure Iv(d:ak):Prop where
 s:bY d.1
 n:d.1.length≤24
theorem Iv.zero:Iv zS.1:=⟨List.Pairwise.nil,by simp[zS]⟩
theorem Iv.cf{d:ak}(h:Iv d)(x:ID)(l:List ab):Iv (cf d x l):=⟨h.s.map (rI x l),by unfold Vs.cf;simp;exact h.n⟩
theorem Iv.aI{d:ak}(h:Iv d)(v e:ID):Iv (aI d v e):=⟨mI h.s,acB (adI _ _) h.n⟩
theorem Iv.one{s:StateT}(h:Iv s.1)(o:aY):Iv (oQ s o).1.1:=by
 unfold oQ
 split;· exact Iv.zero
 split
 ·unfold qy
  split;· exact Iv.zero
  split;· exact Iv.zero
  rename_i h1 h2;exact⟨oR _ h.s (by simpa[cd] using h1),by rw[eW];omega⟩
 split
 ·unfold yV
  split
  ·exact Iv.zero
  ·split
   ·exact Iv.zero
   ·exact h.aI _ _
 split
 ·unfold rH
  split;· exact Iv.zero
  split;· exact Iv.zero
  split;· exact Iv.zero
  split;· exact Iv.zero
  split;· exact Iv.zero
  have h1:Iv (s.1.1,fg (bu o,(e0,0)) s.1.2):=⟨h.s,h.n⟩;exact(h1.cf _ _).cf _ _
 split
 ·unfold IG
  split;· exact Iv.zero
  exact((h.cf _ _).cf _ _).aI _ _
 split
 ·unfold nS
  split;· exact Iv.zero
  split;· exact Iv.zero
  split;· exact Iv.zero
  split;· exact Iv.zero
  split;· exact Iv.zero
  rename_i h1 h2 h3 h4 h5;have h6:aL s.1.1 (fQ o)=none:=by simpa[cd] using h2
  have h7:aL (aw s.1 (TO o) (ag (Px o))).1 (fQ o)=none:=by unfold aw Vs.cf;rw[oS (rI _ _),h6];rfl
  refine⟨oR _ (h.cf _ _).s h7,?_⟩;unfold RB;rw[eW];have:(aw s.1 (TO o) (ag (Px o))).1.length=s.1.1.length:=by unfold aw Vs.cf;simp
  omega
 split
 ·unfold nu;have key:∀a b:ab,Iv (JN s o a b):=fun a b=>((h.aI _ _).cf _ _).aI _ _
  split
  ·exact Iv.zero
  ·split
   ·unfold lC
    split;· exact Iv.zero
    split;· exact key _ _
    split;· exact key _ _
    exact Iv.zero
   ·exact Iv.zero
 ·unfold xy
  split
  ·exact⟨h.s.map (Mu o),by simp;exact h.n⟩
  ·exact Iv.zero
theorem Iv.go:∀(l:List aY) {s:StateT},Iv s.1→Iv (Gf l s).1.1
 |[],s,h=>h
 |o::r,s,h=>by
  unfold Gf
  split
  ·exact Iv.zero
  ·exact Iv.go r (h.one o)
theorem Iv.try{s:StateT}(h:Iv s.1)(l:List aY):Iv (iy s l).1:=by
 unfold iy
 split
 ·exact h
 ·unfold ct
  split
  ·exact Iv.zero
  ·exact Iv.go l h
theorem Iv.reach:∀(m:Nat) (l:List (List aY)) {s:StateT},Iv s.1→Iv (mH m l s).1
 |0,_,s,h=>by simpa[mH] using h
 |m+1,[],s,h=>h
 |m+1,l::r,s,h=>by rw[mH];exact Iv.reach m r (h.try _)
theorem Iv.Mr(l:List (List aY)):Iv (Cf l).1:=Iv.reach 30 l Iv.zero
theorem KY{x:ID}{l:List ai}(hf:aL l x=none):dv l x=l:=by unfold dv;rw[List.filter_eq_self];intro u hu;unfold aL at hf;rw[List.find?_eq_none]at hf;have:=hf u hu;simpa using this
theorem Cg(v:ai):∀{l:List ai},aL l v.1=none→dv (cW v l) v.1=l
 |[],_=>by simp[cW,dv]
 |w::r,hf=>by
  have aW:¬w.1=v.1:=fun e=>by simp[aL,e]at hf
  have Bq:aL r v.1=none:=by simpa[aL,List.find?_cons,aW] using hf
  unfold cW
  split
  ·unfold dv;rw[List.filter_cons_of_neg (by simp)];exact KY hf
  ·have:=Cg v Bq;unfold dv at this ⊢;rw[List.filter_cons_of_pos (by simpa using aW),this]
end Go.Vs
