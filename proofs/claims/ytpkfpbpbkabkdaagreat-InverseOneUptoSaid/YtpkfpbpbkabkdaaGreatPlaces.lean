/- What the program computes at -/
import Derived.Test.YtpkfpbpbkabkdaaGreatRefB
set_option linter.unusedVariables false
set_option linter.unusedSimpArgs false
namespace Go.Vs
open Go.Proofs
variable {G:(f:FuncId)→(g:aS)→Option (g.A→Option g.B)}
theorem OH(hG:G 159 ri=none)(x:ID):FX G 159 ri ((x,()),())=some ((cd x,()),()):=by refine az hG ag9 ?_;obtain⟨a,b⟩:=x;show(cond (decide (a≥1)) (cond (decide (a≤8)) (cond (decide (b≥1)) (some ((decide (b≤1048576),()),())) (some ((false,()),()))) (some ((false,()),()))) (some ((false,()),())):Option ((Bool×Unit)×Unit))=some ((cd (a,b),()),());unfold cd;simp only[cond_eq_ite];by_cases h1:(1:Int)≤a<;>by_cases h2:a≤8<;>by_cases h3:(1:Int)≤b<;>simp[h1,h2,h3]
theorem Xn(hG:G 235 BQ=none)(n:Int):FX G 235 BQ ((n,()),())=some ((false,()),()):=by refine az hG abJ ?_;exact congrArg (fun b:Bool=>some ((b,()),())) (show(n != n)=false by simp)
def La(a b:Int):Int:=if a<b then -1 else if a>b then 1 else 0
theorem SB(hG:HG G)(a b:Int):FX G 219 BO ((a,b,()),())=some ((La a b,()),()):=by
 refine az (hG _ _ rfl) abD ?_;refine aa (Xn (hG _ _ rfl) a) ?_;refine aa (Xn (hG _ _ rfl) b) ?_;refine ag rfl (ag rfl ?_);unfold La;by_cases h1:a<b
 ·rw[if_pos h1];exact af (decide_eq_true h1) rfl
 rw[if_neg h1];refine ag (decide_eq_false h1) ?_;by_cases h2:a>b
 ·rw[if_pos h2];exact af (decide_eq_true h2) rfl
 rw[if_neg h2];exact ag (decide_eq_false h2) rfl
theorem Xo(hG:G 218 vw=none)(a b:Int):FX G 218 vw (([a,b],()),())=some ((if a≠0 then a else b,()),()):=by
 refine az hG abC ?_;by_cases ha:a=0
 ·rw[if_neg (by simp[ha])];refine ao Ah ?_;refine af rfl (aa (a:=a) rfl ?_);refine ag (show(a != 0)=false by simp[ha]) ?_;refine ao Ah ?_;refine af rfl (aa (a:=b) rfl ?_);by_cases hb:b=0
  ·refine ag (show(b != 0)=false by simp[hb]) ?_;refine ao Ah ?_;rw[hb];exact ag rfl rfl
  ·exact af (show(b != 0)=true by simp[hb]) rfl
 ·rw[if_pos ha];refine ao Ah ?_;refine af rfl (aa (a:=a) rfl ?_);exact af (show(a != 0)=true by simp[ha]) rfl
theorem SC(hG:HG G)(a b:ID):FX G 208 BM ((a,b,()),())=some ((pY a b,()),()):=by
 refine az (hG _ _ rfl) abp ?_;unfold pY;by_cases h:a=b
 ·rw[if_pos h];exact af ((gM a b).trans (decide_eq_true h)) rfl
 rw[if_neg h];refine ag ((gM a b).trans (decide_eq_false h)) ?_;refine aa (SB hG a.1 b.1) ?_;refine aa (SB hG a.2 b.2) ?_;refine aa (Xo (hG _ _ rfl) (La a.1 b.1) (La a.2 b.2)) ?_;refine congrArg (fun n:Int=>some ((n,()),())) ?_;obtain⟨a1,a2⟩:=a;obtain⟨b1,b2⟩:=b;unfold La fg;simp only[Prod.mk.injEq,not_and]at h;simp only;by_cases h1:a1<b1
 ·simp[h1]
 ·by_cases h2:a1>b1
  ·have:¬a1=b1:=by omega
   simp[h1,h2,this]
  ·have h3:a1=b1:=by omega
   have h4:=h h3;subst h3;by_cases h5:a2<b2
   ·simp[h5]
   ·have:a2>b2:=by omega
    simp[h5,this]
theorem Xp(hG:HG G)(v:ah)(x:ID):FX G 207 Es ((v,x,()),())=some ((pY v.1 x,()),()):=by refine az (hG _ _ rfl) abo ?_;exact aa (SC hG v.1 x) rfl
theorem Lb{i j:Nat}(hi:i≤1000000000)(hj:j≤1000000000):IntKind.wrap .i64 (lf .u64 (IntKind.wrap .u64 (IntKind.wrap .i64 ((i:Int)+(j:Int)))) (1:Int))=(((i+j) / 2:Nat):Int):=by
 have e1:IntKind.wrap .i64 ((i:Int)+(j:Int))=((i+j:Nat):Int):=by rw[wrap_small (by omega) (by omega)];rfl
 have e2:IntKind.wrap .u64 ((i+j:Nat):Int)=((i+j:Nat):Int):=by unfold IntKind.wrap;simp[IntKind.bits,IntKind.signed];omega
 have e3:lf .u64 ((i+j:Nat):Int) 1=(((i+j) / 2:Nat):Int):=by
  unfold lf;have:(min (Int.toNat 1) IntKind.u64.bits)=1:=by decide
  rw[this,Int.fdiv_eq_ediv_of_nonneg _ (by omega)];rfl
 rw[e1,e2,e3,wrap_small (by omega) (by omega)]
def bJ(l:List ah)(x:ID):Nat:=l.countP fun v=>fg v.1 x
def b8(l:List ah):Prop:=l.Pairwise fun a b=>fg a.1 b.1=true
theorem gO{a b c:ID}(h:fg a b=true)(k:fg b c=true):fg a c=true:=by simp[fg]at *;omega
theorem lC{a b:ID}(h:fg a b=true):fg b a=false:=by simp[fg]at *;omega
theorem lD{a b:ID}(h:fg a b=false)(k:a≠b):fg b a=true:=by obtain⟨a1,a2⟩:=a;obtain⟨b1,b2⟩:=b;simp[fg]at *;omega
theorem Gy(l:List ah)(x:ID):bJ l x≤l.length:=aeL
theorem sE{l:List ah}{x:ID}(h:∀v∈l,fg v.1 x=false):bJ l x=0:=by unfold bJ;rw[List.countP_eq_zero];intro v hv;simp[h v hv]
theorem xG{x:ID}:∀{l:List ah},b8 l→∀(k:Nat) (v:ah),l[k]? = some v→(fg v.1 x=true↔k<bJ l x)
 |[],_,k,v,h=>by simp at h
 |w::r,hs,k,v,h=>by
  have hw:∀{u:ah},u∈r→fg w.1 u.1=true:=fun {u} hu=>adF hs hu;have hr:b8 r:=hs.of_cons;by_cases aF:fg w.1 x=true
  ·have e:bJ (w::r) x=bJ r x+1:=by unfold bJ;rw[List.countP_cons_of_pos (by simpa using aF)]
   cases k with
   |zero=>simp at h;subst h;simp[aF,e]
   |succ k=>have:=xG (x:=x) hr k v (by simpa using h);rw[this,e];omega
  ·have hn:∀u∈w::r,fg u.1 x=false:=fun u hu=>by
    rcases acp.1 hu with rfl|hu
    ·simpa using aF
    ·rw[Bool.eq_false_iff];intro h2;exact aF (gO (hw hu) h2)
   rw[sE hn,hn v (List.mem_of_getElem? h)];simp
theorem SD(hG:HG G)(l:List ah)(x:ID)(hs:b8 l)(hl:l.length≤50000000):∀(n i j:Nat),j-i≤n→i≤bJ l x→bJ l x≤j→j≤l.length → LX G 208206 jt Tryz.f206 iF (aO Tryz.prog 206 0) ((l,(((l.length:Nat):Int),((i:Int),((j:Int),())))),(((x,()),()),()))=some (((((bJ l x:Nat):Int),(decide ((l[bJ l x]?).map (·.1)=some x),())):Int×(Bool×Unit)),()):=by
 have tM:=Gy l x;have fin:∀(i j:Nat),¬(i<j)→i≤bJ l x→bJ l x≤j→LX G 208206 jt Tryz.f206 iF (aO Tryz.prog 206 0) ((l,(((l.length:Nat):Int),((i:Int),((j:Int),())))),(((x,()),()),()))=some (((((bJ l x:Nat):Int),(decide ((l[bJ l x]?).map (·.1)=some x),())):Int×(Bool×Unit)),()):=fun i j zQ h1 h2=>by
  have hi:i=bJ l x:=by omega
  subst hi;refine ao Ci ?_;refine ag (decide_eq_false (show ¬(((bJ l x:Nat):Int)<(j:Int)) by omega)) ?_;by_cases hc:bJ l x<l.length
  ·have hx:l[bJ l x]? = some l[bJ l x]:=aaY hc;refine af (aY hc) ?_;refine aa (aA hx) ?_;refine aa (Xp hG l[bJ l x] x) ?_;refine congrArg (fun b:Bool=>some ((((bJ l x:Nat):Int),(b,())),())) ?_;rw[hx];unfold pY;by_cases he:l[bJ l x].1=x
   ·simp[he]
   ·simp[he];split<;>simp
  ·refine ag (decide_eq_false (show ¬(((bJ l x:Nat):Int)<((l.length:Nat):Int)) by omega)) ?_;refine congrArg (fun b:Bool=>some ((((bJ l x:Nat):Int),(b,())),())) ?_;rw[List.getElem?_eq_none (by omega)];simp
 intro n
 induction n with
 |zero=>intro i j zQ h1 h2 h3;exact fin i j (by omega) h1 h2
 |succ n ih =>
  intro i j zQ h1 h2 h3;by_cases aF:i<j
  case neg=>exact fin i j aF h1 h2
  refine ao Ci ?_;refine af (decide_eq_true (show((i:Int)<(j:Int)) by omega)) ?_;refine ag rfl ?_;have hm:=Lb (i:=i) (j:=j) (by omega) (by omega);have hh:(i+j) / 2<l.length:=by omega
  have hx:l[(i+j) / 2]? = some l[(i+j) / 2]:=aaY hh;have ow:=xG (x:=x) hs ((i+j) / 2) _ hx;refine aa (show aT l (IntKind.wrap .i64 (lf .u64 (IntKind.wrap .u64 (IntKind.wrap .i64 ((i:Int)+(j:Int)))) (1:Int)))=some l[(i+j) / 2] by rw[hm];exact aA hx) ?_;refine aa (Xp hG l[(i+j) / 2] x) ?_;by_cases ho:fg l[(i+j) / 2].1 x=true
  ·refine af (decide_eq_true ((kg _ _).2 ho)) ?_;have hc:=ow.1 ho;have hw:IntKind.wrap .i64 (IntKind.wrap .i64 (lf .u64 (IntKind.wrap .u64 (IntKind.wrap .i64 ((i:Int)+(j:Int)))) (1:Int))+1)=(((i+j) / 2+1:Nat):Int):=by rw[hm];exact aD hh (by omega)
   have:=ih ((i+j) / 2+1) j (by omega) (by omega) h2 h3;rw[←hw]at this;exact this
  ·refine ag (decide_eq_false (fun h=>ho ((kg _ _).1 h))) ?_;have hc:¬(i+j) / 2<bJ l x:=fun h=>ho (ow.2 h);have:=ih i ((i+j) / 2) (by omega) h1 (by omega) (by omega);rw[←hm]at this;exact this
theorem SF(hG:HG G)(l:List ah)(x:ID)(hs:b8 l)(hl:l.length≤50000000) :
  FX G 208206 jt ((l,x,()),())=some (((((bJ l x:Nat):Int),(decide ((l[bJ l x]?).map (·.1)=some x),())):Int×(Bool×Unit)),()):=by
 refine az (hG _ _ rfl) R6 ?_;exact SD hG l x hs hl l.length 0 l.length (by omega) (by omega) (Gy l x) (adj _)
theorem qu(hG:HG G)(w:ba)(x:ID)(hs:b8 w.1)(hl:w.1.length≤50000000) :
  FX G 175 qq ((x,()),(w,()))=some (((((bJ w.1 x:Nat):Int),(decide ((w.1[bJ w.1 x]?).map (·.1)=some x),())):Int×(Bool×Unit)),(w,())):=by
 refine az (hG _ _ rfl) aba ?_;exact aa (SF hG w.1 x hs hl) rfl
theorem sF{x:ID}:∀{l:List ah},b8 l→bg l x=(l[bJ l x]?).filter fun v=>decide (v.1=x)
 |[],_=>rfl
 |w::r,hs=>by
  have hw:∀{u:ah},u∈r→fg w.1 u.1=true:=fun {u} hu=>adF hs hu;have hr:b8 r:=hs.of_cons;by_cases aF:fg w.1 x=true
  ·have e:bJ (w::r) x=bJ r x+1:=by unfold bJ;rw[List.countP_cons_of_pos (by simpa using aF)]
   have bw:¬w.1=x:=fun e=>by rw[e,ck]at aF;cases aF
   rw[e];simp only[bg,List.find?_cons,bw,decide_false,List.getElem?_cons_succ];exact sF hr
  ·have hn:∀u∈w::r,fg u.1 x=false:=fun u hu=>by
    rcases acp.1 hu with rfl|hu
    ·simpa using aF
    ·rw[Bool.eq_false_iff];intro h2;exact aF (gO (hw hu) h2)
   rw[sE hn];by_cases he:w.1=x
   ·simp[bg,List.find?_cons,he,Option.filter]
   ·have J1:fg x w.1=true:=lD (by simpa using aF) he;have:bg r x=none:=by
     unfold bg;rw[List.find?_eq_none];intro u hu h2;have h3:u.1=x:=by simpa using h2
     have h4:=hw hu;rw[h3]at h4;have:=lC h4;rw[J1]at this;cases this
    rw[show bg (w::r) x=bg r x by simp only[bg,List.find?_cons,he,decide_false],this];simp[he,Option.filter]
theorem fR{l:List ah}{x:ID}(hs:b8 l):decide ((l[bJ l x]?).map (·.1)=some x)=(bg l x).isSome:=by
 rw[sF hs]
 cases h:l[bJ l x]? with
 |none=>simp
 |some v=>by_cases he:v.1=x<;>simp[he,Option.filter]
theorem IZ(v:ah):∀{l:List ah},b8 l→bg l v.1=none→eL v l=l.take (bJ l v.1)++(v::l.drop (bJ l v.1))
 |[],_,_=>rfl
 |w::r,hs,hf=>by
  have hw:∀{u:ah},u∈r→fg w.1 u.1=true:=fun {u} hu=>adF hs hu;have hr:b8 r:=hs.of_cons;have bw:¬w.1=v.1:=fun e=>by simp[bg,e]at hf
  have Em:bg r v.1=none:=by simpa[bg,List.find?_cons,bw] using hf
  by_cases aF:fg w.1 v.1=true
  ·have e:bJ (w::r) v.1=bJ r v.1+1:=by unfold bJ;rw[List.countP_cons_of_pos (by simpa using aF)]
   have WG:fg v.1 w.1=false:=lC aF;rw[e,eL,if_neg (by simp[WG]),IZ v hr Em];rfl
  ·have hn:∀u∈w::r,fg u.1 v.1=false:=fun u hu=>by
    rcases acp.1 hu with rfl|hu
    ·simpa using aF
    ·rw[Bool.eq_false_iff];intro h2;exact aF (gO (hw hu) h2)
   have J1:fg v.1 w.1=true:=lD (by simpa using aF) bw;rw[sE hn,eL,if_pos J1];rfl
theorem xH{x:ID}:∀{l:List ah},b8 l→(bg l x).isSome=true→dE l x=l.take (bJ l x)++l.drop (bJ l x+1)
 |[],_,hf=>by simp[bg]at hf
 |w::r,hs,hf=>by
  have hw:∀{u:ah},u∈r→fg w.1 u.1=true:=fun {u} hu=>adF hs hu;have hr:b8 r:=hs.of_cons;by_cases he:w.1=x
  ·have hn:∀u∈w::r,fg u.1 x=false:=fun u hu=>by
    rcases acp.1 hu with rfl|hu
    ·rw[he,ck]
    ·rw[←he];exact lC (hw hu)
   have eY:dE r x=r:=by unfold dE;rw[List.filter_eq_self];intro u hu;have h4:=hw hu;simp;intro e2;rw[he,e2,ck]at h4;cases h4
   rw[sE hn];unfold dE;rw[List.filter_cons_of_neg (by simp[he])];exact eY
  ·have Em:(bg r x).isSome=true:=by simpa[bg,List.find?_cons,he] using hf
   have aF:fg w.1 x=true:=by
    obtain⟨u,hu⟩:=adq.1 Em;have h1:=ady hu;have h2:u.1=x:=by simpa using aeE hu
    rw[←h2];exact hw h1
   have e:bJ (w::r) x=bJ r x+1:=by unfold bJ;rw[List.countP_cons_of_pos (by simpa using aF)]
   rw[e];have:=xH hr Em;simp[dE,List.filter_cons,he]at this ⊢;exact this
theorem oO(v:ah):∀{l:List ah},b8 l→bg l v.1=none→b8 (eL v l)
 |[],_,_=>List.pairwise_singleton _ _
 |w::r,hs,hf=>by
  have hw:∀{u:ah},u∈r→fg w.1 u.1=true:=fun {u} hu=>adF hs hu;have hr:b8 r:=hs.of_cons;have bw:¬w.1=v.1:=fun e=>by simp[bg,e]at hf
  have Em:bg r v.1=none:=by simpa[bg,List.find?_cons,bw] using hf
  unfold eL
  split
  ·rename_i h;refine List.Pairwise.cons (fun u hu=>?_) hs;rcases acp.1 hu with rfl|hu
   ·exact h
   ·exact gO h (hw hu)
  ·rename_i h;have aF:fg w.1 v.1=true:=lD (by simpa using h) (fun e=>bw e.symm);refine List.Pairwise.cons (fun u hu=>?_) (oO v hr Em);rcases mu.1 hu with rfl|hu
   ·exact aF
   ·exact hw hu
theorem qa{l:List ah}{x:ID}(hs:b8 l):b8 (dE l x):=hs.filter _
theorem ah7(hG:G 127 Oh=none)(l:List ah)(hl:l.length≤50000000):FX G 127 Oh ((l,()),())=some ((l,()),()):=by
 refine az hG ag2 ?_
 cases l with
 |nil=>exact af rfl (mZ (by omega) fun j hj=>by cases j<;>rfl)
 |cons x r=>exact ag rfl (af (fits (by simp at hl ⊢;omega)) rfl)
theorem ah8(hG:G 128 Oi=none)(l:List ai)(hl:l.length≤50000000):FX G 128 Oi ((l,()),())=some ((l,()),()):=by
 refine az hG ag3 ?_
 cases l with
 |nil=>exact af rfl (mZ (by omega) fun j hj=>by cases j<;>rfl)
 |cons x r=>exact ag rfl (af (fits (by simp at hl ⊢;omega)) rfl)
theorem YL(hG:G 110 zF=none)(l:List ae)(hl:l.length≤50000000):FX G 110 zF ((l,()),())=some ((l,()),()):=by
 refine az hG ag4 ?_
 cases l with
 |nil=>exact af rfl (mZ (by omega) fun j hj=>by cases j<;>rfl)
 |cons x r=>exact ag rfl (af (fits (by simp at hl ⊢;omega)) rfl)
theorem VA(hG:G 97 Ia=none)(l:List aB)(hl:l.length≤50000000):FX G 97 Ia ((l,()),())=some ((l,()),()):=by
 refine az hG agJ ?_
 cases l with
 |nil=>exact af rfl (mZ (by omega) fun j hj=>by cases j<;>rfl)
 |cons x r=>exact ag rfl (af (fits (by simp at hl ⊢;omega)) rfl)
theorem SH{α:Type}{l:List α}{i:Nat}{x:α}(h:l[i]? = some x):l.set i x=l:=by obtain⟨hi,he⟩:=aci.1 h;subst he;simp
theorem YM(hG:HG G)(d:aj)(hs:Sm d):FX G 96 FY ((d,()),())=some (((d.1,(d.2,())),()),()):=by
 have hv:=hs.v;have he:=hs.e;refine az (hG _ _ rfl) agI ?_;refine aa (ah7 (hG _ _ rfl) d.1 (by omega)) ?_;refine aa (ah8 (hG _ _ rfl) d.2 (by omega)) ?_;have loop:∀(n i:Nat) (out:List ah),i+n=d.1.length→out=d.1→LX G 96 FY Tryz.f96 Ce (aO Tryz.prog 96 0) ((((d.1.length:Nat):Int),((i:Int),())),(((([]:List ah),(([]:List ai),())),((out,(d.2,())),())),()))=some (((d.1,(d.2,())),()),()):=by
  intro n
  induction n with
  |zero =>intro i out hi ho;subst ho;refine ao RL ?_;exact ag (decide_eq_false (show ¬((i:Int)<((d.1.length:Nat):Int)) by omega)) rfl
  |succ n ih =>
   intro i out hi ho;have nJ:=ho;subst ho;refine ao RL ?_;have aF:i<d.1.length:=by omega
   have hx:d.1[i]? = some d.1[i]:=aaY aF;refine af (aY aF) ?_;refine af (c8 (fi i) (aY aF)) ?_;refine aa hx ?_;refine aa (YL (hG _ _ rfl) d.1[i].2.1 (hs.r _ (adv aF))) ?_;refine af (c8 (fi i) (aY aF)) ?_;refine aa hx ?_;rw[wI,aD aF (show d.1.length≤1073741824 by omega)];exact ih (i+1) (d.1.set i d.1[i]) (by omega) (SH hx)
 exact loop d.1.length 0 d.1 (by omega) rfl
def qv(w:ba)(v:ah):Int×ba :=if(bg w.1 v.1).isSome=true then(12,w) else if 24≤w.1.length then(3,w) else(0,(eL v w.1,w.2))
def EI(w:ba)(x:ID):Int×ba:=match bg w.1 x with
 |none=>(13,w)
 |some v=>if 0<v.2.1.length then(14,w) else(0,(dE w.1 x,w.2))
theorem YN(hG:HG G)(w:ba)(v:ah)(hs:b8 w.1)(hl:w.1.length≤50000000):FX G 152 Ie ((v,()),(w,()))=some (((qv w v).1,()),((qv w v).2,())):=by
 refine az (hG _ _ rfl) ahd ?_;refine aa (qu hG w v.1 hs hl) ?_;unfold qv
 cases hf:(bg w.1 v.1).isSome
 ·rw[if_neg (by simp)];refine ag ((fR hs).trans hf) ?_;by_cases h2:24≤w.1.length
  ·rw[if_pos h2];exact af (decide_eq_true (show((w.1.length:Nat):Int)≥24 by omega)) rfl
  ·rw[if_neg h2];refine ag (decide_eq_false (show ¬((w.1.length:Nat):Int)≥24 by omega)) ?_;have hc:=Gy w.1 v.1;have mF:qI w.1 ((bJ w.1 v.1:Nat):Int) [v]=true:=by unfold qI;rw[decide_eq_true (show(0:Int)≤((bJ w.1 v.1:Nat):Int) by omega),decide_eq_true (show((bJ w.1 v.1:Nat):Int)≤((w.1.length:Nat):Int) by omega)];rw[fits (by simp;omega)];rfl
   refine af mF ?_;have e:gj w.1 ((bJ w.1 v.1:Nat):Int) [v]=eL v w.1:=by rw[IZ v hs (by simpa using hf)];unfold gj;simp
   exact congrArg (fun l:List ah=>some (((0:Int),()),((l,w.2),()))) e
 ·rw[if_pos rfl];exact af ((fR hs).trans hf) rfl
theorem ah9(hG:HG G)(w:ba)(o:aR)(hs:b8 w.1)(hl:w.1.length≤50000000):FX G 153 Rc ((o,()),(w,()))=some (((EI w (aH o)).1,()),((EI w (aH o)).2,())):=by
 refine az (hG _ _ rfl) ahe ?_;refine aa (qu hG w (aH o) hs hl) ?_;unfold EI;have hth:=fR (x:=aH o) hs;have kK:=sF (x:=aH o) hs
 cases hf:bg w.1 (aH o) with
 |none =>rw[hf]at hth;refine af (show(!(decide ((w.1[bJ w.1 (aH o)]?).map (·.1)=some (aH o))))=true by rw[hth];rfl) rfl
 |some v =>
  rw[hf]at hth kK;refine ag (show(!(decide ((w.1[bJ w.1 (aH o)]?).map (·.1)=some (aH o))))=false by rw[hth];rfl) ?_;have hx:w.1[bJ w.1 (aH o)]? = some v:=by
   cases hg:w.1[bJ w.1 (aH o)]? with
   |none=>rw[hg]at kK;simp[Option.filter]at kK
   |some u =>
    rw[hg]at kK;simp only[Option.filter]at kK
    split at kK
    ·exact kK.symm
    ·cases kK
  have aF:=(aci.1 hx).1;refine af (c8 (fi _) (aY aF)) ?_;refine aa hx ?_;show _=some ((((if 0<v.2.1.length then(14,w) else(0,(dE w.1 (aH o),w.2)):Int×ba).1,()),((if 0<v.2.1.length then(14,w) else(0,(dE w.1 (aH o),w.2)):Int×ba).2,())):(Int×Unit)×(ba×Unit));by_cases h2:0<v.2.1.length
  ·rw[if_pos h2];exact af (decide_eq_true (show((v.2.1.length:Nat):Int)>0 by omega)) rfl
  ·rw[if_neg h2];refine ag (decide_eq_false (show ¬((v.2.1.length:Nat):Int)>0 by omega)) ?_;have hw:IntKind.wrap .i64 (((bJ w.1 (aH o):Nat):Int)+1)=((bJ w.1 (aH o)+1:Nat):Int):=aD aF (by omega);have mF:jG w.1 ((bJ w.1 (aH o):Nat):Int) (IntKind.wrap .i64 (((bJ w.1 (aH o):Nat):Int)+1))=true:=by rw[hw];unfold jG;rw[decide_eq_true (show(0:Int)≤((bJ w.1 (aH o):Nat):Int) by omega),decide_eq_true (show((bJ w.1 (aH o):Nat):Int)<((bJ w.1 (aH o)+1:Nat):Int) by omega),decide_eq_true (show((bJ w.1 (aH o)+1:Nat):Int)≤((w.1.length:Nat):Int) by omega),fits (by omega)];rfl
   refine af mF ?_;have e:dy w.1 ((bJ w.1 (aH o):Nat):Int) (IntKind.wrap .i64 (((bJ w.1 (aH o):Nat):Int)+1))=dE w.1 (aH o):=by rw[hw,xH hs (by rw[hf];rfl)];unfold dy;simp only[Int.toNat_natCast]
   exact congrArg (fun l:List ah=>some (((0:Int),()),((l,w.2),()))) e
def zW:ba:=([],([],([],())))
def aP(s:StateT):ba:=(s.1.1,(s.1.2,(s.2,())))
def Ap(w:ba):StateT:=((w.1,w.2.1),w.2.2.1)
def gF(e:Int)(w:ba):StateT×(Int×Unit):=if e≠0 then(zS,(e,())) else(Ap w,(0,()))
theorem aia(hG:HG G)(s:StateT)(o:aR)(hs:Sm s.1)(hg:s.2.length≤50000000){e:Int}{w:ba}(h:FX G 131 BD ((o,()),(aP s,()))=some ((e,()),(w,()))) :
  FX G 103 DJ ((s,[o],()),())=some (gF e w,()):=by
 refine az (hG _ _ rfl) aa0 ?_;refine aa (YM hG s.1 hs) ?_;refine aa (VA (hG _ _ rfl) s.2 hg) ?_;refine ao F6 ?_;refine af rfl (aa (a:=o) rfl ?_);refine aa h ?_;unfold gF;by_cases he:e=0
 ·rw[if_neg (by simp[he])];refine ag (show(e != 0)=false by simp[he]) ?_;refine ao F6 ?_;exact ag rfl rfl
 ·rw[if_pos he];exact af (show(e != 0)=true by simp[he]) rfl
def SI(k:Int)(x:ID):aR:=(k,(x,(zI,(zI,(zC,(zC,(false,(e0,0))))))))
def akq(x:ID):Int:=if cd x=true then 0 else 1
theorem VB(hG:HG G)(s:StateT)(o:aR){b:Int}(h:FX G 104 KO ((o,()),())=some ((b,()),()))(hs:Sm s.1)(hg:s.2.length≤50000000){e:Int}{w:ba} (h2:b=0→FX G 131 BD ((o,()),(aP s,()))=some ((e,()),(w,()))):FX G 73 HZ ((s,o,()),())=some ((if b≠0 then(zS,(b,())) else gF e w),()):=by
 refine az (hG _ _ rfl) aaZ ?_;refine aa h ?_;by_cases hb:b=0
 ·rw[if_neg (by simp[hb])];refine ag (show(b != 0)=false by simp[hb]) ?_;exact aa (aia hG s o hs hg (h2 hb)) rfl
 ·rw[if_pos hb];exact af (show(b != 0)=true by simp[hb]) rfl
def shS:StateT:=(([((1,1),([],(e0,0)))],[]),[])
end Go.Vs
namespace Go.Vs
open Go.Proofs
theorem b8.map{l:List ah}(h:b8 l){f:ah→ah}(hf:∀v,(f v).1=v.1):b8 (l.map f):=by unfold b8 at h ⊢;rw[List.pairwise_map];exact h.imp fun {a b} mH=>by rw[hf,hf];exact mH
theorem oP{x:ID}{f:ah→ah}(hf:∀v,(f v).1=v.1):∀(l:List ah),bg (l.map f) x=(bg l x).map f
 |[]=>rfl
 |w::r=>by
  unfold bg;rw[List.map_cons,List.find?_cons,List.find?_cons,hf];have:=oP (x:=x) hf r;unfold bg at this
  cases decide (w.1=x) with
  |true=>rfl
  |false=>exact this
theorem rE(x:ID)(l:List ae)(w:ah):(sB x l w).1=w.1:=by unfold sB;split<;>rfl
theorem MO(o:aR)(w:ah):(je o w).1=w.1:=by unfold je;split<;>(try split)<;>rfl
structure Iv(d:aj):Prop where
 s:b8 d.1
 n:d.1.length≤24
theorem Iv.zero:Iv zS.1:=⟨List.Pairwise.nil,by simp[zS]⟩
theorem Iv.cm{d:aj}(h:Iv d)(x:ID)(l:List ae):Iv (cm d x l):=⟨h.s.map (rE x l),by unfold Vs.cm;simp;exact h.n⟩
theorem Iv.bj{d:aj}(h:Iv d)(v e:ID):Iv (bj d v e):=⟨qa h.s,adC (aew _ _) h.n⟩
theorem Iv.one{s:StateT}(h:Iv s.1)(o:aR):Iv (c7 s o).1.1:=by
 unfold c7
 split;· exact Iv.zero
 split
 ·unfold qt
  split;· exact Iv.zero
  split;· exact Iv.zero
  rename_i h1 h2;exact⟨oO _ h.s (by simpa[aQ] using h1),by rw[gD];omega⟩
 split
 ·unfold zh
  split
  ·exact Iv.zero
  ·split
   ·exact Iv.zero
   ·exact h.bj _ _
 split
 ·unfold oM
  split;· exact Iv.zero
  split;· exact Iv.zero
  split;· exact Iv.zero
  split;· exact Iv.zero
  split;· exact Iv.zero
  have h1:Iv (s.1.1,dA (aH o,(e0,0)) s.1.2):=⟨h.s,h.n⟩;exact(h1.cm _ _).cm _ _
 split
 ·unfold DQ
  split;· exact Iv.zero
  exact((h.cm _ _).cm _ _).bj _ _
 split
 ·unfold mw
  split;· exact Iv.zero
  split;· exact Iv.zero
  split;· exact Iv.zero
  split;· exact Iv.zero
  split;· exact Iv.zero
  rename_i h1 h2 h3 h4 h5;have h6:bg s.1.1 (dQ o)=none:=by simpa[aQ] using h2
  have h7:bg (aK s.1 (J4 o) (au (G2 o))).1 (dQ o)=none:=by unfold aK Vs.cm;rw[oP (rE _ _),h6];rfl
  refine⟨oO _ (h.cm _ _).s h7,?_⟩;unfold SA;rw[gD];have:(aK s.1 (J4 o) (au (G2 o))).1.length=s.1.1.length:=by unfold aK Vs.cm;simp
  omega
 split
 ·unfold kh;have key:∀a b:ae,Iv (K9 s o a b):=fun a b=>((h.bj _ _).cm _ _).bj _ _
  split
  ·exact Iv.zero
  ·split
   ·unfold jz
    split;· exact Iv.zero
    split;· exact key _ _
    split;· exact key _ _
    exact Iv.zero
   ·exact Iv.zero
 ·unfold xD
  split
  ·exact⟨h.s.map (MO o),by simp;exact h.n⟩
  ·exact Iv.zero
theorem Iv.go:∀(l:List aR) {s:StateT},Iv s.1→Iv (p7 l s).1.1
 |[],s,h=>h
 |o::r,s,h=>by
  unfold p7
  split
  ·exact Iv.zero
  ·exact Iv.go r (h.one o)
theorem Iv.try{s:StateT}(h:Iv s.1)(l:List aR):Iv (mO s l).1:=by
 unfold mO
 split
 ·exact h
 ·unfold c6
  split
  ·exact Iv.zero
  ·exact Iv.go l h
theorem Iv.reach:∀(m:Nat) (l:List (List aR)) {s:StateT},Iv s.1→Iv (my m l s).1
 |0,_,s,h=>by simpa[my] using h
 |m+1,[],s,h=>h
 |m+1,l::r,s,h=>by rw[my];exact Iv.reach m r (h.try _)
theorem Iv.MN(l:List (List aR)):Iv (CA l).1:=Iv.reach 30 l Iv.zero
end Go.Vs
