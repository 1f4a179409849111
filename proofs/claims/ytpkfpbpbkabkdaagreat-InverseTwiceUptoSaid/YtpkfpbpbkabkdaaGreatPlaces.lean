/- What the program computes at -/
import Derived.Test.YtpkfpbpbkabkdaaGreatRefB
set_option linter.unusedVariables false
set_option linter.unusedSimpArgs false
namespace Go.Vs
open Go.Proofs
variable {G:(f:FuncId)→(g:aX)→Option (g.A→Option g.B)}
theorem RY(hG:G 159 tp=none)(x:ID):FX G 159 tp ((x,()),())=some ((cz x,()),()):=by refine aB hG akG ?_;obtain⟨a,b⟩:=x;show(cond (decide (a≥1)) (cond (decide (a≤8)) (cond (decide (b≥1)) (some ((decide (b≤1048576),()),())) (some ((false,()),()))) (some ((false,()),()))) (some ((false,()),())):Option ((Bool×Unit)×Unit))=some ((cz (a,b),()),());unfold cz;simp only[cond_eq_ite];by_cases h1:(1:Int)≤a<;>by_cases h2:a≤8<;>by_cases h3:(1:Int)≤b<;>simp[h1,h2,h3]
theorem aaK(hG:G 235 Ef=none)(n:Int):FX G 235 Ef ((n,()),())=some ((false,()),()):=by refine aB hG ae3 ?_;exact congrArg (fun b:Bool=>some ((b,()),())) (show(n != n)=false by simp)
def N0(a b:Int):Int:=if a<b then -1 else if a>b then 1 else 0
theorem VO(hG:HG G)(a b:Int):FX G 219 Ed ((a,b,()),())=some ((N0 a b,()),()):=by
 refine aB (hG _ _ rfl) aeX ?_;refine aa (aaK (hG _ _ rfl) a) ?_;refine aa (aaK (hG _ _ rfl) b) ?_;refine ag rfl (ag rfl ?_);unfold N0;by_cases h1:a<b
 ·rw[if_pos h1];exact af (decide_eq_true h1) rfl
 rw[if_neg h1];refine ag (decide_eq_false h1) ?_;by_cases h2:a>b
 ·rw[if_pos h2];exact af (decide_eq_true h2) rfl
 rw[if_neg h2];exact ag (decide_eq_false h2) rfl
theorem aaL(hG:G 218 xV=none)(a b:Int):FX G 218 xV (([a,b],()),())=some ((if a≠0 then a else b,()),()):=by
 refine aB hG aeW ?_;by_cases ha:a=0
 ·rw[if_neg (by simp[ha])];refine aw CC ?_;refine af rfl (aa (a:=a) rfl ?_);refine ag (show(a != 0)=false by simp[ha]) ?_;refine aw CC ?_;refine af rfl (aa (a:=b) rfl ?_);by_cases hb:b=0
  ·refine ag (show(b != 0)=false by simp[hb]) ?_;refine aw CC ?_;rw[hb];exact ag rfl rfl
  ·exact af (show(b != 0)=true by simp[hb]) rfl
 ·rw[if_pos ha];refine aw CC ?_;refine af rfl (aa (a:=a) rfl ?_);exact af (show(a != 0)=true by simp[ha]) rfl
theorem VP(hG:HG G)(a b:ID):FX G 208 Eb ((a,b,()),())=some ((rH a b,()),()):=by
 refine aB (hG _ _ rfl) aeK ?_;unfold rH;by_cases h:a=b
 ·rw[if_pos h];exact af ((jl a b).trans (decide_eq_true h)) rfl
 rw[if_neg h];refine ag ((jl a b).trans (decide_eq_false h)) ?_;refine aa (VO hG a.1 b.1) ?_;refine aa (VO hG a.2 b.2) ?_;refine aa (aaL (hG _ _ rfl) (N0 a.1 b.1) (N0 a.2 b.2)) ?_;refine congrArg (fun n:Int=>some ((n,()),())) ?_;obtain⟨a1,a2⟩:=a;obtain⟨b1,b2⟩:=b;unfold N0 gm;simp only[Prod.mk.injEq,not_and]at h;simp only;by_cases h1:a1<b1
 ·simp[h1]
 ·by_cases h2:a1>b1
  ·have:¬a1=b1:=by omega
   simp[h1,h2,this]
  ·have h3:a1=b1:=by omega
   have h4:=h h3;subst h3;by_cases h5:a2<b2
   ·simp[h5]
   ·have:a2>b2:=by omega
    simp[h5,this]
theorem aaM(hG:HG G)(v:ai)(x:ID):FX G 207 Hf ((v,x,()),())=some ((rH v.1 x,()),()):=by refine aB (hG _ _ rfl) aeJ ?_;exact aa (VP hG v.1 x) rfl
theorem N1{i j:Nat}(hi:i≤1000000000)(hj:j≤1000000000):IntKind.wrap .i64 (mD .u64 (IntKind.wrap .u64 (IntKind.wrap .i64 ((i:Int)+(j:Int)))) (1:Int))=(((i+j) / 2:Nat):Int):=by
 have e1:IntKind.wrap .i64 ((i:Int)+(j:Int))=((i+j:Nat):Int):=by rw[wrap_small (by omega) (by omega)];rfl
 have e2:IntKind.wrap .u64 ((i+j:Nat):Int)=((i+j:Nat):Int):=by unfold IntKind.wrap;simp[IntKind.bits,IntKind.signed];omega
 have e3:mD .u64 ((i+j:Nat):Int) 1=(((i+j) / 2:Nat):Int):=by
  unfold mD;have:(min (Int.toNat 1) IntKind.u64.bits)=1:=by decide
  rw[this,Int.fdiv_eq_ediv_of_nonneg _ (by omega)];rfl
 rw[e1,e2,e3,wrap_small (by omega) (by omega)]
def bQ(l:List ai)(x:ID):Nat:=l.countP fun v=>gm v.1 x
def cd(l:List ai):Prop:=l.Pairwise fun a b=>gm a.1 b.1=true
theorem iG{a b c:ID}(h:gm a b=true)(k:gm b c=true):gm a c=true:=by simp[gm]at *;omega
theorem jR{a b:ID}(h:gm a b=true):gm b a=false:=by simp[gm]at *;omega
theorem mZ{a b:ID}(h:gm a b=false)(k:a≠b):gm b a=true:=by obtain⟨a1,a2⟩:=a;obtain⟨b1,b2⟩:=b;simp[gm]at *;omega
theorem Jp(l:List ai)(x:ID):bQ l x≤l.length:=adu
theorem uJ{l:List ai}{x:ID}(h:∀v∈l,gm v.1 x=false):bQ l x=0:=by unfold bQ;rw[List.countP_eq_zero];intro v hv;simp[h v hv]
theorem Am{x:ID}:∀{l:List ai},cd l→∀(k:Nat) (v:ai),l[k]? = some v→(gm v.1 x=true↔k<bQ l x)
 |[],_,k,v,h=>by simp at h
 |w::r,hs,k,v,h=>by
  have hw:∀{u:ai},u∈r→gm w.1 u.1=true:=fun {u} hu=>acF hs hu;have hr:cd r:=hs.of_cons;by_cases aG:gm w.1 x=true
  ·have e:bQ (w::r) x=bQ r x+1:=by unfold bQ;rw[List.countP_cons_of_pos (by simpa using aG)]
   cases k with
   |zero=>simp at h;subst h;simp[aG,e]
   |succ k=>have:=Am (x:=x) hr k v (by simpa using h);rw[this,e];omega
  ·have hn:∀u∈w::r,gm u.1 x=false:=fun u hu=>by
    rcases abd.1 hu with rfl|hu
    ·simpa using aG
    ·rw[Bool.eq_false_iff];intro h2;exact aG (iG (hw hu) h2)
   rw[uJ hn,hn v (List.mem_of_getElem? h)];simp
theorem VQ(hG:HG G)(l:List ai)(x:ID)(hs:cd l)(hl:l.length≤50000000):∀(n i j:Nat),j-i≤n→i≤bQ l x→bQ l x≤j→j≤l.length → LX G 208206 kh Tryz.f206 jG (aS Tryz.prog 206 0) ((l,(((l.length:Nat):Int),((i:Int),((j:Int),())))),(((x,()),()),()))=some (((((bQ l x:Nat):Int),(decide ((l[bQ l x]?).map (·.1)=some x),())):Int×(Bool×Unit)),()):=by
 have uf:=Jp l x;have fin:∀(i j:Nat),¬(i<j)→i≤bQ l x→bQ l x≤j→LX G 208206 kh Tryz.f206 jG (aS Tryz.prog 206 0) ((l,(((l.length:Nat):Int),((i:Int),((j:Int),())))),(((x,()),()),()))=some (((((bQ l x:Nat):Int),(decide ((l[bQ l x]?).map (·.1)=some x),())):Int×(Bool×Unit)),()):=fun i j Ck h1 h2=>by
  have hi:i=bQ l x:=by omega
  subst hi;refine aw EE ?_;refine ag (decide_eq_false (show ¬(((bQ l x:Nat):Int)<(j:Int)) by omega)) ?_;by_cases hc:bQ l x<l.length
  ·have hx:l[bQ l x]? = some l[bQ l x]:=aa4 hc;refine af (ba hc) ?_;refine aa (aC hx) ?_;refine aa (aaM hG l[bQ l x] x) ?_;refine congrArg (fun b:Bool=>some ((((bQ l x:Nat):Int),(b,())),())) ?_;rw[hx];unfold rH;by_cases he:l[bQ l x].1=x
   ·simp[he]
   ·simp[he];split<;>simp
  ·refine ag (decide_eq_false (show ¬(((bQ l x:Nat):Int)<((l.length:Nat):Int)) by omega)) ?_;refine congrArg (fun b:Bool=>some ((((bQ l x:Nat):Int),(b,())),())) ?_;rw[List.getElem?_eq_none (by omega)];simp
 intro n
 induction n with
 |zero=>intro i j Ck h1 h2 h3;exact fin i j (by omega) h1 h2
 |succ n ih =>
  intro i j Ck h1 h2 h3;by_cases aG:i<j
  case neg=>exact fin i j aG h1 h2
  refine aw EE ?_;refine af (decide_eq_true (show((i:Int)<(j:Int)) by omega)) ?_;refine ag rfl ?_;have hm:=N1 (i:=i) (j:=j) (by omega) (by omega);have hh:(i+j) / 2<l.length:=by omega
  have hx:l[(i+j) / 2]? = some l[(i+j) / 2]:=aa4 hh;have qm:=Am (x:=x) hs ((i+j) / 2) _ hx;refine aa (show bh l (IntKind.wrap .i64 (mD .u64 (IntKind.wrap .u64 (IntKind.wrap .i64 ((i:Int)+(j:Int)))) (1:Int)))=some l[(i+j) / 2] by rw[hm];exact aC hx) ?_;refine aa (aaM hG l[(i+j) / 2] x) ?_;by_cases ho:gm l[(i+j) / 2].1 x=true
  ·refine af (decide_eq_true ((lC _ _).2 ho)) ?_;have hc:=qm.1 ho;have hw:IntKind.wrap .i64 (IntKind.wrap .i64 (mD .u64 (IntKind.wrap .u64 (IntKind.wrap .i64 ((i:Int)+(j:Int)))) (1:Int))+1)=(((i+j) / 2+1:Nat):Int):=by rw[hm];exact aI hh (by omega)
   have:=ih ((i+j) / 2+1) j (by omega) (by omega) h2 h3;rw[←hw]at this;exact this
  ·refine ag (decide_eq_false (fun h=>ho ((lC _ _).1 h))) ?_;have hc:¬(i+j) / 2<bQ l x:=fun h=>ho (qm.2 h);have:=ih i ((i+j) / 2) (by omega) h1 (by omega) (by omega);rw[←hm]at this;exact this
theorem VR(hG:HG G)(l:List ai)(x:ID)(hs:cd l)(hl:l.length≤50000000) :
  FX G 208206 kh ((l,x,()),())=some (((((bQ l x:Nat):Int),(decide ((l[bQ l x]?).map (·.1)=some x),())):Int×(Bool×Unit)),()):=by
 refine aB (hG _ _ rfl) Vk ?_;exact VQ hG l x hs hl l.length 0 l.length (by omega) (by omega) (Jp l x) (ack _)
theorem so(hG:HG G)(w:bg)(x:ID)(hs:cd w.1)(hl:w.1.length≤50000000) :
  FX G 175 si ((x,()),(w,()))=some (((((bQ w.1 x:Nat):Int),(decide ((w.1[bQ w.1 x]?).map (·.1)=some x),())):Int×(Bool×Unit)),(w,())):=by
 refine aB (hG _ _ rfl) aev ?_;exact aa (VR hG w.1 x hs hl) rfl
theorem uK{x:ID}:∀{l:List ai},cd l→aN l x=(l[bQ l x]?).filter fun v=>decide (v.1=x)
 |[],_=>rfl
 |w::r,hs=>by
  have hw:∀{u:ai},u∈r→gm w.1 u.1=true:=fun {u} hu=>acF hs hu;have hr:cd r:=hs.of_cons;by_cases aG:gm w.1 x=true
  ·have e:bQ (w::r) x=bQ r x+1:=by unfold bQ;rw[List.countP_cons_of_pos (by simpa using aG)]
   have bq:¬w.1=x:=fun e=>by rw[e,cv]at aG;cases aG
   rw[e];simp only[aN,List.find?_cons,bq,decide_false,List.getElem?_cons_succ];exact uK hr
  ·have hn:∀u∈w::r,gm u.1 x=false:=fun u hu=>by
    rcases abd.1 hu with rfl|hu
    ·simpa using aG
    ·rw[Bool.eq_false_iff];intro h2;exact aG (iG (hw hu) h2)
   rw[uJ hn];by_cases he:w.1=x
   ·simp[aN,List.find?_cons,he,Option.filter]
   ·have MT:gm x w.1=true:=mZ (by simpa using aG) he;have:aN r x=none:=by
     unfold aN;rw[List.find?_eq_none];intro u hu h2;have h3:u.1=x:=by simpa using h2
     have h4:=hw hu;rw[h3]at h4;have:=jR h4;rw[MT]at this;cases this
    rw[show aN (w::r) x=aN r x by simp only[aN,List.find?_cons,he,decide_false],this];simp[he,Option.filter]
theorem gW{l:List ai}{x:ID}(hs:cd l):decide ((l[bQ l x]?).map (·.1)=some x)=(aN l x).isSome:=by
 rw[uK hs]
 cases h:l[bQ l x]? with
 |none=>simp
 |some v=>by_cases he:v.1=x<;>simp[he,Option.filter]
theorem LK(v:ai):∀{l:List ai},cd l→aN l v.1=none→ct v l=l.take (bQ l v.1)++(v::l.drop (bQ l v.1))
 |[],_,_=>rfl
 |w::r,hs,hf=>by
  have hw:∀{u:ai},u∈r→gm w.1 u.1=true:=fun {u} hu=>acF hs hu;have hr:cd r:=hs.of_cons;have bq:¬w.1=v.1:=fun e=>by simp[aN,e]at hf
  have zO:aN r v.1=none:=by simpa[aN,List.find?_cons,bq] using hf
  by_cases aG:gm w.1 v.1=true
  ·have e:bQ (w::r) v.1=bQ r v.1+1:=by unfold bQ;rw[List.countP_cons_of_pos (by simpa using aG)]
   have hge:gm v.1 w.1=false:=jR aG;rw[e,ct,if_neg (by simp[hge]),LK v hr zO];rfl
  ·have hn:∀u∈w::r,gm u.1 v.1=false:=fun u hu=>by
    rcases abd.1 hu with rfl|hu
    ·simpa using aG
    ·rw[Bool.eq_false_iff];intro h2;exact aG (iG (hw hu) h2)
   have MT:gm v.1 w.1=true:=mZ (by simpa using aG) bq;rw[uJ hn,ct,if_pos MT];rfl
theorem Ao{x:ID}:∀{l:List ai},cd l→(aN l x).isSome=true→bE l x=l.take (bQ l x)++l.drop (bQ l x+1)
 |[],_,hf=>by simp[aN]at hf
 |w::r,hs,hf=>by
  have hw:∀{u:ai},u∈r→gm w.1 u.1=true:=fun {u} hu=>acF hs hu;have hr:cd r:=hs.of_cons;by_cases he:w.1=x
  ·have hn:∀u∈w::r,gm u.1 x=false:=fun u hu=>by
    rcases abd.1 hu with rfl|hu
    ·rw[he,cv]
    ·rw[←he];exact jR (hw hu)
   have fX:bE r x=r:=by unfold bE;rw[List.filter_eq_self];intro u hu;have h4:=hw hu;simp;intro e2;rw[he,e2,cv]at h4;cases h4
   rw[uJ hn];unfold bE;rw[List.filter_cons_of_neg (by simp[he])];exact fX
  ·have zO:(aN r x).isSome=true:=by simpa[aN,List.find?_cons,he] using hf
   have aG:gm w.1 x=true:=by
    obtain⟨u,hu⟩:=abC.1 zO;have h1:=acq hu;have h2:u.1=x:=by simpa using adm hu
    rw[←h2];exact hw h1
   have e:bQ (w::r) x=bQ r x+1:=by unfold bQ;rw[List.countP_cons_of_pos (by simpa using aG)]
   rw[e];have:=Ao hr zO;simp[bE,List.filter_cons,he]at this ⊢;exact this
theorem qE(v:ai):∀{l:List ai},cd l→aN l v.1=none→cd (ct v l)
 |[],_,_=>List.pairwise_singleton _ _
 |w::r,hs,hf=>by
  have hw:∀{u:ai},u∈r→gm w.1 u.1=true:=fun {u} hu=>acF hs hu;have hr:cd r:=hs.of_cons;have bq:¬w.1=v.1:=fun e=>by simp[aN,e]at hf
  have zO:aN r v.1=none:=by simpa[aN,List.find?_cons,bq] using hf
  unfold ct
  split
  ·rename_i h;refine List.Pairwise.cons (fun u hu=>?_) hs;rcases abd.1 hu with rfl|hu
   ·exact h
   ·exact iG h (hw hu)
  ·rename_i h;have aG:gm w.1 v.1=true:=mZ (by simpa using h) (fun e=>bq e.symm);refine List.Pairwise.cons (fun u hu=>?_) (qE v hr zO);rcases kx.1 hu with rfl|hu
   ·exact aG
   ·exact hw hu
theorem kY{l:List ai}{x:ID}(hs:cd l):cd (bE l x):=hs.filter _
theorem alF(hG:G 127 RF=none)(l:List ai)(hl:l.length≤50000000):FX G 127 RF ((l,()),())=some ((l,()),()):=by
 refine aB hG akz ?_
 cases l with
 |nil=>exact af rfl (oW (by omega) fun j hj=>by cases j<;>rfl)
 |cons x r=>exact ag rfl (af (fits (by simp at hl ⊢;omega)) rfl)
theorem alG(hG:G 128 RG=none)(l:List an)(hl:l.length≤50000000):FX G 128 RG ((l,()),())=some ((l,()),()):=by
 refine aB hG akA ?_
 cases l with
 |nil=>exact af rfl (oW (by omega) fun j hj=>by cases j<;>rfl)
 |cons x r=>exact ag rfl (af (fits (by simp at hl ⊢;omega)) rfl)
theorem abZ(hG:G 110 B7=none)(l:List ae)(hl:l.length≤50000000):FX G 110 B7 ((l,()),())=some ((l,()),()):=by
 refine aB hG akB ?_
 cases l with
 |nil=>exact af rfl (oW (by omega) fun j hj=>by cases j<;>rfl)
 |cons x r=>exact ag rfl (af (fits (by simp at hl ⊢;omega)) rfl)
theorem YQ(hG:G 97 K0=none)(l:List aE)(hl:l.length≤50000000):FX G 97 K0 ((l,()),())=some ((l,()),()):=by
 refine aB hG akg ?_
 cases l with
 |nil=>exact af rfl (oW (by omega) fun j hj=>by cases j<;>rfl)
 |cons x r=>exact ag rfl (af (fits (by simp at hl ⊢;omega)) rfl)
theorem LL{α:Type}{l:List α}{i:Nat}{x:α}(h:l[i]? = some x):l.set i x=l:=by obtain⟨hi,he⟩:=aa2.1 h;subst he;simp
theorem ab0(hG:HG G)(d:ak)(hs:Sm d):FX G 96 IT ((d,()),())=some (((d.1,(d.2,())),()),()):=by
 have hv:=hs.v;have he:=hs.e;refine aB (hG _ _ rfl) akf ?_;refine aa (alF (hG _ _ rfl) d.1 (by omega)) ?_;refine aa (alG (hG _ _ rfl) d.2 (by omega)) ?_;have loop:∀(n i:Nat) (out:List ai),i+n=d.1.length→out=d.1→LX G 96 IT Tryz.f96 EA (aS Tryz.prog 96 0) ((((d.1.length:Nat):Int),((i:Int),())),(((([]:List ai),(([]:List an),())),((out,(d.2,())),())),()))=some (((d.1,(d.2,())),()),()):=by
  intro n
  induction n with
  |zero =>intro i out hi ho;subst ho;refine aw UZ ?_;exact ag (decide_eq_false (show ¬((i:Int)<((d.1.length:Nat):Int)) by omega)) rfl
  |succ n ih =>
   intro i out hi ho;have pG:=ho;subst ho;refine aw UZ ?_;have aG:i<d.1.length:=by omega
   have hx:d.1[i]? = some d.1[i]:=aa4 aG;refine af (ba aG) ?_;refine af (dp (gr i) (ba aG)) ?_;refine aa hx ?_;refine aa (abZ (hG _ _ rfl) d.1[i].2.1 (hs.r _ (acm aG))) ?_;refine af (dp (gr i) (ba aG)) ?_;refine aa hx ?_;rw[wI,aI aG (show d.1.length≤1073741824 by omega)];exact ih (i+1) (d.1.set i d.1[i]) (by omega) (LL hx)
 exact loop d.1.length 0 d.1 (by omega) rfl
def sq(w:bg)(v:ai):Int×bg :=if(aN w.1 v.1).isSome=true then(12,w) else if 24≤w.1.length then(3,w) else(0,(ct v w.1,w.2))
def Ht(w:bg)(x:ID):Int×bg:=match aN w.1 x with
 |none=>(13,w)
 |some v=>if 0<v.2.1.length then(14,w) else(0,(bE w.1 x,w.2))
theorem ab1(hG:HG G)(w:bg)(v:ai)(hs:cd w.1)(hl:w.1.length≤50000000):FX G 152 K3 ((v,()),(w,()))=some (((sq w v).1,()),((sq w v).2,())):=by
 refine aB (hG _ _ rfl) akK ?_;refine aa (so hG w v.1 hs hl) ?_;unfold sq
 cases hf:(aN w.1 v.1).isSome
 ·rw[if_neg (by simp)];refine ag ((gW hs).trans hf) ?_;by_cases h2:24≤w.1.length
  ·rw[if_pos h2];exact af (decide_eq_true (show((w.1.length:Nat):Int)≥24 by omega)) rfl
  ·rw[if_neg h2];refine ag (decide_eq_false (show ¬((w.1.length:Nat):Int)≥24 by omega)) ?_;have hc:=Jp w.1 v.1;have nE:sO w.1 ((bQ w.1 v.1:Nat):Int) [v]=true:=by unfold sO;rw[decide_eq_true (show(0:Int)≤((bQ w.1 v.1:Nat):Int) by omega),decide_eq_true (show((bQ w.1 v.1:Nat):Int)≤((w.1.length:Nat):Int) by omega)];rw[fits (by simp;omega)];rfl
   refine af nE ?_;have e:ij w.1 ((bQ w.1 v.1:Nat):Int) [v]=ct v w.1:=by rw[LK v hs (by simpa using hf)];unfold ij;simp
   exact congrArg (fun l:List ai=>some (((0:Int),()),((l,w.2),()))) e
 ·rw[if_pos rfl];exact af ((gW hs).trans hf) rfl
theorem alH(hG:HG G)(w:bg)(o:aW)(hs:cd w.1)(hl:w.1.length≤50000000):FX G 153 Ur ((o,()),(w,()))=some (((Ht w (au o)).1,()),((Ht w (au o)).2,())):=by
 refine aB (hG _ _ rfl) akL ?_;refine aa (so hG w (au o) hs hl) ?_;unfold Ht;have hth:=gW (x:=au o) hs;have l9:=uK (x:=au o) hs
 cases hf:aN w.1 (au o) with
 |none =>rw[hf]at hth;refine af (show(!(decide ((w.1[bQ w.1 (au o)]?).map (·.1)=some (au o))))=true by rw[hth];rfl) rfl
 |some v =>
  rw[hf]at hth l9;refine ag (show(!(decide ((w.1[bQ w.1 (au o)]?).map (·.1)=some (au o))))=false by rw[hth];rfl) ?_;have hx:w.1[bQ w.1 (au o)]? = some v:=by
   cases hg:w.1[bQ w.1 (au o)]? with
   |none=>rw[hg]at l9;simp[Option.filter]at l9
   |some u =>
    rw[hg]at l9;simp only[Option.filter]at l9
    split at l9
    ·exact l9.symm
    ·cases l9
  have aG:=(aa2.1 hx).1;refine af (dp (gr _) (ba aG)) ?_;refine aa hx ?_;show _=some ((((if 0<v.2.1.length then(14,w) else(0,(bE w.1 (au o),w.2)):Int×bg).1,()),((if 0<v.2.1.length then(14,w) else(0,(bE w.1 (au o),w.2)):Int×bg).2,())):(Int×Unit)×(bg×Unit));by_cases h2:0<v.2.1.length
  ·rw[if_pos h2];exact af (decide_eq_true (show((v.2.1.length:Nat):Int)>0 by omega)) rfl
  ·rw[if_neg h2];refine ag (decide_eq_false (show ¬((v.2.1.length:Nat):Int)>0 by omega)) ?_;have hw:IntKind.wrap .i64 (((bQ w.1 (au o):Nat):Int)+1)=((bQ w.1 (au o)+1:Nat):Int):=aI aG (by omega);have nE:kG w.1 ((bQ w.1 (au o):Nat):Int) (IntKind.wrap .i64 (((bQ w.1 (au o):Nat):Int)+1))=true:=by rw[hw];unfold kG;rw[decide_eq_true (show(0:Int)≤((bQ w.1 (au o):Nat):Int) by omega),decide_eq_true (show((bQ w.1 (au o):Nat):Int)<((bQ w.1 (au o)+1:Nat):Int) by omega),decide_eq_true (show((bQ w.1 (au o)+1:Nat):Int)≤((w.1.length:Nat):Int) by omega),fits (by omega)];rfl
   refine af nE ?_;have e:eg w.1 ((bQ w.1 (au o):Nat):Int) (IntKind.wrap .i64 (((bQ w.1 (au o):Nat):Int)+1))=bE w.1 (au o):=by rw[hw,Ao hs (by rw[hf];rfl)];unfold eg;simp only[Int.toNat_natCast]
   exact congrArg (fun l:List ai=>some (((0:Int),()),((l,w.2),()))) e
def zW:bg:=([],([],([],())))
def aT(s:StateT):bg:=(s.1.1,(s.1.2,(s.2,())))
def CL(w:bg):StateT:=((w.1,w.2.1),w.2.2.1)
def iy(e:Int)(w:bg):StateT×(Int×Unit):=if e≠0 then(zS,(e,())) else(CL w,(0,()))
theorem alI(hG:HG G)(s:StateT)(o:aW)(hs:Sm s.1)(hg:s.2.length≤50000000){e:Int}{w:bg}(h:FX G 131 D3 ((o,()),(aT s,()))=some ((e,()),(w,()))) :
  FX G 103 Gn ((s,[o],()),())=some (iy e w,()):=by
 refine aB (hG _ _ rfl) ael ?_;refine aa (ab0 hG s.1 hs) ?_;refine aa (YQ (hG _ _ rfl) s.2 hg) ?_;refine aw IZ ?_;refine af rfl (aa (a:=o) rfl ?_);refine aa h ?_;unfold iy;by_cases he:e=0
 ·rw[if_neg (by simp[he])];refine ag (show(e != 0)=false by simp[he]) ?_;refine aw IZ ?_;exact ag rfl rfl
 ·rw[if_pos he];exact af (show(e != 0)=true by simp[he]) rfl
def vG(k:Int)(x:ID):aW:=(k,(x,(zI,(zI,(zC,(zC,(false,(e0,0))))))))
def aoh(x:ID):Int:=if cz x=true then 0 else 1
theorem YR(hG:HG G)(s:StateT)(o:aW){b:Int}(h:FX G 104 ND ((o,()),())=some ((b,()),()))(hs:Sm s.1)(hg:s.2.length≤50000000){e:Int}{w:bg} (h2:b=0→FX G 131 D3 ((o,()),(aT s,()))=some ((e,()),(w,()))):FX G 73 KT ((s,o,()),())=some ((if b≠0 then(zS,(b,())) else iy e w),()):=by
 refine aB (hG _ _ rfl) aek ?_;refine aa h ?_;by_cases hb:b=0
 ·rw[if_neg (by simp[hb])];refine ag (show(b != 0)=false by simp[hb]) ?_;exact aa (alI hG s o hs hg (h2 hb)) rfl
 ·rw[if_pos hb];exact af (show(b != 0)=true by simp[hb]) rfl
def shS:StateT:=(([((1,1),([],(e0,0)))],[]),[])
end Go.Vs
namespace Go.Vs
open Go.Proofs
theorem cd.map{l:List ai}(h:cd l){f:ai→ai}(hf:∀v,(f v).1=v.1):cd (l.map f):=by unfold cd at h ⊢;rw[List.pairwise_map];exact h.imp fun {a b} mI=>by rw[hf,hf];exact mI
theorem iH{x:ID}{f:ai→ai}(hf:∀v,(f v).1=v.1):∀(l:List ai),aN (l.map f) x=(aN l x).map f
 |[]=>rfl
 |w::r=>by
  unfold aN;rw[List.map_cons,List.find?_cons,List.find?_cons,hf];have:=iH (x:=x) hf r;unfold aN at this
  cases decide (w.1=x) with
  |true=>rfl
  |false=>exact this
theorem pR(x:ID)(l:List ae)(w:ai):(iM x l w).1=w.1:=by unfold iM;split<;>rfl
theorem PT(o:aW)(w:ai):(fJ o w).1=w.1:=by unfold fJ;split<;>(try split)<;>rfl
structure Iv(d:ak):Prop where
 s:cd d.1
 n:d.1.length≤24
theorem Iv.zero:Iv zS.1:=⟨List.Pairwise.nil,by simp[zS]⟩
theorem Iv.b8{d:ak}(h:Iv d)(x:ID)(l:List ae):Iv (b8 d x l):=⟨h.s.map (pR x l),by unfold Vs.b8;simp;exact h.n⟩
theorem Iv.aF{d:ak}(h:Iv d)(v e:ID):Iv (aF d v e):=⟨kY h.s,acN (ac9 _ _) h.n⟩
theorem Iv.one{s:StateT}(h:Iv s.1)(o:aW):Iv (bT s o).1.1:=by
 unfold bT
 split;· exact Iv.zero
 split
 ·unfold l8
  split;· exact Iv.zero
  split;· exact Iv.zero
  rename_i h1 h2;exact⟨qE _ h.s (by simpa[aO] using h1),by rw[gu];omega⟩
 split
 ·unfold qD
  split
  ·exact Iv.zero
  ·split
   ·exact Iv.zero
   ·exact h.aF _ _
 split
 ·unfold kK
  split;· exact Iv.zero
  split;· exact Iv.zero
  split;· exact Iv.zero
  split;· exact Iv.zero
  split;· exact Iv.zero
  have h1:Iv (s.1.1,bS (au o,(e0,0)) s.1.2):=⟨h.s,h.n⟩;exact(h1.b8 _ _).b8 _ _
 split
 ·unfold wM
  split;· exact Iv.zero
  exact((h.b8 _ _).b8 _ _).aF _ _
 split
 ·unfold iS
  split;· exact Iv.zero
  split;· exact Iv.zero
  split;· exact Iv.zero
  split;· exact Iv.zero
  split;· exact Iv.zero
  rename_i h1 h2 h3 h4 h5;have h6:aN s.1.1 (b6 o)=none:=by simpa[aO] using h2
  have h7:aN (az s.1 (Jn o) (ah (F3 o))).1 (b6 o)=none:=by unfold az Vs.b8;rw[iH (pR _ _),h6];rfl
  refine⟨qE _ (h.b8 _ _).s h7,?_⟩;unfold Jo;rw[gu];have:(az s.1 (Jn o) (ah (F3 o))).1.length=s.1.1.length:=by unfold az Vs.b8;simp
  omega
 split
 ·unfold fU;have key:∀a b:ae,Iv (Gz s o a b):=fun a b=>((h.aF _ _).b8 _ _).aF _ _
  split
  ·exact Iv.zero
  ·split
   ·unfold dG
    split;· exact Iv.zero
    split;· exact key _ _
    split;· exact key _ _
    exact Iv.zero
   ·exact Iv.zero
 ·unfold qC
  split
  ·exact⟨h.s.map (PT o),by simp;exact h.n⟩
  ·exact Iv.zero
theorem Iv.go:∀(l:List aW) {s:StateT},Iv s.1→Iv (j5 l s).1.1
 |[],s,h=>h
 |o::r,s,h=>by
  unfold j5
  split
  ·exact Iv.zero
  ·exact Iv.go r (h.one o)
theorem Iv.try{s:StateT}(h:Iv s.1)(l:List aW):Iv (oK s l).1:=by
 unfold oK
 split
 ·exact h
 ·unfold cX
  split
  ·exact Iv.zero
  ·exact Iv.go l h
theorem Iv.reach:∀(m:Nat) (l:List (List aW)) {s:StateT},Iv s.1→Iv (og m l s).1
 |0,_,s,h=>by simpa[og] using h
 |m+1,[],s,h=>h
 |m+1,l::r,s,h=>by rw[og];exact Iv.reach m r (h.try _)
theorem Iv.PS(l:List (List aW)):Iv (EX l).1:=Iv.reach 30 l Iv.zero
theorem wN(v:ai):∀{l:List ai},aN l v.1=none→aN (ct v l) v.1=some v
 |[],_=>by simp[ct,aN]
 |w::r,hf=>by
  have bq:¬w.1=v.1:=fun e=>by simp[aN,e]at hf
  have zO:aN r v.1=none:=by simpa[aN,List.find?_cons,bq] using hf
  unfold ct
  split
  ·simp[aN]
  ·have:=wN v zO;rw[show aN (w::Vs.ct v r) v.1=aN (Vs.ct v r) v.1 by simp only[aN,List.find?_cons,bq,decide_false]];exact this
theorem N2{x:ID}{l:List ai}(hf:aN l x=none):bE l x=l:=by unfold bE;rw[List.filter_eq_self];intro u hu;unfold aN at hf;rw[List.find?_eq_none]at hf;have:=hf u hu;simpa using this
theorem rJ(v:ai):∀{l:List ai},aN l v.1=none→bE (ct v l) v.1=l
 |[],_=>by simp[ct,bE]
 |w::r,hf=>by
  have bq:¬w.1=v.1:=fun e=>by simp[aN,e]at hf
  have zO:aN r v.1=none:=by simpa[aN,List.find?_cons,bq] using hf
  unfold ct
  split
  ·unfold bE;rw[List.filter_cons_of_neg (by simp)];exact N2 hf
  ·have:=rJ v zO;unfold bE at this ⊢;rw[List.filter_cons_of_pos (by simpa using bq),this]
end Go.Vs
