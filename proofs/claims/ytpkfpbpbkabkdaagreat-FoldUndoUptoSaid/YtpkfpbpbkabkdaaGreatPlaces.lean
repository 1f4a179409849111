/- What the program computes at -/
import Derived.Test.YtpkfpbpbkabkdaaGreatRefB
set_option linter.unusedVariables false
set_option linter.unusedSimpArgs false
namespace Go.Vs
open Go.Proofs
variable {G:(f:FuncId)→(g:aX)→Option (g.A→Option g.B)}
theorem SB(hG:G 159 tH=none)(x:ID):FX G 159 tH ((x,()),())=some ((cY x,()),()):=by refine aC hG alr ?_;obtain⟨a,b⟩:=x;show(cond (decide (a≥1)) (cond (decide (a≤8)) (cond (decide (b≥1)) (some ((decide (b≤1048576),()),())) (some ((false,()),()))) (some ((false,()),()))) (some ((false,()),())):Option ((Bool×Unit)×Unit))=some ((cY (a,b),()),());unfold cY;simp only[cond_eq_ite];by_cases h1:(1:Int)≤a<;>by_cases h2:a≤8<;>by_cases h3:(1:Int)≤b<;>simp[h1,h2,h3]
theorem abb(hG:G 235 Ej=none)(n:Int):FX G 235 Ej ((n,()),())=some ((false,()),()):=by refine aC hG afv ?_;exact congrArg (fun b:Bool=>some ((b,()),())) (show(n != n)=false by simp)
def On(a b:Int):Int:=if a<b then -1 else if a>b then 1 else 0
theorem Wn(hG:HG G)(a b:Int):FX G 219 Eh ((a,b,()),())=some ((On a b,()),()):=by
 refine aC (hG _ _ rfl) afp ?_;refine aa (abb (hG _ _ rfl) a) ?_;refine aa (abb (hG _ _ rfl) b) ?_;refine ah rfl (ah rfl ?_);unfold On;by_cases h1:a<b
 ·rw[if_pos h1];exact ae (decide_eq_true h1) rfl
 rw[if_neg h1];refine ah (decide_eq_false h1) ?_;by_cases h2:a>b
 ·rw[if_pos h2];exact ae (decide_eq_true h2) rfl
 rw[if_neg h2];exact ah (decide_eq_false h2) rfl
theorem abc(hG:G 218 yk=none)(a b:Int):FX G 218 yk (([a,b],()),())=some ((if a≠0 then a else b,()),()):=by
 refine aC hG afo ?_;by_cases ha:a=0
 ·rw[if_neg (by simp[ha])];refine aB CF ?_;refine ae rfl (aa (a:=a) rfl ?_);refine ah (show(a != 0)=false by simp[ha]) ?_;refine aB CF ?_;refine ae rfl (aa (a:=b) rfl ?_);by_cases hb:b=0
  ·refine ah (show(b != 0)=false by simp[hb]) ?_;refine aB CF ?_;rw[hb];exact ah rfl rfl
  ·exact ae (show(b != 0)=true by simp[hb]) rfl
 ·rw[if_pos ha];refine aB CF ?_;refine ae rfl (aa (a:=a) rfl ?_);exact ae (show(a != 0)=true by simp[ha]) rfl
theorem Wo(hG:HG G)(a b:ID):FX G 208 Ef ((a,b,()),())=some ((tV a b,()),()):=by
 refine aC (hG _ _ rfl) afc ?_;unfold tV;by_cases h:a=b
 ·rw[if_pos h];exact ae ((iL a b).trans (decide_eq_true h)) rfl
 rw[if_neg h];refine ah ((iL a b).trans (decide_eq_false h)) ?_;refine aa (Wn hG a.1 b.1) ?_;refine aa (Wn hG a.2 b.2) ?_;refine aa (abc (hG _ _ rfl) (On a.1 b.1) (On a.2 b.2)) ?_;refine congrArg (fun n:Int=>some ((n,()),())) ?_;obtain⟨a1,a2⟩:=a;obtain⟨b1,b2⟩:=b;unfold On im;simp only[Prod.mk.injEq,not_and]at h;simp only;by_cases h1:a1<b1
 ·simp[h1]
 ·by_cases h2:a1>b1
  ·have:¬a1=b1:=by omega
   simp[h1,h2,this]
  ·have h3:a1=b1:=by omega
   have h4:=h h3;subst h3;by_cases h5:a2<b2
   ·simp[h5]
   ·have:a2>b2:=by omega
    simp[h5,this]
theorem abd(hG:HG G)(v:ai)(x:ID):FX G 207 Hs ((v,x,()),())=some ((tV v.1 x,()),()):=by refine aC (hG _ _ rfl) afb ?_;exact aa (Wo hG v.1 x) rfl
theorem Oo{i j:Nat}(hi:i≤1000000000)(hj:j≤1000000000):IntKind.wrap .i64 (mM .u64 (IntKind.wrap .u64 (IntKind.wrap .i64 ((i:Int)+(j:Int)))) (1:Int))=(((i+j) / 2:Nat):Int):=by
 have e1:IntKind.wrap .i64 ((i:Int)+(j:Int))=((i+j:Nat):Int):=by rw[wrap_small (by omega) (by omega)];rfl
 have e2:IntKind.wrap .u64 ((i+j:Nat):Int)=((i+j:Nat):Int):=by unfold IntKind.wrap;simp[IntKind.bits,IntKind.signed];omega
 have e3:mM .u64 ((i+j:Nat):Int) 1=(((i+j) / 2:Nat):Int):=by
  unfold mM;have:(min (Int.toNat 1) IntKind.u64.bits)=1:=by decide
  rw[this,Int.fdiv_eq_ediv_of_nonneg _ (by omega)];rfl
 rw[e1,e2,e3,wrap_small (by omega) (by omega)]
def bU(l:List ai)(x:ID):Nat:=l.countP fun v=>im v.1 x
def cq(l:List ai):Prop:=l.Pairwise fun a b=>im a.1 b.1=true
theorem j0{a b c:ID}(h:im a b=true)(k:im b c=true):im a c=true:=by simp[im]at *;omega
theorem j4{a b:ID}(h:im a b=true):im b a=false:=by simp[im]at *;omega
theorem nk{a b:ID}(h:im a b=false)(k:a≠b):im b a=true:=by obtain⟨a1,a2⟩:=a;obtain⟨b1,b2⟩:=b;simp[im]at *;omega
theorem JC(l:List ai)(x:ID):bU l x≤l.length:=adQ
theorem u7{l:List ai}{x:ID}(h:∀v∈l,im v.1 x=false):bU l x=0:=by unfold bU;rw[List.countP_eq_zero];intro v hv;simp[h v hv]
theorem Au{x:ID}:∀{l:List ai},cq l→∀(k:Nat) (v:ai),l[k]? = some v→(im v.1 x=true↔k<bU l x)
 |[],_,k,v,h=>by simp at h
 |w::r,hs,k,v,h=>by
  have hw:∀{u:ai},u∈r→im w.1 u.1=true:=fun {u} hu=>acr hs hu;have hr:cq r:=hs.of_cons;by_cases aK:im w.1 x=true
  ·have e:bU (w::r) x=bU r x+1:=by unfold bU;rw[List.countP_cons_of_pos (by simpa using aK)]
   cases k with
   |zero=>simp at h;subst h;simp[aK,e]
   |succ k=>have:=Au (x:=x) hr k v (by simpa using h);rw[this,e];omega
  ·have hn:∀u∈w::r,im u.1 x=false:=fun u hu=>by
    rcases abn.1 hu with rfl|hu
    ·simpa using aK
    ·rw[Bool.eq_false_iff];intro h2;exact aK (j0 (hw hu) h2)
   rw[u7 hn,hn v (List.mem_of_getElem? h)];simp
theorem Wp(hG:HG G)(l:List ai)(x:ID)(hs:cq l)(hl:l.length≤50000000):∀(n i j:Nat),j-i≤n→i≤bU l x→bU l x≤j→j≤l.length → LX G 208206 kq Tryz.f206 jQ (aY Tryz.prog 206 0) ((l,(((l.length:Nat):Int),((i:Int),((j:Int),())))),(((x,()),()),()))=some (((((bU l x:Nat):Int),(decide ((l[bU l x]?).map (·.1)=some x),())):Int×(Bool×Unit)),()):=by
 have vv:=JC l x;have fin:∀(i j:Nat),¬(i<j)→i≤bU l x→bU l x≤j→LX G 208206 kq Tryz.f206 jQ (aY Tryz.prog 206 0) ((l,(((l.length:Nat):Int),((i:Int),((j:Int),())))),(((x,()),()),()))=some (((((bU l x:Nat):Int),(decide ((l[bU l x]?).map (·.1)=some x),())):Int×(Bool×Unit)),()):=fun i j Dy h1 h2=>by
  have hi:i=bU l x:=by omega
  subst hi;refine aB EJ ?_;refine ah (decide_eq_false (show ¬(((bU l x:Nat):Int)<(j:Int)) by omega)) ?_;by_cases hc:bU l x<l.length
  ·have hx:l[bU l x]? = some l[bU l x]:=aba hc;refine ae (bj hc) ?_;refine aa (aT hx) ?_;refine aa (abd hG l[bU l x] x) ?_;refine congrArg (fun b:Bool=>some ((((bU l x:Nat):Int),(b,())),())) ?_;rw[hx];unfold tV;by_cases he:l[bU l x].1=x
   ·simp[he]
   ·simp[he];split<;>simp
  ·refine ah (decide_eq_false (show ¬(((bU l x:Nat):Int)<((l.length:Nat):Int)) by omega)) ?_;refine congrArg (fun b:Bool=>some ((((bU l x:Nat):Int),(b,())),())) ?_;rw[List.getElem?_eq_none (by omega)];simp
 intro n
 induction n with
 |zero=>intro i j Dy h1 h2 h3;exact fin i j (by omega) h1 h2
 |succ n ih =>
  intro i j Dy h1 h2 h3;by_cases aK:i<j
  case neg=>exact fin i j aK h1 h2
  refine aB EJ ?_;refine ae (decide_eq_true (show((i:Int)<(j:Int)) by omega)) ?_;refine ah rfl ?_;have hm:=Oo (i:=i) (j:=j) (by omega) (by omega);have hh:(i+j) / 2<l.length:=by omega
  have hx:l[(i+j) / 2]? = some l[(i+j) / 2]:=aba hh;have qz:=Au (x:=x) hs ((i+j) / 2) _ hx;refine aa (show bm l (IntKind.wrap .i64 (mM .u64 (IntKind.wrap .u64 (IntKind.wrap .i64 ((i:Int)+(j:Int)))) (1:Int)))=some l[(i+j) / 2] by rw[hm];exact aT hx) ?_;refine aa (abd hG l[(i+j) / 2] x) ?_;by_cases ho:im l[(i+j) / 2].1 x=true
  ·refine ae (decide_eq_true ((pj _ _).2 ho)) ?_;have hc:=qz.1 ho;have hw:IntKind.wrap .i64 (IntKind.wrap .i64 (mM .u64 (IntKind.wrap .u64 (IntKind.wrap .i64 ((i:Int)+(j:Int)))) (1:Int))+1)=(((i+j) / 2+1:Nat):Int):=by rw[hm];exact aN hh (by omega)
   have:=ih ((i+j) / 2+1) j (by omega) (by omega) h2 h3;rw[←hw]at this;exact this
  ·refine ah (decide_eq_false (fun h=>ho ((pj _ _).1 h))) ?_;have hc:¬(i+j) / 2<bU l x:=fun h=>ho (qz.2 h);have:=ih i ((i+j) / 2) (by omega) h1 (by omega) (by omega);rw[←hm]at this;exact this
theorem Wq(hG:HG G)(l:List ai)(x:ID)(hs:cq l)(hl:l.length≤50000000) :
  FX G 208206 kq ((l,x,()),())=some (((((bU l x:Nat):Int),(decide ((l[bU l x]?).map (·.1)=some x),())):Int×(Bool×Unit)),()):=by
 refine aC (hG _ _ rfl) VM ?_;exact Wp hG l x hs hl l.length 0 l.length (by omega) (by omega) (JC l x) (abZ _)
theorem sI(hG:HG G)(w:ba)(x:ID)(hs:cq w.1)(hl:w.1.length≤50000000) :
  FX G 175 sH ((x,()),(w,()))=some (((((bU w.1 x:Nat):Int),(decide ((w.1[bU w.1 x]?).map (·.1)=some x),())):Int×(Bool×Unit)),(w,())):=by
 refine aC (hG _ _ rfl) aeX ?_;exact aa (Wq hG w.1 x hs hl) rfl
theorem u9{x:ID}:∀{l:List ai},cq l→aO l x=(l[bU l x]?).filter fun v=>decide (v.1=x)
 |[],_=>rfl
 |w::r,hs=>by
  have hw:∀{u:ai},u∈r→im w.1 u.1=true:=fun {u} hu=>acr hs hu;have hr:cq r:=hs.of_cons;by_cases aK:im w.1 x=true
  ·have e:bU (w::r) x=bU r x+1:=by unfold bU;rw[List.countP_cons_of_pos (by simpa using aK)]
   have bp:¬w.1=x:=fun e=>by rw[e,cy]at aK;cases aK
   rw[e];simp only[aO,List.find?_cons,bp,decide_false,List.getElem?_cons_succ];exact u9 hr
  ·have hn:∀u∈w::r,im u.1 x=false:=fun u hu=>by
    rcases abn.1 hu with rfl|hu
    ·simpa using aK
    ·rw[Bool.eq_false_iff];intro h2;exact aK (j0 (hw hu) h2)
   rw[u7 hn];by_cases he:w.1=x
   ·simp[aO,List.find?_cons,he,Option.filter]
   ·have Nc:im x w.1=true:=nk (by simpa using aK) he;have:aO r x=none:=by
     unfold aO;rw[List.find?_eq_none];intro u hu h2;have h3:u.1=x:=by simpa using h2
     have h4:=hw hu;rw[h3]at h4;have:=j4 h4;rw[Nc]at this;cases this
    rw[show aO (w::r) x=aO r x by simp only[aO,List.find?_cons,he,decide_false],this];simp[he,Option.filter]
theorem gZ{l:List ai}{x:ID}(hs:cq l):decide ((l[bU l x]?).map (·.1)=some x)=(aO l x).isSome:=by
 rw[u9 hs]
 cases h:l[bU l x]? with
 |none=>simp
 |some v=>by_cases he:v.1=x<;>simp[he,Option.filter]
theorem L6(v:ai):∀{l:List ai},cq l→aO l v.1=none→cx v l=l.take (bU l v.1)++(v::l.drop (bU l v.1))
 |[],_,_=>rfl
 |w::r,hs,hf=>by
  have hw:∀{u:ai},u∈r→im w.1 u.1=true:=fun {u} hu=>acr hs hu;have hr:cq r:=hs.of_cons;have bp:¬w.1=v.1:=fun e=>by simp[aO,e]at hf
  have Aa:aO r v.1=none:=by simpa[aO,List.find?_cons,bp] using hf
  by_cases aK:im w.1 v.1=true
  ·have e:bU (w::r) v.1=bU r v.1+1:=by unfold bU;rw[List.countP_cons_of_pos (by simpa using aK)]
   have hge:im v.1 w.1=false:=j4 aK;rw[e,cx,if_neg (by simp[hge]),L6 v hr Aa];rfl
  ·have hn:∀u∈w::r,im u.1 v.1=false:=fun u hu=>by
    rcases abn.1 hu with rfl|hu
    ·simpa using aK
    ·rw[Bool.eq_false_iff];intro h2;exact aK (j0 (hw hu) h2)
   have Nc:im v.1 w.1=true:=nk (by simpa using aK) bp;rw[u7 hn,cx,if_pos Nc];rfl
theorem Av{x:ID}:∀{l:List ai},cq l→(aO l x).isSome=true→bF l x=l.take (bU l x)++l.drop (bU l x+1)
 |[],_,hf=>by simp[aO]at hf
 |w::r,hs,hf=>by
  have hw:∀{u:ai},u∈r→im w.1 u.1=true:=fun {u} hu=>acr hs hu;have hr:cq r:=hs.of_cons;by_cases he:w.1=x
  ·have hn:∀u∈w::r,im u.1 x=false:=fun u hu=>by
    rcases abn.1 hu with rfl|hu
    ·rw[he,cy]
    ·rw[←he];exact j4 (hw hu)
   have gO:bF r x=r:=by unfold bF;rw[List.filter_eq_self];intro u hu;have h4:=hw hu;simp;intro e2;rw[he,e2,cy]at h4;cases h4
   rw[u7 hn];unfold bF;rw[List.filter_cons_of_neg (by simp[he])];exact gO
  ·have Aa:(aO r x).isSome=true:=by simpa[aO,List.find?_cons,he] using hf
   have aK:im w.1 x=true:=by
    obtain⟨u,hu⟩:=abM.1 Aa;have h1:=ab5 hu;have h2:u.1=x:=by simpa using adH hu
    rw[←h2];exact hw h1
   have e:bU (w::r) x=bU r x+1:=by unfold bU;rw[List.countP_cons_of_pos (by simpa using aK)]
   rw[e];have:=Av hr Aa;simp[bF,List.filter_cons,he]at this ⊢;exact this
theorem qM(v:ai):∀{l:List ai},cq l→aO l v.1=none→cq (cx v l)
 |[],_,_=>List.pairwise_singleton _ _
 |w::r,hs,hf=>by
  have hw:∀{u:ai},u∈r→im w.1 u.1=true:=fun {u} hu=>acr hs hu;have hr:cq r:=hs.of_cons;have bp:¬w.1=v.1:=fun e=>by simp[aO,e]at hf
  have Aa:aO r v.1=none:=by simpa[aO,List.find?_cons,bp] using hf
  unfold cx
  split
  ·rename_i h;refine List.Pairwise.cons (fun u hu=>?_) hs;rcases abn.1 hu with rfl|hu
   ·exact h
   ·exact j0 h (hw hu)
  ·rename_i h;have aK:im w.1 v.1=true:=nk (by simpa using h) (fun e=>bp e.symm);refine List.Pairwise.cons (fun u hu=>?_) (qM v hr Aa);rcases kE.1 hu with rfl|hu
   ·exact aK
   ·exact hw hu
theorem lh{l:List ai}{x:ID}(hs:cq l):cq (bF l x):=hs.filter _
theorem ams(hG:G 127 Sd=none)(l:List ai)(hl:l.length≤50000000):FX G 127 Sd ((l,()),())=some ((l,()),()):=by
 refine aC hG aln ?_
 cases l with
 |nil=>exact ae rfl (o8 (by omega) fun j hj=>by cases j<;>rfl)
 |cons x r=>exact ah rfl (ae (fits (by simp at hl ⊢;omega)) rfl)
theorem amt(hG:G 128 Se=none)(l:List aj)(hl:l.length≤50000000):FX G 128 Se ((l,()),())=some ((l,()),()):=by
 refine aC hG alo ?_
 cases l with
 |nil=>exact ae rfl (o8 (by omega) fun j hj=>by cases j<;>rfl)
 |cons x r=>exact ah rfl (ae (fits (by simp at hl ⊢;omega)) rfl)
theorem acv(hG:G 110 Cb=none)(l:List ab)(hl:l.length≤50000000):FX G 110 Cb ((l,()),())=some ((l,()),()):=by
 refine aC hG alp ?_
 cases l with
 |nil=>exact ae rfl (o8 (by omega) fun j hj=>by cases j<;>rfl)
 |cons x r=>exact ah rfl (ae (fits (by simp at hl ⊢;omega)) rfl)
theorem Wr(hG:G 97 I9=none)(l:List aF)(hl:l.length≤50000000):FX G 97 I9 ((l,()),())=some ((l,()),()):=by
 refine aC hG ak4 ?_
 cases l with
 |nil=>exact ae rfl (o8 (by omega) fun j hj=>by cases j<;>rfl)
 |cons x r=>exact ah rfl (ae (fits (by simp at hl ⊢;omega)) rfl)
theorem L7{α:Type}{l:List α}{i:Nat}{x:α}(h:l[i]? = some x):l.set i x=l:=by obtain⟨hi,he⟩:=abg.1 h;subst he;simp
theorem Zk(hG:HG G)(d:ak)(hs:Sm d):FX G 96 GG ((d,()),())=some (((d.1,(d.2,())),()),()):=by
 have hv:=hs.v;have he:=hs.e;refine aC (hG _ _ rfl) ak3 ?_;refine aa (ams (hG _ _ rfl) d.1 (by omega)) ?_;refine aa (amt (hG _ _ rfl) d.2 (by omega)) ?_;have loop:∀(n i:Nat) (out:List ai),i+n=d.1.length→out=d.1→LX G 96 GG Tryz.f96 EG (aY Tryz.prog 96 0) ((((d.1.length:Nat):Int),((i:Int),())),(((([]:List ai),(([]:List aj),())),((out,(d.2,())),())),()))=some (((d.1,(d.2,())),()),()):=by
  intro n
  induction n with
  |zero =>intro i out hi ho;subst ho;refine aB VB ?_;exact ah (decide_eq_false (show ¬((i:Int)<((d.1.length:Nat):Int)) by omega)) rfl
  |succ n ih =>
   intro i out hi ho;have pP:=ho;subst ho;refine aB VB ?_;have aK:i<d.1.length:=by omega
   have hx:d.1[i]? = some d.1[i]:=aba aK;refine ae (bj aK) ?_;refine ae (dU (gy i) (bj aK)) ?_;refine aa hx ?_;refine aa (acv (hG _ _ rfl) d.1[i].2.1 (hs.r _ (acB aK))) ?_;refine ae (dU (gy i) (bj aK)) ?_;refine aa hx ?_;rw[wI,aN aK (show d.1.length≤1073741824 by omega)];exact ih (i+1) (d.1.set i d.1[i]) (by omega) (L7 hx)
 exact loop d.1.length 0 d.1 (by omega) rfl
def sJ(w:ba)(v:ai):Int×ba :=if(aO w.1 v.1).isSome=true then(12,w) else if 24≤w.1.length then(3,w) else(0,(cx v w.1,w.2))
def HJ(w:ba)(x:ID):Int×ba:=match aO w.1 x with
 |none=>(13,w)
 |some v=>if 0<v.2.1.length then(14,w) else(0,(bF w.1 x,w.2))
theorem acw(hG:HG G)(w:ba)(v:ai)(hs:cq w.1)(hl:w.1.length≤50000000):FX G 152 Lf ((v,()),(w,()))=some (((sJ w v).1,()),((sJ w v).2,())):=by
 refine aC (hG _ _ rfl) alw ?_;refine aa (sI hG w v.1 hs hl) ?_;unfold sJ
 cases hf:(aO w.1 v.1).isSome
 ·rw[if_neg (by simp)];refine ah ((gZ hs).trans hf) ?_;by_cases h2:24≤w.1.length
  ·rw[if_pos h2];exact ae (decide_eq_true (show((w.1.length:Nat):Int)≥24 by omega)) rfl
  ·rw[if_neg h2];refine ah (decide_eq_false (show ¬((w.1.length:Nat):Int)≥24 by omega)) ?_;have hc:=JC w.1 v.1;have nL:s6 w.1 ((bU w.1 v.1:Nat):Int) [v]=true:=by unfold s6;rw[decide_eq_true (show(0:Int)≤((bU w.1 v.1:Nat):Int) by omega),decide_eq_true (show((bU w.1 v.1:Nat):Int)≤((w.1.length:Nat):Int) by omega)];rw[fits (by simp;omega)];rfl
   refine ae nL ?_;have e:iu w.1 ((bU w.1 v.1:Nat):Int) [v]=cx v w.1:=by rw[L6 v hs (by simpa using hf)];unfold iu;simp
   exact congrArg (fun l:List ai=>some (((0:Int),()),((l,w.2),()))) e
 ·rw[if_pos rfl];exact ae ((gZ hs).trans hf) rfl
theorem amu(hG:HG G)(w:ba)(o:aE)(hs:cq w.1)(hl:w.1.length≤50000000):FX G 153 UZ ((o,()),(w,()))=some (((HJ w (ar o)).1,()),((HJ w (ar o)).2,())):=by
 refine aC (hG _ _ rfl) alx ?_;refine aa (sI hG w (ar o) hs hl) ?_;unfold HJ;have hth:=gZ (x:=ar o) hs;have mi:=u9 (x:=ar o) hs
 cases hf:aO w.1 (ar o) with
 |none =>rw[hf]at hth;refine ae (show(!(decide ((w.1[bU w.1 (ar o)]?).map (·.1)=some (ar o))))=true by rw[hth];rfl) rfl
 |some v =>
  rw[hf]at hth mi;refine ah (show(!(decide ((w.1[bU w.1 (ar o)]?).map (·.1)=some (ar o))))=false by rw[hth];rfl) ?_;have hx:w.1[bU w.1 (ar o)]? = some v:=by
   cases hg:w.1[bU w.1 (ar o)]? with
   |none=>rw[hg]at mi;simp[Option.filter]at mi
   |some u =>
    rw[hg]at mi;simp only[Option.filter]at mi
    split at mi
    ·exact mi.symm
    ·cases mi
  have aK:=(abg.1 hx).1;refine ae (dU (gy _) (bj aK)) ?_;refine aa hx ?_;show _=some ((((if 0<v.2.1.length then(14,w) else(0,(bF w.1 (ar o),w.2)):Int×ba).1,()),((if 0<v.2.1.length then(14,w) else(0,(bF w.1 (ar o),w.2)):Int×ba).2,())):(Int×Unit)×(ba×Unit));by_cases h2:0<v.2.1.length
  ·rw[if_pos h2];exact ae (decide_eq_true (show((v.2.1.length:Nat):Int)>0 by omega)) rfl
  ·rw[if_neg h2];refine ah (decide_eq_false (show ¬((v.2.1.length:Nat):Int)>0 by omega)) ?_;have hw:IntKind.wrap .i64 (((bU w.1 (ar o):Nat):Int)+1)=((bU w.1 (ar o)+1:Nat):Int):=aN aK (by omega);have nL:kL w.1 ((bU w.1 (ar o):Nat):Int) (IntKind.wrap .i64 (((bU w.1 (ar o):Nat):Int)+1))=true:=by rw[hw];unfold kL;rw[decide_eq_true (show(0:Int)≤((bU w.1 (ar o):Nat):Int) by omega),decide_eq_true (show((bU w.1 (ar o):Nat):Int)<((bU w.1 (ar o)+1:Nat):Int) by omega),decide_eq_true (show((bU w.1 (ar o)+1:Nat):Int)≤((w.1.length:Nat):Int) by omega),fits (by omega)];rfl
   refine ae nL ?_;have e:eu w.1 ((bU w.1 (ar o):Nat):Int) (IntKind.wrap .i64 (((bU w.1 (ar o):Nat):Int)+1))=bF w.1 (ar o):=by rw[hw,Av hs (by rw[hf];rfl)];unfold eu;simp only[Int.toNat_natCast]
   exact congrArg (fun l:List ai=>some (((0:Int),()),((l,w.2),()))) e
def zW:ba:=([],([],([],())))
def aV(s:StateT):ba:=(s.1.1,(s.1.2,(s.2,())))
def CN(w:ba):StateT:=((w.1,w.2.1),w.2.2.1)
def iE(e:Int)(w:ba):StateT×(Int×Unit):=if e≠0 then(zS,(e,())) else(CN w,(0,()))
theorem amv(hG:HG G)(s:StateT)(o:aE)(hs:Sm s.1)(hg:s.2.length≤50000000){e:Int}{w:ba}(h:FX G 131 D7 ((o,()),(aV s,()))=some ((e,()),(w,()))) :
  FX G 103 GD ((s,[o],()),())=some (iE e w,()):=by
 refine aC (hG _ _ rfl) aeO ?_;refine aa (Zk hG s.1 hs) ?_;refine aa (Wr (hG _ _ rfl) s.2 hg) ?_;refine aB Jd ?_;refine ae rfl (aa (a:=o) rfl ?_);refine aa h ?_;unfold iE;by_cases he:e=0
 ·rw[if_neg (by simp[he])];refine ah (show(e != 0)=false by simp[he]) ?_;refine aB Jd ?_;exact ah rfl rfl
 ·rw[if_pos he];exact ae (show(e != 0)=true by simp[he]) rfl
def p7(k:Int)(x:ID):aE:=(k,(x,(zI,(zI,(zC,(zC,(false,(e0,0))))))))
def aoZ(x:ID):Int:=if cY x=true then 0 else 1
theorem Zl(hG:HG G)(s:StateT)(o:aE){b:Int}(h:FX G 104 N1 ((o,()),())=some ((b,()),()))(hs:Sm s.1)(hg:s.2.length≤50000000){e:Int}{w:ba} (h2:b=0→FX G 131 D7 ((o,()),(aV s,()))=some ((e,()),(w,()))):FX G 73 K2 ((s,o,()),())=some ((if b≠0 then(zS,(b,())) else iE e w),()):=by
 refine aC (hG _ _ rfl) aeN ?_;refine aa h ?_;by_cases hb:b=0
 ·rw[if_neg (by simp[hb])];refine ah (show(b != 0)=false by simp[hb]) ?_;exact aa (amv hG s o hs hg (h2 hb)) rfl
 ·rw[if_pos hb];exact ae (show(b != 0)=true by simp[hb]) rfl
def shS:StateT:=(([((1,1),([],(e0,0)))],[]),[])
end Go.Vs
namespace Go.Vs
open Go.Proofs
theorem cq.map{l:List ai}(h:cq l){f:ai→ai}(hf:∀v,(f v).1=v.1):cq (l.map f):=by unfold cq at h ⊢;rw[List.pairwise_map];exact h.imp fun {a b} rT=>by rw[hf,hf];exact rT
theorem iO{x:ID}{f:ai→ai}(hf:∀v,(f v).1=v.1):∀(l:List ai),aO (l.map f) x=(aO l x).map f
 |[]=>rfl
 |w::r=>by
  unfold aO;rw[List.map_cons,List.find?_cons,List.find?_cons,hf];have:=iO (x:=x) hf r;unfold aO at this
  cases decide (w.1=x) with
  |true=>rfl
  |false=>exact this
theorem qa(x:ID)(l:List ab)(w:ai):(iX x l w).1=w.1:=by unfold iX;split<;>rfl
theorem Ql(o:aE)(w:ai):(fN o w).1=w.1:=by unfold fN;split<;>(try split)<;>rfl
structure Iv(d:ak):Prop where
 s:cq d.1
 n:d.1.length≤24
theorem Iv.zero:Iv zS.1:=⟨List.Pairwise.nil,by simp[zS]⟩
theorem Iv.cj{d:ak}(h:Iv d)(x:ID)(l:List ab):Iv (cj d x l):=⟨h.s.map (qa x l),by unfold Vs.cj;simp;exact h.n⟩
theorem Iv.aH{d:ak}(h:Iv d)(v e:ID):Iv (aH d v e):=⟨lh h.s,acH (adx _ _) h.n⟩
theorem Iv.one{s:StateT}(h:Iv s.1)(o:aE):Iv (bP s o).1.1:=by
 unfold bP
 split;· exact Iv.zero
 split
 ·unfold mh
  split;· exact Iv.zero
  split;· exact Iv.zero
  rename_i h1 h2;exact⟨qM _ h.s (by simpa[aG] using h1),by rw[gD];omega⟩
 split
 ·unfold qL
  split
  ·exact Iv.zero
  ·split
   ·exact Iv.zero
   ·exact h.aH _ _
 split
 ·unfold kP
  split;· exact Iv.zero
  split;· exact Iv.zero
  split;· exact Iv.zero
  split;· exact Iv.zero
  split;· exact Iv.zero
  have h1:Iv (s.1.1,bW (ar o,(e0,0)) s.1.2):=⟨h.s,h.n⟩;exact(h1.cj _ _).cj _ _
 split
 ·unfold w8
  split;· exact Iv.zero
  exact((h.cj _ _).cj _ _).aH _ _
 split
 ·unfold jg
  split;· exact Iv.zero
  split;· exact Iv.zero
  split;· exact Iv.zero
  split;· exact Iv.zero
  split;· exact Iv.zero
  rename_i h1 h2 h3 h4 h5;have h6:aO s.1.1 (cc o)=none:=by simpa[aG] using h2
  have h7:aO (az s.1 (JA o) (ag (Gf o))).1 (cc o)=none:=by unfold az Vs.cj;rw[iO (qa _ _),h6];rfl
  refine⟨qM _ (h.cj _ _).s h7,?_⟩;unfold JB;rw[gD];have:(az s.1 (JA o) (ag (Gf o))).1.length=s.1.1.length:=by unfold az Vs.cj;simp
  omega
 split
 ·unfold fX;have key:∀a b:ab,Iv (GM s o a b):=fun a b=>((h.aH _ _).cj _ _).aH _ _
  split
  ·exact Iv.zero
  ·split
   ·unfold dH
    split;· exact Iv.zero
    split;· exact key _ _
    split;· exact key _ _
    exact Iv.zero
   ·exact Iv.zero
 ·unfold qK
  split
  ·exact⟨h.s.map (Ql o),by simp;exact h.n⟩
  ·exact Iv.zero
theorem Iv.go:∀(l:List aE) {s:StateT},Iv s.1→Iv (ji l s).1.1
 |[],s,h=>h
 |o::r,s,h=>by
  unfold ji
  split
  ·exact Iv.zero
  ·exact Iv.go r (h.one o)
theorem Iv.try{s:StateT}(h:Iv s.1)(l:List aE):Iv (iM s l).1:=by
 unfold iM
 split
 ·exact h
 ·unfold bC
  split
  ·exact Iv.zero
  ·exact Iv.go l h
theorem Iv.reach:∀(m:Nat) (l:List (List aE)) {s:StateT},Iv s.1→Iv (oy m l s).1
 |0,_,s,h=>by simpa[oy] using h
 |m+1,[],s,h=>h
 |m+1,l::r,s,h=>by rw[oy];exact Iv.reach m r (h.try _)
theorem Iv.Qk(l:List (List aE)):Iv (E6 l).1:=Iv.reach 30 l Iv.zero
theorem w9(v:ai):∀{l:List ai},aO l v.1=none→aO (cx v l) v.1=some v
 |[],_=>by simp[cx,aO]
 |w::r,hf=>by
  have bp:¬w.1=v.1:=fun e=>by simp[aO,e]at hf
  have Aa:aO r v.1=none:=by simpa[aO,List.find?_cons,bp] using hf
  unfold cx
  split
  ·simp[aO]
  ·have:=w9 v Aa;rw[show aO (w::Vs.cx v r) v.1=aO (Vs.cx v r) v.1 by simp only[aO,List.find?_cons,bp,decide_false]];exact this
theorem Oq{x:ID}{l:List ai}(hf:aO l x=none):bF l x=l:=by unfold bF;rw[List.filter_eq_self];intro u hu;unfold aO at hf;rw[List.find?_eq_none]at hf;have:=hf u hu;simpa using this
theorem rW(v:ai):∀{l:List ai},aO l v.1=none→bF (cx v l) v.1=l
 |[],_=>by simp[cx,bF]
 |w::r,hf=>by
  have bp:¬w.1=v.1:=fun e=>by simp[aO,e]at hf
  have Aa:aO r v.1=none:=by simpa[aO,List.find?_cons,bp] using hf
  unfold cx
  split
  ·unfold bF;rw[List.filter_cons_of_neg (by simp)];exact Oq hf
  ·have:=rW v Aa;unfold bF at this ⊢;rw[List.filter_cons_of_pos (by simpa using bp),this]
end Go.Vs
