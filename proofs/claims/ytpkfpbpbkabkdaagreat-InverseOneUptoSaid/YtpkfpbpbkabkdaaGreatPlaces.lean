/- What the program computes at -/
import Derived.Test.YtpkfpbpbkabkdaaGreatRefB
set_option linter.unusedVariables false
set_option linter.unusedSimpArgs false
namespace Go.Vs
open Go.Proofs
variable {G:(f:FuncId)→(g:aS)→Option (g.A→Option g.B)}
theorem OM(hG:G 159 rl=none)(x:ID):FX G 159 rl ((x,()),())=some ((cf x,()),()):=by refine az hG ahe ?_;obtain⟨a,b⟩:=x;show(cond (decide (a≥1)) (cond (decide (a≤8)) (cond (decide (b≥1)) (some ((decide (b≤1048576),()),())) (some ((false,()),()))) (some ((false,()),()))) (some ((false,()),())):Option ((Bool×Unit)×Unit))=some ((cf (a,b),()),());unfold cf;simp only[cond_eq_ite];by_cases h1:(1:Int)≤a<;>by_cases h2:a≤8<;>by_cases h3:(1:Int)≤b<;>simp[h1,h2,h3]
theorem Xr(hG:G 235 BW=none)(n:Int):FX G 235 BW ((n,()),())=some ((false,()),()):=by refine az hG abO ?_;exact congrArg (fun b:Bool=>some ((b,()),())) (show(n != n)=false by simp)
def Ld(a b:Int):Int:=if a<b then -1 else if a>b then 1 else 0
theorem SI(hG:HG G)(a b:Int):FX G 219 BU ((a,b,()),())=some ((Ld a b,()),()):=by
 refine az (hG _ _ rfl) abI ?_;refine aa (Xr (hG _ _ rfl) a) ?_;refine aa (Xr (hG _ _ rfl) b) ?_;refine ag rfl (ag rfl ?_);unfold Ld;by_cases h1:a<b
 ·rw[if_pos h1];exact af (decide_eq_true h1) rfl
 rw[if_neg h1];refine ag (decide_eq_false h1) ?_;by_cases h2:a>b
 ·rw[if_pos h2];exact af (decide_eq_true h2) rfl
 rw[if_neg h2];exact ag (decide_eq_false h2) rfl
theorem Xs(hG:G 218 vz=none)(a b:Int):FX G 218 vz (([a,b],()),())=some ((if a≠0 then a else b,()),()):=by
 refine az hG abH ?_;by_cases ha:a=0
 ·rw[if_neg (by simp[ha])];refine ao Am ?_;refine af rfl (aa (a:=a) rfl ?_);refine ag (show(a != 0)=false by simp[ha]) ?_;refine ao Am ?_;refine af rfl (aa (a:=b) rfl ?_);by_cases hb:b=0
  ·refine ag (show(b != 0)=false by simp[hb]) ?_;refine ao Am ?_;rw[hb];exact ag rfl rfl
  ·exact af (show(b != 0)=true by simp[hb]) rfl
 ·rw[if_pos ha];refine ao Am ?_;refine af rfl (aa (a:=a) rfl ?_);exact af (show(a != 0)=true by simp[ha]) rfl
theorem SJ(hG:HG G)(a b:ID):FX G 208 BS ((a,b,()),())=some ((p4 a b,()),()):=by
 refine az (hG _ _ rfl) abv ?_;unfold p4;by_cases h:a=b
 ·rw[if_pos h];exact af ((gN a b).trans (decide_eq_true h)) rfl
 rw[if_neg h];refine ag ((gN a b).trans (decide_eq_false h)) ?_;refine aa (SI hG a.1 b.1) ?_;refine aa (SI hG a.2 b.2) ?_;refine aa (Xs (hG _ _ rfl) (Ld a.1 b.1) (Ld a.2 b.2)) ?_;refine congrArg (fun n:Int=>some ((n,()),())) ?_;obtain⟨a1,a2⟩:=a;obtain⟨b1,b2⟩:=b;unfold Ld fh;simp only[Prod.mk.injEq,not_and]at h;simp only;by_cases h1:a1<b1
 ·simp[h1]
 ·by_cases h2:a1>b1
  ·have:¬a1=b1:=by omega
   simp[h1,h2,this]
  ·have h3:a1=b1:=by omega
   have h4:=h h3;subst h3;by_cases h5:a2<b2
   ·simp[h5]
   ·have:a2>b2:=by omega
    simp[h5,this]
theorem Xt(hG:HG G)(v:ah)(x:ID):FX G 207 Ew ((v,x,()),())=some ((p4 v.1 x,()),()):=by refine az (hG _ _ rfl) abu ?_;exact aa (SJ hG v.1 x) rfl
theorem Le{i j:Nat}(hi:i≤1000000000)(hj:j≤1000000000):IntKind.wrap .i64 (lg .u64 (IntKind.wrap .u64 (IntKind.wrap .i64 ((i:Int)+(j:Int)))) (1:Int))=(((i+j) / 2:Nat):Int):=by
 have e1:IntKind.wrap .i64 ((i:Int)+(j:Int))=((i+j:Nat):Int):=by rw[wrap_small (by omega) (by omega)];rfl
 have e2:IntKind.wrap .u64 ((i+j:Nat):Int)=((i+j:Nat):Int):=by unfold IntKind.wrap;simp[IntKind.bits,IntKind.signed];omega
 have e3:lg .u64 ((i+j:Nat):Int) 1=(((i+j) / 2:Nat):Int):=by
  unfold lg;have:(min (Int.toNat 1) IntKind.u64.bits)=1:=by decide
  rw[this,Int.fdiv_eq_ediv_of_nonneg _ (by omega)];rfl
 rw[e1,e2,e3,wrap_small (by omega) (by omega)]
def bJ(l:List ah)(x:ID):Nat:=l.countP fun v=>fh v.1 x
def cc(l:List ah):Prop:=l.Pairwise fun a b=>fh a.1 b.1=true
theorem gP{a b c:ID}(h:fh a b=true)(k:fh b c=true):fh a c=true:=by simp[fh]at *;omega
theorem lD{a b:ID}(h:fh a b=true):fh b a=false:=by simp[fh]at *;omega
theorem lE{a b:ID}(h:fh a b=false)(k:a≠b):fh b a=true:=by obtain⟨a1,a2⟩:=a;obtain⟨b1,b2⟩:=b;simp[fh]at *;omega
theorem GC(l:List ah)(x:ID):bJ l x≤l.length:=aeM
theorem sJ{l:List ah}{x:ID}(h:∀v∈l,fh v.1 x=false):bJ l x=0:=by unfold bJ;rw[List.countP_eq_zero];intro v hv;simp[h v hv]
theorem xK{x:ID}:∀{l:List ah},cc l→∀(k:Nat) (v:ah),l[k]? = some v→(fh v.1 x=true↔k<bJ l x)
 |[],_,k,v,h=>by simp at h
 |w::r,hs,k,v,h=>by
  have hw:∀{u:ah},u∈r→fh w.1 u.1=true:=fun {u} hu=>adF hs hu;have hr:cc r:=hs.of_cons;by_cases aF:fh w.1 x=true
  ·have e:bJ (w::r) x=bJ r x+1:=by unfold bJ;rw[List.countP_cons_of_pos (by simpa using aF)]
   cases k with
   |zero=>simp at h;subst h;simp[aF,e]
   |succ k=>have:=xK (x:=x) hr k v (by simpa using h);rw[this,e];omega
  ·have hn:∀u∈w::r,fh u.1 x=false:=fun u hu=>by
    rcases aa1.1 hu with rfl|hu
    ·simpa using aF
    ·rw[Bool.eq_false_iff];intro h2;exact aF (gP (hw hu) h2)
   rw[sJ hn,hn v (List.mem_of_getElem? h)];simp
theorem SK(hG:HG G)(l:List ah)(x:ID)(hs:cc l)(hl:l.length≤50000000):∀(n i j:Nat),j-i≤n→i≤bJ l x→bJ l x≤j→j≤l.length → LX G 208206 jv Tryz.f206 iI (aO Tryz.prog 206 0) ((l,(((l.length:Nat):Int),((i:Int),((j:Int),())))),(((x,()),()),()))=some (((((bJ l x:Nat):Int),(decide ((l[bJ l x]?).map (·.1)=some x),())):Int×(Bool×Unit)),()):=by
 have rY:=GC l x;have fin:∀(i j:Nat),¬(i<j)→i≤bJ l x→bJ l x≤j→LX G 208206 jv Tryz.f206 iI (aO Tryz.prog 206 0) ((l,(((l.length:Nat):Int),((i:Int),((j:Int),())))),(((x,()),()),()))=some (((((bJ l x:Nat):Int),(decide ((l[bJ l x]?).map (·.1)=some x),())):Int×(Bool×Unit)),()):=fun i j zY h1 h2=>by
  have hi:i=bJ l x:=by omega
  subst hi;refine ao Co ?_;refine ag (decide_eq_false (show ¬(((bJ l x:Nat):Int)<(j:Int)) by omega)) ?_;by_cases hc:bJ l x<l.length
  ·have hx:l[bJ l x]? = some l[bJ l x]:=aaV hc;refine af (aY hc) ?_;refine aa (aA hx) ?_;refine aa (Xt hG l[bJ l x] x) ?_;refine congrArg (fun b:Bool=>some ((((bJ l x:Nat):Int),(b,())),())) ?_;rw[hx];unfold p4;by_cases he:l[bJ l x].1=x
   ·simp[he]
   ·simp[he];split<;>simp
  ·refine ag (decide_eq_false (show ¬(((bJ l x:Nat):Int)<((l.length:Nat):Int)) by omega)) ?_;refine congrArg (fun b:Bool=>some ((((bJ l x:Nat):Int),(b,())),())) ?_;rw[List.getElem?_eq_none (by omega)];simp
 intro n
 induction n with
 |zero=>intro i j zY h1 h2 h3;exact fin i j (by omega) h1 h2
 |succ n ih =>
  intro i j zY h1 h2 h3;by_cases aF:i<j
  case neg=>exact fin i j aF h1 h2
  refine ao Co ?_;refine af (decide_eq_true (show((i:Int)<(j:Int)) by omega)) ?_;refine ag rfl ?_;have hm:=Le (i:=i) (j:=j) (by omega) (by omega);have hh:(i+j) / 2<l.length:=by omega
  have hx:l[(i+j) / 2]? = some l[(i+j) / 2]:=aaV hh;have oy:=xK (x:=x) hs ((i+j) / 2) _ hx;refine aa (show aT l (IntKind.wrap .i64 (lg .u64 (IntKind.wrap .u64 (IntKind.wrap .i64 ((i:Int)+(j:Int)))) (1:Int)))=some l[(i+j) / 2] by rw[hm];exact aA hx) ?_;refine aa (Xt hG l[(i+j) / 2] x) ?_;by_cases ho:fh l[(i+j) / 2].1 x=true
  ·refine af (decide_eq_true ((kh _ _).2 ho)) ?_;have hc:=oy.1 ho;have hw:IntKind.wrap .i64 (IntKind.wrap .i64 (lg .u64 (IntKind.wrap .u64 (IntKind.wrap .i64 ((i:Int)+(j:Int)))) (1:Int))+1)=(((i+j) / 2+1:Nat):Int):=by rw[hm];exact aD hh (by omega)
   have:=ih ((i+j) / 2+1) j (by omega) (by omega) h2 h3;rw[←hw]at this;exact this
  ·refine ag (decide_eq_false (fun h=>ho ((kh _ _).1 h))) ?_;have hc:¬(i+j) / 2<bJ l x:=fun h=>ho (oy.2 h);have:=ih i ((i+j) / 2) (by omega) h1 (by omega) (by omega);rw[←hm]at this;exact this
theorem SL(hG:HG G)(l:List ah)(x:ID)(hs:cc l)(hl:l.length≤50000000) :
  FX G 208206 jv ((l,x,()),())=some (((((bJ l x:Nat):Int),(decide ((l[bJ l x]?).map (·.1)=some x),())):Int×(Bool×Unit)),()):=by
 refine az (hG _ _ rfl) Sb ?_;exact SK hG l x hs hl l.length 0 l.length (by omega) (by omega) (GC l x) (ada _)
theorem qx(hG:HG G)(w:ba)(x:ID)(hs:cc w.1)(hl:w.1.length≤50000000) :
  FX G 175 qv ((x,()),(w,()))=some (((((bJ w.1 x:Nat):Int),(decide ((w.1[bJ w.1 x]?).map (·.1)=some x),())):Int×(Bool×Unit)),(w,())):=by
 refine az (hG _ _ rfl) abf ?_;exact aa (SL hG w.1 x hs hl) rfl
theorem sK{x:ID}:∀{l:List ah},cc l→bg l x=(l[bJ l x]?).filter fun v=>decide (v.1=x)
 |[],_=>rfl
 |w::r,hs=>by
  have hw:∀{u:ah},u∈r→fh w.1 u.1=true:=fun {u} hu=>adF hs hu;have hr:cc r:=hs.of_cons;by_cases aF:fh w.1 x=true
  ·have e:bJ (w::r) x=bJ r x+1:=by unfold bJ;rw[List.countP_cons_of_pos (by simpa using aF)]
   have bw:¬w.1=x:=fun e=>by rw[e,cm]at aF;cases aF
   rw[e];simp only[bg,List.find?_cons,bw,decide_false,List.getElem?_cons_succ];exact sK hr
  ·have hn:∀u∈w::r,fh u.1 x=false:=fun u hu=>by
    rcases aa1.1 hu with rfl|hu
    ·simpa using aF
    ·rw[Bool.eq_false_iff];intro h2;exact aF (gP (hw hu) h2)
   rw[sJ hn];by_cases he:w.1=x
   ·simp[bg,List.find?_cons,he,Option.filter]
   ·have J5:fh x w.1=true:=lE (by simpa using aF) he;have:bg r x=none:=by
     unfold bg;rw[List.find?_eq_none];intro u hu h2;have h3:u.1=x:=by simpa using h2
     have h4:=hw hu;rw[h3]at h4;have:=lD h4;rw[J5]at this;cases this
    rw[show bg (w::r) x=bg r x by simp only[bg,List.find?_cons,he,decide_false],this];simp[he,Option.filter]
theorem fS{l:List ah}{x:ID}(hs:cc l):decide ((l[bJ l x]?).map (·.1)=some x)=(bg l x).isSome:=by
 rw[sK hs]
 cases h:l[bJ l x]? with
 |none=>simp
 |some v=>by_cases he:v.1=x<;>simp[he,Option.filter]
theorem I4(v:ah):∀{l:List ah},cc l→bg l v.1=none→eO v l=l.take (bJ l v.1)++(v::l.drop (bJ l v.1))
 |[],_,_=>rfl
 |w::r,hs,hf=>by
  have hw:∀{u:ah},u∈r→fh w.1 u.1=true:=fun {u} hu=>adF hs hu;have hr:cc r:=hs.of_cons;have bw:¬w.1=v.1:=fun e=>by simp[bg,e]at hf
  have DL:bg r v.1=none:=by simpa[bg,List.find?_cons,bw] using hf
  by_cases aF:fh w.1 v.1=true
  ·have e:bJ (w::r) v.1=bJ r v.1+1:=by unfold bJ;rw[List.countP_cons_of_pos (by simpa using aF)]
   have WK:fh v.1 w.1=false:=lD aF;rw[e,eO,if_neg (by simp[WK]),I4 v hr DL];rfl
  ·have hn:∀u∈w::r,fh u.1 v.1=false:=fun u hu=>by
    rcases aa1.1 hu with rfl|hu
    ·simpa using aF
    ·rw[Bool.eq_false_iff];intro h2;exact aF (gP (hw hu) h2)
   have J5:fh v.1 w.1=true:=lE (by simpa using aF) bw;rw[sJ hn,eO,if_pos J5];rfl
theorem xL{x:ID}:∀{l:List ah},cc l→(bg l x).isSome=true→dG l x=l.take (bJ l x)++l.drop (bJ l x+1)
 |[],_,hf=>by simp[bg]at hf
 |w::r,hs,hf=>by
  have hw:∀{u:ah},u∈r→fh w.1 u.1=true:=fun {u} hu=>adF hs hu;have hr:cc r:=hs.of_cons;by_cases he:w.1=x
  ·have hn:∀u∈w::r,fh u.1 x=false:=fun u hu=>by
    rcases aa1.1 hu with rfl|hu
    ·rw[he,cm]
    ·rw[←he];exact lD (hw hu)
   have eZ:dG r x=r:=by unfold dG;rw[List.filter_eq_self];intro u hu;have h4:=hw hu;simp;intro e2;rw[he,e2,cm]at h4;cases h4
   rw[sJ hn];unfold dG;rw[List.filter_cons_of_neg (by simp[he])];exact eZ
  ·have DL:(bg r x).isSome=true:=by simpa[bg,List.find?_cons,he] using hf
   have aF:fh w.1 x=true:=by
    obtain⟨u,hu⟩:=adf.1 DL;have h1:=ado hu;have h2:u.1=x:=by simpa using aeF hu
    rw[←h2];exact hw h1
   have e:bJ (w::r) x=bJ r x+1:=by unfold bJ;rw[List.countP_cons_of_pos (by simpa using aF)]
   rw[e];have:=xL hr DL;simp[dG,List.filter_cons,he]at this ⊢;exact this
theorem oQ(v:ah):∀{l:List ah},cc l→bg l v.1=none→cc (eO v l)
 |[],_,_=>List.pairwise_singleton _ _
 |w::r,hs,hf=>by
  have hw:∀{u:ah},u∈r→fh w.1 u.1=true:=fun {u} hu=>adF hs hu;have hr:cc r:=hs.of_cons;have bw:¬w.1=v.1:=fun e=>by simp[bg,e]at hf
  have DL:bg r v.1=none:=by simpa[bg,List.find?_cons,bw] using hf
  unfold eO
  split
  ·rename_i h;refine List.Pairwise.cons (fun u hu=>?_) hs;rcases aa1.1 hu with rfl|hu
   ·exact h
   ·exact gP h (hw hu)
  ·rename_i h;have aF:fh w.1 v.1=true:=lE (by simpa using h) (fun e=>bw e.symm);refine List.Pairwise.cons (fun u hu=>?_) (oQ v hr DL);rcases mz.1 hu with rfl|hu
   ·exact aF
   ·exact hw hu
theorem qc{l:List ah}{x:ID}(hs:cc l):cc (dG l x):=hs.filter _
theorem aic(hG:G 127 Oj=none)(l:List ah)(hl:l.length≤50000000):FX G 127 Oj ((l,()),())=some ((l,()),()):=by
 refine az hG ag7 ?_
 cases l with
 |nil=>exact af rfl (nc (by omega) fun j hj=>by cases j<;>rfl)
 |cons x r=>exact ag rfl (af (fits (by simp at hl ⊢;omega)) rfl)
theorem aid(hG:G 128 Ol=none)(l:List ai)(hl:l.length≤50000000):FX G 128 Ol ((l,()),())=some ((l,()),()):=by
 refine az hG ag8 ?_
 cases l with
 |nil=>exact af rfl (nc (by omega) fun j hj=>by cases j<;>rfl)
 |cons x r=>exact ag rfl (af (fits (by simp at hl ⊢;omega)) rfl)
theorem YP(hG:G 110 zK=none)(l:List ae)(hl:l.length≤50000000):FX G 110 zK ((l,()),())=some ((l,()),()):=by
 refine az hG ag9 ?_
 cases l with
 |nil=>exact af rfl (nc (by omega) fun j hj=>by cases j<;>rfl)
 |cons x r=>exact ag rfl (af (fits (by simp at hl ⊢;omega)) rfl)
theorem VF(hG:G 97 Ig=none)(l:List aB)(hl:l.length≤50000000):FX G 97 Ig ((l,()),())=some ((l,()),()):=by
 refine az hG agO ?_
 cases l with
 |nil=>exact af rfl (nc (by omega) fun j hj=>by cases j<;>rfl)
 |cons x r=>exact ag rfl (af (fits (by simp at hl ⊢;omega)) rfl)
theorem SM{α:Type}{l:List α}{i:Nat}{x:α}(h:l[i]? = some x):l.set i x=l:=by obtain⟨hi,he⟩:=aaW.1 h;subst he;simp
theorem YQ(hG:HG G)(d:aj)(hs:Sm d):FX G 96 F4 ((d,()),())=some (((d.1,(d.2,())),()),()):=by
 have hv:=hs.v;have he:=hs.e;refine az (hG _ _ rfl) agN ?_;refine aa (aic (hG _ _ rfl) d.1 (by omega)) ?_;refine aa (aid (hG _ _ rfl) d.2 (by omega)) ?_;have loop:∀(n i:Nat) (out:List ah),i+n=d.1.length→out=d.1→LX G 96 F4 Tryz.f96 Ck (aO Tryz.prog 96 0) ((((d.1.length:Nat):Int),((i:Int),())),(((([]:List ah),(([]:List ai),())),((out,(d.2,())),())),()))=some (((d.1,(d.2,())),()),()):=by
  intro n
  induction n with
  |zero =>intro i out hi ho;subst ho;refine ao RQ ?_;exact ag (decide_eq_false (show ¬((i:Int)<((d.1.length:Nat):Int)) by omega)) rfl
  |succ n ih =>
   intro i out hi ho;have nK:=ho;subst ho;refine ao RQ ?_;have aF:i<d.1.length:=by omega
   have hx:d.1[i]? = some d.1[i]:=aaV aF;refine af (aY aF) ?_;refine af (c9 (fj i) (aY aF)) ?_;refine aa hx ?_;refine aa (YP (hG _ _ rfl) d.1[i].2.1 (hs.r _ (adg aF))) ?_;refine af (c9 (fj i) (aY aF)) ?_;refine aa hx ?_;rw[wI,aD aF (show d.1.length≤1073741824 by omega)];exact ih (i+1) (d.1.set i d.1[i]) (by omega) (SM hx)
 exact loop d.1.length 0 d.1 (by omega) rfl
def qy(w:ba)(v:ah):Int×ba :=if(bg w.1 v.1).isSome=true then(12,w) else if 24≤w.1.length then(3,w) else(0,(eO v w.1,w.2))
def EM(w:ba)(x:ID):Int×ba:=match bg w.1 x with
 |none=>(13,w)
 |some v=>if 0<v.2.1.length then(14,w) else(0,(dG w.1 x,w.2))
theorem YR(hG:HG G)(w:ba)(v:ah)(hs:cc w.1)(hl:w.1.length≤50000000):FX G 152 Ij ((v,()),(w,()))=some (((qy w v).1,()),((qy w v).2,())):=by
 refine az (hG _ _ rfl) ahi ?_;refine aa (qx hG w v.1 hs hl) ?_;unfold qy
 cases hf:(bg w.1 v.1).isSome
 ·rw[if_neg (by simp)];refine ag ((fS hs).trans hf) ?_;by_cases h2:24≤w.1.length
  ·rw[if_pos h2];exact af (decide_eq_true (show((w.1.length:Nat):Int)≥24 by omega)) rfl
  ·rw[if_neg h2];refine ag (decide_eq_false (show ¬((w.1.length:Nat):Int)≥24 by omega)) ?_;have hc:=GC w.1 v.1;have lT:qL w.1 ((bJ w.1 v.1:Nat):Int) [v]=true:=by unfold qL;rw[decide_eq_true (show(0:Int)≤((bJ w.1 v.1:Nat):Int) by omega),decide_eq_true (show((bJ w.1 v.1:Nat):Int)≤((w.1.length:Nat):Int) by omega)];rw[fits (by simp;omega)];rfl
   refine af lT ?_;have e:gk w.1 ((bJ w.1 v.1:Nat):Int) [v]=eO v w.1:=by rw[I4 v hs (by simpa using hf)];unfold gk;simp
   exact congrArg (fun l:List ah=>some (((0:Int),()),((l,w.2),()))) e
 ·rw[if_pos rfl];exact af ((fS hs).trans hf) rfl
theorem aie(hG:HG G)(w:ba)(o:aR)(hs:cc w.1)(hl:w.1.length≤50000000):FX G 153 Rg ((o,()),(w,()))=some (((EM w (aH o)).1,()),((EM w (aH o)).2,())):=by
 refine az (hG _ _ rfl) ahj ?_;refine aa (qx hG w (aH o) hs hl) ?_;unfold EM;have hth:=fS (x:=aH o) hs;have kL:=sK (x:=aH o) hs
 cases hf:bg w.1 (aH o) with
 |none =>rw[hf]at hth;refine af (show(!(decide ((w.1[bJ w.1 (aH o)]?).map (·.1)=some (aH o))))=true by rw[hth];rfl) rfl
 |some v =>
  rw[hf]at hth kL;refine ag (show(!(decide ((w.1[bJ w.1 (aH o)]?).map (·.1)=some (aH o))))=false by rw[hth];rfl) ?_;have hx:w.1[bJ w.1 (aH o)]? = some v:=by
   cases hg:w.1[bJ w.1 (aH o)]? with
   |none=>rw[hg]at kL;simp[Option.filter]at kL
   |some u =>
    rw[hg]at kL;simp only[Option.filter]at kL
    split at kL
    ·exact kL.symm
    ·cases kL
  have aF:=(aaW.1 hx).1;refine af (c9 (fj _) (aY aF)) ?_;refine aa hx ?_;show _=some ((((if 0<v.2.1.length then(14,w) else(0,(dG w.1 (aH o),w.2)):Int×ba).1,()),((if 0<v.2.1.length then(14,w) else(0,(dG w.1 (aH o),w.2)):Int×ba).2,())):(Int×Unit)×(ba×Unit));by_cases h2:0<v.2.1.length
  ·rw[if_pos h2];exact af (decide_eq_true (show((v.2.1.length:Nat):Int)>0 by omega)) rfl
  ·rw[if_neg h2];refine ag (decide_eq_false (show ¬((v.2.1.length:Nat):Int)>0 by omega)) ?_;have hw:IntKind.wrap .i64 (((bJ w.1 (aH o):Nat):Int)+1)=((bJ w.1 (aH o)+1:Nat):Int):=aD aF (by omega);have lT:jH w.1 ((bJ w.1 (aH o):Nat):Int) (IntKind.wrap .i64 (((bJ w.1 (aH o):Nat):Int)+1))=true:=by rw[hw];unfold jH;rw[decide_eq_true (show(0:Int)≤((bJ w.1 (aH o):Nat):Int) by omega),decide_eq_true (show((bJ w.1 (aH o):Nat):Int)<((bJ w.1 (aH o)+1:Nat):Int) by omega),decide_eq_true (show((bJ w.1 (aH o)+1:Nat):Int)≤((w.1.length:Nat):Int) by omega),fits (by omega)];rfl
   refine af lT ?_;have e:dA w.1 ((bJ w.1 (aH o):Nat):Int) (IntKind.wrap .i64 (((bJ w.1 (aH o):Nat):Int)+1))=dG w.1 (aH o):=by rw[hw,xL hs (by rw[hf];rfl)];unfold dA;simp only[Int.toNat_natCast]
   exact congrArg (fun l:List ah=>some (((0:Int),()),((l,w.2),()))) e
def zW:ba:=([],([],([],())))
def aP(s:StateT):ba:=(s.1.1,(s.1.2,(s.2,())))
def Av(w:ba):StateT:=((w.1,w.2.1),w.2.2.1)
def gG(e:Int)(w:ba):StateT×(Int×Unit):=if e≠0 then(zS,(e,())) else(Av w,(0,()))
theorem aif(hG:HG G)(s:StateT)(o:aR)(hs:Sm s.1)(hg:s.2.length≤50000000){e:Int}{w:ba}(h:FX G 131 BJ ((o,()),(aP s,()))=some ((e,()),(w,()))) :
  FX G 103 DQ ((s,[o],()),())=some (gG e w,()):=by
 refine az (hG _ _ rfl) aa5 ?_;refine aa (YQ hG s.1 hs) ?_;refine aa (VF (hG _ _ rfl) s.2 hg) ?_;refine ao Ga ?_;refine af rfl (aa (a:=o) rfl ?_);refine aa h ?_;unfold gG;by_cases he:e=0
 ·rw[if_neg (by simp[he])];refine ag (show(e != 0)=false by simp[he]) ?_;refine ao Ga ?_;exact ag rfl rfl
 ·rw[if_pos he];exact af (show(e != 0)=true by simp[he]) rfl
def SO(k:Int)(x:ID):aR:=(k,(x,(zI,(zI,(zC,(zC,(false,(e0,0))))))))
def akv(x:ID):Int:=if cf x=true then 0 else 1
theorem VG(hG:HG G)(s:StateT)(o:aR){b:Int}(h:FX G 104 KR ((o,()),())=some ((b,()),()))(hs:Sm s.1)(hg:s.2.length≤50000000){e:Int}{w:ba} (h2:b=0→FX G 131 BJ ((o,()),(aP s,()))=some ((e,()),(w,()))):FX G 73 H6 ((s,o,()),())=some ((if b≠0 then(zS,(b,())) else gG e w),()):=by
 refine az (hG _ _ rfl) aa4 ?_;refine aa h ?_;by_cases hb:b=0
 ·rw[if_neg (by simp[hb])];refine ag (show(b != 0)=false by simp[hb]) ?_;exact aa (aif hG s o hs hg (h2 hb)) rfl
 ·rw[if_pos hb];exact af (show(b != 0)=true by simp[hb]) rfl
def shS:StateT:=(([((1,1),([],(e0,0)))],[]),[])
end Go.Vs
namespace Go.Vs
open Go.Proofs
theorem cc.map{l:List ah}(h:cc l){f:ah→ah}(hf:∀v,(f v).1=v.1):cc (l.map f):=by unfold cc at h ⊢;rw[List.pairwise_map];exact h.imp fun {a b} mJ=>by rw[hf,hf];exact mJ
theorem oR{x:ID}{f:ah→ah}(hf:∀v,(f v).1=v.1):∀(l:List ah),bg (l.map f) x=(bg l x).map f
 |[]=>rfl
 |w::r=>by
  unfold bg;rw[List.map_cons,List.find?_cons,List.find?_cons,hf];have:=oR (x:=x) hf r;unfold bg at this
  cases decide (w.1=x) with
  |true=>rfl
  |false=>exact this
theorem rH(x:ID)(l:List ae)(w:ah):(sH x l w).1=w.1:=by unfold sH;split<;>rfl
theorem MQ(o:aR)(w:ah):(jh o w).1=w.1:=by unfold jh;split<;>(try split)<;>rfl
structure Iv(d:aj):Prop where
 s:cc d.1
 n:d.1.length≤24
theorem Iv.zero:Iv zS.1:=⟨List.Pairwise.nil,by simp[zS]⟩
theorem Iv.cp{d:aj}(h:Iv d)(x:ID)(l:List ae):Iv (cp d x l):=⟨h.s.map (rH x l),by unfold Vs.cp;simp;exact h.n⟩
theorem Iv.bj{d:aj}(h:Iv d)(v e:ID):Iv (bj d v e):=⟨qc h.s,adC (adL _ _) h.n⟩
theorem Iv.one{s:StateT}(h:Iv s.1)(o:aR):Iv (c8 s o).1.1:=by
 unfold c8
 split;· exact Iv.zero
 split
 ·unfold qw
  split;· exact Iv.zero
  split;· exact Iv.zero
  rename_i h1 h2;exact⟨oQ _ h.s (by simpa[aQ] using h1),by rw[gE];omega⟩
 split
 ·unfold zm
  split
  ·exact Iv.zero
  ·split
   ·exact Iv.zero
   ·exact h.bj _ _
 split
 ·unfold oP
  split;· exact Iv.zero
  split;· exact Iv.zero
  split;· exact Iv.zero
  split;· exact Iv.zero
  split;· exact Iv.zero
  have h1:Iv (s.1.1,dC (aH o,(e0,0)) s.1.2):=⟨h.s,h.n⟩;exact(h1.cp _ _).cp _ _
 split
 ·unfold DX
  split;· exact Iv.zero
  exact((h.cp _ _).cp _ _).bj _ _
 split
 ·unfold mA
  split;· exact Iv.zero
  split;· exact Iv.zero
  split;· exact Iv.zero
  split;· exact Iv.zero
  split;· exact Iv.zero
  rename_i h1 h2 h3 h4 h5;have h6:bg s.1.1 (dR o)=none:=by simpa[aQ] using h2
  have h7:bg (aK s.1 (J8 o) (au (G6 o))).1 (dR o)=none:=by unfold aK Vs.cp;rw[oR (rH _ _),h6];rfl
  refine⟨oQ _ (h.cp _ _).s h7,?_⟩;unfold SH;rw[gE];have:(aK s.1 (J8 o) (au (G6 o))).1.length=s.1.1.length:=by unfold aK Vs.cp;simp
  omega
 split
 ·unfold ki;have key:∀a b:ae,Iv (Lc s o a b):=fun a b=>((h.bj _ _).cp _ _).bj _ _
  split
  ·exact Iv.zero
  ·split
   ·unfold jA
    split;· exact Iv.zero
    split;· exact key _ _
    split;· exact key _ _
    exact Iv.zero
   ·exact Iv.zero
 ·unfold xI
  split
  ·exact⟨h.s.map (MQ o),by simp;exact h.n⟩
  ·exact Iv.zero
theorem Iv.go:∀(l:List aR) {s:StateT},Iv s.1→Iv (qb l s).1.1
 |[],s,h=>h
 |o::r,s,h=>by
  unfold qb
  split
  ·exact Iv.zero
  ·exact Iv.go r (h.one o)
theorem Iv.try{s:StateT}(h:Iv s.1)(l:List aR):Iv (mQ s l).1:=by
 unfold mQ
 split
 ·exact h
 ·unfold c7
  split
  ·exact Iv.zero
  ·exact Iv.go l h
theorem Iv.reach:∀(m:Nat) (l:List (List aR)) {s:StateT},Iv s.1→Iv (mB m l s).1
 |0,_,s,h=>by simpa[mB] using h
 |m+1,[],s,h=>h
 |m+1,l::r,s,h=>by rw[mB];exact Iv.reach m r (h.try _)
theorem Iv.MP(l:List (List aR)):Iv (CG l).1:=Iv.reach 30 l Iv.zero
end Go.Vs
