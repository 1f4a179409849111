/- What the program computes at vertices, written plainly. -/
import Derived.Test.YtpldhjjpeldkaaaGreatRefB
set_option linter.unusedVariables false
set_option linter.unusedSimpArgs false
namespace Go.Vs
open Go.Proofs
variable {G:(f:FuncId)→(g:aL)→Option (g.A→Option g.B)}
theorem IF(hG:G 86 rl=none)(x:ID):FX G 86 rl ((x,()),())=some ((cZ x,()),()):=by
 refine aA (fn:=Tryz.f86) hG (by kernel_rfl) (by kernel_rfl) ((afN _ _ _).trans ?_)
 obtain⟨a,b⟩:=x
 show(cond (decide (a≥1)) (cond (decide (a≤8)) (cond (decide (b≥1)) (some ((decide (b≤1048576),()),())) (some ((false,()),()))) (some ((false,()),()))) (some ((false,()),())):Option ((Bool×Unit)×Unit))=some ((cZ (a,b),()),())
 unfold cZ
 simp only[cond_eq_ite]
 by_cases h1:(1:Int)≤a<;>by_cases h2:a≤8<;>by_cases h3:(1:Int)≤b<;>simp[h1,h2,h3]
theorem VR(hG:G 159 BJ=none)(n:Int):FX G 159 BJ ((n,()),())=some ((false,()),()):=by
 refine aA (fn:=Tryz.f159) hG (by kernel_rfl) (by kernel_rfl) ((aaB _ _ _).trans ?_)
 exact congrArg (fun b:Bool=>some ((b,()),())) (show(n != n)=false by simp)
def Kt(a b:Int):Int:=if a<b then -1 else if a>b then 1 else 0
theorem Ri(hG:HG G)(a b:Int):FX G 145 BH ((a,b,()),())=some ((Kt a b,()),()):=by
 refine aA (fn:=Tryz.f145) (hG _ _ rfl) (by kernel_rfl) (by kernel_rfl) ((aav _ _ _).trans ?_)
 refine aa (VR (hG _ _ rfl) a) ?_
 refine aa (VR (hG _ _ rfl) b) ?_
 refine aj rfl (aj rfl ?_)
 unfold Kt
 by_cases h1:a<b
 ·rw[if_pos h1];exact ae (decide_eq_true h1) rfl
 rw[if_neg h1]
 refine aj (decide_eq_false h1) ?_
 by_cases h2:a>b
 ·rw[if_pos h2];exact ae (decide_eq_true h2) rfl
 rw[if_neg h2];exact aj (decide_eq_false h2) rfl
theorem VS(hG:G 144 vI=none)(a b:Int):FX G 144 vI (([a,b],()),())=some ((if a≠0 then a else b,()),()):=by
 refine aA (fn:=Tryz.f144) hG (by kernel_rfl) (by kernel_rfl) ((aau _ _ _).trans ?_)
 by_cases ha:a=0
 ·rw[if_neg (by simp[ha])]
  refine aB (j:=0) (by kernel_rfl) ((Ae _ _ _).trans ?_)
  refine ae rfl (aa (a:=a) rfl ?_)
  refine aj (show(a != 0)=false by simp[ha]) ?_
  refine aB (j:=0) (by kernel_rfl) ((Ae _ _ _).trans ?_)
  refine ae rfl (aa (a:=b) rfl ?_)
  by_cases hb:b=0
  ·refine aj (show(b != 0)=false by simp[hb]) ?_
   refine aB (j:=0) (by kernel_rfl) ((Ae _ _ _).trans ?_)
   rw[hb]
   exact aj rfl rfl
  ·exact ae (show(b != 0)=true by simp[hb]) rfl
 ·rw[if_pos ha]
  refine aB (j:=0) (by kernel_rfl) ((Ae _ _ _).trans ?_)
  refine ae rfl (aa (a:=a) rfl ?_)
  exact ae (show(a != 0)=true by simp[ha]) rfl
theorem Rj(hG:HG G)(a b:ID):FX G 127 BG ((a,b,()),())=some ((rB a b,()),()):=by
 refine aA (fn:=Tryz.f127) (hG _ _ rfl) (by kernel_rfl) (by kernel_rfl) ((aai _ _ _).trans ?_)
 unfold rB
 by_cases h:a=b
 ·rw[if_pos h];exact ae ((jT a b).trans (decide_eq_true h)) rfl
 rw[if_neg h]
 refine aj ((jT a b).trans (decide_eq_false h)) ?_
 refine aa (Ri hG a.1 b.1) ?_
 refine aa (Ri hG a.2 b.2) ?_
 refine aa (VS (hG _ _ rfl) (Kt a.1 b.1) (Kt a.2 b.2)) ?_
 refine congrArg (fun n:Int=>some ((n,()),())) ?_
 obtain⟨a1,a2⟩:=a
 obtain⟨b1,b2⟩:=b
 unfold Kt gq
 simp only[Prod.mk.injEq,not_and]at h
 simp only
 by_cases h1:a1<b1
 ·simp[h1]
 ·by_cases h2:a1>b1
  ·have:¬a1=b1:=by omega
   simp[h1,h2,this]
  ·have h3:a1=b1:=by omega
   have h4:=h h3
   subst h3
   by_cases h5:a2<b2
   ·simp[h5]
   ·have:a2>b2:=by omega
    simp[h5,this]
theorem VT(hG:HG G)(v:ag)(x:ID):FX G 126 Eg ((v,x,()),())=some ((rB v.1 x,()),()):=by
 refine aA (fn:=Tryz.f126) (hG _ _ rfl) (by kernel_rfl) (by kernel_rfl) ((aah _ _ _).trans ?_)
 exact aa (Rj hG v.1 x) rfl
theorem Ku{i j:Nat}(hi:i≤1000000000)(hj:j≤1000000000):IntKind.wrap .i64 (lB .u64 (IntKind.wrap .u64 (IntKind.wrap .i64 ((i:Int)+(j:Int)))) (1:Int))=(((i+j) / 2:Nat):Int):=by
 have e1:IntKind.wrap .i64 ((i:Int)+(j:Int))=((i+j:Nat):Int):=by rw[wrap_small (by omega) (by omega)];rfl
 have e2:IntKind.wrap .u64 ((i+j:Nat):Int)=((i+j:Nat):Int):=by
  unfold IntKind.wrap;simp[IntKind.bits,IntKind.signed];omega
 have e3:lB .u64 ((i+j:Nat):Int) 1=(((i+j) / 2:Nat):Int):=by
  unfold lB
  have:(min (Int.toNat 1) IntKind.u64.bits)=1:=by decide
  rw[this,Int.fdiv_eq_ediv_of_nonneg _ (by omega)]
  rfl
 rw[e1,e2,e3,wrap_small (by omega) (by omega)]
def bJ(l:List ag)(x:ID):Nat:=l.countP fun v=>gq v.1 x
def cf(l:List ag):Prop:=l.Pairwise fun a b=>gq a.1 b.1=true
theorem jr{a b c:ID}(h:gq a b=true)(k:gq b c=true):gq a c=true:=by
 simp[gq]at *;omega
theorem lR{a b:ID}(h:gq a b=true):gq b a=false:=by
 simp[gq]at *;omega
theorem lS{a b:ID}(h:gq a b=false)(k:a≠b):gq b a=true:=by
 obtain⟨a1,a2⟩:=a;obtain⟨b1,b2⟩:=b
 simp[gq]at *;omega
theorem F2(l:List ag)(x:ID):bJ l x≤l.length:=List.countP_le_length
theorem sN{l:List ag}{x:ID}(h:∀v∈l,gq v.1 x=false):bJ l x=0:=by
 unfold bJ;rw[List.countP_eq_zero];intro v hv;simp[h v hv]
theorem xH{x:ID}:∀{l:List ag},cf l→∀(k:Nat) (v:ag),l[k]? = some v→(gq v.1 x=true↔k<bJ l x)
 |[],_,k,v,h=>by simp at h
 |w::r,hs,k,v,h=>by
  have hw:∀{u:ag},u∈r→gq w.1 u.1=true:=fun {u} hu=>List.rel_of_pairwise_cons hs hu
  have hr:cf r:=hs.of_cons
  by_cases aM:gq w.1 x=true
  ·have e:bJ (w::r) x=bJ r x+1:=by unfold bJ;rw[List.countP_cons_of_pos (by simpa using aM)]
   cases k with
   |zero=>simp at h;subst h;simp[aM,e]
   |succ k=>have:=xH (x:=x) hr k v (by simpa using h);rw[this,e];omega
  ·have hn:∀u∈w::r,gq u.1 x=false:=fun u hu=>by
    rcases List.mem_cons.1 hu with rfl|hu
    ·simpa using aM
    ·rw[Bool.eq_false_iff];intro h2;exact aM (jr (hw hu) h2)
   rw[sN hn,hn v (List.mem_of_getElem? h)]
   simp
theorem Rk(hG:HG G)(l:List ag)(x:ID)(hs:cf l)(hl:l.length≤50000000):∀(n i j:Nat),j-i≤n→i≤bJ l x→bJ l x≤j→j≤l.length →
  LX G 127125 jH Tryz.f125 iX (aY Tryz.prog 125 0) ((l,(((l.length:Nat):Int),((i:Int),((j:Int),())))),(((x,()),()),()))=some (((((bJ l x:Nat):Int),(decide ((l[bJ l x]?).map (·.1)=some x),())):Int×(Bool×Unit)),()):=by
 have uM:=F2 l x
 have fin:∀(i j:Nat),¬(i<j)→i≤bJ l x→bJ l x≤j→LX G 127125 jH Tryz.f125 iX (aY Tryz.prog 125 0) ((l,(((l.length:Nat):Int),((i:Int),((j:Int),())))),(((x,()),()),()))=some (((((bJ l x:Nat):Int),(decide ((l[bJ l x]?).map (·.1)=some x),())):Int×(Bool×Unit)),()):=fun i j AW h1 h2=>by
  have hi:i=bJ l x:=by omega
  subst hi
  refine aB (j:=0) (by kernel_rfl) ((B6 _ _ _).trans ?_)
  refine aj (decide_eq_false (show ¬(((bJ l x:Nat):Int)<(j:Int)) by omega)) ?_
  by_cases hc:bJ l x<l.length
  ·have hx:l[bJ l x]? = some l[bJ l x]:=List.getElem?_eq_getElem hc
   refine ae (bm hc) ?_
   refine aa (aR hx) ?_
   refine aa (VT hG l[bJ l x] x) ?_
   refine congrArg (fun b:Bool=>some ((((bJ l x:Nat):Int),(b,())),())) ?_
   rw[hx]
   unfold rB
   by_cases he:l[bJ l x].1=x
   ·simp[he]
   ·simp[he];split<;>simp
  ·refine aj (decide_eq_false (show ¬(((bJ l x:Nat):Int)<((l.length:Nat):Int)) by omega)) ?_
   refine congrArg (fun b:Bool=>some ((((bJ l x:Nat):Int),(b,())),())) ?_
   rw[List.getElem?_eq_none (by omega)];simp
 intro n
 induction n with
 |zero=>intro i j AW h1 h2 h3;exact fin i j (by omega) h1 h2
 |succ n ih =>
  intro i j AW h1 h2 h3
  by_cases aM:i<j
  case neg=>exact fin i j aM h1 h2
  refine aB (j:=0) (by kernel_rfl) ((B6 _ _ _).trans ?_)
  refine ae (decide_eq_true (show((i:Int)<(j:Int)) by omega)) ?_
  refine aj rfl ?_
  have hm:=Ku (i:=i) (j:=j) (by omega) (by omega)
  have hh:(i+j) / 2<l.length:=by omega
  have hx:l[(i+j) / 2]? = some l[(i+j) / 2]:=List.getElem?_eq_getElem hh
  have ox:=xH (x:=x) hs ((i+j) / 2) _ hx
  refine aa (show br l (IntKind.wrap .i64 (lB .u64 (IntKind.wrap .u64 (IntKind.wrap .i64 ((i:Int)+(j:Int)))) (1:Int)))=some l[(i+j) / 2] by rw[hm];exact aR hx) ?_
  refine aa (VT hG l[(i+j) / 2] x) ?_
  by_cases ho:gq l[(i+j) / 2].1 x=true
  ·refine ae (decide_eq_true ((nr _ _).2 ho)) ?_
   have hc:=ox.1 ho
   have hw:IntKind.wrap .i64 (IntKind.wrap .i64 (lB .u64 (IntKind.wrap .u64 (IntKind.wrap .i64 ((i:Int)+(j:Int)))) (1:Int))+1)=(((i+j) / 2+1:Nat):Int):=by
    rw[hm];exact aN hh (by omega)
   have:=ih ((i+j) / 2+1) j (by omega) (by omega) h2 h3
   rw[←hw]at this
   exact this
  ·refine aj (decide_eq_false (fun h=>ho ((nr _ _).1 h))) ?_
   have hc:¬(i+j) / 2<bJ l x:=fun h=>ho (ox.2 h)
   have:=ih i ((i+j) / 2) (by omega) h1 (by omega) (by omega)
   rw[←hm]at this
   exact this
theorem Rl(hG:HG G)(l:List ag)(x:ID)(hs:cf l)(hl:l.length≤50000000) :
  FX G 127125 jH ((l,x,()),())=some (((((bJ l x:Nat):Int),(decide ((l[bJ l x]?).map (·.1)=some x),())):Int×(Bool×Unit)),()):=by
 refine aA (fn:=Tryz.f125) (hG _ _ rfl) (by kernel_rfl) (by kernel_rfl) ((QM _ _ _).trans ?_)
 exact Rk hG l x hs hl l.length 0 l.length (by omega) (by omega) (F2 l x) (Nat.le_refl _)
theorem qw(hG:HG G)(w:aF)(x:ID)(hs:cf w.1)(hl:w.1.length≤50000000) :
  FX G 107 qq ((x,()),(w,()))=some (((((bJ w.1 x:Nat):Int),(decide ((w.1[bJ w.1 x]?).map (·.1)=some x),())):Int×(Bool×Unit)),(w,())):=by
 refine aA (fn:=Tryz.f107) (hG _ _ rfl) (by kernel_rfl) (by kernel_rfl) ((ZT _ _ _).trans ?_)
 exact aa (Rl hG w.1 x hs hl) rfl
theorem sO{x:ID}:∀{l:List ag},cf l→aQ l x=(l[bJ l x]?).filter fun v=>decide (v.1=x)
 |[],_=>rfl
 |w::r,hs=>by
  have hw:∀{u:ag},u∈r→gq w.1 u.1=true:=fun {u} hu=>List.rel_of_pairwise_cons hs hu
  have hr:cf r:=hs.of_cons
  by_cases aM:gq w.1 x=true
  ·have e:bJ (w::r) x=bJ r x+1:=by unfold bJ;rw[List.countP_cons_of_pos (by simpa using aM)]
   have bp:¬w.1=x:=fun e=>by rw[e,cq]at aM;cases aM
   rw[e]
   simp only[aQ,List.find?_cons,bp,decide_false,List.getElem?_cons_succ]
   exact sO hr
  ·have hn:∀u∈w::r,gq u.1 x=false:=fun u hu=>by
    rcases List.mem_cons.1 hu with rfl|hu
    ·simpa using aM
    ·rw[Bool.eq_false_iff];intro h2;exact aM (jr (hw hu) h2)
   rw[sN hn]
   by_cases he:w.1=x
   ·simp[aQ,List.find?_cons,he,Option.filter]
   ·have z7:gq x w.1=true:=lS (by simpa using aM) he
    have:aQ r x=none:=by
     unfold aQ;rw[List.find?_eq_none];intro u hu h2
     have h3:u.1=x:=by simpa using h2
     have h4:=hw hu
     rw[h3]at h4
     have:=lR h4
     rw[z7]at this;cases this
    rw[show aQ (w::r) x=aQ r x by simp only[aQ,List.find?_cons,he,decide_false],this]
    simp[he,Option.filter]
theorem fU{l:List ag}{x:ID}(hs:cf l):decide ((l[bJ l x]?).map (·.1)=some x)=(aQ l x).isSome:=by
 rw[sO hs]
 cases h:l[bJ l x]? with
 |none=>simp
 |some v=>by_cases he:v.1=x<;>simp[he,Option.filter]
theorem IG(v:ag):∀{l:List ag},cf l→aQ l v.1=none→cX v l=l.take (bJ l v.1)++(v::l.drop (bJ l v.1))
 |[],_,_=>rfl
 |w::r,hs,hf=>by
  have hw:∀{u:ag},u∈r→gq w.1 u.1=true:=fun {u} hu=>List.rel_of_pairwise_cons hs hu
  have hr:cf r:=hs.of_cons
  have bp:¬w.1=v.1:=fun e=>by simp[aQ,e]at hf
  have z6:aQ r v.1=none:=by simpa[aQ,List.find?_cons,bp] using hf
  by_cases aM:gq w.1 v.1=true
  ·have e:bJ (w::r) v.1=bJ r v.1+1:=by unfold bJ;rw[List.countP_cons_of_pos (by simpa using aM)]
   have Vk:gq v.1 w.1=false:=lR aM
   rw[e,cX,if_neg (by simp[Vk]),IG v hr z6]
   rfl
  ·have hn:∀u∈w::r,gq u.1 v.1=false:=fun u hu=>by
    rcases List.mem_cons.1 hu with rfl|hu
    ·simpa using aM
    ·rw[Bool.eq_false_iff];intro h2;exact aM (jr (hw hu) h2)
   have z7:gq v.1 w.1=true:=lS (by simpa using aM) bp
   rw[sN hn,cX,if_pos z7];rfl
theorem xI{x:ID}:∀{l:List ag},cf l→(aQ l x).isSome=true→cT l x=l.take (bJ l x)++l.drop (bJ l x+1)
 |[],_,hf=>by simp[aQ]at hf
 |w::r,hs,hf=>by
  have hw:∀{u:ag},u∈r→gq w.1 u.1=true:=fun {u} hu=>List.rel_of_pairwise_cons hs hu
  have hr:cf r:=hs.of_cons
  by_cases he:w.1=x
  ·have hn:∀u∈w::r,gq u.1 x=false:=fun u hu=>by
    rcases List.mem_cons.1 hu with rfl|hu
    ·rw[he,cq]
    ·rw[←he];exact lR (hw hu)
   have fO:cT r x=r:=by
    unfold cT;rw[List.filter_eq_self];intro u hu
    have h4:=hw hu
    simp;intro e2;rw[he,e2,cq]at h4;cases h4
   rw[sN hn]
   unfold cT
   rw[List.filter_cons_of_neg (by simp[he])]
   exact fO
  ·have z6:(aQ r x).isSome=true:=by simpa[aQ,List.find?_cons,he] using hf
   have aM:gq w.1 x=true:=by
    obtain⟨u,hu⟩:=Option.isSome_iff_exists.1 z6
    have h1:=List.mem_of_find?_eq_some hu
    have h2:u.1=x:=by simpa using List.find?_some hu
    rw[←h2];exact hw h1
   have e:bJ (w::r) x=bJ r x+1:=by unfold bJ;rw[List.countP_cons_of_pos (by simpa using aM)]
   rw[e]
   have:=xI hr z6
   simp[cT,List.filter_cons,he]at this ⊢
   exact this
theorem oL(v:ag):∀{l:List ag},cf l→aQ l v.1=none→cf (cX v l)
 |[],_,_=>List.pairwise_singleton _ _
 |w::r,hs,hf=>by
  have hw:∀{u:ag},u∈r→gq w.1 u.1=true:=fun {u} hu=>List.rel_of_pairwise_cons hs hu
  have hr:cf r:=hs.of_cons
  have bp:¬w.1=v.1:=fun e=>by simp[aQ,e]at hf
  have z6:aQ r v.1=none:=by simpa[aQ,List.find?_cons,bp] using hf
  unfold cX
  split
  ·rename_i h
   refine List.Pairwise.cons (fun u hu=>?_) hs
   rcases List.mem_cons.1 hu with rfl|hu
   ·exact h
   ·exact jr h (hw hu)
  ·rename_i h
   have aM:gq w.1 v.1=true:=lS (by simpa using h) (fun e=>bp e.symm)
   refine List.Pairwise.cons (fun u hu=>?_) (oL v hr z6)
   rcases mD.1 hu with rfl|hu
   ·exact aM
   ·exact hw hu
theorem mE{l:List ag}{x:ID}(hs:cf l):cf (cT l x):=hs.filter _
end Go.Vs
namespace Go.Vs
open Go.Proofs
variable {G:(f:FuncId)→(g:aL)→Option (g.A→Option g.B)}
theorem agL(hG:G 79 Nu=none)(l:List ag)(hl:l.length≤50000000):FX G 79 Nu ((l,()),())=some ((l,()),()):=by
 refine aA (fn:=Tryz.f79) hG (by kernel_rfl) (by kernel_rfl) ((afJ _ _ _).trans ?_)
 cases l with
 |nil=>exact ae rfl (nh (by omega) fun j hj=>by cases j<;>rfl)
 |cons x r=>exact aj rfl (ae (fits (by simp at hl ⊢;omega)) rfl)
theorem agM(hG:G 80 Nv=none)(l:List ah)(hl:l.length≤50000000):FX G 80 Nv ((l,()),())=some ((l,()),()):=by
 refine aA (fn:=Tryz.f80) hG (by kernel_rfl) (by kernel_rfl) ((afK _ _ _).trans ?_)
 cases l with
 |nil=>exact ae rfl (nh (by omega) fun j hj=>by cases j<;>rfl)
 |cons x r=>exact aj rfl (ae (fits (by simp at hl ⊢;omega)) rfl)
theorem XB(hG:G 81 zy=none)(l:List ab)(hl:l.length≤50000000):FX G 81 zy ((l,()),())=some ((l,()),()):=by
 refine aA (fn:=Tryz.f81) hG (by kernel_rfl) (by kernel_rfl) ((afL _ _ _).trans ?_)
 cases l with
 |nil=>exact ae rfl (nh (by omega) fun j hj=>by cases j<;>rfl)
 |cons x r=>exact aj rfl (ae (fits (by simp at hl ⊢;omega)) rfl)
theorem abq(hG:G 61 Kf=none)(l:List aq)(hl:l.length≤50000000):FX G 61 Kf ((l,()),())=some ((l,()),()):=by
 refine aA (fn:=Tryz.f61) hG (by kernel_rfl) (by kernel_rfl) ((afu _ _ _).trans ?_)
 cases l with
 |nil=>exact ae rfl (nh (by omega) fun j hj=>by cases j<;>rfl)
 |cons x r=>exact aj rfl (ae (fits (by simp at hl ⊢;omega)) rfl)
theorem Rm{α:Type}{l:List α}{i:Nat}{x:α}(h:l[i]? = some x):l.set i x=l:=by
 obtain⟨hi,he⟩:=List.getElem?_eq_some_iff.1 h
 subst he;simp
theorem agN(hG:HG G)(d:ai)(hs:Sm d):FX G 60 HJ ((d,()),())=some (((d.1,(d.2,())),()),()):=by
 have hv:=hs.v;have he:=hs.e
 refine aA (fn:=Tryz.f60) (hG _ _ rfl) (by kernel_rfl) (by kernel_rfl) ((aft _ _ _).trans ?_)
 refine aa (agL (hG _ _ rfl) d.1 (by omega)) ?_
 refine aa (agM (hG _ _ rfl) d.2 (by omega)) ?_
 have loop:∀(n i:Nat) (out:List ag),i+n=d.1.length→out=d.1→LX G 60 HJ Tryz.f60 B3 (aY Tryz.prog 60 0) ((((d.1.length:Nat):Int),((i:Int),())),(((([]:List ag),(([]:List ah),())),((out,(d.2,())),())),()))=some (((d.1,(d.2,())),()),()):=by
  intro n
  induction n with
  |zero =>
   intro i out hi ho
   subst ho
   refine aB (j:=0) (by kernel_rfl) ((QD _ _ _).trans ?_)
   exact aj (decide_eq_false (show ¬((i:Int)<((d.1.length:Nat):Int)) by omega)) rfl
  |succ n ih =>
   intro i out hi ho
   have nK:=ho
   subst ho
   refine aB (j:=0) (by kernel_rfl) ((QD _ _ _).trans ?_)
   have aM:i<d.1.length:=by omega
   have hx:d.1[i]? = some d.1[i]:=List.getElem?_eq_getElem aM
   refine ae (bm aM) ?_
   refine ae (dq (eX i) (bm aM)) ?_
   refine aa hx ?_
   refine aa (XB (hG _ _ rfl) d.1[i].2.1 (hs.r _ (List.getElem_mem aM))) ?_
   refine ae (dq (eX i) (bm aM)) ?_
   refine aa hx ?_
   rw[aN aM (show d.1.length≤1073741824 by omega)]
   exact ih (i+1) (d.1.set i d.1[i]) (by omega) (Rm hx)
 exact loop d.1.length 0 d.1 (by omega) rfl
def qx(w:aF)(v:ag):Int×aF :=
 if(aQ w.1 v.1).isSome=true then(12,w) else if 24≤w.1.length then(3,w) else(0,(cX v w.1,w.2))
def zd(w:aF)(x:ID):Int×aF:=match aQ w.1 x with
 |none=>(13,w)
 |some v=>if 0<v.2.1.length then(14,w) else(0,(cT w.1 x,w.2))
theorem Uh(hG:HG G)(w:aF)(v:ag)(hs:cf w.1)(hl:w.1.length≤50000000):FX G 90 HQ ((v,()),(w,()))=some (((qx w v).1,()),((qx w v).2,())):=by
 refine aA (fn:=Tryz.f90) (hG _ _ rfl) (by kernel_rfl) (by kernel_rfl) ((afR _ _ _).trans ?_)
 refine aa (qw hG w v.1 hs hl) ?_
 unfold qx
 cases hf:(aQ w.1 v.1).isSome
 ·rw[if_neg (by simp)]
  refine aj ((fU hs).trans hf) ?_
  by_cases h2:24≤w.1.length
  ·rw[if_pos h2]
   exact ae (decide_eq_true (show((w.1.length:Nat):Int)≥24 by omega)) rfl
  ·rw[if_neg h2]
   refine aj (decide_eq_false (show ¬((w.1.length:Nat):Int)≥24 by omega)) ?_
   have hc:=F2 w.1 v.1
   have mO:qN w.1 ((bJ w.1 v.1:Nat):Int) [v]=true:=by
    unfold qN
    rw[decide_eq_true (show(0:Int)≤((bJ w.1 v.1:Nat):Int) by omega),decide_eq_true (show((bJ w.1 v.1:Nat):Int)≤((w.1.length:Nat):Int) by omega)]
    rw[fits (by simp;omega)];rfl
   refine ae mO ?_
   have e:gD w.1 ((bJ w.1 v.1:Nat):Int) [v]=cX v w.1:=by
    rw[IG v hs (by simpa using hf)]
    unfold gD;simp
   exact congrArg (fun l:List ag=>some (((0:Int),()),((l,w.2),()))) e
 ·rw[if_pos rfl]
  exact ae ((fU hs).trans hf) rfl
theorem abr(hG:HG G)(w:aF)(o:bL)(hs:cf w.1)(hl:w.1.length≤50000000):FX G 91 P7 ((o,()),(w,()))=some (((zd w (ba o)).1,()),((zd w (ba o)).2,())):=by
 refine aA (fn:=Tryz.f91) (hG _ _ rfl) (by kernel_rfl) (by kernel_rfl) ((afS _ _ _).trans ?_)
 refine aa (qw hG w (ba o) hs hl) ?_
 unfold zd
 have hth:=fU (x:=ba o) hs
 have kX:=sO (x:=ba o) hs
 cases hf:aQ w.1 (ba o) with
 |none =>
  rw[hf]at hth
  refine ae (show(!(decide ((w.1[bJ w.1 (ba o)]?).map (·.1)=some (ba o))))=true by rw[hth];rfl) rfl
 |some v =>
  rw[hf]at hth kX
  refine aj (show(!(decide ((w.1[bJ w.1 (ba o)]?).map (·.1)=some (ba o))))=false by rw[hth];rfl) ?_
  have hx:w.1[bJ w.1 (ba o)]? = some v:=by
   cases hg:w.1[bJ w.1 (ba o)]? with
   |none=>rw[hg]at kX;simp[Option.filter]at kX
   |some u =>
    rw[hg]at kX
    simp only[Option.filter]at kX
    split at kX
    ·exact kX.symm
    ·cases kX
  have aM:=(List.getElem?_eq_some_iff.1 hx).1
  refine ae (dq (eX _) (bm aM)) ?_
  refine aa hx ?_
  show _=some ((((if 0<v.2.1.length then(14,w) else(0,(cT w.1 (ba o),w.2)):Int×aF).1,()),((if 0<v.2.1.length then(14,w) else(0,(cT w.1 (ba o),w.2)):Int×aF).2,())):(Int×Unit)×(aF×Unit))
  by_cases h2:0<v.2.1.length
  ·rw[if_pos h2]
   exact ae (decide_eq_true (show((v.2.1.length:Nat):Int)>0 by omega)) rfl
  ·rw[if_neg h2]
   refine aj (decide_eq_false (show ¬((v.2.1.length:Nat):Int)>0 by omega)) ?_
   have hw:IntKind.wrap .i64 (((bJ w.1 (ba o):Nat):Int)+1)=((bJ w.1 (ba o)+1:Nat):Int):=aN aM (by omega)
   have mO:jU w.1 ((bJ w.1 (ba o):Nat):Int) (IntKind.wrap .i64 (((bJ w.1 (ba o):Nat):Int)+1))=true:=by
    rw[hw]
    unfold jU
    rw[decide_eq_true (show(0:Int)≤((bJ w.1 (ba o):Nat):Int) by omega),decide_eq_true (show((bJ w.1 (ba o):Nat):Int)<((bJ w.1 (ba o)+1:Nat):Int) by omega),decide_eq_true (show((bJ w.1 (ba o)+1:Nat):Int)≤((w.1.length:Nat):Int) by omega),fits (by omega)];rfl
   refine ae mO ?_
   have e:dx w.1 ((bJ w.1 (ba o):Nat):Int) (IntKind.wrap .i64 (((bJ w.1 (ba o):Nat):Int)+1))=cT w.1 (ba o):=by
    rw[hw,xI hs (by rw[hf];rfl)]
    unfold dx;simp only[Int.toNat_natCast]
   exact congrArg (fun l:List ag=>some (((0:Int),()),((l,w.2),()))) e
def zW:aF:=([],([],([],())))
def aI(s:StateT):aF:=(s.1.1,(s.1.2,(s.2,())))
def LW(w:aF):StateT:=((w.1,w.2.1),w.2.2.1)
def ic(e:Int)(w:aF):StateT×(Int×Unit):=if e≠0 then(zS,(e,())) else(LW w,(0,()))
theorem abt(hG:HG G)(s:StateT)(o:bL)(hs:Sm s.1)(hg:s.2.length≤50000000){e:Int}{w:aF}(h:FX G 66 zt ((o,()),(aI s,()))=some ((e,()),(w,()))) :
  FX G 44 HH ((s,[o],()),())=some (ic e w,()):=by
 refine aA (fn:=Tryz.f44) (hG _ _ rfl) (by kernel_rfl) (by kernel_rfl) ((afe _ _ _).trans ?_)
 refine aa (agN hG s.1 hs) ?_
 refine aa (abq (hG _ _ rfl) s.2 hg) ?_
 refine aB (j:=0) (by kernel_rfl) ((Qp _ _ _).trans ?_)
 refine ae rfl (aa (a:=o) rfl ?_)
 refine aa h ?_
 unfold ic
 by_cases he:e=0
 ·rw[if_neg (by simp[he])]
  refine aj (show(e != 0)=false by simp[he]) ?_
  refine aB (j:=0) (by kernel_rfl) ((Qp _ _ _).trans ?_)
  exact aj rfl rfl
 ·rw[if_pos he]
  exact ae (show(e != 0)=true by simp[he]) rfl
def C8(k:Int)(x:ID):bL:=(k,(x,(zI,(zI,(zC,(zC,(false,(e0,0))))))))
def Es(x:ID):Int:=if cZ x=true then 0 else 1
theorem XC(hG:HG G)(x:ID):FX G 65 HL ((C8 1 x,()),())=some ((C8 1 x,(Es x,())),()):=by
 refine aA (fn:=Tryz.f65) (hG _ _ rfl) (by kernel_rfl) (by kernel_rfl) ((Xf _ _ _).trans ?_)
 refine aa (IF (hG _ _ rfl) x) ?_
 refine ae rfl (ae rfl ?_)
 unfold Es
 cases cZ x<;>rfl
theorem XD(hG:HG G)(x:ID):FX G 65 HL ((C8 2 x,()),())=some ((C8 2 x,(Es x,())),()):=by
 refine aA (fn:=Tryz.f65) (hG _ _ rfl) (by kernel_rfl) (by kernel_rfl) ((Xf _ _ _).trans ?_)
 refine aa (IF (hG _ _ rfl) x) ?_
 refine aj rfl (ae rfl (ae rfl ?_))
 unfold Es
 cases cZ x<;>rfl
theorem LY(hG:HG G)(o:bL){b:Int}(h:FX G 65 HL ((o,()),())=some ((o,(b,())),())):FX G 43 Dv ((o,()),())=some ((b,()),()):=by
 refine aA (fn:=Tryz.f43) (hG _ _ rfl) (by kernel_rfl) (by kernel_rfl) ((ZK _ _ _).trans ?_)
 refine aa h ?_
 exact aS (b:=true) ((rH o o).2 rfl) rfl
theorem LZ(hG:HG G)(s:StateT)(o:bL){b:Int}(h:FX G 43 Dv ((o,()),())=some ((b,()),()))(hs:Sm s.1)(hg:s.2.length≤50000000){e:Int}{w:aF}
  (h2:b=0→FX G 66 zt ((o,()),(aI s,()))=some ((e,()),(w,()))):FX G 14 zo ((s,o,()),())=some ((if b≠0 then(zS,(b,())) else ic e w),()):=by
 refine aA (fn:=Tryz.f14) (hG _ _ rfl) (by kernel_rfl) (by kernel_rfl) ((ZJ _ _ _).trans ?_)
 refine aa h ?_
 by_cases hb:b=0
 ·rw[if_neg (by simp[hb])]
  refine aj (show(b != 0)=false by simp[hb]) ?_
  exact aa (abt hG s o hs hg (h2 hb)) rfl
 ·rw[if_pos hb]
  exact ae (show(b != 0)=true by simp[hb]) rfl
theorem XE(hG:HG G)(s:StateT)(x:ID)(hs:Sm s.1)(hg:s.2.length≤50000000)(hv:cf s.1.1) :
  FX G 14 zo ((s,C8 2 x,()),())=some ((if Es x≠0 then(zS,(Es x,())) else ic (zd (aI s) x).1 (zd (aI s) x).2),()):=by
 refine LZ hG s (C8 2 x) (LY hG _ (XD hG x)) hs hg (fun _=>?_)
 refine aA (fn:=Tryz.f66) (hG _ _ rfl) (by kernel_rfl) (by kernel_rfl) ((FD _ _ _).trans ?_)
 refine aj rfl (ae rfl ?_)
 exact aa (abr hG (aI s) (C8 2 x) hv hs.v) rfl
theorem Ui:Sm zS.1:=⟨by simp[zS],by simp[zS],by simp[zS]⟩
theorem XF(hG:HG G)(o:bL)(h:FX G 43 Dv ((o,()),())=some (((0:Int),()),())):FX G 58 Ke (([o],()),())=some (((0:Int),()),()):=by
 refine aA (fn:=Tryz.f58) (hG _ _ rfl) (by kernel_rfl) (by kernel_rfl) ((afr _ _ _).trans ?_)
 refine aj rfl (aj rfl ?_)
 refine aB (j:=0) (by kernel_rfl) ((QB _ _ _).trans ?_)
 refine ae rfl (aa (a:=o) rfl ?_)
 refine aa h ?_
 refine aj rfl ?_
 refine aB (j:=0) (by kernel_rfl) ((QB _ _ _).trans ?_)
 exact aj rfl rfl
def VU:StateT:=(([((1,1),([],(e0,0)))],[]),[])
theorem agO(hG:HG G):FX G 12 PV ((),())=some ((true,()),()):=by
 refine aA (fn:=Tryz.f12) (hG _ _ rfl) (by kernel_rfl) (by kernel_rfl) ((aeP _ _ _).trans ?_)
 have h33:FX G 33 PZ ((),())=some ((zS,()),()):=aA (fn:=Tryz.f33) (hG _ _ rfl) (by kernel_rfl) (by kernel_rfl) (ae7 _ _ _)
 have h42:FX G 42 P2 (((1:Int),()),())=some (([C8 1 (1,1)],()),()):=aA (fn:=Tryz.f42) (hG _ _ rfl) (by kernel_rfl) (by kernel_rfl) (afd _ _ _)
 refine aa h33 ?_
 refine aa h42 ?_
 have h43:FX G 43 Dv ((C8 1 (1,1),()),())=some (((0:Int),()),()):=LY hG _ (XC hG (1,1))
 have h66:FX G 66 zt ((C8 1 (1,1),()),(aI zS,()))=some (((0:Int),()),(aI VU,())):=by
  refine aA (fn:=Tryz.f66) (hG _ _ rfl) (by kernel_rfl) (by kernel_rfl) ((FD _ _ _).trans ?_)
  refine ae rfl ?_
  exact aa (Uh hG (aI zS) ((1,1),([],(e0,0))) List.Pairwise.nil (by simp[aI,zS])) rfl
 have h30:FX G 30 PY ((zS,[C8 1 (1,1)],()),())=some ((VU,((0:Int),())),()):=by
  refine aA (fn:=Tryz.f30) (hG _ _ rfl) (by kernel_rfl) (by kernel_rfl) ((ae4 _ _ _).trans ?_)
  refine aa (XF hG (C8 1 (1,1)) h43) ?_
  refine aj rfl ?_
  exact aa (abt hG zS (C8 1 (1,1)) Ui (by simp[zS]) h66) rfl
 refine aa h30 ?_
 have Rg:Sm VU.1:=⟨by simp[VU],by simp[VU],by simp[VU]⟩
 refine aa (XE hG VU (1,1) Rg (by simp[VU]) (List.pairwise_singleton _ _)) ?_
 rfl
end Go.Vs
namespace Go.Vs
open Go.Proofs
theorem cf.map{l:List ag}(h:cf l){f:ag→ag}(hf:∀v,(f v).1=v.1):cf (l.map f):=by
 unfold cf at h ⊢
 rw[List.pairwise_map]
 exact h.imp fun {a b} yW=>by rw[hf,hf];exact yW
theorem oM{x:ID}{f:ag→ag}(hf:∀v,(f v).1=v.1):∀(l:List ag),aQ (l.map f) x=(aQ l x).map f
 |[]=>rfl
 |w::r=>by
  unfold aQ
  rw[List.map_cons,List.find?_cons,List.find?_cons,hf]
  have:=oM (x:=x) hf r
  unfold aQ at this
  cases decide (w.1=x) with
  |true=>rfl
  |false=>exact this
theorem rK(x:ID)(l:List ab)(w:ag):(gr x l w).1=w.1:=by unfold gr;split<;>rfl
theorem L0(o:bL)(w:ag):(il o w).1=w.1:=by unfold il;split<;>(try split)<;>rfl
structure Iv(d:ai):Prop where
 s:cf d.1
 n:d.1.length≤24
theorem Iv.zero:Iv zS.1:=⟨List.Pairwise.nil,by simp[zS]⟩
theorem Iv.bM{d:ai}(h:Iv d)(x:ID)(l:List ab):Iv (bM d x l):=⟨h.s.map (rK x l),by unfold Vs.bM;simp;exact h.n⟩
theorem Iv.aJ{d:ai}(h:Iv d)(v e:ID):Iv (aJ d v e):=⟨mE h.s,Nat.le_trans (List.length_filter_le _ _) h.n⟩
theorem Iv.one{s:StateT}(h:Iv s.1)(o:bL):Iv (mT s o).1.1:=by
 unfold mT
 split;· exact Iv.zero
 split
 ·unfold rJ
  split;· exact Iv.zero
  split;· exact Iv.zero
  rename_i h1 h2
  exact⟨oL _ h.s (by simpa[bg] using h1),by rw[gP];omega⟩
 split
 ·unfold wh
  split
  ·exact Iv.zero
  ·split
   ·exact Iv.zero
   ·exact h.aJ _ _
 split
 ·unfold nt
  split;· exact Iv.zero
  split;· exact Iv.zero
  split;· exact Iv.zero
  split;· exact Iv.zero
  split;· exact Iv.zero
  have h1:Iv (s.1.1,cF (ba o,(e0,0)) s.1.2):=⟨h.s,h.n⟩
  exact(h1.bM _ _).bM _ _
 split
 ·unfold Cl
  split;· exact Iv.zero
  exact((h.bM _ _).bM _ _).aJ _ _
 split
 ·unfold lq
  split;· exact Iv.zero
  split;· exact Iv.zero
  split;· exact Iv.zero
  split;· exact Iv.zero
  split;· exact Iv.zero
  rename_i h1 h2 h3 h4 h5
  have h6:aQ s.1.1 (fk o)=none:=by simpa[bg] using h2
  have h7:aQ (av s.1 (IC o) (af (Er o))).1 (fk o)=none:=by
   unfold av Vs.bM
   rw[oM (rK _ _),h6];rfl
  refine⟨oL _ (h.bM _ _).s h7,?_⟩
  unfold Rh
  rw[gP]
  have:(av s.1 (IC o) (af (Er o))).1.length=s.1.1.length:=by unfold av Vs.bM;simp
  omega
 split
 ·unfold kE
  have key:∀a b:ab,Iv (Gz s o a b):=fun a b=>((h.aJ _ _).bM _ _).aJ _ _
  split
  ·exact Iv.zero
  ·split
   ·unfold jO
    split;· exact Iv.zero
    split;· exact key _ _
    split;· exact key _ _
    exact Iv.zero
   ·exact Iv.zero
 ·unfold wg
  split
  ·exact⟨h.s.map (L0 o),by simp;exact h.n⟩
  ·exact Iv.zero
theorem Iv.go:∀(l:List bL) {s:StateT},Iv s.1→Iv (OC l s).1.1
 |[],s,h=>h
 |o::r,s,h=>by
  unfold OC
  split
  ·exact Iv.zero
  ·exact Iv.go r (h.one o)
theorem Iv.try{s:StateT}(h:Iv s.1)(l:List bL):Iv (wi s l).1:=by
 unfold wi
 split
 ·exact h
 ·unfold kj
  split
  ·exact Iv.zero
  ·exact Iv.go l h
theorem Iv.reach:∀(m:Nat) (l:List (List bL)) {s:StateT},Iv s.1→Iv (jc m l s).1
 |0,_,s,h=>by simpa[jc] using h
 |m+1,[],s,h=>h
 |m+1,l::r,s,h=>by rw[jc];exact Iv.reach m r (h.try _)
theorem Iv.FZ(l:List (List bL)):Iv (oK l).1:=Iv.reach 30 l Iv.zero
theorem Kv{x:ID}{l:List ag}(hf:aQ l x=none):cT l x=l:=by
 unfold cT;rw[List.filter_eq_self]
 intro u hu
 unfold aQ at hf
 rw[List.find?_eq_none]at hf
 have:=hf u hu
 simpa using this
theorem Cm(v:ag):∀{l:List ag},aQ l v.1=none→cT (cX v l) v.1=l
 |[],_=>by simp[cX,cT]
 |w::r,hf=>by
  have bp:¬w.1=v.1:=fun e=>by simp[aQ,e]at hf
  have z6:aQ r v.1=none:=by simpa[aQ,List.find?_cons,bp] using hf
  unfold cX
  split
  ·unfold cT
   rw[List.filter_cons_of_neg (by simp)]
   exact Kv hf
  ·have:=Cm v z6
   unfold cT at this ⊢
   rw[List.filter_cons_of_pos (by simpa using bp),this]
end Go.Vs
