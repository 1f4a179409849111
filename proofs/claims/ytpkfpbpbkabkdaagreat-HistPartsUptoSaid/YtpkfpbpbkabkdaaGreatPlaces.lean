/- What the program computes at vertices, written plainly. -/
import Derived.Test.YtpkfpbpbkabkdaaGreatRefB
set_option linter.unusedVariables false
set_option linter.unusedSimpArgs false
namespace Go.Vs
open Go.Proofs
variable {G:(f:FuncId)→(g:aJ)→Option (g.A→Option g.B)}
theorem MN(hG:G 159 qu=none)(x:ID):FX G 159 qu ((x,()),())=some ((cY x,()),()):=by
 refine au (fn:=Tryz.f159) hG (by kernel_rfl) (by kernel_rfl) ((aeR _ _ _).trans ?_)
 obtain⟨a,b⟩:=x
 show(cond (decide (a≥1)) (cond (decide (a≤8)) (cond (decide (b≥1)) (some ((decide (b≤1048576),()),())) (some ((false,()),()))) (some ((false,()),()))) (some ((false,()),())):Option ((Bool×Unit)×Unit))=some ((cY (a,b),()),())
 unfold cY
 simp only[cond_eq_ite]
 by_cases h1:(1:Int)≤a<;>by_cases h2:a≤8<;>by_cases h3:(1:Int)≤b<;>simp[h1,h2,h3]
theorem UW(hG:G 235 Ax=none)(n:Int):FX G 235 Ax ((n,()),())=some ((false,()),()):=by
 refine au (fn:=Tryz.f235) hG (by kernel_rfl) (by kernel_rfl) ((Zw _ _ _).trans ?_)
 exact congrArg (fun b:Bool=>some ((b,()),())) (show(n != n)=false by simp)
def JH(a b:Int):Int:=if a<b then -1 else if a>b then 1 else 0
theorem Qr(hG:HG G)(a b:Int):FX G 219 Av ((a,b,()),())=some ((JH a b,()),()):=by
 refine au (fn:=Tryz.f219) (hG _ _ rfl) (by kernel_rfl) (by kernel_rfl) ((Zq _ _ _).trans ?_)
 refine aa (UW (hG _ _ rfl) a) ?_
 refine aa (UW (hG _ _ rfl) b) ?_
 refine af rfl (af rfl ?_)
 unfold JH
 by_cases h1:a<b
 ·rw[if_pos h1];exact ae (decide_eq_true h1) rfl
 rw[if_neg h1]
 refine af (decide_eq_false h1) ?_
 by_cases h2:a>b
 ·rw[if_pos h2];exact ae (decide_eq_true h2) rfl
 rw[if_neg h2];exact af (decide_eq_false h2) rfl
theorem UX(hG:G 218 uD=none)(a b:Int):FX G 218 uD (([a,b],()),())=some ((if a≠0 then a else b,()),()):=by
 refine au (fn:=Tryz.f218) hG (by kernel_rfl) (by kernel_rfl) ((Zp _ _ _).trans ?_)
 by_cases ha:a=0
 ·rw[if_neg (by simp[ha])]
  refine ar (j:=0) (by kernel_rfl) ((yE _ _ _).trans ?_)
  refine ae rfl (aa (a:=a) rfl ?_)
  refine af (show(a != 0)=false by simp[ha]) ?_
  refine ar (j:=0) (by kernel_rfl) ((yE _ _ _).trans ?_)
  refine ae rfl (aa (a:=b) rfl ?_)
  by_cases hb:b=0
  ·refine af (show(b != 0)=false by simp[hb]) ?_
   refine ar (j:=0) (by kernel_rfl) ((yE _ _ _).trans ?_)
   rw[hb]
   exact af rfl rfl
  ·exact ae (show(b != 0)=true by simp[hb]) rfl
 ·rw[if_pos ha]
  refine ar (j:=0) (by kernel_rfl) ((yE _ _ _).trans ?_)
  refine ae rfl (aa (a:=a) rfl ?_)
  exact ae (show(a != 0)=true by simp[ha]) rfl
theorem Qs(hG:HG G)(a b:ID):FX G 208 Au ((a,b,()),())=some ((qD a b,()),()):=by
 refine au (fn:=Tryz.f208) (hG _ _ rfl) (by kernel_rfl) (by kernel_rfl) ((Zb _ _ _).trans ?_)
 unfold qD
 by_cases h:a=b
 ·rw[if_pos h];exact ae ((jn a b).trans (decide_eq_true h)) rfl
 rw[if_neg h]
 refine af ((jn a b).trans (decide_eq_false h)) ?_
 refine aa (Qr hG a.1 b.1) ?_
 refine aa (Qr hG a.2 b.2) ?_
 refine aa (UX (hG _ _ rfl) (JH a.1 b.1) (JH a.2 b.2)) ?_
 refine congrArg (fun n:Int=>some ((n,()),())) ?_
 obtain⟨a1,a2⟩:=a
 obtain⟨b1,b2⟩:=b
 unfold JH fK
 simp only[Prod.mk.injEq,not_and]at h
 simp only
 by_cases h1:a1<b1
 ·simp[h1]
 ·by_cases h2:a1>b1
  ·have:¬a1=b1:=by omega
   simp[h1,h2,this]
  ·have h3:a1=b1:=by omega
   have h4:=h h3
   subst h3
   by_cases h5:a2<b2
   ·simp[h5]
   ·have:a2>b2:=by omega
    simp[h5,this]
theorem UY(hG:HG G)(v:ag)(x:ID):FX G 207 Dc ((v,x,()),())=some ((qD v.1 x,()),()):=by
 refine au (fn:=Tryz.f207) (hG _ _ rfl) (by kernel_rfl) (by kernel_rfl) ((Za _ _ _).trans ?_)
 exact aa (Qs hG v.1 x) rfl
theorem JI{i j:Nat}(hi:i≤1000000000)(hj:j≤1000000000):IntKind.wrap .i64 (kO .u64 (IntKind.wrap .u64 (IntKind.wrap .i64 ((i:Int)+(j:Int)))) (1:Int))=(((i+j) / 2:Nat):Int):=by
 have e1:IntKind.wrap .i64 ((i:Int)+(j:Int))=((i+j:Nat):Int):=by rw[wrap_small (by omega) (by omega)];rfl
 have e2:IntKind.wrap .u64 ((i+j:Nat):Int)=((i+j:Nat):Int):=by
  unfold IntKind.wrap;simp[IntKind.bits,IntKind.signed];omega
 have e3:kO .u64 ((i+j:Nat):Int) 1=(((i+j) / 2:Nat):Int):=by
  unfold kO
  have:(min (Int.toNat 1) IntKind.u64.bits)=1:=by decide
  rw[this,Int.fdiv_eq_ediv_of_nonneg _ (by omega)]
  rfl
 rw[e1,e2,e3,wrap_small (by omega) (by omega)]
def bD(l:List ag)(x:ID):Nat:=l.countP fun v=>fK v.1 x
def bX(l:List ag):Prop:=l.Pairwise fun a b=>fK a.1 b.1=true
theorem iA{a b c:ID}(h:fK a b=true)(k:fK b c=true):fK a c=true:=by
 simp[fK]at *;omega
theorem lh{a b:ID}(h:fK a b=true):fK b a=false:=by
 simp[fK]at *;omega
theorem lj{a b:ID}(h:fK a b=false)(k:a≠b):fK b a=true:=by
 obtain⟨a1,a2⟩:=a;obtain⟨b1,b2⟩:=b
 simp[fK]at *;omega
theorem E2(l:List ag)(x:ID):bD l x≤l.length:=List.countP_le_length
theorem rD{l:List ag}{x:ID}(h:∀v∈l,fK v.1 x=false):bD l x=0:=by
 unfold bD;rw[List.countP_eq_zero];intro v hv;simp[h v hv]
theorem wy{x:ID}:∀{l:List ag},bX l→∀(k:Nat) (v:ag),l[k]? = some v→(fK v.1 x=true↔k<bD l x)
 |[],_,k,v,h=>by simp at h
 |w::r,hs,k,v,h=>by
  have hw:∀{u:ag},u∈r→fK w.1 u.1=true:=fun {u} hu=>List.rel_of_pairwise_cons hs hu
  have hr:bX r:=hs.of_cons
  by_cases aF:fK w.1 x=true
  ·have e:bD (w::r) x=bD r x+1:=by unfold bD;rw[List.countP_cons_of_pos (by simpa using aF)]
   cases k with
   |zero=>simp at h;subst h;simp[aF,e]
   |succ k=>have:=wy (x:=x) hr k v (by simpa using h);rw[this,e];omega
  ·have hn:∀u∈w::r,fK u.1 x=false:=fun u hu=>by
    rcases List.mem_cons.1 hu with rfl|hu
    ·simpa using aF
    ·rw[Bool.eq_false_iff];intro h2;exact aF (iA (hw hu) h2)
   rw[rD hn,hn v (List.mem_of_getElem? h)]
   simp
theorem Qt(hG:HG G)(l:List ag)(x:ID)(hs:bX l)(hl:l.length≤50000000):∀(n i j:Nat),j-i≤n→i≤bD l x→bD l x≤j→j≤l.length →
  LX G 208206 iY Tryz.f206 ia (aN Tryz.prog 206 0) ((l,(((l.length:Nat):Int),((i:Int),((j:Int),())))),(((x,()),()),()))=some (((((bD l x:Nat):Int),(decide ((l[bD l x]?).map (·.1)=some x),())):Int×(Bool×Unit)),()):=by
 have tI:=E2 l x
 have fin:∀(i j:Nat),¬(i<j)→i≤bD l x→bD l x≤j→LX G 208206 iY Tryz.f206 ia (aN Tryz.prog 206 0) ((l,(((l.length:Nat):Int),((i:Int),((j:Int),())))),(((x,()),()),()))=some (((((bD l x:Nat):Int),(decide ((l[bD l x]?).map (·.1)=some x),())):Int×(Bool×Unit)),()):=fun i j zy h1 h2=>by
  have hi:i=bD l x:=by omega
  subst hi
  refine ar (j:=0) (by kernel_rfl) ((A1 _ _ _).trans ?_)
  refine af (decide_eq_false (show ¬(((bD l x:Nat):Int)<(j:Int)) by omega)) ?_
  by_cases hc:bD l x<l.length
  ·have hx:l[bD l x]? = some l[bD l x]:=List.getElem?_eq_getElem hc
   refine ae (aW hc) ?_
   refine aa (aI hx) ?_
   refine aa (UY hG l[bD l x] x) ?_
   refine congrArg (fun b:Bool=>some ((((bD l x:Nat):Int),(b,())),())) ?_
   rw[hx]
   unfold qD
   by_cases he:l[bD l x].1=x
   ·simp[he]
   ·simp[he];split<;>simp
  ·refine af (decide_eq_false (show ¬(((bD l x:Nat):Int)<((l.length:Nat):Int)) by omega)) ?_
   refine congrArg (fun b:Bool=>some ((((bD l x:Nat):Int),(b,())),())) ?_
   rw[List.getElem?_eq_none (by omega)];simp
 intro n
 induction n with
 |zero=>intro i j zy h1 h2 h3;exact fin i j (by omega) h1 h2
 |succ n ih =>
  intro i j zy h1 h2 h3
  by_cases aF:i<j
  case neg=>exact fin i j aF h1 h2
  refine ar (j:=0) (by kernel_rfl) ((A1 _ _ _).trans ?_)
  refine ae (decide_eq_true (show((i:Int)<(j:Int)) by omega)) ?_
  refine af rfl ?_
  have hm:=JI (i:=i) (j:=j) (by omega) (by omega)
  have hh:(i+j) / 2<l.length:=by omega
  have hx:l[(i+j) / 2]? = some l[(i+j) / 2]:=List.getElem?_eq_getElem hh
  have nC:=wy (x:=x) hs ((i+j) / 2) _ hx
  refine aa (show aX l (IntKind.wrap .i64 (kO .u64 (IntKind.wrap .u64 (IntKind.wrap .i64 ((i:Int)+(j:Int)))) (1:Int)))=some l[(i+j) / 2] by rw[hm];exact aI hx) ?_
  refine aa (UY hG l[(i+j) / 2] x) ?_
  by_cases ho:fK l[(i+j) / 2].1 x=true
  ·refine ae (decide_eq_true ((mC _ _).2 ho)) ?_
   have hc:=nC.1 ho
   have hw:IntKind.wrap .i64 (IntKind.wrap .i64 (kO .u64 (IntKind.wrap .u64 (IntKind.wrap .i64 ((i:Int)+(j:Int)))) (1:Int))+1)=(((i+j) / 2+1:Nat):Int):=by
    rw[hm];exact aG hh (by omega)
   have:=ih ((i+j) / 2+1) j (by omega) (by omega) h2 h3
   rw[←hw]at this
   exact this
  ·refine af (decide_eq_false (fun h=>ho ((mC _ _).1 h))) ?_
   have hc:¬(i+j) / 2<bD l x:=fun h=>ho (nC.2 h)
   have:=ih i ((i+j) / 2) (by omega) h1 (by omega) (by omega)
   rw[←hm]at this
   exact this
theorem Qu(hG:HG G)(l:List ag)(x:ID)(hs:bX l)(hl:l.length≤50000000) :
  FX G 208206 iY ((l,x,()),())=some (((((bD l x:Nat):Int),(decide ((l[bD l x]?).map (·.1)=some x),())):Int×(Bool×Unit)),()):=by
 refine au (fn:=Tryz.f206) (hG _ _ rfl) (by kernel_rfl) (by kernel_rfl) ((PZ _ _ _).trans ?_)
 exact Qt hG l x hs hl l.length 0 l.length (by omega) (by omega) (E2 l x) (Nat.le_refl _)
theorem pC(hG:HG G)(w:aQ)(x:ID)(hs:bX w.1)(hl:w.1.length≤50000000) :
  FX G 175 po ((x,()),(w,()))=some (((((bD w.1 x:Nat):Int),(decide ((w.1[bD w.1 x]?).map (·.1)=some x),())):Int×(Bool×Unit)),(w,())):=by
 refine au (fn:=Tryz.f175) (hG _ _ rfl) (by kernel_rfl) (by kernel_rfl) ((YW _ _ _).trans ?_)
 exact aa (Qu hG w.1 x hs hl) rfl
theorem rE{x:ID}:∀{l:List ag},bX l→aR l x=(l[bD l x]?).filter fun v=>decide (v.1=x)
 |[],_=>rfl
 |w::r,hs=>by
  have hw:∀{u:ag},u∈r→fK w.1 u.1=true:=fun {u} hu=>List.rel_of_pairwise_cons hs hu
  have hr:bX r:=hs.of_cons
  by_cases aF:fK w.1 x=true
  ·have e:bD (w::r) x=bD r x+1:=by unfold bD;rw[List.countP_cons_of_pos (by simpa using aF)]
   have bq:¬w.1=x:=fun e=>by rw[e,b5]at aF;cases aF
   rw[e]
   simp only[aR,List.find?_cons,bq,decide_false,List.getElem?_cons_succ]
   exact rE hr
  ·have hn:∀u∈w::r,fK u.1 x=false:=fun u hu=>by
    rcases List.mem_cons.1 hu with rfl|hu
    ·simpa using aF
    ·rw[Bool.eq_false_iff];intro h2;exact aF (iA (hw hu) h2)
   rw[rD hn]
   by_cases he:w.1=x
   ·simp[aR,List.find?_cons,he,Option.filter]
   ·have IA:fK x w.1=true:=lj (by simpa using aF) he
    have:aR r x=none:=by
     unfold aR;rw[List.find?_eq_none];intro u hu h2
     have h3:u.1=x:=by simpa using h2
     have h4:=hw hu
     rw[h3]at h4
     have:=lh h4
     rw[IA]at this;cases this
    rw[show aR (w::r) x=aR r x by simp only[aR,List.find?_cons,he,decide_false],this]
    simp[he,Option.filter]
theorem fz{l:List ag}{x:ID}(hs:bX l):decide ((l[bD l x]?).map (·.1)=some x)=(aR l x).isSome:=by
 rw[rE hs]
 cases h:l[bD l x]? with
 |none=>simp
 |some v=>by_cases he:v.1=x<;>simp[he,Option.filter]
theorem HA(v:ag):∀{l:List ag},bX l→aR l v.1=none→dW v l=l.take (bD l v.1)++(v::l.drop (bD l v.1))
 |[],_,_=>rfl
 |w::r,hs,hf=>by
  have hw:∀{u:ag},u∈r→fK w.1 u.1=true:=fun {u} hu=>List.rel_of_pairwise_cons hs hu
  have hr:bX r:=hs.of_cons
  have bq:¬w.1=v.1:=fun e=>by simp[aR,e]at hf
  have C6:aR r v.1=none:=by simpa[aR,List.find?_cons,bq] using hf
  by_cases aF:fK w.1 v.1=true
  ·have e:bD (w::r) v.1=bD r v.1+1:=by unfold bD;rw[List.countP_cons_of_pos (by simpa using aF)]
   have Ur:fK v.1 w.1=false:=lh aF
   rw[e,dW,if_neg (by simp[Ur]),HA v hr C6]
   rfl
  ·have hn:∀u∈w::r,fK u.1 v.1=false:=fun u hu=>by
    rcases List.mem_cons.1 hu with rfl|hu
    ·simpa using aF
    ·rw[Bool.eq_false_iff];intro h2;exact aF (iA (hw hu) h2)
   have IA:fK v.1 w.1=true:=lj (by simpa using aF) bq
   rw[rD hn,dW,if_pos IA];rfl
theorem wz{x:ID}:∀{l:List ag},bX l→(aR l x).isSome=true→dv l x=l.take (bD l x)++l.drop (bD l x+1)
 |[],_,hf=>by simp[aR]at hf
 |w::r,hs,hf=>by
  have hw:∀{u:ag},u∈r→fK w.1 u.1=true:=fun {u} hu=>List.rel_of_pairwise_cons hs hu
  have hr:bX r:=hs.of_cons
  by_cases he:w.1=x
  ·have hn:∀u∈w::r,fK u.1 x=false:=fun u hu=>by
    rcases List.mem_cons.1 hu with rfl|hu
    ·rw[he,b5]
    ·rw[←he];exact lh (hw hu)
   have fg:dv r x=r:=by
    unfold dv;rw[List.filter_eq_self];intro u hu
    have h4:=hw hu
    simp;intro e2;rw[he,e2,b5]at h4;cases h4
   rw[rD hn]
   unfold dv
   rw[List.filter_cons_of_neg (by simp[he])]
   exact fg
  ·have C6:(aR r x).isSome=true:=by simpa[aR,List.find?_cons,he] using hf
   have aF:fK w.1 x=true:=by
    obtain⟨u,hu⟩:=Option.isSome_iff_exists.1 C6
    have h1:=List.mem_of_find?_eq_some hu
    have h2:u.1=x:=by simpa using List.find?_some hu
    rw[←h2];exact hw h1
   have e:bD (w::r) x=bD r x+1:=by unfold bD;rw[List.countP_cons_of_pos (by simpa using aF)]
   rw[e]
   have:=wz hr C6
   simp[dv,List.filter_cons,he]at this ⊢
   exact this
theorem nO(v:ag):∀{l:List ag},bX l→aR l v.1=none→bX (dW v l)
 |[],_,_=>List.pairwise_singleton _ _
 |w::r,hs,hf=>by
  have hw:∀{u:ag},u∈r→fK w.1 u.1=true:=fun {u} hu=>List.rel_of_pairwise_cons hs hu
  have hr:bX r:=hs.of_cons
  have bq:¬w.1=v.1:=fun e=>by simp[aR,e]at hf
  have C6:aR r v.1=none:=by simpa[aR,List.find?_cons,bq] using hf
  unfold dW
  split
  ·rename_i h
   refine List.Pairwise.cons (fun u hu=>?_) hs
   rcases List.mem_cons.1 hu with rfl|hu
   ·exact h
   ·exact iA h (hw hu)
  ·rename_i h
   have aF:fK w.1 v.1=true:=lj (by simpa using h) (fun e=>bq e.symm)
   refine List.Pairwise.cons (fun u hu=>?_) (nO v hr C6)
   rcases lV.1 hu with rfl|hu
   ·exact aF
   ·exact hw hu
theorem oU{l:List ag}{x:ID}(hs:bX l):bX (dv l x):=hs.filter _
end Go.Vs
namespace Go.Vs
open Go.Proofs
variable {G:(f:FuncId)→(g:aJ)→Option (g.A→Option g.B)}
theorem afP(hG:G 127 Mz=none)(l:List ag)(hl:l.length≤50000000):FX G 127 Mz ((l,()),())=some ((l,()),()):=by
 refine au (fn:=Tryz.f127) hG (by kernel_rfl) (by kernel_rfl) ((aeN _ _ _).trans ?_)
 cases l with
 |nil=>exact ae rfl (kR (by omega) fun j hj=>by cases j<;>rfl)
 |cons x r=>exact af rfl (ae (fits (by simp at hl ⊢;omega)) rfl)
theorem afQ(hG:G 128 MA=none)(l:List ah)(hl:l.length≤50000000):FX G 128 MA ((l,()),())=some ((l,()),()):=by
 refine au (fn:=Tryz.f128) hG (by kernel_rfl) (by kernel_rfl) ((aeO _ _ _).trans ?_)
 cases l with
 |nil=>exact ae rfl (kR (by omega) fun j hj=>by cases j<;>rfl)
 |cons x r=>exact af rfl (ae (fits (by simp at hl ⊢;omega)) rfl)
theorem WB(hG:G 110 xZ=none)(l:List ab)(hl:l.length≤50000000):FX G 110 xZ ((l,()),())=some ((l,()),()):=by
 refine au (fn:=Tryz.f110) hG (by kernel_rfl) (by kernel_rfl) ((aeP _ _ _).trans ?_)
 cases l with
 |nil=>exact ae rfl (kR (by omega) fun j hj=>by cases j<;>rfl)
 |cons x r=>exact af rfl (ae (fits (by simp at hl ⊢;omega)) rfl)
theorem WC(hG:G 97 GA=none)(l:List aw)(hl:l.length≤50000000):FX G 97 GA ((l,()),())=some ((l,()),()):=by
 refine au (fn:=Tryz.f97) hG (by kernel_rfl) (by kernel_rfl) ((aex _ _ _).trans ?_)
 cases l with
 |nil=>exact ae rfl (kR (by omega) fun j hj=>by cases j<;>rfl)
 |cons x r=>exact af rfl (ae (fits (by simp at hl ⊢;omega)) rfl)
theorem Qv{α:Type}{l:List α}{i:Nat}{x:α}(h:l[i]? = some x):l.set i x=l:=by
 obtain⟨hi,he⟩:=List.getElem?_eq_some_iff.1 h
 subst he;simp
theorem aaN(hG:HG G)(d:aj)(hs:Sm d):FX G 96 EC ((d,()),())=some (((d.1,(d.2,())),()),()):=by
 have hv:=hs.v;have he:=hs.e
 refine au (fn:=Tryz.f96) (hG _ _ rfl) (by kernel_rfl) (by kernel_rfl) ((aew _ _ _).trans ?_)
 refine aa (afP (hG _ _ rfl) d.1 (by omega)) ?_
 refine aa (afQ (hG _ _ rfl) d.2 (by omega)) ?_
 have loop:∀(n i:Nat) (out:List ag),i+n=d.1.length→out=d.1→LX G 96 EC Tryz.f96 AX (aN Tryz.prog 96 0) ((((d.1.length:Nat):Int),((i:Int),())),(((([]:List ag),(([]:List ah),())),((out,(d.2,())),())),()))=some (((d.1,(d.2,())),()),()):=by
  intro n
  induction n with
  |zero =>
   intro i out hi ho
   subst ho
   refine ar (j:=0) (by kernel_rfl) ((PQ _ _ _).trans ?_)
   exact af (decide_eq_false (show ¬((i:Int)<((d.1.length:Nat):Int)) by omega)) rfl
  |succ n ih =>
   intro i out hi ho
   have mQ:=ho
   subst ho
   refine ar (j:=0) (by kernel_rfl) ((PQ _ _ _).trans ?_)
   have aF:i<d.1.length:=by omega
   have hx:d.1[i]? = some d.1[i]:=List.getElem?_eq_getElem aF
   refine ae (aW aF) ?_
   refine ae (dq (eT i) (aW aF)) ?_
   refine aa hx ?_
   refine aa (WB (hG _ _ rfl) d.1[i].2.1 (hs.r _ (List.getElem_mem aF))) ?_
   refine ae (dq (eT i) (aW aF)) ?_
   refine aa hx ?_
   rw[wI,aG aF (show d.1.length≤1073741824 by omega)]
   exact ih (i+1) (d.1.set i d.1[i]) (by omega) (Qv hx)
 exact loop d.1.length 0 d.1 (by omega) rfl
def pG(w:aQ)(v:ag):Int×aQ :=
 if(aR w.1 v.1).isSome=true then(12,w) else if 24≤w.1.length then(3,w) else(0,(dW v w.1,w.2))
def Dx(w:aQ)(x:ID):Int×aQ:=match aR w.1 x with
 |none=>(13,w)
 |some v=>if 0<v.2.1.length then(14,w) else(0,(dv w.1 x,w.2))
theorem WD(hG:HG G)(w:aQ)(v:ag)(hs:bX w.1)(hl:w.1.length≤50000000):FX G 152 GG ((v,()),(w,()))=some (((pG w v).1,()),((pG w v).2,())):=by
 refine au (fn:=Tryz.f152) (hG _ _ rfl) (by kernel_rfl) (by kernel_rfl) ((aeV _ _ _).trans ?_)
 refine aa (pC hG w v.1 hs hl) ?_
 unfold pG
 cases hf:(aR w.1 v.1).isSome
 ·rw[if_neg (by simp)]
  refine af ((fz hs).trans hf) ?_
  by_cases h2:24≤w.1.length
  ·rw[if_pos h2]
   exact ae (decide_eq_true (show((w.1.length:Nat):Int)≥24 by omega)) rfl
  ·rw[if_neg h2]
   refine af (decide_eq_false (show ¬((w.1.length:Nat):Int)≥24 by omega)) ?_
   have hc:=E2 w.1 v.1
   have kI:pX w.1 ((bD w.1 v.1:Nat):Int) [v]=true:=by
    unfold pX
    rw[decide_eq_true (show(0:Int)≤((bD w.1 v.1:Nat):Int) by omega),decide_eq_true (show((bD w.1 v.1:Nat):Int)≤((w.1.length:Nat):Int) by omega)]
    rw[fits (by simp;omega)];rfl
   refine ae kI ?_
   have e:fN w.1 ((bD w.1 v.1:Nat):Int) [v]=dW v w.1:=by
    rw[HA v hs (by simpa using hf)]
    unfold fN;simp
   exact congrArg (fun l:List ag=>some (((0:Int),()),((l,w.2),()))) e
 ·rw[if_pos rfl]
  exact ae ((fz hs).trans hf) rfl
theorem afR(hG:HG G)(w:aQ)(o:ba)(hs:bX w.1)(hl:w.1.length≤50000000):FX G 153 Pc ((o,()),(w,()))=some (((Dx w (aV o)).1,()),((Dx w (aV o)).2,())):=by
 refine au (fn:=Tryz.f153) (hG _ _ rfl) (by kernel_rfl) (by kernel_rfl) ((aeW _ _ _).trans ?_)
 refine aa (pC hG w (aV o) hs hl) ?_
 unfold Dx
 have hth:=fz (x:=aV o) hs
 have km:=rE (x:=aV o) hs
 cases hf:aR w.1 (aV o) with
 |none =>
  rw[hf]at hth
  refine ae (show(!(decide ((w.1[bD w.1 (aV o)]?).map (·.1)=some (aV o))))=true by rw[hth];rfl) rfl
 |some v =>
  rw[hf]at hth km
  refine af (show(!(decide ((w.1[bD w.1 (aV o)]?).map (·.1)=some (aV o))))=false by rw[hth];rfl) ?_
  have hx:w.1[bD w.1 (aV o)]? = some v:=by
   cases hg:w.1[bD w.1 (aV o)]? with
   |none=>rw[hg]at km;simp[Option.filter]at km
   |some u =>
    rw[hg]at km
    simp only[Option.filter]at km
    split at km
    ·exact km.symm
    ·cases km
  have aF:=(List.getElem?_eq_some_iff.1 hx).1
  refine ae (dq (eT _) (aW aF)) ?_
  refine aa hx ?_
  show _=some ((((if 0<v.2.1.length then(14,w) else(0,(dv w.1 (aV o),w.2)):Int×aQ).1,()),((if 0<v.2.1.length then(14,w) else(0,(dv w.1 (aV o),w.2)):Int×aQ).2,())):(Int×Unit)×(aQ×Unit))
  by_cases h2:0<v.2.1.length
  ·rw[if_pos h2]
   exact ae (decide_eq_true (show((v.2.1.length:Nat):Int)>0 by omega)) rfl
  ·rw[if_neg h2]
   refine af (decide_eq_false (show ¬((v.2.1.length:Nat):Int)>0 by omega)) ?_
   have hw:IntKind.wrap .i64 (((bD w.1 (aV o):Nat):Int)+1)=((bD w.1 (aV o)+1:Nat):Int):=aG aF (by omega)
   have kI:jo w.1 ((bD w.1 (aV o):Nat):Int) (IntKind.wrap .i64 (((bD w.1 (aV o):Nat):Int)+1))=true:=by
    rw[hw]
    unfold jo
    rw[decide_eq_true (show(0:Int)≤((bD w.1 (aV o):Nat):Int) by omega),decide_eq_true (show((bD w.1 (aV o):Nat):Int)<((bD w.1 (aV o)+1:Nat):Int) by omega),decide_eq_true (show((bD w.1 (aV o)+1:Nat):Int)≤((w.1.length:Nat):Int) by omega),fits (by omega)];rfl
   refine ae kI ?_
   have e:di w.1 ((bD w.1 (aV o):Nat):Int) (IntKind.wrap .i64 (((bD w.1 (aV o):Nat):Int)+1))=dv w.1 (aV o):=by
    rw[hw,wz hs (by rw[hf];rfl)]
    unfold di;simp only[Int.toNat_natCast]
   exact congrArg (fun l:List ag=>some (((0:Int),()),((l,w.2),()))) e
def zW:aQ:=([],([],([],())))
def aH(s:StateT):aQ:=(s.1.1,(s.1.2,(s.2,())))
def yK(w:aQ):StateT:=((w.1,w.2.1),w.2.2.1)
def jh(e:Int)(w:aQ):StateT×(Int×Unit):=if e≠0 then(zS,(e,())) else(yK w,(0,()))
def JJ(k:Int)(x:ID):ba:=(k,(x,(zI,(zI,(zC,(zC,(false,(e0,0))))))))
def aib(x:ID):Int:=if cY x=true then 0 else 1
def shS:StateT:=(([((1,1),([],(e0,0)))],[]),[])
end Go.Vs
namespace Go.Vs
open Go.Proofs
theorem bX.map{l:List ag}(h:bX l){f:ag→ag}(hf:∀v,(f v).1=v.1):bX (l.map f):=by
 unfold bX at h ⊢
 rw[List.pairwise_map]
 exact h.imp fun {a b} B6=>by rw[hf,hf];exact B6
theorem nP{x:ID}{f:ag→ag}(hf:∀v,(f v).1=v.1):∀(l:List ag),aR (l.map f) x=(aR l x).map f
 |[]=>rfl
 |w::r=>by
  unfold aR
  rw[List.map_cons,List.find?_cons,List.find?_cons,hf]
  have:=nP (x:=x) hf r
  unfold aR at this
  cases decide (w.1=x) with
  |true=>rfl
  |false=>exact this
theorem qI(x:ID)(l:List ab)(w:ag):(rC x l w).1=w.1:=by unfold rC;split<;>rfl
theorem K9(o:ba)(w:ag):(iH o w).1=w.1:=by unfold iH;split<;>(try split)<;>rfl
structure Iv(d:aj):Prop where
 s:bX d.1
 n:d.1.length≤24
theorem Iv.zero:Iv zS.1:=⟨List.Pairwise.nil,by simp[zS]⟩
theorem Iv.b6{d:aj}(h:Iv d)(x:ID)(l:List ab):Iv (b6 d x l):=⟨h.s.map (qI x l),by unfold Vs.b6;simp;exact h.n⟩
theorem Iv.aS{d:aj}(h:Iv d)(v e:ID):Iv (aS d v e):=⟨oU h.s,Nat.le_trans (List.length_filter_le _ _) h.n⟩
theorem Iv.one{s:StateT}(h:Iv s.1)(o:ba):Iv (kX s o).1.1:=by
 unfold kX
 split;· exact Iv.zero
 split
 ·unfold pz
  split;· exact Iv.zero
  split;· exact Iv.zero
  rename_i h1 h2
  exact⟨nO _ h.s (by simpa[bp] using h1),by rw[fW];omega⟩
 split
 ·unfold xI
  split
  ·exact Iv.zero
  ·split
   ·exact Iv.zero
   ·exact h.aS _ _
 split
 ·unfold py
  split;· exact Iv.zero
  split;· exact Iv.zero
  split;· exact Iv.zero
  split;· exact Iv.zero
  split;· exact Iv.zero
  have h1:Iv (s.1.1,dp (aV o,(e0,0)) s.1.2):=⟨h.s,h.n⟩
  exact(h1.b6 _ _).b6 _ _
 split
 ·unfold E0
  split;· exact Iv.zero
  exact((h.b6 _ _).b6 _ _).aS _ _
 split
 ·unfold lW
  split;· exact Iv.zero
  split;· exact Iv.zero
  split;· exact Iv.zero
  split;· exact Iv.zero
  split;· exact Iv.zero
  rename_i h1 h2 h3 h4 h5
  have h6:aR s.1.1 (eO o)=none:=by simpa[bp] using h2
  have h7:aR (aC s.1 (IB o) (ao (Ft o))).1 (eO o)=none:=by
   unfold aC Vs.b6
   rw[nP (qI _ _),h6];rfl
  refine⟨nO _ (h.b6 _ _).s h7,?_⟩
  unfold Qq
  rw[fW]
  have:(aC s.1 (IB o) (ao (Ft o))).1.length=s.1.1.length:=by unfold aC Vs.b6;simp
  omega
 split
 ·unfold kW
  have key:∀a b:ab,Iv (JG s o a b):=fun a b=>((h.aS _ _).b6 _ _).aS _ _
  split
  ·exact Iv.zero
  ·split
   ·unfold jX
    split;· exact Iv.zero
    split;· exact key _ _
    split;· exact key _ _
    exact Iv.zero
   ·exact Iv.zero
 ·unfold wu
  split
  ·exact⟨h.s.map (K9 o),by simp;exact h.n⟩
  ·exact Iv.zero
theorem Iv.go:∀(l:List ba) {s:StateT},Iv s.1→Iv (E1 l s).1.1
 |[],s,h=>h
 |o::r,s,h=>by
  unfold E1
  split
  ·exact Iv.zero
  ·exact Iv.go r (h.one o)
theorem Iv.try{s:StateT}(h:Iv s.1)(l:List ba):Iv (iI s l).1:=by
 unfold iI
 split
 ·exact h
 ·unfold cP
  split
  ·exact Iv.zero
  ·exact Iv.go l h
theorem Iv.reach:∀(m:Nat) (l:List (List ba)) {s:StateT},Iv s.1→Iv (lX m l s).1
 |0,_,s,h=>by simpa[lX] using h
 |m+1,[],s,h=>h
 |m+1,l::r,s,h=>by rw[lX];exact Iv.reach m r (h.try _)
theorem Iv.K8(l:List (List ba)):Iv (Bi l).1:=Iv.reach 30 l Iv.zero
end Go.Vs
