/- What the program computes at vertices, written plainly. -/
import Derived.Test.YtpkfpbpbkabkdaaGreatRefB
set_option linter.unusedVariables false
set_option linter.unusedSimpArgs false
namespace Go.Vs
open Go.Proofs
variable {G:(f:FuncId)→(g:aL)→Option (g.A→Option g.B)}
theorem J5(hG:G 159 pJ=none)(x:ID):FX G 159 pJ ((x,()),())=some ((dH x,()),()):=by
 refine aJ (fn:=Tryz.f159) hG (by kernel_rfl) (by kernel_rfl) ((Y7 _ _ _).trans ?_)
 obtain⟨a,b⟩:=x
 show(cond (decide (a≥1)) (cond (decide (a≤8)) (cond (decide (b≥1)) (some ((decide (b≤1048576),()),())) (some ((false,()),()))) (some ((false,()),()))) (some ((false,()),())):Option ((Bool×Unit)×Unit))=some ((dH (a,b),()),())
 unfold dH
 simp only[cond_eq_ite]
 by_cases h1:(1:Int)≤a<;>by_cases h2:a≤8<;>by_cases h3:(1:Int)≤b<;>simp[h1,h2,h3]
theorem QL(hG:G 235 yI=none)(n:Int):FX G 235 yI ((n,()),())=some ((false,()),()):=by
 refine aJ (fn:=Tryz.f235) hG (by kernel_rfl) (by kernel_rfl) ((U4 _ _ _).trans ?_)
 exact congrArg (fun b:Bool=>some ((b,()),())) (show(n != n)=false by simp)
def G2(a b:Int):Int:=if a<b then -1 else if a>b then 1 else 0
theorem MM(hG:HG G)(a b:Int):FX G 219 yG ((a,b,()),())=some ((G2 a b,()),()):=by
 refine aJ (fn:=Tryz.f219) (hG _ _ rfl) (by kernel_rfl) (by kernel_rfl) ((UU _ _ _).trans ?_)
 refine aa (QL (hG _ _ rfl) a) ?_
 refine aa (QL (hG _ _ rfl) b) ?_
 refine af rfl (af rfl ?_)
 unfold G2
 by_cases h1:a<b
 ·rw[if_pos h1];exact ae (decide_eq_true h1) rfl
 rw[if_neg h1]
 refine af (decide_eq_false h1) ?_
 by_cases h2:a>b
 ·rw[if_pos h2];exact ae (decide_eq_true h2) rfl
 rw[if_neg h2];exact af (decide_eq_false h2) rfl
theorem QM(hG:G 218 tv=none)(a b:Int):FX G 218 tv (([a,b],()),())=some ((if a≠0 then a else b,()),()):=by
 refine aJ (fn:=Tryz.f218) hG (by kernel_rfl) (by kernel_rfl) ((UT _ _ _).trans ?_)
 by_cases ha:a=0
 ·rw[if_neg (by simp[ha])]
  refine aK (j:=0) (by kernel_rfl) ((wV _ _ _).trans ?_)
  refine ae rfl (aa (a:=a) rfl ?_)
  refine af (show(a != 0)=false by simp[ha]) ?_
  refine aK (j:=0) (by kernel_rfl) ((wV _ _ _).trans ?_)
  refine ae rfl (aa (a:=b) rfl ?_)
  by_cases hb:b=0
  ·refine af (show(b != 0)=false by simp[hb]) ?_
   refine aK (j:=0) (by kernel_rfl) ((wV _ _ _).trans ?_)
   rw[hb]
   exact af rfl rfl
  ·exact ae (show(b != 0)=true by simp[hb]) rfl
 ·rw[if_pos ha]
  refine aK (j:=0) (by kernel_rfl) ((wV _ _ _).trans ?_)
  refine ae rfl (aa (a:=a) rfl ?_)
  exact ae (show(a != 0)=true by simp[ha]) rfl
theorem MN(hG:HG G)(a b:ID):FX G 208 yF ((a,b,()),())=some ((AE a b,()),()):=by
 refine aJ (fn:=Tryz.f208) (hG _ _ rfl) (by kernel_rfl) (by kernel_rfl) ((UH _ _ _).trans ?_)
 unfold AE
 by_cases h:a=b
 ·rw[if_pos h];exact ae ((EH a b).trans (decide_eq_true h)) rfl
 rw[if_neg h]
 refine af ((EH a b).trans (decide_eq_false h)) ?_
 refine aa (MM hG a.1 b.1) ?_
 refine aa (MM hG a.2 b.2) ?_
 refine aa (QM (hG _ _ rfl) (G2 a.1 b.1) (G2 a.2 b.2)) ?_
 refine congrArg (fun n:Int=>some ((n,()),())) ?_
 obtain⟨a1,a2⟩:=a
 obtain⟨b1,b2⟩:=b
 unfold G2 fQ
 simp only[Prod.mk.injEq,not_and]at h
 simp only
 by_cases h1:a1<b1
 ·simp[h1]
 ·by_cases h2:a1>b1
  ·have:¬a1=b1:=by omega
   simp[h1,h2,this]
  ·have h3:a1=b1:=by omega
   have h4:=h h3
   subst h3
   by_cases h5:a2<b2
   ·simp[h5]
   ·have:a2>b2:=by omega
    simp[h5,this]
theorem QN(hG:HG G)(v:aj)(x:ID):FX G 207 Bl ((v,x,()),())=some ((AE v.1 x,()),()):=by
 refine aJ (fn:=Tryz.f207) (hG _ _ rfl) (by kernel_rfl) (by kernel_rfl) ((UG _ _ _).trans ?_)
 exact aa (MN hG v.1 x) rfl
theorem G3{i j:Nat}(hi:i≤1000000000)(hj:j≤1000000000):IntKind.wrap .i64 (j8 .u64 (IntKind.wrap .u64 (IntKind.wrap .i64 ((i:Int)+(j:Int)))) (1:Int))=(((i+j) / 2:Nat):Int):=by
 have e1:IntKind.wrap .i64 ((i:Int)+(j:Int))=((i+j:Nat):Int):=by rw[wrap_small (by omega) (by omega)];rfl
 have e2:IntKind.wrap .u64 ((i+j:Nat):Int)=((i+j:Nat):Int):=by
  unfold IntKind.wrap;simp[IntKind.bits,IntKind.signed];omega
 have e3:j8 .u64 ((i+j:Nat):Int) 1=(((i+j) / 2:Nat):Int):=by
  unfold j8
  have:(min (Int.toNat 1) IntKind.u64.bits)=1:=by decide
  rw[this,Int.fdiv_eq_ediv_of_nonneg _ (by omega)]
  rfl
 rw[e1,e2,e3,wrap_small (by omega) (by omega)]
def bh(l:List aj)(x:ID):Nat:=l.countP fun v=>fQ v.1 x
def bQ(l:List aj):Prop:=l.Pairwise fun a b=>fQ a.1 b.1=true
theorem gZ{a b c:ID}(h:fQ a b=true)(k:fQ b c=true):fQ a c=true:=by
 simp[fQ]at *;omega
theorem kl{a b:ID}(h:fQ a b=true):fQ b a=false:=by
 simp[fQ]at *;omega
theorem km{a b:ID}(h:fQ a b=false)(k:a≠b):fQ b a=true:=by
 obtain⟨a1,a2⟩:=a;obtain⟨b1,b2⟩:=b
 simp[fQ]at *;omega
theorem CT(l:List aj)(x:ID):bh l x≤l.length:=List.countP_le_length
theorem qA{l:List aj}{x:ID}(h:∀v∈l,fQ v.1 x=false):bh l x=0:=by
 unfold bh;rw[List.countP_eq_zero];intro v hv;simp[h v hv]
theorem uX{x:ID}:∀{l:List aj},bQ l→∀(k:Nat) (v:aj),l[k]? = some v→(fQ v.1 x=true↔k<bh l x)
 |[],_,k,v,h=>by simp at h
 |w::r,hs,k,v,h=>by
  have hw:∀{u:aj},u∈r→fQ w.1 u.1=true:=fun {u} hu=>List.rel_of_pairwise_cons hs hu
  have hr:bQ r:=hs.of_cons
  by_cases aE:fQ w.1 x=true
  ·have e:bh (w::r) x=bh r x+1:=by unfold bh;rw[List.countP_cons_of_pos (by simpa using aE)]
   cases k with
   |zero=>simp at h;subst h;simp[aE,e]
   |succ k=>have:=uX (x:=x) hr k v (by simpa using h);rw[this,e];omega
  ·have hn:∀u∈w::r,fQ u.1 x=false:=fun u hu=>by
    rcases List.mem_cons.1 hu with rfl|hu
    ·simpa using aE
    ·rw[Bool.eq_false_iff];intro h2;exact aE (gZ (hw hu) h2)
   rw[qA hn,hn v (List.mem_of_getElem? h)]
   simp
theorem MO(hG:HG G)(l:List aj)(x:ID)(hs:bQ l)(hl:l.length≤50000000):∀(n i j:Nat),j-i≤n→i≤bh l x→bh l x≤j→j≤l.length →
  LX G 208206 iv Tryz.f206 gH (bA Tryz.prog 206 0) ((l,(((l.length:Nat):Int),((i:Int),((j:Int),())))),(((x,()),()),()))=some (((((bh l x:Nat):Int),(decide ((l[bh l x]?).map (·.1)=some x),())):Int×(Bool×Unit)),()):=by
 have sG:=CT l x
 have fin:∀(i j:Nat),¬(i<j)→i≤bh l x→bh l x≤j→LX G 208206 iv Tryz.f206 gH (bA Tryz.prog 206 0) ((l,(((l.length:Nat):Int),((i:Int),((j:Int),())))),(((x,()),()),()))=some (((((bh l x:Nat):Int),(decide ((l[bh l x]?).map (·.1)=some x),())):Int×(Bool×Unit)),()):=fun i j xL h1 h2=>by
  have hi:i=bh l x:=by omega
  subst hi
  refine aK (j:=0) (by kernel_rfl) ((yN _ _ _).trans ?_)
  refine af (decide_eq_false (show ¬(((bh l x:Nat):Int)<(j:Int)) by omega)) ?_
  by_cases hc:bh l x<l.length
  ·have hx:l[bh l x]? = some l[bh l x]:=List.getElem?_eq_getElem hc
   refine ae (bG hc) ?_
   refine aa (bN hx) ?_
   refine aa (QN hG l[bh l x] x) ?_
   refine congrArg (fun b:Bool=>some ((((bh l x:Nat):Int),(b,())),())) ?_
   rw[hx]
   unfold AE
   by_cases he:l[bh l x].1=x
   ·simp[he]
   ·simp[he];split<;>simp
  ·refine af (decide_eq_false (show ¬(((bh l x:Nat):Int)<((l.length:Nat):Int)) by omega)) ?_
   refine congrArg (fun b:Bool=>some ((((bh l x:Nat):Int),(b,())),())) ?_
   rw[List.getElem?_eq_none (by omega)];simp
 intro n
 induction n with
 |zero=>intro i j xL h1 h2 h3;exact fin i j (by omega) h1 h2
 |succ n ih =>
  intro i j xL h1 h2 h3
  by_cases aE:i<j
  case neg=>exact fin i j aE h1 h2
  refine aK (j:=0) (by kernel_rfl) ((yN _ _ _).trans ?_)
  refine ae (decide_eq_true (show((i:Int)<(j:Int)) by omega)) ?_
  refine af rfl ?_
  have hm:=G3 (i:=i) (j:=j) (by omega) (by omega)
  have hh:(i+j) / 2<l.length:=by omega
  have hx:l[(i+j) / 2]? = some l[(i+j) / 2]:=List.getElem?_eq_getElem hh
  have mH:=uX (x:=x) hs ((i+j) / 2) _ hx
  refine aa (show cQ l (IntKind.wrap .i64 (j8 .u64 (IntKind.wrap .u64 (IntKind.wrap .i64 ((i:Int)+(j:Int)))) (1:Int)))=some l[(i+j) / 2] by rw[hm];exact bN hx) ?_
  refine aa (QN hG l[(i+j) / 2] x) ?_
  by_cases ho:fQ l[(i+j) / 2].1 x=true
  ·refine ae (decide_eq_true ((wY _ _).2 ho)) ?_
   have hc:=mH.1 ho
   have hw:IntKind.wrap .i64 (IntKind.wrap .i64 (j8 .u64 (IntKind.wrap .u64 (IntKind.wrap .i64 ((i:Int)+(j:Int)))) (1:Int))+1)=(((i+j) / 2+1:Nat):Int):=by
    rw[hm];exact aP hh (by omega)
   have:=ih ((i+j) / 2+1) j (by omega) (by omega) h2 h3
   rw[←hw]at this
   exact this
  ·refine af (decide_eq_false (fun h=>ho ((wY _ _).1 h))) ?_
   have hc:¬(i+j) / 2<bh l x:=fun h=>ho (mH.2 h)
   have:=ih i ((i+j) / 2) (by omega) h1 (by omega) (by omega)
   rw[←hm]at this
   exact this
theorem MP(hG:HG G)(l:List aj)(x:ID)(hs:bQ l)(hl:l.length≤50000000) :
  FX G 208206 iv ((l,x,()),())=some (((((bh l x:Nat):Int),(decide ((l[bh l x]?).map (·.1)=some x),())):Int×(Bool×Unit)),()):=by
 refine aJ (fn:=Tryz.f206) (hG _ _ rfl) (by kernel_rfl) (by kernel_rfl) ((Mg _ _ _).trans ?_)
 exact MO hG l x hs hl l.length 0 l.length (by omega) (by omega) (CT l x) (Nat.le_refl _)
theorem oF(hG:HG G)(w:az)(x:ID)(hs:bQ w.1)(hl:w.1.length≤50000000) :
  FX G 175 oD ((x,()),(w,()))=some (((((bh w.1 x:Nat):Int),(decide ((w.1[bh w.1 x]?).map (·.1)=some x),())):Int×(Bool×Unit)),(w,())):=by
 refine aJ (fn:=Tryz.f175) (hG _ _ rfl) (by kernel_rfl) (by kernel_rfl) ((Us _ _ _).trans ?_)
 exact aa (MP hG w.1 x hs hl) rfl
theorem qB{x:ID}:∀{l:List aj},bQ l→aN l x=(l[bh l x]?).filter fun v=>decide (v.1=x)
 |[],_=>rfl
 |w::r,hs=>by
  have hw:∀{u:aj},u∈r→fQ w.1 u.1=true:=fun {u} hu=>List.rel_of_pairwise_cons hs hu
  have hr:bQ r:=hs.of_cons
  by_cases aE:fQ w.1 x=true
  ·have e:bh (w::r) x=bh r x+1:=by unfold bh;rw[List.countP_cons_of_pos (by simpa using aE)]
   have aV:¬w.1=x:=fun e=>by rw[e,bS]at aE;cases aE
   rw[e]
   simp only[aN,List.find?_cons,aV,decide_false,List.getElem?_cons_succ]
   exact qB hr
  ·have hn:∀u∈w::r,fQ u.1 x=false:=fun u hu=>by
    rcases List.mem_cons.1 hu with rfl|hu
    ·simpa using aE
    ·rw[Bool.eq_false_iff];intro h2;exact aE (gZ (hw hu) h2)
   rw[qA hn]
   by_cases he:w.1=x
   ·simp[aN,List.find?_cons,he,Option.filter]
   ·have FM:fQ x w.1=true:=km (by simpa using aE) he
    have:aN r x=none:=by
     unfold aN;rw[List.find?_eq_none];intro u hu h2
     have h3:u.1=x:=by simpa using h2
     have h4:=hw hu
     rw[h3]at h4
     have:=kl h4
     rw[FM]at this;cases this
    rw[show aN (w::r) x=aN r x by simp only[aN,List.find?_cons,he,decide_false],this]
    simp[he,Option.filter]
theorem eJ{l:List aj}{x:ID}(hs:bQ l):decide ((l[bh l x]?).map (·.1)=some x)=(aN l x).isSome:=by
 rw[qB hs]
 cases h:l[bh l x]? with
 |none=>simp
 |some v=>by_cases he:v.1=x<;>simp[he,Option.filter]
theorem ES(v:aj):∀{l:List aj},bQ l→aN l v.1=none→eX v l=l.take (bh l v.1)++(v::l.drop (bh l v.1))
 |[],_,_=>rfl
 |w::r,hs,hf=>by
  have hw:∀{u:aj},u∈r→fQ w.1 u.1=true:=fun {u} hu=>List.rel_of_pairwise_cons hs hu
  have hr:bQ r:=hs.of_cons
  have aV:¬w.1=v.1:=fun e=>by simp[aN,e]at hf
  have Bf:aN r v.1=none:=by simpa[aN,List.find?_cons,aV] using hf
  by_cases aE:fQ w.1 v.1=true
  ·have e:bh (w::r) v.1=bh r v.1+1:=by unfold bh;rw[List.countP_cons_of_pos (by simpa using aE)]
   have Qn:fQ v.1 w.1=false:=kl aE
   rw[e,eX,if_neg (by simp[Qn]),ES v hr Bf]
   rfl
  ·have hn:∀u∈w::r,fQ u.1 v.1=false:=fun u hu=>by
    rcases List.mem_cons.1 hu with rfl|hu
    ·simpa using aE
    ·rw[Bool.eq_false_iff];intro h2;exact aE (gZ (hw hu) h2)
   have FM:fQ v.1 w.1=true:=km (by simpa using aE) aV
   rw[qA hn,eX,if_pos FM];rfl
theorem uY{x:ID}:∀{l:List aj},bQ l→(aN l x).isSome=true→fw l x=l.take (bh l x)++l.drop (bh l x+1)
 |[],_,hf=>by simp[aN]at hf
 |w::r,hs,hf=>by
  have hw:∀{u:aj},u∈r→fQ w.1 u.1=true:=fun {u} hu=>List.rel_of_pairwise_cons hs hu
  have hr:bQ r:=hs.of_cons
  by_cases he:w.1=x
  ·have hn:∀u∈w::r,fQ u.1 x=false:=fun u hu=>by
    rcases List.mem_cons.1 hu with rfl|hu
    ·rw[he,bS]
    ·rw[←he];exact kl (hw hu)
   have eg:fw r x=r:=by
    unfold fw;rw[List.filter_eq_self];intro u hu
    have h4:=hw hu
    simp;intro e2;rw[he,e2,bS]at h4;cases h4
   rw[qA hn]
   unfold fw
   rw[List.filter_cons_of_neg (by simp[he])]
   exact eg
  ·have Bf:(aN r x).isSome=true:=by simpa[aN,List.find?_cons,he] using hf
   have aE:fQ w.1 x=true:=by
    obtain⟨u,hu⟩:=Option.isSome_iff_exists.1 Bf
    have h1:=List.mem_of_find?_eq_some hu
    have h2:u.1=x:=by simpa using List.find?_some hu
    rw[←h2];exact hw h1
   have e:bh (w::r) x=bh r x+1:=by unfold bh;rw[List.countP_cons_of_pos (by simpa using aE)]
   rw[e]
   have:=uY hr Bf
   simp[fw,List.filter_cons,he]at this ⊢
   exact this
theorem mS(v:aj):∀{l:List aj},bQ l→aN l v.1=none→bQ (eX v l)
 |[],_,_=>List.pairwise_singleton _ _
 |w::r,hs,hf=>by
  have hw:∀{u:aj},u∈r→fQ w.1 u.1=true:=fun {u} hu=>List.rel_of_pairwise_cons hs hu
  have hr:bQ r:=hs.of_cons
  have aV:¬w.1=v.1:=fun e=>by simp[aN,e]at hf
  have Bf:aN r v.1=none:=by simpa[aN,List.find?_cons,aV] using hf
  unfold eX
  split
  ·rename_i h
   refine List.Pairwise.cons (fun u hu=>?_) hs
   rcases List.mem_cons.1 hu with rfl|hu
   ·exact h
   ·exact gZ h (hw hu)
  ·rename_i h
   have aE:fQ w.1 v.1=true:=km (by simpa using h) (fun e=>aV e.symm)
   refine List.Pairwise.cons (fun u hu=>?_) (mS v hr Bf)
   rcases lf.1 hu with rfl|hu
   ·exact aE
   ·exact hw hu
theorem n8{l:List aj}{x:ID}(hs:bQ l):bQ (fw l x):=hs.filter _
end Go.Vs
namespace Go.Vs
open Go.Proofs
variable {G:(f:FuncId)→(g:aL)→Option (g.A→Option g.B)}
theorem ZC(hG:G 127 JP=none)(l:List aj)(hl:l.length≤50000000):FX G 127 JP ((l,()),())=some ((l,()),()):=by
 refine aJ (fn:=Tryz.f127) hG (by kernel_rfl) (by kernel_rfl) ((Y4 _ _ _).trans ?_)
 cases l with
 |nil=>exact ae rfl (lK (by omega) fun j hj=>by cases j<;>rfl)
 |cons x r=>exact af rfl (ae (fits (by simp at hl ⊢;omega)) rfl)
theorem ZD(hG:G 128 JQ=none)(l:List an)(hl:l.length≤50000000):FX G 128 JQ ((l,()),())=some ((l,()),()):=by
 refine aJ (fn:=Tryz.f128) hG (by kernel_rfl) (by kernel_rfl) ((Y5 _ _ _).trans ?_)
 cases l with
 |nil=>exact ae rfl (lK (by omega) fun j hj=>by cases j<;>rfl)
 |cons x r=>exact af rfl (ae (fits (by simp at hl ⊢;omega)) rfl)
theorem R3(hG:G 110 wi=none)(l:List ab)(hl:l.length≤50000000):FX G 110 wi ((l,()),())=some ((l,()),()):=by
 refine aJ (fn:=Tryz.f110) hG (by kernel_rfl) (by kernel_rfl) ((Y6 _ _ _).trans ?_)
 cases l with
 |nil=>exact ae rfl (lK (by omega) fun j hj=>by cases j<;>rfl)
 |cons x r=>exact af rfl (ae (fits (by simp at hl ⊢;omega)) rfl)
theorem R4(hG:G 97 D6=none)(l:List aG)(hl:l.length≤50000000):FX G 97 D6 ((l,()),())=some ((l,()),()):=by
 refine aJ (fn:=Tryz.f97) hG (by kernel_rfl) (by kernel_rfl) ((Y2 _ _ _).trans ?_)
 cases l with
 |nil=>exact ae rfl (lK (by omega) fun j hj=>by cases j<;>rfl)
 |cons x r=>exact af rfl (ae (fits (by simp at hl ⊢;omega)) rfl)
theorem MQ{α:Type}{l:List α}{i:Nat}{x:α}(h:l[i]? = some x):l.set i x=l:=by
 obtain⟨hi,he⟩:=List.getElem?_eq_some_iff.1 h
 subst he;simp
theorem VM(hG:HG G)(d:ak)(hs:Sm d):FX G 96 CC ((d,()),())=some (((d.1,(d.2,())),()),()):=by
 have hv:=hs.v;have he:=hs.e
 refine aJ (fn:=Tryz.f96) (hG _ _ rfl) (by kernel_rfl) (by kernel_rfl) ((Y1 _ _ _).trans ?_)
 refine aa (ZC (hG _ _ rfl) d.1 (by omega)) ?_
 refine aa (ZD (hG _ _ rfl) d.2 (by omega)) ?_
 have loop:∀(n i:Nat) (out:List aj),i+n=d.1.length→out=d.1→LX G 96 CC Tryz.f96 yM (bA Tryz.prog 96 0) ((((d.1.length:Nat):Int),((i:Int),())),(((([]:List aj),(([]:List an),())),((out,(d.2,())),())),()))=some (((d.1,(d.2,())),()),()):=by
  intro n
  induction n with
  |zero =>
   intro i out hi ho
   subst ho
   refine aK (j:=0) (by kernel_rfl) ((Me _ _ _).trans ?_)
   exact af (decide_eq_false (show ¬((i:Int)<((d.1.length:Nat):Int)) by omega)) rfl
  |succ n ih =>
   intro i out hi ho
   have ma:=ho
   subst ho
   refine aK (j:=0) (by kernel_rfl) ((Me _ _ _).trans ?_)
   have aE:i<d.1.length:=by omega
   have hx:d.1[i]? = some d.1[i]:=List.getElem?_eq_getElem aE
   refine ae (bG aE) ?_
   refine ae (dD (jP i) (bG aE)) ?_
   refine aa hx ?_
   refine aa (R3 (hG _ _ rfl) d.1[i].2.1 (hs.r _ (List.getElem_mem aE))) ?_
   refine ae (dD (jP i) (bG aE)) ?_
   refine aa hx ?_
   rw[aP aE (show d.1.length≤1073741824 by omega)]
   exact ih (i+1) (d.1.set i d.1[i]) (by omega) (MQ hx)
 exact loop d.1.length 0 d.1 (by omega) rfl
def oG(w:az)(v:aj):Int×az :=
 if(aN w.1 v.1).isSome=true then(12,w) else if 24≤w.1.length then(3,w) else(0,(eX v w.1,w.2))
def Bx(w:az)(x:ID):Int×az:=match aN w.1 x with
 |none=>(13,w)
 |some v=>if 0<v.2.1.length then(14,w) else(0,(fw w.1 x,w.2))
theorem R5(hG:HG G)(w:az)(v:aj)(hs:bQ w.1)(hl:w.1.length≤50000000):FX G 152 D8 ((v,()),(w,()))=some (((oG w v).1,()),((oG w v).2,())):=by
 refine aJ (fn:=Tryz.f152) (hG _ _ rfl) (by kernel_rfl) (by kernel_rfl) ((Zb _ _ _).trans ?_)
 refine aa (oF hG w v.1 hs hl) ?_
 unfold oG
 cases hf:(aN w.1 v.1).isSome
 ·rw[if_neg (by simp)]
  refine af ((eJ hs).trans hf) ?_
  by_cases h2:24≤w.1.length
  ·rw[if_pos h2]
   exact ae (decide_eq_true (show((w.1.length:Nat):Int)≥24 by omega)) rfl
  ·rw[if_neg h2]
   refine af (decide_eq_false (show ¬((w.1.length:Nat):Int)≥24 by omega)) ?_
   have hc:=CT w.1 v.1
   have ll:oW w.1 ((bh w.1 v.1:Nat):Int) [v]=true:=by
    unfold oW
    rw[decide_eq_true (show(0:Int)≤((bh w.1 v.1:Nat):Int) by omega),decide_eq_true (show((bh w.1 v.1:Nat):Int)≤((w.1.length:Nat):Int) by omega)]
    rw[fits (by simp;omega)];rfl
   refine ae ll ?_
   have e:fb w.1 ((bh w.1 v.1:Nat):Int) [v]=eX v w.1:=by
    rw[ES v hs (by simpa using hf)]
    unfold fb;simp
   exact congrArg (fun l:List aj=>some (((0:Int),()),((l,w.2),()))) e
 ·rw[if_pos rfl]
  exact ae ((eJ hs).trans hf) rfl
theorem ZE(hG:HG G)(w:az)(o:aO)(hs:bQ w.1)(hl:w.1.length≤50000000):FX G 153 L9 ((o,()),(w,()))=some (((Bx w (ba o)).1,()),((Bx w (ba o)).2,())):=by
 refine aJ (fn:=Tryz.f153) (hG _ _ rfl) (by kernel_rfl) (by kernel_rfl) ((Zd _ _ _).trans ?_)
 refine aa (oF hG w (ba o) hs hl) ?_
 unfold Bx
 have XV:=eJ (x:=ba o) hs
 have jR:=qB (x:=ba o) hs
 cases hf:aN w.1 (ba o) with
 |none =>
  rw[hf]at XV
  refine ae (show(!(decide ((w.1[bh w.1 (ba o)]?).map (·.1)=some (ba o))))=true by rw[XV];rfl) rfl
 |some v =>
  rw[hf]at XV jR
  refine af (show(!(decide ((w.1[bh w.1 (ba o)]?).map (·.1)=some (ba o))))=false by rw[XV];rfl) ?_
  have hx:w.1[bh w.1 (ba o)]? = some v:=by
   cases hg:w.1[bh w.1 (ba o)]? with
   |none=>rw[hg]at jR;simp[Option.filter]at jR
   |some u =>
    rw[hg]at jR
    simp only[Option.filter]at jR
    split at jR
    ·exact jR.symm
    ·cases jR
  have aE:=(List.getElem?_eq_some_iff.1 hx).1
  refine ae (dD (jP _) (bG aE)) ?_
  refine aa hx ?_
  show _=some ((((if 0<v.2.1.length then(14,w) else(0,(fw w.1 (ba o),w.2)):Int×az).1,()),((if 0<v.2.1.length then(14,w) else(0,(fw w.1 (ba o),w.2)):Int×az).2,())):(Int×Unit)×(az×Unit))
  by_cases h2:0<v.2.1.length
  ·rw[if_pos h2]
   exact ae (decide_eq_true (show((v.2.1.length:Nat):Int)>0 by omega)) rfl
  ·rw[if_neg h2]
   refine af (decide_eq_false (show ¬((v.2.1.length:Nat):Int)>0 by omega)) ?_
   have hw:IntKind.wrap .i64 (((bh w.1 (ba o):Nat):Int)+1)=((bh w.1 (ba o)+1:Nat):Int):=aP aE (by omega)
   have ll:iK w.1 ((bh w.1 (ba o):Nat):Int) (IntKind.wrap .i64 (((bh w.1 (ba o):Nat):Int)+1))=true:=by
    rw[hw]
    unfold iK
    rw[decide_eq_true (show(0:Int)≤((bh w.1 (ba o):Nat):Int) by omega),decide_eq_true (show((bh w.1 (ba o):Nat):Int)<((bh w.1 (ba o)+1:Nat):Int) by omega),decide_eq_true (show((bh w.1 (ba o)+1:Nat):Int)≤((w.1.length:Nat):Int) by omega),fits (by omega)];rfl
   refine ae ll ?_
   have e:cV w.1 ((bh w.1 (ba o):Nat):Int) (IntKind.wrap .i64 (((bh w.1 (ba o):Nat):Int)+1))=fw w.1 (ba o):=by
    rw[hw,uY hs (by rw[hf];rfl)]
    unfold cV;simp only[Int.toNat_natCast]
   exact congrArg (fun l:List aj=>some (((0:Int),()),((l,w.2),()))) e
def zW:az:=([],([],([],())))
def aD(s:StateT):az:=(s.1.1,(s.1.2,(s.2,())))
def wZ(w:az):StateT:=((w.1,w.2.1),w.2.2.1)
def iF(e:Int)(w:az):StateT×(Int×Unit):=if e≠0 then(zS,(e,())) else(wZ w,(0,()))
def G4(k:Int)(x:ID):aO:=(k,(x,(zI,(zI,(zC,(zC,(false,(e0,0))))))))
def abW(x:ID):Int:=if dH x=true then 0 else 1
def shS:StateT:=(([((1,1),([],(e0,0)))],[]),[])
end Go.Vs
namespace Go.Vs
open Go.Proofs
theorem bQ.map{l:List aj}(h:bQ l){f:aj→aj}(hf:∀v,(f v).1=v.1):bQ (l.map f):=by
 unfold bQ at h ⊢
 rw[List.pairwise_map]
 exact h.imp fun {a b} Ah=>by rw[hf,hf];exact Ah
theorem mT{x:ID}{f:aj→aj}(hf:∀v,(f v).1=v.1):∀(l:List aj),aN (l.map f) x=(aN l x).map f
 |[]=>rfl
 |w::r=>by
  unfold aN
  rw[List.map_cons,List.find?_cons,List.find?_cons,hf]
  have:=mT (x:=x) hf r
  unfold aN at this
  cases decide (w.1=x) with
  |true=>rfl
  |false=>exact this
theorem pU(x:ID)(l:List ab)(w:aj):(uU x l w).1=w.1:=by unfold uU;split<;>rfl
theorem IC(o:aO)(w:aj):(nY o w).1=w.1:=by unfold nY;split<;>(try split)<;>rfl
structure Iv(d:ak):Prop where
 s:bQ d.1
 n:d.1.length≤24
theorem Iv.zero:Iv zS.1:=⟨List.Pairwise.nil,by simp[zS]⟩
theorem Iv.bW{d:ak}(h:Iv d)(x:ID)(l:List ab):Iv (bW d x l):=⟨h.s.map (pU x l),by unfold Vs.bW;simp;exact h.n⟩
theorem Iv.bF{d:ak}(h:Iv d)(v e:ID):Iv (bF d v e):=⟨n8 h.s,Nat.le_trans (List.length_filter_le _ _) h.n⟩
theorem Iv.one{s:StateT}(h:Iv s.1)(o:aO):Iv (oO s o).1.1:=by
 unfold oO
 split;· exact Iv.zero
 split
 ·unfold pT
  split;· exact Iv.zero
  split;· exact Iv.zero
  rename_i h1 h2
  exact⟨mS _ h.s (by simpa[ck] using h1),by rw[fz];omega⟩
 split
 ·unfold zd
  split
  ·exact Iv.zero
  ·split
   ·exact Iv.zero
   ·exact h.bF _ _
 split
 ·unfold rB
  split;· exact Iv.zero
  split;· exact Iv.zero
  split;· exact Iv.zero
  split;· exact Iv.zero
  split;· exact Iv.zero
  have h1:Iv (s.1.1,eR (ba o,(e0,0)) s.1.2):=⟨h.s,h.n⟩
  exact(h1.bW _ _).bW _ _
 split
 ·unfold GZ
  split;· exact Iv.zero
  exact((h.bW _ _).bW _ _).bF _ _
 split
 ·unfold n3
  split;· exact Iv.zero
  split;· exact Iv.zero
  split;· exact Iv.zero
  split;· exact Iv.zero
  split;· exact Iv.zero
  rename_i h1 h2 h3 h4 h5
  have h6:aN s.1.1 (eT o)=none:=by simpa[ck] using h2
  have h7:aN (aB s.1 (Ps o) (ar (Ol o))).1 (eT o)=none:=by
   unfold aB Vs.bW
   rw[mT (pU _ _),h6];rfl
  refine⟨mS _ (h.bW _ _).s h7,?_⟩
  unfold ML
  rw[fz]
  have:(aB s.1 (Ps o) (ar (Ol o))).1.length=s.1.1.length:=by unfold aB Vs.bW;simp
  omega
 split
 ·unfold n6
  have key:∀a b:ab,Iv (J4 s o a b):=fun a b=>((h.bF _ _).bW _ _).bF _ _
  split
  ·exact Iv.zero
  ·split
   ·unfold lS
    split;· exact Iv.zero
    split;· exact key _ _
    split;· exact key _ _
    exact Iv.zero
   ·exact Iv.zero
 ·unfold wx
  split
  ·exact⟨h.s.map (IC o),by simp;exact h.n⟩
  ·exact Iv.zero
theorem Iv.go:∀(l:List aO) {s:StateT},Iv s.1→Iv (ER l s).1.1
 |[],s,h=>h
 |o::r,s,h=>by
  unfold ER
  split
  ·exact Iv.zero
  ·exact Iv.go r (h.one o)
theorem Iv.try{s:StateT}(h:Iv s.1)(l:List aO):Iv (ji s l).1:=by
 unfold ji
 split
 ·exact h
 ·unfold cy
  split
  ·exact Iv.zero
  ·exact Iv.go l h
theorem Iv.reach:∀(m:Nat) (l:List (List aO)) {s:StateT},Iv s.1→Iv (lg m l s).1
 |0,_,s,h=>by simpa[lg] using h
 |m+1,[],s,h=>h
 |m+1,l::r,s,h=>by rw[lg];exact Iv.reach m r (h.try _)
theorem Iv.IB(l:List (List aO)):Iv (ze l).1:=Iv.reach 30 l Iv.zero
end Go.Vs
