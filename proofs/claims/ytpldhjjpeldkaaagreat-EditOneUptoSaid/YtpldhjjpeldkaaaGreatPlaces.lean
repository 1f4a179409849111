/- What the program computes at vertices, written plainly. -/
import Derived.Test.YtpldhjjpeldkaaaGreatRefB
set_option linter.unusedVariables false
set_option linter.unusedSimpArgs false
namespace Go.Vs
open Go.Proofs
variable {G:(f:FuncId)→(g:aL)→Option (g.A→Option g.B)}
theorem GX(hG:G 86 qc=none)(x:ID):FX G 86 qc ((x,()),())=some ((cz x,()),()):=by
 refine aw (fn:=Tryz.f86) hG (by kernel_rfl) (by kernel_rfl) ((adx _ _ _).trans ?_)
 obtain ⟨a,b⟩:=x
 show (cond (decide (a≥1)) (cond (decide (a≤8)) (cond (decide (b≥1)) (some ((decide (b≤1048576),()),())) (some ((false,()),()))) (some ((false,()),()))) (some ((false,()),())):Option ((Bool×Unit)×Unit))=some ((cz (a,b),()),())
 unfold cz
 simp only [cond_eq_ite]
 by_cases h1:(1:Int)≤a<;>by_cases h2:a≤8<;>by_cases h3:(1:Int)≤b<;>simp [h1,h2,h3]
theorem TK(hG:G 159 Ak=none)(n:Int):FX G 159 Ak ((n,()),())=some ((false,()),()):=by
 refine aw (fn:=Tryz.f159) hG (by kernel_rfl) (by kernel_rfl) ((Ym _ _ _).trans ?_)
 exact congrArg (fun b:Bool=>some ((b,()),())) (show (n != n)=false by simp)
def I5(a b:Int):Int:=if a<b then -1 else if a > b then 1 else 0
theorem PE(hG:HG G)(a b:Int):FX G 145 Ai ((a,b,()),())=some ((I5 a b,()),()):=by
 refine aw (fn:=Tryz.f145) (hG _ _ rfl) (by kernel_rfl) (by kernel_rfl) ((Yg _ _ _).trans ?_)
 refine aa (TK (hG _ _ rfl) a) ?_
 refine aa (TK (hG _ _ rfl) b) ?_
 refine ag rfl (ag rfl ?_)
 unfold I5
 by_cases h1:a<b
 ·rw [if_pos h1];exact af (decide_eq_true h1) rfl
 rw [if_neg h1]
 refine ag (decide_eq_false h1) ?_
 by_cases h2:a > b
 ·rw [if_pos h2];exact af (decide_eq_true h2) rfl
 rw [if_neg h2];exact ag (decide_eq_false h2) rfl
theorem TL(hG:G 144 uj=none)(a b:Int):FX G 144 uj (([a,b],()),())=some ((if a≠0 then a else b,()),()):=by
 refine aw (fn:=Tryz.f144) hG (by kernel_rfl) (by kernel_rfl) ((Yf _ _ _).trans ?_)
 by_cases ha:a=0
 ·rw [if_neg (by simp [ha])]
  refine ar (j:=0) (by kernel_rfl) ((yq _ _ _).trans ?_)
  refine af rfl (aa (a:=a) rfl ?_)
  refine ag (show (a != 0)=false by simp [ha]) ?_
  refine ar (j:=0) (by kernel_rfl) ((yq _ _ _).trans ?_)
  refine af rfl (aa (a:=b) rfl ?_)
  by_cases hb:b=0
  ·refine ag (show (b != 0)=false by simp [hb]) ?_
   refine ar (j:=0) (by kernel_rfl) ((yq _ _ _).trans ?_)
   rw [hb]
   exact ag rfl rfl
  ·exact af (show (b != 0)=true by simp [hb]) rfl
 ·rw [if_pos ha]
  refine ar (j:=0) (by kernel_rfl) ((yq _ _ _).trans ?_)
  refine af rfl (aa (a:=a) rfl ?_)
  exact af (show (a != 0)=true by simp [ha]) rfl
theorem PF(hG:HG G)(a b:ID):FX G 127 Ah ((a,b,()),())=some ((oD a b,()),()):=by
 refine aw (fn:=Tryz.f127) (hG _ _ rfl) (by kernel_rfl) (by kernel_rfl) ((X3 _ _ _).trans ?_)
 unfold oD
 by_cases h:a=b
 ·rw [if_pos h];exact af ((iZ a b).trans (decide_eq_true h)) rfl
 rw [if_neg h]
 refine ag ((iZ a b).trans (decide_eq_false h)) ?_
 refine aa (PE hG a.1 b.1) ?_
 refine aa (PE hG a.2 b.2) ?_
 refine aa (TL (hG _ _ rfl) (I5 a.1 b.1) (I5 a.2 b.2)) ?_
 refine congrArg (fun n:Int=>some ((n,()),())) ?_
 obtain ⟨a1,a2⟩:=a
 obtain ⟨b1,b2⟩:=b
 unfold I5 eU
 simp only [Prod.mk.injEq,not_and] at h
 simp only
 by_cases h1:a1<b1
 ·simp [h1]
 ·by_cases h2:a1 > b1
  ·have:¬a1=b1:=by omega
   simp [h1,h2,this]
  ·have h3:a1=b1:=by omega
   have h4:=h h3
   subst h3
   by_cases h5:a2<b2
   ·simp [h5]
   ·have:a2 > b2:=by omega
    simp [h5,this]
theorem TM(hG:HG G)(v:ai)(x:ID):FX G 126 CQ ((v,x,()),())=some ((oD v.1 x,()),()):=by
 refine aw (fn:=Tryz.f126) (hG _ _ rfl) (by kernel_rfl) (by kernel_rfl) ((X2 _ _ _).trans ?_)
 exact aa (PF hG v.1 x) rfl
theorem I6{i j:Nat}(hi:i≤1000000000)(hj:j≤1000000000):IntKind.wrap .i64 (kx .u64 (IntKind.wrap .u64 (IntKind.wrap .i64 ((i:Int)+(j:Int)))) (1:Int))=(((i+j) / 2:Nat):Int):=by
 have e1:IntKind.wrap .i64 ((i:Int)+(j:Int))=((i+j:Nat):Int):=by rw [wrap_small (by omega) (by omega)];rfl
 have e2:IntKind.wrap .u64 ((i+j:Nat):Int)=((i+j:Nat):Int):=by
  unfold IntKind.wrap;simp [IntKind.bits,IntKind.signed];omega
 have e3:kx .u64 ((i+j:Nat):Int) 1=(((i+j) / 2:Nat):Int):=by
  unfold kx
  have:(min (Int.toNat 1) IntKind.u64.bits)=1:=by decide
  rw [this,Int.fdiv_eq_ediv_of_nonneg _ (by omega)]
  rfl
 rw [e1,e2,e3,wrap_small (by omega) (by omega)]
def bD(l:List ai)(x:ID):Nat:=l.countP fun v=>eU v.1 x
def bV(l:List ai):Prop:=l.Pairwise fun a b=>eU a.1 b.1=true
theorem fX{a b c:ID}(h:eU a b=true)(k:eU b c=true):eU a c=true:=by
 simp [eU] at *;omega
theorem kM{a b:ID}(h:eU a b=true):eU b a=false:=by
 simp [eU] at *;omega
theorem kN{a b:ID}(h:eU a b=false)(k:a≠b):eU b a=true:=by
 obtain ⟨a1,a2⟩:=a;obtain ⟨b1,b2⟩:=b
 simp [eU] at *;omega
theorem EG(l:List ai)(x:ID):bD l x≤l.length:=List.countP_le_length
theorem q9{l:List ai}{x:ID}(h:∀v∈l,eU v.1 x=false):bD l x=0:=by
 unfold bD;rw [List.countP_eq_zero];intro v hv;simp [h v hv]
theorem wa{x:ID}:∀{l:List ai},bV l→∀(k:Nat) (v:ai),l[k]? = some v→(eU v.1 x=true↔k<bD l x)
 | [],_,k,v,h=>by simp at h
 | w::r,hs,k,v,h=>by
  have hw:∀{u:ai},u∈r→eU w.1 u.1=true:=fun {u} hu=>List.rel_of_pairwise_cons hs hu
  have hr:bV r:=hs.of_cons
  by_cases aJ:eU w.1 x=true
  ·have e:bD (w::r) x=bD r x+1:=by unfold bD;rw [List.countP_cons_of_pos (by simpa using aJ)]
   cases k with
   | zero=>simp at h;subst h;simp [aJ,e]
   | succ k=>have:=wa (x:=x) hr k v (by simpa using h);rw [this,e];omega
  ·have hn:∀u∈w::r,eU u.1 x=false:=fun u hu=>by
    rcases List.mem_cons.1 hu with rfl | hu
    ·simpa using aJ
    ·rw [Bool.eq_false_iff];intro h2;exact aJ (fX (hw hu) h2)
   rw [q9 hn,hn v (List.mem_of_getElem? h)]
   simp
theorem PH(hG:HG G)(l:List ai)(x:ID)(hs:bV l)(hl:l.length≤50000000):∀(n i j:Nat),j - i≤n→i≤bD l x→bD l x≤j→j≤l.length →
  LX G 127125 iQ Tryz.f125 hM (aM Tryz.prog 125 0) ((l,(((l.length:Nat):Int),((i:Int),((j:Int),())))),(((x,()),()),()))=some (((((bD l x:Nat):Int),(decide ((l[bD l x]?).map (·.1)=some x),())):Int×(Bool×Unit)),()):=by
 have sG:=EG l x
 have fin:∀(i j:Nat),¬(i<j)→i≤bD l x→bD l x≤j→LX G 127125 iQ Tryz.f125 hM (aM Tryz.prog 125 0) ((l,(((l.length:Nat):Int),((i:Int),((j:Int),())))),(((x,()),()),()))=some (((((bD l x:Nat):Int),(decide ((l[bD l x]?).map (·.1)=some x),())):Int×(Bool×Unit)),()):=fun i j xW h1 h2=>by
  have hi:i=bD l x:=by omega
  subst hi
  refine ar (j:=0) (by kernel_rfl) ((AH _ _ _).trans ?_)
  refine ag (decide_eq_false (show ¬(((bD l x:Nat):Int)<(j:Int)) by omega)) ?_
  by_cases hc:bD l x<l.length
  ·have hx:l[bD l x]? = some l[bD l x]:=List.getElem?_eq_getElem hc
   refine af (aT hc) ?_
   refine aa (az hx) ?_
   refine aa (TM hG l[bD l x] x) ?_
   refine congrArg (fun b:Bool=>some ((((bD l x:Nat):Int),(b,())),())) ?_
   rw [hx]
   unfold oD
   by_cases he:l[bD l x].1=x
   ·simp [he]
   ·simp [he];split<;>simp
  ·refine ag (decide_eq_false (show ¬(((bD l x:Nat):Int)<((l.length:Nat):Int)) by omega)) ?_
   refine congrArg (fun b:Bool=>some ((((bD l x:Nat):Int),(b,())),())) ?_
   rw [List.getElem?_eq_none (by omega)];simp
 intro n
 induction n with
 | zero=>intro i j xW h1 h2 h3;exact fin i j (by omega) h1 h2
 | succ n ih =>
  intro i j xW h1 h2 h3
  by_cases aJ:i<j
  case neg=>exact fin i j aJ h1 h2
  refine ar (j:=0) (by kernel_rfl) ((AH _ _ _).trans ?_)
  refine af (decide_eq_true (show ((i:Int)<(j:Int)) by omega)) ?_
  refine ag rfl ?_
  have hm:=I6 (i:=i) (j:=j) (by omega) (by omega)
  have hh:(i+j) / 2<l.length:=by omega
  have hx:l[(i+j) / 2]? = some l[(i+j) / 2]:=List.getElem?_eq_getElem hh
  have m6:=wa (x:=x) hs ((i+j) / 2) _ hx
  refine aa (show aS l (IntKind.wrap .i64 (kx .u64 (IntKind.wrap .u64 (IntKind.wrap .i64 ((i:Int)+(j:Int)))) (1:Int)))=some l[(i+j) / 2] by rw [hm];exact az hx) ?_
  refine aa (TM hG l[(i+j) / 2] x) ?_
  by_cases ho:eU l[(i+j) / 2].1 x=true
  ·refine af (decide_eq_true ((jL _ _).2 ho)) ?_
   have hc:=m6.1 ho
   have hw:IntKind.wrap .i64 (IntKind.wrap .i64 (kx .u64 (IntKind.wrap .u64 (IntKind.wrap .i64 ((i:Int)+(j:Int)))) (1:Int))+1)=(((i+j) / 2+1:Nat):Int):=by
    rw [hm];exact aH hh (by omega)
   have:=ih ((i+j) / 2+1) j (by omega) (by omega) h2 h3
   rw [←hw] at this
   exact this
  ·refine ag (decide_eq_false (fun h=>ho ((jL _ _).1 h))) ?_
   have hc:¬(i+j) / 2<bD l x:=fun h=>ho (m6.2 h)
   have:=ih i ((i+j) / 2) (by omega) h1 (by omega) (by omega)
   rw [←hm] at this
   exact this
theorem PI(hG:HG G)(l:List ai)(x:ID)(hs:bV l)(hl:l.length≤50000000) :
  FX G 127125 iQ ((l,x,()),())=some (((((bD l x:Nat):Int),(decide ((l[bD l x]?).map (·.1)=some x),())):Int×(Bool×Unit)),()):=by
 refine aw (fn:=Tryz.f125) (hG _ _ rfl) (by kernel_rfl) (by kernel_rfl) ((O6 _ _ _).trans ?_)
 exact PH hG l x hs hl l.length 0 l.length (by omega) (by omega) (EG l x) (Nat.le_refl _)
theorem oZ(hG:HG G)(w:aE)(x:ID)(hs:bV w.1)(hl:w.1.length≤50000000) :
  FX G 107 oY ((x,()),(w,()))=some (((((bD w.1 x:Nat):Int),(decide ((w.1[bD w.1 x]?).map (·.1)=some x),())):Int×(Bool×Unit)),(w,())):=by
 refine aw (fn:=Tryz.f107) (hG _ _ rfl) (by kernel_rfl) (by kernel_rfl) ((XO _ _ _).trans ?_)
 exact aa (PI hG w.1 x hs hl) rfl
theorem rf{x:ID}:∀{l:List ai},bV l→aV l x=(l[bD l x]?).filter fun v=>decide (v.1=x)
 | [],_=>rfl
 | w::r,hs=>by
  have hw:∀{u:ai},u∈r→eU w.1 u.1=true:=fun {u} hu=>List.rel_of_pairwise_cons hs hu
  have hr:bV r:=hs.of_cons
  by_cases aJ:eU w.1 x=true
  ·have e:bD (w::r) x=bD r x+1:=by unfold bD;rw [List.countP_cons_of_pos (by simpa using aJ)]
   have bj:¬w.1=x:=fun e=>by rw [e,b5] at aJ;cases aJ
   rw [e]
   simp only [aV,List.find?_cons,bj,decide_false,List.getElem?_cons_succ]
   exact rf hr
  ·have hn:∀u∈w::r,eU u.1 x=false:=fun u hu=>by
    rcases List.mem_cons.1 hu with rfl | hu
    ·simpa using aJ
    ·rw [Bool.eq_false_iff];intro h2;exact aJ (fX (hw hu) h2)
   rw [q9 hn]
   by_cases he:w.1=x
   ·simp [aV,List.find?_cons,he,Option.filter]
   ·have HR:eU x w.1=true:=kN (by simpa using aJ) he
    have:aV r x=none:=by
     unfold aV;rw [List.find?_eq_none];intro u hu h2
     have h3:u.1=x:=by simpa using h2
     have h4:=hw hu
     rw [h3] at h4
     have:=kM h4
     rw [HR] at this;cases this
    rw [show aV (w::r) x=aV r x by simp only [aV,List.find?_cons,he,decide_false],this]
    simp [he,Option.filter]
theorem fh{l:List ai}{x:ID}(hs:bV l):decide ((l[bD l x]?).map (·.1)=some x)=(aV l x).isSome:=by
 rw [rf hs]
 cases h:l[bD l x]? with
 | none=>simp
 | some v=>by_cases he:v.1=x<;>simp [he,Option.filter]
theorem GY(v:ai):∀{l:List ai},bV l→aV l v.1=none→dW v l=l.take (bD l v.1)++(v::l.drop (bD l v.1))
 | [],_,_=>rfl
 | w::r,hs,hf=>by
  have hw:∀{u:ai},u∈r→eU w.1 u.1=true:=fun {u} hu=>List.rel_of_pairwise_cons hs hu
  have hr:bV r:=hs.of_cons
  have bj:¬w.1=v.1:=fun e=>by simp [aV,e] at hf
  have CL:aV r v.1=none:=by simpa [aV,List.find?_cons,bj] using hf
  by_cases aJ:eU w.1 v.1=true
  ·have e:bD (w::r) v.1=bD r v.1+1:=by unfold bD;rw [List.countP_cons_of_pos (by simpa using aJ)]
   have QX:eU v.1 w.1=false:=kM aJ
   rw [e,dW,if_neg (by simp [QX]),GY v hr CL]
   rfl
  ·have hn:∀u∈w::r,eU u.1 v.1=false:=fun u hu=>by
    rcases List.mem_cons.1 hu with rfl | hu
    ·simpa using aJ
    ·rw [Bool.eq_false_iff];intro h2;exact aJ (fX (hw hu) h2)
   have HR:eU v.1 w.1=true:=kN (by simpa using aJ) bj
   rw [q9 hn,dW,if_pos HR];rfl
theorem wb{x:ID}:∀{l:List ai},bV l→(aV l x).isSome=true→dE l x=l.take (bD l x)++l.drop (bD l x+1)
 | [],_,hf=>by simp [aV] at hf
 | w::r,hs,hf=>by
  have hw:∀{u:ai},u∈r→eU w.1 u.1=true:=fun {u} hu=>List.rel_of_pairwise_cons hs hu
  have hr:bV r:=hs.of_cons
  by_cases he:w.1=x
  ·have hn:∀u∈w::r,eU u.1 x=false:=fun u hu=>by
    rcases List.mem_cons.1 hu with rfl | hu
    ·rw [he,b5]
    ·rw [←he];exact kM (hw hu)
   have eg:dE r x=r:=by
    unfold dE;rw [List.filter_eq_self];intro u hu
    have h4:=hw hu
    simp;intro e2;rw [he,e2,b5] at h4;cases h4
   rw [q9 hn]
   unfold dE
   rw [List.filter_cons_of_neg (by simp [he])]
   exact eg
  ·have CL:(aV r x).isSome=true:=by simpa [aV,List.find?_cons,he] using hf
   have aJ:eU w.1 x=true:=by
    obtain ⟨u,hu⟩:=Option.isSome_iff_exists.1 CL
    have h1:=List.mem_of_find?_eq_some hu
    have h2:u.1=x:=by simpa using List.find?_some hu
    rw [←h2];exact hw h1
   have e:bD (w::r) x=bD r x+1:=by unfold bD;rw [List.countP_cons_of_pos (by simpa using aJ)]
   rw [e]
   have:=wb hr CL
   simp [dE,List.filter_cons,he] at this ⊢
   exact this
theorem nt(v:ai):∀{l:List ai},bV l→aV l v.1=none→bV (dW v l)
 | [],_,_=>List.pairwise_singleton _ _
 | w::r,hs,hf=>by
  have hw:∀{u:ai},u∈r→eU w.1 u.1=true:=fun {u} hu=>List.rel_of_pairwise_cons hs hu
  have hr:bV r:=hs.of_cons
  have bj:¬w.1=v.1:=fun e=>by simp [aV,e] at hf
  have CL:aV r v.1=none:=by simpa [aV,List.find?_cons,bj] using hf
  unfold dW
  split
  ·rename_i h
   refine List.Pairwise.cons (fun u hu => ?_) hs
   rcases List.mem_cons.1 hu with rfl | hu
   ·exact h
   ·exact fX h (hw hu)
  ·rename_i h
   have aJ:eU w.1 v.1=true:=kN (by simpa using h) (fun e=>bj e.symm)
   refine List.Pairwise.cons (fun u hu => ?_) (nt v hr CL)
   rcases qq.1 hu with rfl | hu
   ·exact aJ
   ·exact hw hu
theorem oH{l:List ai}{x:ID}(hs:bV l):bV (dE l x):=hs.filter _
end Go.Vs
namespace Go.Vs
open Go.Proofs
variable {G:(f:FuncId)→(g:aL)→Option (g.A→Option g.B)}
theorem aep(hG:G 79 LJ=none)(l:List ai)(hl:l.length≤50000000):FX G 79 LJ ((l,()),())=some ((l,()),()):=by
 refine aw (fn:=Tryz.f79) hG (by kernel_rfl) (by kernel_rfl) ((adq _ _ _).trans ?_)
 cases l with
 | nil=>exact af rfl (lZ (by omega) fun j hj=>by cases j<;>rfl)
 | cons x r=>exact ag rfl (af (fits (by simp at hl ⊢;omega)) rfl)
theorem aeq(hG:G 80 LK=none)(l:List ah)(hl:l.length≤50000000):FX G 80 LK ((l,()),())=some ((l,()),()):=by
 refine aw (fn:=Tryz.f80) hG (by kernel_rfl) (by kernel_rfl) ((adr _ _ _).trans ?_)
 cases l with
 | nil=>exact af rfl (lZ (by omega) fun j hj=>by cases j<;>rfl)
 | cons x r=>exact ag rfl (af (fits (by simp at hl ⊢;omega)) rfl)
theorem Ve(hG:G 81 xK=none)(l:List ae)(hl:l.length≤50000000):FX G 81 xK ((l,()),())=some ((l,()),()):=by
 refine aw (fn:=Tryz.f81) hG (by kernel_rfl) (by kernel_rfl) ((ads _ _ _).trans ?_)
 cases l with
 | nil=>exact af rfl (lZ (by omega) fun j hj=>by cases j<;>rfl)
 | cons x r=>exact ag rfl (af (fits (by simp at hl ⊢;omega)) rfl)
theorem Za(hG:G 61 IL=none)(l:List an)(hl:l.length≤50000000):FX G 61 IL ((l,()),())=some ((l,()),()):=by
 refine aw (fn:=Tryz.f61) hG (by kernel_rfl) (by kernel_rfl) ((ac7 _ _ _).trans ?_)
 cases l with
 | nil=>exact af rfl (lZ (by omega) fun j hj=>by cases j<;>rfl)
 | cons x r=>exact ag rfl (af (fits (by simp at hl ⊢;omega)) rfl)
theorem PJ{α:Type}{l:List α}{i:Nat}{x:α}(h:l[i]? = some x):l.set i x=l:=by
 obtain ⟨hi,he⟩:=List.getElem?_eq_some_iff.1 h
 subst he;simp
theorem aer(hG:HG G)(d:aj)(hs:Sm d):FX G 60 F2 ((d,()),())=some (((d.1,(d.2,())),()),()):=by
 have hv:=hs.v;have he:=hs.e
 refine aw (fn:=Tryz.f60) (hG _ _ rfl) (by kernel_rfl) (by kernel_rfl) ((ac6 _ _ _).trans ?_)
 refine aa (aep (hG _ _ rfl) d.1 (by omega)) ?_
 refine aa (aeq (hG _ _ rfl) d.2 (by omega)) ?_
 have loop:∀(n i:Nat) (out:List ai),i+n=d.1.length→out=d.1→LX G 60 F2 Tryz.f60 AD (aM Tryz.prog 60 0) ((((d.1.length:Nat):Int),((i:Int),())),(((([]:List ai),(([]:List ah),())),((out,(d.2,())),())),()))=some (((d.1,(d.2,())),()),()):=by
  intro n
  induction n with
  | zero =>
   intro i out hi ho
   subst ho
   refine ar (j:=0) (by kernel_rfl) ((ON _ _ _).trans ?_)
   exact ag (decide_eq_false (show ¬((i:Int)<((d.1.length:Nat):Int)) by omega)) rfl
  | succ n ih =>
   intro i out hi ho
   have my:=ho
   subst ho
   refine ar (j:=0) (by kernel_rfl) ((ON _ _ _).trans ?_)
   have aJ:i<d.1.length:=by omega
   have hx:d.1[i]? = some d.1[i]:=List.getElem?_eq_getElem aJ
   refine af (aT aJ) ?_
   refine af (dx (eL i) (aT aJ)) ?_
   refine aa hx ?_
   refine aa (Ve (hG _ _ rfl) d.1[i].2.1 (hs.r _ (List.getElem_mem aJ))) ?_
   refine af (dx (eL i) (aT aJ)) ?_
   refine aa hx ?_
   rw [aH aJ (show d.1.length≤1073741824 by omega)]
   exact ih (i+1) (d.1.set i d.1[i]) (by omega) (PJ hx)
 exact loop d.1.length 0 d.1 (by omega) rfl
def o4(w:aE)(v:ai):Int×aE :=
 if (aV w.1 v.1).isSome=true then (12,w) else if 24≤w.1.length then (3,w) else (0,(dW v w.1,w.2))
def xn(w:aE)(x:ID):Int×aE:=match aV w.1 x with
 | none=>(13,w)
 | some v=>if 0<v.2.1.length then (14,w) else (0,(dE w.1 x,w.2))
theorem Sc(hG:HG G)(w:aE)(v:ai)(hs:bV w.1)(hl:w.1.length≤50000000):FX G 90 F7 ((v,()),(w,()))=some (((o4 w v).1,()),((o4 w v).2,())):=by
 refine aw (fn:=Tryz.f90) (hG _ _ rfl) (by kernel_rfl) (by kernel_rfl) ((adB _ _ _).trans ?_)
 refine aa (oZ hG w v.1 hs hl) ?_
 unfold o4
 cases hf:(aV w.1 v.1).isSome
 ·rw [if_neg (by simp)]
  refine ag ((fh hs).trans hf) ?_
  by_cases h2:24≤w.1.length
  ·rw [if_pos h2]
   exact af (decide_eq_true (show ((w.1.length:Nat):Int)≥24 by omega)) rfl
  ·rw [if_neg h2]
   refine ag (decide_eq_false (show ¬((w.1.length:Nat):Int)≥24 by omega)) ?_
   have hc:=EG w.1 v.1
   have lI:pI w.1 ((bD w.1 v.1:Nat):Int) [v]=true:=by
    unfold pI
    rw [decide_eq_true (show (0:Int)≤((bD w.1 v.1:Nat):Int) by omega),decide_eq_true (show ((bD w.1 v.1:Nat):Int)≤((w.1.length:Nat):Int) by omega)]
    rw [fits (by simp;omega)];rfl
   refine af lI ?_
   have e:fE w.1 ((bD w.1 v.1:Nat):Int) [v]=dW v w.1:=by
    rw [GY v hs (by simpa using hf)]
    unfold fE;simp
   exact congrArg (fun l:List ai=>some (((0:Int),()),((l,w.2),()))) e
 ·rw [if_pos rfl]
  exact af ((fh hs).trans hf) rfl
theorem Zb(hG:HG G)(w:aE)(o:bY)(hs:bV w.1)(hl:w.1.length≤50000000):FX G 91 Oa ((o,()),(w,()))=some (((xn w (aY o)).1,()),((xn w (aY o)).2,())):=by
 refine aw (fn:=Tryz.f91) (hG _ _ rfl) (by kernel_rfl) (by kernel_rfl) ((adC _ _ _).trans ?_)
 refine aa (oZ hG w (aY o) hs hl) ?_
 unfold xn
 have hth:=fh (x:=aY o) hs
 have j9:=rf (x:=aY o) hs
 cases hf:aV w.1 (aY o) with
 | none =>
  rw [hf] at hth
  refine af (show (!(decide ((w.1[bD w.1 (aY o)]?).map (·.1)=some (aY o))))=true by rw [hth];rfl) rfl
 | some v =>
  rw [hf] at hth j9
  refine ag (show (!(decide ((w.1[bD w.1 (aY o)]?).map (·.1)=some (aY o))))=false by rw [hth];rfl) ?_
  have hx:w.1[bD w.1 (aY o)]? = some v:=by
   cases hg:w.1[bD w.1 (aY o)]? with
   | none=>rw [hg] at j9;simp [Option.filter] at j9
   | some u =>
    rw [hg] at j9
    simp only [Option.filter] at j9
    split at j9
    ·exact j9.symm
    ·cases j9
  have aJ:=(List.getElem?_eq_some_iff.1 hx).1
  refine af (dx (eL _) (aT aJ)) ?_
  refine aa hx ?_
  show _=some ((((if 0<v.2.1.length then (14,w) else (0,(dE w.1 (aY o),w.2)):Int×aE).1,()),((if 0<v.2.1.length then (14,w) else (0,(dE w.1 (aY o),w.2)):Int×aE).2,())):(Int×Unit)×(aE×Unit))
  by_cases h2:0<v.2.1.length
  ·rw [if_pos h2]
   exact af (decide_eq_true (show ((v.2.1.length:Nat):Int) > 0 by omega)) rfl
  ·rw [if_neg h2]
   refine ag (decide_eq_false (show ¬((v.2.1.length:Nat):Int) > 0 by omega)) ?_
   have hw:IntKind.wrap .i64 (((bD w.1 (aY o):Nat):Int)+1)=((bD w.1 (aY o)+1:Nat):Int):=aH aJ (by omega)
   have lI:jc w.1 ((bD w.1 (aY o):Nat):Int) (IntKind.wrap .i64 (((bD w.1 (aY o):Nat):Int)+1))=true:=by
    rw [hw]
    unfold jc
    rw [decide_eq_true (show (0:Int)≤((bD w.1 (aY o):Nat):Int) by omega),decide_eq_true (show ((bD w.1 (aY o):Nat):Int)<((bD w.1 (aY o)+1:Nat):Int) by omega),decide_eq_true (show ((bD w.1 (aY o)+1:Nat):Int)≤((w.1.length:Nat):Int) by omega),fits (by omega)];rfl
   refine af lI ?_
   have e:da w.1 ((bD w.1 (aY o):Nat):Int) (IntKind.wrap .i64 (((bD w.1 (aY o):Nat):Int)+1))=dE w.1 (aY o):=by
    rw [hw,wb hs (by rw [hf];rfl)]
    unfold da;simp only [Int.toNat_natCast]
   exact congrArg (fun l:List ai=>some (((0:Int),()),((l,w.2),()))) e
def zW:aE:=([],([],([],())))
def aI(s:StateT):aE:=(s.1.1,(s.1.2,(s.2,())))
def Kq(w:aE):StateT:=((w.1,w.2.1),w.2.2.1)
def gi(e:Int)(w:aE):StateT×(Int×Unit):=if e≠0 then (zS,(e,())) else (Kq w,(0,()))
theorem Zd(hG:HG G)(s:StateT)(o:bY)(hs:Sm s.1)(hg:s.2.length≤50000000){e:Int}{w:aE}(h:FX G 66 xG ((o,()),(aI s,()))=some ((e,()),(w,()))) :
  FX G 44 FZ ((s,[o],()),())=some (gi e w,()):=by
 refine aw (fn:=Tryz.f44) (hG _ _ rfl) (by kernel_rfl) (by kernel_rfl) ((acQ _ _ _).trans ?_)
 refine aa (aer hG s.1 hs) ?_
 refine aa (Za (hG _ _ rfl) s.2 hg) ?_
 refine ar (j:=0) (by kernel_rfl) ((Ov _ _ _).trans ?_)
 refine af rfl (aa (a:=o) rfl ?_)
 refine aa h ?_
 unfold gi
 by_cases he:e=0
 ·rw [if_neg (by simp [he])]
  refine ag (show (e != 0)=false by simp [he]) ?_
  refine ar (j:=0) (by kernel_rfl) ((Ov _ _ _).trans ?_)
  exact ag rfl rfl
 ·rw [if_pos he]
  exact af (show (e != 0)=true by simp [he]) rfl
def LY(k:Int)(x:ID):bY:=(k,(x,(zI,(zI,(zC,(zC,(false,(e0,0))))))))
def C1(x:ID):Int:=if cz x=true then 0 else 1
theorem Vf(hG:HG G)(x:ID):FX G 65 F3 ((LY 1 x,()),())=some ((LY 1 x,(C1 x,())),()):=by
 refine aw (fn:=Tryz.f65) (hG _ _ rfl) (by kernel_rfl) (by kernel_rfl) ((UL _ _ _).trans ?_)
 refine aa (GX (hG _ _ rfl) x) ?_
 refine af rfl (af rfl ?_)
 unfold C1
 cases cz x<;>rfl
theorem Vg(hG:HG G)(x:ID):FX G 65 F3 ((LY 2 x,()),())=some ((LY 2 x,(C1 x,())),()):=by
 refine aw (fn:=Tryz.f65) (hG _ _ rfl) (by kernel_rfl) (by kernel_rfl) ((UL _ _ _).trans ?_)
 refine aa (GX (hG _ _ rfl) x) ?_
 refine ag rfl (af rfl (af rfl ?_))
 unfold C1
 cases cz x<;>rfl
theorem Kr(hG:HG G)(o:bY){b:Int}(h:FX G 65 F3 ((o,()),())=some ((o,(b,())),())):FX G 43 B6 ((o,()),())=some ((b,()),()):=by
 refine aw (fn:=Tryz.f43) (hG _ _ rfl) (by kernel_rfl) (by kernel_rfl) ((XC _ _ _).trans ?_)
 refine aa h ?_
 exact aN (b:=true) ((AW o o).2 rfl) rfl
theorem Ks(hG:HG G)(s:StateT)(o:bY){b:Int}(h:FX G 43 B6 ((o,()),())=some ((b,()),()))(hs:Sm s.1)(hg:s.2.length≤50000000){e:Int}{w:aE}
  (h2:b=0→FX G 66 xG ((o,()),(aI s,()))=some ((e,()),(w,()))):FX G 14 Ea ((s,o,()),())=some ((if b≠0 then (zS,(b,())) else gi e w),()):=by
 refine aw (fn:=Tryz.f14) (hG _ _ rfl) (by kernel_rfl) (by kernel_rfl) ((XB _ _ _).trans ?_)
 refine aa h ?_
 by_cases hb:b=0
 ·rw [if_neg (by simp [hb])]
  refine ag (show (b != 0)=false by simp [hb]) ?_
  exact aa (Zd hG s o hs hg (h2 hb)) rfl
 ·rw [if_pos hb]
  exact af (show (b != 0)=true by simp [hb]) rfl
theorem Vh(hG:HG G)(s:StateT)(x:ID)(hs:Sm s.1)(hg:s.2.length≤50000000)(hv:bV s.1.1) :
  FX G 14 Ea ((s,LY 2 x,()),())=some ((if C1 x≠0 then (zS,(C1 x,())) else gi (xn (aI s) x).1 (xn (aI s) x).2),()):=by
 refine Ks hG s (LY 2 x) (Kr hG _ (Vg hG x)) hs hg (fun _ => ?_)
 refine aw (fn:=Tryz.f66) (hG _ _ rfl) (by kernel_rfl) (by kernel_rfl) ((El _ _ _).trans ?_)
 refine ag rfl (af rfl ?_)
 exact aa (Zb hG (aI s) (LY 2 x) hv hs.v) rfl
theorem Sd:Sm zS.1:=⟨by simp [zS],by simp [zS],by simp [zS]⟩
theorem Vi(hG:HG G)(o:bY)(h:FX G 43 B6 ((o,()),())=some (((0:Int),()),())):FX G 58 IK (([o],()),())=some (((0:Int),()),()):=by
 refine aw (fn:=Tryz.f58) (hG _ _ rfl) (by kernel_rfl) (by kernel_rfl) ((ac4 _ _ _).trans ?_)
 refine ag rfl (ag rfl ?_)
 refine ar (j:=0) (by kernel_rfl) ((OL _ _ _).trans ?_)
 refine af rfl (aa (a:=o) rfl ?_)
 refine aa h ?_
 refine ag rfl ?_
 refine ar (j:=0) (by kernel_rfl) ((OL _ _ _).trans ?_)
 exact ag rfl rfl
def TN:StateT:=(([((1,1),([],(e0,0)))],[]),[])
theorem aes(hG:HG G):FX G 12 NZ ((),())=some ((true,()),()):=by
 refine aw (fn:=Tryz.f12) (hG _ _ rfl) (by kernel_rfl) (by kernel_rfl) ((acs _ _ _).trans ?_)
 have h33:FX G 33 N3 ((),())=some ((zS,()),()):=aw (fn:=Tryz.f33) (hG _ _ rfl) (by kernel_rfl) (by kernel_rfl) (acL _ _ _)
 have h42:FX G 42 N4 (((1:Int),()),())=some (([LY 1 (1,1)],()),()):=aw (fn:=Tryz.f42) (hG _ _ rfl) (by kernel_rfl) (by kernel_rfl) (acP _ _ _)
 refine aa h33 ?_
 refine aa h42 ?_
 have h43:FX G 43 B6 ((LY 1 (1,1),()),())=some (((0:Int),()),()):=Kr hG _ (Vf hG (1,1))
 have h66:FX G 66 xG ((LY 1 (1,1),()),(aI zS,()))=some (((0:Int),()),(aI TN,())):=by
  refine aw (fn:=Tryz.f66) (hG _ _ rfl) (by kernel_rfl) (by kernel_rfl) ((El _ _ _).trans ?_)
  refine af rfl ?_
  exact aa (Sc hG (aI zS) ((1,1),([],(e0,0))) List.Pairwise.nil (by simp [aI,zS])) rfl
 have h30:FX G 30 N2 ((zS,[LY 1 (1,1)],()),())=some ((TN,((0:Int),())),()):=by
  refine aw (fn:=Tryz.f30) (hG _ _ rfl) (by kernel_rfl) (by kernel_rfl) ((acI _ _ _).trans ?_)
  refine aa (Vi hG (LY 1 (1,1)) h43) ?_
  refine ag rfl ?_
  exact aa (Zd hG zS (LY 1 (1,1)) Sd (by simp [zS]) h66) rfl
 refine aa h30 ?_
 have PC:Sm TN.1:=⟨by simp [TN],by simp [TN],by simp [TN]⟩
 refine aa (Vh hG TN (1,1) PC (by simp [TN]) (List.pairwise_singleton _ _)) ?_
 rfl
end Go.Vs
namespace Go.Vs
open Go.Proofs
theorem bV.map{l:List ai}(h:bV l){f:ai→ai}(hf:∀v,(f v).1=v.1):bV (l.map f):=by
 unfold bV at h ⊢
 rw [List.pairwise_map]
 exact h.imp fun {a b} r9=>by rw [hf,hf];exact r9
theorem nu{x:ID}{f:ai→ai}(hf:∀v,(f v).1=v.1):∀(l:List ai),aV (l.map f) x=(aV l x).map f
 | []=>rfl
 | w::r=>by
  unfold aV
  rw [List.map_cons,List.find?_cons,List.find?_cons,hf]
  have:=nu (x:=x) hf r
  unfold aV at this
  cases decide (w.1=x) with
  | true=>rfl
  | false=>exact this
theorem qu(x:ID)(l:List ae)(w:ai):(q8 x l w).1=w.1:=by unfold q8;split<;>rfl
theorem Kt(o:bY)(w:ai):(iD o w).1=w.1:=by unfold iD;split<;>(try split)<;>rfl
structure Iv(d:aj):Prop where
 s:bV d.1
 n:d.1.length≤24
theorem Iv.zero:Iv zS.1:=⟨List.Pairwise.nil,by simp [zS]⟩
theorem Iv.b6{d:aj}(h:Iv d)(x:ID)(l:List ae):Iv (b6 d x l):=⟨h.s.map (qu x l),by unfold Vs.b6;simp;exact h.n⟩
theorem Iv.bw{d:aj}(h:Iv d)(v e:ID):Iv (bw d v e):=⟨oH h.s,Nat.le_trans (List.length_filter_le _ _) h.n⟩
theorem Iv.one{s:StateT}(h:Iv s.1)(o:bY):Iv (rF s o).1.1:=by
 unfold rF
 split;· exact Iv.zero
 split
 ·unfold sj
  split;· exact Iv.zero
  split;· exact Iv.zero
  rename_i h1 h2
  exact ⟨nt _ h.s (by simpa [bm] using h1),by rw [iz];omega⟩
 split
 ·unfold xm
  split
  ·exact Iv.zero
  ·split
   ·exact Iv.zero
   ·exact h.bw _ _
 split
 ·unfold qt
  split;· exact Iv.zero
  split;· exact Iv.zero
  split;· exact Iv.zero
  split;· exact Iv.zero
  split;· exact Iv.zero
  have h1:Iv (s.1.1,dn (aY o,(e0,0)) s.1.2):=⟨h.s,h.n⟩
  exact (h1.b6 _ _).b6 _ _
 split
 ·unfold EF
  split;· exact Iv.zero
  exact ((h.b6 _ _).b6 _ _).bw _ _
 split
 ·unfold lD
  split;· exact Iv.zero
  split;· exact Iv.zero
  split;· exact Iv.zero
  split;· exact Iv.zero
  split;· exact Iv.zero
  rename_i h1 h2 h3 h4 h5
  have h6:aV s.1.1 (eE o)=none:=by simpa [bm] using h2
  have h7:aV (aF s.1 (HS o) (au (E0 o))).1 (eE o)=none:=by
   unfold aF Vs.b6
   rw [nu (qu _ _),h6];rfl
  refine ⟨nt _ (h.b6 _ _).s h7,?_⟩
  unfold PD
  rw [iz]
  have:(aF s.1 (HS o) (au (E0 o))).1.length=s.1.1.length:=by unfold aF Vs.b6;simp
  omega
 split
 ·unfold kG
  have key:∀a b:ae,Iv (I4 s o a b):=fun a b=>((h.bw _ _).b6 _ _).bw _ _
  split
  ·exact Iv.zero
  ·split
   ·unfold jN
    split;· exact Iv.zero
    split;· exact key _ _
    split;· exact key _ _
    exact Iv.zero
   ·exact Iv.zero
 ·unfold vZ
  split
  ·exact ⟨h.s.map (Kt o),by simp;exact h.n⟩
  ·exact Iv.zero
theorem Iv.go:∀(l:List bY) {s:StateT},Iv s.1→Iv (TJ l s).1.1
 | [],s,h=>h
 | o::r,s,h=>by
  unfold TJ
  split
  ·exact Iv.zero
  ·exact Iv.go r (h.one o)
theorem Iv.try{s:StateT}(h:Iv s.1)(l:List bY):Iv (GW s l).1:=by
 unfold GW
 split
 ·exact h
 ·unfold v7
  split
  ·exact Iv.zero
  ·exact Iv.go l h
theorem Iv.reach:∀(m:Nat) (l:List (List bY)) {s:StateT},Iv s.1→Iv (lE m l s).1
 | 0,_,s,h=>by simpa [lE] using h
 | m+1,[],s,h=>h
 | m+1,l::r,s,h=>by rw [lE];exact Iv.reach m r (h.try _)
theorem Iv.Kp(l:List (List bY)):Iv (AX l).1:=Iv.reach 30 l Iv.zero
end Go.Vs
