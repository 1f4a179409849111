/- What the program computes at vertices, written plainly. -/
import Derived.Test.YtpldhjjpeldkaaaGreatRefB
set_option linter.unusedVariables false
set_option linter.unusedSimpArgs false
namespace Go.Vs
open Go.Proofs
variable {G:(f:FuncId)→(g:aL)→Option (g.A→Option g.B)}
theorem Hd(hG:G 86 qo=none)(x:ID):FX G 86 qo ((x,()),())=some ((cK x,()),()):=by
 refine aC (fn:=Tryz.f86) hG (by kernel_rfl) (by kernel_rfl) ((aea _ _ _).trans ?_)
 obtain ⟨a,b⟩:=x
 show (cond (decide (a≥1)) (cond (decide (a≤8)) (cond (decide (b≥1)) (some ((decide (b≤1048576),()),())) (some ((false,()),()))) (some ((false,()),()))) (some ((false,()),())):Option ((Bool×Unit)×Unit))=some ((cK (a,b),()),())
 unfold cK
 simp only [cond_eq_ite]
 by_cases h1:(1:Int)≤a<;>by_cases h2:a≤8<;>by_cases h3:(1:Int)≤b<;>simp [h1,h2,h3]
theorem T4(hG:G 159 AF=none)(n:Int):FX G 159 AF ((n,()),())=some ((false,()),()):=by
 refine aC (fn:=Tryz.f159) hG (by kernel_rfl) (by kernel_rfl) ((Y5 _ _ _).trans ?_)
 exact congrArg (fun b:Bool=>some ((b,()),())) (show (n != n)=false by simp)
def Jk(a b:Int):Int:=if a<b then -1 else if a > b then 1 else 0
theorem PL(hG:HG G)(a b:Int):FX G 145 AD ((a,b,()),())=some ((Jk a b,()),()):=by
 refine aC (fn:=Tryz.f145) (hG _ _ rfl) (by kernel_rfl) (by kernel_rfl) ((YZ _ _ _).trans ?_)
 refine aa (T4 (hG _ _ rfl) a) ?_
 refine aa (T4 (hG _ _ rfl) b) ?_
 refine ag rfl (ag rfl ?_)
 unfold Jk
 by_cases h1:a<b
 ·rw [if_pos h1];exact af (decide_eq_true h1) rfl
 rw [if_neg h1]
 refine ag (decide_eq_false h1) ?_
 by_cases h2:a > b
 ·rw [if_pos h2];exact af (decide_eq_true h2) rfl
 rw [if_neg h2];exact ag (decide_eq_false h2) rfl
theorem T5(hG:G 144 uu=none)(a b:Int):FX G 144 uu (([a,b],()),())=some ((if a≠0 then a else b,()),()):=by
 refine aC (fn:=Tryz.f144) hG (by kernel_rfl) (by kernel_rfl) ((YY _ _ _).trans ?_)
 by_cases ha:a=0
 ·rw [if_neg (by simp [ha])]
  refine aw (j:=0) (by kernel_rfl) ((yM _ _ _).trans ?_)
  refine af rfl (aa (a:=a) rfl ?_)
  refine ag (show (a != 0)=false by simp [ha]) ?_
  refine aw (j:=0) (by kernel_rfl) ((yM _ _ _).trans ?_)
  refine af rfl (aa (a:=b) rfl ?_)
  by_cases hb:b=0
  ·refine ag (show (b != 0)=false by simp [hb]) ?_
   refine aw (j:=0) (by kernel_rfl) ((yM _ _ _).trans ?_)
   rw [hb]
   exact ag rfl rfl
  ·exact af (show (b != 0)=true by simp [hb]) rfl
 ·rw [if_pos ha]
  refine aw (j:=0) (by kernel_rfl) ((yM _ _ _).trans ?_)
  refine af rfl (aa (a:=a) rfl ?_)
  exact af (show (a != 0)=true by simp [ha]) rfl
theorem PM(hG:HG G)(a b:ID):FX G 127 AB ((a,b,()),())=some ((qy a b,()),()):=by
 refine aC (fn:=Tryz.f127) (hG _ _ rfl) (by kernel_rfl) (by kernel_rfl) ((YM _ _ _).trans ?_)
 unfold qy
 by_cases h:a=b
 ·rw [if_pos h];exact af ((wq a b).trans (decide_eq_true h)) rfl
 rw [if_neg h]
 refine ag ((wq a b).trans (decide_eq_false h)) ?_
 refine aa (PL hG a.1 b.1) ?_
 refine aa (PL hG a.2 b.2) ?_
 refine aa (T5 (hG _ _ rfl) (Jk a.1 b.1) (Jk a.2 b.2)) ?_
 refine congrArg (fun n:Int=>some ((n,()),())) ?_
 obtain ⟨a1,a2⟩:=a
 obtain ⟨b1,b2⟩:=b
 unfold Jk eV
 simp only [Prod.mk.injEq,not_and] at h
 simp only
 by_cases h1:a1<b1
 ·simp [h1]
 ·by_cases h2:a1 > b1
  ·have:¬a1=b1:=by omega
   simp [h1,h2,this]
  ·have h3:a1=b1:=by omega
   have h4:=h h3
   subst h3
   by_cases h5:a2<b2
   ·simp [h5]
   ·have:a2 > b2:=by omega
    simp [h5,this]
theorem T6(hG:HG G)(v:aj)(x:ID):FX G 126 C7 ((v,x,()),())=some ((qy v.1 x,()),()):=by
 refine aC (fn:=Tryz.f126) (hG _ _ rfl) (by kernel_rfl) (by kernel_rfl) ((YL _ _ _).trans ?_)
 exact aa (PM hG v.1 x) rfl
theorem Jl{i j:Nat}(hi:i≤1000000000)(hj:j≤1000000000):IntKind.wrap .i64 (kA .u64 (IntKind.wrap .u64 (IntKind.wrap .i64 ((i:Int)+(j:Int)))) (1:Int))=(((i+j) / 2:Nat):Int):=by
 have e1:IntKind.wrap .i64 ((i:Int)+(j:Int))=((i+j:Nat):Int):=by rw [wrap_small (by omega) (by omega)];rfl
 have e2:IntKind.wrap .u64 ((i+j:Nat):Int)=((i+j:Nat):Int):=by
  unfold IntKind.wrap;simp [IntKind.bits,IntKind.signed];omega
 have e3:kA .u64 ((i+j:Nat):Int) 1=(((i+j) / 2:Nat):Int):=by
  unfold kA
  have:(min (Int.toNat 1) IntKind.u64.bits)=1:=by decide
  rw [this,Int.fdiv_eq_ediv_of_nonneg _ (by omega)]
  rfl
 rw [e1,e2,e3,wrap_small (by omega) (by omega)]
def bz(l:List aj)(x:ID):Nat:=l.countP fun v=>eV v.1 x
def bT(l:List aj):Prop:=l.Pairwise fun a b=>eV a.1 b.1=true
theorem gk{a b c:ID}(h:eV a b=true)(k:eV b c=true):eV a c=true:=by
 simp [eV] at *;omega
theorem kN{a b:ID}(h:eV a b=true):eV b a=false:=by
 simp [eV] at *;omega
theorem kO{a b:ID}(h:eV a b=false)(k:a≠b):eV b a=true:=by
 obtain ⟨a1,a2⟩:=a;obtain ⟨b1,b2⟩:=b
 simp [eV] at *;omega
theorem EW(l:List aj)(x:ID):bz l x≤l.length:=List.countP_le_length
theorem rm{l:List aj}{x:ID}(h:∀v∈l,eV v.1 x=false):bz l x=0:=by
 unfold bz;rw [List.countP_eq_zero];intro v hv;simp [h v hv]
theorem wA{x:ID}:∀{l:List aj},bT l→∀(k:Nat) (v:aj),l[k]? = some v→(eV v.1 x=true↔k<bz l x)
 | [],_,k,v,h=>by simp at h
 | w::r,hs,k,v,h=>by
  have hw:∀{u:aj},u∈r→eV w.1 u.1=true:=fun {u} hu=>List.rel_of_pairwise_cons hs hu
  have hr:bT r:=hs.of_cons
  by_cases aE:eV w.1 x=true
  ·have e:bz (w::r) x=bz r x+1:=by unfold bz;rw [List.countP_cons_of_pos (by simpa using aE)]
   cases k with
   | zero=>simp at h;subst h;simp [aE,e]
   | succ k=>have:=wA (x:=x) hr k v (by simpa using h);rw [this,e];omega
  ·have hn:∀u∈w::r,eV u.1 x=false:=fun u hu=>by
    rcases List.mem_cons.1 hu with rfl | hu
    ·simpa using aE
    ·rw [Bool.eq_false_iff];intro h2;exact aE (gk (hw hu) h2)
   rw [rm hn,hn v (List.mem_of_getElem? h)]
   simp
theorem PN(hG:HG G)(l:List aj)(x:ID)(hs:bT l)(hl:l.length≤50000000):∀(n i j:Nat),j - i≤n→i≤bz l x→bz l x≤j→j≤l.length →
  LX G 127125 iW Tryz.f125 ig (aX Tryz.prog 125 0) ((l,(((l.length:Nat):Int),((i:Int),((j:Int),())))),(((x,()),()),()))=some (((((bz l x:Nat):Int),(decide ((l[bz l x]?).map (·.1)=some x),())):Int×(Bool×Unit)),()):=by
 have sN:=EW l x
 have fin:∀(i j:Nat),¬(i<j)→i≤bz l x→bz l x≤j→LX G 127125 iW Tryz.f125 ig (aX Tryz.prog 125 0) ((l,(((l.length:Nat):Int),((i:Int),((j:Int),())))),(((x,()),()),()))=some (((((bz l x:Nat):Int),(decide ((l[bz l x]?).map (·.1)=some x),())):Int×(Bool×Unit)),()):=fun i j yu h1 h2=>by
  have hi:i=bz l x:=by omega
  subst hi
  refine aw (j:=0) (by kernel_rfl) ((A3 _ _ _).trans ?_)
  refine ag (decide_eq_false (show ¬(((bz l x:Nat):Int)<(j:Int)) by omega)) ?_
  by_cases hc:bz l x<l.length
  ·have hx:l[bz l x]? = some l[bz l x]:=List.getElem?_eq_getElem hc
   refine af (ba hc) ?_
   refine aa (aD hx) ?_
   refine aa (T6 hG l[bz l x] x) ?_
   refine congrArg (fun b:Bool=>some ((((bz l x:Nat):Int),(b,())),())) ?_
   rw [hx]
   unfold qy
   by_cases he:l[bz l x].1=x
   ·simp [he]
   ·simp [he];split<;>simp
  ·refine ag (decide_eq_false (show ¬(((bz l x:Nat):Int)<((l.length:Nat):Int)) by omega)) ?_
   refine congrArg (fun b:Bool=>some ((((bz l x:Nat):Int),(b,())),())) ?_
   rw [List.getElem?_eq_none (by omega)];simp
 intro n
 induction n with
 | zero=>intro i j yu h1 h2 h3;exact fin i j (by omega) h1 h2
 | succ n ih =>
  intro i j yu h1 h2 h3
  by_cases aE:i<j
  case neg=>exact fin i j aE h1 h2
  refine aw (j:=0) (by kernel_rfl) ((A3 _ _ _).trans ?_)
  refine af (decide_eq_true (show ((i:Int)<(j:Int)) by omega)) ?_
  refine ag rfl ?_
  have hm:=Jl (i:=i) (j:=j) (by omega) (by omega)
  have hh:(i+j) / 2<l.length:=by omega
  have hx:l[(i+j) / 2]? = some l[(i+j) / 2]:=List.getElem?_eq_getElem hh
  have ns:=wA (x:=x) hs ((i+j) / 2) _ hx
  refine aa (show bh l (IntKind.wrap .i64 (kA .u64 (IntKind.wrap .u64 (IntKind.wrap .i64 ((i:Int)+(j:Int)))) (1:Int)))=some l[(i+j) / 2] by rw [hm];exact aD hx) ?_
  refine aa (T6 hG l[(i+j) / 2] x) ?_
  by_cases ho:eV l[(i+j) / 2].1 x=true
  ·refine af (decide_eq_true ((rl _ _).2 ho)) ?_
   have hc:=ns.1 ho
   have hw:IntKind.wrap .i64 (IntKind.wrap .i64 (kA .u64 (IntKind.wrap .u64 (IntKind.wrap .i64 ((i:Int)+(j:Int)))) (1:Int))+1)=(((i+j) / 2+1:Nat):Int):=by
    rw [hm];exact aO hh (by omega)
   have:=ih ((i+j) / 2+1) j (by omega) (by omega) h2 h3
   rw [←hw] at this
   exact this
  ·refine ag (decide_eq_false (fun h=>ho ((rl _ _).1 h))) ?_
   have hc:¬(i+j) / 2<bz l x:=fun h=>ho (ns.2 h)
   have:=ih i ((i+j) / 2) (by omega) h1 (by omega) (by omega)
   rw [←hm] at this
   exact this
theorem PO(hG:HG G)(l:List aj)(x:ID)(hs:bT l)(hl:l.length≤50000000) :
  FX G 127125 iW ((l,x,()),())=some (((((bz l x:Nat):Int),(decide ((l[bz l x]?).map (·.1)=some x),())):Int×(Bool×Unit)),()):=by
 refine aC (fn:=Tryz.f125) (hG _ _ rfl) (by kernel_rfl) (by kernel_rfl) ((Ph _ _ _).trans ?_)
 exact PN hG l x hs hl l.length 0 l.length (by omega) (by omega) (EW l x) (Nat.le_refl _)
theorem pC(hG:HG G)(w:aG)(x:ID)(hs:bT w.1)(hl:w.1.length≤50000000) :
  FX G 107 py ((x,()),(w,()))=some (((((bz w.1 x:Nat):Int),(decide ((w.1[bz w.1 x]?).map (·.1)=some x),())):Int×(Bool×Unit)),(w,())):=by
 refine aC (fn:=Tryz.f107) (hG _ _ rfl) (by kernel_rfl) (by kernel_rfl) ((Yx _ _ _).trans ?_)
 exact aa (PO hG w.1 x hs hl) rfl
theorem rp{x:ID}:∀{l:List aj},bT l→aQ l x=(l[bz l x]?).filter fun v=>decide (v.1=x)
 | [],_=>rfl
 | w::r,hs=>by
  have hw:∀{u:aj},u∈r→eV w.1 u.1=true:=fun {u} hu=>List.rel_of_pairwise_cons hs hu
  have hr:bT r:=hs.of_cons
  by_cases aE:eV w.1 x=true
  ·have e:bz (w::r) x=bz r x+1:=by unfold bz;rw [List.countP_cons_of_pos (by simpa using aE)]
   have bc:¬w.1=x:=fun e=>by rw [e,b7] at aE;cases aE
   rw [e]
   simp only [aQ,List.find?_cons,bc,decide_false,List.getElem?_cons_succ]
   exact rp hr
  ·have hn:∀u∈w::r,eV u.1 x=false:=fun u hu=>by
    rcases List.mem_cons.1 hu with rfl | hu
    ·simpa using aE
    ·rw [Bool.eq_false_iff];intro h2;exact aE (gk (hw hu) h2)
   rw [rm hn]
   by_cases he:w.1=x
   ·simp [aQ,List.find?_cons,he,Option.filter]
   ·have El:eV x w.1=true:=kO (by simpa using aE) he
    have:aQ r x=none:=by
     unfold aQ;rw [List.find?_eq_none];intro u hu h2
     have h3:u.1=x:=by simpa using h2
     have h4:=hw hu
     rw [h3] at h4
     have:=kN h4
     rw [El] at this;cases this
    rw [show aQ (w::r) x=aQ r x by simp only [aQ,List.find?_cons,he,decide_false],this]
    simp [he,Option.filter]
theorem fj{l:List aj}{x:ID}(hs:bT l):decide ((l[bz l x]?).map (·.1)=some x)=(aQ l x).isSome:=by
 rw [rp hs]
 cases h:l[bz l x]? with
 | none=>simp
 | some v=>by_cases he:v.1=x<;>simp [he,Option.filter]
theorem He(v:aj):∀{l:List aj},bT l→aQ l v.1=none→c7 v l=l.take (bz l v.1)++(v::l.drop (bz l v.1))
 | [],_,_=>rfl
 | w::r,hs,hf=>by
  have hw:∀{u:aj},u∈r→eV w.1 u.1=true:=fun {u} hu=>List.rel_of_pairwise_cons hs hu
  have hr:bT r:=hs.of_cons
  have bc:¬w.1=v.1:=fun e=>by simp [aQ,e] at hf
  have B2:aQ r v.1=none:=by simpa [aQ,List.find?_cons,bc] using hf
  by_cases aE:eV w.1 v.1=true
  ·have e:bz (w::r) v.1=bz r v.1+1:=by unfold bz;rw [List.countP_cons_of_pos (by simpa using aE)]
   have TD:eV v.1 w.1=false:=kN aE
   rw [e,c7,if_neg (by simp [TD]),He v hr B2]
   rfl
  ·have hn:∀u∈w::r,eV u.1 v.1=false:=fun u hu=>by
    rcases List.mem_cons.1 hu with rfl | hu
    ·simpa using aE
    ·rw [Bool.eq_false_iff];intro h2;exact aE (gk (hw hu) h2)
   have El:eV v.1 w.1=true:=kO (by simpa using aE) bc
   rw [rm hn,c7,if_pos El];rfl
theorem wB{x:ID}:∀{l:List aj},bT l→(aQ l x).isSome=true→dp l x=l.take (bz l x)++l.drop (bz l x+1)
 | [],_,hf=>by simp [aQ] at hf
 | w::r,hs,hf=>by
  have hw:∀{u:aj},u∈r→eV w.1 u.1=true:=fun {u} hu=>List.rel_of_pairwise_cons hs hu
  have hr:bT r:=hs.of_cons
  by_cases he:w.1=x
  ·have hn:∀u∈w::r,eV u.1 x=false:=fun u hu=>by
    rcases List.mem_cons.1 hu with rfl | hu
    ·rw [he,b7]
    ·rw [←he];exact kN (hw hu)
   have eg:dp r x=r:=by
    unfold dp;rw [List.filter_eq_self];intro u hu
    have h4:=hw hu
    simp;intro e2;rw [he,e2,b7] at h4;cases h4
   rw [rm hn]
   unfold dp
   rw [List.filter_cons_of_neg (by simp [he])]
   exact eg
  ·have B2:(aQ r x).isSome=true:=by simpa [aQ,List.find?_cons,he] using hf
   have aE:eV w.1 x=true:=by
    obtain ⟨u,hu⟩:=Option.isSome_iff_exists.1 B2
    have h1:=List.mem_of_find?_eq_some hu
    have h2:u.1=x:=by simpa using List.find?_some hu
    rw [←h2];exact hw h1
   have e:bz (w::r) x=bz r x+1:=by unfold bz;rw [List.countP_cons_of_pos (by simpa using aE)]
   rw [e]
   have:=wB hr B2
   simp [dp,List.filter_cons,he] at this ⊢
   exact this
theorem nK(v:aj):∀{l:List aj},bT l→aQ l v.1=none→bT (c7 v l)
 | [],_,_=>List.pairwise_singleton _ _
 | w::r,hs,hf=>by
  have hw:∀{u:aj},u∈r→eV w.1 u.1=true:=fun {u} hu=>List.rel_of_pairwise_cons hs hu
  have hr:bT r:=hs.of_cons
  have bc:¬w.1=v.1:=fun e=>by simp [aQ,e] at hf
  have B2:aQ r v.1=none:=by simpa [aQ,List.find?_cons,bc] using hf
  unfold c7
  split
  ·rename_i h
   refine List.Pairwise.cons (fun u hu => ?_) hs
   rcases List.mem_cons.1 hu with rfl | hu
   ·exact h
   ·exact gk h (hw hu)
  ·rename_i h
   have aE:eV w.1 v.1=true:=kO (by simpa using h) (fun e=>bc e.symm)
   refine List.Pairwise.cons (fun u hu => ?_) (nK v hr B2)
   rcases lF.1 hu with rfl | hu
   ·exact aE
   ·exact hw hu
theorem lH{l:List aj}{x:ID}(hs:bT l):bT (dp l x):=hs.filter _
end Go.Vs
namespace Go.Vs
open Go.Proofs
variable {G:(f:FuncId)→(g:aL)→Option (g.A→Option g.B)}
theorem aeU(hG:G 79 Me=none)(l:List aj)(hl:l.length≤50000000):FX G 79 Me ((l,()),())=some ((l,()),()):=by
 refine aC (fn:=Tryz.f79) hG (by kernel_rfl) (by kernel_rfl) ((ad3 _ _ _).trans ?_)
 cases l with
 | nil=>exact af rfl (mi (by omega) fun j hj=>by cases j<;>rfl)
 | cons x r=>exact ag rfl (af (fits (by simp at hl ⊢;omega)) rfl)
theorem aeV(hG:G 80 Mf=none)(l:List au)(hl:l.length≤50000000):FX G 80 Mf ((l,()),())=some ((l,()),()):=by
 refine aC (fn:=Tryz.f80) hG (by kernel_rfl) (by kernel_rfl) ((ad4 _ _ _).trans ?_)
 cases l with
 | nil=>exact af rfl (mi (by omega) fun j hj=>by cases j<;>rfl)
 | cons x r=>exact ag rfl (af (fits (by simp at hl ⊢;omega)) rfl)
theorem VL(hG:G 81 yi=none)(l:List ae)(hl:l.length≤50000000):FX G 81 yi ((l,()),())=some ((l,()),()):=by
 refine aC (fn:=Tryz.f81) hG (by kernel_rfl) (by kernel_rfl) ((ad5 _ _ _).trans ?_)
 cases l with
 | nil=>exact af rfl (mi (by omega) fun j hj=>by cases j<;>rfl)
 | cons x r=>exact ag rfl (af (fits (by simp at hl ⊢;omega)) rfl)
theorem Su(hG:G 61 Gn=none)(l:List aM)(hl:l.length≤50000000):FX G 61 Gn ((l,()),())=some ((l,()),()):=by
 refine aC (fn:=Tryz.f61) hG (by kernel_rfl) (by kernel_rfl) ((adW _ _ _).trans ?_)
 cases l with
 | nil=>exact af rfl (mi (by omega) fun j hj=>by cases j<;>rfl)
 | cons x r=>exact ag rfl (af (fits (by simp at hl ⊢;omega)) rfl)
theorem PQ{α:Type}{l:List α}{i:Nat}{x:α}(h:l[i]? = some x):l.set i x=l:=by
 obtain ⟨hi,he⟩:=List.getElem?_eq_some_iff.1 h
 subst he;simp
theorem VM(hG:HG G)(d:ai)(hs:Sm d):FX G 60 EB ((d,()),())=some (((d.1,(d.2,())),()),()):=by
 have hv:=hs.v;have he:=hs.e
 refine aC (fn:=Tryz.f60) (hG _ _ rfl) (by kernel_rfl) (by kernel_rfl) ((adV _ _ _).trans ?_)
 refine aa (aeU (hG _ _ rfl) d.1 (by omega)) ?_
 refine aa (aeV (hG _ _ rfl) d.2 (by omega)) ?_
 have loop:∀(n i:Nat) (out:List aj),i+n=d.1.length→out=d.1→LX G 60 EB Tryz.f60 AZ (aX Tryz.prog 60 0) ((((d.1.length:Nat):Int),((i:Int),())),(((([]:List aj),(([]:List au),())),((out,(d.2,())),())),()))=some (((d.1,(d.2,())),()),()):=by
  intro n
  induction n with
  | zero =>
   intro i out hi ho
   subst ho
   refine aw (j:=0) (by kernel_rfl) ((O2 _ _ _).trans ?_)
   exact ag (decide_eq_false (show ¬((i:Int)<((d.1.length:Nat):Int)) by omega)) rfl
  | succ n ih =>
   intro i out hi ho
   have mL:=ho
   subst ho
   refine aw (j:=0) (by kernel_rfl) ((O2 _ _ _).trans ?_)
   have aE:i<d.1.length:=by omega
   have hx:d.1[i]? = some d.1[i]:=List.getElem?_eq_getElem aE
   refine af (ba aE) ?_
   refine af (dM (jf i) (ba aE)) ?_
   refine aa hx ?_
   refine aa (VL (hG _ _ rfl) d.1[i].2.1 (hs.r _ (List.getElem_mem aE))) ?_
   refine af (dM (jf i) (ba aE)) ?_
   refine aa hx ?_
   rw [aO aE (show d.1.length≤1073741824 by omega)]
   exact ih (i+1) (d.1.set i d.1[i]) (by omega) (PQ hx)
 exact loop d.1.length 0 d.1 (by omega) rfl
def pG(w:aG)(v:aj):Int×aG :=
 if (aQ w.1 v.1).isSome=true then (12,w) else if 24≤w.1.length then (3,w) else (0,(c7 v w.1,w.2))
def xR(w:aG)(x:ID):Int×aG:=match aQ w.1 x with
 | none=>(13,w)
 | some v=>if 0<v.2.1.length then (14,w) else (0,(dp w.1 x,w.2))
theorem Sw(hG:HG G)(w:aG)(v:aj)(hs:bT w.1)(hl:w.1.length≤50000000):FX G 90 Gs ((v,()),(w,()))=some (((pG w v).1,()),((pG w v).2,())):=by
 refine aC (fn:=Tryz.f90) (hG _ _ rfl) (by kernel_rfl) (by kernel_rfl) ((aee _ _ _).trans ?_)
 refine aa (pC hG w v.1 hs hl) ?_
 unfold pG
 cases hf:(aQ w.1 v.1).isSome
 ·rw [if_neg (by simp)]
  refine ag ((fj hs).trans hf) ?_
  by_cases h2:24≤w.1.length
  ·rw [if_pos h2]
   exact af (decide_eq_true (show ((w.1.length:Nat):Int)≥24 by omega)) rfl
  ·rw [if_neg h2]
   refine ag (decide_eq_false (show ¬((w.1.length:Nat):Int)≥24 by omega)) ?_
   have hc:=EW w.1 v.1
   have lN:pX w.1 ((bz w.1 v.1:Nat):Int) [v]=true:=by
    unfold pX
    rw [decide_eq_true (show (0:Int)≤((bz w.1 v.1:Nat):Int) by omega),decide_eq_true (show ((bz w.1 v.1:Nat):Int)≤((w.1.length:Nat):Int) by omega)]
    rw [fits (by simp;omega)];rfl
   refine af lN ?_
   have e:fL w.1 ((bz w.1 v.1:Nat):Int) [v]=c7 v w.1:=by
    rw [He v hs (by simpa using hf)]
    unfold fL;simp
   exact congrArg (fun l:List aj=>some (((0:Int),()),((l,w.2),()))) e
 ·rw [if_pos rfl]
  exact af ((fj hs).trans hf) rfl
theorem ZM(hG:HG G)(w:aG)(o:bW)(hs:bT w.1)(hl:w.1.length≤50000000):FX G 91 OF ((o,()),(w,()))=some (((xR w (bB o)).1,()),((xR w (bB o)).2,())):=by
 refine aC (fn:=Tryz.f91) (hG _ _ rfl) (by kernel_rfl) (by kernel_rfl) ((aef _ _ _).trans ?_)
 refine aa (pC hG w (bB o) hs hl) ?_
 unfold xR
 have hth:=fj (x:=bB o) hs
 have kf:=rp (x:=bB o) hs
 cases hf:aQ w.1 (bB o) with
 | none =>
  rw [hf] at hth
  refine af (show (!(decide ((w.1[bz w.1 (bB o)]?).map (·.1)=some (bB o))))=true by rw [hth];rfl) rfl
 | some v =>
  rw [hf] at hth kf
  refine ag (show (!(decide ((w.1[bz w.1 (bB o)]?).map (·.1)=some (bB o))))=false by rw [hth];rfl) ?_
  have hx:w.1[bz w.1 (bB o)]? = some v:=by
   cases hg:w.1[bz w.1 (bB o)]? with
   | none=>rw [hg] at kf;simp [Option.filter] at kf
   | some u =>
    rw [hg] at kf
    simp only [Option.filter] at kf
    split at kf
    ·exact kf.symm
    ·cases kf
  have aE:=(List.getElem?_eq_some_iff.1 hx).1
  refine af (dM (jf _) (ba aE)) ?_
  refine aa hx ?_
  show _=some ((((if 0<v.2.1.length then (14,w) else (0,(dp w.1 (bB o),w.2)):Int×aG).1,()),((if 0<v.2.1.length then (14,w) else (0,(dp w.1 (bB o),w.2)):Int×aG).2,())):(Int×Unit)×(aG×Unit))
  by_cases h2:0<v.2.1.length
  ·rw [if_pos h2]
   exact af (decide_eq_true (show ((v.2.1.length:Nat):Int) > 0 by omega)) rfl
  ·rw [if_neg h2]
   refine ag (decide_eq_false (show ¬((v.2.1.length:Nat):Int) > 0 by omega)) ?_
   have hw:IntKind.wrap .i64 (((bz w.1 (bB o):Nat):Int)+1)=((bz w.1 (bB o)+1:Nat):Int):=aO aE (by omega)
   have lN:jo w.1 ((bz w.1 (bB o):Nat):Int) (IntKind.wrap .i64 (((bz w.1 (bB o):Nat):Int)+1))=true:=by
    rw [hw]
    unfold jo
    rw [decide_eq_true (show (0:Int)≤((bz w.1 (bB o):Nat):Int) by omega),decide_eq_true (show ((bz w.1 (bB o):Nat):Int)<((bz w.1 (bB o)+1:Nat):Int) by omega),decide_eq_true (show ((bz w.1 (bB o)+1:Nat):Int)≤((w.1.length:Nat):Int) by omega),fits (by omega)];rfl
   refine af lN ?_
   have e:dg w.1 ((bz w.1 (bB o):Nat):Int) (IntKind.wrap .i64 (((bz w.1 (bB o):Nat):Int)+1))=dp w.1 (bB o):=by
    rw [hw,wB hs (by rw [hf];rfl)]
    unfold dg;simp only [Int.toNat_natCast]
   exact congrArg (fun l:List aj=>some (((0:Int),()),((l,w.2),()))) e
def zW:aG:=([],([],([],())))
def aI(s:StateT):aG:=(s.1.1,(s.1.2,(s.2,())))
def yR(w:aG):StateT:=((w.1,w.2.1),w.2.2.1)
def fV(e:Int)(w:aG):StateT×(Int×Unit):=if e≠0 then (zS,(e,())) else (yR w,(0,()))
theorem ZN(hG:HG G)(s:StateT)(o:bW)(hs:Sm s.1)(hg:s.2.length≤50000000){e:Int}{w:aG}(h:FX G 66 yh ((o,()),(aI s,()))=some ((e,()),(w,()))) :
  FX G 44 Cq ((s,[o],()),())=some (fV e w,()):=by
 refine aC (fn:=Tryz.f44) (hG _ _ rfl) (by kernel_rfl) (by kernel_rfl) ((Yo _ _ _).trans ?_)
 refine aa (VM hG s.1 hs) ?_
 refine aa (Su (hG _ _ rfl) s.2 hg) ?_
 refine aw (j:=0) (by kernel_rfl) ((ED _ _ _).trans ?_)
 refine af rfl (aa (a:=o) rfl ?_)
 refine aa h ?_
 unfold fV
 by_cases he:e=0
 ·rw [if_neg (by simp [he])]
  refine ag (show (e != 0)=false by simp [he]) ?_
  refine aw (j:=0) (by kernel_rfl) ((ED _ _ _).trans ?_)
  exact ag rfl rfl
 ·rw [if_pos he]
  exact af (show (e != 0)=true by simp [he]) rfl
def Mr(k:Int)(x:ID):bW:=(k,(x,(zI,(zI,(zC,(zC,(false,(e0,0))))))))
def Dl(x:ID):Int:=if cK x=true then 0 else 1
theorem VN(hG:HG G)(x:ID):FX G 65 Gp ((Mr 1 x,()),())=some ((Mr 1 x,(Dl x,())),()):=by
 refine aC (fn:=Tryz.f65) (hG _ _ rfl) (by kernel_rfl) (by kernel_rfl) ((Vk _ _ _).trans ?_)
 refine aa (Hd (hG _ _ rfl) x) ?_
 refine af rfl (af rfl ?_)
 unfold Dl
 cases cK x<;>rfl
theorem VO(hG:HG G)(x:ID):FX G 65 Gp ((Mr 2 x,()),())=some ((Mr 2 x,(Dl x,())),()):=by
 refine aC (fn:=Tryz.f65) (hG _ _ rfl) (by kernel_rfl) (by kernel_rfl) ((Vk _ _ _).trans ?_)
 refine aa (Hd (hG _ _ rfl) x) ?_
 refine ag rfl (af rfl (af rfl ?_))
 unfold Dl
 cases cK x<;>rfl
theorem KN(hG:HG G)(o:bW){b:Int}(h:FX G 65 Gp ((o,()),())=some ((o,(b,())),())):FX G 43 Cp ((o,()),())=some ((b,()),()):=by
 refine aC (fn:=Tryz.f43) (hG _ _ rfl) (by kernel_rfl) (by kernel_rfl) ((Yn _ _ _).trans ?_)
 refine aa h ?_
 exact aJ (b:=true) ((Bg o o).2 rfl) rfl
theorem Sx(hG:HG G)(s:StateT)(o:bW){b:Int}(h:FX G 43 Cp ((o,()),())=some ((b,()),()))(hs:Sm s.1)(hg:s.2.length≤50000000){e:Int}{w:aG}
  (h2:b=0→FX G 66 yh ((o,()),(aI s,()))=some ((e,()),(w,()))):FX G 14 L9 ((s,o,()),())=some ((if b≠0 then (zS,(b,())) else fV e w),()):=by
 refine aC (fn:=Tryz.f14) (hG _ _ rfl) (by kernel_rfl) (by kernel_rfl) ((adv _ _ _).trans ?_)
 refine aa h ?_
 by_cases hb:b=0
 ·rw [if_neg (by simp [hb])]
  refine ag (show (b != 0)=false by simp [hb]) ?_
  exact aa (ZN hG s o hs hg (h2 hb)) rfl
 ·rw [if_pos hb]
  exact af (show (b != 0)=true by simp [hb]) rfl
theorem VP(hG:HG G)(s:StateT)(x:ID)(hs:Sm s.1)(hg:s.2.length≤50000000)(hv:bT s.1.1) :
  FX G 14 L9 ((s,Mr 2 x,()),())=some ((if Dl x≠0 then (zS,(Dl x,())) else fV (xR (aI s) x).1 (xR (aI s) x).2),()):=by
 refine Sx hG s (Mr 2 x) (KN hG _ (VO hG x)) hs hg (fun _ => ?_)
 refine aC (fn:=Tryz.f66) (hG _ _ rfl) (by kernel_rfl) (by kernel_rfl) ((EF _ _ _).trans ?_)
 refine ag rfl (af rfl ?_)
 exact aa (ZM hG (aI s) (Mr 2 x) hv hs.v) rfl
theorem Sy:Sm zS.1:=⟨by simp [zS],by simp [zS],by simp [zS]⟩
theorem VQ(hG:HG G)(o:bW)(h:FX G 43 Cp ((o,()),())=some (((0:Int),()),())):FX G 58 Ez (([o],()),())=some (((0:Int),()),()):=by
 refine aC (fn:=Tryz.f58) (hG _ _ rfl) (by kernel_rfl) (by kernel_rfl) ((Yp _ _ _).trans ?_)
 refine ag rfl (ag rfl ?_)
 refine aw (j:=0) (by kernel_rfl) ((EE _ _ _).trans ?_)
 refine af rfl (aa (a:=o) rfl ?_)
 refine aa h ?_
 refine ag rfl ?_
 refine aw (j:=0) (by kernel_rfl) ((EE _ _ _).trans ?_)
 exact ag rfl rfl
def T7:StateT:=(([((1,1),([],(e0,0)))],[]),[])
theorem aeW(hG:HG G):FX G 12 Oy ((),())=some ((true,()),()):=by
 refine aC (fn:=Tryz.f12) (hG _ _ rfl) (by kernel_rfl) (by kernel_rfl) ((adu _ _ _).trans ?_)
 have h33:FX G 33 I2 ((),())=some ((zS,()),()):=aC (fn:=Tryz.f33) (hG _ _ rfl) (by kernel_rfl) (by kernel_rfl) (Ym _ _ _)
 have h42:FX G 42 OC (((1:Int),()),())=some (([Mr 1 (1,1)],()),()):=aC (fn:=Tryz.f42) (hG _ _ rfl) (by kernel_rfl) (by kernel_rfl) (adO _ _ _)
 refine aa h33 ?_
 refine aa h42 ?_
 have h43:FX G 43 Cp ((Mr 1 (1,1),()),())=some (((0:Int),()),()):=KN hG _ (VN hG (1,1))
 have h66:FX G 66 yh ((Mr 1 (1,1),()),(aI zS,()))=some (((0:Int),()),(aI T7,())):=by
  refine aC (fn:=Tryz.f66) (hG _ _ rfl) (by kernel_rfl) (by kernel_rfl) ((EF _ _ _).trans ?_)
  refine af rfl ?_
  exact aa (Sw hG (aI zS) ((1,1),([],(e0,0))) List.Pairwise.nil (by simp [aI,zS])) rfl
 have h30:FX G 30 Gk ((zS,[Mr 1 (1,1)],()),())=some ((T7,((0:Int),())),()):=by
  refine aC (fn:=Tryz.f30) (hG _ _ rfl) (by kernel_rfl) (by kernel_rfl) ((Yl _ _ _).trans ?_)
  refine aa (VQ hG (Mr 1 (1,1)) h43) ?_
  refine ag rfl ?_
  exact aa (ZN hG zS (Mr 1 (1,1)) Sy (by simp [zS]) h66) rfl
 refine aa h30 ?_
 have Xf:Sm T7.1:=⟨by simp [T7],by simp [T7],by simp [T7]⟩
 refine aa (VP hG T7 (1,1) Xf (by simp [T7]) (List.pairwise_singleton _ _)) ?_
 rfl
end Go.Vs
namespace Go.Vs
open Go.Proofs
theorem bT.map{l:List aj}(h:bT l){f:aj→aj}(hf:∀v,(f v).1=v.1):bT (l.map f):=by
 unfold bT at h ⊢
 rw [List.pairwise_map]
 exact h.imp fun {a b} nW=>by rw [hf,hf];exact nW
theorem nL{x:ID}{f:aj→aj}(hf:∀v,(f v).1=v.1):∀(l:List aj),aQ (l.map f) x=(aQ l x).map f
 | []=>rfl
 | w::r=>by
  unfold aQ
  rw [List.map_cons,List.find?_cons,List.find?_cons,hf]
  have:=nL (x:=x) hf r
  unfold aQ at this
  cases decide (w.1=x) with
  | true=>rfl
  | false=>exact this
theorem qC(x:ID)(l:List ae)(w:aj):(wu x l w).1=w.1:=by unfold wu;split<;>rfl
theorem KO(o:bW)(w:aj):(lW o w).1=w.1:=by unfold lW;split<;>(try split)<;>rfl
structure Iv(d:ai):Prop where
 s:bT d.1
 n:d.1.length≤24
theorem Iv.zero:Iv zS.1:=⟨List.Pairwise.nil,by simp [zS]⟩
theorem Iv.cf{d:ai}(h:Iv d)(x:ID)(l:List ae):Iv (cf d x l):=⟨h.s.map (qC x l),by unfold Vs.cf;simp;exact h.n⟩
theorem Iv.aN{d:ai}(h:Iv d)(v e:ID):Iv (aN d v e):=⟨lH h.s,Nat.le_trans (List.length_filter_le _ _) h.n⟩
theorem Iv.one{s:StateT}(h:Iv s.1)(o:bW):Iv (wz s o).1.1:=by
 unfold wz
 split;· exact Iv.zero
 split
 ·unfold sy
  split;· exact Iv.zero
  split;· exact Iv.zero
  rename_i h1 h2
  exact ⟨nK _ h.s (by simpa [bZ] using h1),by rw [fU];omega⟩
 split
 ·unfold xQ
  split
  ·exact Iv.zero
  ·split
   ·exact Iv.zero
   ·exact h.aN _ _
 split
 ·unfold uV
  split;· exact Iv.zero
  split;· exact Iv.zero
  split;· exact Iv.zero
  split;· exact Iv.zero
  split;· exact Iv.zero
  have h1:Iv (s.1.1,fb (bB o,(e0,0)) s.1.2):=⟨h.s,h.n⟩
  exact (h1.cf _ _).cf _ _
 split
 ·unfold Hc
  split;· exact Iv.zero
  exact ((h.cf _ _).cf _ _).aN _ _
 split
 ·unfold mR
  split;· exact Iv.zero
  split;· exact Iv.zero
  split;· exact Iv.zero
  split;· exact Iv.zero
  split;· exact Iv.zero
  rename_i h1 h2 h3 h4 h5
  have h6:aQ s.1.1 (fG o)=none:=by simpa [bZ] using h2
  have h7:aQ (az s.1 (Rm o) (ah (Nh o))).1 (fG o)=none:=by
   unfold az Vs.cf
   rw [nL (qC _ _),h6];rfl
  refine ⟨nK _ (h.cf _ _).s h7,?_⟩
  unfold PJ
  rw [fU]
  have:(az s.1 (Rm o) (ah (Nh o))).1.length=s.1.1.length:=by unfold az Vs.cf;simp
  omega
 split
 ·unfold mz
  have key:∀a b:ae,Iv (H6 s o a b):=fun a b=>((h.aN _ _).cf _ _).aN _ _
  split
  ·exact Iv.zero
  ·split
   ·unfold kG
    split;· exact Iv.zero
    split;· exact key _ _
    split;· exact key _ _
    exact Iv.zero
   ·exact Iv.zero
 ·unfold wy
  split
  ·exact ⟨h.s.map (KO o),by simp;exact h.n⟩
  ·exact Iv.zero
theorem Iv.go:∀(l:List bW) {s:StateT},Iv s.1→Iv (Mq l s).1.1
 | [],s,h=>h
 | o::r,s,h=>by
  unfold Mq
  split
  ·exact Iv.zero
  ·exact Iv.go r (h.one o)
theorem Iv.try{s:StateT}(h:Iv s.1)(l:List bW):Iv (mS s l).1:=by
 unfold mS
 split
 ·exact h
 ·unfold fC
  split
  ·exact Iv.zero
  ·exact Iv.go l h
theorem Iv.reach:∀(m:Nat) (l:List (List bW)) {s:StateT},Iv s.1→Iv (lG m l s).1
 | 0,_,s,h=>by simpa [lG] using h
 | m+1,[],s,h=>h
 | m+1,l::r,s,h=>by rw [lG];exact Iv.reach m r (h.try _)
theorem Iv.KM(l:List (List bW)):Iv (Bh l).1:=Iv.reach 30 l Iv.zero
theorem Jm{x:ID}{l:List aj}(hf:aQ l x=none):dp l x=l:=by
 unfold dp;rw [List.filter_eq_self]
 intro u hu
 unfold aQ at hf
 rw [List.find?_eq_none] at hf
 have:=hf u hu
 simpa using this
theorem Bi(v:aj):∀{l:List aj},aQ l v.1=none→dp (c7 v l) v.1=l
 | [],_=>by simp [c7,dp]
 | w::r,hf=>by
  have bc:¬w.1=v.1:=fun e=>by simp [aQ,e] at hf
  have B2:aQ r v.1=none:=by simpa [aQ,List.find?_cons,bc] using hf
  unfold c7
  split
  ·unfold dp
   rw [List.filter_cons_of_neg (by simp)]
   exact Jm hf
  ·have:=Bi v B2
   unfold dp at this ⊢
   rw [List.filter_cons_of_pos (by simpa using bc),this]
end Go.Vs
