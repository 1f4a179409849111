/- What the program computes at vertices, written plainly. -/
import Derived.Test.YtpldhjjpeldkaaaGreatRefB
set_option linter.unusedVariables false
set_option linter.unusedSimpArgs false
namespace Go.Vs
open Go.Proofs
variable {G:(f:FuncId)→(g:aJ)→Option (g.A→Option g.B)}
theorem Gx(hG:G 86 pV=none)(x:ID):FX G 86 pV ((x,()),())=some ((cT x,()),()):=by
 refine ar (fn:=Tryz.f86) hG (by kernel_rfl) (by kernel_rfl) ((acT _ _ _).trans ?_)
 obtain ⟨a,b⟩:=x
 show (cond (decide (a≥1)) (cond (decide (a≤8)) (cond (decide (b≥1)) (some ((decide (b≤1048576),()),())) (some ((false,()),()))) (some ((false,()),()))) (some ((false,()),())):Option ((Bool×Unit)×Unit))=some ((cT (a,b),()),())
 unfold cT
 simp only [cond_eq_ite]
 by_cases h1:(1:Int)≤a<;>by_cases h2:a≤8<;>by_cases h3:(1:Int)≤b<;>simp [h1,h2,h3]
theorem SZ(hG:G 159 zP=none)(n:Int):FX G 159 zP ((n,()),())=some ((false,()),()):=by
 refine ar (fn:=Tryz.f159) hG (by kernel_rfl) (by kernel_rfl) ((XR _ _ _).trans ?_)
 exact congrArg (fun b:Bool=>some ((b,()),())) (show (n != n)=false by simp)
def IC(a b:Int):Int:=if a<b then -1 else if a > b then 1 else 0
theorem OY(hG:HG G)(a b:Int):FX G 145 zN ((a,b,()),())=some ((IC a b,()),()):=by
 refine ar (fn:=Tryz.f145) (hG _ _ rfl) (by kernel_rfl) (by kernel_rfl) ((XL _ _ _).trans ?_)
 refine aa (SZ (hG _ _ rfl) a) ?_
 refine aa (SZ (hG _ _ rfl) b) ?_
 refine ag rfl (ag rfl ?_)
 unfold IC
 by_cases h1:a<b
 ·rw [if_pos h1];exact ae (decide_eq_true h1) rfl
 rw [if_neg h1]
 refine ag (decide_eq_false h1) ?_
 by_cases h2:a > b
 ·rw [if_pos h2];exact ae (decide_eq_true h2) rfl
 rw [if_neg h2];exact ag (decide_eq_false h2) rfl
theorem S4(hG:G 144 tT=none)(a b:Int):FX G 144 tT (([a,b],()),())=some ((if a≠0 then a else b,()),()):=by
 refine ar (fn:=Tryz.f144) hG (by kernel_rfl) (by kernel_rfl) ((XK _ _ _).trans ?_)
 by_cases ha:a=0
 ·rw [if_neg (by simp [ha])]
  refine au (j:=0) (by kernel_rfl) ((xN _ _ _).trans ?_)
  refine ae rfl (aa (a:=a) rfl ?_)
  refine ag (show (a != 0)=false by simp [ha]) ?_
  refine au (j:=0) (by kernel_rfl) ((xN _ _ _).trans ?_)
  refine ae rfl (aa (a:=b) rfl ?_)
  by_cases hb:b=0
  ·refine ag (show (b != 0)=false by simp [hb]) ?_
   refine au (j:=0) (by kernel_rfl) ((xN _ _ _).trans ?_)
   rw [hb]
   exact ag rfl rfl
  ·exact ae (show (b != 0)=true by simp [hb]) rfl
 ·rw [if_pos ha]
  refine au (j:=0) (by kernel_rfl) ((xN _ _ _).trans ?_)
  refine ae rfl (aa (a:=a) rfl ?_)
  exact ae (show (a != 0)=true by simp [ha]) rfl
theorem OZ(hG:HG G)(a b:ID):FX G 127 zM ((a,b,()),())=some ((qc a b,()),()):=by
 refine ar (fn:=Tryz.f127) (hG _ _ rfl) (by kernel_rfl) (by kernel_rfl) ((Xy _ _ _).trans ?_)
 unfold qc
 by_cases h:a=b
 ·rw [if_pos h];exact ae ((iY a b).trans (decide_eq_true h)) rfl
 rw [if_neg h]
 refine ag ((iY a b).trans (decide_eq_false h)) ?_
 refine aa (OY hG a.1 b.1) ?_
 refine aa (OY hG a.2 b.2) ?_
 refine aa (S4 (hG _ _ rfl) (IC a.1 b.1) (IC a.2 b.2)) ?_
 refine congrArg (fun n:Int=>some ((n,()),())) ?_
 obtain ⟨a1,a2⟩:=a
 obtain ⟨b1,b2⟩:=b
 unfold IC fw
 simp only [Prod.mk.injEq,not_and] at h
 simp only
 by_cases h1:a1<b1
 ·simp [h1]
 ·by_cases h2:a1 > b1
  ·have:¬a1=b1:=by omega
   simp [h1,h2,this]
  ·have h3:a1=b1:=by omega
   have h4:=h h3
   subst h3
   by_cases h5:a2<b2
   ·simp [h5]
   ·have:a2 > b2:=by omega
    simp [h5,this]
theorem S5(hG:HG G)(v:ah)(x:ID):FX G 126 Cv ((v,x,()),())=some ((qc v.1 x,()),()):=by
 refine ar (fn:=Tryz.f126) (hG _ _ rfl) (by kernel_rfl) (by kernel_rfl) ((Xx _ _ _).trans ?_)
 exact aa (OZ hG v.1 x) rfl
theorem IE{i j:Nat}(hi:i≤1000000000)(hj:j≤1000000000):IntKind.wrap .i64 (ku .u64 (IntKind.wrap .u64 (IntKind.wrap .i64 ((i:Int)+(j:Int)))) (1:Int))=(((i+j) / 2:Nat):Int):=by
 have e1:IntKind.wrap .i64 ((i:Int)+(j:Int))=((i+j:Nat):Int):=by rw [wrap_small (by omega) (by omega)];rfl
 have e2:IntKind.wrap .u64 ((i+j:Nat):Int)=((i+j:Nat):Int):=by
  unfold IntKind.wrap;simp [IntKind.bits,IntKind.signed];omega
 have e3:ku .u64 ((i+j:Nat):Int) 1=(((i+j) / 2:Nat):Int):=by
  unfold ku
  have:(min (Int.toNat 1) IntKind.u64.bits)=1:=by decide
  rw [this,Int.fdiv_eq_ediv_of_nonneg _ (by omega)]
  rfl
 rw [e1,e2,e3,wrap_small (by omega) (by omega)]
def bC(l:List ah)(x:ID):Nat:=l.countP fun v=>fw v.1 x
def bW(l:List ah):Prop:=l.Pairwise fun a b=>fw a.1 b.1=true
theorem iv{a b c:ID}(h:fw a b=true)(k:fw b c=true):fw a c=true:=by
 simp [fw] at *;omega
theorem kL{a b:ID}(h:fw a b=true):fw b a=false:=by
 simp [fw] at *;omega
theorem kM{a b:ID}(h:fw a b=false)(k:a≠b):fw b a=true:=by
 obtain ⟨a1,a2⟩:=a;obtain ⟨b1,b2⟩:=b
 simp [fw] at *;omega
theorem Ef(l:List ah)(x:ID):bC l x≤l.length:=List.countP_le_length
theorem qS{l:List ah}{x:ID}(h:∀v∈l,fw v.1 x=false):bC l x=0:=by
 unfold bC;rw [List.countP_eq_zero];intro v hv;simp [h v hv]
theorem vG{x:ID}:∀{l:List ah},bW l→∀(k:Nat) (v:ah),l[k]? = some v→(fw v.1 x=true↔k<bC l x)
 | [],_,k,v,h=>by simp at h
 | w::r,hs,k,v,h=>by
  have hw:∀{u:ah},u∈r→fw w.1 u.1=true:=fun {u} hu=>List.rel_of_pairwise_cons hs hu
  have hr:bW r:=hs.of_cons
  by_cases aH:fw w.1 x=true
  ·have e:bC (w::r) x=bC r x+1:=by unfold bC;rw [List.countP_cons_of_pos (by simpa using aH)]
   cases k with
   | zero=>simp at h;subst h;simp [aH,e]
   | succ k=>have:=vG (x:=x) hr k v (by simpa using h);rw [this,e];omega
  ·have hn:∀u∈w::r,fw u.1 x=false:=fun u hu=>by
    rcases List.mem_cons.1 hu with rfl | hu
    ·simpa using aH
    ·rw [Bool.eq_false_iff];intro h2;exact aH (iv (hw hu) h2)
   rw [qS hn,hn v (List.mem_of_getElem? h)]
   simp
theorem O0(hG:HG G)(l:List ah)(x:ID)(hs:bW l)(hl:l.length≤50000000):∀(n i j:Nat),j - i≤n→i≤bC l x→bC l x≤j→j≤l.length →
  LX G 127125 iO Tryz.f125 g8 (aP Tryz.prog 125 0) ((l,(((l.length:Nat):Int),((i:Int),((j:Int),())))),(((x,()),()),()))=some (((((bC l x:Nat):Int),(decide ((l[bC l x]?).map (·.1)=some x),())):Int×(Bool×Unit)),()):=by
 have ta:=Ef l x
 have fin:∀(i j:Nat),¬(i<j)→i≤bC l x→bC l x≤j→LX G 127125 iO Tryz.f125 g8 (aP Tryz.prog 125 0) ((l,(((l.length:Nat):Int),((i:Int),((j:Int),())))),(((x,()),()),()))=some (((((bC l x:Nat):Int),(decide ((l[bC l x]?).map (·.1)=some x),())):Int×(Bool×Unit)),()):=fun i j yK h1 h2=>by
  have hi:i=bC l x:=by omega
  subst hi
  refine au (j:=0) (by kernel_rfl) ((Ak _ _ _).trans ?_)
  refine ag (decide_eq_false (show ¬(((bC l x:Nat):Int)<(j:Int)) by omega)) ?_
  by_cases hc:bC l x<l.length
  ·have hx:l[bC l x]? = some l[bC l x]:=List.getElem?_eq_getElem hc
   refine ae (aX hc) ?_
   refine aa (aK hx) ?_
   refine aa (S5 hG l[bC l x] x) ?_
   refine congrArg (fun b:Bool=>some ((((bC l x:Nat):Int),(b,())),())) ?_
   rw [hx]
   unfold qc
   by_cases he:l[bC l x].1=x
   ·simp [he]
   ·simp [he];split<;>simp
  ·refine ag (decide_eq_false (show ¬(((bC l x:Nat):Int)<((l.length:Nat):Int)) by omega)) ?_
   refine congrArg (fun b:Bool=>some ((((bC l x:Nat):Int),(b,())),())) ?_
   rw [List.getElem?_eq_none (by omega)];simp
 intro n
 induction n with
 | zero=>intro i j yK h1 h2 h3;exact fin i j (by omega) h1 h2
 | succ n ih =>
  intro i j yK h1 h2 h3
  by_cases aH:i<j
  case neg=>exact fin i j aH h1 h2
  refine au (j:=0) (by kernel_rfl) ((Ak _ _ _).trans ?_)
  refine ae (decide_eq_true (show ((i:Int)<(j:Int)) by omega)) ?_
  refine ag rfl ?_
  have hm:=IE (i:=i) (j:=j) (by omega) (by omega)
  have hh:(i+j) / 2<l.length:=by omega
  have hx:l[(i+j) / 2]? = some l[(i+j) / 2]:=List.getElem?_eq_getElem hh
  have mX:=vG (x:=x) hs ((i+j) / 2) _ hx
  refine aa (show aV l (IntKind.wrap .i64 (ku .u64 (IntKind.wrap .u64 (IntKind.wrap .i64 ((i:Int)+(j:Int)))) (1:Int)))=some l[(i+j) / 2] by rw [hm];exact aK hx) ?_
  refine aa (S5 hG l[(i+j) / 2] x) ?_
  by_cases ho:fw l[(i+j) / 2].1 x=true
  ·refine ae (decide_eq_true ((mb _ _).2 ho)) ?_
   have hc:=mX.1 ho
   have hw:IntKind.wrap .i64 (IntKind.wrap .i64 (ku .u64 (IntKind.wrap .u64 (IntKind.wrap .i64 ((i:Int)+(j:Int)))) (1:Int))+1)=(((i+j) / 2+1:Nat):Int):=by
    rw [hm];exact aI hh (by omega)
   have:=ih ((i+j) / 2+1) j (by omega) (by omega) h2 h3
   rw [←hw] at this
   exact this
  ·refine ag (decide_eq_false (fun h=>ho ((mb _ _).1 h))) ?_
   have hc:¬(i+j) / 2<bC l x:=fun h=>ho (mX.2 h)
   have:=ih i ((i+j) / 2) (by omega) h1 (by omega) (by omega)
   rw [←hm] at this
   exact this
theorem O2(hG:HG G)(l:List ah)(x:ID)(hs:bW l)(hl:l.length≤50000000) :
  FX G 127125 iO ((l,x,()),())=some (((((bC l x:Nat):Int),(decide ((l[bC l x]?).map (·.1)=some x),())):Int×(Bool×Unit)),()):=by
 refine ar (fn:=Tryz.f125) (hG _ _ rfl) (by kernel_rfl) (by kernel_rfl) ((Ot _ _ _).trans ?_)
 exact O0 hG l x hs hl l.length 0 l.length (by omega) (by omega) (Ef l x) (Nat.le_refl _)
theorem oQ(hG:HG G)(w:aC)(x:ID)(hs:bW w.1)(hl:w.1.length≤50000000) :
  FX G 107 oO ((x,()),(w,()))=some (((((bC w.1 x:Nat):Int),(decide ((w.1[bC w.1 x]?).map (·.1)=some x),())):Int×(Bool×Unit)),(w,())):=by
 refine ar (fn:=Tryz.f107) (hG _ _ rfl) (by kernel_rfl) (by kernel_rfl) ((Xi _ _ _).trans ?_)
 exact aa (O2 hG w.1 x hs hl) rfl
theorem qT{x:ID}:∀{l:List ah},bW l→aR l x=(l[bC l x]?).filter fun v=>decide (v.1=x)
 | [],_=>rfl
 | w::r,hs=>by
  have hw:∀{u:ah},u∈r→fw w.1 u.1=true:=fun {u} hu=>List.rel_of_pairwise_cons hs hu
  have hr:bW r:=hs.of_cons
  by_cases aH:fw w.1 x=true
  ·have e:bC (w::r) x=bC r x+1:=by unfold bC;rw [List.countP_cons_of_pos (by simpa using aH)]
   have bj:¬w.1=x:=fun e=>by rw [e,b4] at aH;cases aH
   rw [e]
   simp only [aR,List.find?_cons,bj,decide_false,List.getElem?_cons_succ]
   exact qT hr
  ·have hn:∀u∈w::r,fw u.1 x=false:=fun u hu=>by
    rcases List.mem_cons.1 hu with rfl | hu
    ·simpa using aH
    ·rw [Bool.eq_false_iff];intro h2;exact aH (iv (hw hu) h2)
   rw [qS hn]
   by_cases he:w.1=x
   ·simp [aR,List.find?_cons,he,Option.filter]
   ·have Ht:fw x w.1=true:=kM (by simpa using aH) he
    have:aR r x=none:=by
     unfold aR;rw [List.find?_eq_none];intro u hu h2
     have h3:u.1=x:=by simpa using h2
     have h4:=hw hu
     rw [h3] at h4
     have:=kL h4
     rw [Ht] at this;cases this
    rw [show aR (w::r) x=aR r x by simp only [aR,List.find?_cons,he,decide_false],this]
    simp [he,Option.filter]
theorem fa{l:List ah}{x:ID}(hs:bW l):decide ((l[bC l x]?).map (·.1)=some x)=(aR l x).isSome:=by
 rw [qT hs]
 cases h:l[bC l x]? with
 | none=>simp
 | some v=>by_cases he:v.1=x<;>simp [he,Option.filter]
theorem Gy(v:ah):∀{l:List ah},bW l→aR l v.1=none→dR v l=l.take (bC l v.1)++(v::l.drop (bC l v.1))
 | [],_,_=>rfl
 | w::r,hs,hf=>by
  have hw:∀{u:ah},u∈r→fw w.1 u.1=true:=fun {u} hu=>List.rel_of_pairwise_cons hs hu
  have hr:bW r:=hs.of_cons
  have bj:¬w.1=v.1:=fun e=>by simp [aR,e] at hf
  have Cq:aR r v.1=none:=by simpa [aR,List.find?_cons,bj] using hf
  by_cases aH:fw w.1 v.1=true
  ·have e:bC (w::r) v.1=bC r v.1+1:=by unfold bC;rw [List.countP_cons_of_pos (by simpa using aH)]
   have Ss:fw v.1 w.1=false:=kL aH
   rw [e,dR,if_neg (by simp [Ss]),Gy v hr Cq]
   rfl
  ·have hn:∀u∈w::r,fw u.1 v.1=false:=fun u hu=>by
    rcases List.mem_cons.1 hu with rfl | hu
    ·simpa using aH
    ·rw [Bool.eq_false_iff];intro h2;exact aH (iv (hw hu) h2)
   have Ht:fw v.1 w.1=true:=kM (by simpa using aH) bj
   rw [qS hn,dR,if_pos Ht];rfl
theorem vH{x:ID}:∀{l:List ah},bW l→(aR l x).isSome=true→dC l x=l.take (bC l x)++l.drop (bC l x+1)
 | [],_,hf=>by simp [aR] at hf
 | w::r,hs,hf=>by
  have hw:∀{u:ah},u∈r→fw w.1 u.1=true:=fun {u} hu=>List.rel_of_pairwise_cons hs hu
  have hr:bW r:=hs.of_cons
  by_cases he:w.1=x
  ·have hn:∀u∈w::r,fw u.1 x=false:=fun u hu=>by
    rcases List.mem_cons.1 hu with rfl | hu
    ·rw [he,b4]
    ·rw [←he];exact kL (hw hu)
   have eQ:dC r x=r:=by
    unfold dC;rw [List.filter_eq_self];intro u hu
    have h4:=hw hu
    simp;intro e2;rw [he,e2,b4] at h4;cases h4
   rw [qS hn]
   unfold dC
   rw [List.filter_cons_of_neg (by simp [he])]
   exact eQ
  ·have Cq:(aR r x).isSome=true:=by simpa [aR,List.find?_cons,he] using hf
   have aH:fw w.1 x=true:=by
    obtain ⟨u,hu⟩:=Option.isSome_iff_exists.1 Cq
    have h1:=List.mem_of_find?_eq_some hu
    have h2:u.1=x:=by simpa using List.find?_some hu
    rw [←h2];exact hw h1
   have e:bC (w::r) x=bC r x+1:=by unfold bC;rw [List.countP_cons_of_pos (by simpa using aH)]
   rw [e]
   have:=vH hr Cq
   simp [dC,List.filter_cons,he] at this ⊢
   exact this
theorem nk(v:ah):∀{l:List ah},bW l→aR l v.1=none→bW (dR v l)
 | [],_,_=>List.pairwise_singleton _ _
 | w::r,hs,hf=>by
  have hw:∀{u:ah},u∈r→fw w.1 u.1=true:=fun {u} hu=>List.rel_of_pairwise_cons hs hu
  have hr:bW r:=hs.of_cons
  have bj:¬w.1=v.1:=fun e=>by simp [aR,e] at hf
  have Cq:aR r v.1=none:=by simpa [aR,List.find?_cons,bj] using hf
  unfold dR
  split
  ·rename_i h
   refine List.Pairwise.cons (fun u hu => ?_) hs
   rcases List.mem_cons.1 hu with rfl | hu
   ·exact h
   ·exact iv h (hw hu)
  ·rename_i h
   have aH:fw w.1 v.1=true:=kM (by simpa using h) (fun e=>bj e.symm)
   refine List.Pairwise.cons (fun u hu => ?_) (nk v hr Cq)
   rcases qh.1 hu with rfl | hu
   ·exact aH
   ·exact hw hu
theorem ov{l:List ah}{x:ID}(hs:bW l):bW (dC l x):=hs.filter _
end Go.Vs
namespace Go.Vs
open Go.Proofs
variable {G:(f:FuncId)→(g:aJ)→Option (g.A→Option g.B)}
theorem adT(hG:G 79 Li=none)(l:List ah)(hl:l.length≤50000000):FX G 79 Li ((l,()),())=some ((l,()),()):=by
 refine ar (fn:=Tryz.f79) hG (by kernel_rfl) (by kernel_rfl) ((acP _ _ _).trans ?_)
 cases l with
 | nil=>exact ae rfl (lY (by omega) fun j hj=>by cases j<;>rfl)
 | cons x r=>exact ag rfl (ae (fits (by simp at hl ⊢;omega)) rfl)
theorem adU(hG:G 80 Lj=none)(l:List af)(hl:l.length≤50000000):FX G 80 Lj ((l,()),())=some ((l,()),()):=by
 refine ar (fn:=Tryz.f80) hG (by kernel_rfl) (by kernel_rfl) ((acQ _ _ _).trans ?_)
 cases l with
 | nil=>exact ae rfl (lY (by omega) fun j hj=>by cases j<;>rfl)
 | cons x r=>exact ag rfl (ae (fits (by simp at hl ⊢;omega)) rfl)
theorem UE(hG:G 81 xh=none)(l:List ab)(hl:l.length≤50000000):FX G 81 xh ((l,()),())=some ((l,()),()):=by
 refine ar (fn:=Tryz.f81) hG (by kernel_rfl) (by kernel_rfl) ((acR _ _ _).trans ?_)
 cases l with
 | nil=>exact ae rfl (lY (by omega) fun j hj=>by cases j<;>rfl)
 | cons x r=>exact ag rfl (ae (fits (by simp at hl ⊢;omega)) rfl)
theorem Ru(hG:G 61 Fy=none)(l:List ak)(hl:l.length≤50000000):FX G 61 Fy ((l,()),())=some ((l,()),()):=by
 refine ar (fn:=Tryz.f61) hG (by kernel_rfl) (by kernel_rfl) ((acA _ _ _).trans ?_)
 cases l with
 | nil=>exact ae rfl (lY (by omega) fun j hj=>by cases j<;>rfl)
 | cons x r=>exact ag rfl (ae (fits (by simp at hl ⊢;omega)) rfl)
theorem O3{α:Type}{l:List α}{i:Nat}{x:α}(h:l[i]? = some x):l.set i x=l:=by
 obtain ⟨hi,he⟩:=List.getElem?_eq_some_iff.1 h
 subst he;simp
theorem UF(hG:HG G)(d:ai)(hs:Sm d):FX G 60 DT ((d,()),())=some (((d.1,(d.2,())),()),()):=by
 have hv:=hs.v;have he:=hs.e
 refine ar (fn:=Tryz.f60) (hG _ _ rfl) (by kernel_rfl) (by kernel_rfl) ((acz _ _ _).trans ?_)
 refine aa (adT (hG _ _ rfl) d.1 (by omega)) ?_
 refine aa (adU (hG _ _ rfl) d.2 (by omega)) ?_
 have loop:∀(n i:Nat) (out:List ah),i+n=d.1.length→out=d.1→LX G 60 DT Tryz.f60 Ah (aP Tryz.prog 60 0) ((((d.1.length:Nat):Int),((i:Int),())),(((([]:List ah),(([]:List af),())),((out,(d.2,())),())),()))=some (((d.1,(d.2,())),()),()):=by
  intro n
  induction n with
  | zero =>
   intro i out hi ho
   subst ho
   refine au (j:=0) (by kernel_rfl) ((Og _ _ _).trans ?_)
   exact ag (decide_eq_false (show ¬((i:Int)<((d.1.length:Nat):Int)) by omega)) rfl
  | succ n ih =>
   intro i out hi ho
   have mu:=ho
   subst ho
   refine au (j:=0) (by kernel_rfl) ((Og _ _ _).trans ?_)
   have aH:i<d.1.length:=by omega
   have hx:d.1[i]? = some d.1[i]:=List.getElem?_eq_getElem aH
   refine ae (aX aH) ?_
   refine ae (dv (eC i) (aX aH)) ?_
   refine aa hx ?_
   refine aa (UE (hG _ _ rfl) d.1[i].2.1 (hs.r _ (List.getElem_mem aH))) ?_
   refine ae (dv (eC i) (aX aH)) ?_
   refine aa hx ?_
   rw [aI aH (show d.1.length≤1073741824 by omega)]
   exact ih (i+1) (d.1.set i d.1[i]) (by omega) (O3 hx)
 exact loop d.1.length 0 d.1 (by omega) rfl
def oR(w:aC)(v:ah):Int×aC :=
 if (aR w.1 v.1).isSome=true then (12,w) else if 24≤w.1.length then (3,w) else (0,(dR v w.1,w.2))
def wW(w:aC)(x:ID):Int×aC:=match aR w.1 x with
 | none=>(13,w)
 | some v=>if 0<v.2.1.length then (14,w) else (0,(dC w.1 x,w.2))
theorem Rv(hG:HG G)(w:aC)(v:ah)(hs:bW w.1)(hl:w.1.length≤50000000):FX G 90 FF ((v,()),(w,()))=some (((oR w v).1,()),((oR w v).2,())):=by
 refine ar (fn:=Tryz.f90) (hG _ _ rfl) (by kernel_rfl) (by kernel_rfl) ((acX _ _ _).trans ?_)
 refine aa (oQ hG w v.1 hs hl) ?_
 unfold oR
 cases hf:(aR w.1 v.1).isSome
 ·rw [if_neg (by simp)]
  refine ag ((fa hs).trans hf) ?_
  by_cases h2:24≤w.1.length
  ·rw [if_pos h2]
   exact ae (decide_eq_true (show ((w.1.length:Nat):Int)≥24 by omega)) rfl
  ·rw [if_neg h2]
   refine ag (decide_eq_false (show ¬((w.1.length:Nat):Int)≥24 by omega)) ?_
   have hc:=Ef w.1 v.1
   have lG:pj w.1 ((bC w.1 v.1:Nat):Int) [v]=true:=by
    unfold pj
    rw [decide_eq_true (show (0:Int)≤((bC w.1 v.1:Nat):Int) by omega),decide_eq_true (show ((bC w.1 v.1:Nat):Int)≤((w.1.length:Nat):Int) by omega)]
    rw [fits (by simp;omega)];rfl
   refine ae lG ?_
   have e:fD w.1 ((bC w.1 v.1:Nat):Int) [v]=dR v w.1:=by
    rw [Gy v hs (by simpa using hf)]
    unfold fD;simp
   exact congrArg (fun l:List ah=>some (((0:Int),()),((l,w.2),()))) e
 ·rw [if_pos rfl]
  exact ae ((fa hs).trans hf) rfl
theorem YJ(hG:HG G)(w:aC)(o:bB)(hs:bW w.1)(hl:w.1.length≤50000000):FX G 91 NJ ((o,()),(w,()))=some (((wW w (aS o)).1,()),((wW w (aS o)).2,())):=by
 refine ar (fn:=Tryz.f91) (hG _ _ rfl) (by kernel_rfl) (by kernel_rfl) ((acY _ _ _).trans ?_)
 refine aa (oQ hG w (aS o) hs hl) ?_
 unfold wW
 have hth:=fa (x:=aS o) hs
 have j6:=qT (x:=aS o) hs
 cases hf:aR w.1 (aS o) with
 | none =>
  rw [hf] at hth
  refine ae (show (!(decide ((w.1[bC w.1 (aS o)]?).map (·.1)=some (aS o))))=true by rw [hth];rfl) rfl
 | some v =>
  rw [hf] at hth j6
  refine ag (show (!(decide ((w.1[bC w.1 (aS o)]?).map (·.1)=some (aS o))))=false by rw [hth];rfl) ?_
  have hx:w.1[bC w.1 (aS o)]? = some v:=by
   cases hg:w.1[bC w.1 (aS o)]? with
   | none=>rw [hg] at j6;simp [Option.filter] at j6
   | some u =>
    rw [hg] at j6
    simp only [Option.filter] at j6
    split at j6
    ·exact j6.symm
    ·cases j6
  have aH:=(List.getElem?_eq_some_iff.1 hx).1
  refine ae (dv (eC _) (aX aH)) ?_
  refine aa hx ?_
  show _=some ((((if 0<v.2.1.length then (14,w) else (0,(dC w.1 (aS o),w.2)):Int×aC).1,()),((if 0<v.2.1.length then (14,w) else (0,(dC w.1 (aS o),w.2)):Int×aC).2,())):(Int×Unit)×(aC×Unit))
  by_cases h2:0<v.2.1.length
  ·rw [if_pos h2]
   exact ae (decide_eq_true (show ((v.2.1.length:Nat):Int) > 0 by omega)) rfl
  ·rw [if_neg h2]
   refine ag (decide_eq_false (show ¬((v.2.1.length:Nat):Int) > 0 by omega)) ?_
   have hw:IntKind.wrap .i64 (((bC w.1 (aS o):Nat):Int)+1)=((bC w.1 (aS o)+1:Nat):Int):=aI aH (by omega)
   have lG:iZ w.1 ((bC w.1 (aS o):Nat):Int) (IntKind.wrap .i64 (((bC w.1 (aS o):Nat):Int)+1))=true:=by
    rw [hw]
    unfold iZ
    rw [decide_eq_true (show (0:Int)≤((bC w.1 (aS o):Nat):Int) by omega),decide_eq_true (show ((bC w.1 (aS o):Nat):Int)<((bC w.1 (aS o)+1:Nat):Int) by omega),decide_eq_true (show ((bC w.1 (aS o)+1:Nat):Int)≤((w.1.length:Nat):Int) by omega),fits (by omega)];rfl
   refine ae lG ?_
   have e:c8 w.1 ((bC w.1 (aS o):Nat):Int) (IntKind.wrap .i64 (((bC w.1 (aS o):Nat):Int)+1))=dC w.1 (aS o):=by
    rw [hw,vH hs (by rw [hf];rfl)]
    unfold c8;simp only [Int.toNat_natCast]
   exact congrArg (fun l:List ah=>some (((0:Int),()),((l,w.2),()))) e
def zW:aC:=([],([],([],())))
def aF(s:StateT):aC:=(s.1.1,(s.1.2,(s.2,())))
def xU(w:aC):StateT:=((w.1,w.2.1),w.2.2.1)
def fO(e:Int)(w:aC):StateT×(Int×Unit):=if e≠0 then (zS,(e,())) else (xU w,(0,()))
theorem YK(hG:HG G)(s:StateT)(o:bB)(hs:Sm s.1)(hg:s.2.length≤50000000){e:Int}{w:aC}(h:FX G 66 xd ((o,()),(aF s,()))=some ((e,()),(w,()))) :
  FX G 44 BL ((s,[o],()),())=some (fO e w,()):=by
 refine ar (fn:=Tryz.f44) (hG _ _ rfl) (by kernel_rfl) (by kernel_rfl) ((WY _ _ _).trans ?_)
 refine aa (UF hG s.1 hs) ?_
 refine aa (Ru (hG _ _ rfl) s.2 hg) ?_
 refine au (j:=0) (by kernel_rfl) ((DV _ _ _).trans ?_)
 refine ae rfl (aa (a:=o) rfl ?_)
 refine aa h ?_
 unfold fO
 by_cases he:e=0
 ·rw [if_neg (by simp [he])]
  refine ag (show (e != 0)=false by simp [he]) ?_
  refine au (j:=0) (by kernel_rfl) ((DV _ _ _).trans ?_)
  exact ag rfl rfl
 ·rw [if_pos he]
  exact ae (show (e != 0)=true by simp [he]) rfl
def Lw(k:Int)(x:ID):bB:=(k,(x,(zI,(zI,(zC,(zC,(false,(e0,0))))))))
def CH(x:ID):Int:=if cT x=true then 0 else 1
theorem UG(hG:HG G)(x:ID):FX G 65 FA ((Lw 1 x,()),())=some ((Lw 1 x,(CH x,())),()):=by
 refine ar (fn:=Tryz.f65) (hG _ _ rfl) (by kernel_rfl) (by kernel_rfl) ((Uh _ _ _).trans ?_)
 refine aa (Gx (hG _ _ rfl) x) ?_
 refine ae rfl (ae rfl ?_)
 unfold CH
 cases cT x<;>rfl
theorem UH(hG:HG G)(x:ID):FX G 65 FA ((Lw 2 x,()),())=some ((Lw 2 x,(CH x,())),()):=by
 refine ar (fn:=Tryz.f65) (hG _ _ rfl) (by kernel_rfl) (by kernel_rfl) ((Uh _ _ _).trans ?_)
 refine aa (Gx (hG _ _ rfl) x) ?_
 refine ag rfl (ae rfl (ae rfl ?_))
 unfold CH
 cases cT x<;>rfl
theorem J0(hG:HG G)(o:bB){b:Int}(h:FX G 65 FA ((o,()),())=some ((o,(b,())),())):FX G 43 BJ ((o,()),())=some ((b,()),()):=by
 refine ar (fn:=Tryz.f43) (hG _ _ rfl) (by kernel_rfl) (by kernel_rfl) ((WX _ _ _).trans ?_)
 refine aa h ?_
 exact aY (b:=true) ((Az o o).2 rfl) rfl
theorem Rx(hG:HG G)(s:StateT)(o:bB){b:Int}(h:FX G 43 BJ ((o,()),())=some ((b,()),()))(hs:Sm s.1)(hg:s.2.length≤50000000){e:Int}{w:aC}
  (h2:b=0→FX G 66 xd ((o,()),(aF s,()))=some ((e,()),(w,()))):FX G 14 K6 ((s,o,()),())=some ((if b≠0 then (zS,(b,())) else fO e w),()):=by
 refine ar (fn:=Tryz.f14) (hG _ _ rfl) (by kernel_rfl) (by kernel_rfl) ((abV _ _ _).trans ?_)
 refine aa h ?_
 by_cases hb:b=0
 ·rw [if_neg (by simp [hb])]
  refine ag (show (b != 0)=false by simp [hb]) ?_
  exact aa (YK hG s o hs hg (h2 hb)) rfl
 ·rw [if_pos hb]
  exact ae (show (b != 0)=true by simp [hb]) rfl
theorem UI(hG:HG G)(s:StateT)(x:ID)(hs:Sm s.1)(hg:s.2.length≤50000000)(hv:bW s.1.1) :
  FX G 14 K6 ((s,Lw 2 x,()),())=some ((if CH x≠0 then (zS,(CH x,())) else fO (wW (aF s) x).1 (wW (aF s) x).2),()):=by
 refine Rx hG s (Lw 2 x) (J0 hG _ (UH hG x)) hs hg (fun _ => ?_)
 refine ar (fn:=Tryz.f66) (hG _ _ rfl) (by kernel_rfl) (by kernel_rfl) ((DX _ _ _).trans ?_)
 refine ag rfl (ae rfl ?_)
 exact aa (YJ hG (aF s) (Lw 2 x) hv hs.v) rfl
theorem Ry:Sm zS.1:=⟨by simp [zS],by simp [zS],by simp [zS]⟩
theorem UJ(hG:HG G)(o:bB)(h:FX G 43 BJ ((o,()),())=some (((0:Int),()),())):FX G 58 DR (([o],()),())=some (((0:Int),()),()):=by
 refine ar (fn:=Tryz.f58) (hG _ _ rfl) (by kernel_rfl) (by kernel_rfl) ((WZ _ _ _).trans ?_)
 refine ag rfl (ag rfl ?_)
 refine au (j:=0) (by kernel_rfl) ((DW _ _ _).trans ?_)
 refine ae rfl (aa (a:=o) rfl ?_)
 refine aa h ?_
 refine ag rfl ?_
 refine au (j:=0) (by kernel_rfl) ((DW _ _ _).trans ?_)
 exact ag rfl rfl
def S6:StateT:=(([((1,1),([],(e0,0)))],[]),[])
theorem adV(hG:HG G):FX G 12 Nz ((),())=some ((true,()),()):=by
 refine ar (fn:=Tryz.f12) (hG _ _ rfl) (by kernel_rfl) (by kernel_rfl) ((abU _ _ _).trans ?_)
 have h33:FX G 33 Ik ((),())=some ((zS,()),()):=ar (fn:=Tryz.f33) (hG _ _ rfl) (by kernel_rfl) (by kernel_rfl) (WW _ _ _)
 have h42:FX G 42 ND (((1:Int),()),())=some (([Lw 1 (1,1)],()),()):=ar (fn:=Tryz.f42) (hG _ _ rfl) (by kernel_rfl) (by kernel_rfl) (aci _ _ _)
 refine aa h33 ?_
 refine aa h42 ?_
 have h43:FX G 43 BJ ((Lw 1 (1,1),()),())=some (((0:Int),()),()):=J0 hG _ (UG hG (1,1))
 have h66:FX G 66 xd ((Lw 1 (1,1),()),(aF zS,()))=some (((0:Int),()),(aF S6,())):=by
  refine ar (fn:=Tryz.f66) (hG _ _ rfl) (by kernel_rfl) (by kernel_rfl) ((DX _ _ _).trans ?_)
  refine ae rfl ?_
  exact aa (Rv hG (aF zS) ((1,1),([],(e0,0))) List.Pairwise.nil (by simp [aF,zS])) rfl
 have h30:FX G 30 Ft ((zS,[Lw 1 (1,1)],()),())=some ((S6,((0:Int),())),()):=by
  refine ar (fn:=Tryz.f30) (hG _ _ rfl) (by kernel_rfl) (by kernel_rfl) ((WV _ _ _).trans ?_)
  refine aa (UJ hG (Lw 1 (1,1)) h43) ?_
  refine ag rfl ?_
  exact aa (YK hG zS (Lw 1 (1,1)) Ry (by simp [zS]) h66) rfl
 refine aa h30 ?_
 have OW:Sm S6.1:=⟨by simp [S6],by simp [S6],by simp [S6]⟩
 refine aa (UI hG S6 (1,1) OW (by simp [S6]) (List.pairwise_singleton _ _)) ?_
 rfl
end Go.Vs
namespace Go.Vs
open Go.Proofs
theorem bW.map{l:List ah}(h:bW l){f:ah→ah}(hf:∀v,(f v).1=v.1):bW (l.map f):=by
 unfold bW at h ⊢
 rw [List.pairwise_map]
 exact h.imp fun {a b} Bm=>by rw [hf,hf];exact Bm
theorem nm{x:ID}{f:ah→ah}(hf:∀v,(f v).1=v.1):∀(l:List ah),aR (l.map f) x=(aR l x).map f
 | []=>rfl
 | w::r=>by
  unfold aR
  rw [List.map_cons,List.find?_cons,List.find?_cons,hf]
  have:=nm (x:=x) hf r
  unfold aR at this
  cases decide (w.1=x) with
  | true=>rfl
  | false=>exact this
theorem qj(x:ID)(l:List ab)(w:ah):(qR x l w).1=w.1:=by unfold qR;split<;>rfl
theorem J1(o:bB)(w:ah):(iB o w).1=w.1:=by unfold iB;split<;>(try split)<;>rfl
structure Iv(d:ai):Prop where
 s:bW d.1
 n:d.1.length≤24
theorem Iv.zero:Iv zS.1:=⟨List.Pairwise.nil,by simp [zS]⟩
theorem Iv.b5{d:ai}(h:Iv d)(x:ID)(l:List ab):Iv (b5 d x l):=⟨h.s.map (qj x l),by unfold Vs.b5;simp;exact h.n⟩
theorem Iv.bu{d:ai}(h:Iv d)(v e:ID):Iv (bu d v e):=⟨ov h.s,Nat.le_trans (List.length_filter_le _ _) h.n⟩
theorem Iv.one{s:StateT}(h:Iv s.1)(o:bB):Iv (qi s o).1.1:=by
 unfold qi
 split;· exact Iv.zero
 split
 ·unfold rS
  split;· exact Iv.zero
  split;· exact Iv.zero
  rename_i h1 h2
  exact ⟨nk _ h.s (by simpa [bh] using h1),by rw [iu];omega⟩
 split
 ·unfold wV
  split
  ·exact Iv.zero
  ·split
   ·exact Iv.zero
   ·exact h.bu _ _
 split
 ·unfold rR
  split;· exact Iv.zero
  split;· exact Iv.zero
  split;· exact Iv.zero
  split;· exact Iv.zero
  split;· exact Iv.zero
  have h1:Iv (s.1.1,dm (aS o,(e0,0)) s.1.2):=⟨h.s,h.n⟩
  exact (h1.b5 _ _).b5 _ _
 split
 ·unfold Ee
  split;· exact Iv.zero
  exact ((h.b5 _ _).b5 _ _).bu _ _
 split
 ·unfold lB
  split;· exact Iv.zero
  split;· exact Iv.zero
  split;· exact Iv.zero
  split;· exact Iv.zero
  split;· exact Iv.zero
  rename_i h1 h2 h3 h4 h5
  have h6:aR s.1.1 (ed o)=none:=by simpa [bh] using h2
  have h7:aR (aD s.1 (Hu o) (aq (Ez o))).1 (ed o)=none:=by
   unfold aD Vs.b5
   rw [nm (qj _ _),h6];rfl
  refine ⟨nk _ (h.b5 _ _).s h7,?_⟩
  unfold OX
  rw [iu]
  have:(aD s.1 (Hu o) (aq (Ez o))).1.length=s.1.1.length:=by unfold aD Vs.b5;simp
  omega
 split
 ·unfold kE
  have key:∀a b:ab,Iv (IB s o a b):=fun a b=>((h.bu _ _).b5 _ _).bu _ _
  split
  ·exact Iv.zero
  ·split
   ·unfold jL
    split;· exact Iv.zero
    split;· exact key _ _
    split;· exact key _ _
    exact Iv.zero
   ·exact Iv.zero
 ·unfold vE
  split
  ·exact ⟨h.s.map (J1 o),by simp;exact h.n⟩
  ·exact Iv.zero
theorem Iv.go:∀(l:List bB) {s:StateT},Iv s.1→Iv (Lv l s).1.1
 | [],s,h=>h
 | o::r,s,h=>by
  unfold Lv
  split
  ·exact Iv.zero
  ·exact Iv.go r (h.one o)
theorem Iv.try{s:StateT}(h:Iv s.1)(l:List bB):Iv (rq s l).1:=by
 unfold rq
 split
 ·exact h
 ·unfold fi
  split
  ·exact Iv.zero
  ·exact Iv.go l h
theorem Iv.reach:∀(m:Nat) (l:List (List bB)) {s:StateT},Iv s.1→Iv (lC m l s).1
 | 0,_,s,h=>by simpa [lC] using h
 | m+1,[],s,h=>h
 | m+1,l::r,s,h=>by rw [lC];exact Iv.reach m r (h.try _)
theorem Iv.JZ(l:List (List bB)):Iv (AA l).1:=Iv.reach 30 l Iv.zero
end Go.Vs
