/- What the program computes at vertices, written plainly. -/
import Derived.Test.YtpldhjjpeldkaaaGreatRefB
set_option linter.unusedVariables false
set_option linter.unusedSimpArgs false
namespace Go.Vs
open Go.Proofs
variable {G:(f:FuncId)→(g:aJ)→Option (g.A→Option g.B)}
theorem GM(hG:G 86 pZ=none)(x:ID):FX G 86 pZ ((x,()),())=some ((cU x,()),()):=by
 refine au (fn:=Tryz.f86) hG (by kernel_rfl) (by kernel_rfl) ((ac3 _ _ _).trans ?_)
 obtain ⟨a,b⟩:=x
 show (cond (decide (a≥1)) (cond (decide (a≤8)) (cond (decide (b≥1)) (some ((decide (b≤1048576),()),())) (some ((false,()),()))) (some ((false,()),()))) (some ((false,()),())):Option ((Bool×Unit)×Unit))=some ((cU (a,b),()),())
 unfold cU
 simp only [cond_eq_ite]
 by_cases h1:(1:Int)≤a<;>by_cases h2:a≤8<;>by_cases h3:(1:Int)≤b<;>simp [h1,h2,h3]
theorem Te(hG:G 159 zX=none)(n:Int):FX G 159 zX ((n,()),())=some ((false,()),()):=by
 refine au (fn:=Tryz.f159) hG (by kernel_rfl) (by kernel_rfl) ((X2 _ _ _).trans ?_)
 exact congrArg (fun b:Bool=>some ((b,()),())) (show (n != n)=false by simp)
def IT(a b:Int):Int:=if a<b then -1 else if a > b then 1 else 0
theorem Pb(hG:HG G)(a b:Int):FX G 145 zT ((a,b,()),())=some ((IT a b,()),()):=by
 refine au (fn:=Tryz.f145) (hG _ _ rfl) (by kernel_rfl) (by kernel_rfl) ((XW _ _ _).trans ?_)
 refine aa (Te (hG _ _ rfl) a) ?_
 refine aa (Te (hG _ _ rfl) b) ?_
 refine ag rfl (ag rfl ?_)
 unfold IT
 by_cases h1:a<b
 ·rw [if_pos h1];exact ae (decide_eq_true h1) rfl
 rw [if_neg h1]
 refine ag (decide_eq_false h1) ?_
 by_cases h2:a > b
 ·rw [if_pos h2];exact ae (decide_eq_true h2) rfl
 rw [if_neg h2];exact ag (decide_eq_false h2) rfl
theorem Tf(hG:G 144 tW=none)(a b:Int):FX G 144 tW (([a,b],()),())=some ((if a≠0 then a else b,()),()):=by
 refine au (fn:=Tryz.f144) hG (by kernel_rfl) (by kernel_rfl) ((XV _ _ _).trans ?_)
 by_cases ha:a=0
 ·rw [if_neg (by simp [ha])]
  refine ar (j:=0) (by kernel_rfl) ((xR _ _ _).trans ?_)
  refine ae rfl (aa (a:=a) rfl ?_)
  refine ag (show (a != 0)=false by simp [ha]) ?_
  refine ar (j:=0) (by kernel_rfl) ((xR _ _ _).trans ?_)
  refine ae rfl (aa (a:=b) rfl ?_)
  by_cases hb:b=0
  ·refine ag (show (b != 0)=false by simp [hb]) ?_
   refine ar (j:=0) (by kernel_rfl) ((xR _ _ _).trans ?_)
   rw [hb]
   exact ag rfl rfl
  ·exact ae (show (b != 0)=true by simp [hb]) rfl
 ·rw [if_pos ha]
  refine ar (j:=0) (by kernel_rfl) ((xR _ _ _).trans ?_)
  refine ae rfl (aa (a:=a) rfl ?_)
  exact ae (show (a != 0)=true by simp [ha]) rfl
theorem Pc(hG:HG G)(a b:ID):FX G 127 zR ((a,b,()),())=some ((qf a b,()),()):=by
 refine au (fn:=Tryz.f127) (hG _ _ rfl) (by kernel_rfl) (by kernel_rfl) ((XJ _ _ _).trans ?_)
 unfold qf
 by_cases h:a=b
 ·rw [if_pos h];exact ae ((jc a b).trans (decide_eq_true h)) rfl
 rw [if_neg h]
 refine ag ((jc a b).trans (decide_eq_false h)) ?_
 refine aa (Pb hG a.1 b.1) ?_
 refine aa (Pb hG a.2 b.2) ?_
 refine aa (Tf (hG _ _ rfl) (IT a.1 b.1) (IT a.2 b.2)) ?_
 refine congrArg (fun n:Int=>some ((n,()),())) ?_
 obtain ⟨a1,a2⟩:=a
 obtain ⟨b1,b2⟩:=b
 unfold IT fz
 simp only [Prod.mk.injEq,not_and] at h
 simp only
 by_cases h1:a1<b1
 ·simp [h1]
 ·by_cases h2:a1 > b1
  ·have:¬a1=b1:=by omega
   simp [h1,h2,this]
  ·have h3:a1=b1:=by omega
   have h4:=h h3
   subst h3
   by_cases h5:a2<b2
   ·simp [h5]
   ·have:a2 > b2:=by omega
    simp [h5,this]
theorem Tg(hG:HG G)(v:ah)(x:ID):FX G 126 CC ((v,x,()),())=some ((qf v.1 x,()),()):=by
 refine au (fn:=Tryz.f126) (hG _ _ rfl) (by kernel_rfl) (by kernel_rfl) ((XI _ _ _).trans ?_)
 exact aa (Pc hG v.1 x) rfl
theorem IU{i j:Nat}(hi:i≤1000000000)(hj:j≤1000000000):IntKind.wrap .i64 (kz .u64 (IntKind.wrap .u64 (IntKind.wrap .i64 ((i:Int)+(j:Int)))) (1:Int))=(((i+j) / 2:Nat):Int):=by
 have e1:IntKind.wrap .i64 ((i:Int)+(j:Int))=((i+j:Nat):Int):=by rw [wrap_small (by omega) (by omega)];rfl
 have e2:IntKind.wrap .u64 ((i+j:Nat):Int)=((i+j:Nat):Int):=by
  unfold IntKind.wrap;simp [IntKind.bits,IntKind.signed];omega
 have e3:kz .u64 ((i+j:Nat):Int) 1=(((i+j) / 2:Nat):Int):=by
  unfold kz
  have:(min (Int.toNat 1) IntKind.u64.bits)=1:=by decide
  rw [this,Int.fdiv_eq_ediv_of_nonneg _ (by omega)]
  rfl
 rw [e1,e2,e3,wrap_small (by omega) (by omega)]
def bC(l:List ah)(x:ID):Nat:=l.countP fun v=>fz v.1 x
def bW(l:List ah):Prop:=l.Pairwise fun a b=>fz a.1 b.1=true
theorem iv{a b c:ID}(h:fz a b=true)(k:fz b c=true):fz a c=true:=by
 simp [fz] at *;omega
theorem kO{a b:ID}(h:fz a b=true):fz b a=false:=by
 simp [fz] at *;omega
theorem kP{a b:ID}(h:fz a b=false)(k:a≠b):fz b a=true:=by
 obtain ⟨a1,a2⟩:=a;obtain ⟨b1,b2⟩:=b
 simp [fz] at *;omega
theorem Es(l:List ah)(x:ID):bC l x≤l.length:=List.countP_le_length
theorem qX{l:List ah}{x:ID}(h:∀v∈l,fz v.1 x=false):bC l x=0:=by
 unfold bC;rw [List.countP_eq_zero];intro v hv;simp [h v hv]
theorem vJ{x:ID}:∀{l:List ah},bW l→∀(k:Nat) (v:ah),l[k]? = some v→(fz v.1 x=true↔k<bC l x)
 | [],_,k,v,h=>by simp at h
 | w::r,hs,k,v,h=>by
  have hw:∀{u:ah},u∈r→fz w.1 u.1=true:=fun {u} hu=>List.rel_of_pairwise_cons hs hu
  have hr:bW r:=hs.of_cons
  by_cases aG:fz w.1 x=true
  ·have e:bC (w::r) x=bC r x+1:=by unfold bC;rw [List.countP_cons_of_pos (by simpa using aG)]
   cases k with
   | zero=>simp at h;subst h;simp [aG,e]
   | succ k=>have:=vJ (x:=x) hr k v (by simpa using h);rw [this,e];omega
  ·have hn:∀u∈w::r,fz u.1 x=false:=fun u hu=>by
    rcases List.mem_cons.1 hu with rfl | hu
    ·simpa using aG
    ·rw [Bool.eq_false_iff];intro h2;exact aG (iv (hw hu) h2)
   rw [qX hn,hn v (List.mem_of_getElem? h)]
   simp
theorem Pd(hG:HG G)(l:List ah)(x:ID)(hs:bW l)(hl:l.length≤50000000):∀(n i j:Nat),j - i≤n→i≤bC l x→bC l x≤j→j≤l.length →
  LX G 127125 iO Tryz.f125 g9 (aP Tryz.prog 125 0) ((l,(((l.length:Nat):Int),((i:Int),((j:Int),())))),(((x,()),()),()))=some (((((bC l x:Nat):Int),(decide ((l[bC l x]?).map (·.1)=some x),())):Int×(Bool×Unit)),()):=by
 have te:=Es l x
 have fin:∀(i j:Nat),¬(i<j)→i≤bC l x→bC l x≤j→LX G 127125 iO Tryz.f125 g9 (aP Tryz.prog 125 0) ((l,(((l.length:Nat):Int),((i:Int),((j:Int),())))),(((x,()),()),()))=some (((((bC l x:Nat):Int),(decide ((l[bC l x]?).map (·.1)=some x),())):Int×(Bool×Unit)),()):=fun i j yP h1 h2=>by
  have hi:i=bC l x:=by omega
  subst hi
  refine ar (j:=0) (by kernel_rfl) ((As _ _ _).trans ?_)
  refine ag (decide_eq_false (show ¬(((bC l x:Nat):Int)<(j:Int)) by omega)) ?_
  by_cases hc:bC l x<l.length
  ·have hx:l[bC l x]? = some l[bC l x]:=List.getElem?_eq_getElem hc
   refine ae (aT hc) ?_
   refine aa (aK hx) ?_
   refine aa (Tg hG l[bC l x] x) ?_
   refine congrArg (fun b:Bool=>some ((((bC l x:Nat):Int),(b,())),())) ?_
   rw [hx]
   unfold qf
   by_cases he:l[bC l x].1=x
   ·simp [he]
   ·simp [he];split<;>simp
  ·refine ag (decide_eq_false (show ¬(((bC l x:Nat):Int)<((l.length:Nat):Int)) by omega)) ?_
   refine congrArg (fun b:Bool=>some ((((bC l x:Nat):Int),(b,())),())) ?_
   rw [List.getElem?_eq_none (by omega)];simp
 intro n
 induction n with
 | zero=>intro i j yP h1 h2 h3;exact fin i j (by omega) h1 h2
 | succ n ih =>
  intro i j yP h1 h2 h3
  by_cases aG:i<j
  case neg=>exact fin i j aG h1 h2
  refine ar (j:=0) (by kernel_rfl) ((As _ _ _).trans ?_)
  refine ae (decide_eq_true (show ((i:Int)<(j:Int)) by omega)) ?_
  refine ag rfl ?_
  have hm:=IU (i:=i) (j:=j) (by omega) (by omega)
  have hh:(i+j) / 2<l.length:=by omega
  have hx:l[(i+j) / 2]? = some l[(i+j) / 2]:=List.getElem?_eq_getElem hh
  have mZ:=vJ (x:=x) hs ((i+j) / 2) _ hx
  refine aa (show aZ l (IntKind.wrap .i64 (kz .u64 (IntKind.wrap .u64 (IntKind.wrap .i64 ((i:Int)+(j:Int)))) (1:Int)))=some l[(i+j) / 2] by rw [hm];exact aK hx) ?_
  refine aa (Tg hG l[(i+j) / 2] x) ?_
  by_cases ho:fz l[(i+j) / 2].1 x=true
  ·refine ae (decide_eq_true ((mg _ _).2 ho)) ?_
   have hc:=mZ.1 ho
   have hw:IntKind.wrap .i64 (IntKind.wrap .i64 (kz .u64 (IntKind.wrap .u64 (IntKind.wrap .i64 ((i:Int)+(j:Int)))) (1:Int))+1)=(((i+j) / 2+1:Nat):Int):=by
    rw [hm];exact aI hh (by omega)
   have:=ih ((i+j) / 2+1) j (by omega) (by omega) h2 h3
   rw [←hw] at this
   exact this
  ·refine ag (decide_eq_false (fun h=>ho ((mg _ _).1 h))) ?_
   have hc:¬(i+j) / 2<bC l x:=fun h=>ho (mZ.2 h)
   have:=ih i ((i+j) / 2) (by omega) h1 (by omega) (by omega)
   rw [←hm] at this
   exact this
theorem Pe(hG:HG G)(l:List ah)(x:ID)(hs:bW l)(hl:l.length≤50000000) :
  FX G 127125 iO ((l,x,()),())=some (((((bC l x:Nat):Int),(decide ((l[bC l x]?).map (·.1)=some x),())):Int×(Bool×Unit)),()):=by
 refine au (fn:=Tryz.f125) (hG _ _ rfl) (by kernel_rfl) (by kernel_rfl) ((OH _ _ _).trans ?_)
 exact Pd hG l x hs hl l.length 0 l.length (by omega) (by omega) (Es l x) (Nat.le_refl _)
theorem oT(hG:HG G)(w:aC)(x:ID)(hs:bW w.1)(hl:w.1.length≤50000000) :
  FX G 107 oR ((x,()),(w,()))=some (((((bC w.1 x:Nat):Int),(decide ((w.1[bC w.1 x]?).map (·.1)=some x),())):Int×(Bool×Unit)),(w,())):=by
 refine au (fn:=Tryz.f107) (hG _ _ rfl) (by kernel_rfl) (by kernel_rfl) ((Xu _ _ _).trans ?_)
 exact aa (Pe hG w.1 x hs hl) rfl
theorem qY{x:ID}:∀{l:List ah},bW l→aR l x=(l[bC l x]?).filter fun v=>decide (v.1=x)
 | [],_=>rfl
 | w::r,hs=>by
  have hw:∀{u:ah},u∈r→fz w.1 u.1=true:=fun {u} hu=>List.rel_of_pairwise_cons hs hu
  have hr:bW r:=hs.of_cons
  by_cases aG:fz w.1 x=true
  ·have e:bC (w::r) x=bC r x+1:=by unfold bC;rw [List.countP_cons_of_pos (by simpa using aG)]
   have bh:¬w.1=x:=fun e=>by rw [e,b5] at aG;cases aG
   rw [e]
   simp only [aR,List.find?_cons,bh,decide_false,List.getElem?_cons_succ]
   exact qY hr
  ·have hn:∀u∈w::r,fz u.1 x=false:=fun u hu=>by
    rcases List.mem_cons.1 hu with rfl | hu
    ·simpa using aG
    ·rw [Bool.eq_false_iff];intro h2;exact aG (iv (hw hu) h2)
   rw [qX hn]
   by_cases he:w.1=x
   ·simp [aR,List.find?_cons,he,Option.filter]
   ·have HK:fz x w.1=true:=kP (by simpa using aG) he
    have:aR r x=none:=by
     unfold aR;rw [List.find?_eq_none];intro u hu h2
     have h3:u.1=x:=by simpa using h2
     have h4:=hw hu
     rw [h3] at h4
     have:=kO h4
     rw [HK] at this;cases this
    rw [show aR (w::r) x=aR r x by simp only [aR,List.find?_cons,he,decide_false],this]
    simp [he,Option.filter]
theorem fg{l:List ah}{x:ID}(hs:bW l):decide ((l[bC l x]?).map (·.1)=some x)=(aR l x).isSome:=by
 rw [qY hs]
 cases h:l[bC l x]? with
 | none=>simp
 | some v=>by_cases he:v.1=x<;>simp [he,Option.filter]
theorem GN(v:ah):∀{l:List ah},bW l→aR l v.1=none→dV v l=l.take (bC l v.1)++(v::l.drop (bC l v.1))
 | [],_,_=>rfl
 | w::r,hs,hf=>by
  have hw:∀{u:ah},u∈r→fz w.1 u.1=true:=fun {u} hu=>List.rel_of_pairwise_cons hs hu
  have hr:bW r:=hs.of_cons
  have bh:¬w.1=v.1:=fun e=>by simp [aR,e] at hf
  have Cw:aR r v.1=none:=by simpa [aR,List.find?_cons,bh] using hf
  by_cases aG:fz w.1 v.1=true
  ·have e:bC (w::r) v.1=bC r v.1+1:=by unfold bC;rw [List.countP_cons_of_pos (by simpa using aG)]
   have SD:fz v.1 w.1=false:=kO aG
   rw [e,dV,if_neg (by simp [SD]),GN v hr Cw]
   rfl
  ·have hn:∀u∈w::r,fz u.1 v.1=false:=fun u hu=>by
    rcases List.mem_cons.1 hu with rfl | hu
    ·simpa using aG
    ·rw [Bool.eq_false_iff];intro h2;exact aG (iv (hw hu) h2)
   have HK:fz v.1 w.1=true:=kP (by simpa using aG) bh
   rw [qX hn,dV,if_pos HK];rfl
theorem vK{x:ID}:∀{l:List ah},bW l→(aR l x).isSome=true→dG l x=l.take (bC l x)++l.drop (bC l x+1)
 | [],_,hf=>by simp [aR] at hf
 | w::r,hs,hf=>by
  have hw:∀{u:ah},u∈r→fz w.1 u.1=true:=fun {u} hu=>List.rel_of_pairwise_cons hs hu
  have hr:bW r:=hs.of_cons
  by_cases he:w.1=x
  ·have hn:∀u∈w::r,fz u.1 x=false:=fun u hu=>by
    rcases List.mem_cons.1 hu with rfl | hu
    ·rw [he,b5]
    ·rw [←he];exact kO (hw hu)
   have eU:dG r x=r:=by
    unfold dG;rw [List.filter_eq_self];intro u hu
    have h4:=hw hu
    simp;intro e2;rw [he,e2,b5] at h4;cases h4
   rw [qX hn]
   unfold dG
   rw [List.filter_cons_of_neg (by simp [he])]
   exact eU
  ·have Cw:(aR r x).isSome=true:=by simpa [aR,List.find?_cons,he] using hf
   have aG:fz w.1 x=true:=by
    obtain ⟨u,hu⟩:=Option.isSome_iff_exists.1 Cw
    have h1:=List.mem_of_find?_eq_some hu
    have h2:u.1=x:=by simpa using List.find?_some hu
    rw [←h2];exact hw h1
   have e:bC (w::r) x=bC r x+1:=by unfold bC;rw [List.countP_cons_of_pos (by simpa using aG)]
   rw [e]
   have:=vK hr Cw
   simp [dG,List.filter_cons,he] at this ⊢
   exact this
theorem nq(v:ah):∀{l:List ah},bW l→aR l v.1=none→bW (dV v l)
 | [],_,_=>List.pairwise_singleton _ _
 | w::r,hs,hf=>by
  have hw:∀{u:ah},u∈r→fz w.1 u.1=true:=fun {u} hu=>List.rel_of_pairwise_cons hs hu
  have hr:bW r:=hs.of_cons
  have bh:¬w.1=v.1:=fun e=>by simp [aR,e] at hf
  have Cw:aR r v.1=none:=by simpa [aR,List.find?_cons,bh] using hf
  unfold dV
  split
  ·rename_i h
   refine List.Pairwise.cons (fun u hu => ?_) hs
   rcases List.mem_cons.1 hu with rfl | hu
   ·exact h
   ·exact iv h (hw hu)
  ·rename_i h
   have aG:fz w.1 v.1=true:=kP (by simpa using h) (fun e=>bh e.symm)
   refine List.Pairwise.cons (fun u hu => ?_) (nq v hr Cw)
   rcases qk.1 hu with rfl | hu
   ·exact aG
   ·exact hw hu
theorem ox{l:List ah}{x:ID}(hs:bW l):bW (dG l x):=hs.filter _
end Go.Vs
namespace Go.Vs
open Go.Proofs
variable {G:(f:FuncId)→(g:aJ)→Option (g.A→Option g.B)}
theorem ad3(hG:G 79 Lw=none)(l:List ah)(hl:l.length≤50000000):FX G 79 Lw ((l,()),())=some ((l,()),()):=by
 refine au (fn:=Tryz.f79) hG (by kernel_rfl) (by kernel_rfl) ((acZ _ _ _).trans ?_)
 cases l with
 | nil=>exact ae rfl (l8 (by omega) fun j hj=>by cases j<;>rfl)
 | cons x r=>exact ag rfl (ae (fits (by simp at hl ⊢;omega)) rfl)
theorem ad4(hG:G 80 Lx=none)(l:List af)(hl:l.length≤50000000):FX G 80 Lx ((l,()),())=some ((l,()),()):=by
 refine au (fn:=Tryz.f80) hG (by kernel_rfl) (by kernel_rfl) ((ac0 _ _ _).trans ?_)
 cases l with
 | nil=>exact ae rfl (l8 (by omega) fun j hj=>by cases j<;>rfl)
 | cons x r=>exact ag rfl (ae (fits (by simp at hl ⊢;omega)) rfl)
theorem UM(hG:G 81 xk=none)(l:List ab)(hl:l.length≤50000000):FX G 81 xk ((l,()),())=some ((l,()),()):=by
 refine au (fn:=Tryz.f81) hG (by kernel_rfl) (by kernel_rfl) ((ac1 _ _ _).trans ?_)
 cases l with
 | nil=>exact ae rfl (l8 (by omega) fun j hj=>by cases j<;>rfl)
 | cons x r=>exact ag rfl (ae (fits (by simp at hl ⊢;omega)) rfl)
theorem RG(hG:G 61 FM=none)(l:List ak)(hl:l.length≤50000000):FX G 61 FM ((l,()),())=some ((l,()),()):=by
 refine au (fn:=Tryz.f61) hG (by kernel_rfl) (by kernel_rfl) ((acK _ _ _).trans ?_)
 cases l with
 | nil=>exact ae rfl (l8 (by omega) fun j hj=>by cases j<;>rfl)
 | cons x r=>exact ag rfl (ae (fits (by simp at hl ⊢;omega)) rfl)
theorem Pf{α:Type}{l:List α}{i:Nat}{x:α}(h:l[i]? = some x):l.set i x=l:=by
 obtain ⟨hi,he⟩:=List.getElem?_eq_some_iff.1 h
 subst he;simp
theorem UN(hG:HG G)(d:ai)(hs:Sm d):FX G 60 D4 ((d,()),())=some (((d.1,(d.2,())),()),()):=by
 have hv:=hs.v;have he:=hs.e
 refine au (fn:=Tryz.f60) (hG _ _ rfl) (by kernel_rfl) (by kernel_rfl) ((acJ _ _ _).trans ?_)
 refine aa (ad3 (hG _ _ rfl) d.1 (by omega)) ?_
 refine aa (ad4 (hG _ _ rfl) d.2 (by omega)) ?_
 have loop:∀(n i:Nat) (out:List ah),i+n=d.1.length→out=d.1→LX G 60 D4 Tryz.f60 Ap (aP Tryz.prog 60 0) ((((d.1.length:Nat):Int),((i:Int),())),(((([]:List ah),(([]:List af),())),((out,(d.2,())),())),()))=some (((d.1,(d.2,())),()),()):=by
  intro n
  induction n with
  | zero =>
   intro i out hi ho
   subst ho
   refine ar (j:=0) (by kernel_rfl) ((Ow _ _ _).trans ?_)
   exact ag (decide_eq_false (show ¬((i:Int)<((d.1.length:Nat):Int)) by omega)) rfl
  | succ n ih =>
   intro i out hi ho
   have my:=ho
   subst ho
   refine ar (j:=0) (by kernel_rfl) ((Ow _ _ _).trans ?_)
   have aG:i<d.1.length:=by omega
   have hx:d.1[i]? = some d.1[i]:=List.getElem?_eq_getElem aG
   refine ae (aT aG) ?_
   refine ae (dx (eI i) (aT aG)) ?_
   refine aa hx ?_
   refine aa (UM (hG _ _ rfl) d.1[i].2.1 (hs.r _ (List.getElem_mem aG))) ?_
   refine ae (dx (eI i) (aT aG)) ?_
   refine aa hx ?_
   rw [aI aG (show d.1.length≤1073741824 by omega)]
   exact ih (i+1) (d.1.set i d.1[i]) (by omega) (Pf hx)
 exact loop d.1.length 0 d.1 (by omega) rfl
def oU(w:aC)(v:ah):Int×aC :=
 if (aR w.1 v.1).isSome=true then (12,w) else if 24≤w.1.length then (3,w) else (0,(dV v w.1,w.2))
def wZ(w:aC)(x:ID):Int×aC:=match aR w.1 x with
 | none=>(13,w)
 | some v=>if 0<v.2.1.length then (14,w) else (0,(dG w.1 x,w.2))
theorem RH(hG:HG G)(w:aC)(v:ah)(hs:bW w.1)(hl:w.1.length≤50000000):FX G 90 FV ((v,()),(w,()))=some (((oU w v).1,()),((oU w v).2,())):=by
 refine au (fn:=Tryz.f90) (hG _ _ rfl) (by kernel_rfl) (by kernel_rfl) ((ac7 _ _ _).trans ?_)
 refine aa (oT hG w v.1 hs hl) ?_
 unfold oU
 cases hf:(aR w.1 v.1).isSome
 ·rw [if_neg (by simp)]
  refine ag ((fg hs).trans hf) ?_
  by_cases h2:24≤w.1.length
  ·rw [if_pos h2]
   exact ae (decide_eq_true (show ((w.1.length:Nat):Int)≥24 by omega)) rfl
  ·rw [if_neg h2]
   refine ag (decide_eq_false (show ¬((w.1.length:Nat):Int)≥24 by omega)) ?_
   have hc:=Es w.1 v.1
   have lJ:pq w.1 ((bC w.1 v.1:Nat):Int) [v]=true:=by
    unfold pq
    rw [decide_eq_true (show (0:Int)≤((bC w.1 v.1:Nat):Int) by omega),decide_eq_true (show ((bC w.1 v.1:Nat):Int)≤((w.1.length:Nat):Int) by omega)]
    rw [fits (by simp;omega)];rfl
   refine ae lJ ?_
   have e:fE w.1 ((bC w.1 v.1:Nat):Int) [v]=dV v w.1:=by
    rw [GN v hs (by simpa using hf)]
    unfold fE;simp
   exact congrArg (fun l:List ah=>some (((0:Int),()),((l,w.2),()))) e
 ·rw [if_pos rfl]
  exact ae ((fg hs).trans hf) rfl
theorem YU(hG:HG G)(w:aC)(o:bw)(hs:bW w.1)(hl:w.1.length≤50000000):FX G 91 NV ((o,()),(w,()))=some (((wZ w (aS o)).1,()),((wZ w (aS o)).2,())):=by
 refine au (fn:=Tryz.f91) (hG _ _ rfl) (by kernel_rfl) (by kernel_rfl) ((ac8 _ _ _).trans ?_)
 refine aa (oT hG w (aS o) hs hl) ?_
 unfold wZ
 have hth:=fg (x:=aS o) hs
 have j8:=qY (x:=aS o) hs
 cases hf:aR w.1 (aS o) with
 | none =>
  rw [hf] at hth
  refine ae (show (!(decide ((w.1[bC w.1 (aS o)]?).map (·.1)=some (aS o))))=true by rw [hth];rfl) rfl
 | some v =>
  rw [hf] at hth j8
  refine ag (show (!(decide ((w.1[bC w.1 (aS o)]?).map (·.1)=some (aS o))))=false by rw [hth];rfl) ?_
  have hx:w.1[bC w.1 (aS o)]? = some v:=by
   cases hg:w.1[bC w.1 (aS o)]? with
   | none=>rw [hg] at j8;simp [Option.filter] at j8
   | some u =>
    rw [hg] at j8
    simp only [Option.filter] at j8
    split at j8
    ·exact j8.symm
    ·cases j8
  have aG:=(List.getElem?_eq_some_iff.1 hx).1
  refine ae (dx (eI _) (aT aG)) ?_
  refine aa hx ?_
  show _=some ((((if 0<v.2.1.length then (14,w) else (0,(dG w.1 (aS o),w.2)):Int×aC).1,()),((if 0<v.2.1.length then (14,w) else (0,(dG w.1 (aS o),w.2)):Int×aC).2,())):(Int×Unit)×(aC×Unit))
  by_cases h2:0<v.2.1.length
  ·rw [if_pos h2]
   exact ae (decide_eq_true (show ((v.2.1.length:Nat):Int) > 0 by omega)) rfl
  ·rw [if_neg h2]
   refine ag (decide_eq_false (show ¬((v.2.1.length:Nat):Int) > 0 by omega)) ?_
   have hw:IntKind.wrap .i64 (((bC w.1 (aS o):Nat):Int)+1)=((bC w.1 (aS o)+1:Nat):Int):=aI aG (by omega)
   have lJ:je w.1 ((bC w.1 (aS o):Nat):Int) (IntKind.wrap .i64 (((bC w.1 (aS o):Nat):Int)+1))=true:=by
    rw [hw]
    unfold je
    rw [decide_eq_true (show (0:Int)≤((bC w.1 (aS o):Nat):Int) by omega),decide_eq_true (show ((bC w.1 (aS o):Nat):Int)<((bC w.1 (aS o)+1:Nat):Int) by omega),decide_eq_true (show ((bC w.1 (aS o)+1:Nat):Int)≤((w.1.length:Nat):Int) by omega),fits (by omega)];rfl
   refine ae lJ ?_
   have e:c9 w.1 ((bC w.1 (aS o):Nat):Int) (IntKind.wrap .i64 (((bC w.1 (aS o):Nat):Int)+1))=dG w.1 (aS o):=by
    rw [hw,vK hs (by rw [hf];rfl)]
    unfold c9;simp only [Int.toNat_natCast]
   exact congrArg (fun l:List ah=>some (((0:Int),()),((l,w.2),()))) e
def zW:aC:=([],([],([],())))
def aF(s:StateT):aC:=(s.1.1,(s.1.2,(s.2,())))
def xY(w:aC):StateT:=((w.1,w.2.1),w.2.2.1)
def fw(e:Int)(w:aC):StateT×(Int×Unit):=if e≠0 then (zS,(e,())) else (xY w,(0,()))
theorem YV(hG:HG G)(s:StateT)(o:bw)(hs:Sm s.1)(hg:s.2.length≤50000000){e:Int}{w:aC}(h:FX G 66 xg ((o,()),(aF s,()))=some ((e,()),(w,()))) :
  FX G 44 BR ((s,[o],()),())=some (fw e w,()):=by
 refine au (fn:=Tryz.f44) (hG _ _ rfl) (by kernel_rfl) (by kernel_rfl) ((Xh _ _ _).trans ?_)
 refine aa (UN hG s.1 hs) ?_
 refine aa (RG (hG _ _ rfl) s.2 hg) ?_
 refine ar (j:=0) (by kernel_rfl) ((D7 _ _ _).trans ?_)
 refine ae rfl (aa (a:=o) rfl ?_)
 refine aa h ?_
 unfold fw
 by_cases he:e=0
 ·rw [if_neg (by simp [he])]
  refine ag (show (e != 0)=false by simp [he]) ?_
  refine ar (j:=0) (by kernel_rfl) ((D7 _ _ _).trans ?_)
  exact ag rfl rfl
 ·rw [if_pos he]
  exact ae (show (e != 0)=true by simp [he]) rfl
def LK(k:Int)(x:ID):bw:=(k,(x,(zI,(zI,(zC,(zC,(false,(e0,0))))))))
def CQ(x:ID):Int:=if cU x=true then 0 else 1
theorem UO(hG:HG G)(x:ID):FX G 65 FO ((LK 1 x,()),())=some ((LK 1 x,(CQ x,())),()):=by
 refine au (fn:=Tryz.f65) (hG _ _ rfl) (by kernel_rfl) (by kernel_rfl) ((Up _ _ _).trans ?_)
 refine aa (GM (hG _ _ rfl) x) ?_
 refine ae rfl (ae rfl ?_)
 unfold CQ
 cases cU x<;>rfl
theorem UP(hG:HG G)(x:ID):FX G 65 FO ((LK 2 x,()),())=some ((LK 2 x,(CQ x,())),()):=by
 refine au (fn:=Tryz.f65) (hG _ _ rfl) (by kernel_rfl) (by kernel_rfl) ((Up _ _ _).trans ?_)
 refine aa (GM (hG _ _ rfl) x) ?_
 refine ag rfl (ae rfl (ae rfl ?_))
 unfold CQ
 cases cU x<;>rfl
theorem Ke(hG:HG G)(o:bw){b:Int}(h:FX G 65 FO ((o,()),())=some ((o,(b,())),())):FX G 43 BQ ((o,()),())=some ((b,()),()):=by
 refine au (fn:=Tryz.f43) (hG _ _ rfl) (by kernel_rfl) (by kernel_rfl) ((Xg _ _ _).trans ?_)
 refine aa h ?_
 exact aX (b:=true) ((AH o o).2 rfl) rfl
theorem Kf(hG:HG G)(s:StateT)(o:bw){b:Int}(h:FX G 43 BQ ((o,()),())=some ((b,()),()))(hs:Sm s.1)(hg:s.2.length≤50000000){e:Int}{w:aC}
  (h2:b=0→FX G 66 xg ((o,()),(aF s,()))=some ((e,()),(w,()))):FX G 14 DX ((s,o,()),())=some ((if b≠0 then (zS,(b,())) else fw e w),()):=by
 refine au (fn:=Tryz.f14) (hG _ _ rfl) (by kernel_rfl) (by kernel_rfl) ((Xe _ _ _).trans ?_)
 refine aa h ?_
 by_cases hb:b=0
 ·rw [if_neg (by simp [hb])]
  refine ag (show (b != 0)=false by simp [hb]) ?_
  exact aa (YV hG s o hs hg (h2 hb)) rfl
 ·rw [if_pos hb]
  exact ae (show (b != 0)=true by simp [hb]) rfl
theorem UQ(hG:HG G)(s:StateT)(x:ID)(hs:Sm s.1)(hg:s.2.length≤50000000)(hv:bW s.1.1) :
  FX G 14 DX ((s,LK 2 x,()),())=some ((if CQ x≠0 then (zS,(CQ x,())) else fw (wZ (aF s) x).1 (wZ (aF s) x).2),()):=by
 refine Kf hG s (LK 2 x) (Ke hG _ (UP hG x)) hs hg (fun _ => ?_)
 refine au (fn:=Tryz.f66) (hG _ _ rfl) (by kernel_rfl) (by kernel_rfl) ((D9 _ _ _).trans ?_)
 refine ag rfl (ae rfl ?_)
 exact aa (YU hG (aF s) (LK 2 x) hv hs.v) rfl
theorem RI:Sm zS.1:=⟨by simp [zS],by simp [zS],by simp [zS]⟩
theorem UR(hG:HG G)(o:bw)(h:FX G 43 BQ ((o,()),())=some (((0:Int),()),())):FX G 58 D2 (([o],()),())=some (((0:Int),()),()):=by
 refine au (fn:=Tryz.f58) (hG _ _ rfl) (by kernel_rfl) (by kernel_rfl) ((Xi _ _ _).trans ?_)
 refine ag rfl (ag rfl ?_)
 refine ar (j:=0) (by kernel_rfl) ((D8 _ _ _).trans ?_)
 refine ae rfl (aa (a:=o) rfl ?_)
 refine aa h ?_
 refine ag rfl ?_
 refine ar (j:=0) (by kernel_rfl) ((D8 _ _ _).trans ?_)
 exact ag rfl rfl
def Th:StateT:=(([((1,1),([],(e0,0)))],[]),[])
theorem ad5(hG:HG G):FX G 12 NL ((),())=some ((true,()),()):=by
 refine au (fn:=Tryz.f12) (hG _ _ rfl) (by kernel_rfl) (by kernel_rfl) ((ab3 _ _ _).trans ?_)
 have h33:FX G 33 NO ((),())=some ((zS,()),()):=au (fn:=Tryz.f33) (hG _ _ rfl) (by kernel_rfl) (by kernel_rfl) (acm _ _ _)
 have h42:FX G 42 NQ (((1:Int),()),())=some (([LK 1 (1,1)],()),()):=au (fn:=Tryz.f42) (hG _ _ rfl) (by kernel_rfl) (by kernel_rfl) (acu _ _ _)
 refine aa h33 ?_
 refine aa h42 ?_
 have h43:FX G 43 BQ ((LK 1 (1,1),()),())=some (((0:Int),()),()):=Ke hG _ (UO hG (1,1))
 have h66:FX G 66 xg ((LK 1 (1,1),()),(aF zS,()))=some (((0:Int),()),(aF Th,())):=by
  refine au (fn:=Tryz.f66) (hG _ _ rfl) (by kernel_rfl) (by kernel_rfl) ((D9 _ _ _).trans ?_)
  refine ae rfl ?_
  exact aa (RH hG (aF zS) ((1,1),([],(e0,0))) List.Pairwise.nil (by simp [aF,zS])) rfl
 have h30:FX G 30 FG ((zS,[LK 1 (1,1)],()),())=some ((Th,((0:Int),())),()):=by
  refine au (fn:=Tryz.f30) (hG _ _ rfl) (by kernel_rfl) (by kernel_rfl) ((Xf _ _ _).trans ?_)
  refine aa (UR hG (LK 1 (1,1)) h43) ?_
  refine ag rfl ?_
  exact aa (YV hG zS (LK 1 (1,1)) RI (by simp [zS]) h66) rfl
 refine aa h30 ?_
 have O8:Sm Th.1:=⟨by simp [Th],by simp [Th],by simp [Th]⟩
 refine aa (UQ hG Th (1,1) O8 (by simp [Th]) (List.pairwise_singleton _ _)) ?_
 rfl
end Go.Vs
namespace Go.Vs
open Go.Proofs
theorem bW.map{l:List ah}(h:bW l){f:ah→ah}(hf:∀v,(f v).1=v.1):bW (l.map f):=by
 unfold bW at h ⊢
 rw [List.pairwise_map]
 exact h.imp fun {a b} Br=>by rw [hf,hf];exact Br
theorem nr{x:ID}{f:ah→ah}(hf:∀v,(f v).1=v.1):∀(l:List ah),aR (l.map f) x=(aR l x).map f
 | []=>rfl
 | w::r=>by
  unfold aR
  rw [List.map_cons,List.find?_cons,List.find?_cons,hf]
  have:=nr (x:=x) hf r
  unfold aR at this
  cases decide (w.1=x) with
  | true=>rfl
  | false=>exact this
theorem qn(x:ID)(l:List ab)(w:ah):(qW x l w).1=w.1:=by unfold qW;split<;>rfl
theorem Kg(o:bw)(w:ah):(iB o w).1=w.1:=by unfold iB;split<;>(try split)<;>rfl
structure Iv(d:ai):Prop where
 s:bW d.1
 n:d.1.length≤24
theorem Iv.zero:Iv zS.1:=⟨List.Pairwise.nil,by simp [zS]⟩
theorem Iv.b6{d:ai}(h:Iv d)(x:ID)(l:List ab):Iv (b6 d x l):=⟨h.s.map (qn x l),by unfold Vs.b6;simp;exact h.n⟩
theorem Iv.bu{d:ai}(h:Iv d)(v e:ID):Iv (bu d v e):=⟨ox h.s,Nat.le_trans (List.length_filter_le _ _) h.n⟩
theorem Iv.one{s:StateT}(h:Iv s.1)(o:bw):Iv (kl s o).1.1:=by
 unfold kl
 split;· exact Iv.zero
 split
 ·unfold rY
  split;· exact Iv.zero
  split;· exact Iv.zero
  rename_i h1 h2
  exact ⟨nq _ h.s (by simpa [bj] using h1),by rw [iu];omega⟩
 split
 ·unfold wY
  split
  ·exact Iv.zero
  ·split
   ·exact Iv.zero
   ·exact h.bu _ _
 split
 ·unfold ql
  split;· exact Iv.zero
  split;· exact Iv.zero
  split;· exact Iv.zero
  split;· exact Iv.zero
  split;· exact Iv.zero
  have h1:Iv (s.1.1,dp (aS o,(e0,0)) s.1.2):=⟨h.s,h.n⟩
  exact (h1.b6 _ _).b6 _ _
 split
 ·unfold Ep
  split;· exact Iv.zero
  exact ((h.b6 _ _).b6 _ _).bu _ _
 split
 ·unfold lE
  split;· exact Iv.zero
  split;· exact Iv.zero
  split;· exact Iv.zero
  split;· exact Iv.zero
  split;· exact Iv.zero
  rename_i h1 h2 h3 h4 h5
  have h6:aR s.1.1 (eu o)=none:=by simpa [bj] using h2
  have h7:aR (aD s.1 (HL o) (aq (EL o))).1 (eu o)=none:=by
   unfold aD Vs.b6
   rw [nr (qn _ _),h6];rfl
  refine ⟨nq _ (h.b6 _ _).s h7,?_⟩
  unfold O9
  rw [iu]
  have:(aD s.1 (HL o) (aq (EL o))).1.length=s.1.1.length:=by unfold aD Vs.b6;simp
  omega
 split
 ·unfold kH
  have key:∀a b:ab,Iv (IS s o a b):=fun a b=>((h.bu _ _).b6 _ _).bu _ _
  split
  ·exact Iv.zero
  ·split
   ·unfold jN
    split;· exact Iv.zero
    split;· exact key _ _
    split;· exact key _ _
    exact Iv.zero
   ·exact Iv.zero
 ·unfold vI
  split
  ·exact ⟨h.s.map (Kg o),by simp;exact h.n⟩
  ·exact Iv.zero
theorem Iv.go:∀(l:List bw) {s:StateT},Iv s.1→Iv (HM l s).1.1
 | [],s,h=>h
 | o::r,s,h=>by
  unfold HM
  split
  ·exact Iv.zero
  ·exact Iv.go r (h.one o)
theorem Iv.try{s:StateT}(h:Iv s.1)(l:List bw):Iv (lF s l).1:=by
 unfold lF
 split
 ·exact h
 ·unfold bX
  split
  ·exact Iv.zero
  ·exact Iv.go l h
theorem Iv.reach:∀(m:Nat) (l:List (List bw)) {s:StateT},Iv s.1→Iv (iW m l s).1
 | 0,_,s,h=>by simpa [iW] using h
 | m+1,[],s,h=>h
 | m+1,l::r,s,h=>by rw [iW];exact Iv.reach m r (h.try _)
theorem Iv.Er(l:List (List bw)):Iv (qm l).1:=Iv.reach 30 l Iv.zero
end Go.Vs
