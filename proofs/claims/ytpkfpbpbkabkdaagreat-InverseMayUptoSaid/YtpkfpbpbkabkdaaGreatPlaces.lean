/- What the program computes at vertices, written plainly. -/
import Derived.Test.YtpkfpbpbkabkdaaGreatRefB
set_option linter.unusedVariables false
set_option linter.unusedSimpArgs false
namespace Go.Vs
open Go.Proofs
variable {G:(f:FuncId)→(g:aM)→Option (g.A→Option g.B)}
theorem Nv(hG:G 159 rf=none)(x:ID):FX G 159 rf ((x,()),())=some ((b4 x,()),()):=by
 refine ax (fn:=Tryz.f159) hG (by kernel_rfl) (by kernel_rfl) ((afH _ _ _).trans ?_)
 obtain⟨a,b⟩:=x
 show(cond (decide (a≥1)) (cond (decide (a≤8)) (cond (decide (b≥1)) (some ((decide (b≤1048576),()),())) (some ((false,()),()))) (some ((false,()),()))) (some ((false,()),())):Option ((Bool×Unit)×Unit))=some ((b4 (a,b),()),())
 unfold b4
 simp only[cond_eq_ite]
 by_cases h1:(1:Int)≤a<;>by_cases h2:a≤8<;>by_cases h3:(1:Int)≤b<;>simp[h1,h2,h3]
theorem We(hG:G 235 Bl=none)(n:Int):FX G 235 Bl ((n,()),())=some ((false,()),()):=by
 refine ax (fn:=Tryz.f235) hG (by kernel_rfl) (by kernel_rfl) ((aaF _ _ _).trans ?_)
 exact congrArg (fun b:Bool=>some ((b,()),())) (show(n != n)=false by simp)
def Kd(a b:Int):Int:=if a<b then -1 else if a>b then 1 else 0
theorem Rq(hG:HG G)(a b:Int):FX G 219 Bj ((a,b,()),())=some ((Kd a b,()),()):=by
 refine ax (fn:=Tryz.f219) (hG _ _ rfl) (by kernel_rfl) (by kernel_rfl) ((aaz _ _ _).trans ?_)
 refine aa (We (hG _ _ rfl) a) ?_
 refine aa (We (hG _ _ rfl) b) ?_
 refine ag rfl (ag rfl ?_)
 unfold Kd
 by_cases h1:a<b
 ·rw[if_pos h1];exact af (decide_eq_true h1) rfl
 rw[if_neg h1]
 refine ag (decide_eq_false h1) ?_
 by_cases h2:a>b
 ·rw[if_pos h2];exact af (decide_eq_true h2) rfl
 rw[if_neg h2];exact ag (decide_eq_false h2) rfl
theorem Wg(hG:G 218 vj=none)(a b:Int):FX G 218 vj (([a,b],()),())=some ((if a≠0 then a else b,()),()):=by
 refine ax (fn:=Tryz.f218) hG (by kernel_rfl) (by kernel_rfl) ((aay _ _ _).trans ?_)
 by_cases ha:a=0
 ·rw[if_neg (by simp[ha])]
  refine ar (j:=0) (by kernel_rfl) ((zK _ _ _).trans ?_)
  refine af rfl (aa (a:=a) rfl ?_)
  refine ag (show(a != 0)=false by simp[ha]) ?_
  refine ar (j:=0) (by kernel_rfl) ((zK _ _ _).trans ?_)
  refine af rfl (aa (a:=b) rfl ?_)
  by_cases hb:b=0
  ·refine ag (show(b != 0)=false by simp[hb]) ?_
   refine ar (j:=0) (by kernel_rfl) ((zK _ _ _).trans ?_)
   rw[hb]
   exact ag rfl rfl
  ·exact af (show(b != 0)=true by simp[hb]) rfl
 ·rw[if_pos ha]
  refine ar (j:=0) (by kernel_rfl) ((zK _ _ _).trans ?_)
  refine af rfl (aa (a:=a) rfl ?_)
  exact af (show(a != 0)=true by simp[ha]) rfl
theorem Rr(hG:HG G)(a b:ID):FX G 208 Bh ((a,b,()),())=some ((pR a b,()),()):=by
 refine ax (fn:=Tryz.f208) (hG _ _ rfl) (by kernel_rfl) (by kernel_rfl) ((aam _ _ _).trans ?_)
 unfold pR
 by_cases h:a=b
 ·rw[if_pos h];exact af ((jc a b).trans (decide_eq_true h)) rfl
 rw[if_neg h]
 refine ag ((jc a b).trans (decide_eq_false h)) ?_
 refine aa (Rq hG a.1 b.1) ?_
 refine aa (Rq hG a.2 b.2) ?_
 refine aa (Wg (hG _ _ rfl) (Kd a.1 b.1) (Kd a.2 b.2)) ?_
 refine congrArg (fun n:Int=>some ((n,()),())) ?_
 obtain⟨a1,a2⟩:=a
 obtain⟨b1,b2⟩:=b
 unfold Kd fa
 simp only[Prod.mk.injEq,not_and]at h
 simp only
 by_cases h1:a1<b1
 ·simp[h1]
 ·by_cases h2:a1>b1
  ·have:¬a1=b1:=by omega
   simp[h1,h2,this]
  ·have h3:a1=b1:=by omega
   have h4:=h h3
   subst h3
   by_cases h5:a2<b2
   ·simp[h5]
   ·have:a2>b2:=by omega
    simp[h5,this]
theorem Wh(hG:HG G)(v:ah)(x:ID):FX G 207 DT ((v,x,()),())=some ((pR v.1 x,()),()):=by
 refine ax (fn:=Tryz.f207) (hG _ _ rfl) (by kernel_rfl) (by kernel_rfl) ((aal _ _ _).trans ?_)
 exact aa (Rr hG v.1 x) rfl
theorem Ke{i j:Nat}(hi:i≤1000000000)(hj:j≤1000000000):IntKind.wrap .i64 (kZ .u64 (IntKind.wrap .u64 (IntKind.wrap .i64 ((i:Int)+(j:Int)))) (1:Int))=(((i+j) / 2:Nat):Int):=by
 have e1:IntKind.wrap .i64 ((i:Int)+(j:Int))=((i+j:Nat):Int):=by rw[wrap_small (by omega) (by omega)];rfl
 have e2:IntKind.wrap .u64 ((i+j:Nat):Int)=((i+j:Nat):Int):=by
  unfold IntKind.wrap;simp[IntKind.bits,IntKind.signed];omega
 have e3:kZ .u64 ((i+j:Nat):Int) 1=(((i+j) / 2:Nat):Int):=by
  unfold kZ
  have:(min (Int.toNat 1) IntKind.u64.bits)=1:=by decide
  rw[this,Int.fdiv_eq_ediv_of_nonneg _ (by omega)]
  rfl
 rw[e1,e2,e3,wrap_small (by omega) (by omega)]
def bG(l:List ah)(x:ID):Nat:=l.countP fun v=>fa v.1 x
def bY(l:List ah):Prop:=l.Pairwise fun a b=>fa a.1 b.1=true
theorem gN{a b c:ID}(h:fa a b=true)(k:fa b c=true):fa a c=true:=by
 simp[fa]at *;omega
theorem lA{a b:ID}(h:fa a b=true):fa b a=false:=by
 simp[fa]at *;omega
theorem lB{a b:ID}(h:fa a b=false)(k:a≠b):fa b a=true:=by
 obtain⟨a1,a2⟩:=a;obtain⟨b1,b2⟩:=b
 simp[fa]at *;omega
theorem FI(l:List ah)(x:ID):bG l x≤l.length:=List.countP_le_length
theorem sx{l:List ah}{x:ID}(h:∀v∈l,fa v.1 x=false):bG l x=0:=by
 unfold bG;rw[List.countP_eq_zero];intro v hv;simp[h v hv]
theorem xi{x:ID}:∀{l:List ah},bY l→∀(k:Nat) (v:ah),l[k]? = some v→(fa v.1 x=true↔k<bG l x)
 |[],_,k,v,h=>by simp at h
 |w::r,hs,k,v,h=>by
  have hw:∀{u:ah},u∈r→fa w.1 u.1=true:=fun {u} hu=>List.rel_of_pairwise_cons hs hu
  have hr:bY r:=hs.of_cons
  by_cases aF:fa w.1 x=true
  ·have e:bG (w::r) x=bG r x+1:=by unfold bG;rw[List.countP_cons_of_pos (by simpa using aF)]
   cases k with
   |zero=>simp at h;subst h;simp[aF,e]
   |succ k=>have:=xi (x:=x) hr k v (by simpa using h);rw[this,e];omega
  ·have hn:∀u∈w::r,fa u.1 x=false:=fun u hu=>by
    rcases List.mem_cons.1 hu with rfl|hu
    ·simpa using aF
    ·rw[Bool.eq_false_iff];intro h2;exact aF (gN (hw hu) h2)
   rw[sx hn,hn v (List.mem_of_getElem? h)]
   simp
theorem Rs(hG:HG G)(l:List ah)(x:ID)(hs:bY l)(hl:l.length≤50000000):∀(n i j:Nat),j-i≤n→i≤bG l x→bG l x≤j→j≤l.length →
  LX G 208206 jt Tryz.f206 iD (aN Tryz.prog 206 0) ((l,(((l.length:Nat):Int),((i:Int),((j:Int),())))),(((x,()),()),()))=some (((((bG l x:Nat):Int),(decide ((l[bG l x]?).map (·.1)=some x),())):Int×(Bool×Unit)),()):=by
 have tI:=FI l x
 have fin:∀(i j:Nat),¬(i<j)→i≤bG l x→bG l x≤j→LX G 208206 jt Tryz.f206 iD (aN Tryz.prog 206 0) ((l,(((l.length:Nat):Int),((i:Int),((j:Int),())))),(((x,()),()),()))=some (((((bG l x:Nat):Int),(decide ((l[bG l x]?).map (·.1)=some x),())):Int×(Bool×Unit)),()):=fun i j zk h1 h2=>by
  have hi:i=bG l x:=by omega
  subst hi
  refine ar (j:=0) (by kernel_rfl) ((BE _ _ _).trans ?_)
  refine ag (decide_eq_false (show ¬(((bG l x:Nat):Int)<(j:Int)) by omega)) ?_
  by_cases hc:bG l x<l.length
  ·have hx:l[bG l x]? = some l[bG l x]:=List.getElem?_eq_getElem hc
   refine af (aZ hc) ?_
   refine aa (aB hx) ?_
   refine aa (Wh hG l[bG l x] x) ?_
   refine congrArg (fun b:Bool=>some ((((bG l x:Nat):Int),(b,())),())) ?_
   rw[hx]
   unfold pR
   by_cases he:l[bG l x].1=x
   ·simp[he]
   ·simp[he];split<;>simp
  ·refine ag (decide_eq_false (show ¬(((bG l x:Nat):Int)<((l.length:Nat):Int)) by omega)) ?_
   refine congrArg (fun b:Bool=>some ((((bG l x:Nat):Int),(b,())),())) ?_
   rw[List.getElem?_eq_none (by omega)];simp
 intro n
 induction n with
 |zero=>intro i j zk h1 h2 h3;exact fin i j (by omega) h1 h2
 |succ n ih =>
  intro i j zk h1 h2 h3
  by_cases aF:i<j
  case neg=>exact fin i j aF h1 h2
  refine ar (j:=0) (by kernel_rfl) ((BE _ _ _).trans ?_)
  refine af (decide_eq_true (show((i:Int)<(j:Int)) by omega)) ?_
  refine ag rfl ?_
  have hm:=Ke (i:=i) (j:=j) (by omega) (by omega)
  have hh:(i+j) / 2<l.length:=by omega
  have hx:l[(i+j) / 2]? = some l[(i+j) / 2]:=List.getElem?_eq_getElem hh
  have om:=xi (x:=x) hs ((i+j) / 2) _ hx
  refine aa (show ba l (IntKind.wrap .i64 (kZ .u64 (IntKind.wrap .u64 (IntKind.wrap .i64 ((i:Int)+(j:Int)))) (1:Int)))=some l[(i+j) / 2] by rw[hm];exact aB hx) ?_
  refine aa (Wh hG l[(i+j) / 2] x) ?_
  by_cases ho:fa l[(i+j) / 2].1 x=true
  ·refine af (decide_eq_true ((ke _ _).2 ho)) ?_
   have hc:=om.1 ho
   have hw:IntKind.wrap .i64 (IntKind.wrap .i64 (kZ .u64 (IntKind.wrap .u64 (IntKind.wrap .i64 ((i:Int)+(j:Int)))) (1:Int))+1)=(((i+j) / 2+1:Nat):Int):=by
    rw[hm];exact aG hh (by omega)
   have:=ih ((i+j) / 2+1) j (by omega) (by omega) h2 h3
   rw[←hw]at this
   exact this
  ·refine ag (decide_eq_false (fun h=>ho ((ke _ _).1 h))) ?_
   have hc:¬(i+j) / 2<bG l x:=fun h=>ho (om.2 h)
   have:=ih i ((i+j) / 2) (by omega) h1 (by omega) (by omega)
   rw[←hm]at this
   exact this
theorem Rt(hG:HG G)(l:List ah)(x:ID)(hs:bY l)(hl:l.length≤50000000) :
  FX G 208206 jt ((l,x,()),())=some (((((bG l x:Nat):Int),(decide ((l[bG l x]?).map (·.1)=some x),())):Int×(Bool×Unit)),()):=by
 refine ax (fn:=Tryz.f206) (hG _ _ rfl) (by kernel_rfl) (by kernel_rfl) ((QN _ _ _).trans ?_)
 exact Rs hG l x hs hl l.length 0 l.length (by omega) (by omega) (FI l x) (Nat.le_refl _)
theorem ql(hG:HG G)(w:aW)(x:ID)(hs:bY w.1)(hl:w.1.length≤50000000) :
  FX G 175 qh ((x,()),(w,()))=some (((((bG w.1 x:Nat):Int),(decide ((w.1[bG w.1 x]?).map (·.1)=some x),())):Int×(Bool×Unit)),(w,())):=by
 refine ax (fn:=Tryz.f175) (hG _ _ rfl) (by kernel_rfl) (by kernel_rfl) ((ZX _ _ _).trans ?_)
 exact aa (Rt hG w.1 x hs hl) rfl
theorem sy{x:ID}:∀{l:List ah},bY l→aX l x=(l[bG l x]?).filter fun v=>decide (v.1=x)
 |[],_=>rfl
 |w::r,hs=>by
  have hw:∀{u:ah},u∈r→fa w.1 u.1=true:=fun {u} hu=>List.rel_of_pairwise_cons hs hu
  have hr:bY r:=hs.of_cons
  by_cases aF:fa w.1 x=true
  ·have e:bG (w::r) x=bG r x+1:=by unfold bG;rw[List.countP_cons_of_pos (by simpa using aF)]
   have br:¬w.1=x:=fun e=>by rw[e,b8]at aF;cases aF
   rw[e]
   simp only[aX,List.find?_cons,br,decide_false,List.getElem?_cons_succ]
   exact sy hr
  ·have hn:∀u∈w::r,fa u.1 x=false:=fun u hu=>by
    rcases List.mem_cons.1 hu with rfl|hu
    ·simpa using aF
    ·rw[Bool.eq_false_iff];intro h2;exact aF (gN (hw hu) h2)
   rw[sx hn]
   by_cases he:w.1=x
   ·simp[aX,List.find?_cons,he,Option.filter]
   ·have I9:fa x w.1=true:=lB (by simpa using aF) he
    have:aX r x=none:=by
     unfold aX;rw[List.find?_eq_none];intro u hu h2
     have h3:u.1=x:=by simpa using h2
     have h4:=hw hu
     rw[h3]at h4
     have:=lA h4
     rw[I9]at this;cases this
    rw[show aX (w::r) x=aX r x by simp only[aX,List.find?_cons,he,decide_false],this]
    simp[he,Option.filter]
theorem fM{l:List ah}{x:ID}(hs:bY l):decide ((l[bG l x]?).map (·.1)=some x)=(aX l x).isSome:=by
 rw[sy hs]
 cases h:l[bG l x]? with
 |none=>simp
 |some v=>by_cases he:v.1=x<;>simp[he,Option.filter]
theorem H6(v:ah):∀{l:List ah},bY l→aX l v.1=none→eI v l=l.take (bG l v.1)++(v::l.drop (bG l v.1))
 |[],_,_=>rfl
 |w::r,hs,hf=>by
  have hw:∀{u:ah},u∈r→fa w.1 u.1=true:=fun {u} hu=>List.rel_of_pairwise_cons hs hu
  have hr:bY r:=hs.of_cons
  have br:¬w.1=v.1:=fun e=>by simp[aX,e]at hf
  have DO:aX r v.1=none:=by simpa[aX,List.find?_cons,br] using hf
  by_cases aF:fa w.1 v.1=true
  ·have e:bG (w::r) v.1=bG r v.1+1:=by unfold bG;rw[List.countP_cons_of_pos (by simpa using aF)]
   have VA:fa v.1 w.1=false:=lA aF
   rw[e,eI,if_neg (by simp[VA]),H6 v hr DO]
   rfl
  ·have hn:∀u∈w::r,fa u.1 v.1=false:=fun u hu=>by
    rcases List.mem_cons.1 hu with rfl|hu
    ·simpa using aF
    ·rw[Bool.eq_false_iff];intro h2;exact aF (gN (hw hu) h2)
   have I9:fa v.1 w.1=true:=lB (by simpa using aF) br
   rw[sx hn,eI,if_pos I9];rfl
theorem xj{x:ID}:∀{l:List ah},bY l→(aX l x).isSome=true→dC l x=l.take (bG l x)++l.drop (bG l x+1)
 |[],_,hf=>by simp[aX]at hf
 |w::r,hs,hf=>by
  have hw:∀{u:ah},u∈r→fa w.1 u.1=true:=fun {u} hu=>List.rel_of_pairwise_cons hs hu
  have hr:bY r:=hs.of_cons
  by_cases he:w.1=x
  ·have hn:∀u∈w::r,fa u.1 x=false:=fun u hu=>by
    rcases List.mem_cons.1 hu with rfl|hu
    ·rw[he,b8]
    ·rw[←he];exact lA (hw hu)
   have eV:dC r x=r:=by
    unfold dC;rw[List.filter_eq_self];intro u hu
    have h4:=hw hu
    simp;intro e2;rw[he,e2,b8]at h4;cases h4
   rw[sx hn]
   unfold dC
   rw[List.filter_cons_of_neg (by simp[he])]
   exact eV
  ·have DO:(aX r x).isSome=true:=by simpa[aX,List.find?_cons,he] using hf
   have aF:fa w.1 x=true:=by
    obtain⟨u,hu⟩:=Option.isSome_iff_exists.1 DO
    have h1:=List.mem_of_find?_eq_some hu
    have h2:u.1=x:=by simpa using List.find?_some hu
    rw[←h2];exact hw h1
   have e:bG (w::r) x=bG r x+1:=by unfold bG;rw[List.countP_cons_of_pos (by simpa using aF)]
   rw[e]
   have:=xj hr DO
   simp[dC,List.filter_cons,he]at this ⊢
   exact this
theorem oI(v:ah):∀{l:List ah},bY l→aX l v.1=none→bY (eI v l)
 |[],_,_=>List.pairwise_singleton _ _
 |w::r,hs,hf=>by
  have hw:∀{u:ah},u∈r→fa w.1 u.1=true:=fun {u} hu=>List.rel_of_pairwise_cons hs hu
  have hr:bY r:=hs.of_cons
  have br:¬w.1=v.1:=fun e=>by simp[aX,e]at hf
  have DO:aX r v.1=none:=by simpa[aX,List.find?_cons,br] using hf
  unfold eI
  split
  ·rename_i h
   refine List.Pairwise.cons (fun u hu=>?_) hs
   rcases List.mem_cons.1 hu with rfl|hu
   ·exact h
   ·exact gN h (hw hu)
  ·rename_i h
   have aF:fa w.1 v.1=true:=lB (by simpa using h) (fun e=>br e.symm)
   refine List.Pairwise.cons (fun u hu=>?_) (oI v hr DO)
   rcases mn.1 hu with rfl|hu
   ·exact aF
   ·exact hw hu
theorem pU{l:List ah}{x:ID}(hs:bY l):bY (dC l x):=hs.filter _
end Go.Vs
namespace Go.Vs
open Go.Proofs
variable {G:(f:FuncId)→(g:aM)→Option (g.A→Option g.B)}
theorem agy(hG:G 127 Nh=none)(l:List ah)(hl:l.length≤50000000):FX G 127 Nh ((l,()),())=some ((l,()),()):=by
 refine ax (fn:=Tryz.f127) hG (by kernel_rfl) (by kernel_rfl) ((afA _ _ _).trans ?_)
 cases l with
 |nil=>exact af rfl (mT (by omega) fun j hj=>by cases j<;>rfl)
 |cons x r=>exact ag rfl (af (fits (by simp at hl ⊢;omega)) rfl)
theorem agz(hG:G 128 Ni=none)(l:List ai)(hl:l.length≤50000000):FX G 128 Ni ((l,()),())=some ((l,()),()):=by
 refine ax (fn:=Tryz.f128) hG (by kernel_rfl) (by kernel_rfl) ((afB _ _ _).trans ?_)
 cases l with
 |nil=>exact af rfl (mT (by omega) fun j hj=>by cases j<;>rfl)
 |cons x r=>exact ag rfl (af (fits (by simp at hl ⊢;omega)) rfl)
theorem XO(hG:G 110 yZ=none)(l:List ae)(hl:l.length≤50000000):FX G 110 yZ ((l,()),())=some ((l,()),()):=by
 refine ax (fn:=Tryz.f110) hG (by kernel_rfl) (by kernel_rfl) ((afC _ _ _).trans ?_)
 cases l with
 |nil=>exact af rfl (mT (by omega) fun j hj=>by cases j<;>rfl)
 |cons x r=>exact ag rfl (af (fits (by simp at hl ⊢;omega)) rfl)
theorem abE(hG:G 97 JW=none)(l:List az)(hl:l.length≤50000000):FX G 97 JW ((l,()),())=some ((l,()),()):=by
 refine ax (fn:=Tryz.f97) hG (by kernel_rfl) (by kernel_rfl) ((afh _ _ _).trans ?_)
 cases l with
 |nil=>exact af rfl (mT (by omega) fun j hj=>by cases j<;>rfl)
 |cons x r=>exact ag rfl (af (fits (by simp at hl ⊢;omega)) rfl)
theorem Ru{α:Type}{l:List α}{i:Nat}{x:α}(h:l[i]? = some x):l.set i x=l:=by
 obtain⟨hi,he⟩:=List.getElem?_eq_some_iff.1 h
 subst he;simp
theorem agA(hG:HG G)(d:aj)(hs:Sm d):FX G 96 Hf ((d,()),())=some (((d.1,(d.2,())),()),()):=by
 have hv:=hs.v;have he:=hs.e
 refine ax (fn:=Tryz.f96) (hG _ _ rfl) (by kernel_rfl) (by kernel_rfl) ((afg _ _ _).trans ?_)
 refine aa (agy (hG _ _ rfl) d.1 (by omega)) ?_
 refine aa (agz (hG _ _ rfl) d.2 (by omega)) ?_
 have loop:∀(n i:Nat) (out:List ah),i+n=d.1.length→out=d.1→LX G 96 Hf Tryz.f96 BA (aN Tryz.prog 96 0) ((((d.1.length:Nat):Int),((i:Int),())),(((([]:List ah),(([]:List ai),())),((out,(d.2,())),())),()))=some (((d.1,(d.2,())),()),()):=by
  intro n
  induction n with
  |zero =>
   intro i out hi ho
   subst ho
   refine ar (j:=0) (by kernel_rfl) ((Qv _ _ _).trans ?_)
   exact ag (decide_eq_false (show ¬((i:Int)<((d.1.length:Nat):Int)) by omega)) rfl
  |succ n ih =>
   intro i out hi ho
   have nu:=ho
   subst ho
   refine ar (j:=0) (by kernel_rfl) ((Qv _ _ _).trans ?_)
   have aF:i<d.1.length:=by omega
   have hx:d.1[i]? = some d.1[i]:=List.getElem?_eq_getElem aF
   refine af (aZ aF) ?_
   refine af (cW (fg i) (aZ aF)) ?_
   refine aa hx ?_
   refine aa (XO (hG _ _ rfl) d.1[i].2.1 (hs.r _ (List.getElem_mem aF))) ?_
   refine af (cW (fg i) (aZ aF)) ?_
   refine aa hx ?_
   rw[wI,aG aF (show d.1.length≤1073741824 by omega)]
   exact ih (i+1) (d.1.set i d.1[i]) (by omega) (Ru hx)
 exact loop d.1.length 0 d.1 (by omega) rfl
def qm(w:aW)(v:ah):Int×aW :=
 if(aX w.1 v.1).isSome=true then(12,w) else if 24≤w.1.length then(3,w) else(0,(eI v w.1,w.2))
def D5(w:aW)(x:ID):Int×aW:=match aX w.1 x with
 |none=>(13,w)
 |some v=>if 0<v.2.1.length then(14,w) else(0,(dC w.1 x,w.2))
theorem XP(hG:HG G)(w:aW)(v:ah)(hs:bY w.1)(hl:w.1.length≤50000000):FX G 152 Hi ((v,()),(w,()))=some (((qm w v).1,()),((qm w v).2,())):=by
 refine ax (fn:=Tryz.f152) (hG _ _ rfl) (by kernel_rfl) (by kernel_rfl) ((afL _ _ _).trans ?_)
 refine aa (ql hG w v.1 hs hl) ?_
 unfold qm
 cases hf:(aX w.1 v.1).isSome
 ·rw[if_neg (by simp)]
  refine ag ((fM hs).trans hf) ?_
  by_cases h2:24≤w.1.length
  ·rw[if_pos h2]
   exact af (decide_eq_true (show((w.1.length:Nat):Int)≥24 by omega)) rfl
  ·rw[if_neg h2]
   refine ag (decide_eq_false (show ¬((w.1.length:Nat):Int)≥24 by omega)) ?_
   have hc:=FI w.1 v.1
   have mz:qG w.1 ((bG w.1 v.1:Nat):Int) [v]=true:=by
    unfold qG
    rw[decide_eq_true (show(0:Int)≤((bG w.1 v.1:Nat):Int) by omega),decide_eq_true (show((bG w.1 v.1:Nat):Int)≤((w.1.length:Nat):Int) by omega)]
    rw[fits (by simp;omega)];rfl
   refine af mz ?_
   have e:gh w.1 ((bG w.1 v.1:Nat):Int) [v]=eI v w.1:=by
    rw[H6 v hs (by simpa using hf)]
    unfold gh;simp
   exact congrArg (fun l:List ah=>some (((0:Int),()),((l,w.2),()))) e
 ·rw[if_pos rfl]
  exact af ((fM hs).trans hf) rfl
theorem agB(hG:HG G)(w:aW)(o:bj)(hs:bY w.1)(hl:w.1.length≤50000000):FX G 153 P3 ((o,()),(w,()))=some (((D5 w (aK o)).1,()),((D5 w (aK o)).2,())):=by
 refine ax (fn:=Tryz.f153) (hG _ _ rfl) (by kernel_rfl) (by kernel_rfl) ((afM _ _ _).trans ?_)
 refine aa (ql hG w (aK o) hs hl) ?_
 unfold D5
 have hth:=fM (x:=aK o) hs
 have kH:=sy (x:=aK o) hs
 cases hf:aX w.1 (aK o) with
 |none =>
  rw[hf]at hth
  refine af (show(!(decide ((w.1[bG w.1 (aK o)]?).map (·.1)=some (aK o))))=true by rw[hth];rfl) rfl
 |some v =>
  rw[hf]at hth kH
  refine ag (show(!(decide ((w.1[bG w.1 (aK o)]?).map (·.1)=some (aK o))))=false by rw[hth];rfl) ?_
  have hx:w.1[bG w.1 (aK o)]? = some v:=by
   cases hg:w.1[bG w.1 (aK o)]? with
   |none=>rw[hg]at kH;simp[Option.filter]at kH
   |some u =>
    rw[hg]at kH
    simp only[Option.filter]at kH
    split at kH
    ·exact kH.symm
    ·cases kH
  have aF:=(List.getElem?_eq_some_iff.1 hx).1
  refine af (cW (fg _) (aZ aF)) ?_
  refine aa hx ?_
  show _=some ((((if 0<v.2.1.length then(14,w) else(0,(dC w.1 (aK o),w.2)):Int×aW).1,()),((if 0<v.2.1.length then(14,w) else(0,(dC w.1 (aK o),w.2)):Int×aW).2,())):(Int×Unit)×(aW×Unit))
  by_cases h2:0<v.2.1.length
  ·rw[if_pos h2]
   exact af (decide_eq_true (show((v.2.1.length:Nat):Int)>0 by omega)) rfl
  ·rw[if_neg h2]
   refine ag (decide_eq_false (show ¬((v.2.1.length:Nat):Int)>0 by omega)) ?_
   have hw:IntKind.wrap .i64 (((bG w.1 (aK o):Nat):Int)+1)=((bG w.1 (aK o)+1:Nat):Int):=aG aF (by omega)
   have mz:jG w.1 ((bG w.1 (aK o):Nat):Int) (IntKind.wrap .i64 (((bG w.1 (aK o):Nat):Int)+1))=true:=by
    rw[hw]
    unfold jG
    rw[decide_eq_true (show(0:Int)≤((bG w.1 (aK o):Nat):Int) by omega),decide_eq_true (show((bG w.1 (aK o):Nat):Int)<((bG w.1 (aK o)+1:Nat):Int) by omega),decide_eq_true (show((bG w.1 (aK o)+1:Nat):Int)≤((w.1.length:Nat):Int) by omega),fits (by omega)];rfl
   refine af mz ?_
   have e:dw w.1 ((bG w.1 (aK o):Nat):Int) (IntKind.wrap .i64 (((bG w.1 (aK o):Nat):Int)+1))=dC w.1 (aK o):=by
    rw[hw,xj hs (by rw[hf];rfl)]
    unfold dw;simp only[Int.toNat_natCast]
   exact congrArg (fun l:List ah=>some (((0:Int),()),((l,w.2),()))) e
def zW:aW:=([],([],([],())))
def aL(s:StateT):aW:=(s.1.1,(s.1.2,(s.2,())))
def LJ(w:aW):StateT:=((w.1,w.2.1),w.2.2.1)
def ib(e:Int)(w:aW):StateT×(Int×Unit):=if e≠0 then(zS,(e,())) else(LJ w,(0,()))
theorem agC(hG:HG G)(s:StateT)(o:bj)(hs:Sm s.1)(hg:s.2.length≤50000000){e:Int}{w:aW}(h:FX G 131 A8 ((o,()),(aL s,()))=some ((e,()),(w,()))) :
  FX G 103 JV ((s,[o],()),())=some (ib e w,()):=by
 refine ax (fn:=Tryz.f103) (hG _ _ rfl) (by kernel_rfl) (by kernel_rfl) ((ae2 _ _ _).trans ?_)
 refine aa (agA hG s.1 hs) ?_
 refine aa (abE (hG _ _ rfl) s.2 hg) ?_
 refine ar (j:=0) (by kernel_rfl) ((Qi _ _ _).trans ?_)
 refine af rfl (aa (a:=o) rfl ?_)
 refine aa h ?_
 unfold ib
 by_cases he:e=0
 ·rw[if_neg (by simp[he])]
  refine ag (show(e != 0)=false by simp[he]) ?_
  refine ar (j:=0) (by kernel_rfl) ((Qi _ _ _).trans ?_)
  exact ag rfl rfl
 ·rw[if_pos he]
  exact af (show(e != 0)=true by simp[he]) rfl
def Rv(k:Int)(x:ID):bj:=(k,(x,(zI,(zI,(zC,(zC,(false,(e0,0))))))))
def aiR(x:ID):Int:=if b4 x=true then 0 else 1
theorem UA(hG:HG G)(s:StateT)(o:bj){b:Int}(h:FX G 104 M7 ((o,()),())=some ((b,()),()))(hs:Sm s.1)(hg:s.2.length≤50000000){e:Int}{w:aW}
  (h2:b=0→FX G 131 A8 ((o,()),(aL s,()))=some ((e,()),(w,()))):FX G 73 M5 ((s,o,()),())=some ((if b≠0 then(zS,(b,())) else ib e w),()):=by
 refine ax (fn:=Tryz.f73) (hG _ _ rfl) (by kernel_rfl) (by kernel_rfl) ((ZN _ _ _).trans ?_)
 refine aa h ?_
 by_cases hb:b=0
 ·rw[if_neg (by simp[hb])]
  refine ag (show(b != 0)=false by simp[hb]) ?_
  exact aa (agC hG s o hs hg (h2 hb)) rfl
 ·rw[if_pos hb]
  exact af (show(b != 0)=true by simp[hb]) rfl
def shS:StateT:=(([((1,1),([],(e0,0)))],[]),[])
end Go.Vs
namespace Go.Vs
open Go.Proofs
theorem bY.map{l:List ah}(h:bY l){f:ah→ah}(hf:∀v,(f v).1=v.1):bY (l.map f):=by
 unfold bY at h ⊢
 rw[List.pairwise_map]
 exact h.imp fun {a b} nP=>by rw[hf,hf];exact nP
theorem oJ{x:ID}{f:ah→ah}(hf:∀v,(f v).1=v.1):∀(l:List ah),aX (l.map f) x=(aX l x).map f
 |[]=>rfl
 |w::r=>by
  unfold aX
  rw[List.map_cons,List.find?_cons,List.find?_cons,hf]
  have:=oJ (x:=x) hf r
  unfold aX at this
  cases decide (w.1=x) with
  |true=>rfl
  |false=>exact this
theorem ry(x:ID)(l:List ae)(w:ah):(sw x l w).1=w.1:=by unfold sw;split<;>rfl
theorem LK(o:bj)(w:ah):(jf o w).1=w.1:=by unfold jf;split<;>(try split)<;>rfl
structure Iv(d:aj):Prop where
 s:bY d.1
 n:d.1.length≤24
theorem Iv.zero:Iv zS.1:=⟨List.Pairwise.nil,by simp[zS]⟩
theorem Iv.cc{d:aj}(h:Iv d)(x:ID)(l:List ae):Iv (cc d x l):=⟨h.s.map (ry x l),by unfold Vs.cc;simp;exact h.n⟩
theorem Iv.aY{d:aj}(h:Iv d)(v e:ID):Iv (aY d v e):=⟨pU h.s,Nat.le_trans (List.length_filter_le _ _) h.n⟩
theorem Iv.one{s:StateT}(h:Iv s.1)(o:bj):Iv (fS s o).1.1:=by
 unfold fS
 split;· exact Iv.zero
 split
 ·unfold qk
  split;· exact Iv.zero
  split;· exact Iv.zero
  rename_i h1 h2
  exact⟨oI _ h.s (by simpa[aR] using h1),by rw[gE];omega⟩
 split
 ·unfold yJ
  split
  ·exact Iv.zero
  ·split
   ·exact Iv.zero
   ·exact h.aY _ _
 split
 ·unfold oH
  split;· exact Iv.zero
  split;· exact Iv.zero
  split;· exact Iv.zero
  split;· exact Iv.zero
  split;· exact Iv.zero
  have h1:Iv (s.1.1,dy (aK o,(e0,0)) s.1.2):=⟨h.s,h.n⟩
  exact(h1.cc _ _).cc _ _
 split
 ·unfold Dd
  split;· exact Iv.zero
  exact((h.cc _ _).cc _ _).aY _ _
 split
 ·unfold mo
  split;· exact Iv.zero
  split;· exact Iv.zero
  split;· exact Iv.zero
  split;· exact Iv.zero
  split;· exact Iv.zero
  rename_i h1 h2 h3 h4 h5
  have h6:aX s.1.1 (dM o)=none:=by simpa[aR] using h2
  have h7:aX (aH s.1 (Ja o) (aq (Gb o))).1 (dM o)=none:=by
   unfold aH Vs.cc
   rw[oJ (ry _ _),h6];rfl
  refine⟨oI _ (h.cc _ _).s h7,?_⟩
  unfold Rp
  rw[gE]
  have:(aH s.1 (Ja o) (aq (Gb o))).1.length=s.1.1.length:=by unfold aH Vs.cc;simp
  omega
 split
 ·unfold kf
  have key:∀a b:ae,Iv (Kc s o a b):=fun a b=>((h.aY _ _).cc _ _).aY _ _
  split
  ·exact Iv.zero
  ·split
   ·unfold jB
    split;· exact Iv.zero
    split;· exact key _ _
    split;· exact key _ _
    exact Iv.zero
   ·exact Iv.zero
 ·unfold xg
  split
  ·exact⟨h.s.map (LK o),by simp;exact h.n⟩
  ·exact Iv.zero
theorem Iv.go:∀(l:List bj) {s:StateT},Iv s.1→Iv (LH l s).1.1
 |[],s,h=>h
 |o::r,s,h=>by
  unfold LH
  split
  ·exact Iv.zero
  ·exact Iv.go r (h.one o)
theorem Iv.try{s:StateT}(h:Iv s.1)(l:List bj):Iv (mI s l).1:=by
 unfold mI
 split
 ·exact h
 ·unfold fT
  split
  ·exact Iv.zero
  ·exact Iv.go l h
theorem Iv.reach:∀(m:Nat) (l:List (List bj)) {s:StateT},Iv s.1→Iv (mq m l s).1
 |0,_,s,h=>by simpa[mq] using h
 |m+1,[],s,h=>h
 |m+1,l::r,s,h=>by rw[mq];exact Iv.reach m r (h.try _)
theorem Iv.LI(l:List (List bj)):Iv (BV l).1:=Iv.reach 30 l Iv.zero
end Go.Vs
