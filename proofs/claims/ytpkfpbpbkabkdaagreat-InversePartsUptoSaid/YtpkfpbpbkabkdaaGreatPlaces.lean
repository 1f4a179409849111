/- What the program computes at vertices, written plainly. -/
import Derived.Test.YtpkfpbpbkabkdaaGreatRefB
set_option linter.unusedVariables false
set_option linter.unusedSimpArgs false
namespace Go.Vs
open Go.Proofs
variable {G:(f:FuncId)→(g:aN)→Option (g.A→Option g.B)}
theorem NS(hG:G 159 q9=none)(x:ID):FX G 159 q9 ((x,()),())=some ((b4 x,()),()):=by
 refine aw (fn:=Tryz.f159) hG (by kernel_rfl) (by kernel_rfl) ((aga _ _ _).trans ?_)
 obtain⟨a,b⟩:=x
 show(cond (decide (a≥1)) (cond (decide (a≤8)) (cond (decide (b≥1)) (some ((decide (b≤1048576),()),())) (some ((false,()),()))) (some ((false,()),()))) (some ((false,()),())):Option ((Bool×Unit)×Unit))=some ((b4 (a,b),()),())
 unfold b4
 simp only[cond_eq_ite]
 by_cases h1:(1:Int)≤a<;>by_cases h2:a≤8<;>by_cases h3:(1:Int)≤b<;>simp[h1,h2,h3]
theorem Wv(hG:G 235 Bu=none)(n:Int):FX G 235 Bu ((n,()),())=some ((false,()),()):=by
 refine aw (fn:=Tryz.f235) hG (by kernel_rfl) (by kernel_rfl) ((aaZ _ _ _).trans ?_)
 exact congrArg (fun b:Bool=>some ((b,()),())) (show(n != n)=false by simp)
def Kv(a b:Int):Int:=if a<b then -1 else if a>b then 1 else 0
theorem RO(hG:HG G)(a b:Int):FX G 219 Bq ((a,b,()),())=some ((Kv a b,()),()):=by
 refine aw (fn:=Tryz.f219) (hG _ _ rfl) (by kernel_rfl) (by kernel_rfl) ((aaT _ _ _).trans ?_)
 refine aa (Wv (hG _ _ rfl) a) ?_
 refine aa (Wv (hG _ _ rfl) b) ?_
 refine ag rfl (ag rfl ?_)
 unfold Kv
 by_cases h1:a<b
 ·rw[if_pos h1];exact af (decide_eq_true h1) rfl
 rw[if_neg h1]
 refine ag (decide_eq_false h1) ?_
 by_cases h2:a>b
 ·rw[if_pos h2];exact af (decide_eq_true h2) rfl
 rw[if_neg h2];exact ag (decide_eq_false h2) rfl
theorem Ww(hG:G 218 vh=none)(a b:Int):FX G 218 vh (([a,b],()),())=some ((if a≠0 then a else b,()),()):=by
 refine aw (fn:=Tryz.f218) hG (by kernel_rfl) (by kernel_rfl) ((aaS _ _ _).trans ?_)
 by_cases ha:a=0
 ·rw[if_neg (by simp[ha])]
  refine ao (j:=0) (by kernel_rfl) ((zP _ _ _).trans ?_)
  refine af rfl (aa (a:=a) rfl ?_)
  refine ag (show(a != 0)=false by simp[ha]) ?_
  refine ao (j:=0) (by kernel_rfl) ((zP _ _ _).trans ?_)
  refine af rfl (aa (a:=b) rfl ?_)
  by_cases hb:b=0
  ·refine ag (show(b != 0)=false by simp[hb]) ?_
   refine ao (j:=0) (by kernel_rfl) ((zP _ _ _).trans ?_)
   rw[hb]
   exact ag rfl rfl
  ·exact af (show(b != 0)=true by simp[hb]) rfl
 ·rw[if_pos ha]
  refine ao (j:=0) (by kernel_rfl) ((zP _ _ _).trans ?_)
  refine af rfl (aa (a:=a) rfl ?_)
  exact af (show(a != 0)=true by simp[ha]) rfl
theorem RP(hG:HG G)(a b:ID):FX G 208 Bo ((a,b,()),())=some ((pS a b,()),()):=by
 refine aw (fn:=Tryz.f208) (hG _ _ rfl) (by kernel_rfl) (by kernel_rfl) ((aaG _ _ _).trans ?_)
 unfold pS
 by_cases h:a=b
 ·rw[if_pos h];exact af ((jc a b).trans (decide_eq_true h)) rfl
 rw[if_neg h]
 refine ag ((jc a b).trans (decide_eq_false h)) ?_
 refine aa (RO hG a.1 b.1) ?_
 refine aa (RO hG a.2 b.2) ?_
 refine aa (Ww (hG _ _ rfl) (Kv a.1 b.1) (Kv a.2 b.2)) ?_
 refine congrArg (fun n:Int=>some ((n,()),())) ?_
 obtain⟨a1,a2⟩:=a
 obtain⟨b1,b2⟩:=b
 unfold Kv fb
 simp only[Prod.mk.injEq,not_and]at h
 simp only
 by_cases h1:a1<b1
 ·simp[h1]
 ·by_cases h2:a1>b1
  ·have:¬a1=b1:=by omega
   simp[h1,h2,this]
  ·have h3:a1=b1:=by omega
   have h4:=h h3
   subst h3
   by_cases h5:a2<b2
   ·simp[h5]
   ·have:a2>b2:=by omega
    simp[h5,this]
theorem Wx(hG:HG G)(v:ah)(x:ID):FX G 207 D1 ((v,x,()),())=some ((pS v.1 x,()),()):=by
 refine aw (fn:=Tryz.f207) (hG _ _ rfl) (by kernel_rfl) (by kernel_rfl) ((aaF _ _ _).trans ?_)
 exact aa (RP hG v.1 x) rfl
theorem Kw{i j:Nat}(hi:i≤1000000000)(hj:j≤1000000000):IntKind.wrap .i64 (kY .u64 (IntKind.wrap .u64 (IntKind.wrap .i64 ((i:Int)+(j:Int)))) (1:Int))=(((i+j) / 2:Nat):Int):=by
 have e1:IntKind.wrap .i64 ((i:Int)+(j:Int))=((i+j:Nat):Int):=by rw[wrap_small (by omega) (by omega)];rfl
 have e2:IntKind.wrap .u64 ((i+j:Nat):Int)=((i+j:Nat):Int):=by
  unfold IntKind.wrap;simp[IntKind.bits,IntKind.signed];omega
 have e3:kY .u64 ((i+j:Nat):Int) 1=(((i+j) / 2:Nat):Int):=by
  unfold kY
  have:(min (Int.toNat 1) IntKind.u64.bits)=1:=by decide
  rw[this,Int.fdiv_eq_ediv_of_nonneg _ (by omega)]
  rfl
 rw[e1,e2,e3,wrap_small (by omega) (by omega)]
def bG(l:List ah)(x:ID):Nat:=l.countP fun v=>fb v.1 x
def bY(l:List ah):Prop:=l.Pairwise fun a b=>fb a.1 b.1=true
theorem gM{a b c:ID}(h:fb a b=true)(k:fb b c=true):fb a c=true:=by
 simp[fb]at *;omega
theorem ly{a b:ID}(h:fb a b=true):fb b a=false:=by
 simp[fb]at *;omega
theorem lz{a b:ID}(h:fb a b=false)(k:a≠b):fb b a=true:=by
 obtain⟨a1,a2⟩:=a;obtain⟨b1,b2⟩:=b
 simp[fb]at *;omega
theorem FP(l:List ah)(x:ID):bG l x≤l.length:=List.countP_le_length
theorem sw{l:List ah}{x:ID}(h:∀v∈l,fb v.1 x=false):bG l x=0:=by
 unfold bG;rw[List.countP_eq_zero];intro v hv;simp[h v hv]
theorem xk{x:ID}:∀{l:List ah},bY l→∀(k:Nat) (v:ah),l[k]? = some v→(fb v.1 x=true↔k<bG l x)
 |[],_,k,v,h=>by simp at h
 |w::r,hs,k,v,h=>by
  have hw:∀{u:ah},u∈r→fb w.1 u.1=true:=fun {u} hu=>List.rel_of_pairwise_cons hs hu
  have hr:bY r:=hs.of_cons
  by_cases aF:fb w.1 x=true
  ·have e:bG (w::r) x=bG r x+1:=by unfold bG;rw[List.countP_cons_of_pos (by simpa using aF)]
   cases k with
   |zero=>simp at h;subst h;simp[aF,e]
   |succ k=>have:=xk (x:=x) hr k v (by simpa using h);rw[this,e];omega
  ·have hn:∀u∈w::r,fb u.1 x=false:=fun u hu=>by
    rcases List.mem_cons.1 hu with rfl|hu
    ·simpa using aF
    ·rw[Bool.eq_false_iff];intro h2;exact aF (gM (hw hu) h2)
   rw[sw hn,hn v (List.mem_of_getElem? h)]
   simp
theorem RQ(hG:HG G)(l:List ah)(x:ID)(hs:bY l)(hl:l.length≤50000000):∀(n i j:Nat),j-i≤n→i≤bG l x→bG l x≤j→j≤l.length →
  LX G 208206 jt Tryz.f206 iC (aM Tryz.prog 206 0) ((l,(((l.length:Nat):Int),((i:Int),((j:Int),())))),(((x,()),()),()))=some (((((bG l x:Nat):Int),(decide ((l[bG l x]?).map (·.1)=some x),())):Int×(Bool×Unit)),()):=by
 have tG:=FP l x
 have fin:∀(i j:Nat),¬(i<j)→i≤bG l x→bG l x≤j→LX G 208206 jt Tryz.f206 iC (aM Tryz.prog 206 0) ((l,(((l.length:Nat):Int),((i:Int),((j:Int),())))),(((x,()),()),()))=some (((((bG l x:Nat):Int),(decide ((l[bG l x]?).map (·.1)=some x),())):Int×(Bool×Unit)),()):=fun i j zq h1 h2=>by
  have hi:i=bG l x:=by omega
  subst hi
  refine ao (j:=0) (by kernel_rfl) ((BR _ _ _).trans ?_)
  refine ag (decide_eq_false (show ¬(((bG l x:Nat):Int)<(j:Int)) by omega)) ?_
  by_cases hc:bG l x<l.length
  ·have hx:l[bG l x]? = some l[bG l x]:=List.getElem?_eq_getElem hc
   refine af (aX hc) ?_
   refine aa (ax hx) ?_
   refine aa (Wx hG l[bG l x] x) ?_
   refine congrArg (fun b:Bool=>some ((((bG l x:Nat):Int),(b,())),())) ?_
   rw[hx]
   unfold pS
   by_cases he:l[bG l x].1=x
   ·simp[he]
   ·simp[he];split<;>simp
  ·refine ag (decide_eq_false (show ¬(((bG l x:Nat):Int)<((l.length:Nat):Int)) by omega)) ?_
   refine congrArg (fun b:Bool=>some ((((bG l x:Nat):Int),(b,())),())) ?_
   rw[List.getElem?_eq_none (by omega)];simp
 intro n
 induction n with
 |zero=>intro i j zq h1 h2 h3;exact fin i j (by omega) h1 h2
 |succ n ih =>
  intro i j zq h1 h2 h3
  by_cases aF:i<j
  case neg=>exact fin i j aF h1 h2
  refine ao (j:=0) (by kernel_rfl) ((BR _ _ _).trans ?_)
  refine af (decide_eq_true (show((i:Int)<(j:Int)) by omega)) ?_
  refine ag rfl ?_
  have hm:=Kw (i:=i) (j:=j) (by omega) (by omega)
  have hh:(i+j) / 2<l.length:=by omega
  have hx:l[(i+j) / 2]? = some l[(i+j) / 2]:=List.getElem?_eq_getElem hh
  have oi:=xk (x:=x) hs ((i+j) / 2) _ hx
  refine aa (show aY l (IntKind.wrap .i64 (kY .u64 (IntKind.wrap .u64 (IntKind.wrap .i64 ((i:Int)+(j:Int)))) (1:Int)))=some l[(i+j) / 2] by rw[hm];exact ax hx) ?_
  refine aa (Wx hG l[(i+j) / 2] x) ?_
  by_cases ho:fb l[(i+j) / 2].1 x=true
  ·refine af (decide_eq_true ((kb _ _).2 ho)) ?_
   have hc:=oi.1 ho
   have hw:IntKind.wrap .i64 (IntKind.wrap .i64 (kY .u64 (IntKind.wrap .u64 (IntKind.wrap .i64 ((i:Int)+(j:Int)))) (1:Int))+1)=(((i+j) / 2+1:Nat):Int):=by
    rw[hm];exact aE hh (by omega)
   have:=ih ((i+j) / 2+1) j (by omega) (by omega) h2 h3
   rw[←hw]at this
   exact this
  ·refine ag (decide_eq_false (fun h=>ho ((kb _ _).1 h))) ?_
   have hc:¬(i+j) / 2<bG l x:=fun h=>ho (oi.2 h)
   have:=ih i ((i+j) / 2) (by omega) h1 (by omega) (by omega)
   rw[←hm]at this
   exact this
theorem RR(hG:HG G)(l:List ah)(x:ID)(hs:bY l)(hl:l.length≤50000000) :
  FX G 208206 jt ((l,x,()),())=some (((((bG l x:Nat):Int),(decide ((l[bG l x]?).map (·.1)=some x),())):Int×(Bool×Unit)),()):=by
 refine aw (fn:=Tryz.f206) (hG _ _ rfl) (by kernel_rfl) (by kernel_rfl) ((Rj _ _ _).trans ?_)
 exact RQ hG l x hs hl l.length 0 l.length (by omega) (by omega) (FP l x) (Nat.le_refl _)
theorem qm(hG:HG G)(w:aV)(x:ID)(hs:bY w.1)(hl:w.1.length≤50000000) :
  FX G 175 qj ((x,()),(w,()))=some (((((bG w.1 x:Nat):Int),(decide ((w.1[bG w.1 x]?).map (·.1)=some x),())):Int×(Bool×Unit)),(w,())):=by
 refine aw (fn:=Tryz.f175) (hG _ _ rfl) (by kernel_rfl) (by kernel_rfl) ((aar _ _ _).trans ?_)
 exact aa (RR hG w.1 x hs hl) rfl
theorem sx{x:ID}:∀{l:List ah},bY l→ba l x=(l[bG l x]?).filter fun v=>decide (v.1=x)
 |[],_=>rfl
 |w::r,hs=>by
  have hw:∀{u:ah},u∈r→fb w.1 u.1=true:=fun {u} hu=>List.rel_of_pairwise_cons hs hu
  have hr:bY r:=hs.of_cons
  by_cases aF:fb w.1 x=true
  ·have e:bG (w::r) x=bG r x+1:=by unfold bG;rw[List.countP_cons_of_pos (by simpa using aF)]
   have br:¬w.1=x:=fun e=>by rw[e,cd]at aF;cases aF
   rw[e]
   simp only[ba,List.find?_cons,br,decide_false,List.getElem?_cons_succ]
   exact sx hr
  ·have hn:∀u∈w::r,fb u.1 x=false:=fun u hu=>by
    rcases List.mem_cons.1 hu with rfl|hu
    ·simpa using aF
    ·rw[Bool.eq_false_iff];intro h2;exact aF (gM (hw hu) h2)
   rw[sw hn]
   by_cases he:w.1=x
   ·simp[ba,List.find?_cons,he,Option.filter]
   ·have Jo:fb x w.1=true:=lz (by simpa using aF) he
    have:ba r x=none:=by
     unfold ba;rw[List.find?_eq_none];intro u hu h2
     have h3:u.1=x:=by simpa using h2
     have h4:=hw hu
     rw[h3]at h4
     have:=ly h4
     rw[Jo]at this;cases this
    rw[show ba (w::r) x=ba r x by simp only[ba,List.find?_cons,he,decide_false],this]
    simp[he,Option.filter]
theorem fN{l:List ah}{x:ID}(hs:bY l):decide ((l[bG l x]?).map (·.1)=some x)=(ba l x).isSome:=by
 rw[sx hs]
 cases h:l[bG l x]? with
 |none=>simp
 |some v=>by_cases he:v.1=x<;>simp[he,Option.filter]
theorem Ik(v:ah):∀{l:List ah},bY l→ba l v.1=none→eI v l=l.take (bG l v.1)++(v::l.drop (bG l v.1))
 |[],_,_=>rfl
 |w::r,hs,hf=>by
  have hw:∀{u:ah},u∈r→fb w.1 u.1=true:=fun {u} hu=>List.rel_of_pairwise_cons hs hu
  have hr:bY r:=hs.of_cons
  have br:¬w.1=v.1:=fun e=>by simp[ba,e]at hf
  have DW:ba r v.1=none:=by simpa[ba,List.find?_cons,br] using hf
  by_cases aF:fb w.1 v.1=true
  ·have e:bG (w::r) v.1=bG r v.1+1:=by unfold bG;rw[List.countP_cons_of_pos (by simpa using aF)]
   have VQ:fb v.1 w.1=false:=ly aF
   rw[e,eI,if_neg (by simp[VQ]),Ik v hr DW]
   rfl
  ·have hn:∀u∈w::r,fb u.1 v.1=false:=fun u hu=>by
    rcases List.mem_cons.1 hu with rfl|hu
    ·simpa using aF
    ·rw[Bool.eq_false_iff];intro h2;exact aF (gM (hw hu) h2)
   have Jo:fb v.1 w.1=true:=lz (by simpa using aF) br
   rw[sw hn,eI,if_pos Jo];rfl
theorem xl{x:ID}:∀{l:List ah},bY l→(ba l x).isSome=true→dA l x=l.take (bG l x)++l.drop (bG l x+1)
 |[],_,hf=>by simp[ba]at hf
 |w::r,hs,hf=>by
  have hw:∀{u:ah},u∈r→fb w.1 u.1=true:=fun {u} hu=>List.rel_of_pairwise_cons hs hu
  have hr:bY r:=hs.of_cons
  by_cases he:w.1=x
  ·have hn:∀u∈w::r,fb u.1 x=false:=fun u hu=>by
    rcases List.mem_cons.1 hu with rfl|hu
    ·rw[he,cd]
    ·rw[←he];exact ly (hw hu)
   have eW:dA r x=r:=by
    unfold dA;rw[List.filter_eq_self];intro u hu
    have h4:=hw hu
    simp;intro e2;rw[he,e2,cd]at h4;cases h4
   rw[sw hn]
   unfold dA
   rw[List.filter_cons_of_neg (by simp[he])]
   exact eW
  ·have DW:(ba r x).isSome=true:=by simpa[ba,List.find?_cons,he] using hf
   have aF:fb w.1 x=true:=by
    obtain⟨u,hu⟩:=Option.isSome_iff_exists.1 DW
    have h1:=List.mem_of_find?_eq_some hu
    have h2:u.1=x:=by simpa using List.find?_some hu
    rw[←h2];exact hw h1
   have e:bG (w::r) x=bG r x+1:=by unfold bG;rw[List.countP_cons_of_pos (by simpa using aF)]
   rw[e]
   have:=xl hr DW
   simp[dA,List.filter_cons,he]at this ⊢
   exact this
theorem oH(v:ah):∀{l:List ah},bY l→ba l v.1=none→bY (eI v l)
 |[],_,_=>List.pairwise_singleton _ _
 |w::r,hs,hf=>by
  have hw:∀{u:ah},u∈r→fb w.1 u.1=true:=fun {u} hu=>List.rel_of_pairwise_cons hs hu
  have hr:bY r:=hs.of_cons
  have br:¬w.1=v.1:=fun e=>by simp[ba,e]at hf
  have DW:ba r v.1=none:=by simpa[ba,List.find?_cons,br] using hf
  unfold eI
  split
  ·rename_i h
   refine List.Pairwise.cons (fun u hu=>?_) hs
   rcases List.mem_cons.1 hu with rfl|hu
   ·exact h
   ·exact gM h (hw hu)
  ·rename_i h
   have aF:fb w.1 v.1=true:=lz (by simpa using h) (fun e=>br e.symm)
   refine List.Pairwise.cons (fun u hu=>?_) (oH v hr DW)
   rcases mj.1 hu with rfl|hu
   ·exact aF
   ·exact hw hu
theorem pW{l:List ah}{x:ID}(hs:bY l):bY (dA l x):=hs.filter _
end Go.Vs
namespace Go.Vs
open Go.Proofs
variable {G:(f:FuncId)→(g:aN)→Option (g.A→Option g.B)}
theorem ag3(hG:G 127 NB=none)(l:List ah)(hl:l.length≤50000000):FX G 127 NB ((l,()),())=some ((l,()),()):=by
 refine aw (fn:=Tryz.f127) hG (by kernel_rfl) (by kernel_rfl) ((af3 _ _ _).trans ?_)
 cases l with
 |nil=>exact af rfl (mS (by omega) fun j hj=>by cases j<;>rfl)
 |cons x r=>exact ag rfl (af (fits (by simp at hl ⊢;omega)) rfl)
theorem ag4(hG:G 128 NC=none)(l:List ai)(hl:l.length≤50000000):FX G 128 NC ((l,()),())=some ((l,()),()):=by
 refine aw (fn:=Tryz.f128) hG (by kernel_rfl) (by kernel_rfl) ((af4 _ _ _).trans ?_)
 cases l with
 |nil=>exact af rfl (mS (by omega) fun j hj=>by cases j<;>rfl)
 |cons x r=>exact ag rfl (af (fits (by simp at hl ⊢;omega)) rfl)
theorem X2(hG:G 110 ze=none)(l:List ae)(hl:l.length≤50000000):FX G 110 ze ((l,()),())=some ((l,()),()):=by
 refine aw (fn:=Tryz.f110) hG (by kernel_rfl) (by kernel_rfl) ((af5 _ _ _).trans ?_)
 cases l with
 |nil=>exact af rfl (mS (by omega) fun j hj=>by cases j<;>rfl)
 |cons x r=>exact ag rfl (af (fits (by simp at hl ⊢;omega)) rfl)
theorem X3(hG:G 97 Ke=none)(l:List aA)(hl:l.length≤50000000):FX G 97 Ke ((l,()),())=some ((l,()),()):=by
 refine aw (fn:=Tryz.f97) hG (by kernel_rfl) (by kernel_rfl) ((afK _ _ _).trans ?_)
 cases l with
 |nil=>exact af rfl (mS (by omega) fun j hj=>by cases j<;>rfl)
 |cons x r=>exact ag rfl (af (fits (by simp at hl ⊢;omega)) rfl)
theorem RS{α:Type}{l:List α}{i:Nat}{x:α}(h:l[i]? = some x):l.set i x=l:=by
 obtain⟨hi,he⟩:=List.getElem?_eq_some_iff.1 h
 subst he;simp
theorem ab2(hG:HG G)(d:aj)(hs:Sm d):FX G 96 Hs ((d,()),())=some (((d.1,(d.2,())),()),()):=by
 have hv:=hs.v;have he:=hs.e
 refine aw (fn:=Tryz.f96) (hG _ _ rfl) (by kernel_rfl) (by kernel_rfl) ((afJ _ _ _).trans ?_)
 refine aa (ag3 (hG _ _ rfl) d.1 (by omega)) ?_
 refine aa (ag4 (hG _ _ rfl) d.2 (by omega)) ?_
 have loop:∀(n i:Nat) (out:List ah),i+n=d.1.length→out=d.1→LX G 96 Hs Tryz.f96 BN (aM Tryz.prog 96 0) ((((d.1.length:Nat):Int),((i:Int),())),(((([]:List ah),(([]:List ai),())),((out,(d.2,())),())),()))=some (((d.1,(d.2,())),()),()):=by
  intro n
  induction n with
  |zero =>
   intro i out hi ho
   subst ho
   refine ao (j:=0) (by kernel_rfl) ((QR _ _ _).trans ?_)
   exact ag (decide_eq_false (show ¬((i:Int)<((d.1.length:Nat):Int)) by omega)) rfl
  |succ n ih =>
   intro i out hi ho
   have nt:=ho
   subst ho
   refine ao (j:=0) (by kernel_rfl) ((QR _ _ _).trans ?_)
   have aF:i<d.1.length:=by omega
   have hx:d.1[i]? = some d.1[i]:=List.getElem?_eq_getElem aF
   refine af (aX aF) ?_
   refine af (cY (fh i) (aX aF)) ?_
   refine aa hx ?_
   refine aa (X2 (hG _ _ rfl) d.1[i].2.1 (hs.r _ (List.getElem_mem aF))) ?_
   refine af (cY (fh i) (aX aF)) ?_
   refine aa hx ?_
   rw[wI,aE aF (show d.1.length≤1073741824 by omega)]
   exact ih (i+1) (d.1.set i d.1[i]) (by omega) (RS hx)
 exact loop d.1.length 0 d.1 (by omega) rfl
def qn(w:aV)(v:ah):Int×aV :=
 if(ba w.1 v.1).isSome=true then(12,w) else if 24≤w.1.length then(3,w) else(0,(eI v w.1,w.2))
def Ec(w:aV)(x:ID):Int×aV:=match ba w.1 x with
 |none=>(13,w)
 |some v=>if 0<v.2.1.length then(14,w) else(0,(dA w.1 x,w.2))
theorem X4(hG:HG G)(w:aV)(v:ah)(hs:bY w.1)(hl:w.1.length≤50000000):FX G 152 Hv ((v,()),(w,()))=some (((qn w v).1,()),((qn w v).2,())):=by
 refine aw (fn:=Tryz.f152) (hG _ _ rfl) (by kernel_rfl) (by kernel_rfl) ((age _ _ _).trans ?_)
 refine aa (qm hG w v.1 hs hl) ?_
 unfold qn
 cases hf:(ba w.1 v.1).isSome
 ·rw[if_neg (by simp)]
  refine ag ((fN hs).trans hf) ?_
  by_cases h2:24≤w.1.length
  ·rw[if_pos h2]
   exact af (decide_eq_true (show((w.1.length:Nat):Int)≥24 by omega)) rfl
  ·rw[if_neg h2]
   refine ag (decide_eq_false (show ¬((w.1.length:Nat):Int)≥24 by omega)) ?_
   have hc:=FP w.1 v.1
   have mw:qF w.1 ((bG w.1 v.1:Nat):Int) [v]=true:=by
    unfold qF
    rw[decide_eq_true (show(0:Int)≤((bG w.1 v.1:Nat):Int) by omega),decide_eq_true (show((bG w.1 v.1:Nat):Int)≤((w.1.length:Nat):Int) by omega)]
    rw[fits (by simp;omega)];rfl
   refine af mw ?_
   have e:fY w.1 ((bG w.1 v.1:Nat):Int) [v]=eI v w.1:=by
    rw[Ik v hs (by simpa using hf)]
    unfold fY;simp
   exact congrArg (fun l:List ah=>some (((0:Int),()),((l,w.2),()))) e
 ·rw[if_pos rfl]
  exact af ((fN hs).trans hf) rfl
theorem ag5(hG:HG G)(w:aV)(o:aZ)(hs:bY w.1)(hl:w.1.length≤50000000):FX G 153 Qn ((o,()),(w,()))=some (((Ec w (aK o)).1,()),((Ec w (aK o)).2,())):=by
 refine aw (fn:=Tryz.f153) (hG _ _ rfl) (by kernel_rfl) (by kernel_rfl) ((agf _ _ _).trans ?_)
 refine aa (qm hG w (aK o) hs hl) ?_
 unfold Ec
 have hth:=fN (x:=aK o) hs
 have kG:=sx (x:=aK o) hs
 cases hf:ba w.1 (aK o) with
 |none =>
  rw[hf]at hth
  refine af (show(!(decide ((w.1[bG w.1 (aK o)]?).map (·.1)=some (aK o))))=true by rw[hth];rfl) rfl
 |some v =>
  rw[hf]at hth kG
  refine ag (show(!(decide ((w.1[bG w.1 (aK o)]?).map (·.1)=some (aK o))))=false by rw[hth];rfl) ?_
  have hx:w.1[bG w.1 (aK o)]? = some v:=by
   cases hg:w.1[bG w.1 (aK o)]? with
   |none=>rw[hg]at kG;simp[Option.filter]at kG
   |some u =>
    rw[hg]at kG
    simp only[Option.filter]at kG
    split at kG
    ·exact kG.symm
    ·cases kG
  have aF:=(List.getElem?_eq_some_iff.1 hx).1
  refine af (cY (fh _) (aX aF)) ?_
  refine aa hx ?_
  show _=some ((((if 0<v.2.1.length then(14,w) else(0,(dA w.1 (aK o),w.2)):Int×aV).1,()),((if 0<v.2.1.length then(14,w) else(0,(dA w.1 (aK o),w.2)):Int×aV).2,())):(Int×Unit)×(aV×Unit))
  by_cases h2:0<v.2.1.length
  ·rw[if_pos h2]
   exact af (decide_eq_true (show((v.2.1.length:Nat):Int)>0 by omega)) rfl
  ·rw[if_neg h2]
   refine ag (decide_eq_false (show ¬((v.2.1.length:Nat):Int)>0 by omega)) ?_
   have hw:IntKind.wrap .i64 (((bG w.1 (aK o):Nat):Int)+1)=((bG w.1 (aK o)+1:Nat):Int):=aE aF (by omega)
   have mw:jC w.1 ((bG w.1 (aK o):Nat):Int) (IntKind.wrap .i64 (((bG w.1 (aK o):Nat):Int)+1))=true:=by
    rw[hw]
    unfold jC
    rw[decide_eq_true (show(0:Int)≤((bG w.1 (aK o):Nat):Int) by omega),decide_eq_true (show((bG w.1 (aK o):Nat):Int)<((bG w.1 (aK o)+1:Nat):Int) by omega),decide_eq_true (show((bG w.1 (aK o)+1:Nat):Int)≤((w.1.length:Nat):Int) by omega),fits (by omega)];rfl
   refine af mw ?_
   have e:du w.1 ((bG w.1 (aK o):Nat):Int) (IntKind.wrap .i64 (((bG w.1 (aK o):Nat):Int)+1))=dA w.1 (aK o):=by
    rw[hw,xl hs (by rw[hf];rfl)]
    unfold du;simp only[Int.toNat_natCast]
   exact congrArg (fun l:List ah=>some (((0:Int),()),((l,w.2),()))) e
def zW:aV:=([],([],([],())))
def aL(s:StateT):aV:=(s.1.1,(s.1.2,(s.2,())))
def zX(w:aV):StateT:=((w.1,w.2.1),w.2.2.1)
def gE(e:Int)(w:aV):StateT×(Int×Unit):=if e≠0 then(zS,(e,())) else(zX w,(0,()))
theorem ag6(hG:HG G)(s:StateT)(o:aZ)(hs:Sm s.1)(hg:s.2.length≤50000000){e:Int}{w:aV}(h:FX G 131 Bg ((o,()),(aL s,()))=some ((e,()),(w,()))) :
  FX G 103 Dd ((s,[o],()),())=some (gE e w,()):=by
 refine aw (fn:=Tryz.f103) (hG _ _ rfl) (by kernel_rfl) (by kernel_rfl) ((aah _ _ _).trans ?_)
 refine aa (ab2 hG s.1 hs) ?_
 refine aa (X3 (hG _ _ rfl) s.2 hg) ?_
 refine ao (j:=0) (by kernel_rfl) ((Fs _ _ _).trans ?_)
 refine af rfl (aa (a:=o) rfl ?_)
 refine aa h ?_
 unfold gE
 by_cases he:e=0
 ·rw[if_neg (by simp[he])]
  refine ag (show(e != 0)=false by simp[he]) ?_
  refine ao (j:=0) (by kernel_rfl) ((Fs _ _ _).trans ?_)
  exact ag rfl rfl
 ·rw[if_pos he]
  exact af (show(e != 0)=true by simp[he]) rfl
def RT(k:Int)(x:ID):aZ:=(k,(x,(zI,(zI,(zC,(zC,(false,(e0,0))))))))
def ajo(x:ID):Int:=if b4 x=true then 0 else 1
theorem UQ(hG:HG G)(s:StateT)(o:aZ){b:Int}(h:FX G 104 Kd ((o,()),())=some ((b,()),()))(hs:Sm s.1)(hg:s.2.length≤50000000){e:Int}{w:aV}
  (h2:b=0→FX G 131 Bg ((o,()),(aL s,()))=some ((e,()),(w,()))):FX G 73 Kc ((s,o,()),())=some ((if b≠0 then(zS,(b,())) else gE e w),()):=by
 refine aw (fn:=Tryz.f73) (hG _ _ rfl) (by kernel_rfl) (by kernel_rfl) ((aag _ _ _).trans ?_)
 refine aa h ?_
 by_cases hb:b=0
 ·rw[if_neg (by simp[hb])]
  refine ag (show(b != 0)=false by simp[hb]) ?_
  exact aa (ag6 hG s o hs hg (h2 hb)) rfl
 ·rw[if_pos hb]
  exact af (show(b != 0)=true by simp[hb]) rfl
def shS:StateT:=(([((1,1),([],(e0,0)))],[]),[])
end Go.Vs
namespace Go.Vs
open Go.Proofs
theorem bY.map{l:List ah}(h:bY l){f:ah→ah}(hf:∀v,(f v).1=v.1):bY (l.map f):=by
 unfold bY at h ⊢
 rw[List.pairwise_map]
 exact h.imp fun {a b} nO=>by rw[hf,hf];exact nO
theorem oI{x:ID}{f:ah→ah}(hf:∀v,(f v).1=v.1):∀(l:List ah),ba (l.map f) x=(ba l x).map f
 |[]=>rfl
 |w::r=>by
  unfold ba
  rw[List.map_cons,List.find?_cons,List.find?_cons,hf]
  have:=oI (x:=x) hf r
  unfold ba at this
  cases decide (w.1=x) with
  |true=>rfl
  |false=>exact this
theorem ry(x:ID)(l:List ae)(w:ah):(su x l w).1=w.1:=by unfold su;split<;>rfl
theorem L9(o:aZ)(w:ah):(jf o w).1=w.1:=by unfold jf;split<;>(try split)<;>rfl
structure Iv(d:aj):Prop where
 s:bY d.1
 n:d.1.length≤24
theorem Iv.zero:Iv zS.1:=⟨List.Pairwise.nil,by simp[zS]⟩
theorem Iv.cf{d:aj}(h:Iv d)(x:ID)(l:List ae):Iv (cf d x l):=⟨h.s.map (ry x l),by unfold Vs.cf;simp;exact h.n⟩
theorem Iv.bf{d:aj}(h:Iv d)(v e:ID):Iv (bf d v e):=⟨pW h.s,Nat.le_trans (List.length_filter_le _ _) h.n⟩
theorem Iv.one{s:StateT}(h:Iv s.1)(o:aZ):Iv (dX s o).1.1:=by
 unfold dX
 split;· exact Iv.zero
 split
 ·unfold ql
  split;· exact Iv.zero
  split;· exact Iv.zero
  rename_i h1 h2
  exact⟨oH _ h.s (by simpa[aR] using h1),by rw[gy];omega⟩
 split
 ·unfold yN
  split
  ·exact Iv.zero
  ·split
   ·exact Iv.zero
   ·exact h.bf _ _
 split
 ·unfold oG
  split;· exact Iv.zero
  split;· exact Iv.zero
  split;· exact Iv.zero
  split;· exact Iv.zero
  split;· exact Iv.zero
  have h1:Iv (s.1.1,dw (aK o,(e0,0)) s.1.2):=⟨h.s,h.n⟩
  exact(h1.cf _ _).cf _ _
 split
 ·unfold Dm
  split;· exact Iv.zero
  exact((h.cf _ _).cf _ _).bf _ _
 split
 ·unfold ml
  split;· exact Iv.zero
  split;· exact Iv.zero
  split;· exact Iv.zero
  split;· exact Iv.zero
  split;· exact Iv.zero
  rename_i h1 h2 h3 h4 h5
  have h6:ba s.1.1 (dM o)=none:=by simpa[aR] using h2
  have h7:ba (aH s.1 (Jq o) (ar (Gj o))).1 (dM o)=none:=by
   unfold aH Vs.cf
   rw[oI (ry _ _),h6];rfl
  refine⟨oH _ (h.cf _ _).s h7,?_⟩
  unfold RN
  rw[gy]
  have:(aH s.1 (Jq o) (ar (Gj o))).1.length=s.1.1.length:=by unfold aH Vs.cf;simp
  omega
 split
 ·unfold kc
  have key:∀a b:ae,Iv (Ku s o a b):=fun a b=>((h.bf _ _).cf _ _).bf _ _
  split
  ·exact Iv.zero
  ·split
   ·unfold jz
    split;· exact Iv.zero
    split;· exact key _ _
    split;· exact key _ _
    exact Iv.zero
   ·exact Iv.zero
 ·unfold xi
  split
  ·exact⟨h.s.map (L9 o),by simp;exact h.n⟩
  ·exact Iv.zero
theorem Iv.go:∀(l:List aZ) {s:StateT},Iv s.1→Iv (vM l s).1.1
 |[],s,h=>h
 |o::r,s,h=>by
  unfold vM
  split
  ·exact Iv.zero
  ·exact Iv.go r (h.one o)
theorem Iv.try{s:StateT}(h:Iv s.1)(l:List aZ):Iv (mH s l).1:=by
 unfold mH
 split
 ·exact h
 ·unfold cH
  split
  ·exact Iv.zero
  ·exact Iv.go l h
theorem Iv.reach:∀(m:Nat) (l:List (List aZ)) {s:StateT},Iv s.1→Iv (mn m l s).1
 |0,_,s,h=>by simpa[mn] using h
 |m+1,[],s,h=>h
 |m+1,l::r,s,h=>by rw[mn];exact Iv.reach m r (h.try _)
theorem Iv.L8(l:List (List aZ)):Iv (B8 l).1:=Iv.reach 30 l Iv.zero
end Go.Vs
