/- What the program computes at vertices, written plainly. -/
import Derived.Test.YtpkfpbpbkabkdaaGreatRefB
set_option linter.unusedVariables false
set_option linter.unusedSimpArgs false
namespace Go.Vs
open Go.Proofs
variable {G:(f:FuncId)→(g:aK)→Option (g.A→Option g.B)}
theorem Kd(hG:G 159 pH=none)(x:ID):FX G 159 pH ((x,()),())=some ((dF x,()),()):=by
 refine aI (fn:=Tryz.f159) hG (by kernel_rfl) (by kernel_rfl) ((Zk _ _ _).trans ?_)
 obtain⟨a,b⟩:=x
 show(cond (decide (a≥1)) (cond (decide (a≤8)) (cond (decide (b≥1)) (some ((decide (b≤1048576),()),())) (some ((false,()),()))) (some ((false,()),()))) (some ((false,()),())):Option ((Bool×Unit)×Unit))=some ((dF (a,b),()),())
 unfold dF
 simp only[cond_eq_ite]
 by_cases h1:(1:Int)≤a<;>by_cases h2:a≤8<;>by_cases h3:(1:Int)≤b<;>simp[h1,h2,h3]
theorem QV(hG:G 235 yM=none)(n:Int):FX G 235 yM ((n,()),())=some ((false,()),()):=by
 refine aI (fn:=Tryz.f235) hG (by kernel_rfl) (by kernel_rfl) ((Vi _ _ _).trans ?_)
 exact congrArg (fun b:Bool=>some ((b,()),())) (show(n != n)=false by simp)
def Hc(a b:Int):Int:=if a<b then -1 else if a>b then 1 else 0
theorem MN(hG:HG G)(a b:Int):FX G 219 yK ((a,b,()),())=some ((Hc a b,()),()):=by
 refine aI (fn:=Tryz.f219) (hG _ _ rfl) (by kernel_rfl) (by kernel_rfl) ((Vc _ _ _).trans ?_)
 refine aa (QV (hG _ _ rfl) a) ?_
 refine aa (QV (hG _ _ rfl) b) ?_
 refine af rfl (af rfl ?_)
 unfold Hc
 by_cases h1:a<b
 ·rw[if_pos h1];exact ae (decide_eq_true h1) rfl
 rw[if_neg h1]
 refine af (decide_eq_false h1) ?_
 by_cases h2:a>b
 ·rw[if_pos h2];exact ae (decide_eq_true h2) rfl
 rw[if_neg h2];exact af (decide_eq_false h2) rfl
theorem QW(hG:G 218 tq=none)(a b:Int):FX G 218 tq (([a,b],()),())=some ((if a≠0 then a else b,()),()):=by
 refine aI (fn:=Tryz.f218) hG (by kernel_rfl) (by kernel_rfl) ((Vb _ _ _).trans ?_)
 by_cases ha:a=0
 ·rw[if_neg (by simp[ha])]
  refine aQ (j:=0) (by kernel_rfl) ((wZ _ _ _).trans ?_)
  refine ae rfl (aa (a:=a) rfl ?_)
  refine af (show(a != 0)=false by simp[ha]) ?_
  refine aQ (j:=0) (by kernel_rfl) ((wZ _ _ _).trans ?_)
  refine ae rfl (aa (a:=b) rfl ?_)
  by_cases hb:b=0
  ·refine af (show(b != 0)=false by simp[hb]) ?_
   refine aQ (j:=0) (by kernel_rfl) ((wZ _ _ _).trans ?_)
   rw[hb]
   exact af rfl rfl
  ·exact ae (show(b != 0)=true by simp[hb]) rfl
 ·rw[if_pos ha]
  refine aQ (j:=0) (by kernel_rfl) ((wZ _ _ _).trans ?_)
  refine ae rfl (aa (a:=a) rfl ?_)
  exact ae (show(a != 0)=true by simp[ha]) rfl
theorem MO(hG:HG G)(a b:ID):FX G 208 yJ ((a,b,()),())=some ((AI a b,()),()):=by
 refine aI (fn:=Tryz.f208) (hG _ _ rfl) (by kernel_rfl) (by kernel_rfl) ((UW _ _ _).trans ?_)
 unfold AI
 by_cases h:a=b
 ·rw[if_pos h];exact ae ((ER a b).trans (decide_eq_true h)) rfl
 rw[if_neg h]
 refine af ((ER a b).trans (decide_eq_false h)) ?_
 refine aa (MN hG a.1 b.1) ?_
 refine aa (MN hG a.2 b.2) ?_
 refine aa (QW (hG _ _ rfl) (Hc a.1 b.1) (Hc a.2 b.2)) ?_
 refine congrArg (fun n:Int=>some ((n,()),())) ?_
 obtain⟨a1,a2⟩:=a
 obtain⟨b1,b2⟩:=b
 unfold Hc fU
 simp only[Prod.mk.injEq,not_and]at h
 simp only
 by_cases h1:a1<b1
 ·simp[h1]
 ·by_cases h2:a1>b1
  ·have:¬a1=b1:=by omega
   simp[h1,h2,this]
  ·have h3:a1=b1:=by omega
   have h4:=h h3
   subst h3
   by_cases h5:a2<b2
   ·simp[h5]
   ·have:a2>b2:=by omega
    simp[h5,this]
theorem QX(hG:HG G)(v:ah)(x:ID):FX G 207 Bn ((v,x,()),())=some ((AI v.1 x,()),()):=by
 refine aI (fn:=Tryz.f207) (hG _ _ rfl) (by kernel_rfl) (by kernel_rfl) ((UU _ _ _).trans ?_)
 exact aa (MO hG v.1 x) rfl
theorem Hd{i j:Nat}(hi:i≤1000000000)(hj:j≤1000000000):IntKind.wrap .i64 (kc .u64 (IntKind.wrap .u64 (IntKind.wrap .i64 ((i:Int)+(j:Int)))) (1:Int))=(((i+j) / 2:Nat):Int):=by
 have e1:IntKind.wrap .i64 ((i:Int)+(j:Int))=((i+j:Nat):Int):=by rw[wrap_small (by omega) (by omega)];rfl
 have e2:IntKind.wrap .u64 ((i+j:Nat):Int)=((i+j:Nat):Int):=by
  unfold IntKind.wrap;simp[IntKind.bits,IntKind.signed];omega
 have e3:kc .u64 ((i+j:Nat):Int) 1=(((i+j) / 2:Nat):Int):=by
  unfold kc
  have:(min (Int.toNat 1) IntKind.u64.bits)=1:=by decide
  rw[this,Int.fdiv_eq_ediv_of_nonneg _ (by omega)]
  rfl
 rw[e1,e2,e3,wrap_small (by omega) (by omega)]
def bj(l:List ah)(x:ID):Nat:=l.countP fun v=>fU v.1 x
def bM(l:List ah):Prop:=l.Pairwise fun a b=>fU a.1 b.1=true
theorem gY{a b c:ID}(h:fU a b=true)(k:fU b c=true):fU a c=true:=by
 simp[fU]at *;omega
theorem kx{a b:ID}(h:fU a b=true):fU b a=false:=by
 simp[fU]at *;omega
theorem ky{a b:ID}(h:fU a b=false)(k:a≠b):fU b a=true:=by
 obtain⟨a1,a2⟩:=a;obtain⟨b1,b2⟩:=b
 simp[fU]at *;omega
theorem CW(l:List ah)(x:ID):bj l x≤l.length:=List.countP_le_length
theorem qA{l:List ah}{x:ID}(h:∀v∈l,fU v.1 x=false):bj l x=0:=by
 unfold bj;rw[List.countP_eq_zero];intro v hv;simp[h v hv]
theorem u4{x:ID}:∀{l:List ah},bM l→∀(k:Nat) (v:ah),l[k]? = some v→(fU v.1 x=true↔k<bj l x)
 |[],_,k,v,h=>by simp at h
 |w::r,hs,k,v,h=>by
  have hw:∀{u:ah},u∈r→fU w.1 u.1=true:=fun {u} hu=>List.rel_of_pairwise_cons hs hu
  have hr:bM r:=hs.of_cons
  by_cases aG:fU w.1 x=true
  ·have e:bj (w::r) x=bj r x+1:=by unfold bj;rw[List.countP_cons_of_pos (by simpa using aG)]
   cases k with
   |zero=>simp at h;subst h;simp[aG,e]
   |succ k=>have:=u4 (x:=x) hr k v (by simpa using h);rw[this,e];omega
  ·have hn:∀u∈w::r,fU u.1 x=false:=fun u hu=>by
    rcases List.mem_cons.1 hu with rfl|hu
    ·simpa using aG
    ·rw[Bool.eq_false_iff];intro h2;exact aG (gY (hw hu) h2)
   rw[qA hn,hn v (List.mem_of_getElem? h)]
   simp
theorem MP(hG:HG G)(l:List ah)(x:ID)(hs:bM l)(hl:l.length≤50000000):∀(n i j:Nat),j-i≤n→i≤bj l x→bj l x≤j→j≤l.length →
  LX G 208206 iy Tryz.f206 gK (bY Tryz.prog 206 0) ((l,(((l.length:Nat):Int),((i:Int),((j:Int),())))),(((x,()),()),()))=some (((((bj l x:Nat):Int),(decide ((l[bj l x]?).map (·.1)=some x),())):Int×(Bool×Unit)),()):=by
 have rM:=CW l x
 have fin:∀(i j:Nat),¬(i<j)→i≤bj l x→bj l x≤j→LX G 208206 iy Tryz.f206 gK (bY Tryz.prog 206 0) ((l,(((l.length:Nat):Int),((i:Int),((j:Int),())))),(((x,()),()),()))=some (((((bj l x:Nat):Int),(decide ((l[bj l x]?).map (·.1)=some x),())):Int×(Bool×Unit)),()):=fun i j xQ h1 h2=>by
  have hi:i=bj l x:=by omega
  subst hi
  refine aQ (j:=0) (by kernel_rfl) ((yQ _ _ _).trans ?_)
  refine af (decide_eq_false (show ¬(((bj l x:Nat):Int)<(j:Int)) by omega)) ?_
  by_cases hc:bj l x<l.length
  ·have hx:l[bj l x]? = some l[bj l x]:=List.getElem?_eq_getElem hc
   refine ae (cg hc) ?_
   refine aa (bZ hx) ?_
   refine aa (QX hG l[bj l x] x) ?_
   refine congrArg (fun b:Bool=>some ((((bj l x:Nat):Int),(b,())),())) ?_
   rw[hx]
   unfold AI
   by_cases he:l[bj l x].1=x
   ·simp[he]
   ·simp[he];split<;>simp
  ·refine af (decide_eq_false (show ¬(((bj l x:Nat):Int)<((l.length:Nat):Int)) by omega)) ?_
   refine congrArg (fun b:Bool=>some ((((bj l x:Nat):Int),(b,())),())) ?_
   rw[List.getElem?_eq_none (by omega)];simp
 intro n
 induction n with
 |zero=>intro i j xQ h1 h2 h3;exact fin i j (by omega) h1 h2
 |succ n ih =>
  intro i j xQ h1 h2 h3
  by_cases aG:i<j
  case neg=>exact fin i j aG h1 h2
  refine aQ (j:=0) (by kernel_rfl) ((yQ _ _ _).trans ?_)
  refine ae (decide_eq_true (show((i:Int)<(j:Int)) by omega)) ?_
  refine af rfl ?_
  have hm:=Hd (i:=i) (j:=j) (by omega) (by omega)
  have hh:(i+j) / 2<l.length:=by omega
  have hx:l[(i+j) / 2]? = some l[(i+j) / 2]:=List.getElem?_eq_getElem hh
  have mH:=u4 (x:=x) hs ((i+j) / 2) _ hx
  refine aa (show dw l (IntKind.wrap .i64 (kc .u64 (IntKind.wrap .u64 (IntKind.wrap .i64 ((i:Int)+(j:Int)))) (1:Int)))=some l[(i+j) / 2] by rw[hm];exact bZ hx) ?_
  refine aa (QX hG l[(i+j) / 2] x) ?_
  by_cases ho:fU l[(i+j) / 2].1 x=true
  ·refine ae (decide_eq_true ((w6 _ _).2 ho)) ?_
   have hc:=mH.1 ho
   have hw:IntKind.wrap .i64 (IntKind.wrap .i64 (kc .u64 (IntKind.wrap .u64 (IntKind.wrap .i64 ((i:Int)+(j:Int)))) (1:Int))+1)=(((i+j) / 2+1:Nat):Int):=by
    rw[hm];exact bz hh (by omega)
   have:=ih ((i+j) / 2+1) j (by omega) (by omega) h2 h3
   rw[←hw]at this
   exact this
  ·refine af (decide_eq_false (fun h=>ho ((w6 _ _).1 h))) ?_
   have hc:¬(i+j) / 2<bj l x:=fun h=>ho (mH.2 h)
   have:=ih i ((i+j) / 2) (by omega) h1 (by omega) (by omega)
   rw[←hm]at this
   exact this
theorem MQ(hG:HG G)(l:List ah)(x:ID)(hs:bM l)(hl:l.length≤50000000) :
  FX G 208206 iy ((l,x,()),())=some (((((bj l x:Nat):Int),(decide ((l[bj l x]?).map (·.1)=some x),())):Int×(Bool×Unit)),()):=by
 refine aI (fn:=Tryz.f206) (hG _ _ rfl) (by kernel_rfl) (by kernel_rfl) ((Ml _ _ _).trans ?_)
 exact MP hG l x hs hl l.length 0 l.length (by omega) (by omega) (CW l x) (Nat.le_refl _)
theorem oC(hG:HG G)(w:aB)(x:ID)(hs:bM w.1)(hl:w.1.length≤50000000) :
  FX G 175 oy ((x,()),(w,()))=some (((((bj w.1 x:Nat):Int),(decide ((w.1[bj w.1 x]?).map (·.1)=some x),())):Int×(Bool×Unit)),(w,())):=by
 refine aI (fn:=Tryz.f175) (hG _ _ rfl) (by kernel_rfl) (by kernel_rfl) ((UG _ _ _).trans ?_)
 exact aa (MQ hG w.1 x hs hl) rfl
theorem qB{x:ID}:∀{l:List ah},bM l→aM l x=(l[bj l x]?).filter fun v=>decide (v.1=x)
 |[],_=>rfl
 |w::r,hs=>by
  have hw:∀{u:ah},u∈r→fU w.1 u.1=true:=fun {u} hu=>List.rel_of_pairwise_cons hs hu
  have hr:bM r:=hs.of_cons
  by_cases aG:fU w.1 x=true
  ·have e:bj (w::r) x=bj r x+1:=by unfold bj;rw[List.countP_cons_of_pos (by simpa using aG)]
   have aU:¬w.1=x:=fun e=>by rw[e,bQ]at aG;cases aG
   rw[e]
   simp only[aM,List.find?_cons,aU,decide_false,List.getElem?_cons_succ]
   exact qB hr
  ·have hn:∀u∈w::r,fU u.1 x=false:=fun u hu=>by
    rcases List.mem_cons.1 hu with rfl|hu
    ·simpa using aG
    ·rw[Bool.eq_false_iff];intro h2;exact aG (gY (hw hu) h2)
   rw[qA hn]
   by_cases he:w.1=x
   ·simp[aM,List.find?_cons,he,Option.filter]
   ·have CA:fU x w.1=true:=ky (by simpa using aG) he
    have:aM r x=none:=by
     unfold aM;rw[List.find?_eq_none];intro u hu h2
     have h3:u.1=x:=by simpa using h2
     have h4:=hw hu
     rw[h3]at h4
     have:=kx h4
     rw[CA]at this;cases this
    rw[show aM (w::r) x=aM r x by simp only[aM,List.find?_cons,he,decide_false],this]
    simp[he,Option.filter]
theorem eO{l:List ah}{x:ID}(hs:bM l):decide ((l[bj l x]?).map (·.1)=some x)=(aM l x).isSome:=by
 rw[qB hs]
 cases h:l[bj l x]? with
 |none=>simp
 |some v=>by_cases he:v.1=x<;>simp[he,Option.filter]
theorem EZ(v:ah):∀{l:List ah},bM l→aM l v.1=none→eZ v l=l.take (bj l v.1)++(v::l.drop (bj l v.1))
 |[],_,_=>rfl
 |w::r,hs,hf=>by
  have hw:∀{u:ah},u∈r→fU w.1 u.1=true:=fun {u} hu=>List.rel_of_pairwise_cons hs hu
  have hr:bM r:=hs.of_cons
  have aU:¬w.1=v.1:=fun e=>by simp[aM,e]at hf
  have Bi:aM r v.1=none:=by simpa[aM,List.find?_cons,aU] using hf
  by_cases aG:fU w.1 v.1=true
  ·have e:bj (w::r) v.1=bj r v.1+1:=by unfold bj;rw[List.countP_cons_of_pos (by simpa using aG)]
   have Qv:fU v.1 w.1=false:=kx aG
   rw[e,eZ,if_neg (by simp[Qv]),EZ v hr Bi]
   rfl
  ·have hn:∀u∈w::r,fU u.1 v.1=false:=fun u hu=>by
    rcases List.mem_cons.1 hu with rfl|hu
    ·simpa using aG
    ·rw[Bool.eq_false_iff];intro h2;exact aG (gY (hw hu) h2)
   have CA:fU v.1 w.1=true:=ky (by simpa using aG) aU
   rw[qA hn,eZ,if_pos CA];rfl
theorem u5{x:ID}:∀{l:List ah},bM l→(aM l x).isSome=true→eE l x=l.take (bj l x)++l.drop (bj l x+1)
 |[],_,hf=>by simp[aM]at hf
 |w::r,hs,hf=>by
  have hw:∀{u:ah},u∈r→fU w.1 u.1=true:=fun {u} hu=>List.rel_of_pairwise_cons hs hu
  have hr:bM r:=hs.of_cons
  by_cases he:w.1=x
  ·have hn:∀u∈w::r,fU u.1 x=false:=fun u hu=>by
    rcases List.mem_cons.1 hu with rfl|hu
    ·rw[he,bQ]
    ·rw[←he];exact kx (hw hu)
   have eu:eE r x=r:=by
    unfold eE;rw[List.filter_eq_self];intro u hu
    have h4:=hw hu
    simp;intro e2;rw[he,e2,bQ]at h4;cases h4
   rw[qA hn]
   unfold eE
   rw[List.filter_cons_of_neg (by simp[he])]
   exact eu
  ·have Bi:(aM r x).isSome=true:=by simpa[aM,List.find?_cons,he] using hf
   have aG:fU w.1 x=true:=by
    obtain⟨u,hu⟩:=Option.isSome_iff_exists.1 Bi
    have h1:=List.mem_of_find?_eq_some hu
    have h2:u.1=x:=by simpa using List.find?_some hu
    rw[←h2];exact hw h1
   have e:bj (w::r) x=bj r x+1:=by unfold bj;rw[List.countP_cons_of_pos (by simpa using aG)]
   rw[e]
   have:=u5 hr Bi
   simp[eE,List.filter_cons,he]at this ⊢
   exact this
theorem mR(v:ah):∀{l:List ah},bM l→aM l v.1=none→bM (eZ v l)
 |[],_,_=>List.pairwise_singleton _ _
 |w::r,hs,hf=>by
  have hw:∀{u:ah},u∈r→fU w.1 u.1=true:=fun {u} hu=>List.rel_of_pairwise_cons hs hu
  have hr:bM r:=hs.of_cons
  have aU:¬w.1=v.1:=fun e=>by simp[aM,e]at hf
  have Bi:aM r v.1=none:=by simpa[aM,List.find?_cons,aU] using hf
  unfold eZ
  split
  ·rename_i h
   refine List.Pairwise.cons (fun u hu=>?_) hs
   rcases List.mem_cons.1 hu with rfl|hu
   ·exact h
   ·exact gY h (hw hu)
  ·rename_i h
   have aG:fU w.1 v.1=true:=ky (by simpa using h) (fun e=>aU e.symm)
   refine List.Pairwise.cons (fun u hu=>?_) (mR v hr Bi)
   rcases lh.1 hu with rfl|hu
   ·exact aG
   ·exact hw hu
theorem n3{l:List ah}{x:ID}(hs:bM l):bM (eE l x):=hs.filter _
end Go.Vs
namespace Go.Vs
open Go.Proofs
variable {G:(f:FuncId)→(g:aK)→Option (g.A→Option g.B)}
theorem ZO(hG:G 127 JX=none)(l:List ah)(hl:l.length≤50000000):FX G 127 JX ((l,()),())=some ((l,()),()):=by
 refine aI (fn:=Tryz.f127) hG (by kernel_rfl) (by kernel_rfl) ((Zh _ _ _).trans ?_)
 cases l with
 |nil=>exact ae rfl (kf (by omega) fun j hj=>by cases j<;>rfl)
 |cons x r=>exact af rfl (ae (fits (by simp at hl ⊢;omega)) rfl)
theorem ZP(hG:G 128 JY=none)(l:List aq)(hl:l.length≤50000000):FX G 128 JY ((l,()),())=some ((l,()),()):=by
 refine aI (fn:=Tryz.f128) hG (by kernel_rfl) (by kernel_rfl) ((Zi _ _ _).trans ?_)
 cases l with
 |nil=>exact ae rfl (kf (by omega) fun j hj=>by cases j<;>rfl)
 |cons x r=>exact af rfl (ae (fits (by simp at hl ⊢;omega)) rfl)
theorem Sk(hG:G 110 wx=none)(l:List ab)(hl:l.length≤50000000):FX G 110 wx ((l,()),())=some ((l,()),()):=by
 refine aI (fn:=Tryz.f110) hG (by kernel_rfl) (by kernel_rfl) ((Zj _ _ _).trans ?_)
 cases l with
 |nil=>exact ae rfl (kf (by omega) fun j hj=>by cases j<;>rfl)
 |cons x r=>exact af rfl (ae (fits (by simp at hl ⊢;omega)) rfl)
theorem Sn(hG:G 97 Ee=none)(l:List aF)(hl:l.length≤50000000):FX G 97 Ee ((l,()),())=some ((l,()),()):=by
 refine aI (fn:=Tryz.f97) hG (by kernel_rfl) (by kernel_rfl) ((Ze _ _ _).trans ?_)
 cases l with
 |nil=>exact ae rfl (kf (by omega) fun j hj=>by cases j<;>rfl)
 |cons x r=>exact af rfl (ae (fits (by simp at hl ⊢;omega)) rfl)
theorem MR{α:Type}{l:List α}{i:Nat}{x:α}(h:l[i]? = some x):l.set i x=l:=by
 obtain⟨hi,he⟩:=List.getElem?_eq_some_iff.1 h
 subst he;simp
theorem V7(hG:HG G)(d:ak)(hs:Sm d):FX G 96 CH ((d,()),())=some (((d.1,(d.2,())),()),()):=by
 have hv:=hs.v;have he:=hs.e
 refine aI (fn:=Tryz.f96) (hG _ _ rfl) (by kernel_rfl) (by kernel_rfl) ((Zd _ _ _).trans ?_)
 refine aa (ZO (hG _ _ rfl) d.1 (by omega)) ?_
 refine aa (ZP (hG _ _ rfl) d.2 (by omega)) ?_
 have loop:∀(n i:Nat) (out:List ah),i+n=d.1.length→out=d.1→LX G 96 CH Tryz.f96 yP (bY Tryz.prog 96 0) ((((d.1.length:Nat):Int),((i:Int),())),(((([]:List ah),(([]:List aq),())),((out,(d.2,())),())),()))=some (((d.1,(d.2,())),()),()):=by
  intro n
  induction n with
  |zero =>
   intro i out hi ho
   subst ho
   refine aQ (j:=0) (by kernel_rfl) ((Mj _ _ _).trans ?_)
   exact af (decide_eq_false (show ¬((i:Int)<((d.1.length:Nat):Int)) by omega)) rfl
  |succ n ih =>
   intro i out hi ho
   have ma:=ho
   subst ho
   refine aQ (j:=0) (by kernel_rfl) ((Mj _ _ _).trans ?_)
   have aG:i<d.1.length:=by omega
   have hx:d.1[i]? = some d.1[i]:=List.getElem?_eq_getElem aG
   refine ae (cg aG) ?_
   refine ae (eV (jN i) (cg aG)) ?_
   refine aa hx ?_
   refine aa (Sk (hG _ _ rfl) d.1[i].2.1 (hs.r _ (List.getElem_mem aG))) ?_
   refine ae (eV (jN i) (cg aG)) ?_
   refine aa hx ?_
   rw[bz aG (show d.1.length≤1073741824 by omega)]
   exact ih (i+1) (d.1.set i d.1[i]) (by omega) (MR hx)
 exact loop d.1.length 0 d.1 (by omega) rfl
def oD(w:aB)(v:ah):Int×aB :=
 if(aM w.1 v.1).isSome=true then(12,w) else if 24≤w.1.length then(3,w) else(0,(eZ v w.1,w.2))
def BC(w:aB)(x:ID):Int×aB:=match aM w.1 x with
 |none=>(13,w)
 |some v=>if 0<v.2.1.length then(14,w) else(0,(eE w.1 x,w.2))
theorem So(hG:HG G)(w:aB)(v:ah)(hs:bM w.1)(hl:w.1.length≤50000000):FX G 152 Eg ((v,()),(w,()))=some (((oD w v).1,()),((oD w v).2,())):=by
 refine aI (fn:=Tryz.f152) (hG _ _ rfl) (by kernel_rfl) (by kernel_rfl) ((Zo _ _ _).trans ?_)
 refine aa (oC hG w v.1 hs hl) ?_
 unfold oD
 cases hf:(aM w.1 v.1).isSome
 ·rw[if_neg (by simp)]
  refine af ((eO hs).trans hf) ?_
  by_cases h2:24≤w.1.length
  ·rw[if_pos h2]
   exact ae (decide_eq_true (show((w.1.length:Nat):Int)≥24 by omega)) rfl
  ·rw[if_neg h2]
   refine af (decide_eq_false (show ¬((w.1.length:Nat):Int)≥24 by omega)) ?_
   have hc:=CW w.1 v.1
   have lq:oU w.1 ((bj w.1 v.1:Nat):Int) [v]=true:=by
    unfold oU
    rw[decide_eq_true (show(0:Int)≤((bj w.1 v.1:Nat):Int) by omega),decide_eq_true (show((bj w.1 v.1:Nat):Int)≤((w.1.length:Nat):Int) by omega)]
    rw[fits (by simp;omega)];rfl
   refine ae lq ?_
   have e:fh w.1 ((bj w.1 v.1:Nat):Int) [v]=eZ v w.1:=by
    rw[EZ v hs (by simpa using hf)]
    unfold fh;simp
   exact congrArg (fun l:List ah=>some (((0:Int),()),((l,w.2),()))) e
 ·rw[if_pos rfl]
  exact ae ((eO hs).trans hf) rfl
theorem ZQ(hG:HG G)(w:aB)(o:bh)(hs:bM w.1)(hl:w.1.length≤50000000):FX G 153 Me ((o,()),(w,()))=some (((BC w (bc o)).1,()),((BC w (bc o)).2,())):=by
 refine aI (fn:=Tryz.f153) (hG _ _ rfl) (by kernel_rfl) (by kernel_rfl) ((Zp _ _ _).trans ?_)
 refine aa (oC hG w (bc o) hs hl) ?_
 unfold BC
 have X6:=eO (x:=bc o) hs
 have jQ:=qB (x:=bc o) hs
 cases hf:aM w.1 (bc o) with
 |none =>
  rw[hf]at X6
  refine ae (show(!(decide ((w.1[bj w.1 (bc o)]?).map (·.1)=some (bc o))))=true by rw[X6];rfl) rfl
 |some v =>
  rw[hf]at X6 jQ
  refine af (show(!(decide ((w.1[bj w.1 (bc o)]?).map (·.1)=some (bc o))))=false by rw[X6];rfl) ?_
  have hx:w.1[bj w.1 (bc o)]? = some v:=by
   cases hg:w.1[bj w.1 (bc o)]? with
   |none=>rw[hg]at jQ;simp[Option.filter]at jQ
   |some u =>
    rw[hg]at jQ
    simp only[Option.filter]at jQ
    split at jQ
    ·exact jQ.symm
    ·cases jQ
  have aG:=(List.getElem?_eq_some_iff.1 hx).1
  refine ae (eV (jN _) (cg aG)) ?_
  refine aa hx ?_
  show _=some ((((if 0<v.2.1.length then(14,w) else(0,(eE w.1 (bc o),w.2)):Int×aB).1,()),((if 0<v.2.1.length then(14,w) else(0,(eE w.1 (bc o),w.2)):Int×aB).2,())):(Int×Unit)×(aB×Unit))
  by_cases h2:0<v.2.1.length
  ·rw[if_pos h2]
   exact ae (decide_eq_true (show((v.2.1.length:Nat):Int)>0 by omega)) rfl
  ·rw[if_neg h2]
   refine af (decide_eq_false (show ¬((v.2.1.length:Nat):Int)>0 by omega)) ?_
   have hw:IntKind.wrap .i64 (((bj w.1 (bc o):Nat):Int)+1)=((bj w.1 (bc o)+1:Nat):Int):=bz aG (by omega)
   have lq:iM w.1 ((bj w.1 (bc o):Nat):Int) (IntKind.wrap .i64 (((bj w.1 (bc o):Nat):Int)+1))=true:=by
    rw[hw]
    unfold iM
    rw[decide_eq_true (show(0:Int)≤((bj w.1 (bc o):Nat):Int) by omega),decide_eq_true (show((bj w.1 (bc o):Nat):Int)<((bj w.1 (bc o)+1:Nat):Int) by omega),decide_eq_true (show((bj w.1 (bc o)+1:Nat):Int)≤((w.1.length:Nat):Int) by omega),fits (by omega)];rfl
   refine ae lq ?_
   have e:cX w.1 ((bj w.1 (bc o):Nat):Int) (IntKind.wrap .i64 (((bj w.1 (bc o):Nat):Int)+1))=eE w.1 (bc o):=by
    rw[hw,u5 hs (by rw[hf];rfl)]
    unfold cX;simp only[Int.toNat_natCast]
   exact congrArg (fun l:List ah=>some (((0:Int),()),((l,w.2),()))) e
def zW:aB:=([],([],([],())))
def aD(s:StateT):aB:=(s.1.1,(s.1.2,(s.2,())))
def w7(w:aB):StateT:=((w.1,w.2.1),w.2.2.1)
def iG(e:Int)(w:aB):StateT×(Int×Unit):=if e≠0 then(zS,(e,())) else(w7 w,(0,()))
def Aj(k:Int)(x:ID):bh:=(k,(x,(zI,(zI,(zC,(zC,(false,(e0,0))))))))
def aca(x:ID):Int:=if dF x=true then 0 else 1
def shS:StateT:=(([((1,1),([],(e0,0)))],[]),[])
end Go.Vs
namespace Go.Vs
open Go.Proofs
theorem bM.map{l:List ah}(h:bM l){f:ah→ah}(hf:∀v,(f v).1=v.1):bM (l.map f):=by
 unfold bM at h ⊢
 rw[List.pairwise_map]
 exact h.imp fun {a b} Ai=>by rw[hf,hf];exact Ai
theorem mS{x:ID}{f:ah→ah}(hf:∀v,(f v).1=v.1):∀(l:List ah),aM (l.map f) x=(aM l x).map f
 |[]=>rfl
 |w::r=>by
  unfold aM
  rw[List.map_cons,List.find?_cons,List.find?_cons,hf]
  have:=mS (x:=x) hf r
  unfold aM at this
  cases decide (w.1=x) with
  |true=>rfl
  |false=>exact this
theorem pS(x:ID)(l:List ab)(w:ah):(uX x l w).1=w.1:=by unfold uX;split<;>rfl
theorem IG(o:bh)(w:ah):(nW o w).1=w.1:=by unfold nW;split<;>(try split)<;>rfl
structure Iv(d:ak):Prop where
 s:bM d.1
 n:d.1.length≤24
theorem Iv.zero:Iv zS.1:=⟨List.Pairwise.nil,by simp[zS]⟩
theorem Iv.bV{d:ak}(h:Iv d)(x:ID)(l:List ab):Iv (bV d x l):=⟨h.s.map (pS x l),by unfold Vs.bV;simp;exact h.n⟩
theorem Iv.aP{d:ak}(h:Iv d)(v e:ID):Iv (aP d v e):=⟨n3 h.s,Nat.le_trans (List.length_filter_le _ _) h.n⟩
theorem Iv.one{s:StateT}(h:Iv s.1)(o:bh):Iv (oK s o).1.1:=by
 unfold oK
 split;· exact Iv.zero
 split
 ·unfold pR
  split;· exact Iv.zero
  split;· exact Iv.zero
  rename_i h1 h2
  exact⟨mR _ h.s (by simpa[cp] using h1),by rw[fD];omega⟩
 split
 ·unfold zi
  split
  ·exact Iv.zero
  ·split
   ·exact Iv.zero
   ·exact h.aP _ _
 split
 ·unfold rB
  split;· exact Iv.zero
  split;· exact Iv.zero
  split;· exact Iv.zero
  split;· exact Iv.zero
  split;· exact Iv.zero
  have h1:Iv (s.1.1,eU (bc o,(e0,0)) s.1.2):=⟨h.s,h.n⟩
  exact(h1.bV _ _).bV _ _
 split
 ·unfold G8
  split;· exact Iv.zero
  exact((h.bV _ _).bV _ _).aP _ _
 split
 ·unfold nX
  split;· exact Iv.zero
  split;· exact Iv.zero
  split;· exact Iv.zero
  split;· exact Iv.zero
  split;· exact Iv.zero
  rename_i h1 h2 h3 h4 h5
  have h6:aM s.1.1 (fC o)=none:=by simpa[cp] using h2
  have h7:aM (aC s.1 (PA o) (ao (Om o))).1 (fC o)=none:=by
   unfold aC Vs.bV
   rw[mS (pS _ _),h6];rfl
  refine⟨mR _ (h.bV _ _).s h7,?_⟩
  unfold MM
  rw[fD]
  have:(aC s.1 (PA o) (ao (Om o))).1.length=s.1.1.length:=by unfold aC Vs.bV;simp
  omega
 split
 ·unfold nY
  have key:∀a b:ab,Iv (Kc s o a b):=fun a b=>((h.aP _ _).bV _ _).aP _ _
  split
  ·exact Iv.zero
  ·split
   ·unfold lQ
    split;· exact Iv.zero
    split;· exact key _ _
    split;· exact key _ _
    exact Iv.zero
   ·exact Iv.zero
 ·unfold wC
  split
  ·exact⟨h.s.map (IG o),by simp;exact h.n⟩
  ·exact Iv.zero
theorem Iv.go:∀(l:List bh) {s:StateT},Iv s.1→Iv (EY l s).1.1
 |[],s,h=>h
 |o::r,s,h=>by
  unfold EY
  split
  ·exact Iv.zero
  ·exact Iv.go r (h.one o)
theorem Iv.try{s:StateT}(h:Iv s.1)(l:List bh):Iv (ji s l).1:=by
 unfold ji
 split
 ·exact h
 ·unfold dC
  split
  ·exact Iv.zero
  ·exact Iv.go l h
theorem Iv.reach:∀(m:Nat) (l:List (List bh)) {s:StateT},Iv s.1→Iv (lj m l s).1
 |0,_,s,h=>by simpa[lj] using h
 |m+1,[],s,h=>h
 |m+1,l::r,s,h=>by rw[lj];exact Iv.reach m r (h.try _)
theorem Iv.IF(l:List (List bh)):Iv (zj l).1:=Iv.reach 30 l Iv.zero
end Go.Vs
