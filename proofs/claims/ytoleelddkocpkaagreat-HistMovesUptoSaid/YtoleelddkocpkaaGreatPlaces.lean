/- What the program computes at -/
import Derived.Test.YtoleelddkocpkaaGreatRefB
set_option linter.unusedVariables false
set_option linter.unusedSimpArgs false
namespace Go.Vs
open Go.Proofs
variable {G:(f:FuncId)→(g:aN)→Option (g.A→Option g.B)}
theorem Lj(hG:G 100 qQ=none)(x:ID):FX G 100 qQ ((x,()),())=some ((ck x,()),()):=by
 refine av hG akU ?_;obtain⟨a,b⟩:=x;show(cond (decide (a≥1)) (cond (decide (a≤8)) (cond (decide (b≥1)) (some ((decide (b≤1048576),()),())) (some ((false,()),()))) (some ((false,()),()))) (some ((false,()),())):Option ((Bool×Unit)×Unit))=some ((ck (a,b),()),());unfold ck
 grind
theorem aau(hG:G 150 Dm=none)(n:Int):FX G 150 Dm ((n,()),())=some ((false,()),()):=by refine av hG ae3 ?_;exact congrArg (fun b:Bool=>some ((b,()),())) (show(n != n)=false by simp)
def Nq(a b:Int):Int:=if a<b then -1 else if a>b then 1 else 0
theorem Vq(hG:HG G)(a b:Int):FX G 103 Di ((a,b,()),())=some ((Nq a b,()),()):=by
 refine av (hG _ _ rfl) aeY ?_;refine aa (aau (hG _ _ rfl) a) ?_;refine aa (aau (hG _ _ rfl) b) ?_;refine af rfl (af rfl ?_);unfold Nq;by_cases h1:a<b
 ·rw[if_pos h1];exact ae (decide_eq_true h1) rfl
 rw[if_neg h1];refine af (decide_eq_false h1) ?_;by_cases h2:a>b
 ·rw[if_pos h2];exact ae (decide_eq_true h2) rfl
 rw[if_neg h2];exact af (decide_eq_false h2) rfl
theorem aav(hG:G 101 xj=none)(a b:Int):FX G 101 xj (([a,b],()),())=some ((if a≠0 then a else b,()),()):=by
 refine av hG aeX ?_;by_cases ha:a=0
 ·rw[if_neg (by simp[ha])];refine ar BR ?_;refine ae rfl (aa (a:=a) rfl ?_);refine af (show(a != 0)=false by simp[ha]) ?_;refine ar BR ?_;refine ae rfl (aa (a:=b) rfl ?_);by_cases hb:b=0
  ·refine af (show(b != 0)=false by simp[hb]) ?_;refine ar BR ?_;rw[hb];rfl
  ·exact ae (show(b != 0)=true by simp[hb]) rfl
 ·rw[if_pos ha];refine ar BR ?_;refine ae rfl (aa (a:=a) rfl ?_);exact ae (show(a != 0)=true by simp[ha]) rfl
theorem Pg(hG:HG G)(a b:ID):FX G 102 AL ((a,b,()),())=some ((rW a b,()),()):=by
 refine av (hG _ _ rfl) aeL ?_;unfold rW;by_cases h:a=b
 ·rw[if_pos h];exact ae ((lH a b).trans (decide_eq_true h)) rfl
 rw[if_neg h];refine af ((lH a b).trans (decide_eq_false h)) ?_;refine aa (Vq hG a.1 b.1) ?_;refine aa (Vq hG a.2 b.2) ?_;refine aa (aav (hG _ _ rfl) (Nq a.1 b.1) (Nq a.2 b.2)) ?_;refine congrArg (fun n:Int=>some ((n,()),())) ?_;obtain⟨a1,a2⟩:=a;obtain⟨b1,b2⟩:=b;unfold Nq gL
 grind
theorem aaw(hG:HG G)(v:ai)(x:ID):FX G 188 GD ((v,x,()),())=some ((rW v.1 x,()),()):=by refine av (hG _ _ rfl) aeK ?_;exact aa (Pg hG v.1 x) rfl
theorem Nr{i j:Nat}(hi:i≤1000000000)(hj:j≤1000000000):IntKind.wrap .i64 (ir .u64 (IntKind.wrap .u64 (IntKind.wrap .i64 ((i:Int)+(j:Int)))) (1:Int))=(((i+j) / 2:Nat):Int):=by
 grind [IntKind.wrap,wrap_small,IntKind.bits,IntKind.signed,ir,min,Int.toNat,Int.fdiv_eq_ediv_of_nonneg]
def bT(l:List ai)(x:ID):Nat:=l.countP fun v=>gL v.1 x
def b7(l:List ai):Prop:=l.Pairwise fun a b=>gL a.1 b.1=true
theorem jF{a b c:ID}(h:gL a b=true)(k:gL b c=true):gL a c=true:=by
 grind [gL]
theorem mw{a b:ID}(h:gL a b=true):gL b a=false:=by
 grind [gL]
theorem my{a b:ID}(h:gL a b=false)(k:a≠b):gL b a=true:=by
 grind [gL]
theorem IP(l:List ai)(x:ID):bT l x≤l.length:=adr
theorem ux{l:List ai}{x:ID}(h:∀v∈l,gL v.1 x=false):bT l x=0:=by
 grind [bT,List.countP_eq_zero]
theorem zz{x:ID}:∀{l:List ai},b7 l→∀(k:Nat) (v:ai),l[k]? = some v→(gL v.1 x=true↔k<bT l x)
 |[],_,k,v,h=>by simp at h
 |w::r,hs,k,v,h=>by
  have hw:∀{u:ai},u∈r→gL w.1 u.1=true:=fun {u} hu=>acF hs hu;have hr:b7 r:=hs.of_cons;by_cases aO:gL w.1 x=true
  ·have e:bT (w::r) x=bT r x+1:=by grind [bT,List.countP_cons_of_pos]
   cases k with
   |zero=>simp_all
   |succ k=>have:=zz (x:=x) hr k v (by simpa using h);simp_all
  ·have hn:∀u∈w::r,gL u.1 x=false:=fun u hu=>by
    rcases abz.1 hu with rfl|hu
    ·simp_all
    ·rw[Bool.eq_false_iff];grind [jF]
   grind [ux,List.mem_of_getElem?]
theorem Vr(hG:HG G)(l:List ai)(x:ID)(hs:b7 l)(hl:l.length≤50000000):∀(n i j:Nat),j-i≤n→i≤bT l x→bT l x≤j→j≤l.length → LX G 189187 jT Tryz.f187 js (aK Tryz.prog 187 0) ((l,(((l.length:Nat):Int),((i:Int),((j:Int),())))),(((x,()),()),()))=some (((((bT l x:Nat):Int),(decide ((l[bT l x]?).map (·.1)=some x),())):Int×(Bool×Unit)),()):=by
 have vF:=IP l x;have fin:∀(i j:Nat),¬(i<j)→i≤bT l x→bT l x≤j→LX G 189187 jT Tryz.f187 js (aK Tryz.prog 187 0) ((l,(((l.length:Nat):Int),((i:Int),((j:Int),())))),(((x,()),()),()))=some (((((bT l x:Nat):Int),(decide ((l[bT l x]?).map (·.1)=some x),())):Int×(Bool×Unit)),()):=fun i j Gf h1 h2=>by
  have hi:i=bT l x:=by omega
  subst hi;refine ar DP ?_;refine af (decide_eq_false (show ¬(((bT l x:Nat):Int)<(j:Int)) by omega)) ?_;by_cases hc:bT l x<l.length
  ·have hx:l[bT l x]? = some l[bT l x]:=abn hc;refine ae (aT hc) ?_;refine aa (aA hx) ?_;refine aa (aaw hG l[bT l x] x) ?_;refine congrArg (fun b:Bool=>some ((((bT l x:Nat):Int),(b,())),())) ?_
   grind [rW,bT]
  ·refine af (decide_eq_false (show ¬(((bT l x:Nat):Int)<((l.length:Nat):Int)) by omega)) ?_;refine congrArg (fun b:Bool=>some ((((bT l x:Nat):Int),(b,())),())) ?_;simp_all
 intro n
 induction n with
 |zero=>grind
 |succ n ih =>
  intro i j Gf h1 h2 h3;by_cases aO:i<j
  case neg=>grind
  refine ar DP ?_;refine ae (decide_eq_true (show((i:Int)<(j:Int)) by omega)) ?_;refine af rfl ?_;have hm:=Nr (i:=i) (j:=j) (by omega) (by omega);have hh:(i+j) / 2<l.length:=by omega
  have hx:l[(i+j) / 2]? = some l[(i+j) / 2]:=abn hh;have qL:=zz (x:=x) hs ((i+j) / 2) _ hx;refine aa (show aS l (IntKind.wrap .i64 (ir .u64 (IntKind.wrap .u64 (IntKind.wrap .i64 ((i:Int)+(j:Int)))) (1:Int)))=some l[(i+j) / 2] by rw[hm];exact aA hx) ?_;refine aa (aaw hG l[(i+j) / 2] x) ?_;by_cases ho:gL l[(i+j) / 2].1 x=true
  ·refine ae (decide_eq_true ((mi _ _).2 ho)) ?_;have hc:=qL.1 ho;have hw:IntKind.wrap .i64 (IntKind.wrap .i64 (ir .u64 (IntKind.wrap .u64 (IntKind.wrap .i64 ((i:Int)+(j:Int)))) (1:Int))+1)=(((i+j) / 2+1:Nat):Int):=by rw[hm];exact aD hh (by omega)
   have:=ih ((i+j) / 2+1) j (by omega) (by omega) h2 h3;rw[←hw]at this;exact this
  ·refine af (decide_eq_false (fun h=>ho ((mi _ _).1 h))) ?_;have hc:¬(i+j) / 2<bT l x:=fun h=>ho (qL.2 h);have:=ih i ((i+j) / 2) (by omega) h1 (by omega) (by omega);rw[←hm]at this;exact this
theorem Vt(hG:HG G)(l:List ai)(x:ID)(hs:b7 l)(hl:l.length≤50000000) :
  FX G 189187 jT ((l,x,()),())=some (((((bT l x:Nat):Int),(decide ((l[bT l x]?).map (·.1)=some x),())):Int×(Bool×Unit)),()):=by
 refine av (hG _ _ rfl) UY ?_;exact Vr hG l x hs hl l.length 0 l.length (by omega) (by omega) (IP l x) (acb _)
theorem rH(hG:HG G)(w:aW)(x:ID)(hs:b7 w.1)(hl:w.1.length≤50000000) :
  FX G 152 rD ((x,()),(w,()))=some (((((bT w.1 x:Nat):Int),(decide ((w.1[bT w.1 x]?).map (·.1)=some x),())):Int×(Bool×Unit)),(w,())):=by
 refine av (hG _ _ rfl) aew ?_;exact aa (Vt hG w.1 x hs hl) rfl
theorem uy{x:ID}:∀{l:List ai},b7 l→aR l x=(l[bT l x]?).filter fun v=>decide (v.1=x)
 |[],_=>rfl
 |w::r,hs=>by
  have hw:∀{u:ai},u∈r→gL w.1 u.1=true:=fun {u} hu=>acF hs hu;have hr:b7 r:=hs.of_cons;by_cases aO:gL w.1 x=true
  ·have e:bT (w::r) x=bT r x+1:=by unfold bT;rw[List.countP_cons_of_pos (by simpa using aO)]
   have bz:¬w.1=x:=fun e=>by rw[e,bZ]at aO;cases aO
   rw[e];simp only[aR,List.find?_cons,bz,decide_false,List.getElem?_cons_succ];exact uy hr
  ·have hn:∀u∈w::r,gL u.1 x=false:=fun u hu=>by
    rcases abz.1 hu with rfl|hu
    ·simpa using aO
    ·rw[Bool.eq_false_iff];intro h2;exact aO (jF (hw hu) h2)
   rw[ux hn];by_cases he:w.1=x
   ·simp[aR,List.find?_cons,he,Option.filter]
   ·have Ov:gL x w.1=true:=my (by simpa using aO) he;have:aR r x=none:=by
     unfold aR;rw[List.find?_eq_none];intro u hu h2;have h3:u.1=x:=by simpa using h2
     have h4:=hw hu;rw[h3]at h4;have:=mw h4;rw[Ov]at this;cases this
    rw[show aR (w::r) x=aR r x by simp only[aR,List.find?_cons,he,decide_false],this];simp[he,Option.filter]
theorem gr{l:List ai}{x:ID}(hs:b7 l):decide ((l[bT l x]?).map (·.1)=some x)=(aR l x).isSome:=by
 grind [uy,bT,Option.filter]
theorem Lk(v:ai):∀{l:List ai},b7 l→aR l v.1=none→cW v l=l.take (bT l v.1)++(v::l.drop (bT l v.1))
 |[],_,_=>rfl
 |w::r,hs,hf=>by
  have hw:∀{u:ai},u∈r→gL w.1 u.1=true:=fun {u} hu=>acF hs hu;have hr:b7 r:=hs.of_cons;have bz:¬w.1=v.1:=fun e=>by simp[aR,e]at hf
  have C3:aR r v.1=none:=by simpa[aR,List.find?_cons,bz] using hf
  by_cases aO:gL w.1 v.1=true
  ·have e:bT (w::r) v.1=bT r v.1+1:=by unfold bT;rw[List.countP_cons_of_pos (by simpa using aO)]
   have Xs:gL v.1 w.1=false:=mw aO;rw[e,cW,if_neg (by simp[Xs]),Lk v hr C3];rfl
  ·have hn:∀u∈w::r,gL u.1 v.1=false:=fun u hu=>by
    rcases abz.1 hu with rfl|hu
    ·simpa using aO
    ·rw[Bool.eq_false_iff];intro h2;exact aO (jF (hw hu) h2)
   have Ov:gL v.1 w.1=true:=my (by simpa using aO) bz;rw[ux hn,cW,if_pos Ov];rfl
theorem zB{x:ID}:∀{l:List ai},b7 l→(aR l x).isSome=true→cU l x=l.take (bT l x)++l.drop (bT l x+1)
 |[],_,hf=>by simp[aR]at hf
 |w::r,hs,hf=>by
  have hw:∀{u:ai},u∈r→gL w.1 u.1=true:=fun {u} hu=>acF hs hu;have hr:b7 r:=hs.of_cons;by_cases he:w.1=x
  ·have hn:∀u∈w::r,gL u.1 x=false:=fun u hu=>by
    rcases abz.1 hu with rfl|hu
    ·rw[he,bZ]
    ·rw[←he];exact mw (hw hu)
   have jN:cU r x=r:=by unfold cU;rw[List.filter_eq_self];intro u hu;have h4:=hw hu;simp;intro e2;rw[he,e2,bZ]at h4;cases h4
   rw[ux hn];unfold cU;rw[List.filter_cons_of_neg (by simp[he])];exact jN
  ·have C3:(aR r x).isSome=true:=by simpa[aR,List.find?_cons,he] using hf
   have aO:gL w.1 x=true:=by
    obtain⟨u,hu⟩:=acn.1 C3;have h1:=ade hu;have h2:u.1=x:=by simpa using adu hu
    rw[←h2];exact hw h1
   have e:bT (w::r) x=bT r x+1:=by unfold bT;rw[List.countP_cons_of_pos (by simpa using aO)]
   rw[e];have:=zB hr C3;simp[cU,List.filter_cons,he]at this ⊢;exact this
theorem pV(v:ai):∀{l:List ai},b7 l→aR l v.1=none→b7 (cW v l)
 |[],_,_=>List.pairwise_singleton _ _
 |w::r,hs,hf=>by
  have hw:∀{u:ai},u∈r→gL w.1 u.1=true:=fun {u} hu=>acF hs hu;have hr:b7 r:=hs.of_cons;have bz:¬w.1=v.1:=fun e=>by simp[aR,e]at hf
  have C3:aR r v.1=none:=by simpa[aR,List.find?_cons,bz] using hf
  unfold cW
  split
  ·rename_i h;refine List.Pairwise.cons (fun u hu=>?_) hs;rcases abz.1 hu with rfl|hu
   ·exact h
   ·exact jF h (hw hu)
  ·rename_i h;have aO:gL w.1 v.1=true:=my (by simpa using h) (fun e=>bz e.symm);refine List.Pairwise.cons (fun u hu=>?_) (pV v hr C3);rcases jZ.1 hu with rfl|hu
   ·exact aO
   ·exact hw hu
theorem nu{l:List ai}{x:ID}(hs:b7 l):b7 (cU l x):=hs.filter _
theorem alS(hG:G 109 Rl=none)(l:List ai)(hl:l.length≤50000000):FX G 109 Rl ((l,()),())=some ((l,()),()):=by
 refine av hG akQ ?_
 cases l with
 |nil=>exact ae rfl (me (by omega) fun j hj=>by cases j<;>rfl)
 |cons x r=>exact af rfl (ae (fits (by grind)) rfl)
theorem alT(hG:G 110 Rm=none)(l:List ag)(hl:l.length≤50000000):FX G 110 Rm ((l,()),())=some ((l,()),()):=by
 refine av hG akR ?_
 cases l with
 |nil=>exact ae rfl (me (by omega) fun j hj=>by cases j<;>rfl)
 |cons x r=>exact af rfl (ae (fits (by grind)) rfl)
theorem ab8(hG:G 111 Bo=none)(l:List ab)(hl:l.length≤50000000):FX G 111 Bo ((l,()),())=some ((l,()),()):=by
 refine av hG akS ?_
 cases l with
 |nil=>exact ae rfl (me (by omega) fun j hj=>by cases j<;>rfl)
 |cons x r=>exact af rfl (ae (fits (by grind)) rfl)
theorem ab9(hG:G 84 Ko=none)(l:List ax)(hl:l.length≤50000000):FX G 84 Ko ((l,()),())=some ((l,()),()):=by
 refine av hG akA ?_
 cases l with
 |nil=>exact ae rfl (me (by omega) fun j hj=>by cases j<;>rfl)
 |cons x r=>exact af rfl (ae (fits (by grind)) rfl)
theorem Vu{α:Type}{l:List α}{i:Nat}{x:α}(h:l[i]? = some x):l.set i x=l:=by obtain⟨hi,he⟩:=abu.1 h;subst he;simp
theorem aga(hG:HG G)(d:ak)(hs:Sm d):FX G 83 Il ((d,()),())=some (((d.1,(d.2,())),()),()):=by
 have hv:=hs.v;have he:=hs.e;refine av (hG _ _ rfl) akz ?_;refine aa (alS (hG _ _ rfl) d.1 (by omega)) ?_;refine aa (alT (hG _ _ rfl) d.2 (by omega)) ?_;have loop:∀(n i:Nat) (out:List ai),i+n=d.1.length→out=d.1→LX G 83 Il Tryz.f83 DM (aK Tryz.prog 83 0) ((((d.1.length:Nat):Int),((i:Int),())),(((([]:List ai),(([]:List ag),())),((out,(d.2,())),())),()))=some (((d.1,(d.2,())),()),()):=by
  intro n
  induction n with
  |zero =>intro i out hi ho;subst ho;refine ar UN ?_;exact af (decide_eq_false (show ¬((i:Int)<((d.1.length:Nat):Int)) by omega)) rfl
  |succ n ih =>
   intro i out hi ho;have rY:=ho;subst ho;refine ar UN ?_;have aO:i<d.1.length:=by omega
   have hx:d.1[i]? = some d.1[i]:=abn aO;refine ae (aT aO) ?_;refine ae (cK (fG i) (aT aO)) ?_;refine aa hx ?_;refine aa (ab8 (hG _ _ rfl) d.1[i].2.1 (hs.r _ (ac8 aO))) ?_;refine ae (cK (fG i) (aT aO)) ?_;refine aa hx ?_;rw[wI,aD aO (show d.1.length≤1073741824 by omega)];exact ih (i+1) (d.1.set i d.1[i]) (by omega) (Vu hx)
 exact loop d.1.length 0 d.1 (by omega) rfl
def rI(w:aW)(v:ai):Int×aW :=if(aR w.1 v.1).isSome=true then(12,w) else if 24≤w.1.length then(3,w) else(0,(cW v w.1,w.2))
def G2(w:aW)(x:ID):Int×aW:=match aR w.1 x with
 |none=>(13,w)
 |some v=>if 0<v.2.1.length then(14,w) else(0,(cU w.1 x,w.2))
theorem aca(hG:HG G)(w:aW)(v:ai)(hs:b7 w.1)(hl:w.1.length≤50000000):FX G 112 Ks ((v,()),(w,()))=some (((rI w v).1,()),((rI w v).2,())):=by
 refine av (hG _ _ rfl) akY ?_;refine aa (rH hG w v.1 hs hl) ?_;unfold rI
 cases hf:(aR w.1 v.1).isSome
 ·rw[if_neg (by simp)];refine af ((gr hs).trans hf) ?_;by_cases h2:24≤w.1.length
  ·rw[if_pos h2];exact ae (decide_eq_true (show((w.1.length:Nat):Int)≥24 by omega)) rfl
  ·rw[if_neg h2];refine af (decide_eq_false (show ¬((w.1.length:Nat):Int)≥24 by omega)) ?_;have hc:=IP w.1 v.1;have jO:sq w.1 ((bT w.1 v.1:Nat):Int) [v]=true:=by
    grind [sq,decide_eq_true,bT,fits]
   refine ae jO ?_;have e:jf w.1 ((bT w.1 v.1:Nat):Int) [v]=cW v w.1:=by simp_all [Lk,jf]
   exact congrArg (fun l:List ai=>some (((0:Int),()),((l,w.2),()))) e
 ·rw[if_pos rfl];exact ae ((gr hs).trans hf) rfl
theorem alU(hG:HG G)(w:aW)(o:bq)(hs:b7 w.1)(hl:w.1.length≤50000000):FX G 113 Ue ((o,()),(w,()))=some (((G2 w (ba o)).1,()),((G2 w (ba o)).2,())):=by
 refine av (hG _ _ rfl) akZ ?_;refine aa (rH hG w (ba o) hs hl) ?_;unfold G2;have hth:=gr (x:=ba o) hs;have alV:=uy (x:=ba o) hs
 cases hf:aR w.1 (ba o) with
 |none =>rw[hf]at hth;refine ae (show(!(decide ((w.1[bT w.1 (ba o)]?).map (·.1)=some (ba o))))=true by rw[hth];rfl) rfl
 |some v =>
  rw[hf]at hth alV;refine af (show(!(decide ((w.1[bT w.1 (ba o)]?).map (·.1)=some (ba o))))=false by rw[hth];rfl) ?_;have hx:w.1[bT w.1 (ba o)]? = some v:=by
   grind
  have aO:=(abu.1 hx).1;refine ae (cK (fG _) (aT aO)) ?_;refine aa hx ?_;show _=some ((((if 0<v.2.1.length then(14,w) else(0,(cU w.1 (ba o),w.2)):Int×aW).1,()),((if 0<v.2.1.length then(14,w) else(0,(cU w.1 (ba o),w.2)):Int×aW).2,())):(Int×Unit)×(aW×Unit));by_cases h2:0<v.2.1.length
  ·simp_all
  ·rw[if_neg h2];refine af (decide_eq_false (show ¬((v.2.1.length:Nat):Int)>0 by omega)) ?_;have hw:IntKind.wrap .i64 (((bT w.1 (ba o):Nat):Int)+1)=((bT w.1 (ba o)+1:Nat):Int):=aD aO (by omega);have jO:kg w.1 ((bT w.1 (ba o):Nat):Int) (IntKind.wrap .i64 (((bT w.1 (ba o):Nat):Int)+1))=true:=by rw[hw];unfold kg;rw[decide_eq_true (show(0:Int)≤((bT w.1 (ba o):Nat):Int) by omega),decide_eq_true (show((bT w.1 (ba o):Nat):Int)<((bT w.1 (ba o)+1:Nat):Int) by omega),decide_eq_true (show((bT w.1 (ba o)+1:Nat):Int)≤((w.1.length:Nat):Int) by omega),fits (by omega)];rfl
   refine ae jO ?_;have e:dF w.1 ((bT w.1 (ba o):Nat):Int) (IntKind.wrap .i64 (((bT w.1 (ba o):Nat):Int)+1))=cU w.1 (ba o):=by
    grind [zB,dF,Int.toNat_natCast]
   simp_all
def zW:aW:=([],([],([],())))
def aP(s:StateT):aW:=(s.1.1,(s.1.2,(s.2,())))
def BX(w:aW):StateT:=((w.1,w.2.1),w.2.2.1)
def j4(e:Int)(w:aW):StateT×(Int×Unit):=if e≠0 then(zS,(e,())) else(BX w,(0,()))
def YE(k:Int)(x:ID):bq:=(k,(x,(zI,(zI,(zC,(zC,(false,(e0,0))))))))
def aop(x:ID):Int:=if ck x=true then 0 else 1
def shS:StateT:=(([((1,1),([],(e0,0)))],[]),[])
end Go.Vs
namespace Go.Vs
open Go.Proofs
theorem b7.map{l:List ai}(h:b7 l){f:ai→ai}(hf:∀v,(f v).1=v.1):b7 (l.map f):=by unfold b7 at h ⊢;rw[List.pairwise_map];exact h.imp fun {a b} AW=>by rw[hf,hf];exact AW
theorem pW{x:ID}{f:ai→ai}(hf:∀v,(f v).1=v.1):∀(l:List ai),aR (l.map f) x=(aR l x).map f
 |[]=>rfl
 |w::r=>by
  unfold aR;rw[List.map_cons,List.find?_cons,List.find?_cons,hf];have:=pW (x:=x) hf r;unfold aR at this
  cases decide (w.1=x) with
  |true=>rfl
  |false=>exact this
theorem s8(x:ID)(l:List ab)(w:ai):(uu x l w).1=w.1:=by grind [uu]
theorem Ph(o:bq)(w:ai):(iO o w).1=w.1:=by grind [iO]
structure Iv(d:ak):Prop where
 s:b7 d.1
 n:d.1.length≤24
theorem Iv.zero:Iv zS.1:=⟨List.Pairwise.nil,by simp[zS]⟩
theorem Iv.cj{d:ak}(h:Iv d)(x:ID)(l:List ab):Iv (cj d x l):=⟨h.s.map (s8 x l),by unfold Vs.cj;simp;exact h.n⟩
theorem Iv.aM{d:ak}(h:Iv d)(v e:ID):Iv (aM d v e):=⟨nu h.s,acz (ado _ _) h.n⟩
theorem Iv.one{s:StateT}(h:Iv s.1)(o:bq):Iv (ke s o).1.1:=by
 unfold ke
 split;· exact Iv.zero
 split
 ·unfold ov
  split;· exact Iv.zero
  split;· exact Iv.zero
  rename_i h1 h2;exact⟨pV _ h.s (by simpa[bp] using h1),by rw[fH];omega⟩
 split
 ·unfold vq
  split
  ·exact Iv.zero
  ·split
   ·exact Iv.zero
   ·exact h.aM _ _
 split
 ·unfold ou
  split;· exact Iv.zero
  split;· exact Iv.zero
  split;· exact Iv.zero
  split;· exact Iv.zero
  split;· exact Iv.zero
  have h1:Iv (s.1.1,dH (ba o,(e0,0)) s.1.2):=⟨h.s,h.n⟩;exact(h1.cj _ _).cj _ _
 split
 ·unfold D4
  split;· exact Iv.zero
  exact((h.cj _ _).cj _ _).aM _ _
 split
 ·unfold kJ
  split;· exact Iv.zero
  split;· exact Iv.zero
  split;· exact Iv.zero
  split;· exact Iv.zero
  split;· exact Iv.zero
  rename_i h1 h2 h3 h4 h5;have h6:aR s.1.1 (fC o)=none:=by simpa[bp] using h2
  have h7:aR (aE s.1 (Li o) (aj (G1 o))).1 (fC o)=none:=by
   grind [aE,Vs.cj,pW,s8]
  refine⟨pV _ (h.cj _ _).s h7,?_⟩
  grind [Vp,fH,aE,s,Li,aj,G1,Vs.cj]
 split
 ·unfold j0;have key:∀a b:ab,Iv (Jp s o a b):=fun a b=>((h.aM _ _).cj _ _).aM _ _
  grind [Iv.zero,je]
 ·unfold wg
  split
  ·exact⟨h.s.map (Ph o),by simp;exact h.n⟩
  ·exact Iv.zero
theorem Iv.go:∀(l:List bq) {s:StateT},Iv s.1→Iv (D5 l s).1.1
 |[],s,h=>h
 |o::r,s,h=>by
  unfold D5
  split
  ·exact Iv.zero
  ·exact Iv.go r (h.one o)
theorem Iv.try{s:StateT}(h:Iv s.1)(l:List bq):Iv (il s l).1:=by
 grind [il,cV,Iv.zero,Iv.go]
theorem Iv.reach:∀(m:Nat) (l:List (List bq)) {s:StateT},Iv s.1→Iv (nt m l s).1
 |0,_,s,h=>by simpa[nt] using h
 |m+1,[],s,h=>h
 |m+1,l::r,s,h=>by rw[nt];exact Iv.reach m r (h.try _)
theorem Iv.Pf(l:List (List bq)):Iv (D6 l).1:=Iv.reach 30 l Iv.zero
theorem Ns{x:ID}{l:List ai}(hf:aR l x=none):cU l x=l:=by
 grind [cU,List.filter_eq_self,aR,List.find?_eq_none]
theorem D7(v:ai):∀{l:List ai},aR l v.1=none→cU (cW v l) v.1=l
 |[],_=>by simp[cW,cU]
 |w::r,hf=>by
  have bz:¬w.1=v.1:=fun e=>by simp[aR,e]at hf
  have C3:aR r v.1=none:=by simpa[aR,List.find?_cons,bz] using hf
  unfold cW
  split
  ·unfold cU;rw[List.filter_cons_of_neg (by simp)];exact Ns hf
  ·have:=D7 v C3;unfold cU at this ⊢;rw[List.filter_cons_of_pos (by simpa using bz),this]
end Go.Vs
