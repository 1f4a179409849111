/- What the program computes at -/
import Derived.Test.YtoleelddkocpkaaGreatRefB
set_option linter.unusedVariables false
set_option linter.unusedSimpArgs false
namespace Go.Vs
open Go.Proofs
variable {G:(f:FuncId)→(g:aP)→Option (g.A→Option g.B)}
theorem Ni(hG:G 100 rG=none)(x:ID):FX G 100 rG ((x,()),())=some ((cr x,()),()):=by
 refine av hG akV ?_;obtain⟨a,b⟩:=x;show(cond (decide (a≥1)) (cond (decide (a≤8)) (cond (decide (b≥1)) (some ((decide (b≤1048576),()),())) (some ((false,()),()))) (some ((false,()),()))) (some ((false,()),())):Option ((Bool×Unit)×Unit))=some ((cr (a,b),()),());unfold cr
 grind
theorem aau(hG:G 150 Dh=none)(n:Int):FX G 150 Dh ((n,()),())=some ((false,()),()):=by refine av hG aeU ?_;exact congrArg (fun b:Bool=>some ((b,()),())) (show(n != n)=false by simp)
def Nj(a b:Int):Int:=if a<b then -1 else if a>b then 1 else 0
theorem Vr(hG:HG G)(a b:Int):FX G 103 De ((a,b,()),())=some ((Nj a b,()),()):=by
 refine av (hG _ _ rfl) aeP ?_;refine aa (aau (hG _ _ rfl) a) ?_;refine aa (aau (hG _ _ rfl) b) ?_;refine ag rfl (ag rfl ?_);unfold Nj;by_cases h1:a<b
 ·rw[if_pos h1];exact af (decide_eq_true h1) rfl
 rw[if_neg h1];refine ag (decide_eq_false h1) ?_;by_cases h2:a>b
 ·rw[if_pos h2];exact af (decide_eq_true h2) rfl
 rw[if_neg h2];exact ag (decide_eq_false h2) rfl
theorem aav(hG:G 101 xe=none)(a b:Int):FX G 101 xe (([a,b],()),())=some ((if a≠0 then a else b,()),()):=by
 refine av hG aeO ?_;by_cases ha:a=0
 ·rw[if_neg (by simp[ha])];refine ar BM ?_;refine af rfl (aa (a:=a) rfl ?_);refine ag (show(a != 0)=false by simp[ha]) ?_;refine ar BM ?_;refine af rfl (aa (a:=b) rfl ?_);by_cases hb:b=0
  ·refine ag (show(b != 0)=false by simp[hb]) ?_;refine ar BM ?_;rw[hb];rfl
  ·exact af (show(b != 0)=true by simp[hb]) rfl
 ·rw[if_pos ha];refine ar BM ?_;refine af rfl (aa (a:=a) rfl ?_);exact af (show(a != 0)=true by simp[ha]) rfl
theorem O9(hG:HG G)(a b:ID):FX G 102 AG ((a,b,()),())=some ((rI a b,()),()):=by
 refine av (hG _ _ rfl) aeC ?_;unfold rI;by_cases h:a=b
 ·rw[if_pos h];exact af ((j5 a b).trans (decide_eq_true h)) rfl
 rw[if_neg h];refine ag ((j5 a b).trans (decide_eq_false h)) ?_;refine aa (Vr hG a.1 b.1) ?_;refine aa (Vr hG a.2 b.2) ?_;refine aa (aav (hG _ _ rfl) (Nj a.1 b.1) (Nj a.2 b.2)) ?_;refine congrArg (fun n:Int=>some ((n,()),())) ?_;obtain⟨a1,a2⟩:=a;obtain⟨b1,b2⟩:=b;unfold Nj fL
 grind
theorem aaw(hG:HG G)(v:ai)(x:ID):FX G 188 GG ((v,x,()),())=some ((rI v.1 x,()),()):=by refine av (hG _ _ rfl) aeB ?_;exact aa (O9 hG v.1 x) rfl
theorem Nk{i j:Nat}(hi:i≤1000000000)(hj:j≤1000000000):IntKind.wrap .i64 (gy .u64 (IntKind.wrap .u64 (IntKind.wrap .i64 ((i:Int)+(j:Int)))) (1:Int))=(((i+j) / 2:Nat):Int):=by
 grind [IntKind.wrap,wrap_small,IntKind.bits,IntKind.signed,gy,min,Int.toNat,Int.fdiv_eq_ediv_of_nonneg]
def bT(l:List ai)(x:ID):Nat:=l.countP fun v=>fL v.1 x
def bZ(l:List ai):Prop:=l.Pairwise fun a b=>fL a.1 b.1=true
theorem gW{a b c:ID}(h:fL a b=true)(k:fL b c=true):fL a c=true:=by
 grind [fL]
theorem mg{a b:ID}(h:fL a b=true):fL b a=false:=by
 grind [fL]
theorem mh{a b:ID}(h:fL a b=false)(k:a≠b):fL b a=true:=by
 grind [fL]
theorem IY(l:List ai)(x:ID):bT l x≤l.length:=adk
theorem ug{l:List ai}{x:ID}(h:∀v∈l,fL v.1 x=false):bT l x=0:=by
 grind [bT,List.countP_eq_zero]
theorem zx{x:ID}:∀{l:List ai},bZ l→∀(k:Nat) (v:ai),l[k]? = some v→(fL v.1 x=true↔k<bT l x)
 |[],_,k,v,h=>by simp at h
 |w::r,hs,k,v,h=>by
  have hw:∀{u:ai},u∈r→fL w.1 u.1=true:=fun {u} hu=>acZ hs hu;have hr:bZ r:=hs.of_cons;by_cases aH:fL w.1 x=true
  ·have e:bT (w::r) x=bT r x+1:=by grind [bT,List.countP_cons_of_pos]
   cases k with
   |zero=>simp_all
   |succ k=>have:=zx (x:=x) hr k v (by simpa using h);simp_all
  ·have hn:∀u∈w::r,fL u.1 x=false:=fun u hu=>by
    rcases abL.1 hu with rfl|hu
    ·simp_all
    ·rw[Bool.eq_false_iff];grind [gW]
   grind [ug,List.mem_of_getElem?]
theorem Vt(hG:HG G)(l:List ai)(x:ID)(hs:bZ l)(hl:l.length≤50000000):∀(n i j:Nat),j-i≤n→i≤bT l x→bT l x≤j→j≤l.length → LX G 189187 jM Tryz.f187 jn (aF Tryz.prog 187 0) ((l,(((l.length:Nat):Int),((i:Int),((j:Int),())))),(((x,()),()),()))=some (((((bT l x:Nat):Int),(decide ((l[bT l x]?).map (·.1)=some x),())):Int×(Bool×Unit)),()):=by
 have uR:=IY l x;have fin:∀(i j:Nat),¬(i<j)→i≤bT l x→bT l x≤j→LX G 189187 jM Tryz.f187 jn (aF Tryz.prog 187 0) ((l,(((l.length:Nat):Int),((i:Int),((j:Int),())))),(((x,()),()),()))=some (((((bT l x:Nat):Int),(decide ((l[bT l x]?).map (·.1)=some x),())):Int×(Bool×Unit)),()):=fun i j E9 h1 h2=>by
  have hi:i=bT l x:=by omega
  subst hi;refine ar DL ?_;refine ag (decide_eq_false (show ¬(((bT l x:Nat):Int)<(j:Int)) by omega)) ?_;by_cases hc:bT l x<l.length
  ·have hx:l[bT l x]? = some l[bT l x]:=aby hc;refine af (aN hc) ?_;refine aa (aw hx) ?_;refine aa (aaw hG l[bT l x] x) ?_;refine congrArg (fun b:Bool=>some ((((bT l x:Nat):Int),(b,())),())) ?_
   grind [rI,bT]
  ·refine ag (decide_eq_false (show ¬(((bT l x:Nat):Int)<((l.length:Nat):Int)) by omega)) ?_;refine congrArg (fun b:Bool=>some ((((bT l x:Nat):Int),(b,())),())) ?_;simp_all
 intro n
 induction n with
 |zero=>grind
 |succ n ih =>
  intro i j E9 h1 h2 h3;by_cases aH:i<j
  case neg=>grind
  refine ar DL ?_;refine af (decide_eq_true (show((i:Int)<(j:Int)) by omega)) ?_;refine ag rfl ?_;have hm:=Nk (i:=i) (j:=j) (by omega) (by omega);have hh:(i+j) / 2<l.length:=by omega
  have hx:l[(i+j) / 2]? = some l[(i+j) / 2]:=aby hh;have qy:=zx (x:=x) hs ((i+j) / 2) _ hx;refine aa (show aR l (IntKind.wrap .i64 (gy .u64 (IntKind.wrap .u64 (IntKind.wrap .i64 ((i:Int)+(j:Int)))) (1:Int)))=some l[(i+j) / 2] by rw[hm];exact aw hx) ?_;refine aa (aaw hG l[(i+j) / 2] x) ?_;by_cases ho:fL l[(i+j) / 2].1 x=true
  ·refine af (decide_eq_true ((jQ _ _).2 ho)) ?_;have hc:=qy.1 ho;have hw:IntKind.wrap .i64 (IntKind.wrap .i64 (gy .u64 (IntKind.wrap .u64 (IntKind.wrap .i64 ((i:Int)+(j:Int)))) (1:Int))+1)=(((i+j) / 2+1:Nat):Int):=by rw[hm];exact aA hh (by omega)
   have:=ih ((i+j) / 2+1) j (by omega) (by omega) h2 h3;rw[←hw]at this;exact this
  ·refine ag (decide_eq_false (fun h=>ho ((jQ _ _).1 h))) ?_;have hc:¬(i+j) / 2<bT l x:=fun h=>ho (qy.2 h);have:=ih i ((i+j) / 2) (by omega) h1 (by omega) (by omega);rw[←hm]at this;exact this
theorem Vu(hG:HG G)(l:List ai)(x:ID)(hs:bZ l)(hl:l.length≤50000000) :
  FX G 189187 jM ((l,x,()),())=some (((((bT l x:Nat):Int),(decide ((l[bT l x]?).map (·.1)=some x),())):Int×(Bool×Unit)),()):=by
 refine av (hG _ _ rfl) UR ?_;exact Vt hG l x hs hl l.length 0 l.length (by omega) (by omega) (IY l x) (acW _)
theorem rp(hG:HG G)(w:aW)(x:ID)(hs:bZ w.1)(hl:w.1.length≤50000000) :
  FX G 152 rk ((x,()),(w,()))=some (((((bT w.1 x:Nat):Int),(decide ((w.1[bT w.1 x]?).map (·.1)=some x),())):Int×(Bool×Unit)),(w,())):=by
 refine av (hG _ _ rfl) aen ?_;exact aa (Vu hG w.1 x hs hl) rfl
theorem uh{x:ID}:∀{l:List ai},bZ l→aT l x=(l[bT l x]?).filter fun v=>decide (v.1=x)
 |[],_=>rfl
 |w::r,hs=>by
  have hw:∀{u:ai},u∈r→fL w.1 u.1=true:=fun {u} hu=>acZ hs hu;have hr:bZ r:=hs.of_cons;by_cases aH:fL w.1 x=true
  ·have e:bT (w::r) x=bT r x+1:=by unfold bT;rw[List.countP_cons_of_pos (by simpa using aH)]
   have bw:¬w.1=x:=fun e=>by rw[e,b6]at aH;cases aH
   rw[e];simp only[aT,List.find?_cons,bw,decide_false,List.getElem?_cons_succ];exact uh hr
  ·have hn:∀u∈w::r,fL u.1 x=false:=fun u hu=>by
    rcases abL.1 hu with rfl|hu
    ·simpa using aH
    ·rw[Bool.eq_false_iff];intro h2;exact aH (gW (hw hu) h2)
   rw[ug hn];by_cases he:w.1=x
   ·simp[aT,List.find?_cons,he,Option.filter]
   ·have Ol:fL x w.1=true:=mh (by simpa using aH) he;have:aT r x=none:=by
     unfold aT;rw[List.find?_eq_none];intro u hu h2;have h3:u.1=x:=by simpa using h2
     have h4:=hw hu;rw[h3]at h4;have:=mg h4;rw[Ol]at this;cases this
    rw[show aT (w::r) x=aT r x by simp only[aT,List.find?_cons,he,decide_false],this];simp[he,Option.filter]
theorem gh{l:List ai}{x:ID}(hs:bZ l):decide ((l[bT l x]?).map (·.1)=some x)=(aT l x).isSome:=by
 grind [uh,bT,Option.filter]
theorem Lm(v:ai):∀{l:List ai},bZ l→aT l v.1=none→cW v l=l.take (bT l v.1)++(v::l.drop (bT l v.1))
 |[],_,_=>rfl
 |w::r,hs,hf=>by
  have hw:∀{u:ai},u∈r→fL w.1 u.1=true:=fun {u} hu=>acZ hs hu;have hr:bZ r:=hs.of_cons;have bw:¬w.1=v.1:=fun e=>by simp[aT,e]at hf
  have C1:aT r v.1=none:=by simpa[aT,List.find?_cons,bw] using hf
  by_cases aH:fL w.1 v.1=true
  ·have e:bT (w::r) v.1=bT r v.1+1:=by unfold bT;rw[List.countP_cons_of_pos (by simpa using aH)]
   have Qt:fL v.1 w.1=false:=mg aH;rw[e,cW,if_neg (by simp[Qt]),Lm v hr C1];rfl
  ·have hn:∀u∈w::r,fL u.1 v.1=false:=fun u hu=>by
    rcases abL.1 hu with rfl|hu
    ·simpa using aH
    ·rw[Bool.eq_false_iff];intro h2;exact aH (gW (hw hu) h2)
   have Ol:fL v.1 w.1=true:=mh (by simpa using aH) bw;rw[ug hn,cW,if_pos Ol];rfl
theorem zy{x:ID}:∀{l:List ai},bZ l→(aT l x).isSome=true→cV l x=l.take (bT l x)++l.drop (bT l x+1)
 |[],_,hf=>by simp[aT]at hf
 |w::r,hs,hf=>by
  have hw:∀{u:ai},u∈r→fL w.1 u.1=true:=fun {u} hu=>acZ hs hu;have hr:bZ r:=hs.of_cons;by_cases he:w.1=x
  ·have hn:∀u∈w::r,fL u.1 x=false:=fun u hu=>by
    rcases abL.1 hu with rfl|hu
    ·rw[he,b6]
    ·rw[←he];exact mg (hw hu)
   have iq:cV r x=r:=by unfold cV;rw[List.filter_eq_self];intro u hu;have h4:=hw hu;simp;intro e2;rw[he,e2,b6]at h4;cases h4
   rw[ug hn];unfold cV;rw[List.filter_cons_of_neg (by simp[he])];exact iq
  ·have C1:(aT r x).isSome=true:=by simpa[aT,List.find?_cons,he] using hf
   have aH:fL w.1 x=true:=by
    obtain⟨u,hu⟩:=acV.1 C1;have h1:=ac4 hu;have h2:u.1=x:=by simpa using adn hu
    rw[←h2];exact hw h1
   have e:bT (w::r) x=bT r x+1:=by unfold bT;rw[List.countP_cons_of_pos (by simpa using aH)]
   rw[e];have:=zy hr C1;simp[cV,List.filter_cons,he]at this ⊢;exact this
theorem pM(v:ai):∀{l:List ai},bZ l→aT l v.1=none→bZ (cW v l)
 |[],_,_=>List.pairwise_singleton _ _
 |w::r,hs,hf=>by
  have hw:∀{u:ai},u∈r→fL w.1 u.1=true:=fun {u} hu=>acZ hs hu;have hr:bZ r:=hs.of_cons;have bw:¬w.1=v.1:=fun e=>by simp[aT,e]at hf
  have C1:aT r v.1=none:=by simpa[aT,List.find?_cons,bw] using hf
  unfold cW
  split
  ·rename_i h;refine List.Pairwise.cons (fun u hu=>?_) hs;rcases abL.1 hu with rfl|hu
   ·exact h
   ·exact gW h (hw hu)
  ·rename_i h;have aH:fL w.1 v.1=true:=mh (by simpa using h) (fun e=>bw e.symm);refine List.Pairwise.cons (fun u hu=>?_) (pM v hr C1);rcases jS.1 hu with rfl|hu
   ·exact aH
   ·exact hw hu
theorem ng{l:List ai}{x:ID}(hs:bZ l):bZ (cV l x):=hs.filter _
theorem alM(hG:G 109 Ri=none)(l:List ai)(hl:l.length≤50000000):FX G 109 Ri ((l,()),())=some ((l,()),()):=by
 refine av hG akO ?_
 cases l with
 |nil=>exact af rfl (nO (by omega) fun j hj=>by cases j<;>rfl)
 |cons x r=>exact ag rfl (af (fits (by grind)) rfl)
theorem alN(hG:G 110 Rj=none)(l:List ak)(hl:l.length≤50000000):FX G 110 Rj ((l,()),())=some ((l,()),()):=by
 refine av hG akP ?_
 cases l with
 |nil=>exact af rfl (nO (by omega) fun j hj=>by cases j<;>rfl)
 |cons x r=>exact ag rfl (af (fits (by grind)) rfl)
theorem abY(hG:G 111 Bf=none)(l:List ae)(hl:l.length≤50000000):FX G 111 Bf ((l,()),())=some ((l,()),()):=by
 refine av hG akQ ?_
 cases l with
 |nil=>exact af rfl (nO (by omega) fun j hj=>by cases j<;>rfl)
 |cons x r=>exact ag rfl (af (fits (by grind)) rfl)
theorem abZ(hG:G 84 Kx=none)(l:List aB)(hl:l.length≤50000000):FX G 84 Kx ((l,()),())=some ((l,()),()):=by
 refine av hG akv ?_
 cases l with
 |nil=>exact af rfl (nO (by omega) fun j hj=>by cases j<;>rfl)
 |cons x r=>exact ag rfl (af (fits (by grind)) rfl)
theorem Vv{α:Type}{l:List α}{i:Nat}{x:α}(h:l[i]? = some x):l.set i x=l:=by obtain⟨hi,he⟩:=abJ.1 h;subst he;simp
theorem afZ(hG:HG G)(d:an)(hs:Sm d):FX G 83 Ir ((d,()),())=some (((d.1,(d.2,())),()),()):=by
 have hv:=hs.v;have he:=hs.e;refine av (hG _ _ rfl) aku ?_;refine aa (alM (hG _ _ rfl) d.1 (by omega)) ?_;refine aa (alN (hG _ _ rfl) d.2 (by omega)) ?_;have loop:∀(n i:Nat) (out:List ai),i+n=d.1.length→out=d.1→LX G 83 Ir Tryz.f83 DH (aF Tryz.prog 83 0) ((((d.1.length:Nat):Int),((i:Int),())),(((([]:List ai),(([]:List ak),())),((out,(d.2,())),())),()))=some (((d.1,(d.2,())),()),()):=by
  intro n
  induction n with
  |zero =>intro i out hi ho;subst ho;refine ar Uz ?_;exact ag (decide_eq_false (show ¬((i:Int)<((d.1.length:Nat):Int)) by omega)) rfl
  |succ n ih =>
   intro i out hi ho;have rK:=ho;subst ho;refine ar Uz ?_;have aH:i<d.1.length:=by omega
   have hx:d.1[i]? = some d.1[i]:=aby aH;refine af (aN aH) ?_;refine af (cd (fq i) (aN aH)) ?_;refine aa hx ?_;refine aa (abY (hG _ _ rfl) d.1[i].2.1 (hs.r _ (acv aH))) ?_;refine af (cd (fq i) (aN aH)) ?_;refine aa hx ?_;rw[wI,aA aH (show d.1.length≤1073741824 by omega)];exact ih (i+1) (d.1.set i d.1[i]) (by omega) (Vv hx)
 exact loop d.1.length 0 d.1 (by omega) rfl
def rq(w:aW)(v:ai):Int×aW :=if(aT w.1 v.1).isSome=true then(12,w) else if 24≤w.1.length then(3,w) else(0,(cW v w.1,w.2))
def G5(w:aW)(x:ID):Int×aW:=match aT w.1 x with
 |none=>(13,w)
 |some v=>if 0<v.2.1.length then(14,w) else(0,(cV w.1 x,w.2))
theorem ab0(hG:HG G)(w:aW)(v:ai)(hs:bZ w.1)(hl:w.1.length≤50000000):FX G 112 Kz ((v,()),(w,()))=some (((rq w v).1,()),((rq w v).2,())):=by
 refine av (hG _ _ rfl) akZ ?_;refine aa (rp hG w v.1 hs hl) ?_;unfold rq
 cases hf:(aT w.1 v.1).isSome
 ·rw[if_neg (by simp)];refine ag ((gh hs).trans hf) ?_;by_cases h2:24≤w.1.length
  ·rw[if_pos h2];exact af (decide_eq_true (show((w.1.length:Nat):Int)≥24 by omega)) rfl
  ·rw[if_neg h2];refine ag (decide_eq_false (show ¬((w.1.length:Nat):Int)≥24 by omega)) ?_;have hc:=IY w.1 v.1;have kM:rT w.1 ((bT w.1 v.1:Nat):Int) [v]=true:=by
    grind [rT,decide_eq_true,bT,fits]
   refine af kM ?_;have e:jc w.1 ((bT w.1 v.1:Nat):Int) [v]=cW v w.1:=by simp_all [Lm,jc]
   exact congrArg (fun l:List ai=>some (((0:Int),()),((l,w.2),()))) e
 ·rw[if_pos rfl];exact af ((gh hs).trans hf) rfl
theorem alO(hG:HG G)(w:aW)(o:bj)(hs:bZ w.1)(hl:w.1.length≤50000000):FX G 113 T0 ((o,()),(w,()))=some (((G5 w (bh o)).1,()),((G5 w (bh o)).2,())):=by
 refine av (hG _ _ rfl) ak0 ?_;refine aa (rp hG w (bh o) hs hl) ?_;unfold G5;have hth:=gh (x:=bh o) hs;have alP:=uh (x:=bh o) hs
 cases hf:aT w.1 (bh o) with
 |none =>rw[hf]at hth;refine af (show(!(decide ((w.1[bT w.1 (bh o)]?).map (·.1)=some (bh o))))=true by rw[hth];rfl) rfl
 |some v =>
  rw[hf]at hth alP;refine ag (show(!(decide ((w.1[bT w.1 (bh o)]?).map (·.1)=some (bh o))))=false by rw[hth];rfl) ?_;have hx:w.1[bT w.1 (bh o)]? = some v:=by
   grind
  have aH:=(abJ.1 hx).1;refine af (cd (fq _) (aN aH)) ?_;refine aa hx ?_;show _=some ((((if 0<v.2.1.length then(14,w) else(0,(cV w.1 (bh o),w.2)):Int×aW).1,()),((if 0<v.2.1.length then(14,w) else(0,(cV w.1 (bh o),w.2)):Int×aW).2,())):(Int×Unit)×(aW×Unit));by_cases h2:0<v.2.1.length
  ·simp_all
  ·rw[if_neg h2];refine ag (decide_eq_false (show ¬((v.2.1.length:Nat):Int)>0 by omega)) ?_;have hw:IntKind.wrap .i64 (((bT w.1 (bh o):Nat):Int)+1)=((bT w.1 (bh o)+1:Nat):Int):=aA aH (by omega);have kM:j8 w.1 ((bT w.1 (bh o):Nat):Int) (IntKind.wrap .i64 (((bT w.1 (bh o):Nat):Int)+1))=true:=by rw[hw];unfold j8;rw[decide_eq_true (show(0:Int)≤((bT w.1 (bh o):Nat):Int) by omega),decide_eq_true (show((bT w.1 (bh o):Nat):Int)<((bT w.1 (bh o)+1:Nat):Int) by omega),decide_eq_true (show((bT w.1 (bh o)+1:Nat):Int)≤((w.1.length:Nat):Int) by omega),fits (by omega)];rfl
   refine af kM ?_;have e:dA w.1 ((bT w.1 (bh o):Nat):Int) (IntKind.wrap .i64 (((bT w.1 (bh o):Nat):Int)+1))=cV w.1 (bh o):=by
    grind [zy,dA,Int.toNat_natCast]
   simp_all
def zW:aW:=([],([],([],())))
def aQ(s:StateT):aW:=(s.1.1,(s.1.2,(s.2,())))
def BS(w:aW):StateT:=((w.1,w.2.1),w.2.2.1)
def jU(e:Int)(w:aW):StateT×(Int×Unit):=if e≠0 then(zS,(e,())) else(BS w,(0,()))
def Ry(k:Int)(x:ID):bj:=(k,(x,(zI,(zI,(zC,(zC,(false,(e0,0))))))))
def aod(x:ID):Int:=if cr x=true then 0 else 1
def shS:StateT:=(([((1,1),([],(e0,0)))],[]),[])
end Go.Vs
namespace Go.Vs
open Go.Proofs
theorem bZ.map{l:List ai}(h:bZ l){f:ai→ai}(hf:∀v,(f v).1=v.1):bZ (l.map f):=by unfold bZ at h ⊢;rw[List.pairwise_map];exact h.imp fun {a b} rm=>by rw[hf,hf];exact rm
theorem pN{x:ID}{f:ai→ai}(hf:∀v,(f v).1=v.1):∀(l:List ai),aT (l.map f) x=(aT l x).map f
 |[]=>rfl
 |w::r=>by
  unfold aT;rw[List.map_cons,List.find?_cons,List.find?_cons,hf];have:=pN (x:=x) hf r;unfold aT at this
  cases decide (w.1=x) with
  |true=>rfl
  |false=>exact this
theorem sN(x:ID)(l:List ae)(w:ai):(uf x l w).1=w.1:=by grind [uf]
theorem Pb(o:bj)(w:ai):(iO o w).1=w.1:=by grind [iO]
structure Iv(d:an):Prop where
 s:bZ d.1
 n:d.1.length≤24
theorem Iv.zero:Iv zS.1:=⟨List.Pairwise.nil,by simp[zS]⟩
theorem Iv.cp{d:an}(h:Iv d)(x:ID)(l:List ae):Iv (cp d x l):=⟨h.s.map (sN x l),by unfold Vs.cp;simp;exact h.n⟩
theorem Iv.aO{d:an}(h:Iv d)(v e:ID):Iv (aO d v e):=⟨ng h.s,acY (adg _ _) h.n⟩
theorem Iv.one{s:StateT}(h:Iv s.1)(o:bj):Iv (j6 s o).1.1:=by
 unfold j6
 split;· exact Iv.zero
 split
 ·unfold nV
  split;· exact Iv.zero
  split;· exact Iv.zero
  rename_i h1 h2;exact⟨pM _ h.s (by simpa[br] using h1),by rw[fw];omega⟩
 split
 ·unfold vj
  split
  ·exact Iv.zero
  ·split
   ·exact Iv.zero
   ·exact h.aO _ _
 split
 ·unfold nT
  split;· exact Iv.zero
  split;· exact Iv.zero
  split;· exact Iv.zero
  split;· exact Iv.zero
  split;· exact Iv.zero
  have h1:Iv (s.1.1,dB (bh o,(e0,0)) s.1.2):=⟨h.s,h.n⟩;exact(h1.cp _ _).cp _ _
 split
 ·unfold D3
  split;· exact Iv.zero
  exact((h.cp _ _).cp _ _).aO _ _
 split
 ·unfold kz
  split;· exact Iv.zero
  split;· exact Iv.zero
  split;· exact Iv.zero
  split;· exact Iv.zero
  split;· exact Iv.zero
  rename_i h1 h2 h3 h4 h5;have h6:aT s.1.1 (fi o)=none:=by simpa[br] using h2
  have h7:aT (aE s.1 (Ll o) (aj (G4 o))).1 (fi o)=none:=by
   grind [aE,Vs.cp,pN,sN]
  refine⟨pM _ (h.cp _ _).s h7,?_⟩
  grind [Vq,fw,aE,s,Ll,aj,G4,Vs.cp]
 split
 ·unfold jT;have key:∀a b:ae,Iv (JA s o a b):=fun a b=>((h.aO _ _).cp _ _).aO _ _
  grind [Iv.zero,iZ]
 ·unfold v7
  split
  ·exact⟨h.s.map (Pb o),by simp;exact h.n⟩
  ·exact Iv.zero
theorem Iv.go:∀(l:List bj) {s:StateT},Iv s.1→Iv (D4 l s).1.1
 |[],s,h=>h
 |o::r,s,h=>by
  unfold D4
  split
  ·exact Iv.zero
  ·exact Iv.go r (h.one o)
theorem Iv.try{s:StateT}(h:Iv s.1)(l:List bj):Iv (iP s l).1:=by
 grind [iP,cf,Iv.zero,Iv.go]
theorem Iv.reach:∀(m:Nat) (l:List (List bj)) {s:StateT},Iv s.1→Iv (nc m l s).1
 |0,_,s,h=>by simpa[nc] using h
 |m+1,[],s,h=>h
 |m+1,l::r,s,h=>by rw[nc];exact Iv.reach m r (h.try _)
theorem Iv.O8(l:List (List bj)):Iv (D5 l).1:=Iv.reach 30 l Iv.zero
theorem Nl{x:ID}{l:List ai}(hf:aT l x=none):cV l x=l:=by
 grind [cV,List.filter_eq_self,aT,List.find?_eq_none]
theorem D6(v:ai):∀{l:List ai},aT l v.1=none→cV (cW v l) v.1=l
 |[],_=>by simp[cW,cV]
 |w::r,hf=>by
  have bw:¬w.1=v.1:=fun e=>by simp[aT,e]at hf
  have C1:aT r v.1=none:=by simpa[aT,List.find?_cons,bw] using hf
  unfold cW
  split
  ·unfold cV;rw[List.filter_cons_of_neg (by simp)];exact Nl hf
  ·have:=D6 v C1;unfold cV at this ⊢;rw[List.filter_cons_of_pos (by simpa using bw),this]
end Go.Vs
