/- What the program computes at -/
import Derived.Test.YtoleelddkocpkaaGreatRefB
set_option linter.unusedVariables false
set_option linter.unusedSimpArgs false
namespace Go.Vs
open Go.Proofs
variable {G:(f:FuncId)→(g:aO)→Option (g.A→Option g.B)}
theorem Mv(hG:G 100 rh=none)(x:ID):FX G 100 rh ((x,()),())=some ((cF x,()),()):=by
 refine aw hG ajl ?_;obtain⟨a,b⟩:=x;show(cond (decide (a≥1)) (cond (decide (a≤8)) (cond (decide (b≥1)) (some ((decide (b≤1048576),()),())) (some ((false,()),()))) (some ((false,()),()))) (some ((false,()),())):Option ((Bool×Unit)×Unit))=some ((cF (a,b),()),());unfold cF
 grind
theorem Zn(hG:G 150 CA=none)(n:Int):FX G 150 CA ((n,()),())=some ((false,()),()):=by refine aw hG adN ?_;exact congrArg (fun b:Bool=>some ((b,()),())) (show(n != n)=false by simp)
def Mw(a b:Int):Int:=if a<b then -1 else if a>b then 1 else 0
theorem Un(hG:HG G)(a b:Int):FX G 103 Cw ((a,b,()),())=some ((Mw a b,()),()):=by
 refine aw (hG _ _ rfl) adI ?_;refine aa (Zn (hG _ _ rfl) a) ?_;refine aa (Zn (hG _ _ rfl) b) ?_;refine af rfl (af rfl ?_);unfold Mw;by_cases h1:a<b
 ·rw[if_pos h1];exact ae (decide_eq_true h1) rfl
 rw[if_neg h1];refine af (decide_eq_false h1) ?_;by_cases h2:a>b
 ·rw[if_pos h2];exact ae (decide_eq_true h2) rfl
 rw[if_neg h2];exact af (decide_eq_false h2) rfl
theorem Zo(hG:G 101 wE=none)(a b:Int):FX G 101 wE (([a,b],()),())=some ((if a≠0 then a else b,()),()):=by
 refine aw hG adH ?_;by_cases ha:a=0
 ·rw[if_neg (by simp[ha])];refine au A2 ?_;refine ae rfl (aa (a:=a) rfl ?_);refine af (show(a != 0)=false by simp[ha]) ?_;refine au A2 ?_;refine ae rfl (aa (a:=b) rfl ?_);by_cases hb:b=0
  ·refine af (show(b != 0)=false by simp[hb]) ?_;refine au A2 ?_;rw[hb];rfl
  ·exact ae (show(b != 0)=true by simp[hb]) rfl
 ·rw[if_pos ha];refine au A2 ?_;refine ae rfl (aa (a:=a) rfl ?_);exact ae (show(a != 0)=true by simp[ha]) rfl
theorem Oa(hG:HG G)(a b:ID):FX G 102 zX ((a,b,()),())=some ((rj a b,()),()):=by
 refine aw (hG _ _ rfl) adv ?_;unfold rj;by_cases h:a=b
 ·rw[if_pos h];exact ae ((lh a b).trans (decide_eq_true h)) rfl
 rw[if_neg h];refine af ((lh a b).trans (decide_eq_false h)) ?_;refine aa (Un hG a.1 b.1) ?_;refine aa (Un hG a.2 b.2) ?_;refine aa (Zo (hG _ _ rfl) (Mw a.1 b.1) (Mw a.2 b.2)) ?_;refine congrArg (fun n:Int=>some ((n,()),())) ?_;obtain⟨a1,a2⟩:=a;obtain⟨b1,b2⟩:=b;unfold Mw gm
 grind
theorem Zp(hG:HG G)(v:ai)(x:ID):FX G 188 FP ((v,x,()),())=some ((rj v.1 x,()),()):=by refine aw (hG _ _ rfl) adu ?_;exact aa (Oa hG v.1 x) rfl
theorem Mx{i j:Nat}(hi:i≤1000000000)(hj:j≤1000000000):IntKind.wrap .i64 (g9 .u64 (IntKind.wrap .u64 (IntKind.wrap .i64 ((i:Int)+(j:Int)))) (1:Int))=(((i+j) / 2:Nat):Int):=by
 grind [IntKind.wrap,wrap_small,IntKind.bits,IntKind.signed,g9,min,Int.toNat,Int.fdiv_eq_ediv_of_nonneg]
def bS(l:List ai)(x:ID):Nat:=l.countP fun v=>gm v.1 x
def b6(l:List ai):Prop:=l.Pairwise fun a b=>gm a.1 b.1=true
theorem jq{a b c:ID}(h:gm a b=true)(k:gm b c=true):gm a c=true:=by
 grind [gm]
theorem lZ{a b:ID}(h:gm a b=true):gm b a=false:=by
 grind [gm]
theorem l6{a b:ID}(h:gm a b=false)(k:a≠b):gm b a=true:=by
 grind [gm]
theorem HX(l:List ai)(x:ID):bS l x≤l.length:=acL
theorem tG{l:List ai}{x:ID}(h:∀v∈l,gm v.1 x=false):bS l x=0:=by
 grind [bS,List.countP_eq_zero]
theorem yG{x:ID}:∀{l:List ai},b6 l→∀(k:Nat) (v:ai),l[k]? = some v→(gm v.1 x=true↔k<bS l x)
 |[],_,k,v,h=>by simp at h
 |w::r,hs,k,v,h=>by
  have hw:∀{u:ai},u∈r→gm w.1 u.1=true:=fun {u} hu=>ab1 hs hu;have hr:b6 r:=hs.of_cons;by_cases aK:gm w.1 x=true
  ·have e:bS (w::r) x=bS r x+1:=by grind [bS,List.countP_cons_of_pos]
   cases k with
   |zero=>simp_all
   |succ k=>have:=yG (x:=x) hr k v (by simpa using h);simp_all
  ·have hn:∀u∈w::r,gm u.1 x=false:=fun u hu=>by
    rcases abM.1 hu with rfl|hu
    ·simp_all
    ·rw[Bool.eq_false_iff];grind [jq]
   grind [tG,List.mem_of_getElem?]
theorem Uo(hG:HG G)(l:List ai)(x:ID)(hs:b6 l)(hl:l.length≤50000000):∀(n i j:Nat),j-i≤n→i≤bS l x→bS l x≤j→j≤l.length → LX G 189187 jF Tryz.f187 iZ (aM Tryz.prog 187 0) ((l,(((l.length:Nat):Int),((i:Int),((j:Int),())))),(((x,()),()),()))=some (((((bS l x:Nat):Int),(decide ((l[bS l x]?).map (·.1)=some x),())):Int×(Bool×Unit)),()):=by
 have uW:=HX l x;have fin:∀(i j:Nat),¬(i<j)→i≤bS l x→bS l x≤j→LX G 189187 jF Tryz.f187 iZ (aM Tryz.prog 187 0) ((l,(((l.length:Nat):Int),((i:Int),((j:Int),())))),(((x,()),()),()))=some (((((bS l x:Nat):Int),(decide ((l[bS l x]?).map (·.1)=some x),())):Int×(Bool×Unit)),()):=fun i j Fu h1 h2=>by
  have hi:i=bS l x:=by omega
  subst hi;refine au CY ?_;refine af (decide_eq_false (show ¬(((bS l x:Nat):Int)<(j:Int)) by omega)) ?_;by_cases hc:bS l x<l.length
  ·have hx:l[bS l x]? = some l[bS l x]:=abk hc;refine ae (aR hc) ?_;refine aa (aG hx) ?_;refine aa (Zp hG l[bS l x] x) ?_;refine congrArg (fun b:Bool=>some ((((bS l x:Nat):Int),(b,())),())) ?_
   grind [rj,bS]
  ·refine af (decide_eq_false (show ¬(((bS l x:Nat):Int)<((l.length:Nat):Int)) by omega)) ?_;refine congrArg (fun b:Bool=>some ((((bS l x:Nat):Int),(b,())),())) ?_;simp_all
 intro n
 induction n with
 |zero=>grind
 |succ n ih =>
  intro i j Fu h1 h2 h3;by_cases aK:i<j
  case neg=>grind
  refine au CY ?_;refine ae (decide_eq_true (show((i:Int)<(j:Int)) by omega)) ?_;refine af rfl ?_;have hm:=Mx (i:=i) (j:=j) (by omega) (by omega);have hh:(i+j) / 2<l.length:=by omega
  have hx:l[(i+j) / 2]? = some l[(i+j) / 2]:=abk hh;have qg:=yG (x:=x) hs ((i+j) / 2) _ hx;refine aa (show aW l (IntKind.wrap .i64 (g9 .u64 (IntKind.wrap .u64 (IntKind.wrap .i64 ((i:Int)+(j:Int)))) (1:Int)))=some l[(i+j) / 2] by rw[hm];exact aG hx) ?_;refine aa (Zp hG l[(i+j) / 2] x) ?_;by_cases ho:gm l[(i+j) / 2].1 x=true
  ·refine ae (decide_eq_true ((lQ _ _).2 ho)) ?_;have hc:=qg.1 ho;have hw:IntKind.wrap .i64 (IntKind.wrap .i64 (g9 .u64 (IntKind.wrap .u64 (IntKind.wrap .i64 ((i:Int)+(j:Int)))) (1:Int))+1)=(((i+j) / 2+1:Nat):Int):=by rw[hm];exact aB hh (by omega)
   have:=ih ((i+j) / 2+1) j (by omega) (by omega) h2 h3;rw[←hw]at this;exact this
  ·refine af (decide_eq_false (fun h=>ho ((lQ _ _).1 h))) ?_;have hc:¬(i+j) / 2<bS l x:=fun h=>ho (qg.2 h);have:=ih i ((i+j) / 2) (by omega) h1 (by omega) (by omega);rw[←hm]at this;exact this
theorem Up(hG:HG G)(l:List ai)(x:ID)(hs:b6 l)(hl:l.length≤50000000) :
  FX G 189187 jF ((l,x,()),())=some (((((bS l x:Nat):Int),(decide ((l[bS l x]?).map (·.1)=some x),())):Int×(Bool×Unit)),()):=by
 refine aw (hG _ _ rfl) TW ?_;exact Uo hG l x hs hl l.length 0 l.length (by omega) (by omega) (HX l x) (abX _)
theorem qU(hG:HG G)(w:aV)(x:ID)(hs:b6 w.1)(hl:w.1.length≤50000000) :
  FX G 152 qQ ((x,()),(w,()))=some (((((bS w.1 x:Nat):Int),(decide ((w.1[bS w.1 x]?).map (·.1)=some x),())):Int×(Bool×Unit)),(w,())):=by
 refine aw (hG _ _ rfl) adf ?_;exact aa (Up hG w.1 x hs hl) rfl
theorem tH{x:ID}:∀{l:List ai},b6 l→aQ l x=(l[bS l x]?).filter fun v=>decide (v.1=x)
 |[],_=>rfl
 |w::r,hs=>by
  have hw:∀{u:ai},u∈r→gm w.1 u.1=true:=fun {u} hu=>ab1 hs hu;have hr:b6 r:=hs.of_cons;by_cases aK:gm w.1 x=true
  ·have e:bS (w::r) x=bS r x+1:=by unfold bS;rw[List.countP_cons_of_pos (by simpa using aK)]
   have bw:¬w.1=x:=fun e=>by rw[e,bY]at aK;cases aK
   rw[e];simp only[aQ,List.find?_cons,bw,decide_false,List.getElem?_cons_succ];exact tH hr
  ·have hn:∀u∈w::r,gm u.1 x=false:=fun u hu=>by
    rcases abM.1 hu with rfl|hu
    ·simpa using aK
    ·rw[Bool.eq_false_iff];intro h2;exact aK (jq (hw hu) h2)
   rw[tG hn];by_cases he:w.1=x
   ·simp[aQ,List.find?_cons,he,Option.filter]
   ·have Ny:gm x w.1=true:=l6 (by simpa using aK) he;have:aQ r x=none:=by
     unfold aQ;rw[List.find?_eq_none];intro u hu h2;have h3:u.1=x:=by simpa using h2
     have h4:=hw hu;rw[h3]at h4;have:=lZ h4;rw[Ny]at this;cases this
    rw[show aQ (w::r) x=aQ r x by simp only[aQ,List.find?_cons,he,decide_false],this];simp[he,Option.filter]
theorem fU{l:List ai}{x:ID}(hs:b6 l):decide ((l[bS l x]?).map (·.1)=some x)=(aQ l x).isSome:=by
 grind [tH,bS,Option.filter]
theorem Kz(v:ai):∀{l:List ai},b6 l→aQ l v.1=none→cU v l=l.take (bS l v.1)++(v::l.drop (bS l v.1))
 |[],_,_=>rfl
 |w::r,hs,hf=>by
  have hw:∀{u:ai},u∈r→gm w.1 u.1=true:=fun {u} hu=>ab1 hs hu;have hr:b6 r:=hs.of_cons;have bw:¬w.1=v.1:=fun e=>by simp[aQ,e]at hf
  have Ci:aQ r v.1=none:=by simpa[aQ,List.find?_cons,bw] using hf
  by_cases aK:gm w.1 v.1=true
  ·have e:bS (w::r) v.1=bS r v.1+1:=by unfold bS;rw[List.countP_cons_of_pos (by simpa using aK)]
   have Wl:gm v.1 w.1=false:=lZ aK;rw[e,cU,if_neg (by simp[Wl]),Kz v hr Ci];rfl
  ·have hn:∀u∈w::r,gm u.1 v.1=false:=fun u hu=>by
    rcases abM.1 hu with rfl|hu
    ·simpa using aK
    ·rw[Bool.eq_false_iff];intro h2;exact aK (jq (hw hu) h2)
   have Ny:gm v.1 w.1=true:=l6 (by simpa using aK) bw;rw[tG hn,cU,if_pos Ny];rfl
theorem yH{x:ID}:∀{l:List ai},b6 l→(aQ l x).isSome=true→cT l x=l.take (bS l x)++l.drop (bS l x+1)
 |[],_,hf=>by simp[aQ]at hf
 |w::r,hs,hf=>by
  have hw:∀{u:ai},u∈r→gm w.1 u.1=true:=fun {u} hu=>ab1 hs hu;have hr:b6 r:=hs.of_cons;by_cases he:w.1=x
  ·have hn:∀u∈w::r,gm u.1 x=false:=fun u hu=>by
    rcases abM.1 hu with rfl|hu
    ·rw[he,bY]
    ·rw[←he];exact lZ (hw hu)
   have jA:cT r x=r:=by unfold cT;rw[List.filter_eq_self];intro u hu;have h4:=hw hu;simp;intro e2;rw[he,e2,bY]at h4;cases h4
   rw[tG hn];unfold cT;rw[List.filter_cons_of_neg (by simp[he])];exact jA
  ·have Ci:(aQ r x).isSome=true:=by simpa[aQ,List.find?_cons,he] using hf
   have aK:gm w.1 x=true:=by
    obtain⟨u,hu⟩:=abY.1 Ci;have h1:=ab8 hu;have h2:u.1=x:=by simpa using acR hu
    rw[←h2];exact hw h1
   have e:bS (w::r) x=bS r x+1:=by unfold bS;rw[List.countP_cons_of_pos (by simpa using aK)]
   rw[e];have:=yH hr Ci;simp[cT,List.filter_cons,he]at this ⊢;exact this
theorem o5(v:ai):∀{l:List ai},b6 l→aQ l v.1=none→b6 (cU v l)
 |[],_,_=>List.pairwise_singleton _ _
 |w::r,hs,hf=>by
  have hw:∀{u:ai},u∈r→gm w.1 u.1=true:=fun {u} hu=>ab1 hs hu;have hr:b6 r:=hs.of_cons;have bw:¬w.1=v.1:=fun e=>by simp[aQ,e]at hf
  have Ci:aQ r v.1=none:=by simpa[aQ,List.find?_cons,bw] using hf
  unfold cU
  split
  ·rename_i h;refine List.Pairwise.cons (fun u hu=>?_) hs;rcases abM.1 hu with rfl|hu
   ·exact h
   ·exact jq h (hw hu)
  ·rename_i h;have aK:gm w.1 v.1=true:=l6 (by simpa using h) (fun e=>bw e.symm);refine List.Pairwise.cons (fun u hu=>?_) (o5 v hr Ci);rcases jL.1 hu with rfl|hu
   ·exact aK
   ·exact hw hu
theorem mR{l:List ai}{x:ID}(hs:b6 l):b6 (cT l x):=hs.filter _
theorem akh(hG:G 109 Qf=none)(l:List ai)(hl:l.length≤50000000):FX G 109 Qf ((l,()),())=some ((l,()),()):=by
 refine aw hG ajh ?_
 cases l with
 |nil=>exact ae rfl (nE (by omega) fun j hj=>by cases j<;>rfl)
 |cons x r=>exact af rfl (ae (fits (by grind)) rfl)
theorem aki(hG:G 110 Qg=none)(l:List aj)(hl:l.length≤50000000):FX G 110 Qg ((l,()),())=some ((l,()),()):=by
 refine aw hG aji ?_
 cases l with
 |nil=>exact ae rfl (nE (by omega) fun j hj=>by cases j<;>rfl)
 |cons x r=>exact af rfl (ae (fits (by grind)) rfl)
theorem aaW(hG:G 111 Ay=none)(l:List ab)(hl:l.length≤50000000):FX G 111 Ay ((l,()),())=some ((l,()),()):=by
 refine aw hG ajj ?_
 cases l with
 |nil=>exact ae rfl (nE (by omega) fun j hj=>by cases j<;>rfl)
 |cons x r=>exact af rfl (ae (fits (by grind)) rfl)
theorem aaX(hG:G 84 JF=none)(l:List ax)(hl:l.length≤50000000):FX G 84 JF ((l,()),())=some ((l,()),()):=by
 refine aw hG aiZ ?_
 cases l with
 |nil=>exact ae rfl (nE (by omega) fun j hj=>by cases j<;>rfl)
 |cons x r=>exact af rfl (ae (fits (by grind)) rfl)
theorem Uq{α:Type}{l:List α}{i:Nat}{x:α}(h:l[i]? = some x):l.set i x=l:=by obtain⟨hi,he⟩:=aby.1 h;subst he;simp
theorem aeO(hG:HG G)(d:ak)(hs:Sm d):FX G 83 Hw ((d,()),())=some (((d.1,(d.2,())),()),()):=by
 have hv:=hs.v;have he:=hs.e;refine aw (hG _ _ rfl) aiY ?_;refine aa (akh (hG _ _ rfl) d.1 (by omega)) ?_;refine aa (aki (hG _ _ rfl) d.2 (by omega)) ?_;have loop:∀(n i:Nat) (out:List ai),i+n=d.1.length→out=d.1→LX G 83 Hw Tryz.f83 CV (aM Tryz.prog 83 0) ((((d.1.length:Nat):Int),((i:Int),())),(((([]:List ai),(([]:List aj),())),((out,(d.2,())),())),()))=some (((d.1,(d.2,())),()),()):=by
  intro n
  induction n with
  |zero =>intro i out hi ho;subst ho;refine au TN ?_;exact af (decide_eq_false (show ¬((i:Int)<((d.1.length:Nat):Int)) by omega)) rfl
  |succ n ih =>
   intro i out hi ho;have rl:=ho;subst ho;refine au TN ?_;have aK:i<d.1.length:=by omega
   have hx:d.1[i]? = some d.1[i]:=abk aK;refine ae (aR aK) ?_;refine ae (cz (fj i) (aR aK)) ?_;refine aa hx ?_;refine aa (aaW (hG _ _ rfl) d.1[i].2.1 (hs.r _ (ab4 aK))) ?_;refine ae (cz (fj i) (aR aK)) ?_;refine aa hx ?_;rw[wI,aB aK (show d.1.length≤1073741824 by omega)];exact ih (i+1) (d.1.set i d.1[i]) (by omega) (Uq hx)
 exact loop d.1.length 0 d.1 (by omega) rfl
def qV(w:aV)(v:ai):Int×aV :=if(aQ w.1 v.1).isSome=true then(12,w) else if 24≤w.1.length then(3,w) else(0,(cU v w.1,w.2))
def Gd(w:aV)(x:ID):Int×aV:=match aQ w.1 x with
 |none=>(13,w)
 |some v=>if 0<v.2.1.length then(14,w) else(0,(cT w.1 x,w.2))
theorem aaY(hG:HG G)(w:aV)(v:ai)(hs:b6 w.1)(hl:w.1.length≤50000000):FX G 112 JJ ((v,()),(w,()))=some (((qV w v).1,()),((qV w v).2,())):=by
 refine aw (hG _ _ rfl) ajp ?_;refine aa (qU hG w v.1 hs hl) ?_;unfold qV
 cases hf:(aQ w.1 v.1).isSome
 ·rw[if_neg (by simp)];refine af ((fU hs).trans hf) ?_;by_cases h2:24≤w.1.length
  ·rw[if_pos h2];exact ae (decide_eq_true (show((w.1.length:Nat):Int)≥24 by omega)) rfl
  ·rw[if_neg h2];refine af (decide_eq_false (show ¬((w.1.length:Nat):Int)≥24 by omega)) ?_;have hc:=HX w.1 v.1;have kG:rB w.1 ((bS w.1 v.1:Nat):Int) [v]=true:=by
    grind [rB,decide_eq_true,bS,fits]
   refine ae kG ?_;have e:iO w.1 ((bS w.1 v.1:Nat):Int) [v]=cU v w.1:=by simp_all [Kz,iO]
   exact congrArg (fun l:List ai=>some (((0:Int),()),((l,w.2),()))) e
 ·rw[if_pos rfl];exact ae ((fU hs).trans hf) rfl
theorem akj(hG:HG G)(w:aV)(o:bg)(hs:b6 w.1)(hl:w.1.length≤50000000):FX G 113 S8 ((o,()),(w,()))=some (((Gd w (aZ o)).1,()),((Gd w (aZ o)).2,())):=by
 refine aw (hG _ _ rfl) ajq ?_;refine aa (qU hG w (aZ o) hs hl) ?_;unfold Gd;have hth:=fU (x:=aZ o) hs;have akk:=tH (x:=aZ o) hs
 cases hf:aQ w.1 (aZ o) with
 |none =>rw[hf]at hth;refine ae (show(!(decide ((w.1[bS w.1 (aZ o)]?).map (·.1)=some (aZ o))))=true by rw[hth];rfl) rfl
 |some v =>
  rw[hf]at hth akk;refine af (show(!(decide ((w.1[bS w.1 (aZ o)]?).map (·.1)=some (aZ o))))=false by rw[hth];rfl) ?_;have hx:w.1[bS w.1 (aZ o)]? = some v:=by
   grind
  have aK:=(aby.1 hx).1;refine ae (cz (fj _) (aR aK)) ?_;refine aa hx ?_;show _=some ((((if 0<v.2.1.length then(14,w) else(0,(cT w.1 (aZ o),w.2)):Int×aV).1,()),((if 0<v.2.1.length then(14,w) else(0,(cT w.1 (aZ o),w.2)):Int×aV).2,())):(Int×Unit)×(aV×Unit));by_cases h2:0<v.2.1.length
  ·simp_all
  ·rw[if_neg h2];refine af (decide_eq_false (show ¬((v.2.1.length:Nat):Int)>0 by omega)) ?_;have hw:IntKind.wrap .i64 (((bS w.1 (aZ o):Nat):Int)+1)=((bS w.1 (aZ o)+1:Nat):Int):=aB aK (by omega);have kG:jX w.1 ((bS w.1 (aZ o):Nat):Int) (IntKind.wrap .i64 (((bS w.1 (aZ o):Nat):Int)+1))=true:=by rw[hw];unfold jX;rw[decide_eq_true (show(0:Int)≤((bS w.1 (aZ o):Nat):Int) by omega),decide_eq_true (show((bS w.1 (aZ o):Nat):Int)<((bS w.1 (aZ o)+1:Nat):Int) by omega),decide_eq_true (show((bS w.1 (aZ o)+1:Nat):Int)≤((w.1.length:Nat):Int) by omega),fits (by omega)];rfl
   refine ae kG ?_;have e:du w.1 ((bS w.1 (aZ o):Nat):Int) (IntKind.wrap .i64 (((bS w.1 (aZ o):Nat):Int)+1))=cT w.1 (aZ o):=by
    grind [yH,du,Int.toNat_natCast]
   simp_all
def zW:aV:=([],([],([],())))
def aN(s:StateT):aV:=(s.1.1,(s.1.2,(s.2,())))
def A8(w:aV):StateT:=((w.1,w.2.1),w.2.2.1)
def jN(e:Int)(w:aV):StateT×(Int×Unit):=if e≠0 then(zS,(e,())) else(A8 w,(0,()))
def Qu(k:Int)(x:ID):bg:=(k,(x,(zI,(zI,(zC,(zC,(false,(e0,0))))))))
def amx(x:ID):Int:=if cF x=true then 0 else 1
def shS:StateT:=(([((1,1),([],(e0,0)))],[]),[])
end Go.Vs
namespace Go.Vs
open Go.Proofs
theorem b6.map{l:List ai}(h:b6 l){f:ai→ai}(hf:∀v,(f v).1=v.1):b6 (l.map f):=by unfold b6 at h ⊢;rw[List.pairwise_map];exact h.imp fun {a b} z8=>by rw[hf,hf];exact z8
theorem o6{x:ID}{f:ai→ai}(hf:∀v,(f v).1=v.1):∀(l:List ai),aQ (l.map f) x=(aQ l x).map f
 |[]=>rfl
 |w::r=>by
  unfold aQ;rw[List.map_cons,List.find?_cons,List.find?_cons,hf];have:=o6 (x:=x) hf r;unfold aQ at this
  cases decide (w.1=x) with
  |true=>rfl
  |false=>exact this
theorem sr(x:ID)(l:List ab)(w:ai):(tF x l w).1=w.1:=by grind [tF]
theorem Oc(o:bg)(w:ai):(iA o w).1=w.1:=by grind [iA]
structure Iv(d:ak):Prop where
 s:b6 d.1
 n:d.1.length≤24
theorem Iv.zero:Iv zS.1:=⟨List.Pairwise.nil,by simp[zS]⟩
theorem Iv.cf{d:ak}(h:Iv d)(x:ID)(l:List ab):Iv (cf d x l):=⟨h.s.map (sr x l),by unfold Vs.cf;simp;exact h.n⟩
theorem Iv.aJ{d:ak}(h:Iv d)(v e:ID):Iv (aJ d v e):=⟨mR h.s,ab0 (acn _ _) h.n⟩
theorem Iv.one{s:StateT}(h:Iv s.1)(o:bg):Iv (jW s o).1.1:=by
 unfold jW
 split;· exact Iv.zero
 split
 ·unfold nJ
  split;· exact Iv.zero
  split;· exact Iv.zero
  rename_i h1 h2;exact⟨o5 _ h.s (by simpa[bj] using h1),by rw[fk];omega⟩
 split
 ·unfold uI
  split
  ·exact Iv.zero
  ·split
   ·exact Iv.zero
   ·exact h.aJ _ _
 split
 ·unfold nI
  split;· exact Iv.zero
  split;· exact Iv.zero
  split;· exact Iv.zero
  split;· exact Iv.zero
  split;· exact Iv.zero
  have h1:Iv (s.1.1,dv (aZ o,(e0,0)) s.1.2):=⟨h.s,h.n⟩;exact(h1.cf _ _).cf _ _
 split
 ·unfold De
  split;· exact Iv.zero
  exact((h.cf _ _).cf _ _).aJ _ _
 split
 ·unfold kl
  split;· exact Iv.zero
  split;· exact Iv.zero
  split;· exact Iv.zero
  split;· exact Iv.zero
  split;· exact Iv.zero
  rename_i h1 h2 h3 h4 h5;have h6:aQ s.1.1 (fb o)=none:=by simpa[bj] using h2
  have h7:aQ (aC s.1 (Ky o) (ag (Gc o))).1 (fb o)=none:=by
   grind [aC,Vs.cf,o6,sr]
  refine⟨o5 _ (h.cf _ _).s h7,?_⟩
  grind [Um,fk,aC,s,Ky,ag,Gc,Vs.cf]
 split
 ·unfold jM;have key:∀a b:ab,Iv (IE s o a b):=fun a b=>((h.aJ _ _).cf _ _).aJ _ _
  grind [Iv.zero,iM]
 ·unfold vz
  split
  ·exact⟨h.s.map (Oc o),by simp;exact h.n⟩
  ·exact Iv.zero
theorem Iv.go:∀(l:List bg) {s:StateT},Iv s.1→Iv (Df l s).1.1
 |[],s,h=>h
 |o::r,s,h=>by
  unfold Df
  split
  ·exact Iv.zero
  ·exact Iv.go r (h.one o)
theorem Iv.try{s:StateT}(h:Iv s.1)(l:List bg):Iv (iB s l).1:=by
 grind [iB,cv,Iv.zero,Iv.go]
theorem Iv.reach:∀(m:Nat) (l:List (List bg)) {s:StateT},Iv s.1→Iv (mQ m l s).1
 |0,_,s,h=>by simpa[mQ] using h
 |m+1,[],s,h=>h
 |m+1,l::r,s,h=>by rw[mQ];exact Iv.reach m r (h.try _)
theorem Iv.N9(l:List (List bg)):Iv (Dg l).1:=Iv.reach 30 l Iv.zero
theorem My{x:ID}{l:List ai}(hf:aQ l x=none):cT l x=l:=by
 grind [cT,List.filter_eq_self,aQ,List.find?_eq_none]
theorem Dh(v:ai):∀{l:List ai},aQ l v.1=none→cT (cU v l) v.1=l
 |[],_=>by simp[cU,cT]
 |w::r,hf=>by
  have bw:¬w.1=v.1:=fun e=>by simp[aQ,e]at hf
  have Ci:aQ r v.1=none:=by simpa[aQ,List.find?_cons,bw] using hf
  unfold cU
  split
  ·unfold cT;rw[List.filter_cons_of_neg (by simp)];exact My hf
  ·have:=Dh v Ci;unfold cT at this ⊢;rw[List.filter_cons_of_pos (by simpa using bw),this]
end Go.Vs
