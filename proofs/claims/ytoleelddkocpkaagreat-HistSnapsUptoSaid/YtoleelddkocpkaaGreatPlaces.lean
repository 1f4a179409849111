/- What the program computes at -/
import Derived.Test.YtoleelddkocpkaaGreatRefB
set_option linter.unusedVariables false
set_option linter.unusedSimpArgs false
namespace Go.Vs
open Go.Proofs
variable {G:(f:FuncId)→(g:aO)→Option (g.A→Option g.B)}
theorem CH(hG:G 100 rO=none)(x:ID):FX G 100 rO ((x,()),())=some ((bQ x,()),()):=by
 refine au hG alQ ?_;obtain⟨a,b⟩:=x;show(cond (decide (a≥1)) (cond (decide (a≤8)) (cond (decide (b≥1)) (some ((decide (b≤1048576),()),())) (some ((false,()),()))) (some ((false,()),()))) (some ((false,()),())):Option ((Bool×Unit)×Unit))=some ((bQ (a,b),()),());unfold bQ
 grind
theorem abH(hG:G 150 EI=none)(n:Int):FX G 150 EI ((n,()),())=some ((false,()),()):=by refine au hG agv ?_;exact congrArg (fun b:Bool=>some ((b,()),())) (show(n != n)=false by simp)
def O5(a b:Int):Int:=if a<b then -1 else if a>b then 1 else 0
theorem WG(hG:HG G)(a b:Int):FX G 103 EF ((a,b,()),())=some ((O5 a b,()),()):=by
 refine au (hG _ _ rfl) agq ?_;refine aa (abH (hG _ _ rfl) a) ?_;refine aa (abH (hG _ _ rfl) b) ?_;refine af rfl (af rfl ?_);unfold O5;by_cases h1:a<b
 ·rw[if_pos h1];exact ae (decide_eq_true h1) rfl
 rw[if_neg h1];refine af (decide_eq_false h1) ?_;by_cases h2:a>b
 ·rw[if_pos h2];exact ae (decide_eq_true h2) rfl
 rw[if_neg h2];exact af (decide_eq_false h2) rfl
theorem abI(hG:G 101 yQ=none)(a b:Int):FX G 101 yQ (([a,b],()),())=some ((if a≠0 then a else b,()),()):=by
 refine au hG agp ?_;by_cases ha:a=0
 ·rw[if_neg (by simp[ha])];refine ak C6 ?_;refine ae rfl (aa (a:=a) rfl ?_);refine af (show(a != 0)=false by simp[ha]) ?_;refine ak C6 ?_;refine ae rfl (aa (a:=b) rfl ?_);by_cases hb:b=0
  ·refine af (show(b != 0)=false by simp[hb]) ?_;refine ak C6 ?_;rw[hb];rfl
  ·exact ae (show(b != 0)=true by simp[hb]) rfl
 ·rw[if_pos ha];refine ak C6 ?_;refine ae rfl (aa (a:=a) rfl ?_);exact ae (show(a != 0)=true by simp[ha]) rfl
theorem Ir(hG:HG G)(a b:ID):FX G 102 B5 ((a,b,()),())=some ((sd a b,()),()):=by
 refine au (hG _ _ rfl) agc ?_;unfold sd;by_cases h:a=b
 ·rw[if_pos h];exact ae ((vX a b).trans (decide_eq_true h)) rfl
 rw[if_neg h];refine af ((vX a b).trans (decide_eq_false h)) ?_;refine aa (WG hG a.1 b.1) ?_;refine aa (WG hG a.2 b.2) ?_;refine aa (abI (hG _ _ rfl) (O5 a.1 b.1) (O5 a.2 b.2)) ?_;refine congrArg (fun n:Int=>some ((n,()),())) ?_;obtain⟨a1,a2⟩:=a;obtain⟨b1,b2⟩:=b;unfold O5 fD
 grind
theorem abJ(hG:HG G)(v:an)(x:ID):FX G 188 HY ((v,x,()),())=some ((sd v.1 x,()),()):=by refine au (hG _ _ rfl) agb ?_;exact aa (Ir hG v.1 x) rfl
theorem O6{i j:Nat}(hi:i≤1000000000)(hj:j≤1000000000):IntKind.wrap .i64 (iq .u64 (IntKind.wrap .u64 (IntKind.wrap .i64 ((i:Int)+(j:Int)))) (1:Int))=(((i+j) / 2:Nat):Int):=by
 grind [IntKind.wrap,wrap_small,IntKind.bits,IntKind.signed,iq,min,Int.toNat,Int.fdiv_eq_ediv_of_nonneg]
def bV(l:List an)(x:ID):Nat:=l.countP fun v=>fD v.1 x
def cg(l:List an):Prop:=l.Pairwise fun a b=>fD a.1 b.1=true
theorem gX{a b c:ID}(h:fD a b=true)(k:fD b c=true):fD a c=true:=by
 grind [fD]
theorem mZ{a b:ID}(h:fD a b=true):fD b a=false:=by
 grind [fD]
theorem nc{a b:ID}(h:fD a b=false)(k:a≠b):fD b a=true:=by
 grind [fD]
theorem Kd(l:List an)(x:ID):bV l x≤l.length:=aew
theorem vB{l:List an}{x:ID}(h:∀v∈l,fD v.1 x=false):bV l x=0:=by
 grind [bV,List.countP_eq_zero]
theorem A7{x:ID}:∀{l:List an},cg l→∀(k:Nat) (v:an),l[k]? = some v→(fD v.1 x=true↔k<bV l x)
 |[],_,k,v,h=>by simp at h
 |w::r,hs,k,v,h=>by
  have hw:∀{u:an},u∈r→fD w.1 u.1=true:=fun {u} hu=>acS hs hu;have hr:cg r:=hs.of_cons;by_cases aG:fD w.1 x=true
  ·have e:bV (w::r) x=bV r x+1:=by grind [bV,List.countP_cons_of_pos]
   cases k with
   |zero=>simp_all
   |succ k=>have:=A7 (x:=x) hr k v (by simpa using h);simp_all
  ·have hn:∀u∈w::r,fD u.1 x=false:=fun u hu=>by
    rcases abq.1 hu with rfl|hu
    ·simp_all
    ·rw[Bool.eq_false_iff];grind [gX]
   grind [vB,List.mem_of_getElem?]
theorem WH(hG:HG G)(l:List an)(x:ID)(hs:cg l)(hl:l.length≤50000000):∀(n i j:Nat),j-i≤n→i≤bV l x→bV l x≤j→j≤l.length → LX G 189187 kd Tryz.f187 jI (aE Tryz.prog 187 0) ((l,(((l.length:Nat):Int),((i:Int),((j:Int),())))),(((x,()),()),()))=some (((((bV l x:Nat):Int),(decide ((l[bV l x]?).map (·.1)=some x),())):Int×(Bool×Unit)),()):=by
 have wh:=Kd l x;have fin:∀(i j:Nat),¬(i<j)→i≤bV l x→bV l x≤j→LX G 189187 kd Tryz.f187 jI (aE Tryz.prog 187 0) ((l,(((l.length:Nat):Int),((i:Int),((j:Int),())))),(((x,()),()),()))=some (((((bV l x:Nat):Int),(decide ((l[bV l x]?).map (·.1)=some x),())):Int×(Bool×Unit)),()):=fun i j GG h1 h2=>by
  have hi:i=bV l x:=by omega
  subst hi;refine ak E3 ?_;refine af (decide_eq_false (show ¬(((bV l x:Nat):Int)<(j:Int)) by omega)) ?_;by_cases hc:bV l x<l.length
  ·have hx:l[bV l x]? = some l[bV l x]:=abf hc;refine ae (aJ hc) ?_;refine aa (ai hx) ?_;refine aa (abJ hG l[bV l x] x) ?_;refine congrArg (fun b:Bool=>some ((((bV l x:Nat):Int),(b,())),())) ?_
   grind [sd,bV]
  ·refine af (decide_eq_false (show ¬(((bV l x:Nat):Int)<((l.length:Nat):Int)) by omega)) ?_;refine congrArg (fun b:Bool=>some ((((bV l x:Nat):Int),(b,())),())) ?_;simp_all
 intro n
 induction n with
 |zero=>grind
 |succ n ih =>
  intro i j GG h1 h2 h3;by_cases aG:i<j
  case neg=>grind
  refine ak E3 ?_;refine ae (decide_eq_true (show((i:Int)<(j:Int)) by omega)) ?_;refine af rfl ?_;have hm:=O6 (i:=i) (j:=j) (by omega) (by omega);have hh:(i+j) / 2<l.length:=by omega
  have hx:l[(i+j) / 2]? = some l[(i+j) / 2]:=abf hh;have rL:=A7 (x:=x) hs ((i+j) / 2) _ hx;refine aa (show aP l (IntKind.wrap .i64 (iq .u64 (IntKind.wrap .u64 (IntKind.wrap .i64 ((i:Int)+(j:Int)))) (1:Int)))=some l[(i+j) / 2] by rw[hm];exact ai hx) ?_;refine aa (abJ hG l[(i+j) / 2] x) ?_;by_cases ho:fD l[(i+j) / 2].1 x=true
  ·refine ae (decide_eq_true ((mN _ _).2 ho)) ?_;have hc:=rL.1 ho;have hw:IntKind.wrap .i64 (IntKind.wrap .i64 (iq .u64 (IntKind.wrap .u64 (IntKind.wrap .i64 ((i:Int)+(j:Int)))) (1:Int))+1)=(((i+j) / 2+1:Nat):Int):=by rw[hm];exact aB hh (by omega)
   have:=ih ((i+j) / 2+1) j (by omega) (by omega) h2 h3;rw[←hw]at this;exact this
  ·refine af (decide_eq_false (fun h=>ho ((mN _ _).1 h))) ?_;have hc:¬(i+j) / 2<bV l x:=fun h=>ho (rL.2 h);have:=ih i ((i+j) / 2) (by omega) h1 (by omega) (by omega);rw[←hm]at this;exact this
theorem WI(hG:HG G)(l:List an)(x:ID)(hs:cg l)(hl:l.length≤50000000) :
  FX G 189187 kd ((l,x,()),())=some (((((bV l x:Nat):Int),(decide ((l[bV l x]?).map (·.1)=some x),())):Int×(Bool×Unit)),()):=by
 refine au (hG _ _ rfl) Wb ?_;exact WH hG l x hs hl l.length 0 l.length (by omega) (by omega) (Kd l x) (abX _)
theorem sX(hG:HG G)(w:aV)(x:ID)(hs:cg w.1)(hl:w.1.length≤50000000) :
  FX G 152 sP ((x,()),(w,()))=some (((((bV w.1 x:Nat):Int),(decide ((w.1[bV w.1 x]?).map (·.1)=some x),())):Int×(Bool×Unit)),(w,())):=by
 refine au (hG _ _ rfl) afX ?_;exact aa (WI hG w.1 x hs hl) rfl
theorem vC{x:ID}:∀{l:List an},cg l→aZ l x=(l[bV l x]?).filter fun v=>decide (v.1=x)
 |[],_=>rfl
 |w::r,hs=>by
  have hw:∀{u:an},u∈r→fD w.1 u.1=true:=fun {u} hu=>acS hs hu;have hr:cg r:=hs.of_cons;by_cases aG:fD w.1 x=true
  ·have e:bV (w::r) x=bV r x+1:=by unfold bV;rw[List.countP_cons_of_pos (by simpa using aG)]
   have bA:¬w.1=x:=fun e=>by rw[e,cm]at aG;cases aG
   rw[e];simp only[aZ,List.find?_cons,bA,decide_false,List.getElem?_cons_succ];exact vC hr
  ·have hn:∀u∈w::r,fD u.1 x=false:=fun u hu=>by
    rcases abq.1 hu with rfl|hu
    ·simpa using aG
    ·rw[Bool.eq_false_iff];intro h2;exact aG (gX (hw hu) h2)
   rw[vB hn];by_cases he:w.1=x
   ·simp[aZ,List.find?_cons,he,Option.filter]
   ·have Qc:fD x w.1=true:=nc (by simpa using aG) he;have:aZ r x=none:=by
     unfold aZ;rw[List.find?_eq_none];intro u hu h2;have h3:u.1=x:=by simpa using h2
     have h4:=hw hu;rw[h3]at h4;have:=mZ h4;rw[Qc]at this;cases this
    rw[show aZ (w::r) x=aZ r x by simp only[aZ,List.find?_cons,he,decide_false],this];simp[he,Option.filter]
theorem gY{l:List an}{x:ID}(hs:cg l):decide ((l[bV l x]?).map (·.1)=some x)=(aZ l x).isSome:=by
 grind [vC,bV,Option.filter]
theorem MD(v:an):∀{l:List an},cg l→aZ l v.1=none→im v l=l.take (bV l v.1)++(v::l.drop (bV l v.1))
 |[],_,_=>rfl
 |w::r,hs,hf=>by
  have hw:∀{u:an},u∈r→fD w.1 u.1=true:=fun {u} hu=>acS hs hu;have hr:cg r:=hs.of_cons;have bA:¬w.1=v.1:=fun e=>by simp[aZ,e]at hf
  have GS:aZ r v.1=none:=by simpa[aZ,List.find?_cons,bA] using hf
  by_cases aG:fD w.1 v.1=true
  ·have e:bV (w::r) v.1=bV r v.1+1:=by unfold bV;rw[List.countP_cons_of_pos (by simpa using aG)]
   have Jl:fD v.1 w.1=false:=mZ aG;rw[e,im,if_neg (by simp[Jl]),MD v hr GS];rfl
  ·have hn:∀u∈w::r,fD u.1 v.1=false:=fun u hu=>by
    rcases abq.1 hu with rfl|hu
    ·simpa using aG
    ·rw[Bool.eq_false_iff];intro h2;exact aG (gX (hw hu) h2)
   have Qc:fD v.1 w.1=true:=nc (by simpa using aG) bA;rw[vB hn,im,if_pos Qc];rfl
theorem A8{x:ID}:∀{l:List an},cg l→(aZ l x).isSome=true→gu l x=l.take (bV l x)++l.drop (bV l x+1)
 |[],_,hf=>by simp[aZ]at hf
 |w::r,hs,hf=>by
  have hw:∀{u:an},u∈r→fD w.1 u.1=true:=fun {u} hu=>acS hs hu;have hr:cg r:=hs.of_cons;by_cases he:w.1=x
  ·have hn:∀u∈w::r,fD u.1 x=false:=fun u hu=>by
    rcases abq.1 hu with rfl|hu
    ·rw[he,cm]
    ·rw[←he];exact mZ (hw hu)
   have je:gu r x=r:=by unfold gu;rw[List.filter_eq_self];intro u hu;have h4:=hw hu;simp;intro e2;rw[he,e2,cm]at h4;cases h4
   rw[vB hn];unfold gu;rw[List.filter_cons_of_neg (by simp[he])];exact je
  ·have GS:(aZ r x).isSome=true:=by simpa[aZ,List.find?_cons,he] using hf
   have aG:fD w.1 x=true:=by
    obtain⟨u,hu⟩:=acK.1 GS;have h1:=ado hu;have h2:u.1=x:=by simpa using aeG hu
    rw[←h2];exact hw h1
   have e:bV (w::r) x=bV r x+1:=by unfold bV;rw[List.countP_cons_of_pos (by simpa using aG)]
   rw[e];have:=A8 hr GS;simp[gu,List.filter_cons,he]at this ⊢;exact this
theorem qJ(v:an):∀{l:List an},cg l→aZ l v.1=none→cg (im v l)
 |[],_,_=>List.pairwise_singleton _ _
 |w::r,hs,hf=>by
  have hw:∀{u:an},u∈r→fD w.1 u.1=true:=fun {u} hu=>acS hs hu;have hr:cg r:=hs.of_cons;have bA:¬w.1=v.1:=fun e=>by simp[aZ,e]at hf
  have GS:aZ r v.1=none:=by simpa[aZ,List.find?_cons,bA] using hf
  unfold im
  split
  ·rename_i h;refine List.Pairwise.cons (fun u hu=>?_) hs;rcases abq.1 hu with rfl|hu
   ·exact h
   ·exact gX h (hw hu)
  ·rename_i h;have aG:fD w.1 v.1=true:=nc (by simpa using h) (fun e=>bA e.symm);refine List.Pairwise.cons (fun u hu=>?_) (qJ v hr GS);rcases og.1 hu with rfl|hu
   ·exact aG
   ·exact hw hu
theorem sj{l:List an}{x:ID}(hs:cg l):cg (gu l x):=hs.filter _
theorem amx(hG:G 109 SO=none)(l:List an)(hl:l.length≤50000000):FX G 109 SO ((l,()),())=some ((l,()),()):=by
 refine au hG alJ ?_
 cases l with
 |nil=>exact ae rfl (mF (by omega) fun j hj=>by cases j<;>rfl)
 |cons x r=>exact af rfl (ae (fits (by grind)) rfl)
theorem amy(hG:G 110 SP=none)(l:List aj)(hl:l.length≤50000000):FX G 110 SP ((l,()),())=some ((l,()),()):=by
 refine au hG alK ?_
 cases l with
 |nil=>exact ae rfl (mF (by omega) fun j hj=>by cases j<;>rfl)
 |cons x r=>exact af rfl (ae (fits (by grind)) rfl)
theorem adv(hG:G 111 CC=none)(l:List ag)(hl:l.length≤50000000):FX G 111 CC ((l,()),())=some ((l,()),()):=by
 refine au hG alL ?_
 cases l with
 |nil=>exact ae rfl (mF (by omega) fun j hj=>by cases j<;>rfl)
 |cons x r=>exact af rfl (ae (fits (by grind)) rfl)
theorem adw(hG:G 84 LM=none)(l:List aC)(hl:l.length≤50000000):FX G 84 LM ((l,()),())=some ((l,()),()):=by
 refine au hG alz ?_
 cases l with
 |nil=>exact ae rfl (mF (by omega) fun j hj=>by cases j<;>rfl)
 |cons x r=>exact af rfl (ae (fits (by grind)) rfl)
theorem WJ{α:Type}{l:List α}{i:Nat}{x:α}(h:l[i]? = some x):l.set i x=l:=by obtain⟨hi,he⟩:=abp.1 h;subst he;simp
theorem aht(hG:HG G)(d:ar)(hs:Sm d):FX G 83 JP ((d,()),())=some (((d.1,(d.2,())),()),()):=by
 have hv:=hs.v;have he:=hs.e;refine au (hG _ _ rfl) aly ?_;refine aa (amx (hG _ _ rfl) d.1 (by omega)) ?_;refine aa (amy (hG _ _ rfl) d.2 (by omega)) ?_;have loop:∀(n i:Nat) (out:List an),i+n=d.1.length→out=d.1→LX G 83 JP Tryz.f83 E0 (aE Tryz.prog 83 0) ((((d.1.length:Nat):Int),((i:Int),())),(((([]:List an),(([]:List aj),())),((out,(d.2,())),())),()))=some (((d.1,(d.2,())),()),()):=by
  intro n
  induction n with
  |zero =>intro i out hi ho;subst ho;refine ak VS ?_;exact af (decide_eq_false (show ¬((i:Int)<((d.1.length:Nat):Int)) by omega)) rfl
  |succ n ih =>
   intro i out hi ho;have mC:=ho;subst ho;refine ak VS ?_;have aG:i<d.1.length:=by omega
   have hx:d.1[i]? = some d.1[i]:=abf aG;refine ae (aJ aG) ?_;refine ae (dw (kl i) (aJ aG)) ?_;refine aa hx ?_;refine aa (adv (hG _ _ rfl) d.1[i].2.1 (hs.r _ (acG aG))) ?_;refine ae (dw (kl i) (aJ aG)) ?_;refine aa hx ?_;rw[wI,aB aG (show d.1.length≤1073741824 by omega)];exact ih (i+1) (d.1.set i d.1[i]) (by omega) (WJ hx)
 exact loop d.1.length 0 d.1 (by omega) rfl
def sY(w:aV)(v:an):Int×aV :=if(aZ w.1 v.1).isSome=true then(12,w) else if 24≤w.1.length then(3,w) else(0,(im v w.1,w.2))
def Is(w:aV)(x:ID):Int×aV:=match aZ w.1 x with
 |none=>(13,w)
 |some v=>if 0<v.2.1.length then(14,w) else(0,(gu w.1 x,w.2))
theorem adx(hG:HG G)(w:aV)(v:an)(hs:cg w.1)(hl:w.1.length≤50000000):FX G 112 LN ((v,()),(w,()))=some (((sY w v).1,()),((sY w v).2,())):=by
 refine au (hG _ _ rfl) alU ?_;refine aa (sX hG w v.1 hs hl) ?_;unfold sY
 cases hf:(aZ w.1 v.1).isSome
 ·rw[if_neg (by simp)];refine af ((gY hs).trans hf) ?_;by_cases h2:24≤w.1.length
  ·rw[if_pos h2];exact ae (decide_eq_true (show((w.1.length:Nat):Int)≥24 by omega)) rfl
  ·rw[if_neg h2];refine af (decide_eq_false (show ¬((w.1.length:Nat):Int)≥24 by omega)) ?_;have hc:=Kd w.1 v.1;have ly:tC w.1 ((bV w.1 v.1:Nat):Int) [v]=true:=by
    grind [tC,decide_eq_true,bV,fits]
   refine ae ly ?_;have e:jz w.1 ((bV w.1 v.1:Nat):Int) [v]=im v w.1:=by simp_all [MD,jz]
   exact congrArg (fun l:List an=>some (((0:Int),()),((l,w.2),()))) e
 ·rw[if_pos rfl];exact ae ((gY hs).trans hf) rfl
theorem amz(hG:HG G)(w:aV)(o:bP)(hs:cg w.1)(hl:w.1.length≤50000000):FX G 113 Vp ((o,()),(w,()))=some (((Is w (bK o)).1,()),((Is w (bK o)).2,())):=by
 refine au (hG _ _ rfl) alV ?_;refine aa (sX hG w (bK o) hs hl) ?_;unfold Is;have hth:=gY (x:=bK o) hs;have amA:=vC (x:=bK o) hs
 cases hf:aZ w.1 (bK o) with
 |none =>rw[hf]at hth;refine ae (show(!(decide ((w.1[bV w.1 (bK o)]?).map (·.1)=some (bK o))))=true by rw[hth];rfl) rfl
 |some v =>
  rw[hf]at hth amA;refine af (show(!(decide ((w.1[bV w.1 (bK o)]?).map (·.1)=some (bK o))))=false by rw[hth];rfl) ?_;have hx:w.1[bV w.1 (bK o)]? = some v:=by
   grind
  have aG:=(abp.1 hx).1;refine ae (dw (kl _) (aJ aG)) ?_;refine aa hx ?_;show _=some ((((if 0<v.2.1.length then(14,w) else(0,(gu w.1 (bK o),w.2)):Int×aV).1,()),((if 0<v.2.1.length then(14,w) else(0,(gu w.1 (bK o),w.2)):Int×aV).2,())):(Int×Unit)×(aV×Unit));by_cases h2:0<v.2.1.length
  ·simp_all
  ·rw[if_neg h2];refine af (decide_eq_false (show ¬((v.2.1.length:Nat):Int)>0 by omega)) ?_;have hw:IntKind.wrap .i64 (((bV w.1 (bK o):Nat):Int)+1)=((bV w.1 (bK o)+1:Nat):Int):=aB aG (by omega);have ly:kD w.1 ((bV w.1 (bK o):Nat):Int) (IntKind.wrap .i64 (((bV w.1 (bK o):Nat):Int)+1))=true:=by rw[hw];unfold kD;rw[decide_eq_true (show(0:Int)≤((bV w.1 (bK o):Nat):Int) by omega),decide_eq_true (show((bV w.1 (bK o):Nat):Int)<((bV w.1 (bK o)+1:Nat):Int) by omega),decide_eq_true (show((bV w.1 (bK o)+1:Nat):Int)≤((w.1.length:Nat):Int) by omega),fits (by omega)];rfl
   refine ae ly ?_;have e:dW w.1 ((bV w.1 (bK o):Nat):Int) (IntKind.wrap .i64 (((bV w.1 (bK o):Nat):Int)+1))=gu w.1 (bK o):=by
    grind [A8,dW,Int.toNat_natCast]
   simp_all
def zW:aV:=([],([],([],())))
def aQ(s:StateT):aV:=(s.1.1,(s.1.2,(s.2,())))
def Dc(w:aV):StateT:=((w.1,w.2.1),w.2.2.1)
def km(e:Int)(w:aV):StateT×(Int×Unit):=if e≠0 then(zS,(e,())) else(Dc w,(0,()))
def ZS(k:Int)(x:ID):bP:=(k,(x,(zI,(zI,(zC,(zC,(false,(e0,0))))))))
def ao7(x:ID):Int:=if bQ x=true then 0 else 1
def shS:StateT:=(([((1,1),([],(e0,0)))],[]),[])
end Go.Vs
namespace Go.Vs
open Go.Proofs
theorem cg.map{l:List an}(h:cg l){f:an→an}(hf:∀v,(f v).1=v.1):cg (l.map f):=by unfold cg at h ⊢;rw[List.pairwise_map];exact h.imp fun {a b} Fc=>by rw[hf,hf];exact Fc
theorem qK{x:ID}{f:an→an}(hf:∀v,(f v).1=v.1):∀(l:List an),aZ (l.map f) x=(aZ l x).map f
 |[]=>rfl
 |w::r=>by
  unfold aZ;rw[List.map_cons,List.find?_cons,List.find?_cons,hf];have:=qK (x:=x) hf r;unfold aZ at this
  cases decide (w.1=x) with
  |true=>rfl
  |false=>exact this
theorem uq(x:ID)(l:List ag)(w:an):(A4 x l w).1=w.1:=by grind [A4]
theorem QL(o:bP)(w:an):(tg o w).1=w.1:=by grind [tg]
structure Iv(d:ar):Prop where
 s:cg d.1
 n:d.1.length≤24
theorem Iv.zero:Iv zS.1:=⟨List.Pairwise.nil,by simp[zS]⟩
theorem Iv.cE{d:ar}(h:Iv d)(x:ID)(l:List ag):Iv (cE d x l):=⟨h.s.map (uq x l),by unfold Vs.cE;simp;exact h.n⟩
theorem Iv.bj{d:ar}(h:Iv d)(v e:ID):Iv (bj d v e):=⟨sj h.s,acR (adS _ _) h.n⟩
theorem Iv.one{s:StateT}(h:Iv s.1)(o:bP):Iv (qI s o).1.1:=by
 unfold qI
 split;· exact Iv.zero
 split
 ·unfold sW
  split;· exact Iv.zero
  split;· exact Iv.zero
  rename_i h1 h2;exact⟨qJ _ h.s (by simpa[cH] using h1),by rw[iD];omega⟩
 split
 ·unfold Ci
  split
  ·exact Iv.zero
  ·split
   ·exact Iv.zero
   ·exact h.bj _ _
 split
 ·unfold uo
  split;· exact Iv.zero
  split;· exact Iv.zero
  split;· exact Iv.zero
  split;· exact Iv.zero
  split;· exact Iv.zero
  have h1:Iv (s.1.1,ib (bK o,(e0,0)) s.1.2):=⟨h.s,h.n⟩;exact(h1.cE _ _).cE _ _
 split
 ·unfold MC
  split;· exact Iv.zero
  exact((h.cE _ _).cE _ _).bj _ _
 split
 ·unfold pQ
  split;· exact Iv.zero
  split;· exact Iv.zero
  split;· exact Iv.zero
  split;· exact Iv.zero
  split;· exact Iv.zero
  rename_i h1 h2 h3 h4 h5;have h6:aZ s.1.1 (iM o)=none:=by simpa[cH] using h2
  have h7:aZ (aU s.1 (ZR o) (aw (YV o))).1 (iM o)=none:=by
   grind [aU,Vs.cE,qK,uq]
  refine⟨qJ _ (h.cE _ _).s h7,?_⟩
  grind [WE,iD,aU,s,ZR,aw,YV,Vs.cE]
 split
 ·unfold pj;have key:∀a b:ag,Iv (Ta s o a b):=fun a b=>((h.bj _ _).cE _ _).bj _ _
  grind [Iv.zero,mO]
 ·unfold A6
  split
  ·exact⟨h.s.map (QL o),by simp;exact h.n⟩
  ·exact Iv.zero
theorem Iv.go:∀(l:List bP) {s:StateT},Iv s.1→Iv (Kc l s).1.1
 |[],s,h=>h
 |o::r,s,h=>by
  unfold Kc
  split
  ·exact Iv.zero
  ·exact Iv.go r (h.one o)
theorem Iv.try{s:StateT}(h:Iv s.1)(l:List bP):Iv (kB s l).1:=by
 grind [kB,eV,Iv.zero,Iv.go]
theorem Iv.reach:∀(m:Nat) (l:List (List bP)) {s:StateT},Iv s.1→Iv (oo m l s).1
 |0,_,s,h=>by simpa[oo] using h
 |m+1,[],s,h=>h
 |m+1,l::r,s,h=>by rw[oo];exact Iv.reach m r (h.try _)
theorem Iv.QK(l:List (List bP)):Iv (Fl l).1:=Iv.reach 30 l Iv.zero
end Go.Vs
