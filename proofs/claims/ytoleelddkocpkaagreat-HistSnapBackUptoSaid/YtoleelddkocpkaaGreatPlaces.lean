/- What the program computes at -/
import Derived.Test.YtoleelddkocpkaaGreatRefB
set_option linter.unusedVariables false
set_option linter.unusedSimpArgs false
namespace Go.Vs
open Go.Proofs
variable {G:(f:FuncId)→(g:aO)→Option (g.A→Option g.B)}
theorem LG(hG:G 100 q6=none)(x:ID):FX G 100 q6 ((x,()),())=some ((cd x,()),()):=by
 refine av hG ak4 ?_;obtain⟨a,b⟩:=x;show(cond (decide (a≥1)) (cond (decide (a≤8)) (cond (decide (b≥1)) (some ((decide (b≤1048576),()),())) (some ((false,()),()))) (some ((false,()),()))) (some ((false,()),())):Option ((Bool×Unit)×Unit))=some ((cd (a,b),()),());unfold cd
 grind
theorem aaP(hG:G 150 Dz=none)(n:Int):FX G 150 Dz ((n,()),())=some ((false,()),()):=by refine av hG afi ?_;exact congrArg (fun b:Bool=>some ((b,()),())) (show(n != n)=false by simp)
def NO(a b:Int):Int:=if a<b then -1 else if a>b then 1 else 0
theorem VO(hG:HG G)(a b:Int):FX G 103 Dv ((a,b,()),())=some ((NO a b,()),()):=by
 refine av (hG _ _ rfl) afd ?_;refine aa (aaP (hG _ _ rfl) a) ?_;refine aa (aaP (hG _ _ rfl) b) ?_;refine af rfl (af rfl ?_);unfold NO;by_cases h1:a<b
 ·rw[if_pos h1];exact ae (decide_eq_true h1) rfl
 rw[if_neg h1];refine af (decide_eq_false h1) ?_;by_cases h2:a>b
 ·rw[if_pos h2];exact ae (decide_eq_true h2) rfl
 rw[if_neg h2];exact af (decide_eq_false h2) rfl
theorem aaQ(hG:G 101 xy=none)(a b:Int):FX G 101 xy (([a,b],()),())=some ((if a≠0 then a else b,()),()):=by
 refine av hG afc ?_;by_cases ha:a=0
 ·rw[if_neg (by simp[ha])];refine ar B2 ?_;refine ae rfl (aa (a:=a) rfl ?_);refine af (show(a != 0)=false by simp[ha]) ?_;refine ar B2 ?_;refine ae rfl (aa (a:=b) rfl ?_);by_cases hb:b=0
  ·refine af (show(b != 0)=false by simp[hb]) ?_;refine ar B2 ?_;rw[hb];rfl
  ·exact ae (show(b != 0)=true by simp[hb]) rfl
 ·rw[if_pos ha];refine ar B2 ?_;refine ae rfl (aa (a:=a) rfl ?_);exact ae (show(a != 0)=true by simp[ha]) rfl
theorem PF(hG:HG G)(a b:ID):FX G 102 AU ((a,b,()),())=some ((sj a b,()),()):=by
 refine av (hG _ _ rfl) ae0 ?_;unfold sj;by_cases h:a=b
 ·rw[if_pos h];exact ae ((lN a b).trans (decide_eq_true h)) rfl
 rw[if_neg h];refine af ((lN a b).trans (decide_eq_false h)) ?_;refine aa (VO hG a.1 b.1) ?_;refine aa (VO hG a.2 b.2) ?_;refine aa (aaQ (hG _ _ rfl) (NO a.1 b.1) (NO a.2 b.2)) ?_;refine congrArg (fun n:Int=>some ((n,()),())) ?_;obtain⟨a1,a2⟩:=a;obtain⟨b1,b2⟩:=b;unfold NO gN
 grind
theorem aaR(hG:HG G)(v:ai)(x:ID):FX G 188 GU ((v,x,()),())=some ((sj v.1 x,()),()):=by refine av (hG _ _ rfl) aeZ ?_;exact aa (PF hG v.1 x) rfl
theorem NP{i j:Nat}(hi:i≤1000000000)(hj:j≤1000000000):IntKind.wrap .i64 (iu .u64 (IntKind.wrap .u64 (IntKind.wrap .i64 ((i:Int)+(j:Int)))) (1:Int))=(((i+j) / 2:Nat):Int):=by
 grind [IntKind.wrap,wrap_small,IntKind.bits,IntKind.signed,iu,min,Int.toNat,Int.fdiv_eq_ediv_of_nonneg]
def bU(l:List ai)(x:ID):Nat:=l.countP fun v=>gN v.1 x
def cc(l:List ai):Prop:=l.Pairwise fun a b=>gN a.1 b.1=true
theorem jG{a b c:ID}(h:gN a b=true)(k:gN b c=true):gN a c=true:=by
 grind [gN]
theorem mE{a b:ID}(h:gN a b=true):gN b a=false:=by
 grind [gN]
theorem mF{a b:ID}(h:gN a b=false)(k:a≠b):gN b a=true:=by
 grind [gN]
theorem I8(l:List ai)(x:ID):bU l x≤l.length:=adD
theorem uI{l:List ai}{x:ID}(h:∀v∈l,gN v.1 x=false):bU l x=0:=by
 grind [bU,List.countP_eq_zero]
theorem zM{x:ID}:∀{l:List ai},cc l→∀(k:Nat) (v:ai),l[k]? = some v→(gN v.1 x=true↔k<bU l x)
 |[],_,k,v,h=>by simp at h
 |w::r,hs,k,v,h=>by
  have hw:∀{u:ai},u∈r→gN w.1 u.1=true:=fun {u} hu=>acM hs hu;have hr:cc r:=hs.of_cons;by_cases aN:gN w.1 x=true
  ·have e:bU (w::r) x=bU r x+1:=by grind [bU,List.countP_cons_of_pos]
   cases k with
   |zero=>simp_all
   |succ k=>have:=zM (x:=x) hr k v (by simpa using h);simp_all
  ·have hn:∀u∈w::r,gN u.1 x=false:=fun u hu=>by
    rcases abD.1 hu with rfl|hu
    ·simp_all
    ·rw[Bool.eq_false_iff];grind [jG]
   grind [uI,List.mem_of_getElem?]
theorem VP(hG:HG G)(l:List ai)(x:ID)(hs:cc l)(hl:l.length≤50000000):∀(n i j:Nat),j-i≤n→i≤bU l x→bU l x≤j→j≤l.length → LX G 189187 jV Tryz.f187 jv (aK Tryz.prog 187 0) ((l,(((l.length:Nat):Int),((i:Int),((j:Int),())))),(((x,()),()),()))=some (((((bU l x:Nat):Int),(decide ((l[bU l x]?).map (·.1)=some x),())):Int×(Bool×Unit)),()):=by
 have vR:=I8 l x;have fin:∀(i j:Nat),¬(i<j)→i≤bU l x→bU l x≤j→LX G 189187 jV Tryz.f187 jv (aK Tryz.prog 187 0) ((l,(((l.length:Nat):Int),((i:Int),((j:Int),())))),(((x,()),()),()))=some (((((bU l x:Nat):Int),(decide ((l[bU l x]?).map (·.1)=some x),())):Int×(Bool×Unit)),()):=fun i j Gv h1 h2=>by
  have hi:i=bU l x:=by omega
  subst hi;refine ar DW ?_;refine af (decide_eq_false (show ¬(((bU l x:Nat):Int)<(j:Int)) by omega)) ?_;by_cases hc:bU l x<l.length
  ·have hx:l[bU l x]? = some l[bU l x]:=aa8 hc;refine ae (aT hc) ?_;refine aa (aB hx) ?_;refine aa (aaR hG l[bU l x] x) ?_;refine congrArg (fun b:Bool=>some ((((bU l x:Nat):Int),(b,())),())) ?_
   grind [sj,bU]
  ·refine af (decide_eq_false (show ¬(((bU l x:Nat):Int)<((l.length:Nat):Int)) by omega)) ?_;refine congrArg (fun b:Bool=>some ((((bU l x:Nat):Int),(b,())),())) ?_;simp_all
 intro n
 induction n with
 |zero=>grind
 |succ n ih =>
  intro i j Gv h1 h2 h3;by_cases aN:i<j
  case neg=>grind
  refine ar DW ?_;refine ae (decide_eq_true (show((i:Int)<(j:Int)) by omega)) ?_;refine af rfl ?_;have hm:=NP (i:=i) (j:=j) (by omega) (by omega);have hh:(i+j) / 2<l.length:=by omega
  have hx:l[(i+j) / 2]? = some l[(i+j) / 2]:=aa8 hh;have qW:=zM (x:=x) hs ((i+j) / 2) _ hx;refine aa (show aU l (IntKind.wrap .i64 (iu .u64 (IntKind.wrap .u64 (IntKind.wrap .i64 ((i:Int)+(j:Int)))) (1:Int)))=some l[(i+j) / 2] by rw[hm];exact aB hx) ?_;refine aa (aaR hG l[(i+j) / 2] x) ?_;by_cases ho:gN l[(i+j) / 2].1 x=true
  ·refine ae (decide_eq_true ((mu _ _).2 ho)) ?_;have hc:=qW.1 ho;have hw:IntKind.wrap .i64 (IntKind.wrap .i64 (iu .u64 (IntKind.wrap .u64 (IntKind.wrap .i64 ((i:Int)+(j:Int)))) (1:Int))+1)=(((i+j) / 2+1:Nat):Int):=by rw[hm];exact aD hh (by omega)
   have:=ih ((i+j) / 2+1) j (by omega) (by omega) h2 h3;rw[←hw]at this;exact this
  ·refine af (decide_eq_false (fun h=>ho ((mu _ _).1 h))) ?_;have hc:¬(i+j) / 2<bU l x:=fun h=>ho (qW.2 h);have:=ih i ((i+j) / 2) (by omega) h1 (by omega) (by omega);rw[←hm]at this;exact this
theorem VQ(hG:HG G)(l:List ai)(x:ID)(hs:cc l)(hl:l.length≤50000000) :
  FX G 189187 jV ((l,x,()),())=some (((((bU l x:Nat):Int),(decide ((l[bU l x]?).map (·.1)=some x),())):Int×(Bool×Unit)),()):=by
 refine av (hG _ _ rfl) Vl ?_;exact VP hG l x hs hl l.length 0 l.length (by omega) (by omega) (I8 l x) (acf _)
theorem rT(hG:HG G)(w:aX)(x:ID)(hs:cc w.1)(hl:w.1.length≤50000000) :
  FX G 152 rO ((x,()),(w,()))=some (((((bU w.1 x:Nat):Int),(decide ((w.1[bU w.1 x]?).map (·.1)=some x),())):Int×(Bool×Unit)),(w,())):=by
 refine av (hG _ _ rfl) aeL ?_;exact aa (VQ hG w.1 x hs hl) rfl
theorem uJ{x:ID}:∀{l:List ai},cc l→aR l x=(l[bU l x]?).filter fun v=>decide (v.1=x)
 |[],_=>rfl
 |w::r,hs=>by
  have hw:∀{u:ai},u∈r→gN w.1 u.1=true:=fun {u} hu=>acM hs hu;have hr:cc r:=hs.of_cons;by_cases aN:gN w.1 x=true
  ·have e:bU (w::r) x=bU r x+1:=by unfold bU;rw[List.countP_cons_of_pos (by simpa using aN)]
   have bB:¬w.1=x:=fun e=>by rw[e,b5]at aN;cases aN
   rw[e];simp only[aR,List.find?_cons,bB,decide_false,List.getElem?_cons_succ];exact uJ hr
  ·have hn:∀u∈w::r,gN u.1 x=false:=fun u hu=>by
    rcases abD.1 hu with rfl|hu
    ·simpa using aN
    ·rw[Bool.eq_false_iff];intro h2;exact aN (jG (hw hu) h2)
   rw[uI hn];by_cases he:w.1=x
   ·simp[aR,List.find?_cons,he,Option.filter]
   ·have OZ:gN x w.1=true:=mF (by simpa using aN) he;have:aR r x=none:=by
     unfold aR;rw[List.find?_eq_none];intro u hu h2;have h3:u.1=x:=by simpa using h2
     have h4:=hw hu;rw[h3]at h4;have:=mE h4;rw[OZ]at this;cases this
    rw[show aR (w::r) x=aR r x by simp only[aR,List.find?_cons,he,decide_false],this];simp[he,Option.filter]
theorem gD{l:List ai}{x:ID}(hs:cc l):decide ((l[bU l x]?).map (·.1)=some x)=(aR l x).isSome:=by
 grind [uJ,bU,Option.filter]
theorem LH(v:ai):∀{l:List ai},cc l→aR l v.1=none→c8 v l=l.take (bU l v.1)++(v::l.drop (bU l v.1))
 |[],_,_=>rfl
 |w::r,hs,hf=>by
  have hw:∀{u:ai},u∈r→gN w.1 u.1=true:=fun {u} hu=>acM hs hu;have hr:cc r:=hs.of_cons;have bB:¬w.1=v.1:=fun e=>by simp[aR,e]at hf
  have Dc:aR r v.1=none:=by simpa[aR,List.find?_cons,bB] using hf
  by_cases aN:gN w.1 v.1=true
  ·have e:bU (w::r) v.1=bU r v.1+1:=by unfold bU;rw[List.countP_cons_of_pos (by simpa using aN)]
   have XM:gN v.1 w.1=false:=mE aN;rw[e,c8,if_neg (by simp[XM]),LH v hr Dc];rfl
  ·have hn:∀u∈w::r,gN u.1 v.1=false:=fun u hu=>by
    rcases abD.1 hu with rfl|hu
    ·simpa using aN
    ·rw[Bool.eq_false_iff];intro h2;exact aN (jG (hw hu) h2)
   have OZ:gN v.1 w.1=true:=mF (by simpa using aN) bB;rw[uI hn,c8,if_pos OZ];rfl
theorem zN{x:ID}:∀{l:List ai},cc l→(aR l x).isSome=true→cY l x=l.take (bU l x)++l.drop (bU l x+1)
 |[],_,hf=>by simp[aR]at hf
 |w::r,hs,hf=>by
  have hw:∀{u:ai},u∈r→gN w.1 u.1=true:=fun {u} hu=>acM hs hu;have hr:cc r:=hs.of_cons;by_cases he:w.1=x
  ·have hn:∀u∈w::r,gN u.1 x=false:=fun u hu=>by
    rcases abD.1 hu with rfl|hu
    ·rw[he,b5]
    ·rw[←he];exact mE (hw hu)
   have jQ:cY r x=r:=by unfold cY;rw[List.filter_eq_self];intro u hu;have h4:=hw hu;simp;intro e2;rw[he,e2,b5]at h4;cases h4
   rw[uI hn];unfold cY;rw[List.filter_cons_of_neg (by simp[he])];exact jQ
  ·have Dc:(aR r x).isSome=true:=by simpa[aR,List.find?_cons,he] using hf
   have aN:gN w.1 x=true:=by
    obtain⟨u,hu⟩:=acu.1 Dc;have h1:=adq hu;have h2:u.1=x:=by simpa using adG hu
    rw[←h2];exact hw h1
   have e:bU (w::r) x=bU r x+1:=by unfold bU;rw[List.countP_cons_of_pos (by simpa using aN)]
   rw[e];have:=zN hr Dc;simp[cY,List.filter_cons,he]at this ⊢;exact this
theorem qa(v:ai):∀{l:List ai},cc l→aR l v.1=none→cc (c8 v l)
 |[],_,_=>List.pairwise_singleton _ _
 |w::r,hs,hf=>by
  have hw:∀{u:ai},u∈r→gN w.1 u.1=true:=fun {u} hu=>acM hs hu;have hr:cc r:=hs.of_cons;have bB:¬w.1=v.1:=fun e=>by simp[aR,e]at hf
  have Dc:aR r v.1=none:=by simpa[aR,List.find?_cons,bB] using hf
  unfold c8
  split
  ·rename_i h;refine List.Pairwise.cons (fun u hu=>?_) hs;rcases abD.1 hu with rfl|hu
   ·exact h
   ·exact jG h (hw hu)
  ·rename_i h;have aN:gN w.1 v.1=true:=mF (by simpa using h) (fun e=>bB e.symm);refine List.Pairwise.cons (fun u hu=>?_) (qa v hr Dc);rcases j5.1 hu with rfl|hu
   ·exact aN
   ·exact hw hu
theorem nF{l:List ai}{x:ID}(hs:cc l):cc (cY l x):=hs.filter _
theorem al1(hG:G 109 RF=none)(l:List ai)(hl:l.length≤50000000):FX G 109 RF ((l,()),())=some ((l,()),()):=by
 refine av hG ak0 ?_
 cases l with
 |nil=>exact ae rfl (ml (by omega) fun j hj=>by cases j<;>rfl)
 |cons x r=>exact af rfl (ae (fits (by grind)) rfl)
theorem al2(hG:G 110 RG=none)(l:List ag)(hl:l.length≤50000000):FX G 110 RG ((l,()),())=some ((l,()),()):=by
 refine av hG ak1 ?_
 cases l with
 |nil=>exact ae rfl (ml (by omega) fun j hj=>by cases j<;>rfl)
 |cons x r=>exact af rfl (ae (fits (by grind)) rfl)
theorem acq(hG:G 111 By=none)(l:List ab)(hl:l.length≤50000000):FX G 111 By ((l,()),())=some ((l,()),()):=by
 refine av hG ak2 ?_
 cases l with
 |nil=>exact ae rfl (ml (by omega) fun j hj=>by cases j<;>rfl)
 |cons x r=>exact af rfl (ae (fits (by grind)) rfl)
theorem acr(hG:G 84 KH=none)(l:List ax)(hl:l.length≤50000000):FX G 84 KH ((l,()),())=some ((l,()),()):=by
 refine av hG akJ ?_
 cases l with
 |nil=>exact ae rfl (ml (by omega) fun j hj=>by cases j<;>rfl)
 |cons x r=>exact af rfl (ae (fits (by grind)) rfl)
theorem VR{α:Type}{l:List α}{i:Nat}{x:α}(h:l[i]? = some x):l.set i x=l:=by obtain⟨hi,he⟩:=abC.1 h;subst he;simp
theorem agq(hG:HG G)(d:ak)(hs:Sm d):FX G 83 IE ((d,()),())=some (((d.1,(d.2,())),()),()):=by
 have hv:=hs.v;have he:=hs.e;refine av (hG _ _ rfl) akI ?_;refine aa (al1 (hG _ _ rfl) d.1 (by omega)) ?_;refine aa (al2 (hG _ _ rfl) d.2 (by omega)) ?_;have loop:∀(n i:Nat) (out:List ai),i+n=d.1.length→out=d.1→LX G 83 IE Tryz.f83 DT (aK Tryz.prog 83 0) ((((d.1.length:Nat):Int),((i:Int),())),(((([]:List ai),(([]:List ag),())),((out,(d.2,())),())),()))=some (((d.1,(d.2,())),()),()):=by
  intro n
  induction n with
  |zero =>intro i out hi ho;subst ho;refine ar Vc ?_;exact af (decide_eq_false (show ¬((i:Int)<((d.1.length:Nat):Int)) by omega)) rfl
  |succ n ih =>
   intro i out hi ho;have sq:=ho;subst ho;refine ar Vc ?_;have aN:i<d.1.length:=by omega
   have hx:d.1[i]? = some d.1[i]:=aa8 aN;refine ae (aT aN) ?_;refine ae (cP (fK i) (aT aN)) ?_;refine aa hx ?_;refine aa (acq (hG _ _ rfl) d.1[i].2.1 (hs.r _ (acV aN))) ?_;refine ae (cP (fK i) (aT aN)) ?_;refine aa hx ?_;rw[wI,aD aN (show d.1.length≤1073741824 by omega)];exact ih (i+1) (d.1.set i d.1[i]) (by omega) (VR hx)
 exact loop d.1.length 0 d.1 (by omega) rfl
def rU(w:aX)(v:ai):Int×aX :=if(aR w.1 v.1).isSome=true then(12,w) else if 24≤w.1.length then(3,w) else(0,(c8 v w.1,w.2))
def Hh(w:aX)(x:ID):Int×aX:=match aR w.1 x with
 |none=>(13,w)
 |some v=>if 0<v.2.1.length then(14,w) else(0,(cY w.1 x,w.2))
theorem acs(hG:HG G)(w:aX)(v:ai)(hs:cc w.1)(hl:w.1.length≤50000000):FX G 112 KM ((v,()),(w,()))=some (((rU w v).1,()),((rU w v).2,())):=by
 refine av (hG _ _ rfl) ak8 ?_;refine aa (rT hG w v.1 hs hl) ?_;unfold rU
 cases hf:(aR w.1 v.1).isSome
 ·rw[if_neg (by simp)];refine af ((gD hs).trans hf) ?_;by_cases h2:24≤w.1.length
  ·rw[if_pos h2];exact ae (decide_eq_true (show((w.1.length:Nat):Int)≥24 by omega)) rfl
  ·rw[if_neg h2];refine af (decide_eq_false (show ¬((w.1.length:Nat):Int)≥24 by omega)) ?_;have hc:=I8 w.1 v.1;have kZ:sF w.1 ((bU w.1 v.1:Nat):Int) [v]=true:=by
    grind [sF,decide_eq_true,bU,fits]
   refine ae kZ ?_;have e:ji w.1 ((bU w.1 v.1:Nat):Int) [v]=c8 v w.1:=by simp_all [LH,ji]
   exact congrArg (fun l:List ai=>some (((0:Int),()),((l,w.2),()))) e
 ·rw[if_pos rfl];exact ae ((gD hs).trans hf) rfl
theorem al3(hG:HG G)(w:aX)(o:br)(hs:cc w.1)(hl:w.1.length≤50000000):FX G 113 Uz ((o,()),(w,()))=some (((Hh w (bf o)).1,()),((Hh w (bf o)).2,())):=by
 refine av (hG _ _ rfl) ak9 ?_;refine aa (rT hG w (bf o) hs hl) ?_;unfold Hh;have hth:=gD (x:=bf o) hs;have al4:=uJ (x:=bf o) hs
 cases hf:aR w.1 (bf o) with
 |none =>rw[hf]at hth;refine ae (show(!(decide ((w.1[bU w.1 (bf o)]?).map (·.1)=some (bf o))))=true by rw[hth];rfl) rfl
 |some v =>
  rw[hf]at hth al4;refine af (show(!(decide ((w.1[bU w.1 (bf o)]?).map (·.1)=some (bf o))))=false by rw[hth];rfl) ?_;have hx:w.1[bU w.1 (bf o)]? = some v:=by
   grind
  have aN:=(abC.1 hx).1;refine ae (cP (fK _) (aT aN)) ?_;refine aa hx ?_;show _=some ((((if 0<v.2.1.length then(14,w) else(0,(cY w.1 (bf o),w.2)):Int×aX).1,()),((if 0<v.2.1.length then(14,w) else(0,(cY w.1 (bf o),w.2)):Int×aX).2,())):(Int×Unit)×(aX×Unit));by_cases h2:0<v.2.1.length
  ·simp_all
  ·rw[if_neg h2];refine af (decide_eq_false (show ¬((v.2.1.length:Nat):Int)>0 by omega)) ?_;have hw:IntKind.wrap .i64 (((bU w.1 (bf o):Nat):Int)+1)=((bU w.1 (bf o)+1:Nat):Int):=aD aN (by omega);have kZ:kj w.1 ((bU w.1 (bf o):Nat):Int) (IntKind.wrap .i64 (((bU w.1 (bf o):Nat):Int)+1))=true:=by rw[hw];unfold kj;rw[decide_eq_true (show(0:Int)≤((bU w.1 (bf o):Nat):Int) by omega),decide_eq_true (show((bU w.1 (bf o):Nat):Int)<((bU w.1 (bf o)+1:Nat):Int) by omega),decide_eq_true (show((bU w.1 (bf o)+1:Nat):Int)≤((w.1.length:Nat):Int) by omega),fits (by omega)];rfl
   refine ae kZ ?_;have e:dJ w.1 ((bU w.1 (bf o):Nat):Int) (IntKind.wrap .i64 (((bU w.1 (bf o):Nat):Int)+1))=cY w.1 (bf o):=by
    grind [zN,dJ,Int.toNat_natCast]
   simp_all
def zW:aX:=([],([],([],())))
def aP(s:StateT):aX:=(s.1.1,(s.1.2,(s.2,())))
def B8(w:aX):StateT:=((w.1,w.2.1),w.2.2.1)
def j7(e:Int)(w:aX):StateT×(Int×Unit):=if e≠0 then(zS,(e,())) else(B8 w,(0,()))
def Y2(k:Int)(x:ID):br:=(k,(x,(zI,(zI,(zC,(zC,(false,(e0,0))))))))
def aoq(x:ID):Int:=if cd x=true then 0 else 1
def shS:StateT:=(([((1,1),([],(e0,0)))],[]),[])
end Go.Vs
namespace Go.Vs
open Go.Proofs
theorem cc.map{l:List ai}(h:cc l){f:ai→ai}(hf:∀v,(f v).1=v.1):cc (l.map f):=by unfold cc at h ⊢;rw[List.pairwise_map];exact h.imp fun {a b} zH=>by rw[hf,hf];exact zH
theorem qb{x:ID}{f:ai→ai}(hf:∀v,(f v).1=v.1):∀(l:List ai),aR (l.map f) x=(aR l x).map f
 |[]=>rfl
 |w::r=>by
  unfold aR;rw[List.map_cons,List.find?_cons,List.find?_cons,hf];have:=qb (x:=x) hf r;unfold aR at this
  cases decide (w.1=x) with
  |true=>rfl
  |false=>exact this
theorem tv(x:ID)(l:List ab)(w:ai):(uH x l w).1=w.1:=by grind [uH]
theorem PH(o:br)(w:ai):(iQ o w).1=w.1:=by grind [iQ]
structure Iv(d:ak):Prop where
 s:cc d.1
 n:d.1.length≤24
theorem Iv.zero:Iv zS.1:=⟨List.Pairwise.nil,by simp[zS]⟩
theorem Iv.ck{d:ak}(h:Iv d)(x:ID)(l:List ab):Iv (ck d x l):=⟨h.s.map (tv x l),by unfold Vs.ck;simp;exact h.n⟩
theorem Iv.aM{d:ak}(h:Iv d)(v e:ID):Iv (aM d v e):=⟨nF h.s,acE (adA _ _) h.n⟩
theorem Iv.one{s:StateT}(h:Iv s.1)(o:br):Iv (kh s o).1.1:=by
 unfold kh
 split;· exact Iv.zero
 split
 ·unfold oy
  split;· exact Iv.zero
  split;· exact Iv.zero
  rename_i h1 h2;exact⟨qa _ h.s (by simpa[bq] using h1),by rw[fL];omega⟩
 split
 ·unfold vF
  split
  ·exact Iv.zero
  ·split
   ·exact Iv.zero
   ·exact h.aM _ _
 split
 ·unfold ox
  split;· exact Iv.zero
  split;· exact Iv.zero
  split;· exact Iv.zero
  split;· exact Iv.zero
  split;· exact Iv.zero
  have h1:Iv (s.1.1,dL (bf o,(e0,0)) s.1.2):=⟨h.s,h.n⟩;exact(h1.ck _ _).ck _ _
 split
 ·unfold Ec
  split;· exact Iv.zero
  exact((h.ck _ _).ck _ _).aM _ _
 split
 ·unfold kM
  split;· exact Iv.zero
  split;· exact Iv.zero
  split;· exact Iv.zero
  split;· exact Iv.zero
  split;· exact Iv.zero
  rename_i h1 h2 h3 h4 h5;have h6:aR s.1.1 (fG o)=none:=by simpa[bq] using h2
  have h7:aR (aE s.1 (LF o) (aj (Hg o))).1 (fG o)=none:=by
   grind [aE,Vs.ck,qb,tv]
  refine⟨qa _ (h.ck _ _).s h7,?_⟩
  grind [VN,fL,aE,s,LF,aj,Hg,Vs.ck]
 split
 ·unfold j6;have key:∀a b:ab,Iv (JH s o a b):=fun a b=>((h.aM _ _).ck _ _).aM _ _
  grind [Iv.zero,jg]
 ·unfold wB
  split
  ·exact⟨h.s.map (PH o),by simp;exact h.n⟩
  ·exact Iv.zero
theorem Iv.go:∀(l:List br) {s:StateT},Iv s.1→Iv (Ed l s).1.1
 |[],s,h=>h
 |o::r,s,h=>by
  unfold Ed
  split
  ·exact Iv.zero
  ·exact Iv.go r (h.one o)
theorem Iv.try{s:StateT}(h:Iv s.1)(l:List br):Iv (hY s l).1:=by
 grind [hY,cZ,Iv.zero,Iv.go]
theorem Iv.reach:∀(m:Nat) (l:List (List br)) {s:StateT},Iv s.1→Iv (nE m l s).1
 |0,_,s,h=>by simpa[nE] using h
 |m+1,[],s,h=>h
 |m+1,l::r,s,h=>by rw[nE];exact Iv.reach m r (h.try _)
theorem Iv.PE(l:List (List br)):Iv (Ee l).1:=Iv.reach 30 l Iv.zero
theorem NQ{x:ID}{l:List ai}(hf:aR l x=none):cY l x=l:=by
 grind [cY,List.filter_eq_self,aR,List.find?_eq_none]
theorem Ef(v:ai):∀{l:List ai},aR l v.1=none→cY (c8 v l) v.1=l
 |[],_=>by simp[c8,cY]
 |w::r,hf=>by
  have bB:¬w.1=v.1:=fun e=>by simp[aR,e]at hf
  have Dc:aR r v.1=none:=by simpa[aR,List.find?_cons,bB] using hf
  unfold c8
  split
  ·unfold cY;rw[List.filter_cons_of_neg (by simp)];exact NQ hf
  ·have:=Ef v Dc;unfold cY at this ⊢;rw[List.filter_cons_of_pos (by simpa using bB),this]
end Go.Vs
