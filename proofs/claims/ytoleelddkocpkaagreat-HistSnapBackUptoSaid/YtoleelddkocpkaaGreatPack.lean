/- Diagrams and states as bytes -/
import Derived.Test.YtoleelddkocpkaaGreatHist
set_option linter.unusedVariables false
set_option linter.unusedSimpArgs false
namespace Go.Vs
open Go.Proofs
variable {G:(f:FuncId)→(g:aO)→Option (g.A→Option g.B)}
abbrev w8(n:Int):Int:=IntKind.wrap .u8 n
def cy(x:ID):List Int:=[w8 x.1,w8 (iu .i64 x.2 16),w8 (iu .i64 x.2 8),w8 x.2]
def Mt(n:Int)(i:Nat):Int:=w8 (iu .u64 (IntKind.wrap .u64 n) (8*(7-(i:Int))))
def eX(n:Int):List Int:=(List.range 8).map (Mt n)
def nK(s:ByteArray):List Int:=w8 ((s.size:Nat):Int)::bytesOf s
def cQ(e:ag):List Int:=cy e.1++(nK e.2.1++eX e.2.2)
theorem Xu(hG:HG G)(b:List Int)(x:ID)(hb:b.length≤1000000):FX G 43 DA ((b,(x,())),())=some ((b++cy x,()),()):=by
 refine av (hG _ _ rfl) ahV ?_;have ec:cut b 0 (((b.length:Nat)):Int)=b:=Qd b;refine ae (cP (show az b.length 0 (((b.length:Nat)):Int)=true by simp[az]) (decide_eq_true rfl)) (af rfl (af rfl (ae (fits ?_) ?_)))
 ·show(cut b 0 (((b.length:Nat)):Int)).length+4≤_;rw[ec];omega
 ·exact congrArg (fun l:List Int=>some ((l++cy x,()),())) ec
theorem Xv(hG:HG G)(b:List Int)(n:Int)(hb:b.length≤1000000):FX G 49 rQ ((b,(n,())),())=some ((b++eX n,()),()):=by
 refine av (hG _ _ rfl) ahQ ?_;have e:wI (lI b+8)=((b.length+8:Nat):Int):=by show IntKind.wrap .i64 (((b.length:Nat):Int)+8)=_;rw[wrap_small (by omega) (by omega)];omega
 have loop:∀(m i:Nat),i+m=8→LX G 49 rQ Tryz.f49 q9 (aK Tryz.prog 49 0) ((b,(n,((i:Int),()))),((),(b++((List.range i).map (Mt n)++List.replicate m 0),())))=some ((b++eX n,()),()):=by
  intro m
  induction m with
  |zero =>
   intro i hi;have:i=8:=by omega
   subst this;refine ar Qh (af rfl ?_);rw[List.replicate_zero,List.append_nil];rfl
  |succ m ih =>
   intro i hi;have e2:wI ((8:Int)*wI ((7:Int)-(i:Int)))=8*(7-(i:Int)):=by show IntKind.wrap .i64 (8*IntKind.wrap .i64 (7-(i:Int)))=_;rw[wrap_small (n:=7-(i:Int)) (by omega) (by omega),wrap_small (by omega) (by omega)]
   have e3:wI (lI b+(i:Int))=((b.length+i:Nat):Int):=by show IntKind.wrap .i64 (((b.length:Nat):Int)+(i:Int))=_;rw[wrap_small (by omega) (by omega)];omega
   have hal:((List.range i).map (Mt n)).length=i:=by simp
   generalize hA:(List.range i).map (Mt n)=A at hal;have hlen:(b++(A++List.replicate (m+1) (0:Int))).length=b.length+8:=by simp[hal];omega
   refine ar Qh (ae (decide_eq_true (show(i:Int)<8 by omega)) (af (decide_eq_false (by rw[e2];omega)) (ae (cP (decide_eq_true (by rw[e3];omega)) (decide_eq_true ?_)) ?_)))
   ·rw[e3];show((b.length+i:Nat):Int)<(((b++(A++List.replicate (m+1) (0:Int))).length:Nat):Int);rw[hlen];omega
   ·refine aa (a:=(0:Int)) ?_ ?_
    ·show(b++(A++List.replicate (m+1) (0:Int)))[(wI (lI b+(i:Int))).toNat]? = some 0;rw[e3,Int.toNat_natCast,List.getElem?_append_right (by omega),List.getElem?_append_right (by omega),show b.length+i-b.length-A.length=0 by omega];rfl
    ·have e4:List.set (b++(A++List.replicate (m+1) (0:Int))) (wI (lI b+(i:Int))).toNat (IntKind.wrap .u8 (iu .u64 (IntKind.wrap .u64 n) (wI ((8:Int)*wI ((7:Int)-(i:Int))))))=b++((List.range (i+1)).map (Mt n)++List.replicate m 0):=by rw[e3,e2,Int.toNat_natCast,List.set_append_right _ _ (by omega),List.set_append_right _ _ (by omega),show b.length+i-b.length-A.length=0 by omega,List.replicate_succ,List.set_cons_zero,List.range_succ,List.map_append,hA,List.append_assoc];rfl
     have ew:wI ((i:Int)+1)=((i+1:Nat):Int):=aD (n:=8) (by omega) (by omega);exact(congr (congrArg (fun(k:Int) (r:List Int)=>LX G 49 rQ Tryz.f49 q9 (aK Tryz.prog 49 0) ((b,(n,(k,()))),((),(r,())))) ew) e4).trans (ih (i+1) (by omega))
 refine ae (cP (decide_eq_true (by rw[e];omega)) (cP (decide_eq_true (by rw[e];omega)) (decide_eq_true rfl))) (ae ?_ ?_)
 ·show(!(List.replicate (wI (lI b+8)).toNat (0:Int)).isEmpty)=true;rw[e,Int.toNat_natCast];rfl
 ·have er:nR b (List.replicate (wI (lI b+8)).toNat (0:Int))=b++(([]:List Int)++List.replicate 8 0):=by rw[e,Int.toNat_natCast];unfold nR;rw[List.length_replicate,List.take_of_length_le (by omega),List.drop_replicate,show b.length+8-b.length=8 by omega,List.nil_append]
  exact(congrArg (fun r:List Int=>LX G 49 rQ Tryz.f49 q9 (aK Tryz.prog 49 0) ((b,(n,((0:Int),()))),((),(r,())))) er).trans (loop 8 0 (by omega))
theorem ah8(hG:HG G)(b:List Int)(s:ByteArray)(hb:b.length+s.size≤1000000):FX G 97 Ld ((b,(s,())),())=some ((b++nK s,()),()):=by
 refine av (hG _ _ rfl) ahR ?_;have hl:(b++[w8 ((s.size:Nat):Int)]).length=b.length+1:=by simp
 refine ae (fits (show b.length+1≤_ by omega)) (ae (cP ?_ (fits ?_)) ?_)
 ·show(!(b++[w8 ((s.size:Nat):Int)]).isEmpty)=true
  cases b<;>rfl
 ·show(b++[w8 ((s.size:Nat):Int)]).length+s.size≤_;rw[hl];omega
 ·show some ((((b++[w8 ((s.size:Nat):Int)])++bytesOf s:List Int),()),())=_;rw[List.append_assoc];rfl
theorem jL(s:ByteArray):(bytesOf s).length=s.size:=by unfold bytesOf;rw[List.length_map,Array.length_toList];rfl
theorem dv(n:Int):(eX n).length=8:=by simp[eX]
theorem Aj(s:ByteArray):(nK s).length=s.size+1:=by show(bytesOf s).length+1=_;rw[jL]
theorem rF(e:ag):(cQ e).length=e.2.1.size+13:=by unfold cQ;rw[List.length_append,List.length_append,Aj,dv];show 4+_=_;omega
theorem abf(hG:HG G)(b:List Int)(e:ag)(hb:b.length+e.2.1.size≤500000):FX G 68 G3 ((b,(e,())),())=some ((b++cQ e,()),()):=by
 refine av (hG _ _ rfl) ahO ?_;have l1:(b++cy e.1).length=b.length+4:=by simp[cy]
 have l2:((b++cy e.1)++nK e.2.1).length=b.length+4+(e.2.1.size+1):=by rw[List.length_append,l1,Aj]
 refine aa (Xu hG b e.1 (by omega)) (aa (ah8 hG _ e.2.1 (by rw[l1];omega)) (aa (Xv hG _ e.2.2 (by rw[l2];omega)) ?_));show some (((((b++cy e.1)++nK e.2.1)++eX e.2.2,()):List Int×Unit),())=_;rw[List.append_assoc,List.append_assoc];rfl
theorem abg(hG:HG G)(l:List ID)(hl:l.length≤1000)(hs:l.Pairwise fun a b=>gN a b=true)(hm:∀x∈l,cd x=true):FX G 133 xD ((l,()),())=some ((true,()),()):=by
 refine av (hG _ _ rfl) ahS ?_;have loop:∀(n i:Nat),i+n=l.length→LX G 133 xD Tryz.f133 uB (aK Tryz.prog 133 0) ((l,(l,(((l.length:Nat):Int),((i:Int),())))),((),()))=some ((true,()),()):=by
  intro n
  induction n with
  |zero=>intro i hi;exact ar Qi (af (decide_eq_false (show ¬((i:Int)<((l.length:Nat):Int)) by omega)) rfl)
  |succ n ih =>
   intro i hi;have aN:i<l.length:=by omega
   have hx:l[i]? = some l[i]:=aa8 aN;have ih:=ih (i+1) (by omega);have ew:=aD aN (by omega);refine ar Qi (ae (aT aN) (aa (aB hx) (aa (LG (hG _ _ rfl) _) (af (show(!cd l[i])=false by rw[hm _ (List.getElem_mem aN)];rfl) ?_))));by_cases h0:i=0
   ·refine af (decide_eq_false (show ¬((i:Int)>0) by omega)) ?_;rw[wI,ew];exact ih
   ·have hy:l[i-1]? = some l[i-1]:=aa8 (by omega);have e2:aU l (IntKind.wrap .i64 ((i:Int)-1))=some l[i-1]:=by rw[ZH (by omega) aN (by omega)];exact aB hy
    have h3:=(mu l[i-1] l[i]).2 (adL.1 hs (i-1) i (by omega) aN (by omega));refine ae (decide_eq_true (show((i:Int)>0) by omega)) (aa e2 (aa (PF hG _ _) (af (decide_eq_false (show ¬(sj l[i-1] l[i]≥0) by omega)) ?_)));rw[wI,ew];exact ih
 exact loop l.length 0 (by omega)
theorem ah9(hG:HG G)(v:ai):FX G 135 Dx ((v,()),())=some ((v.1,()),()):=av (hG _ _ rfl) aaE rfl
theorem aia(hG:HG G)(v:ag):FX G 137 La ((v,()),())=some ((v.1,()),()):=av (hG _ _ rfl) afC rfl
theorem Xw(hG:HG G)(l:List ai)(hl:l.length≤1000):FX G 136134 lJ ((l,()),())=some ((l.map (·.1),()),()):=by refine av (hG _ _ rfl) Xp ?_;exact bu l (fun i (s:List ID)=>LX G 136134 lJ Tryz.f134 nw (aK Tryz.prog 134 0) ((l,(((l.length:Nat):Int),(i,()))),((),(s,())))) (fun r s=>((s++r.map (·.1),()),())) (fun m s=>s.length+m≤1000) (fun s _=>by refine ar EX (af (cE _) ?_);simp only[List.map_nil,List.append_nil];rfl) (fun i x r s hi hx ya hk ih=>by refine ar EX (ae (aT hi) (aa (aB hx) (aa (ah9 hG x) (ae (fits (by simp;omega)) ?_))));rw[wI,aD hi (by omega)];refine(ih (s++[x.1]) (by simp;omega)).trans ?_;simp) [] (by simpa using hl)
theorem Xx(hG:HG G)(l:List ag)(hl:l.length≤1000):FX G 138136 lK ((l,()),())=some ((l.map (·.1),()),()):=by refine av (hG _ _ rfl) Xq ?_;exact bu l (fun i (s:List ID)=>LX G 138136 lK Tryz.f136 nC (aK Tryz.prog 136 0) ((l,(((l.length:Nat):Int),(i,()))),((),(s,())))) (fun r s=>((s++r.map (·.1),()),())) (fun m s=>s.length+m≤1000) (fun s _=>by refine ar EY (af (cE _) ?_);simp only[List.map_nil,List.append_nil];rfl) (fun i x r s hi hx ya hk ih=>by refine ar EY (ae (aT hi) (aa (aB hx) (aa (aia hG x) (ae (fits (by simp;omega)) ?_))));rw[wI,aD hi (by omega)];refine(ih (s++[x.1]) (by simp;omega)).trans ?_;simp) [] (by simpa using hl)
theorem aib(hG:HG G)(l:List ab)(hl:l.length≤1000):FX G 178 A4 ((l,l,()),())=some ((true,()),()):=by
 refine av (hG _ _ rfl) ahU ?_;refine af (show((((l.length:Nat):Int)) != ((l.length:Nat):Int))=false by simp) ?_;have loop:∀(n i:Nat),i+n=l.length→LX G 178 A4 Tryz.f178 xU (aK Tryz.prog 178 0) ((l,(l,(((l.length:Nat):Int),((i:Int),())))),((),()))=some ((true,()),()):=by
  intro n
  induction n with
  |zero=>intro i hi;exact ar Qm (af (decide_eq_false (show ¬((i:Int)<((l.length:Nat):Int)) by omega)) rfl)
  |succ n ih =>
   intro i hi;have aN:i<l.length:=by omega
   have hx:=aB (aa8 aN);refine ar Qm (ae (aT aN) (aa hx (aa hx (af (by simp) ?_))));rw[wI,aD aN (by omega)];exact ih (i+1) (by omega)
 exact loop l.length 0 (by omega)
structure Left(es:List (ab×Bool))(rem:List ab):Prop where
 p:(es.map (·.1)).Perm rem
 t:∀e∈es,e.2=true
theorem Left.get{es:List (ab×Bool)}{x:ab}{rem:List ab}(h:Left es (x::rem)):(Option.getD (fM bj x es) false)=true:=by
 rw[N7];have hx:x∈es.map (·.1):=h.p.mem_iff.2 (by simp);have key:∀{l:List (ab×Bool)},(∀e∈l,e.2=true)→x∈l.map (·.1)→fF x l=some true:=by
  intro l
  induction l with
  |nil=>intro _ h;simp at h
  |cons e r ih =>
   intro h1 h2;rw[fF];by_cases he:e.1=x
   ·rw[if_pos he,h1 e (by simp)]
   ·rw[if_neg he];refine ih (fun q hq=>h1 q (by simp[hq])) ?_;simp only[List.map_cons,List.mem_cons]at h2;exact h2.resolve_left fun k=>he k.symm
 rw[key h.t hx];rfl
theorem Left.del{es:List (ab×Bool)}{x:ab}{rem:List ab}(h:Left es (x::rem)):Left (HU bj x es) rem:=by
 have hx:x∈es.map (·.1):=h.p.mem_iff.2 (by simp);unfold HU
 split
 ·rename_i i hi;rw[EK]at hi;obtain⟨aN,h1,_⟩:=adM.1 hi;have h1:es[i].1=x:=of_decide_eq_true h1;refine⟨?_,fun e he=>h.t e (List.mem_of_mem_eraseIdx he)⟩;have h2:es.Perm (es[i]::es.eraseIdx i):=by
   rw[List.eraseIdx_eq_take_drop_succ]
   conv=>lhs;rw[←List.take_append_drop i es,List.drop_eq_getElem_cons aN]
   exact List.perm_middle
  have h3:=(h2.map (·.1)).symm.trans h.p;rw[List.map_cons,h1]at h3;exact h3.cons_inv
 ·rename_i hi;rw[EK,List.findIdx?_eq_none_iff]at hi;obtain⟨e,he,h1⟩:=acn.1 hx;have:=hi e he;simp[h1]at this
theorem yy:∀l:List ag,(ends l).length=2*l.length
 |[]=>rfl
 |e::r=>by rw[gE];simp[yy r];omega
def tr(es:List ab):List (ab×Bool):=es.map fun x=>(x,true)
theorem Qw(es:List ab):(tr es).map (·.1)=es:=by unfold tr;rw[List.map_map,show((fun e:ab×Bool=>e.1) ∘ fun x=>(x,true))=id from rfl,List.map_id]
theorem ade(a b:List ab):tr (a++b)=tr a++tr b:=List.map_append
theorem Qx(x:ab)(es:List ab)(h:x∉es):jN bj x true (tr es)=tr (es++[x]):=by rw[ade];exact Mc true (by rw[Qw];exact h)
theorem aic(hG:HG G)(d:ak)(h:Wf d):FX G 138 mb ((d,()),())=some ((true,()),()):=by
 have MU:=h.nv;have bB:=h.ne;have hen:=yy d.2;have Lf:(an d.1).length≤80:=by rw[h.pd.length_eq,hen];omega
 refine av (hG _ _ rfl) ahT ?_;have Lx:∀es,Left es (an d.1)→LX G 138 mb Tryz.f138 uC (aK Tryz.prog 138 1) ((d.1,(((d.1.length:Nat):Int),((0:Int),()))),((),(es,())))=some ((true,()),()):=by
  intro es Cg;exact bu d.1 (fun i (s:List (ab×Bool)×List ai)=>LX G 138 mb Tryz.f138 uC (aK Tryz.prog 138 1) ((d.1,(((d.1.length:Nat):Int),(i,()))),((),(s.1,())))) (fun r s=>((true,()),())) (fun m s=>Left s.1 (an s.2)∧s.2.length=m∧∃p,p++s.2=d.1) (fun s hs=>by
    obtain⟨h1,h2,_⟩:=hs;have h3:s.2=[]:=abY h2;rw[h3]at h1;have h4:s.1=[]:=by have:=h1.p.length_eq;simpa[an] using this
    refine ar Qk (af (cE _) ?_);rw[h4];rfl)
   (fun i v r s hi hv ya hk ih=>by
    obtain⟨h1,h2,p,hp⟩:=hk;have Tw:p.length=i:=by have:=congrArg List.length hp;rw[List.length_append]at this;omega
    obtain⟨s1,s2⟩:=s
    cases s2 with
    |nil=>simp at h2
    |cons v' r' =>
     have BL:v'=v:=by have:=hv;rw[←hp,List.getElem?_append_right (by omega),Tw,Nat.sub_self]at this;simpa using this
     subst BL;have hm:v'∈d.1:=acI hv;have ht:=(h.gv v' hm).t;have O4:v'.2.1.length≤80:=by
      have:v'.2.1.length≤(an d.1).length:=by rw[←hp,kP,fg];simp;omega
      omega
     refine ar Qk (ae (aT hi) (aa (aB hv) (aa (Ek hG _ (by omega)) ?_)));rw[ht];refine aa (aib hG _ (by omega)) (af rfl ?_);have ew:=aD hi (by omega);have adf:∀es,Left es (v'.2.1++an r')→LX G 138 mb Tryz.f138 uD (aK Tryz.prog 138 2) ((d.1,(((d.1.length:Nat):Int),((i:Int),(v'.2.1,(((v'.2.1.length:Nat):Int),((0:Int),())))))),((),(es,())))=some ((true,()),()):=by
      intro es Cg;exact bu v'.2.1 (fun k (s:List (ab×Bool)×List ab)=>LX G 138 mb Tryz.f138 uD (aK Tryz.prog 138 2) ((d.1,(((d.1.length:Nat):Int),((i:Int),(v'.2.1,(((v'.2.1.length:Nat):Int),(k,())))))),((),(s.1,())))) (fun r s=>((true,()),())) (fun m s=>Left s.1 (s.2++an r')∧s.2.length=m∧∃p,p++s.2=v'.2.1) (fun s hs=>by obtain⟨h5,h6,_⟩:=hs;have h7:s.2=[]:=abY h6;rw[h7,List.nil_append]at h5;refine ar Ql (af (cE _) ?_);rw[wI,ew];exact ih (s.1,r') ⟨h5,by simp at h2;omega,p++[v'],by simpa using hp⟩) (fun k x q s hk hx hqq hh ih2=>by
        obtain⟨h5,h6,p2,hp2⟩:=hh;have anD:p2.length=k:=by have:=congrArg List.length hp2;rw[List.length_append]at this;omega
        obtain⟨s1,s2⟩:=s
        cases s2 with
        |nil=>simp at h6
        |cons x' q' =>
         have TB:x'=x:=by have:=hx;rw[←hp2,List.getElem?_append_right (by omega),anD,Nat.sub_self]at this;simpa using this
         subst TB;refine ar Ql (ae (aT hk) (aa (aB hx) (af ?_ ?_)))
         ·show(!(Option.getD (fM bj x' s1) false))=false;rw[Left.get h5];rfl
         ·rw[wI,aD hk (by omega)];exact ih2 (HU bj x' s1,q') ⟨Left.del h5,by simp at h6;omega,p2++[x'],by simpa using hp2⟩)
       (es,v'.2.1) ⟨Cg,rfl,[],rfl⟩
     exact adf s1 (by rw[fg]at h1;exact h1))
   (es,d.1) ⟨Cg,rfl,[],rfl⟩
 have Fq:=wF h.se;exact bu d.2 (fun i (s:List (ab×Bool))=>LX G 138 mb Tryz.f138 xT (aK Tryz.prog 138 0) ((d.2,(((d.2.length:Nat):Int),(i,()))),(((d,()),()),(s,())))) (fun r s=>((true,()),())) (fun m s=>∃p,s=tr (ends p)∧∃r,p++r=d.2∧r.length=m) (fun s hs=>by
   obtain⟨p,rfl,r,hp,hr⟩:=hs;have h0:r=[]:=abY hr;rw[h0,List.append_nil]at hp;subst hp;refine ar Qj (af (cE _) ?_);refine Lx _ ⟨?_,fun e he=>?_⟩
   ·rw[Qw];exact h.pd.symm
   ·obtain⟨x,_,rfl⟩:=acn.1 he;rfl)
  (fun i e r s hi he ya hk ih=>by
   obtain⟨p,rfl,q,hp,hq⟩:=hk;have Tw:p.length=i:=by have:=congrArg List.length hp;rw[List.length_append]at this;omega
   cases q with
   |nil=>simp at hq
   |cons e' q' =>
    have OM:e'=e:=by have:=he;rw[←hp,List.getElem?_append_right (by omega),Tw,Nat.sub_self]at this;simpa using this
    subst OM;refine ar Qj (ae (aT hi) (aa (aB he) ?_));rw[wI,aD hi (by omega)];rw[←hp,LM,gE]at Fq;obtain⟨_,h6,h7⟩:=adw.1 Fq;have e0:ends (p++[e'])=(ends p++[(e'.1,0)])++[(e'.1,1)]:=by rw[LM,gE,show ends []=[] from rfl,List.append_assoc];rfl
    have m1:=Qx (e'.1,0) (ends p) fun k=>h7 _ k _ (by simp) rfl;have m2:=Qx (e'.1,1) (ends p++[(e'.1,0)]) fun k=>by
     rcases ab6.1 k with k|k
     ·exact h7 _ k _ (by simp) rfl
     ·simp at k
    rw[←e0]at m2;have:=ih (tr (ends (p++[e']))) ⟨p++[e'],rfl,q',by simpa using hp,by simp at hq;omega⟩;rw[←m2,←m1]at this;exact this)
  [] ⟨[],rfl,d.2,rfl,rfl⟩
theorem abh(hG:HG G)(s:ByteArray)(n:Int)(hs:s.size≤100000000):FX G 140 G4 ((s,(n,())),())=some ((!kL s,()),()):=av (hG _ _ rfl) ahW (aa (agr (hG _ _ rfl) s hs) rfl)
theorem abi(hG:HG G)(s:ByteArray)(n:Int):FX G 142 G5 ((s,(n,())),())=some ((!jM n,()),()):=av (hG _ _ rfl) ahX (aa (ags (hG _ _ rfl) n) rfl)
theorem F5(hG:HG G)(v:ai)(h:kL v.2.2.1=true):FX G 14100000180 iJ ((v,()),(((),()),()))=some ((false,()),(((),()),())):=by refine av (hG _ _ rfl) FZ (aa (abh hG v.2.2.1 v.2.2.2 (by have:=z6 h;omega)) ?_);show some (((!kL v.2.2.1,()):Bool×Unit),_)=_;rw[h];rfl
theorem F6(hG:HG G)(l:List ai)(hl:l.length≤1000)(h:∀v∈l,kL v.2.2.1=true):FX G 14100181203 dP ((l,()),(((),()),()))=some (((-1:Int),()),(((),()),())):=by
 refine av (hG _ _ rfl) FP ?_;have loop:∀(n i:Nat),i+n=l.length→LX G 14100181203 dP Tryz.f203 gi (aK Tryz.prog 203 0) ((l,(((l.length:Nat):Int),((i:Int),()))),((((),()),()),()))=some (((-1:Int),()),(((),()),())):=by
  intro n
  induction n with
  |zero=>intro i hi;exact ar rW (af (decide_eq_false (show ¬((i:Int)<((l.length:Nat):Int)) by omega)) rfl)
  |succ n ih =>
   intro i hi;have aN:i<l.length:=by omega
   refine ar rW (ae (aT aN) (aa (aB (aa8 aN)) (aa (F5 hG _ (h _ (acV aN))) (af rfl ?_))));rw[wI,aD aN (by omega)];exact ih (i+1) (by omega)
 exact loop l.length 0 (by omega)
theorem F7(hG:HG G)(l:List ai)(hl:l.length≤1000)(h:∀v∈l,kL v.2.2.1=true):FX G 14100181179 iF ((l,()),(((),()),()))=some ((false,()),(((),()),())):=av (hG _ _ rfl) FN (aa (F6 hG l hl h) rfl)
theorem F8(hG:HG G)(v:ag)(h:kL v.2.1=true):FX G 14100000182 iL ((v,()),(((),()),()))=some ((false,()),(((),()),())):=by refine av (hG _ _ rfl) F3 (aa (abh hG v.2.1 v.2.2 (by have:=z6 h;omega)) ?_);show some (((!kL v.2.1,()):Bool×Unit),_)=_;rw[h];rfl
theorem F9(hG:HG G)(l:List ag)(hl:l.length≤1000)(h:∀v∈l,kL v.2.1=true):FX G 14100183204 dR ((l,()),(((),()),()))=some (((-1:Int),()),(((),()),())):=by
 refine av (hG _ _ rfl) FV ?_;have loop:∀(n i:Nat),i+n=l.length→LX G 14100183204 dR Tryz.f204 gk (aK Tryz.prog 204 0) ((l,(((l.length:Nat):Int),((i:Int),()))),((((),()),()),()))=some (((-1:Int),()),(((),()),())):=by
  intro n
  induction n with
  |zero=>intro i hi;exact ar rY (af (decide_eq_false (show ¬((i:Int)<((l.length:Nat):Int)) by omega)) rfl)
  |succ n ih =>
   intro i hi;have aN:i<l.length:=by omega
   refine ar rY (ae (aT aN) (aa (aB (aa8 aN)) (aa (F8 hG _ (h _ (acV aN))) (af rfl ?_))));rw[wI,aD aN (by omega)];exact ih (i+1) (by omega)
 exact loop l.length 0 (by omega)
theorem Ga(hG:HG G)(l:List ag)(hl:l.length≤1000)(h:∀v∈l,kL v.2.1=true):FX G 14100183181 iH ((l,()),(((),()),()))=some ((false,()),(((),()),())):=av (hG _ _ rfl) FR (aa (F9 hG l hl h) rfl)
theorem Xy(hG:HG G)(d:ak)(h1:d.1.length≤1000)(h2:d.2.length≤1000)(hv:∀v∈d.1,kL v.2.2.1=true)(he:∀v∈d.2,kL v.2.1=true):FX G 141139 ta ((d,()),())=some ((false,()),()) :=av (hG _ _ rfl) Xr (aa (F7 hG d.1 h1 hv) (af rfl (aa (Ga hG d.2 h2 he) rfl)))
theorem Gb(hG:HG G)(v:ai)(h:jM v.2.2.2=true):FX G 14300000180 iK ((v,()),(((),()),()))=some ((false,()),(((),()),())):=by refine av (hG _ _ rfl) F2 (aa (abi hG v.2.2.1 v.2.2.2) ?_);show some (((!jM v.2.2.2,()):Bool×Unit),_)=_;rw[h];rfl
theorem Gc(hG:HG G)(l:List ai)(hl:l.length≤1000)(h:∀v∈l,jM v.2.2.2=true):FX G 14300181203 dQ ((l,()),(((),()),()))=some (((-1:Int),()),(((),()),())):=by
 refine av (hG _ _ rfl) FQ ?_;have loop:∀(n i:Nat),i+n=l.length→LX G 14300181203 dQ Tryz.f203 gj (aK Tryz.prog 203 0) ((l,(((l.length:Nat):Int),((i:Int),()))),((((),()),()),()))=some (((-1:Int),()),(((),()),())):=by
  intro n
  induction n with
  |zero=>intro i hi;exact ar rX (af (decide_eq_false (show ¬((i:Int)<((l.length:Nat):Int)) by omega)) rfl)
  |succ n ih =>
   intro i hi;have aN:i<l.length:=by omega
   refine ar rX (ae (aT aN) (aa (aB (aa8 aN)) (aa (Gb hG _ (h _ (acV aN))) (af rfl ?_))));rw[wI,aD aN (by omega)];exact ih (i+1) (by omega)
 exact loop l.length 0 (by omega)
theorem Gd(hG:HG G)(l:List ai)(hl:l.length≤1000)(h:∀v∈l,jM v.2.2.2=true):FX G 14300181179 iG ((l,()),(((),()),()))=some ((false,()),(((),()),())):=av (hG _ _ rfl) FO (aa (Gc hG l hl h) rfl)
theorem Ge(hG:HG G)(v:ag)(h:jM v.2.2=true):FX G 14300000182 iM ((v,()),(((),()),()))=some ((false,()),(((),()),())):=by refine av (hG _ _ rfl) F4 (aa (abi hG v.2.1 v.2.2) ?_);show some (((!jM v.2.2,()):Bool×Unit),_)=_;rw[h];rfl
theorem Gf(hG:HG G)(l:List ag)(hl:l.length≤1000)(h:∀v∈l,jM v.2.2=true):FX G 14300183204 dS ((l,()),(((),()),()))=some (((-1:Int),()),(((),()),())):=by
 refine av (hG _ _ rfl) FY ?_;have loop:∀(n i:Nat),i+n=l.length→LX G 14300183204 dS Tryz.f204 gm (aK Tryz.prog 204 0) ((l,(((l.length:Nat):Int),((i:Int),()))),((((),()),()),()))=some (((-1:Int),()),(((),()),())):=by
  intro n
  induction n with
  |zero=>intro i hi;exact ar rZ (af (decide_eq_false (show ¬((i:Int)<((l.length:Nat):Int)) by omega)) rfl)
  |succ n ih =>
   intro i hi;have aN:i<l.length:=by omega
   refine ar rZ (ae (aT aN) (aa (aB (aa8 aN)) (aa (Ge hG _ (h _ (acV aN))) (af rfl ?_))));rw[wI,aD aN (by omega)];exact ih (i+1) (by omega)
 exact loop l.length 0 (by omega)
theorem Gg(hG:HG G)(l:List ag)(hl:l.length≤1000)(h:∀v∈l,jM v.2.2=true):FX G 14300183181 iI ((l,()),(((),()),()))=some ((false,()),(((),()),())):=av (hG _ _ rfl) FU (aa (Gf hG l hl h) rfl)
theorem Xz(hG:HG G)(d:ak)(h1:d.1.length≤1000)(h2:d.2.length≤1000)(hv:∀v∈d.1,jM v.2.2.2=true)(he:∀v∈d.2,jM v.2.2=true):FX G 143139 tc ((d,()),())=some ((false,()),()) :=av (hG _ _ rfl) Xs (aa (Gd hG d.1 h1 hv) (af rfl (aa (Gg hG d.2 h2 he) rfl)))
theorem aie(hG:HG G)(d:ak)(h:Wf d):FX G 95 Lc ((d,()),())=some (((0:Int),()),()):=by have MU:=h.nv;have bB:=h.ne;obtain⟨n1,n2,n3,n4⟩:=Xa h;refine av (hG _ _ rfl) ahP ?_;refine af (decide_eq_false (show ¬(((d.1.length:Nat):Int)>24) by omega)) (af (decide_eq_false (show ¬(((d.2.length:Nat):Int)>40) by omega)) ?_);refine aa (Xw hG d.1 (by omega)) (aa (abg hG _ (by rw[List.length_map];omega) n1 n2) (af rfl ?_));refine aa (Xx hG d.2 (by omega)) (aa (abg hG _ (by rw[List.length_map];omega) n3 n4) (af rfl ?_));refine aa (aic hG d h) (af rfl (aa (Xy hG d (by omega) (by omega) (fun v hv=>(h.gv v hv).l) fun v hv=>(h.ge v hv).l) (af rfl ?_)));exact aa (Xz hG d (by omega) (by omega) (fun v hv=>(h.gv v hv).a) fun v hv=>(h.ge v hv).a) (af rfl rfl)
theorem aif(hG:HG G)(hp:oT G)(d:ak)(h:Wf d)(hg:bL d=0):FX G 67 Lb ((d,()),())=some (((0:Int),()),()):=by refine av (hG _ _ rfl) ahN (aa (aie hG d h) (af rfl ?_));refine aa (hp d h) (af ?_ rfl);show(!decide (bL d=0))=false;rw[decide_eq_true hg];rfl
def bg:List ag→Nat→List (ID×Int)
 |[],_=>[]
 |e::r,i=>(e.1,(i:Int))::bg r (i+1)
theorem EZ:∀(a b:List ag) (i:Nat),bg (a++b) i=bg a i++bg b (i+a.length)
 |[],_,_=>rfl
 |e::r,b,i=>by rw[List.cons_append,bg,bg,EZ r b (i+1),List.length_cons,List.cons_append,show i+1+r.length=i+(r.length+1) by omega]
theorem Bh:∀(l:List ag) (i:Nat),(bg l i).map (·.1)=l.map (·.1)
 |[],_=>rfl
 |e::r,i=>by rw[bg,List.map_cons,List.map_cons,Bh r]
theorem Ow{α:Type}(x:ID)(es:List (ID×α)):sw fZ x es=es.findIdx? fun e=>decide (e.1=x):=by
 show List.findIdx? (fun e:ID×α=>((x.1==e.1.1)&&(x.2==e.1.2))) es=_;congr 1;funext e;rw[lN x e.1];by_cases h:x=e.1
 ·rw[decide_eq_true h,decide_eq_true h.symm]
 ·rw[decide_eq_false h,decide_eq_false (fun k=>h k.symm)]
theorem adg{α:Type}{x:ID}(v:α){es:List (ID×α)}(h:x∉es.map (·.1)):jN fZ x v es=es++[(x,v)]:=by
 have e:sw fZ x es=none:=by rw[Ow,List.findIdx?_eq_none_iff];intro q hq;exact decide_eq_false fun k=>h (acn.2 ⟨q,hq,k⟩)
 unfold jN
 split
 ·rename_i i k;rw[e]at k;cases k
 ·rfl
def oE(pl:List (ID×Int))(y:ab):Int:=w8 (wI ((Option.getD (fM fZ y.1 pl) (0:Int))+(wI ((128:Int)*y.2))))
def de(pl:List (ID×Int))(v:ai):List Int:=cQ (v.1,v.2.2)++(w8 ((v.2.1.length:Nat):Int)::v.2.1.map (oE pl))
def cr(d:ak):List Int:=w8 ((d.2.length:Nat):Int)::(d.2.flatMap cQ++(w8 ((d.1.length:Nat):Int)::d.1.flatMap (de (bg d.2 0))))
def abj(g:ax):List Int:=cy g.1.1++(w8 g.1.2::(cy g.2.1++[w8 g.2.2]))
def adh(s:StateT):List Int:=cr s.1++s.2.flatMap abj
theorem rG{s:ByteArray}(h:kL s=true):s.size≤16:=z6 h
theorem abk(hG:HG G)(hp:oT G)(d:ak)(h:Wf d)(hg:bL d=0):FX G 42 kl ((d,()),())=some ((cr d,((0:Int),())),()):=by
 have MU:=h.nv;have bB:=h.ne;have Lf:(an d.1).length≤80:=by rw[h.pd.length_eq,yy];omega
 have aih:∀v∈d.1,v.2.1.length≤80:=fun v hv=>by obtain⟨a,b,he⟩:=adt hv;rw[he,kP,fg]at Lf;simp at Lf;omega
 refine av (hG _ _ rfl) ahM (aa (aif hG hp d h hg) (af rfl ?_));have Lx:∀b:List Int,b.length≤20000→LX G 42 kl Tryz.f42 uA (aK Tryz.prog 42 1) ((d.1,(((d.1.length:Nat):Int),((0:Int),()))),((),(bg d.2 0,(b,()))))=some ((b++d.1.flatMap (de (bg d.2 0)),((0:Int),())),()):=by
  intro b hb;exact bu d.1 (fun i (s:List Int)=>LX G 42 kl Tryz.f42 uA (aK Tryz.prog 42 1) ((d.1,(((d.1.length:Nat):Int),(i,()))),((),(bg d.2 0,(s,()))))) (fun r s=>((s++r.flatMap (de (bg d.2 0)),((0:Int),())),())) (fun m s=>s.length+m*200≤40000) (fun s hs=>by refine ar Qf (af (cE _) ?_);simp only[List.flatMap_nil,List.append_nil]) (fun i v r s hi hv ya hk ih=>by
    have hm:v∈d.1:=acI hv;have iY:=rG (h.gv v hm).l;have O4:=aih v hm;have l1:(s++cQ (v.1,v.2.2)).length=s.length+(v.2.2.1.size+13):=by rw[List.length_append,rF]
    refine ar Qf (ae (aT hi) (aa (aB hv) (aa (abf hG s (v.1,v.2.2) (by show s.length+v.2.2.1.size≤_;omega)) (ae (fits ?_) ?_))))
    ·show(s++cQ (v.1,v.2.2)).length+1≤_;rw[l1];omega
    have ew:=aD hi (by omega);have adf:=bu v.2.1 (fun k (q:List Int)=>LX G 42 kl Tryz.f42 xS (aK Tryz.prog 42 2) ((d.1,(((d.1.length:Nat):Int),((i:Int),(v.2.1,(((v.2.1.length:Nat):Int),(k,())))))),((),(bg d.2 0,(q,()))))) (fun r' q=>(((q++r'.map (oE (bg d.2 0)))++r.flatMap (de (bg d.2 0)),((0:Int),())),())) (fun m q=>q.length+m=s.length+(v.2.2.1.size+14)+v.2.1.length) (fun q hq=>by refine ar Qg (af (cE _) ?_);rw[wI,ew];refine(ih q (by omega)).trans ?_;simp only[List.map_nil,List.append_nil]) (fun k x r' q wy hx hqq hh ih2=>by refine ar Qg (ae (aT wy) (aa (aB hx) (ae (fits (show q.length+1≤_ by omega)) ?_)));rw[wI,aD wy (by omega)];refine(ih2 (q++[oE (bg d.2 0) x]) (by simp;omega)).trans ?_;simp only[List.map_cons,List.append_assoc,List.singleton_append,List.cons_append,List.nil_append]) ((s++cQ (v.1,v.2.2))++[w8 ((v.2.1.length:Nat):Int)]) (by rw[List.length_append,l1];simp;omega);refine adf.trans ?_;simp only[List.flatMap_cons,de,List.append_assoc,List.singleton_append,List.cons_append,List.nil_append])
   b (by omega)
 have hse:=h.se;have key:=bu d.2 (fun i (s:List ag×List Int)=>LX G 42 kl Tryz.f42 uz (aK Tryz.prog 42 0) ((d.2,(((d.2.length:Nat):Int),(i,()))),(((d,()),()),(bg s.1 0,(s.2,()))))) (fun r s=>(((s.2++r.flatMap cQ)++(w8 ((d.1.length:Nat):Int)::d.1.flatMap (de (bg d.2 0))),((0:Int),())),())) (fun m s=>s.2.length+m*50≤10000∧∃r,s.1++r=d.2∧r.length=m) (fun s hs=>by obtain⟨h1,r,h2,h3⟩:=hs;have h0:r=[]:=abY h3;rw[h0,List.append_nil]at h2;refine ar Qe (af (cE _) (ae (fits (show s.2.length+1≤_ by omega)) ?_));rw[h2];refine(Lx (s.2++[w8 ((d.1.length:Nat):Int)]) (by simp;omega)).trans ?_;simp only[List.flatMap_nil,List.append_nil,List.append_assoc,List.singleton_append,List.cons_append,List.nil_append];rfl) (fun i e r s hi he ya hk ih=>by
   obtain⟨p,b⟩:=s;obtain⟨h1,q,hq,hql⟩:=hk;have hq:p++q=d.2:=hq;have Tw:p.length=i:=by have:=congrArg List.length hq;rw[List.length_append]at this;omega
   cases q with
   |nil=>simp at hql
   |cons e' q' =>
    have OM:e'=e:=by have:=he;rw[←hq,List.getElem?_append_right (by omega),Tw,Nat.sub_self]at this;simpa using this
    subst OM;have hm:e'∈d.2:=acI he;have iY:=rG (h.ge e' hm).l;have h1:b.length+(r.length+1)*50≤10000:=h1;refine ar Qe (ae (aT hi) (aa (aB he) (aa (abf hG b e' (by omega)) ?_)));have hnk:e'.1∉(bg p 0).map (·.1):=by rw[Bh];intro k;obtain⟨u,hu,hue⟩:=acn.1 k;have h5:=hse;rw[←hq]at h5;have:=(List.pairwise_append.1 h5).2.2 u hu e' (by simp);rw[hue,b5]at this;cases this
    have m1:jN fZ e'.1 (i:Int) (bg p 0)=bg (p++[e']) 0:=by rw[EZ,Nat.zero_add,Tw];exact adg (i:Int) hnk
    have ew:=aD hi (by omega);have:=ih (p++[e'],b++cQ e') ⟨by show(b++cQ e').length+_≤_;rw[List.length_append,rF];omega,q',by simpa using hq,by simp at hql;omega⟩;refine(congr (congrArg (fun(k:Int) (pl:List (ID×Int))=>LX G 42 kl Tryz.f42 uz (aK Tryz.prog 42 0) ((d.2,(((d.2.length:Nat):Int),(k,()))),(((d,()),()),(pl,(b++cQ e',()))))) ew) m1).trans (this.trans ?_);simp only[List.flatMap_cons,List.append_assoc])
  ([],[w8 ((d.2.length:Nat):Int)]) ⟨by show 1+d.2.length*50≤_;omega,d.2,rfl,rfl⟩
 exact key
theorem qm{α β:Type}(f:α→List β)(k:Nat):∀l:List α,(∀e∈l,(f e).length≤k)→(l.flatMap f).length≤k*l.length
 |[],_=>by simp
 |e::r,h=>by have h1:=h e (by simp);have h2:=qm f k r fun q hq=>h q (by simp[hq]);rw[List.flatMap_cons,List.length_append,List.length_cons,Nat.mul_succ];omega
theorem tF{d:ak}(h:Wf d):(cr d).length≤5000:=by
 have MU:=h.nv;have bB:=h.ne;have Lf:(an d.1).length≤80:=by rw[h.pd.length_eq,yy];omega
 have h1:=qm cQ 29 d.2 fun e he=>by have:=rG (h.ge e he).l;rw[rF];omega
 have h2:=qm (de (bg d.2 0)) 110 d.1 fun v hv=>by have:=rG (h.gv v hv).l;obtain⟨a,b,he⟩:=adt hv;rw[he,kP,fg]at Lf;unfold de;rw[List.length_append,rF,List.length_cons,List.length_map];simp at Lf ⊢;omega
 unfold cr;rw[List.length_cons,List.length_append,List.length_cons];omega
end Go.Vs
set_option autoImplicit false
namespace Go.Vs
open Go
theorem Mu{row:List ab}{x:ab}(h:x∈row):jF row x∈row:=by have hl:0<row.length:=List.length_pos_of_mem h;unfold jF dG;rw[if_pos h];have aN:((idx x row 0).toNat+(row.length-1))%row.length<row.length:=adJ _ hl;rw[List.getElem?_eq_getElem aN];exact acV aN
theorem Wf.md{d:ak}(h:Wf d){x:ab}(hx:x∈an d.1):kK x=true:=by obtain⟨e,he,h1,h2⟩:=eC.1 (h.pd.mem_iff.1 hx);unfold kK;rw[←h1,(h.ge e he).i,Bool.true_and];exact decide_eq_true h2
def bw(l:List ax):Prop:=∀g∈l,kK g.1=true∧(g.2=zD∨kK g.2=true)
theorem Wf.ah{d:ak}(h:Wf d){x:ab}(hx:x∈an d.1):dq d x=zD∨kK (dq d x)=true:=by
 obtain⟨v,hv,hm⟩:=aS.1 hx;rw[Hu h.rw hv hm];have h1:=Mu hm;have h2:=Mu h1
 split
 ·split
  ·exact .inl rfl
  ·exact .inr (h.md (aS.2 ⟨v,hv,h2⟩))
 ·exact .inr (h.md (aS.2 ⟨v,hv,h1⟩))
theorem bw.zero:bw []:=fun g hg=>by cases hg
theorem bw.add{l:List ax}(h:bw l){g:ax}(h1:kK g.1=true)(h2:g.2=zD∨kK g.2=true):bw (bT l g):=by
 unfold bT
 split
 ·exact h
 ·intro q hq;rcases yk hq with rfl|⟨k,_⟩
  ·exact⟨h1,h2⟩
  ·exact h q k
theorem HO{x:ID}(h:cd x=true){i:Int}(hi:i=0∨i=1):kK (x,i)=true:=by unfold kK;rw[h,Bool.true_and];exact decide_eq_true hi
theorem bw.one{s:StateT}(h:eZ s)(hg:bw s.2)(o:br):bw (kh s o).1.2:=by
 unfold kh
 split
 ·exact bw.zero
 split
 ·unfold oy
  split;· exact bw.zero
  split;· exact bw.zero
  exact hg
 split
 ·unfold vF
  split
  ·exact bw.zero
  ·split
   ·exact bw.zero
   ·exact hg
 split
 ·unfold ox
  split;· exact bw.zero
  split;· exact bw.zero
  split;· exact bw.zero
  split;· exact bw.zero
  split;· exact bw.zero
  exact hg
 split
 ·unfold Ec
  split;· exact bw.zero
  rename_i h1;have hs:=qd h1;have d0:=h.d.kU hs (s:=0) (.inl rfl);have d1:=h.d.kU hs (s:=1) (.inr rfl);exact(hg.add (h.d.md d0) (h.d.ah d0)).add (h.d.md d1) (h.d.ah d1)
 split
 ·unfold kM
  split;· exact bw.zero
  split;· exact bw.zero
  split;· exact bw.zero
  split;· exact bw.zero
  split;· exact bw.zero
  exact hg
 split
 ·unfold j6
  split
  ·exact bw.zero
  ·rename_i v hv
   split
   ·rename_i r0 r1 hr;have X4:=eQ hv;have m0:=h.d.md (aS.2 ⟨v,X4,by rw[hr];simp⟩:r0∈an s.1.1);have m1:=h.d.md (aS.2 ⟨v,X4,by rw[hr];simp⟩:r1∈an s.1.1);have key:∀a b:ab,kK a=true→kK b=true→bw (JG s.2 a b):=fun a b ha hb=>by
     have hi:cd b.1=true:=(Bool.and_eq_true _ _▸(show(cd b.1&&decide (b.2=0∨b.2=1))=true from hb)).1;have ht:∀i,oR a b i=zD∨kK (oR a b i)=true:=fun i=>by
      unfold oR;split
      ·exact .inr ha
      ·exact .inl rfl
     exact(hg.add (g:=((b.1,0),oR a b 0)) (HO hi (.inl rfl)) (ht 0)).add (g:=((b.1,1),oR a b 1)) (HO hi (.inr rfl)) (ht 1)
    unfold jg
    split;· exact bw.zero
    split
    ·exact key r1 r0 m1 m0
    split
    ·exact key r0 r1 m0 m1
    ·exact bw.zero
   ·exact bw.zero
 ·unfold wB
  split
  ·exact hg
  ·exact bw.zero
theorem bw.go:∀(l:List br) {s:StateT},eZ s→bw s.2→bw (Ed l s).1.2
 |[],_,_,h=>h
 |o::r,s,hw,h=>by
  unfold Ed
  split
  ·exact bw.zero
  ·exact bw.go r (hw.one o) (bw.one hw h o)
theorem bw.try{s:StateT}(hw:eZ s)(h:bw s.2)(l:List br):bw (hY s l).2:=by
 unfold hY
 split
 ·exact h
 ·unfold cZ
  split
  ·exact bw.zero
  ·exact bw.go l hw h
theorem bw.all:∀(l:List (List br)) {s:StateT},eZ s→bw s.2→bw (wM l s).2
 |[],_,_,h=>h
 |e::r,_,hw,h=>bw.all r (hw.try e) (bw.try hw h e)
theorem iX(n:Int):w8 n=n%256:=rfl
theorem HP(n:Int):0≤w8 n∧w8 n<256:=by rw[iX];omega
theorem Ox{x y:ID}(hx:cd x=true)(hy:cd y=true)(h:cy x=cy y):x=y:=by
 obtain⟨a,b⟩:=x;obtain⟨c,d⟩:=y;have hx:1≤a∧a≤8∧1≤b∧b≤1048576:=of_decide_eq_true hx;have hy:1≤c∧c≤8∧1≤d∧d≤1048576:=of_decide_eq_true hy;have h:[a%256,(b.fdiv 65536)%256,(b.fdiv 256)%256,b%256]=[c%256,(d.fdiv 65536)%256,(d.fdiv 256)%256,d%256]:=h;simp only[Int.fdiv_eq_ediv_of_nonneg _ (show(0:Int)≤65536 by decide),Int.fdiv_eq_ediv_of_nonneg _ (show(0:Int)≤256 by decide),List.cons.injEq,and_true]at h;have h1:a=c:=by omega
 have h2:b=d:=by omega
 rw[h1,h2]
theorem Jw(n:Int):eX n=[(n%18446744073709551616) / 72057594037927936%256,(n%18446744073709551616) / 281474976710656%256,(n%18446744073709551616) / 1099511627776%256,(n%18446744073709551616) / 4294967296%256,(n%18446744073709551616) / 16777216%256,(n%18446744073709551616) / 65536%256,(n%18446744073709551616) / 256%256,n%18446744073709551616%256]:=by have e:∀k:Int,0≤k→Int.fdiv (n%18446744073709551616) k=(n%18446744073709551616) / k:=fun k hk=>Int.fdiv_eq_ediv_of_nonneg _ hk;have h:eX n=[Int.fdiv (n%18446744073709551616) 72057594037927936%256,Int.fdiv (n%18446744073709551616) 281474976710656%256,Int.fdiv (n%18446744073709551616) 1099511627776%256,Int.fdiv (n%18446744073709551616) 4294967296%256,Int.fdiv (n%18446744073709551616) 16777216%256,Int.fdiv (n%18446744073709551616) 65536%256,Int.fdiv (n%18446744073709551616) 256%256,Int.fdiv (n%18446744073709551616) 1%256]:=rfl;rw[h,e _ (by decide),e _ (by decide),e _ (by decide),e _ (by decide),e _ (by decide),e _ (by decide),e _ (by decide),e _ (by decide),Int.ediv_one]
theorem Ak(N:Int)(h0:0≤N)(h1:N<18446744073709551616):(((((((N / 72057594037927936%256*256+N / 281474976710656%256)*256+N / 1099511627776%256)*256+N / 4294967296%256)*256+N / 16777216%256)*256+N / 65536%256)*256+N / 256%256)*256+N%256)=N:=by omega
theorem Mv{m n:Int}(hm : -9223372036854775808≤m∧m<9223372036854775808)(hn : -9223372036854775808≤n∧n<9223372036854775808)(h:eX m=eX n):m=n:=by rw[Jw,Jw]at h;simp only[List.cons.injEq,and_true]at h;have a:=Ak (m%18446744073709551616) (by omega) (by omega);have b:=Ak (n%18446744073709551616) (by omega) (by omega);obtain⟨h1,h2,h3,h4,h5,h6,h7,h8⟩:=h;rw[h1,h2,h3,h4,h5,h6,h7,h8,b]at a;omega
theorem Bi{s t:ByteArray}(h:bytesOf s=bytesOf t):s=t:=by unfold bytesOf at h;have:=List.map_inj_right (f:=fun b:UInt8=>(b.toNat:Int)) (fun a b zH=>UInt8.toNat_inj.1 (by exact_mod_cast zH)) |>.1 h;obtain⟨⟨l⟩⟩:=s;obtain⟨⟨m⟩⟩:=t;simp only at this;rw[this]
theorem oF{α:Type}{a b c d:List α}(hl:a.length=c.length)(h:a++b=c++d):a=c∧b=d:=List.append_inj h hl
theorem SQ{s t:ByteArray}{r q:List Int}(hs:s.size≤16)(ht:t.size≤16)(h:nK s++r=nK t++q):s=t∧r=q:=by
 unfold nK at h;simp only[List.cons_append,List.cons.injEq]at h;obtain⟨h1,h2⟩:=h;have hz:s.size=t.size:=by rw[iX,iX]at h1;omega
 obtain⟨h3,h4⟩:=oF (by rw[jL,jL,hz]) h2;exact⟨Bi h3,h4⟩
structure SR(e:ag):Prop where
 i:cd e.1=true
 l:kL e.2.1=true
 a:jM e.2.2=true
theorem GE.th{e:ag}(h:GE e):SR e:=⟨h.i,h.l,h.a⟩
theorem GV.th{v:ai}(h:GV v):SR (v.1,v.2.2):=⟨h.i,h.l,h.a⟩
theorem E0{e f:ag}{r q:List Int}(he:SR e)(hf:SR f)(h:cQ e++r=cQ f++q):e=f∧r=q:=by unfold cQ at h;simp only[List.append_assoc]at h;obtain⟨h1,h2⟩:=oF (by rfl) h;obtain⟨h3,h4⟩:=SQ (rG he.l) (rG hf.l) h2;obtain⟨h5,h6⟩:=oF (by rw[dv,dv]) h4;have a:=he.a;have b:=hf.a;unfold jM at a b;have a:=of_decide_eq_true a;have b:=of_decide_eq_true b;have h7:=Mv (by omega) (by omega) h5;refine⟨?_,h6⟩;obtain⟨e1,e2,e3⟩:=e;obtain⟨f1,f2,f3⟩:=f;have:=Ox he.i hf.i h1;simp only at this h3 h7;rw[this,h3,h7]
theorem E1{α:Type}(f:α→List Int)(P:α→Prop)(hf:∀a b r q,P a→P b→f a++r=f b++q→a=b∧r=q):∀(l m:List α) (r q:List Int),l.length=m.length→(∀a∈l,P a)→(∀a∈m,P a)→l.flatMap f++r=m.flatMap f++q→l=m∧r=q
 |[],[],r,q,_,_,_,h=>⟨rfl,h⟩
 |a::l,b::m,r,q,hl,h1,h2,h=>by simp only[List.flatMap_cons,List.append_assoc]at h;obtain⟨e1,e2⟩:=hf a b _ _ (h1 a (by simp)) (h2 b (by simp)) h;obtain⟨e3,e4⟩:=E1 f P hf l m r q (by simpa using hl) (fun a ha=>h1 a (by simp[ha])) (fun a ha=>h2 a (by simp[ha])) e2;exact⟨by rw[e1,e3],e4⟩
 |[],_::_,_,_,hl,_,_,_=>by simp at hl
 |_::_,[],_,_,hl,_,_,_=>by simp at hl
theorem E2(x:ID):∀(l:List ag) (i:Nat),fM fZ x (bg l i)=(l.findIdx? fun e=>decide (e.1=x)).map fun j=>((i+j:Nat):Int)
 |[],i=>by unfold fM;rw[Ow];rfl
 |e::r,i=>by
  have ih:=E2 x r (i+1);unfold fM at ih ⊢;rw[Ow]at ih ⊢;rw[bg,List.findIdx?_cons,List.findIdx?_cons];by_cases h:e.1=x
  ·simp only[h,decide_true,if_true];rfl
  ·simp only[decide_eq_false h];have e2:(r.findIdx? fun e=>decide (e.1=x)).map (fun j=>((i+1+j:Nat):Int))=((r.findIdx? fun e=>decide (e.1=x)).map (·+1)).map fun j=>((i+j:Nat):Int):=by rw[Option.map_map];congr 1;funext j;show((i+1+j:Nat):Int)=((i+(j+1):Nat):Int);congr 1;omega
   refine Eq.trans ?_ e2
   cases h2:(bg r (i+1)).findIdx? fun e=>decide (e.1=x)<;>rw[h2]at ih
   ·exact ih
   ·exact ih
def E3(l:List ag)(x:ID):Int:=match l.findIdx? fun e=>decide (e.1=x) with|some j=>(j:Int)|none=>0
theorem SS(l:List ag)(x:ID):Option.getD (fM fZ x (bg l 0)) (0:Int)=E3 l x:=by
 rw[E2];unfold E3
 split
 ·rename_i j h;rw[h];simp
 ·rename_i h;rw[h];rfl
theorem SU{l:List ag}{x:ID}(h:∃e∈l,e.1=x):∃j,E3 l x=((j:Nat):Int)∧∃hj:j<l.length,l[j].1=x:=by
 obtain⟨e,he,h1⟩:=h;unfold E3
 cases h2:l.findIdx? fun e=>decide (e.1=x) with
 |none=>rw[List.findIdx?_eq_none_iff]at h2;have:=h2 e he;simp[h1]at this
 |some j =>obtain⟨h3,h4,_⟩:=adM.1 h2;exact⟨j,rfl,h3,of_decide_eq_true h4⟩
theorem E4{l:List ag}(hl:l.length≤40){y:ab}(hy:y∈ends l):∃j:Nat,oE (bg l 0) y=(j:Int)+128*y.2∧(y.2=0∨y.2=1)∧E3 l y.1=(j:Int)∧∃hj:j<l.length,l[j].1=y.1:=by obtain⟨e,he,h1,h2⟩:=eC.1 hy;obtain⟨j,h3,h4,h5⟩:=SU ⟨e,he,h1⟩;refine⟨j,?_,h2,h3,h4,h5⟩;unfold oE;rw[SS,h3,iX];rw[show wI ((128:Int)*y.2)=128*y.2 from wrap_small (by omega) (by omega),show wI ((j:Int)+128*y.2)=(j:Int)+128*y.2 from wrap_small (by omega) (by omega)];omega
theorem SV{l:List ag}(hl:l.length≤40){y z:ab}(hy:y∈ends l)(hz:z∈ends l)(h:oE (bg l 0) y=oE (bg l 0) z):y=z:=by
 obtain⟨j,e1,s1,_,j1,k1⟩:=E4 hl hy;obtain⟨i,e2,s2,_,j2,k2⟩:=E4 hl hz;rw[e1,e2]at h;have hj:j=i:=by omega
 subst hj;obtain⟨a,b⟩:=y;obtain⟨c,d⟩:=z;simp only at *;have:b=d:=by omega
 rw[←k1,←k2,this]
structure ZR(l:List ag)(v:ai):Prop where
 g:GV v
 n:v.2.1.length≤80
 m:∀x∈v.2.1,x∈ends l
theorem E5{α β:Type}{f:α→β}:∀{l m:List α},(∀a∈l,∀b∈m,f a=f b→a=b)→l.map f=m.map f→l=m
 |[],[],_,_=>rfl
 |a::l,b::m,hf,h=>by simp only[List.map_cons,List.cons.injEq]at h;rw[hf a (by simp) b (by simp) h.1,E5 (fun x hx y hy=>hf x (by simp[hx]) y (by simp[hy])) h.2]
 |[],_::_,_,h=>by simp at h
 |_::_,[],_,h=>by simp at h
theorem SW{l:List ag}(hl:l.length≤40)(v w:ai)(r q:List Int)(hv:ZR l v)(hw:ZR l w)(h:de (bg l 0) v++r=de (bg l 0) w++q):v=w∧r=q:=by
 unfold de at h;simp only[List.append_assoc,List.cons_append]at h;obtain⟨h1,h2⟩:=E0 hv.g.th hw.g.th h;obtain⟨h3,h4⟩:=adI h2;have a:=hv.n;have b:=hw.n;have hn:v.2.1.length=w.2.1.length:=by rw[iX,iX]at h3;omega
 obtain⟨h5,h6⟩:=oF (by rw[List.length_map,List.length_map,hn]) h4;have h7:=E5 (fun x hx y hy=>SV hl (hv.m x hx) (hw.m y hy)) h5;refine⟨?_,h6⟩;obtain⟨v1,v2,v3⟩:=v;obtain⟨w1,w2,w3⟩:=w;simp only[Prod.mk.injEq]at h1 h7 ⊢;exact⟨h1.1,h7,h1.2⟩
theorem Wf.vt{d:ak}(h:Wf d):∀v∈d.1,ZR d.2 v:=fun v hv=>⟨h.gv v hv,h.rv v hv,fun x hx=>h.pd.mem_iff.1 (aS.2 ⟨v,hv,hx⟩)⟩
theorem XA{d c:ak}(hd:Wf d)(hc:Wf c){r q:List Int}(h:cr d++r=cr c++q):d=c∧r=q:=by
 unfold cr at h;simp only[List.cons_append,List.append_assoc]at h;obtain⟨h1,h2⟩:=adI h;have a:=hd.ne;have b:=hc.ne;have he:d.2.length=c.2.length:=by rw[iX,iX]at h1;omega
 obtain⟨h3,h4⟩:=E1 cQ SR (fun _ _ _ _=>E0) d.2 c.2 _ _ he (fun e k=>(hd.ge e k).th) (fun e k=>(hc.ge e k).th) h2;obtain⟨h5,h6⟩:=adI h4;have a2:=hd.nv;have b2:=hc.nv;have hv:d.1.length=c.1.length:=by rw[iX,iX]at h5;omega
 have hcv:=hc.vt;rw[←h3]at h6 hcv;obtain⟨h7,h8⟩:=E1 (de (bg d.2 0)) (ZR d.2) (SW hd.ne) d.1 c.1 _ _ hv hd.vt hcv h6;exact⟨Prod.ext h7 h3,h8⟩
theorem E6{x y:ID}(hx:0≤x.1∧x.1≤8∧0≤x.2∧x.2≤1048576)(hy:0≤y.1∧y.1≤8∧0≤y.2∧y.2≤1048576)(h:cy x=cy y):x=y:=by
 obtain⟨a,b⟩:=x;obtain⟨c,d⟩:=y;have h:[a%256,(b.fdiv 65536)%256,(b.fdiv 256)%256,b%256]=[c%256,(d.fdiv 65536)%256,(d.fdiv 256)%256,d%256]:=h;simp only[Int.fdiv_eq_ediv_of_nonneg _ (show(0:Int)≤65536 by decide),Int.fdiv_eq_ediv_of_nonneg _ (show(0:Int)≤256 by decide),List.cons.injEq,and_true]at h;simp only at hx hy;have h1:a=c:=by omega
 have h2:b=d:=by omega
 rw[h1,h2]
theorem fY{x:ab}(h:x=zD∨kK x=true):(0≤x.1.1∧x.1.1≤8∧0≤x.1.2∧x.1.2≤1048576)∧(0≤x.2∧x.2≤1):=by
 rcases h with rfl|h
 ·exact⟨by decide,by decide⟩
 ·obtain⟨h1,h2⟩:=(Bool.and_eq_true _ _▸(show(cd x.1&&decide (x.2=0∨x.2=1))=true from h));have h1:1≤x.1.1∧x.1.1≤8∧1≤x.1.2∧x.1.2≤1048576:=of_decide_eq_true h1;have h2:=of_decide_eq_true h2;omega
def db(l:List Int):Prop:=∀c∈l,0≤c∧c<256
theorem Mw:∀(l:List Int) (r:ByteArray),db l→bytesOf (l.foldl (fun r n=>r.push (UInt8.ofNat n.toNat)) r)=bytesOf r++l
 |[],r,_=>by simp
 |c::l,r,h=>by
  rw[List.foldl_cons,Mw l _ (fun x hx=>h x (by simp[hx]))];have hc:=h c (by simp);have e:bytesOf (r.push (UInt8.ofNat c.toNat))=bytesOf r++[c]:=by
   unfold bytesOf;show((r.data.push _).toList).map _=_;rw[Array.toList_push,List.map_append];congr 1;have h1:((UInt8.ofNat c.toNat).toNat:Int)=c:=by
    rw[UInt8.toNat_ofNat'];have:c.toNat<256:=by omega
    rw[Nat.mod_eq_of_lt (by simpa using this)];omega
   simp only[List.map_cons,List.map_nil,h1]
  rw[e,List.append_assoc];rfl
theorem Al{l:List Int}(h:db l):bytesOf (strOf l)=l:=by have:=Mw l ByteArray.empty h;exact this
theorem SX{a b:List Int}(ha:db a)(hb:db b):(strOf a==strOf b)=decide (a=b):=by
 rw[YU];by_cases h:a=b
 ·rw[decide_eq_true h,decide_eq_true (by rw[h])]
 ·rw[decide_eq_false h,decide_eq_false fun k=>h (by rw[←Al ha,←Al hb,k])]
theorem db.app{a b:List Int}(ha:db a)(hb:db b):db (a++b):=fun c hc=>(ab6.1 hc).elim (ha c) (hb c)
theorem db.cons{n:Int}{b:List Int}(hb:db b):db (w8 n::b):=fun c hc=>by
 rcases abD.1 hc with rfl|hc
 ·exact HP n
 ·exact hb c hc
theorem db.nil:db []:=fun c hc=>by cases hc
theorem db.flat{α:Type}{f:α→List Int}(hf:∀a,db (f a))(l:List α):db (l.flatMap f):=fun c hc=>by obtain⟨a,_,h⟩:=List.mem_flatMap.1 hc;exact hf a c h
theorem db.cy(x:ID):db (cy x):=db.nil.cons.cons.cons.cons
theorem db.eX(n:Int):db (eX n):=fun c hc=>by obtain⟨i,_,rfl⟩:=acn.1 hc;exact HP _
theorem db.bytesOf(s:ByteArray):db (bytesOf s):=fun c hc=>by obtain⟨i,_,rfl⟩:=acn.1 hc;have:=i.toNat_lt;omega
theorem db.XB(e:ag):db (cQ e):=(db.cy _).app ((db.bytesOf _).cons.app (db.eX _))
theorem db.ED(pl:List (ID×Int))(v:ai):db (de pl v):=(db.XB _).app (db.cons fun c hc=>by obtain⟨i,_,rfl⟩:=acn.1 hc;exact HP _)
theorem db.cr(d:ak):db (cr d):=((db.flat db.XB _).app (db.flat (db.ED _) _).cons).cons
theorem db.gone(g:ax):db (abj g):=(db.cy _).app ((db.cy _).app db.nil.cons).cons
theorem db.state(s:StateT):db (adh s):=(db.cr _).app (db.flat db.gone _)
end Go.Vs
set_option autoImplicit false
namespace Go.Vs
open Go
theorem XC(x c:Nat)(hc:c<256):x*256 ||| c=x*256+c:=by have:=Nat.shiftLeft_add_eq_or_of_lt (i:=8) (b:=c) (by simpa using hc) x;rw[Nat.shiftLeft_eq]at this;exact this.symm
theorem tG{n:Int}(h0:0≤n)(h1:n<18446744073709551616):IntKind.wrap .u64 n=n:=by show n%18446744073709551616=n;omega
theorem anE(x c:Int)(h0:0≤x)(h1:x<72057594037927936)(hc:0≤c∧c<256):cH .or .u64 (Bl .u64 x 8) c=x*256+c:=by
 obtain⟨n,rfl⟩:∃n:Nat,x=(n:Int):=⟨x.toNat,by omega⟩;obtain⟨m,rfl⟩:∃n:Nat,c=(n:Int):=⟨c.toNat,by omega⟩;have e:Bl .u64 (n:Int) 8=((n*256:Nat):Int):=by unfold Bl;rw[show(2:Int) ^ (min (Int.toNat 8) (IntKind.bits .u64))=256 from rfl,tG (by omega) (by omega)];omega
 rw[e];unfold cH;simp only[BitVec.ofInt_natCast,BitVec.toNat_or,BitVec.toNat_ofNat];rw[show(2:Nat) ^ IntKind.bits .u64=18446744073709551616 from rfl,Nat.mod_eq_of_lt (by omega),Nat.mod_eq_of_lt (by omega),XC _ _ (by omega),tG (by omega) (by omega)];omega
theorem anF(x c:Int)(h0:0≤x)(h1:x<36028797018963968)(hc:0≤c∧c<256):cH .or .i64 (Bl .i64 x 8) c=x*256+c:=by
 obtain⟨n,rfl⟩:∃n:Nat,x=(n:Int):=⟨x.toNat,by omega⟩;obtain⟨m,rfl⟩:∃n:Nat,c=(n:Int):=⟨c.toNat,by omega⟩;have e:Bl .i64 (n:Int) 8=((n*256:Nat):Int):=by unfold Bl;rw[show(2:Int) ^ (min (Int.toNat 8) (IntKind.bits .i64))=256 from rfl,wrap_small (by omega) (by omega)];omega
 rw[e];unfold cH;simp only[BitVec.ofInt_natCast,BitVec.toNat_or,BitVec.toNat_ofNat];rw[show(2:Nat) ^ IntKind.bits .i64=18446744073709551616 from rfl,Nat.mod_eq_of_lt (by omega),Nat.mod_eq_of_lt (by omega),XC _ _ (by omega),wrap_small (by omega) (by omega)];omega
def Bj(l:List Int)(x:Int):Int:=l.foldl (fun x c=>x*256+c) x
def E7(b:List Int):ID×(List Int×(Bool×Unit)) :=if 4≤b.length∧cd (b.headD 0,Bj ((b.drop 1).take 3) 0)=true then((b.headD 0,Bj ((b.drop 1).take 3) 0),(b.drop 4,(true,()))) else(zI,(b,(false,())))
def takeN(b:List Int):Int×(List Int×(Bool×Unit)) :=if 8≤b.length then(IntKind.wrap .i64 (Bj (b.take 8) 0),(b.drop 8,(true,()))) else(0,(b,(false,())))
def Bk(b:List Int):ByteArray×(List Int×(Bool×Unit)):=match b with
 |[]=>(e0,([],(false,())))
 |c::r=>if c≤((r.length:Nat):Int) then(strOf (r.take c.toNat),(r.drop c.toNat,(true,()))) else(e0,(b,(false,())))
theorem Am{x:ID}(h:cd x=true)(r:List Int):E7 (cy x++r)=(x,(r,(true,()))):=by
 obtain⟨a,b⟩:=x;have hx:1≤a∧a≤8∧1≤b∧b≤1048576:=of_decide_eq_true h;have e:cy (a,b)++r=[a%256,(b.fdiv 65536)%256,(b.fdiv 256)%256,b%256]++r:=rfl;rw[e,Int.fdiv_eq_ediv_of_nonneg _ (show(0:Int)≤65536 by decide),Int.fdiv_eq_ediv_of_nonneg _ (show(0:Int)≤256 by decide)];have e1:a%256=a:=by omega
 have e2:Bj [b / 65536%256,b / 256%256,b%256] 0=b:=by show((0*256+b / 65536%256)*256+b / 256%256)*256+b%256=b;omega
 unfold E7;show(if 4≤(r.length+4)∧cd (a%256,Bj [b / 65536%256,b / 256%256,b%256] 0)=true then((a%256,Bj [b / 65536%256,b / 256%256,b%256] 0),(r,(true,()))) else _)=_;rw[e1,e2,if_pos ⟨by omega,h⟩]
theorem XD{n:Int}(h : -9223372036854775808≤n∧n<9223372036854775808):IntKind.wrap .i64 (n%18446744073709551616)=n:=by unfold IntKind.wrap;simp[IntKind.bits,IntKind.signed];omega
theorem qn{n:Int}(h : -9223372036854775808≤n∧n<9223372036854775808)(r:List Int):takeN (eX n++r)=(n,(r,(true,()))):=by
 have hb:=Ak (n%18446744073709551616) (by omega) (by omega);unfold takeN;rw[if_pos (by rw[List.length_append,dv];omega),List.take_left' (dv n),List.drop_left' (dv n)];have e:Bj (eX n) 0=n%18446744073709551616:=by rw[Jw];refine Eq.trans ?_ hb;show(((((((0*256+_)*256+_)*256+_)*256+_)*256+_)*256+_)*256+_)*256+_=_;rw[Int.zero_mul,Int.zero_add]
 rw[e];rw[XD h]
theorem Oy{s:ByteArray}(h:s.size≤255)(r:List Int):Bk (nK s++r)=(s,(r,(true,()))):=by
 unfold nK Bk;simp only[List.cons_append];have e:w8 ((s.size:Nat):Int)=(s.size:Int):=by rw[iX];omega
 rw[e,if_pos (by rw[List.length_append,jL];omega),Int.toNat_natCast,List.take_left' (jL s),List.drop_left' (jL s)];have h2:strOf (bytesOf s)=s:=Bi (Al (db.bytesOf s));rw[h2]
def aY(g:ax):List Int:=cy g.1.1++(w8 g.1.2::(if g.2=zD then[0] else w8 (g.2.2+1)::cy g.2.1))
def dI(n:Int)(s:StateT):List Int:=eX n++(eX (((cr s.1).length:Nat):Int)++(cr s.1++s.2.flatMap aY))
theorem SY(g k:ax)(r q:List Int)(hg:kK g.1=true∧(g.2=zD∨kK g.2=true))(hk:kK k.1=true∧(k.2=zD∨kK k.2=true))(h:aY g++r=aY k++q):g=k∧r=q:=by
 unfold aY at h;simp only[List.append_assoc,List.cons_append]at h;obtain⟨a1,a2⟩:=fY (.inr hg.1);obtain⟨a3,a4⟩:=fY hg.2;obtain⟨b1,b2⟩:=fY (.inr hk.1);obtain⟨b3,b4⟩:=fY hk.2;obtain⟨h1,h2⟩:=oF (show(cy g.1.1).length=(cy k.1.1).length from rfl) h;obtain⟨h3,h4⟩:=adI h2;rw[iX,iX]at h3;have e1:g.1=k.1:=Prod.ext (E6 a1 b1 h1) (by omega);by_cases c1:g.2=zD<;>by_cases c2:k.2=zD
 ·rw[if_pos c1,if_pos c2]at h4;exact⟨Prod.ext e1 (c1.trans c2.symm),(adI h4).2⟩
 ·rw[if_pos c1,if_neg c2]at h4;have:=(adI h4).1;rw[iX]at this;omega
 ·rw[if_neg c1,if_pos c2]at h4;have:=(adI h4).1;rw[iX]at this;omega
 ·rw[if_neg c1,if_neg c2]at h4;simp only[List.cons_append]at h4;obtain⟨h5,h6⟩:=adI h4;rw[iX,iX]at h5;obtain⟨h7,h8⟩:=oF (show(cy g.2.1).length=(cy k.2.1).length from rfl) h6;exact⟨Prod.ext e1 (Prod.ext (E6 a3 b3 h7) (by omega)),h8⟩
theorem Ao(g:ax):1≤(aY g).length:=by unfold aY;split<;>simp[cy]
theorem Mx{α:Type}(f:α→List Int)(P:α→Prop)(hf:∀a b r q,P a→P b→f a++r=f b++q→a=b∧r=q)(hp:∀a,1≤(f a).length):∀(l m:List α),(∀a∈l,P a)→(∀a∈m,P a)→l.flatMap f=m.flatMap f→l=m
 |[],[],_,_,_=>rfl
 |a::l,b::m,h1,h2,h=>by simp only[List.flatMap_cons]at h;obtain⟨e1,e2⟩:=hf a b _ _ (h1 a (by simp)) (h2 b (by simp)) h;rw[e1,Mx f P hf hp l m (fun a ha=>h1 a (by simp[ha])) (fun a ha=>h2 a (by simp[ha])) e2]
 |[],b::m,_,_,h=>by
  have e:(f b++m.flatMap f).length=0:=by rw[←List.flatMap_cons,←h];rfl
  rw[List.length_append]at e;have:=hp b;omega
 |a::l,[],_,_,h=>by
  have e:(f a++l.flatMap f).length=0:=by rw[←List.flatMap_cons,h];rfl
  rw[List.length_append]at e;have:=hp a;omega
theorem SZ{n m:Int}{a b:StateT}(hn:0≤n∧n≤1073741824)(hm:0≤m∧m≤1073741824)(ha:eZ a)(hb:eZ b)(ga:bw a.2)(gb:bw b.2)(h:dI n a=dI m b):n=m∧a=b:=by unfold dI at h;obtain⟨h1,h2⟩:=oF (by rw[dv,dv]) h;obtain⟨h3,h4⟩:=oF (by rw[dv,dv]) h2;obtain⟨h5,h6⟩:=XA ha.d hb.d h4;exact⟨Mv (by omega) (by omega) h1,Prod.ext h5 (Mx aY _ SY Ao a.2 b.2 ga gb h6)⟩
theorem db.aY(g:ax):db (aY g):=by
 unfold Go.Vs.aY;refine(db.cy _).app (db.cons ?_)
 split
 ·intro c hc;rw[List.mem_singleton.1 hc];omega
 ·exact(db.cy _).cons
theorem db.snap(n:Int)(s:StateT):db (dI n s):=(db.eX _).app ((db.eX _).app ((db.cr _).app (db.flat db.aY _)))
theorem uZ(g:ax):(aY g).length≤10:=by unfold aY;split<;>simp[cy]
end Go.Vs
set_option autoImplicit false
namespace Go.Vs
open Go Go.Proofs
variable {G:(f:FuncId)→(g:aO)→Option (g.A→Option g.B)}
theorem u5{c:Int}(h:0≤c∧c<256):wI c=c:=wrap_small (by omega) (by omega)
theorem qo{α:Type}(l:List α)(k:Nat):cut l (k:Int) (((l.length:Nat)):Int)=l.drop k:=by unfold cut;rw[List.take_of_length_le (by omega)];rfl
theorem four{b:List Int}(h:4≤b.length):∃c0 c1 c2 c3 r,b=c0::c1::c2::c3::r:=by
 match b,h with
 |c0::c1::c2::c3::r,_=>exact⟨c0,c1,c2,c3,r,rfl⟩
theorem Qy(hG:HG G)(b:List Int)(hb:b.length≤1000000)(hy:db b):FX G 79 np ((b,()),())=some (E7 b,()):=by
 refine av (hG _ _ rfl) ah5 ?_;by_cases h4:4≤b.length
 ·obtain⟨c0,c1,c2,c3,r,rfl⟩:=four h4;have y0:=hy c0 (by simp);have y1:=hy c1 (by simp);have y2:=hy c2 (by simp);have y3:=hy c3 (by simp);have hl:(c0::c1::c2::c3::r).length=r.length+4:=rfl;refine af (decide_eq_false (show ¬((((c0::c1::c2::c3::r).length:Nat):Int)<4) by omega)) (aa (aB (i:=0) rfl) (ae (show az (c0::c1::c2::c3::r).length 1 4=true by simp[az];omega) ?_));have step:∀(k:Nat) (N c:Int),k<3→([c1,c2,c3]:List Int)[k]? = some c→0≤N→N<4294967296→(0≤c∧c<256)→∀{z},LX G 79 np Tryz.f79 ov (aK Tryz.prog 79 0) ((c0::c1::c2::c3::r,([c1,c2,c3],((3:Int),(((k+1:Nat):Int),())))),(((OI,()),(((c0,N*256+c),()),())),()))=some z → LX G 79 np Tryz.f79 ov (aK Tryz.prog 79 0) ((c0::c1::c2::c3::r,([c1,c2,c3],((3:Int),((k:Int),())))),(((OI,()),(((c0,N),()),())),()))=some z:=fun k N c hk hc h0 h1 hcb z hz=>by
   refine ar Qt (ae (decide_eq_true (show(k:Int)<3 by omega)) (aa (aB hc) (af rfl ?_)));have e1:wI ((k:Int)+1)=((k+1:Nat):Int):=aD (n:=3) hk (by omega);have e2:cH .or .i64 (Bl .i64 N 8) (wI c)=N*256+c:=by rw[u5 hcb];exact anF N c h0 (by omega) hcb
   exact(congr (congrArg (fun(i:Int) (M:Int)=>LX G 79 np Tryz.f79 ov (aK Tryz.prog 79 0) ((c0::c1::c2::c3::r,([c1,c2,c3],((3:Int),(i,())))),(((OI,()),(((c0,M),()),())),()))) e1) e2).trans hz
  have ew:=u5 y0;refine(congrArg (fun q:Int=>LX G 79 np Tryz.f79 ov (aK Tryz.prog 79 0) ((c0::c1::c2::c3::r,([c1,c2,c3],((3:Int),((0:Int),())))),(((OI,()),((((q,(0:Int)):ID),()),())),()))) ew).trans ?_;refine step 0 0 c1 (by omega) rfl (by omega) (by omega) y1 (step 1 _ c2 (by omega) rfl (by omega) (by omega) y2 (step 2 _ c3 (by omega) rfl (by omega) (by omega) y3 ?_));refine ar Qt (af rfl (aa (LG (hG _ _ rfl) _) ?_));unfold E7;by_cases hm:cd (c0,((0*256+c1)*256+c2)*256+c3)=true
  ·refine af (show(!(cd (c0,((0*256+c1)*256+c2)*256+c3)))=false by rw[hm];rfl) (ae (show az (c0::c1::c2::c3::r).length 4 (((c0::c1::c2::c3::r).length:Nat):Int)=true by simp[az];omega) ?_);rw[if_pos ⟨h4,hm⟩];exact congrArg (fun q:List Int=>some ((((c0,((0*256+c1)*256+c2)*256+c3):ID),(q,(true,()))),())) (qo (c0::c1::c2::c3::r) 4)
  ·refine ae (show(!(cd (c0,((0*256+c1)*256+c2)*256+c3)))=true by rw[Bool.eq_false_iff.2 hm];rfl) ?_;rw[if_neg fun k=>hm k.2];rfl
 ·refine ae (decide_eq_true (show(((b.length:Nat):Int)<4) by omega)) ?_;unfold E7;rw[if_neg fun k=>h4 k.1];rfl
theorem eight{b:List Int}(h:8≤b.length):∃c0 c1 c2 c3 c4 c5 c6 c7 r,b=c0::c1::c2::c3::c4::c5::c6::c7::r:=by
 match b,h with
 |c0::c1::c2::c3::c4::c5::c6::c7::r,_=>exact⟨c0,c1,c2,c3,c4,c5,c6,c7,r,rfl⟩
theorem My(hG:HG G)(b:List Int)(hb:b.length≤1000000)(hy:db b):FX G 53 pT ((b,()),())=some (takeN b,()):=by
 refine av (hG _ _ rfl) ah0 ?_;unfold takeN;by_cases h8:8≤b.length
 ·rw[if_pos h8];obtain⟨c0,c1,c2,c3,c4,c5,c6,c7,r,hbr⟩:=eight h8;have hc:∀c∈[c0,c1,c2,c3,c4,c5,c6,c7],0≤c∧c<256:=fun c hc=>hy c (by rw[hbr];simp at hc ⊢;omega);have y0:=hc c0 (by simp);have y1:=hc c1 (by simp);have y2:=hc c2 (by simp);have y3:=hc c3 (by simp);have y4:=hc c4 (by simp);have y5:=hc c5 (by simp);have y6:=hc c6 (by simp);have y7:=hc c7 (by simp);have ec:cut b 0 8=[c0,c1,c2,c3,c4,c5,c6,c7]:=by rw[hbr];rfl
  have et:b.take 8=[c0,c1,c2,c3,c4,c5,c6,c7]:=by rw[hbr];rfl
  refine af (decide_eq_false (show ¬(((b.length:Nat):Int)<8) by omega)) (ae (show az b.length 0 8=true by simp[az];omega) ?_);have step:∀(k:Nat) (N c:Int),k<8→([c0,c1,c2,c3,c4,c5,c6,c7]:List Int)[k]? = some c→0≤N→N<72057594037927936→(0≤c∧c<256)→∀{z},LX G 53 pT Tryz.f53 ot (aK Tryz.prog 53 0) ((b,(N*256+c,([c0,c1,c2,c3,c4,c5,c6,c7],((8:Int),(((k+1:Nat):Int),()))))),((),()))=some z → LX G 53 pT Tryz.f53 ot (aK Tryz.prog 53 0) ((b,(N,([c0,c1,c2,c3,c4,c5,c6,c7],((8:Int),((k:Int),()))))),((),()))=some z:=fun k N c hk hc h0 h1 hcb z hz=>by
   refine ar Qp (ae (decide_eq_true (show(k:Int)<8 by omega)) (aa (aB hc) (af rfl ?_)));have e1:wI ((k:Int)+1)=((k+1:Nat):Int):=aD (n:=8) hk (by omega);have e2:cH .or .u64 (Bl .u64 N 8) (IntKind.wrap .u64 c)=N*256+c:=by rw[tG (by omega) (by omega)];exact anE N c h0 h1 hcb
   exact(congr (congrArg (fun(i:Int) (M:Int)=>LX G 53 pT Tryz.f53 ot (aK Tryz.prog 53 0) ((b,(M,([c0,c1,c2,c3,c4,c5,c6,c7],((8:Int),(i,()))))),((),()))) e1) e2).trans hz
  refine(congrArg (fun q:List Int=>LX G 53 pT Tryz.f53 ot (aK Tryz.prog 53 0) ((b,((0:Int),(q,((lI q),((0:Int),()))))),((),()))) ec).trans ?_;refine step 0 0 c0 (by omega) rfl (by omega) (by omega) y0 (step 1 _ c1 (by omega) rfl (by omega) (by omega) y1 (step 2 _ c2 (by omega) rfl (by omega) (by omega) y2 (step 3 _ c3 (by omega) rfl (by omega) (by omega) y3 (step 4 _ c4 (by omega) rfl (by omega) (by omega) y4 (step 5 _ c5 (by omega) rfl (by omega) (by omega) y5 (step 6 _ c6 (by omega) rfl (by omega) (by omega) y6 (step 7 _ c7 (by omega) rfl (by omega) (by omega) y7 ?_)))))));refine ar Qp (af rfl (ae (show az b.length 8 (((b.length:Nat)):Int)=true by simp[az];omega) ?_));rw[et];exact congrArg (fun q:List Int=>some ((wI (Bj [c0,c1,c2,c3,c4,c5,c6,c7] 0),(q,(true,()))),())) (qo b 8)
 ·rw[if_neg h8];exact ae (decide_eq_true (show(((b.length:Nat):Int)<8) by omega)) rfl
def qp(b:List Int):List Int×(List Int×(Bool×Unit)):=match b with
 |[]=>([],([],(false,())))
 |c::r=>if c≤((r.length:Nat):Int) then(r.take c.toNat,(r.drop c.toNat,(true,()))) else([],(c::r,(false,())))
theorem abl(hG:HG G)(b:List Int)(hb:b.length≤1000000)(hy:db b):FX G 78 G8 ((b,()),())=some (qp b,()):=by
 refine av (hG _ _ rfl) ah4 ?_
 cases b with
 |nil=>exact ae rfl rfl
 |cons c r =>
  have yc:=hy c (by simp);have hb:r.length+1≤1000000:=hb;have e1:wI ((((c::r).length:Nat):Int)-1)=((r.length:Nat):Int):=by show IntKind.wrap .i64 (((r.length+1:Nat):Int)-1)=_;rw[wrap_small (by omega) (by omega)];omega
  have e2:=u5 yc;obtain⟨k,rfl⟩:∃k:Nat,c=(k:Int):=⟨c.toNat,by omega⟩;have e3:wI ((1:Int)+wI (k:Int))=((k+1:Nat):Int):=by rw[e2];show IntKind.wrap .i64 _=_;rw[wrap_small (by omega) (by omega)];omega
  refine af (show((((r.length+1:Nat):Int))==0)=false by rw[beq_eq_false_iff_ne];omega) (aa (aB (i:=0) rfl) ?_);by_cases h:(k:Int)≤((r.length:Nat):Int)
  ·have et:qp ((k:Int)::r)=(r.take k,(r.drop k,(true,()))):=by unfold qp;simp only[if_pos h,Int.toNat_natCast]
   rw[et];refine af (decide_eq_false (show ¬wI (((((k:Int)::r).length:Nat):Int)-1)<wI (k:Int) by rw[e1,e2];omega)) (aa (aB (i:=0) rfl) (ae ?_ (ae ?_ ?_)))
   ·show az (r.length+1) 1 (wI ((1:Int)+wI (k:Int)))=true;rw[e3];simp[az];omega
   ·show az (r.length+1) (wI ((1:Int)+wI (k:Int))) ((r.length+1:Nat):Int)=true;rw[e3];simp[az];omega
   ·have a1:cut ((k:Int)::r) (1:Int) (wI ((1:Int)+wI (k:Int)))=r.take k:=by rw[e3];unfold cut;rw[Int.toNat_natCast];rfl
    have a2:cut ((k:Int)::r) (wI ((1:Int)+wI (k:Int))) (lI ((k:Int)::r))=r.drop k:=by rw[e3];exact qo ((k:Int)::r) (k+1)
    show some ((cut ((k:Int)::r) (1:Int) (wI ((1:Int)+wI (k:Int))),(cut ((k:Int)::r) (wI ((1:Int)+wI (k:Int))) (lI ((k:Int)::r)),(true,()))),())=_;rw[a1,a2];rfl
  ·have et:qp ((k:Int)::r)=([],((k:Int)::r,(false,()))):=by unfold qp;simp only[if_neg h]
   rw[et];exact ae (decide_eq_true (show wI ((((( k:Int)::r).length:Nat):Int)-1)<wI (k:Int) by rw[e1,e2];omega)) rfl
theorem aii(hG:HG G)(b:List Int)(hb:b.length≤1000000)(hy:db b):FX G 106 Le ((b,()),())=some (Bk b,()):=by
 refine av (hG _ _ rfl) ah6 (aa (abl hG b hb hy) ?_)
 cases b with
 |nil=>rfl
 |cons c r =>
  show some ((strOf (qp (c::r)).1,(qp (c::r)).2),())=some (Bk (c::r),());by_cases h:c≤((r.length:Nat):Int)
  ·have a:qp (c::r)=(r.take c.toNat,(r.drop c.toNat,(true,()))):=by unfold qp;simp only[if_pos h]
   have b:Bk (c::r)=(strOf (r.take c.toNat),(r.drop c.toNat,(true,()))):=by unfold Bk;simp only[if_pos h]
   rw[a,b]
  ·have a:qp (c::r)=([],(c::r,(false,()))):=by unfold qp;simp only[if_neg h]
   have b:Bk (c::r)=(e0,(c::r,(false,()))):=by unfold Bk;simp only[if_neg h]
   rw[a,b];rfl
theorem abm(hG:HG G)(c:Int)(r:List Int)(bad:Bool)(hb:r.length≤1000000)(hc:0≤c∧c<256):FX G 76 A5 ((),((c::r,(bad,())),()))=some ((c,()),((r,(bad,())),())):=by refine av (hG _ _ rfl) ah2 (af (show((((r.length+1:Nat):Int))==0)=false by rw[beq_eq_false_iff_ne];omega) (aa (aB (i:=0) rfl) (ae (show az (c::r).length 1 (((c::r).length:Nat):Int)=true by simp[az];omega) ?_)));have e1:=u5 hc;have e2:cut (c::r) 1 (lI (c::r))=r:=qo (c::r) 1;show some ((wI c,()),((cut (c::r) 1 (lI (c::r)),(bad,())),()))=_;rw[e1,e2];rfl
theorem abn(hG:HG G)(e:ag)(r:List Int)(he:SR e)(hb:r.length≤100000)(hy:db r):FX G 77 G7 ((),((cQ e++r,(false,())),()))=some ((e,()),((r,(false,())),())):=by
 have hs:=rG he.l;have ha:=he.a;unfold jM at ha;have ha:=of_decide_eq_true ha;have e0:cQ e++r=cy e.1++(nK e.2.1++(eX e.2.2++r)):=by unfold cQ;simp only[List.append_assoc]
 have l1:(eX e.2.2++r).length=r.length+8:=by rw[List.length_append,dv];omega
 have l2:(nK e.2.1++(eX e.2.2++r)).length=r.length+8+(e.2.1.size+1):=by rw[List.length_append,l1,Aj];omega
 have y1:db (eX e.2.2++r):=(db.eX _).app hy;have y2:db (nK e.2.1++(eX e.2.2++r)):=db.app (db.bytesOf _).cons y1;rw[e0];have t1:=Qy hG (cy e.1++(nK e.2.1++(eX e.2.2++r))) (by rw[List.length_append,l2];simp[cy];omega) ((db.cy _).app y2);rw[Am he.i]at t1;have t2:=aii hG (nK e.2.1++(eX e.2.2++r)) (by rw[l2];omega) y2;rw[Oy (by omega)]at t2;have t3:=My hG (eX e.2.2++r) (by rw[l1];omega) y1;rw[qn (by omega)]at t3;exact av (hG _ _ rfl) ah3 (aa t1 (aa t2 (aa t3 (af rfl (af rfl (af rfl rfl))))))
end Go.Vs
set_option autoImplicit false
namespace Go.Vs
open Go Go.Proofs
variable {G:(f:FuncId)→(g:aO)→Option (g.A→Option g.B)}
theorem Mz(n:Nat)(h:n≤1000000):wI (((n+1:Nat):Int)-1)=((n:Nat):Int):=by show IntKind.wrap .i64 _=_;rw[wrap_small (by omega) (by omega)];omega
theorem Oz{L r:List Int}(h:L.length≤255):qp (w8 ((L.length:Nat):Int)::(L++r))=(L,(r,(true,()))):=by
 have e:w8 ((L.length:Nat):Int)=(L.length:Int):=by rw[iX];omega
 unfold qp;simp only[e];rw[if_pos (by rw[List.length_append];omega),Int.toNat_natCast,List.take_left,List.drop_left]
theorem abo(hG:HG G)(hp:oT G)(d:ak)(h:Wf d)(hg:bL d=0):FX G 54 iO ((cr d,()),())=some ((d,((0:Int),())),()):=by
 have MU:=h.nv;have bB:=h.ne;have hB:=tF h;have yB:=db.cr d;generalize hBB:cr d=B at hB yB;have LK:∀(r vs:List ai),vs++r=d.1→(r.flatMap (de (bg d.2 0))).length≤5000 → LX G 54 iO Tryz.f54 ou (aK Tryz.prog 54 1) ((B,(((r.length:Nat):Int),())),((([],([],())),((r.flatMap (de (bg d.2 0)),(false,())),((vs,(d.2,())),()))),()))=some ((d,((0:Int),())),()):=by
  intro r
  induction r with
  |nil =>intro vs hv hl;rw[List.append_nil]at hv;have ht:=abk hG hp d h hg;rw[hBB]at ht;subst hv;refine ar Qr (af rfl (aa ht (af rfl (af rfl (aa (av (hG _ _ rfl) abd rfl) (af ?_ rfl))))));show(!(strOf B==strOf B))=false;rw[(MapKept.bytes_beq _ _).2 rfl];rfl
  |cons v r ih =>
   intro vs hv hl;have hm:v∈d.1:=by rw[←hv];simp
   have Sb:=h.gv v hm;have O4:=h.rv v hm;have asb:r.length+1≤24:=by have:=congrArg List.length hv;rw[List.length_append]at this;simp at this;omega
   rw[List.flatMap_cons]at hl;have e0:(v::r).flatMap (de (bg d.2 0))=cQ (v.1,v.2.2)++(w8 (((v.2.1.map (oE (bg d.2 0))).length:Nat):Int)::(v.2.1.map (oE (bg d.2 0))++r.flatMap (de (bg d.2 0)))):=by rw[List.flatMap_cons,de,List.length_map];simp only[List.append_assoc,List.cons_append]
   have yr:db (r.flatMap (de (bg d.2 0))):=db.flat (db.ED _) _;have yL:db (v.2.1.map (oE (bg d.2 0))):=fun c hc=>by obtain⟨i,_,rfl⟩:=acn.1 hc;exact HP _
   have lr:(r.flatMap (de (bg d.2 0))).length≤5000:=by rw[List.length_append]at hl;omega
   have hLl:(v.2.1.map (oE (bg d.2 0))).length=v.2.1.length:=List.length_map _;have sN:∀(k:Nat) (x:ab),v.2.1[k]? = some x→(v.2.1.map (oE (bg d.2 0)))[k]? = some (oE (bg d.2 0) x):=fun k x hx=>by rw[List.getElem?_map,hx];rfl
   generalize hL:v.2.1.map (oE (bg d.2 0))=L at e0 yL hLl sN;have hq:L.length+(r.flatMap (de (bg d.2 0))).length≤6000:=by omega
   have t1:=abn hG (v.1,v.2.2) (w8 ((L.length:Nat):Int)::(L++r.flatMap (de (bg d.2 0)))) Sb.th (by rw[List.length_cons,List.length_append];omega) (db.cons (yL.app yr));have t2:=abl hG (w8 ((L.length:Nat):Int)::(L++r.flatMap (de (bg d.2 0)))) (by rw[List.length_cons,List.length_append];omega) (db.cons (yL.app yr));rw[Oz (by omega)]at t2;refine(congrArg (fun q:List Int=>LX G 54 iO Tryz.f54 ou (aK Tryz.prog 54 1) ((B,(((r.length+1:Nat):Int),())),((([],([],())),((q,(false,())),((vs,(d.2,())),()))),()))) e0).trans ?_;refine ar Qr (ae (decide_eq_true (show(((r.length+1:Nat)):Int)>0 by omega)) (ae rfl (aa t1 (aa t2 (af rfl ?_)))));have key:=bu v.2.1 (fun k (p:List ab)=>LX G 54 iO Tryz.f54 rh (aK Tryz.prog 54 2) ((B,(((r.length+1:Nat):Int),(false,(true,(L,(((L.length:Nat):Int),(k,()))))))),((([],([],())),((r.flatMap (de (bg d.2 0)),(false,())),((vs,(d.2,())),((v.1.1,(v.1.2,(p,(v.2.2.1,(v.2.2.2,()))))),())))),()))) (fun _ _=>((d,((0:Int),())),())) (fun m p=>∃q,p++q=v.2.1∧q.length=m) (fun p TP=>by
     obtain⟨q,h1,h2⟩:=TP;have h0:q=[]:=abY h2;rw[h0,List.append_nil]at h1;subst h1;have hvl:vs.length+1≤24:=by have:=congrArg List.length hv;rw[List.length_append]at this;simp at this;omega
     refine ar Qs (af (by show decide (((v.2.1.length:Nat):Int)<((L.length:Nat):Int))=false;rw[hLl];exact cE _) (ae (fits (show vs.length+1≤_ by omega)) ?_));exact(congrArg (fun k:Int=>LX G 54 iO Tryz.f54 ou (aK Tryz.prog 54 1) ((B,(k,())),((([],([],())),((r.flatMap (de (bg d.2 0)),(false,())),((vs++[v],(d.2,())),()))),()))) (Mz r.length (by omega))).trans (ih (vs++[v]) (by rw[List.append_assoc];exact hv) lr))
    (fun k x r' p hk hx ya hinv ih2=>by
     obtain⟨q,h1,h2⟩:=hinv
     cases q with
     |nil=>simp at h2
     |cons x' q =>
     have TB:x'=x:=by
      have e5:=hx;rw[←h1,List.getElem?_append_right (by have:=congrArg List.length h1;rw[List.length_append]at this;simp at this h2;omega)]at e5;have:k-p.length=0:=by have:=congrArg List.length h1;rw[List.length_append]at this;simp at this h2;omega
      rw[this]at e5;simpa using e5
     subst TB;obtain⟨j,hj1,hj2,_,M0,ZA⟩:=E4 bB (h.pd.mem_iff.1 (aS.2 ⟨v,hm,acI hx⟩));have hc:=sN k x' hx;rw[hj1]at hc;have ew:wI ((j:Int)+128*x'.2)=(j:Int)+128*x'.2:=wrap_small (by omega) (by omega);have em:Int.tmod (wI ((j:Int)+128*x'.2)) 128=(j:Int):=by rw[ew,Int.tmod_eq_emod_of_nonneg (by omega)];omega
     have ed:wI (Int.tdiv (wI ((j:Int)+128*x'.2)) 128)=x'.2:=by rw[ew,Int.tdiv_eq_ediv_of_nonneg (by omega)];refine(wrap_small (by omega) (by omega)).trans ?_;omega
     have Tw:p.length≤80:=by have:=congrArg List.length h1;rw[List.length_append]at this;omega
     refine ar Qs (ae (by show decide ((k:Int)<((L.length:Nat):Int))=true;rw[hLl];exact aT hk) (aa (aB hc) (af rfl (af ?_ (ae ?_ (aa (a:=d.2[j]) ?_ (af rfl (ae (fits (show p.length+1≤_ by omega)) ?_))))))))
     ·rw[em];exact decide_eq_false (show ¬((j:Int)≥((d.2.length:Nat):Int)) by omega)
     ·rw[em];exact cP (decide_eq_true (by omega)) (decide_eq_true (show(j:Int)<((d.2.length:Nat):Int) by omega))
     ·rw[em,Int.toNat_natCast];exact aa8 M0
     ·have ex:((d.2[j].1,wI (Int.tdiv (wI ((j:Int)+128*x'.2)) 128)):ab)=x':=Prod.ext ZA ed;have e1:wI ((k:Int)+1)=((k+1:Nat):Int):=aD hk (by omega);exact(congr (congrArg (fun(i:Int) (y:ab)=>LX G 54 iO Tryz.f54 rh (aK Tryz.prog 54 2) ((B,(((r.length+1:Nat):Int),(false,(true,(L,(((L.length:Nat):Int),(i,()))))))),((([],([],())),((r.flatMap (de (bg d.2 0)),(false,())),((vs,(d.2,())),((v.1.1,(v.1.2,(p++[y],(v.2.2.1,(v.2.2.2,()))))),())))),()))) e1) ex).trans (ih2 (p++[x']) ⟨q,by rw[List.append_assoc];exact h1,by simpa using h2⟩))
    [] ⟨v.2.1,rfl,rfl⟩
   exact key
 have yt:db (w8 ((d.1.length:Nat):Int)::d.1.flatMap (de (bg d.2 0))):=(db.flat (db.ED _) _).cons;have env:w8 ((d.1.length:Nat):Int)=((d.1.length:Nat):Int):=by rw[iX];omega
 have ene:w8 ((d.2.length:Nat):Int)=((d.2.length:Nat):Int):=by rw[iX];omega
 have LL:∀(r es:List ag),es++r=d.2→(r.flatMap cQ++(w8 ((d.1.length:Nat):Int)::d.1.flatMap (de (bg d.2 0)))).length≤5000 → LX G 54 iO Tryz.f54 rf (aK Tryz.prog 54 0) ((B,(((r.length:Nat):Int),())),((([],([],())),((r.flatMap cQ++(w8 ((d.1.length:Nat):Int)::d.1.flatMap (de (bg d.2 0))),(false,())),(([],(es,())),()))),()))=some ((d,((0:Int),())),()):=by
  intro r
  induction r with
  |nil =>intro es Cg hl;rw[List.append_nil]at Cg;have hl:(d.1.flatMap (de (bg d.2 0))).length+1≤5000:=hl;have t:=abm hG (w8 ((d.1.length:Nat):Int)) (d.1.flatMap (de (bg d.2 0))) false (by omega) (HP _);rw[env]at t;have l1:=LK d.1 [] rfl (by omega);rw[List.flatMap_nil,List.nil_append,env,Cg];exact ar Qq (af rfl (aa t l1))
  |cons e r ih =>
   intro es Cg hl;have hm:e∈d.2:=by rw[←Cg];simp
   have vl:es.length+(r.length+1)≤40:=by have:=congrArg List.length Cg;rw[List.length_append]at this;simp at this;omega
   rw[List.flatMap_cons,List.append_assoc]at hl ⊢;have vU:(r.flatMap cQ++(w8 ((d.1.length:Nat):Int)::d.1.flatMap (de (bg d.2 0)))).length≤5000:=by rw[List.length_append]at hl;omega
   refine ar Qq (ae (decide_eq_true (show(((r.length+1:Nat)):Int)>0 by omega)) (ae rfl (aa (abn hG e _ (h.ge e hm).th (by omega) ((db.flat db.XB _).app yt)) (ae (fits (show es.length+1≤_ by omega)) ?_))));exact(congrArg (fun k:Int=>LX G 54 iO Tryz.f54 rf (aK Tryz.prog 54 0) ((B,(k,())),((([],([],())),((r.flatMap cQ++(w8 ((d.1.length:Nat):Int)::d.1.flatMap (de (bg d.2 0))),(false,())),(([],(es++[e],())),()))),()))) (Mz r.length (by omega))).trans (ih (es++[e]) (by rw[List.append_assoc];exact Cg) vU)
 have hB2:w8 ((d.2.length:Nat):Int)::(d.2.flatMap cQ++(w8 ((d.1.length:Nat):Int)::d.1.flatMap (de (bg d.2 0))))=B:=hBB;have hl0:(d.2.flatMap cQ++(w8 ((d.1.length:Nat):Int)::d.1.flatMap (de (bg d.2 0)))).length+1≤5000:=by have:=congrArg List.length hB2;rw[List.length_cons]at this;omega
 have t:=abm hG (w8 ((d.2.length:Nat):Int)) (d.2.flatMap cQ++(w8 ((d.1.length:Nat):Int)::d.1.flatMap (de (bg d.2 0)))) false (by omega) (HP _);have l0:=LL d.2 [] rfl (by omega);have t2:=(congrArg (fun q:List Int=>FX G 76 A5 ((),((q,(false,())),()))) hB2.symm).trans t;exact av (hG _ _ rfl) ah1 (aa t2 ((congrArg (fun k:Int=>LX G 54 iO Tryz.f54 rf (aK Tryz.prog 54 0) ((B,(k,())),((([],([],())),((d.2.flatMap cQ++(w8 ((d.1.length:Nat):Int)::d.1.flatMap (de (bg d.2 0))),(false,())),(([],([],())),()))),()))) ene).trans l0))
end Go.Vs
set_option autoImplicit false
namespace Go.Vs
open Go Go.Proofs
variable {G:(f:FuncId)→(g:aO)→Option (g.A→Option g.B)}
theorem MA{c:Int}(h:0≤c∧c<256):w8 c=c:=by rw[iX];omega
theorem abp(hG:HG G)(g:ax)(r:List Int)(hb:r.length≤100000)(hy:db r)(h1:kK g.1=true)(h2:g.2=zD∨kK g.2=true):FX G 55 G6 ((aY g++r,()),())=some ((g,(r,(true,()))),()):=by
 obtain⟨a1,a2⟩:=fY (.inr h1);obtain⟨a3,a4⟩:=fY h2;have m1:cd g.1.1=true:=(Bool.and_eq_true _ _▸(show(cd g.1.1&&decide (g.1.2=0∨g.1.2=1))=true from h1)).1;have s1:w8 g.1.2=g.1.2:=MA (by omega);have e0:aY g++r=cy g.1.1++(g.1.2::((if g.2=zD then[0] else w8 (g.2.2+1)::cy g.2.1)++r)):=by unfold aY;rw[s1];simp only[List.append_assoc,List.cons_append]
 have yX:db ((if g.2=zD then[0] else w8 (g.2.2+1)::cy g.2.1)++r):=by
  refine db.app ?_ hy
  split
  ·intro c hc;rw[List.mem_singleton.1 hc];omega
  ·exact(db.cy _).cons
 have lX:((if g.2=zD then[0] else w8 (g.2.2+1)::cy g.2.1)++r).length≤r.length+5:=by rw[List.length_append];split<;>simp[cy]<;>omega
 have hq:=e0;generalize hX:(if g.2=zD then[0] else w8 (g.2.2+1)::cy g.2.1)++r=X at hq yX lX;have y1:db (g.1.2::X):=s1▸(db.cons (n:=g.1.2) yX);have t1:=Qy hG (cy g.1.1++(g.1.2::X)) (by rw[List.length_append,List.length_cons];simp[cy];omega) ((db.cy _).app y1);rw[Am m1]at t1;have t1:=(congrArg (fun q:List Int=>FX G 79 np ((q,()),())) hq).trans t1;have w1:wI g.1.2=g.1.2:=u5 (by omega);have eg:((g.1.1,wI g.1.2):ab)=g.1:=Prod.ext rfl w1;by_cases hz:g.2=zD
 ·rw[if_pos hz]at hX;subst hX;have ec:cut (g.1.2::(0::r)) 2 (lI (g.1.2::(0::r)))=r:=qo (g.1.2::(0::r)) 2;refine av (hG _ _ rfl) Xt (aa t1 (af rfl (af (decide_eq_false (show ¬(((r.length+1+1:Nat):Int)<2) by omega)) (aa (aB (i:=1) rfl) (af rfl (aa (aB (i:=0) rfl) (aa (aB (i:=1) rfl) (ae (show az (r.length+1+1) 2 ((r.length+1+1:Nat):Int)=true by simp[az];omega) (af rfl ?_)))))))));show some ((((g.1.1,wI g.1.2),OD),(cut (g.1.2::(0::r)) 2 (lI (g.1.2::(0::r))),(true,()))),())=_;rw[eg,ec];exact congrArg (fun q:ab=>some (((g.1,q),(r,(true,()))),())) hz.symm
 ·rw[if_neg hz]at hX;have TT:kK g.2=true:=h2.resolve_left hz;have m2:cd g.2.1=true:=(Bool.and_eq_true _ _▸(show(cd g.2.1&&decide (g.2.2=0∨g.2.2=1))=true from TT)).1;have s2:w8 (g.2.2+1)=g.2.2+1:=MA (by omega);rw[s2,List.cons_append]at hX;subst hX;have lr:(cy g.2.1++r).length=r.length+4:=by rw[List.length_append];simp[cy];omega
  have ec:cut (g.1.2::((g.2.2+1)::(cy g.2.1++r))) 2 (lI (g.1.2::((g.2.2+1)::(cy g.2.1++r))))=cy g.2.1++r:=qo (g.1.2::((g.2.2+1)::(cy g.2.1++r))) 2;have t2:=Qy hG (cy g.2.1++r) (by omega) ((db.cy _).app hy);rw[Am m2]at t2;have t2:=(congrArg (fun q:List Int=>FX G 79 np ((q,()),())) ec).trans t2;have w2:wI (g.2.2+1)=g.2.2+1:=u5 (by omega);have w3:wI (wI (g.2.2+1)-1)=g.2.2:=by rw[w2];exact(wrap_small (by omega) (by omega)).trans (by omega)
  have eh:((g.2.1,wI (wI (g.2.2+1)-1)):ab)=g.2:=Prod.ext rfl w3;refine av (hG _ _ rfl) Xt (aa t1 (af rfl (af (decide_eq_false (show ¬((((cy g.2.1++r).length+1+1:Nat):Int)<2) by omega)) (aa (aB (i:=1) rfl) (af (decide_eq_false (show ¬(g.2.2+1>2) by omega)) (aa (aB (i:=0) rfl) (aa (aB (i:=1) rfl) (ae (show az ((cy g.2.1++r).length+1+1) 2 (((cy g.2.1++r).length+1+1:Nat):Int)=true by simp[az];omega) (ae (decide_eq_true (show wI (g.2.2+1)>0 by rw[w2];omega)) (aa t2 ?_))))))))));show some ((((g.1.1,wI g.1.2),(g.2.1,wI (wI (g.2.2+1)-1))),(r,(true,()))),())=_;rw[eg,eh];rfl
theorem adi{g:ab}(h:g=zD):(((g.1.1==(0:Int))&&(g.1.2==(0:Int)))&&(g.2==(0:Int)))=true:=by have:=lO g zD;rw[decide_eq_true h]at this;exact this
theorem adk{g:ab}(h:g≠zD):(((g.1.1==(0:Int))&&(g.1.2==(0:Int)))&&(g.2==(0:Int)))=false:=by have:=lO g zD;rw[decide_eq_false h]at this;exact this
theorem MB{b:Bool}(h:b=true):(!b)=false:=by rw[h];rfl
theorem abq{b:Bool}(h:b=false):(!b)=true:=by rw[h];rfl
theorem aij(hG:HG G)(l:List ax)(hs:iS l)(hn:l.length≤400)(hk:bw l):FX G 48 xF ((l,()),())=some ((true,()),()):=by
 refine av (hG _ _ rfl) ahZ ?_;have loop:∀(n i:Nat),i+n=l.length→LX G 48 xF Tryz.f48 mn (aK Tryz.prog 48 0) ((l,(l,(((l.length:Nat):Int),((i:Int),())))),((),()))=some ((true,()),()):=by
  intro n
  induction n with
  |zero =>
   intro i hi;have:i=l.length:=by omega
   subst this;refine ar Qo (af (cE _) ?_);exact congrArg (fun b:Bool=>some ((b,()),())) (decide_eq_true (show((l.length:Nat):Int)≤400 by omega))
  |succ n ih =>
   intro i hi;have aN:i<l.length:=by omega
   obtain⟨k1,k2⟩:=hk l[i] (acV aN);have r1:=(fY (.inr k1)).2;have r2:=(fY k2).2;have next:LX G 48 xF Tryz.f48 mn (aK Tryz.prog 48 0) ((l,(l,(((l.length:Nat):Int),(wI ((i:Int)+1),())))),((),()))=some ((true,()),()):=by rw[wI,aD aN (by omega)];exact ih (i+1) (by omega)
   have q1:=VT hG l[i].1 ⟨by omega,by omega⟩;have q2:=VT hG l[i].2 ⟨by omega,by omega⟩;refine ar Qo (ae (aT aN) (aa (aB (aa8 aN)) (aa q1 (af (MB k1) ?_))));by_cases h0:i=0
   ·have g0:decide ((i:Int)>0)=false:=decide_eq_false (by omega);by_cases hz:l[i].2=zD
    ·exact af (MB (adi hz)) (af g0 next)
    ·exact ae (abq (adk hz)) (aa q2 (af (MB (k2.resolve_left hz)) (af g0 next)))
   ·have g0:decide ((i:Int)>0)=true:=decide_eq_true (by omega);have hp:i-1<l.length:=by omega
    have ew:wI ((i:Int)-1)=((i-1:Nat):Int):=by show IntKind.wrap .i64 _=_;rw[wrap_small (by omega) (by omega)];omega
    have prev:aU l (wI ((i:Int)-1))=some l[i-1]:=by rw[ew];exact aB (aa8 hp)
    have ho:nP l[i-1].1 l[i].1<0:=(yi _ _).2 (adL.1 hs (i-1) i hp aN (by omega));have q3:=VX hG l[i-1].1 l[i].1;have g1:decide (nP l[i-1].1 l[i].1≥0)=false:=decide_eq_false (by omega);by_cases hz:l[i].2=zD
    ·exact af (MB (adi hz)) (ae g0 (aa prev (aa q3 (af g1 next))))
    ·exact ae (abq (adk hz)) (aa q2 (af (MB (k2.resolve_left hz)) (ae g0 (aa prev (aa q3 (af g1 next))))))
 exact loop l.length 0 (by omega)
theorem XE(hG:HG G)(hp:oT G)(n:Int)(s:StateT)(hn:0≤n∧n≤1073741824)(h:eZ s)(hg:bL s.1=0)(hk:bw s.2):FX G 22 me ((n,(s,())),())=some ((dI n s,((0:Int),())),()):=by
 have hgn:=h.n;have hd:=tF h.d;have l1:(([]:List Int)++eX n).length=8:=by rw[List.nil_append,dv]
 have l2:((([]:List Int)++eX n)++eX (((cr s.1).length:Nat):Int)).length=16:=by rw[List.length_append,l1,dv]
 refine av (hG _ _ rfl) ahY (af (decide_eq_false (show ¬n<0 by omega)) (af (decide_eq_false (show ¬n>1073741824 by omega)) (aa (aij hG s.2 h.g h.n hk) (af rfl (aa (abk hG hp s.1 h.d hg) (af rfl (aa (Xv hG [] n (by decide)) (aa (Xv hG ([]++eX n) (((cr s.1).length:Nat):Int) (by omega)) (ae (fits ?_) ?_)))))))))
 ·show((([]:List Int)++eX n)++eX (((cr s.1).length:Nat):Int)).length+(cr s.1).length≤_;rw[l2];omega
 have key:=bu s.2 (fun i (b:List Int)=>LX G 22 me Tryz.f22 oq (aK Tryz.prog 22 0) ((s.2,(((s.2.length:Nat):Int),(i,()))),((),(b,())))) (fun r b=>((b++r.flatMap aY,((0:Int),())),())) (fun m b=>b.length+m*10≤20000) (fun b hb=>by refine ar Qn (af (cE _) ?_);simp only[List.flatMap_nil,List.append_nil]) (fun i g r b hi hx ya hb ih=>by
   obtain⟨k1,k2⟩:=hk g (acI hx);have r2:=(fY k2).2;have hb:b.length+(r.length+1)*10≤20000:=hb;have l3:(b++cy g.1.1).length=b.length+4:=by simp[cy]
   have l4:((b++cy g.1.1)++[w8 g.1.2]).length=b.length+5:=by rw[List.length_append,l3];rfl
   have ew:=aD hi (by omega);have hq:=uZ g;have go:=ih (b++aY g) (by rw[List.length_append];omega);have fin:some ((((b++aY g)++r.flatMap aY,((0:Int),())),()):(List Int×(Int×Unit))×Unit)=some ((b++(g::r).flatMap aY,((0:Int),())),()):=by rw[List.flatMap_cons,List.append_assoc]
   refine ar Qn (ae (aT hi) (aa (aB hx) (aa (Xu hG b g.1.1 (by omega)) (ae (fits (show(b++cy g.1.1).length+1≤_ by omega)) ?_))));by_cases hz:g.2=zD
   ·refine ae (adi hz) (ae (fits (show((b++cy g.1.1)++[w8 g.1.2]).length+1≤_ by omega)) ?_);have e9:((b++cy g.1.1)++[w8 g.1.2])++[0]=b++aY g:=by unfold aY;rw[if_pos hz];simp only[List.append_assoc,List.singleton_append,List.cons_append,List.nil_append]
    exact(congr (congrArg (fun(k:Int) (q:List Int)=>LX G 22 me Tryz.f22 oq (aK Tryz.prog 22 0) ((s.2,(((s.2.length:Nat):Int),(k,()))),((),(q,())))) ew) e9).trans (go.trans fin)
   ·have w3:wI (g.2.2+1)=g.2.2+1:=wrap_small (by omega) (by omega);have l5:(((b++cy g.1.1)++[w8 g.1.2])++[w8 (wI (g.2.2+1))]).length=b.length+6:=by rw[List.length_append,l4];rfl
    refine af (adk hz) (ae (fits (show((b++cy g.1.1)++[w8 g.1.2]).length+1≤_ by omega)) (aa (Xu hG (((b++cy g.1.1)++[w8 g.1.2])++[w8 (wI (g.2.2+1))]) g.2.1 (by omega)) ?_));have e9:(((b++cy g.1.1)++[w8 g.1.2])++[w8 (wI (g.2.2+1))])++cy g.2.1=b++aY g:=by unfold aY;rw[if_neg hz,w3];simp only[List.append_assoc,List.singleton_append,List.cons_append,List.nil_append]
    exact(congr (congrArg (fun(k:Int) (q:List Int)=>LX G 22 me Tryz.f22 oq (aK Tryz.prog 22 0) ((s.2,(((s.2.length:Nat):Int),(k,()))),((),(q,())))) ew) e9).trans (go.trans fin))
  (((([]:List Int)++eX n)++eX (((cr s.1).length:Nat):Int))++cr s.1) (by show _+_≤20000;rw[List.length_append,l2];omega)
 refine key.trans ?_;unfold dI;simp only[List.nil_append,List.append_assoc];rfl
theorem Ap{n:Int}{s:StateT}(h:eZ s):(dI n s).length≤10000:=by have hd:=tF h.d;have hgn:=h.n;have:=qm aY 10 s.2 fun e _=>uZ e;unfold dI;rw[List.length_append,List.length_append,List.length_append,dv,dv];omega
theorem aik(hG:HG G)(hp:oT G)(n:Int)(s:StateT)(hn:0≤n∧n≤1073741824)(h:eZ s)(hg:bL s.1=0)(hk:bw s.2):FX G 24 jZ ((dI n s,()),())=some ((n,(s,((0:Int),()))),()):=by
 have hd:=tF h.d;have hgn:=h.n;have S4:=Ap (n:=n) h;have ail:=XE hG hp n s hn h hg hk;have yF:db (s.2.flatMap aY):=db.flat db.aY _;have y3:db (cr s.1++s.2.flatMap aY):=(db.cr _).app yF;have y2:db (eX (((cr s.1).length:Nat):Int)++(cr s.1++s.2.flatMap aY)):=(db.eX _).app y3;have lf:=qm aY 10 s.2 fun e _=>uZ e;have l3:(cr s.1++s.2.flatMap aY).length=(cr s.1).length+(s.2.flatMap aY).length:=List.length_append;have t1:=My hG (dI n s) (by omega) (db.snap n s);rw[show takeN (dI n s)=_ from qn (by omega) _]at t1;have t2:=My hG (eX (((cr s.1).length:Nat):Int)++(cr s.1++s.2.flatMap aY)) (by rw[List.length_append,dv];omega) y2;rw[qn (by omega)]at t2;have c1:cut (cr s.1++s.2.flatMap aY) 0 (((cr s.1).length:Nat):Int)=cr s.1:=aba _ _;have c2:cut (cr s.1++s.2.flatMap aY) (((cr s.1).length:Nat):Int) (lI (cr s.1++s.2.flatMap aY))=s.2.flatMap aY:=abb _ _;have t3:=(congrArg (fun q:List Int=>FX G 54 iO ((q,()),())) c1).trans (abo hG hp s.1 h.d hg);refine av (hG _ _ rfl) abe (aa t1 (aa t2 (af rfl (af (decide_eq_false (show ¬((((cr s.1).length:Nat):Int)<0) by omega)) (af (decide_eq_false (show ¬((((cr s.1).length:Nat):Int)>(((cr s.1++s.2.flatMap aY).length:Nat):Int)) by omega)) (ae (show az (cr s.1++s.2.flatMap aY).length 0 (((cr s.1).length:Nat):Int)=true by rw[l3];simp[az]<;>omega) (aa t3 (ae (show az (cr s.1++s.2.flatMap aY).length (((cr s.1).length:Nat):Int) (((cr s.1++s.2.flatMap aY).length:Nat):Int)=true by rw[l3];simp[az]<;>omega) ?_))))))));have hB:=S4;generalize hBB:dI n s=B at hB ail;have loop:∀(r es:List ax),es++r=s.2→(r.flatMap aY).length≤5000→LX G 24 jZ Tryz.f24 j0 (aK Tryz.prog 24 0) ((B,(n,(r.flatMap aY,((0:Int),())))),((OW,((s.1.1,(s.1.2,(es,()))),())),()))=some ((n,(s,((0:Int),()))),()):=by
  intro r
  induction r with
  |nil =>intro es Cg hl;rw[List.append_nil]at Cg;subst Cg;refine ar yx (ae rfl (af rfl (af rfl (aa ail (af rfl (aa (av (hG _ _ rfl) abd rfl) (af ?_ rfl)))))));show(!(strOf B==strOf B))=false;rw[(MapKept.bytes_beq _ _).2 rfl];rfl
  |cons g r ih =>
   intro es Cg hl;obtain⟨k1,k2⟩:=hk g (by rw[←Cg];simp);have vl:es.length+(r.length+1)≤400:=by have:=congrArg List.length Cg;rw[List.length_append]at this;simp at this;omega
   have e0:(g::r).flatMap aY=aY g++r.flatMap aY:=List.flatMap_cons;have vU:(r.flatMap aY).length≤5000:=by rw[e0,List.length_append]at hl;omega
   have hp1:=Ao g;refine(congrArg (fun q:List Int=>LX G 24 jZ Tryz.f24 j0 (aK Tryz.prog 24 0) ((B,(n,(q,((0:Int),())))),((OW,((s.1.1,(s.1.2,(es,()))),())),()))) e0).trans ?_;refine ar yx (ae rfl (ae (decide_eq_true (show(((aY g++r.flatMap aY).length:Nat):Int)>0 by rw[List.length_append];omega)) (ae (decide_eq_true (show((es.length:Nat):Int)≤400 by omega)) (aa (abp hG g (r.flatMap aY) (by omega) (db.flat db.aY _) k1 k2) (af rfl (ae (fits (show es.length+1≤_ by omega)) ?_))))));exact ih (es++[g]) (by rw[List.append_assoc];exact Cg) vU
 exact(congrArg (fun q:List Int=>LX G 24 jZ Tryz.f24 j0 (aK Tryz.prog 24 0) ((B,(n,(q,((0:Int),())))),((OW,((s.1.1,(s.1.2,([],()))),())),()))) c2).trans (loop s.2 [] rfl (by omega))
end Go.Vs
set_option autoImplicit false
namespace Go.Vs
open Go Go.Proofs
variable {G:(f:FuncId)→(g:aO)→Option (g.A→Option g.B)}
theorem adl(hG:HG G):FX G 55 G6 ((([(0:Int)]:List Int),()),())=some (((((zI,(0:Int)):ab),zD),(([]:List Int),(false,()))),()):=by
 have t1:=Qy hG [0] (by decide) (fun c hc=>by rw[List.mem_singleton.1 hc];omega);have e:E7 [(0:Int)]=(zI,([(0:Int)],(false,()))):=by unfold E7;rw[if_neg fun k=>absurd k.1 (by decide)]
 rw[e]at t1;exact av (hG _ _ rfl) Xt (aa t1 (ae rfl rfl))
theorem adm(hG:HG G)(hp:oT G)(n:Int)(s:StateT)(hn:0≤n∧n≤1073741824)(h:eZ s)(hg:bL s.1=0)(hk:bw s.2):FX G 24 jZ ((dI n s++[0],()),())=some (((0:Int),(zS,((2:Int),()))),()):=by
 have hd:=tF h.d;have hgn:=h.n;have S4:=Ap (n:=n) h;have y0:db [0]:=fun c hc=>by rw[List.mem_singleton.1 hc];omega
 have yF:db (s.2.flatMap aY++[0]):=(db.flat db.aY _).app y0;have y3:db (cr s.1++(s.2.flatMap aY++[0])):=(db.cr _).app yF;have y2:db (eX (((cr s.1).length:Nat):Int)++(cr s.1++(s.2.flatMap aY++[0]))):=(db.eX _).app y3;have lf:=qm aY 10 s.2 fun e _=>uZ e;have lz:(s.2.flatMap aY++[0]).length=(s.2.flatMap aY).length+1:=by rw[List.length_append];rfl
 have l3:(cr s.1++(s.2.flatMap aY++[0])).length=(cr s.1).length+(s.2.flatMap aY++[0]).length:=List.length_append;have e0:dI n s++[0]=eX n++(eX (((cr s.1).length:Nat):Int)++(cr s.1++(s.2.flatMap aY++[0]))):=by unfold dI;simp only[List.append_assoc]
 have lB:(dI n s++[0]).length≤10001:=by rw[List.length_append];simp;omega
 have t1:=My hG (dI n s++[0]) (by omega) ((db.snap n s).app y0);rw[show takeN (dI n s++[0])=_ from(congrArg takeN e0).trans (qn (by omega) _)]at t1;have t2:=My hG (eX (((cr s.1).length:Nat):Int)++(cr s.1++(s.2.flatMap aY++[0]))) (by rw[List.length_append,dv];omega) y2;rw[qn (by omega)]at t2;have c1:cut (cr s.1++(s.2.flatMap aY++[0])) 0 (((cr s.1).length:Nat):Int)=cr s.1:=aba _ _;have c2:cut (cr s.1++(s.2.flatMap aY++[0])) (((cr s.1).length:Nat):Int) (lI (cr s.1++(s.2.flatMap aY++[0])))=s.2.flatMap aY++[0]:=abb _ _;have t3:=(congrArg (fun q:List Int=>FX G 54 iO ((q,()),())) c1).trans (abo hG hp s.1 h.d hg);refine av (hG _ _ rfl) abe (aa t1 (aa t2 (af rfl (af (decide_eq_false (show ¬((((cr s.1).length:Nat):Int)<0) by omega)) (af (decide_eq_false (show ¬((((cr s.1).length:Nat):Int)>(((cr s.1++(s.2.flatMap aY++[0])).length:Nat):Int)) by omega)) (ae (show az (cr s.1++(s.2.flatMap aY++[0])).length 0 (((cr s.1).length:Nat):Int)=true by rw[l3];simp[az]<;>omega) (aa t3 (ae (show az (cr s.1++(s.2.flatMap aY++[0])).length (((cr s.1).length:Nat):Int) (((cr s.1++(s.2.flatMap aY++[0])).length:Nat):Int)=true by rw[l3];simp[az]<;>omega) ?_))))))));generalize dI n s++[0]=B at lB;have loop:∀(r es:List ax),es++r=s.2→(r.flatMap aY).length≤5000→LX G 24 jZ Tryz.f24 j0 (aK Tryz.prog 24 0) ((B,(n,(r.flatMap aY++[0],((0:Int),())))),((OW,((s.1.1,(s.1.2,(es,()))),())),()))=some (((0:Int),(zS,((2:Int),()))),()):=by
  intro r
  induction r with
  |nil =>
   intro es Cg hl;rw[List.append_nil]at Cg;have vl:es.length≤400:=by rw[Cg];exact hgn
   refine ar yx (ae rfl (ae rfl (ae (decide_eq_true (show((es.length:Nat):Int)≤400 by omega)) (aa (adl hG) (ae rfl (ae (fits (show es.length+1≤_ by omega)) ?_))))));exact ar yx (af rfl (ae rfl rfl))
  |cons g r ih =>
   intro es Cg hl;obtain⟨k1,k2⟩:=hk g (by rw[←Cg];simp);have vl:es.length+(r.length+1)≤400:=by have:=congrArg List.length Cg;rw[List.length_append]at this;simp at this;omega
   have e1:(g::r).flatMap aY=aY g++r.flatMap aY:=List.flatMap_cons;have vU:(r.flatMap aY).length≤5000:=by rw[e1,List.length_append]at hl;omega
   have e2:(g::r).flatMap aY++[0]=aY g++(r.flatMap aY++[0]):=by rw[e1,List.append_assoc]
   have hp1:=Ao g;have l4:(r.flatMap aY++[0]).length=(r.flatMap aY).length+1:=by rw[List.length_append];rfl
   refine(congrArg (fun q:List Int=>LX G 24 jZ Tryz.f24 j0 (aK Tryz.prog 24 0) ((B,(n,(q,((0:Int),())))),((OW,((s.1.1,(s.1.2,(es,()))),())),()))) e2).trans ?_;refine ar yx (ae rfl (ae (decide_eq_true (show(((aY g++(r.flatMap aY++[0])).length:Nat):Int)>0 by rw[List.length_append];omega)) (ae (decide_eq_true (show((es.length:Nat):Int)≤400 by omega)) (aa (abp hG g (r.flatMap aY++[0]) (by omega) ((db.flat db.aY _).app y0) k1 k2) (af rfl (ae (fits (show es.length+1≤_ by omega)) ?_))))));exact ih (es++[g]) (by rw[List.append_assoc];exact Cg) vU
 exact(congrArg (fun q:List Int=>LX G 24 jZ Tryz.f24 j0 (aK Tryz.prog 24 0) ((B,(n,(q,((0:Int),())))),((OW,((s.1.1,(s.1.2,([],()))),())),()))) c2).trans (loop s.2 [] rfl (by omega))
end Go.Vs
