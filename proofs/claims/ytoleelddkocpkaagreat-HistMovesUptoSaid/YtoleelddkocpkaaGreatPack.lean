/- Diagrams and states as bytes -/
import Derived.Test.YtoleelddkocpkaaGreatHist
set_option linter.unusedVariables false
set_option linter.unusedSimpArgs false
namespace Go.Vs
open Go.Proofs
variable {G:(f:FuncId)→(g:aN)→Option (g.A→Option g.B)}
abbrev w8(n:Int):Int:=IntKind.wrap .u8 n
def cX(x:ID):List Int:=[w8 x.1,w8 (ir .i64 x.2 16),w8 (ir .i64 x.2 8),w8 x.2]
def L7(n:Int)(i:Nat):Int:=w8 (ir .u64 (IntKind.wrap .u64 n) (8*(7-(i:Int))))
def gF(n:Int):List Int:=(List.range 8).map (L7 n)
def rO(s:ByteArray):List Int:=w8 ((s.size:Nat):Int)::bytesOf s
def dp(e:ag):List Int:=cX e.1++(rO e.2.1++gF e.2.2)
theorem WZ(hG:HG G)(b:List Int)(x:ID)(hb:b.length≤1000000):FX G 43 Dq ((b,(x,())),())=some ((b++cX x,()),()):=by
 refine av (hG _ _ rfl) ahE ?_;have ec:cut b 0 (((b.length:Nat)):Int)=b:=PU b;refine ae (cK (show aB b.length 0 (((b.length:Nat)):Int)=true by simp[aB]) (decide_eq_true rfl)) (af rfl (af rfl (ae (fits ?_) ?_)))
 ·show(cut b 0 (((b.length:Nat)):Int)).length+4≤_;rw[ec];omega
 ·exact congrArg (fun l:List Int=>some ((l++cX x,()),())) ec
theorem W0(hG:HG G)(b:List Int)(n:Int)(hb:b.length≤1000000):FX G 49 rF ((b,(n,())),())=some ((b++gF n,()),()):=by
 refine av (hG _ _ rfl) ahz ?_;have e:wI (lI b+8)=((b.length+8:Nat):Int):=by show IntKind.wrap .i64 (((b.length:Nat):Int)+8)=_;rw[wrap_small (by omega) (by omega)];omega
 have loop:∀(m i:Nat),i+m=8→LX G 49 rF Tryz.f49 qT (aK Tryz.prog 49 0) ((b,(n,((i:Int),()))),((),(b++((List.range i).map (L7 n)++List.replicate m 0),())))=some ((b++gF n,()),()):=by
  intro m
  induction m with
  |zero =>
   intro i hi;have:i=8:=by omega
   subst this;refine ar PY (af rfl ?_);rw[List.replicate_zero,List.append_nil];rfl
  |succ m ih =>
   intro i hi;have e2:wI ((8:Int)*wI ((7:Int)-(i:Int)))=8*(7-(i:Int)):=by show IntKind.wrap .i64 (8*IntKind.wrap .i64 (7-(i:Int)))=_;rw[wrap_small (n:=7-(i:Int)) (by omega) (by omega),wrap_small (by omega) (by omega)]
   have e3:wI (lI b+(i:Int))=((b.length+i:Nat):Int):=by show IntKind.wrap .i64 (((b.length:Nat):Int)+(i:Int))=_;rw[wrap_small (by omega) (by omega)];omega
   have hal:((List.range i).map (L7 n)).length=i:=by simp
   generalize hA:(List.range i).map (L7 n)=A at hal;have hlen:(b++(A++List.replicate (m+1) (0:Int))).length=b.length+8:=by simp[hal];omega
   refine ar PY (ae (decide_eq_true (show(i:Int)<8 by omega)) (af (decide_eq_false (by rw[e2];omega)) (ae (cK (decide_eq_true (by rw[e3];omega)) (decide_eq_true ?_)) ?_)))
   ·rw[e3];show((b.length+i:Nat):Int)<(((b++(A++List.replicate (m+1) (0:Int))).length:Nat):Int);rw[hlen];omega
   ·refine aa (a:=(0:Int)) ?_ ?_
    ·show(b++(A++List.replicate (m+1) (0:Int)))[(wI (lI b+(i:Int))).toNat]? = some 0;rw[e3,Int.toNat_natCast,List.getElem?_append_right (by omega),List.getElem?_append_right (by omega),show b.length+i-b.length-A.length=0 by omega];rfl
    ·have e4:List.set (b++(A++List.replicate (m+1) (0:Int))) (wI (lI b+(i:Int))).toNat (IntKind.wrap .u8 (ir .u64 (IntKind.wrap .u64 n) (wI ((8:Int)*wI ((7:Int)-(i:Int))))))=b++((List.range (i+1)).map (L7 n)++List.replicate m 0):=by rw[e3,e2,Int.toNat_natCast,List.set_append_right _ _ (by omega),List.set_append_right _ _ (by omega),show b.length+i-b.length-A.length=0 by omega,List.replicate_succ,List.set_cons_zero,List.range_succ,List.map_append,hA,List.append_assoc];rfl
     have ew:wI ((i:Int)+1)=((i+1:Nat):Int):=aD (n:=8) (by omega) (by omega);exact(congr (congrArg (fun(k:Int) (r:List Int)=>LX G 49 rF Tryz.f49 qT (aK Tryz.prog 49 0) ((b,(n,(k,()))),((),(r,())))) ew) e4).trans (ih (i+1) (by omega))
 refine ae (cK (decide_eq_true (by rw[e];omega)) (cK (decide_eq_true (by rw[e];omega)) (decide_eq_true rfl))) (ae ?_ ?_)
 ·show(!(List.replicate (wI (lI b+8)).toNat (0:Int)).isEmpty)=true;rw[e,Int.toNat_natCast];rfl
 ·have er:nN b (List.replicate (wI (lI b+8)).toNat (0:Int))=b++(([]:List Int)++List.replicate 8 0):=by rw[e,Int.toNat_natCast];unfold nN;rw[List.length_replicate,List.take_of_length_le (by omega),List.drop_replicate,show b.length+8-b.length=8 by omega,List.nil_append]
  exact(congrArg (fun r:List Int=>LX G 49 rF Tryz.f49 qT (aK Tryz.prog 49 0) ((b,(n,((0:Int),()))),((),(r,())))) er).trans (loop 8 0 (by omega))
theorem ahS(hG:HG G)(b:List Int)(s:ByteArray)(hb:b.length+s.size≤1000000):FX G 97 KS ((b,(s,())),())=some ((b++rO s,()),()):=by
 refine av (hG _ _ rfl) ahA ?_;have hl:(b++[w8 ((s.size:Nat):Int)]).length=b.length+1:=by simp
 refine ae (fits (show b.length+1≤_ by omega)) (ae (cK ?_ (fits ?_)) ?_)
 ·show(!(b++[w8 ((s.size:Nat):Int)]).isEmpty)=true
  cases b<;>rfl
 ·show(b++[w8 ((s.size:Nat):Int)]).length+s.size≤_;rw[hl];omega
 ·show some ((((b++[w8 ((s.size:Nat):Int)])++bytesOf s:List Int),()),())=_;rw[List.append_assoc];rfl
theorem oy(s:ByteArray):(bytesOf s).length=s.size:=by unfold bytesOf;rw[List.length_map,Array.length_toList];rfl
theorem iV(n:Int):(gF n).length=8:=by simp[gF]
theorem Ab(s:ByteArray):(rO s).length=s.size+1:=by show(bytesOf s).length+1=_;rw[oy]
theorem rq(e:ag):(dp e).length=e.2.1.size+13:=by unfold dp;rw[List.length_append,List.length_append,Ab,iV];show 4+_=_;omega
theorem aaU(hG:HG G)(b:List Int)(e:ag)(hb:b.length+e.2.1.size≤500000):FX G 68 GL ((b,(e,())),())=some ((b++dp e,()),()):=by
 refine av (hG _ _ rfl) ahx ?_;have l1:(b++cX e.1).length=b.length+4:=by simp[cX]
 have l2:((b++cX e.1)++rO e.2.1).length=b.length+4+(e.2.1.size+1):=by rw[List.length_append,l1,Ab]
 refine aa (WZ hG b e.1 (by omega)) (aa (ahS hG _ e.2.1 (by rw[l1];omega)) (aa (W0 hG _ e.2.2 (by rw[l2];omega)) ?_));show some (((((b++cX e.1)++rO e.2.1)++gF e.2.2,()):List Int×Unit),())=_;rw[List.append_assoc,List.append_assoc];rfl
theorem aaV(hG:HG G)(l:List ID)(hl:l.length≤1000)(hs:l.Pairwise fun a b=>gL a b=true)(hm:∀x∈l,ck x=true):FX G 133 xn ((l,()),())=some ((true,()),()):=by
 refine av (hG _ _ rfl) ahB ?_;have loop:∀(n i:Nat),i+n=l.length→LX G 133 xn Tryz.f133 uh (aK Tryz.prog 133 0) ((l,(l,(((l.length:Nat):Int),((i:Int),())))),((),()))=some ((true,()),()):=by
  intro n
  induction n with
  |zero=>intro i hi;exact ar PZ (af (decide_eq_false (show ¬((i:Int)<((l.length:Nat):Int)) by omega)) rfl)
  |succ n ih =>
   intro i hi;have aO:i<l.length:=by omega
   have hx:l[i]? = some l[i]:=abn aO;have ih:=ih (i+1) (by omega);have ew:=aD aO (by omega);refine ar PZ (ae (aT aO) (aa (aA hx) (aa (Lj (hG _ _ rfl) _) (af (show(!ck l[i])=false by rw[hm _ (List.getElem_mem aO)];rfl) ?_))));by_cases h0:i=0
   ·refine af (decide_eq_false (show ¬((i:Int)>0) by omega)) ?_;rw[wI,ew];exact ih
   ·have hy:l[i-1]? = some l[i-1]:=abn (by omega);have e2:aS l (IntKind.wrap .i64 ((i:Int)-1))=some l[i-1]:=by rw[Zj (by omega) aO (by omega)];exact aA hy
    have h3:=(mi l[i-1] l[i]).2 (ady.1 hs (i-1) i (by omega) aO (by omega));refine ae (decide_eq_true (show((i:Int)>0) by omega)) (aa e2 (aa (Pg hG _ _) (af (decide_eq_false (show ¬(rW l[i-1] l[i]≥0) by omega)) ?_)));rw[wI,ew];exact ih
 exact loop l.length 0 (by omega)
theorem ahT(hG:HG G)(v:ai):FX G 135 Dk ((v,()),())=some ((v.1,()),()):=av (hG _ _ rfl) aah rfl
theorem ahU(hG:HG G)(v:ag):FX G 137 KP ((v,()),())=some ((v.1,()),()):=av (hG _ _ rfl) afp rfl
theorem W9(hG:HG G)(l:List ai)(hl:l.length≤1000):FX G 136134 lD ((l,()),())=some ((l.map (·.1),()),()):=by refine av (hG _ _ rfl) WV ?_;exact br l (fun i (s:List ID)=>LX G 136134 lD Tryz.f134 nm (aK Tryz.prog 134 0) ((l,(((l.length:Nat):Int),(i,()))),((),(s,())))) (fun r s=>((s++r.map (·.1),()),())) (fun m s=>s.length+m≤1000) (fun s _=>by refine ar EO (af (cy _) ?_);simp only[List.map_nil,List.append_nil];rfl) (fun i x r s hi hx xT hk ih=>by refine ar EO (ae (aT hi) (aa (aA hx) (aa (ahT hG x) (ae (fits (by simp;omega)) ?_))));rw[wI,aD hi (by omega)];refine(ih (s++[x.1]) (by simp;omega)).trans ?_;simp) [] (by simpa using hl)
theorem Xa(hG:HG G)(l:List ag)(hl:l.length≤1000):FX G 138136 lE ((l,()),())=some ((l.map (·.1),()),()):=by refine av (hG _ _ rfl) WW ?_;exact br l (fun i (s:List ID)=>LX G 138136 lE Tryz.f136 np (aK Tryz.prog 136 0) ((l,(((l.length:Nat):Int),(i,()))),((),(s,())))) (fun r s=>((s++r.map (·.1),()),())) (fun m s=>s.length+m≤1000) (fun s _=>by refine ar EP (af (cy _) ?_);simp only[List.map_nil,List.append_nil];rfl) (fun i x r s hi hx xT hk ih=>by refine ar EP (ae (aT hi) (aa (aA hx) (aa (ahU hG x) (ae (fits (by simp;omega)) ?_))));rw[wI,aD hi (by omega)];refine(ih (s++[x.1]) (by simp;omega)).trans ?_;simp) [] (by simpa using hl)
theorem ahV(hG:HG G)(l:List ab)(hl:l.length≤1000):FX G 178 AT ((l,l,()),())=some ((true,()),()):=by
 refine av (hG _ _ rfl) ahD ?_;refine af (show((((l.length:Nat):Int)) != ((l.length:Nat):Int))=false by simp) ?_;have loop:∀(n i:Nat),i+n=l.length→LX G 178 AT Tryz.f178 xL (aK Tryz.prog 178 0) ((l,(l,(((l.length:Nat):Int),((i:Int),())))),((),()))=some ((true,()),()):=by
  intro n
  induction n with
  |zero=>intro i hi;exact ar P3 (af (decide_eq_false (show ¬((i:Int)<((l.length:Nat):Int)) by omega)) rfl)
  |succ n ih =>
   intro i hi;have aO:i<l.length:=by omega
   have hx:=aA (abn aO);refine ar P3 (ae (aT aO) (aa hx (aa hx (af (by simp) ?_))));rw[wI,aD aO (by omega)];exact ih (i+1) (by omega)
 exact loop l.length 0 (by omega)
structure Left(es:List (ab×Bool))(rem:List ab):Prop where
 p:(es.map (·.1)).Perm rem
 t:∀e∈es,e.2=true
theorem Left.get{es:List (ab×Bool)}{x:ab}{rem:List ab}(h:Left es (x::rem)):(Option.getD (fJ bg x es) false)=true:=by
 rw[NK];have hx:x∈es.map (·.1):=h.p.mem_iff.2 (by simp);have key:∀{l:List (ab×Bool)},(∀e∈l,e.2=true)→x∈l.map (·.1)→fz x l=some true:=by
  intro l
  induction l with
  |nil=>intro _ h;simp at h
  |cons e r ih =>
   intro h1 h2;rw[fz];by_cases he:e.1=x
   ·rw[if_pos he,h1 e (by simp)]
   ·rw[if_neg he];refine ih (fun q hq=>h1 q (by simp[hq])) ?_;simp only[List.map_cons,List.mem_cons]at h2;exact h2.resolve_left fun k=>he k.symm
 rw[key h.t hx];rfl
theorem Left.del{es:List (ab×Bool)}{x:ab}{rem:List ab}(h:Left es (x::rem)):Left (HF bg x es) rem:=by
 have hx:x∈es.map (·.1):=h.p.mem_iff.2 (by simp);unfold HF
 split
 ·rename_i i hi;rw[EC]at hi;obtain⟨aO,h1,_⟩:=adz.1 hi;have h1:es[i].1=x:=of_decide_eq_true h1;refine⟨?_,fun e he=>h.t e (List.mem_of_mem_eraseIdx he)⟩;have h2:es.Perm (es[i]::es.eraseIdx i):=by
   rw[List.eraseIdx_eq_take_drop_succ]
   conv=>lhs;rw[←List.take_append_drop i es,List.drop_eq_getElem_cons aO]
   exact List.perm_middle
  have h3:=(h2.map (·.1)).symm.trans h.p;rw[List.map_cons,h1]at h3;exact h3.cons_inv
 ·rename_i hi;rw[EC,List.findIdx?_eq_none_iff]at hi;obtain⟨e,he,h1⟩:=ace.1 hx;have:=hi e he;simp[h1]at this
theorem ym:∀l:List ag,(ends l).length=2*l.length
 |[]=>rfl
 |e::r=>by rw[gu];simp[ym r];omega
def tr(es:List ab):List (ab×Bool):=es.map fun x=>(x,true)
theorem Qd(es:List ab):(tr es).map (·.1)=es:=by unfold tr;rw[List.map_map,show((fun e:ab×Bool=>e.1) ∘ fun x=>(x,true))=id from rfl,List.map_id]
theorem acX(a b:List ab):tr (a++b)=tr a++tr b:=List.map_append
theorem Qe(x:ab)(es:List ab)(h:x∉es):jK bg x true (tr es)=tr (es++[x]):=by rw[acX];exact LM true (by rw[Qd];exact h)
theorem ahW(hG:HG G)(d:ak)(h:Wf d):FX G 138 lZ ((d,()),())=some ((true,()),()):=by
 have My:=h.nv;have bz:=h.ne;have hen:=ym d.2;have KV:(an d.1).length≤80:=by rw[h.pd.length_eq,hen];omega
 refine av (hG _ _ rfl) ahC ?_;have Lc:∀es,Left es (an d.1)→LX G 138 lZ Tryz.f138 uj (aK Tryz.prog 138 1) ((d.1,(((d.1.length:Nat):Int),((0:Int),()))),((),(es,())))=some ((true,()),()):=by
  intro es L8;exact br d.1 (fun i (s:List (ab×Bool)×List ai)=>LX G 138 lZ Tryz.f138 uj (aK Tryz.prog 138 1) ((d.1,(((d.1.length:Nat):Int),(i,()))),((),(s.1,())))) (fun r s=>((true,()),())) (fun m s=>Left s.1 (an s.2)∧s.2.length=m∧∃p,p++s.2=d.1) (fun s hs=>by
    obtain⟨h1,h2,_⟩:=hs;have h3:s.2=[]:=abN h2;rw[h3]at h1;have h4:s.1=[]:=by have:=h1.p.length_eq;simpa[an] using this
    refine ar P1 (af (cy _) ?_);rw[h4];rfl)
   (fun i v r s hi hv xT hk ih=>by
    obtain⟨h1,h2,p,hp⟩:=hk;have S5:p.length=i:=by have:=congrArg List.length hp;rw[List.length_append]at this;omega
    obtain⟨s1,s2⟩:=s
    cases s2 with
    |nil=>simp at h2
    |cons v' r' =>
     have BB:v'=v:=by have:=hv;rw[←hp,List.getElem?_append_right (by omega),S5,Nat.sub_self]at this;simpa using this
     subst BB;have hm:v'∈d.1:=acw hv;have ht:=(h.gv v' hm).t;have Oz:v'.2.1.length≤80:=by
      have:v'.2.1.length≤(an d.1).length:=by rw[←hp,kM,eY];simp;omega
      omega
     refine ar P1 (ae (aT hi) (aa (aA hv) (aa (Ec hG _ (by omega)) ?_)));rw[ht];refine aa (ahV hG _ (by omega)) (af rfl ?_);have ew:=aD hi (by omega);have acY:∀es,Left es (v'.2.1++an r')→LX G 138 lZ Tryz.f138 uk (aK Tryz.prog 138 2) ((d.1,(((d.1.length:Nat):Int),((i:Int),(v'.2.1,(((v'.2.1.length:Nat):Int),((0:Int),())))))),((),(es,())))=some ((true,()),()):=by
      intro es L8;exact br v'.2.1 (fun k (s:List (ab×Bool)×List ab)=>LX G 138 lZ Tryz.f138 uk (aK Tryz.prog 138 2) ((d.1,(((d.1.length:Nat):Int),((i:Int),(v'.2.1,(((v'.2.1.length:Nat):Int),(k,())))))),((),(s.1,())))) (fun r s=>((true,()),())) (fun m s=>Left s.1 (s.2++an r')∧s.2.length=m∧∃p,p++s.2=v'.2.1) (fun s hs=>by obtain⟨h5,h6,_⟩:=hs;have h7:s.2=[]:=abN h6;rw[h7,List.nil_append]at h5;refine ar P2 (af (cy _) ?_);rw[wI,ew];exact ih (s.1,r') ⟨h5,by simp at h2;omega,p++[v'],by simpa using hp⟩) (fun k x q s hk hx hqq hh ih2=>by
        obtain⟨h5,h6,p2,hp2⟩:=hh;have anz:p2.length=k:=by have:=congrArg List.length hp2;rw[List.length_append]at this;omega
        obtain⟨s1,s2⟩:=s
        cases s2 with
        |nil=>simp at h6
        |cons x' q' =>
         have Tb:x'=x:=by have:=hx;rw[←hp2,List.getElem?_append_right (by omega),anz,Nat.sub_self]at this;simpa using this
         subst Tb;refine ar P2 (ae (aT hk) (aa (aA hx) (af ?_ ?_)))
         ·show(!(Option.getD (fJ bg x' s1) false))=false;rw[Left.get h5];rfl
         ·rw[wI,aD hk (by omega)];exact ih2 (HF bg x' s1,q') ⟨Left.del h5,by simp at h6;omega,p2++[x'],by simpa using hp2⟩)
       (es,v'.2.1) ⟨L8,rfl,[],rfl⟩
     exact acY s1 (by rw[eY]at h1;exact h1))
   (es,d.1) ⟨L8,rfl,[],rfl⟩
 have E9:=wm h.se;exact br d.2 (fun i (s:List (ab×Bool))=>LX G 138 lZ Tryz.f138 xK (aK Tryz.prog 138 0) ((d.2,(((d.2.length:Nat):Int),(i,()))),(((d,()),()),(s,())))) (fun r s=>((true,()),())) (fun m s=>∃p,s=tr (ends p)∧∃r,p++r=d.2∧r.length=m) (fun s hs=>by
   obtain⟨p,rfl,r,hp,hr⟩:=hs;have h0:r=[]:=abN hr;rw[h0,List.append_nil]at hp;subst hp;refine ar P0 (af (cy _) ?_);refine Lc _ ⟨?_,fun e he=>?_⟩
   ·rw[Qd];exact h.pd.symm
   ·obtain⟨x,_,rfl⟩:=ace.1 he;rfl)
  (fun i e r s hi he xT hk ih=>by
   obtain⟨p,rfl,q,hp,hq⟩:=hk;have S5:p.length=i:=by have:=congrArg List.length hp;rw[List.length_append]at this;omega
   cases q with
   |nil=>simp at hq
   |cons e' q' =>
    have Og:e'=e:=by have:=he;rw[←hp,List.getElem?_append_right (by omega),S5,Nat.sub_self]at this;simpa using this
    subst Og;refine ar P0 (ae (aT hi) (aa (aA he) ?_));rw[wI,aD hi (by omega)];rw[←hp,Ln,gu]at E9;obtain⟨_,h6,h7⟩:=adk.1 E9;have e0:ends (p++[e'])=(ends p++[(e'.1,0)])++[(e'.1,1)]:=by rw[Ln,gu,show ends []=[] from rfl,List.append_assoc];rfl
    have m1:=Qe (e'.1,0) (ends p) fun k=>h7 _ k _ (by simp) rfl;have m2:=Qe (e'.1,1) (ends p++[(e'.1,0)]) fun k=>by
     rcases abX.1 k with k|k
     ·exact h7 _ k _ (by simp) rfl
     ·simp at k
    rw[←e0]at m2;have:=ih (tr (ends (p++[e']))) ⟨p++[e'],rfl,q',by simpa using hp,by simp at hq;omega⟩;rw[←m2,←m1]at this;exact this)
  [] ⟨[],rfl,d.2,rfl,rfl⟩
theorem aaW(hG:HG G)(s:ByteArray)(n:Int)(hs:s.size≤100000000):FX G 140 GM ((s,(n,())),())=some ((!kI s,()),()):=av (hG _ _ rfl) ahF (aa (agb (hG _ _ rfl) s hs) rfl)
theorem aaX(hG:HG G)(s:ByteArray)(n:Int):FX G 142 GN ((s,(n,())),())=some ((!jX n,()),()):=av (hG _ _ rfl) ahG (aa (agc (hG _ _ rfl) n) rfl)
theorem FL(hG:HG G)(v:ai)(h:kI v.2.2.1=true):FX G 14100000180 iI ((v,()),(((),()),()))=some ((false,()),(((),()),())):=by refine av (hG _ _ rfl) FH (aa (aaW hG v.2.2.1 v.2.2.2 (by have:=zQ h;omega)) ?_);show some (((!kI v.2.2.1,()):Bool×Unit),_)=_;rw[h];rfl
theorem FM(hG:HG G)(l:List ai)(hl:l.length≤1000)(h:∀v∈l,kI v.2.2.1=true):FX G 14100181203 dM ((l,()),(((),()),()))=some (((-1:Int),()),(((),()),())):=by
 refine av (hG _ _ rfl) FB ?_;have loop:∀(n i:Nat),i+n=l.length→LX G 14100181203 dM Tryz.f203 fX (aK Tryz.prog 203 0) ((l,(((l.length:Nat):Int),((i:Int),()))),((((),()),()),()))=some (((-1:Int),()),(((),()),())):=by
  intro n
  induction n with
  |zero=>intro i hi;exact ar rK (af (decide_eq_false (show ¬((i:Int)<((l.length:Nat):Int)) by omega)) rfl)
  |succ n ih =>
   intro i hi;have aO:i<l.length:=by omega
   refine ar rK (ae (aT aO) (aa (aA (abn aO)) (aa (FL hG _ (h _ (ac8 aO))) (af rfl ?_))));rw[wI,aD aO (by omega)];exact ih (i+1) (by omega)
 exact loop l.length 0 (by omega)
theorem FN(hG:HG G)(l:List ai)(hl:l.length≤1000)(h:∀v∈l,kI v.2.2.1=true):FX G 14100181179 iE ((l,()),(((),()),()))=some ((false,()),(((),()),())):=av (hG _ _ rfl) Fz (aa (FM hG l hl h) rfl)
theorem FO(hG:HG G)(v:ag)(h:kI v.2.1=true):FX G 14100000182 iK ((v,()),(((),()),()))=some ((false,()),(((),()),())):=by refine av (hG _ _ rfl) FJ (aa (aaW hG v.2.1 v.2.2 (by have:=zQ h;omega)) ?_);show some (((!kI v.2.1,()):Bool×Unit),_)=_;rw[h];rfl
theorem FP(hG:HG G)(l:List ag)(hl:l.length≤1000)(h:∀v∈l,kI v.2.1=true):FX G 14100183204 dO ((l,()),(((),()),()))=some (((-1:Int),()),(((),()),())):=by
 refine av (hG _ _ rfl) FF ?_;have loop:∀(n i:Nat),i+n=l.length→LX G 14100183204 dO Tryz.f204 fZ (aK Tryz.prog 204 0) ((l,(((l.length:Nat):Int),((i:Int),()))),((((),()),()),()))=some (((-1:Int),()),(((),()),())):=by
  intro n
  induction n with
  |zero=>intro i hi;exact ar rM (af (decide_eq_false (show ¬((i:Int)<((l.length:Nat):Int)) by omega)) rfl)
  |succ n ih =>
   intro i hi;have aO:i<l.length:=by omega
   refine ar rM (ae (aT aO) (aa (aA (abn aO)) (aa (FO hG _ (h _ (ac8 aO))) (af rfl ?_))));rw[wI,aD aO (by omega)];exact ih (i+1) (by omega)
 exact loop l.length 0 (by omega)
theorem FQ(hG:HG G)(l:List ag)(hl:l.length≤1000)(h:∀v∈l,kI v.2.1=true):FX G 14100183181 iG ((l,()),(((),()),()))=some ((false,()),(((),()),())):=av (hG _ _ rfl) FD (aa (FP hG l hl h) rfl)
theorem Xb(hG:HG G)(d:ak)(h1:d.1.length≤1000)(h2:d.2.length≤1000)(hv:∀v∈d.1,kI v.2.2.1=true)(he:∀v∈d.2,kI v.2.1=true):FX G 141139 sR ((d,()),())=some ((false,()),()) :=av (hG _ _ rfl) WX (aa (FN hG d.1 h1 hv) (af rfl (aa (FQ hG d.2 h2 he) rfl)))
theorem FR(hG:HG G)(v:ai)(h:jX v.2.2.2=true):FX G 14300000180 iJ ((v,()),(((),()),()))=some ((false,()),(((),()),())):=by refine av (hG _ _ rfl) FI (aa (aaX hG v.2.2.1 v.2.2.2) ?_);show some (((!jX v.2.2.2,()):Bool×Unit),_)=_;rw[h];rfl
theorem FU(hG:HG G)(l:List ai)(hl:l.length≤1000)(h:∀v∈l,jX v.2.2.2=true):FX G 14300181203 dN ((l,()),(((),()),()))=some (((-1:Int),()),(((),()),())):=by
 refine av (hG _ _ rfl) FC ?_;have loop:∀(n i:Nat),i+n=l.length→LX G 14300181203 dN Tryz.f203 fY (aK Tryz.prog 203 0) ((l,(((l.length:Nat):Int),((i:Int),()))),((((),()),()),()))=some (((-1:Int),()),(((),()),())):=by
  intro n
  induction n with
  |zero=>intro i hi;exact ar rL (af (decide_eq_false (show ¬((i:Int)<((l.length:Nat):Int)) by omega)) rfl)
  |succ n ih =>
   intro i hi;have aO:i<l.length:=by omega
   refine ar rL (ae (aT aO) (aa (aA (abn aO)) (aa (FR hG _ (h _ (ac8 aO))) (af rfl ?_))));rw[wI,aD aO (by omega)];exact ih (i+1) (by omega)
 exact loop l.length 0 (by omega)
theorem FV(hG:HG G)(l:List ai)(hl:l.length≤1000)(h:∀v∈l,jX v.2.2.2=true):FX G 14300181179 iF ((l,()),(((),()),()))=some ((false,()),(((),()),())):=av (hG _ _ rfl) FA (aa (FU hG l hl h) rfl)
theorem FY(hG:HG G)(v:ag)(h:jX v.2.2=true):FX G 14300000182 iL ((v,()),(((),()),()))=some ((false,()),(((),()),())):=by refine av (hG _ _ rfl) FK (aa (aaX hG v.2.1 v.2.2) ?_);show some (((!jX v.2.2,()):Bool×Unit),_)=_;rw[h];rfl
theorem FZ(hG:HG G)(l:List ag)(hl:l.length≤1000)(h:∀v∈l,jX v.2.2=true):FX G 14300183204 dP ((l,()),(((),()),()))=some (((-1:Int),()),(((),()),())):=by
 refine av (hG _ _ rfl) FG ?_;have loop:∀(n i:Nat),i+n=l.length→LX G 14300183204 dP Tryz.f204 gh (aK Tryz.prog 204 0) ((l,(((l.length:Nat):Int),((i:Int),()))),((((),()),()),()))=some (((-1:Int),()),(((),()),())):=by
  intro n
  induction n with
  |zero=>intro i hi;exact ar rN (af (decide_eq_false (show ¬((i:Int)<((l.length:Nat):Int)) by omega)) rfl)
  |succ n ih =>
   intro i hi;have aO:i<l.length:=by omega
   refine ar rN (ae (aT aO) (aa (aA (abn aO)) (aa (FY hG _ (h _ (ac8 aO))) (af rfl ?_))));rw[wI,aD aO (by omega)];exact ih (i+1) (by omega)
 exact loop l.length 0 (by omega)
theorem F2(hG:HG G)(l:List ag)(hl:l.length≤1000)(h:∀v∈l,jX v.2.2=true):FX G 14300183181 iH ((l,()),(((),()),()))=some ((false,()),(((),()),())):=av (hG _ _ rfl) FE (aa (FZ hG l hl h) rfl)
theorem Xc(hG:HG G)(d:ak)(h1:d.1.length≤1000)(h2:d.2.length≤1000)(hv:∀v∈d.1,jX v.2.2.2=true)(he:∀v∈d.2,jX v.2.2=true):FX G 143139 sS ((d,()),())=some ((false,()),()) :=av (hG _ _ rfl) WY (aa (FV hG d.1 h1 hv) (af rfl (aa (F2 hG d.2 h2 he) rfl)))
theorem ahY(hG:HG G)(d:ak)(h:Wf d):FX G 95 KR ((d,()),())=some (((0:Int),()),()):=by have My:=h.nv;have bz:=h.ne;obtain⟨n1,n2,n3,n4⟩:=WI h;refine av (hG _ _ rfl) ahy ?_;refine af (decide_eq_false (show ¬(((d.1.length:Nat):Int)>24) by omega)) (af (decide_eq_false (show ¬(((d.2.length:Nat):Int)>40) by omega)) ?_);refine aa (W9 hG d.1 (by omega)) (aa (aaV hG _ (by rw[List.length_map];omega) n1 n2) (af rfl ?_));refine aa (Xa hG d.2 (by omega)) (aa (aaV hG _ (by rw[List.length_map];omega) n3 n4) (af rfl ?_));refine aa (ahW hG d h) (af rfl (aa (Xb hG d (by omega) (by omega) (fun v hv=>(h.gv v hv).l) fun v hv=>(h.ge v hv).l) (af rfl ?_)));exact aa (Xc hG d (by omega) (by omega) (fun v hv=>(h.gv v hv).a) fun v hv=>(h.ge v hv).a) (af rfl rfl)
theorem ahZ(hG:HG G)(hp:rj G)(d:ak)(h:Wf d)(hg:bP d=0):FX G 67 KQ ((d,()),())=some (((0:Int),()),()):=by refine av (hG _ _ rfl) ahw (aa (ahY hG d h) (af rfl ?_));refine aa (hp d h) (af ?_ rfl);show(!decide (bP d=0))=false;rw[decide_eq_true hg];rfl
def bh:List ag→Nat→List (ID×Int)
 |[],_=>[]
 |e::r,i=>(e.1,(i:Int))::bh r (i+1)
theorem ER:∀(a b:List ag) (i:Nat),bh (a++b) i=bh a i++bh b (i+a.length)
 |[],_,_=>rfl
 |e::r,b,i=>by rw[List.cons_append,bh,bh,ER r b (i+1),List.length_cons,List.cons_append,show i+1+r.length=i+(r.length+1) by omega]
theorem A9:∀(l:List ag) (i:Nat),(bh l i).map (·.1)=l.map (·.1)
 |[],_=>rfl
 |e::r,i=>by rw[bh,List.map_cons,List.map_cons,A9 r]
theorem N5{α:Type}(x:ID)(es:List (ID×α)):r9 fV x es=es.findIdx? fun e=>decide (e.1=x):=by
 show List.findIdx? (fun e:ID×α=>((x.1==e.1.1)&&(x.2==e.1.2))) es=_;congr 1;funext e;rw[lH x e.1];by_cases h:x=e.1
 ·rw[decide_eq_true h,decide_eq_true h.symm]
 ·rw[decide_eq_false h,decide_eq_false (fun k=>h k.symm)]
theorem acZ{α:Type}{x:ID}(v:α){es:List (ID×α)}(h:x∉es.map (·.1)):jK fV x v es=es++[(x,v)]:=by
 have e:r9 fV x es=none:=by rw[N5,List.findIdx?_eq_none_iff];intro q hq;exact decide_eq_false fun k=>h (ace.2 ⟨q,hq,k⟩)
 unfold jK
 split
 ·rename_i i k;rw[e]at k;cases k
 ·rfl
def rP(pl:List (ID×Int))(y:ab):Int:=w8 (wI ((Option.getD (fJ fV y.1 pl) (0:Int))+(wI ((128:Int)*y.2))))
def dD(pl:List (ID×Int))(v:ai):List Int:=dp (v.1,v.2.2)++(w8 ((v.2.1.length:Nat):Int)::v.2.1.map (rP pl))
def fB(d:ak):List Int:=w8 ((d.2.length:Nat):Int)::(d.2.flatMap dp++(w8 ((d.1.length:Nat):Int)::d.1.flatMap (dD (bh d.2 0))))
def aaY(g:ax):List Int:=cX g.1.1++(w8 g.1.2::(cX g.2.1++[w8 g.2.2]))
def ac0(s:StateT):List Int:=fB s.1++s.2.flatMap aaY
theorem yn{s:ByteArray}(h:kI s=true):s.size≤16:=zQ h
theorem aaZ(hG:HG G)(hp:rj G)(d:ak)(h:Wf d)(hg:bP d=0):FX G 42 kh ((d,()),())=some ((fB d,((0:Int),())),()):=by
 have My:=h.nv;have bz:=h.ne;have KV:(an d.1).length≤80:=by rw[h.pd.length_eq,ym];omega
 have ah0:∀v∈d.1,v.2.1.length≤80:=fun v hv=>by obtain⟨a,b,he⟩:=adh hv;rw[he,kM,eY]at KV;simp at KV;omega
 refine av (hG _ _ rfl) ahv (aa (ahZ hG hp d h hg) (af rfl ?_));have Lc:∀b:List Int,b.length≤20000→LX G 42 kh Tryz.f42 uf (aK Tryz.prog 42 1) ((d.1,(((d.1.length:Nat):Int),((0:Int),()))),((),(bh d.2 0,(b,()))))=some ((b++d.1.flatMap (dD (bh d.2 0)),((0:Int),())),()):=by
  intro b hb;exact br d.1 (fun i (s:List Int)=>LX G 42 kh Tryz.f42 uf (aK Tryz.prog 42 1) ((d.1,(((d.1.length:Nat):Int),(i,()))),((),(bh d.2 0,(s,()))))) (fun r s=>((s++r.flatMap (dD (bh d.2 0)),((0:Int),())),())) (fun m s=>s.length+m*200≤40000) (fun s hs=>by refine ar PW (af (cy _) ?_);simp only[List.flatMap_nil,List.append_nil]) (fun i v r s hi hv xT hk ih=>by
    have hm:v∈d.1:=acw hv;have iW:=yn (h.gv v hm).l;have Oz:=ah0 v hm;have l1:(s++dp (v.1,v.2.2)).length=s.length+(v.2.2.1.size+13):=by rw[List.length_append,rq]
    refine ar PW (ae (aT hi) (aa (aA hv) (aa (aaU hG s (v.1,v.2.2) (by show s.length+v.2.2.1.size≤_;omega)) (ae (fits ?_) ?_))))
    ·show(s++dp (v.1,v.2.2)).length+1≤_;rw[l1];omega
    have ew:=aD hi (by omega);have acY:=br v.2.1 (fun k (q:List Int)=>LX G 42 kh Tryz.f42 xJ (aK Tryz.prog 42 2) ((d.1,(((d.1.length:Nat):Int),((i:Int),(v.2.1,(((v.2.1.length:Nat):Int),(k,())))))),((),(bh d.2 0,(q,()))))) (fun r' q=>(((q++r'.map (rP (bh d.2 0)))++r.flatMap (dD (bh d.2 0)),((0:Int),())),())) (fun m q=>q.length+m=s.length+(v.2.2.1.size+14)+v.2.1.length) (fun q hq=>by refine ar PX (af (cy _) ?_);rw[wI,ew];refine(ih q (by omega)).trans ?_;simp only[List.map_nil,List.append_nil]) (fun k x r' q wa hx hqq hh ih2=>by refine ar PX (ae (aT wa) (aa (aA hx) (ae (fits (show q.length+1≤_ by omega)) ?_)));rw[wI,aD wa (by omega)];refine(ih2 (q++[rP (bh d.2 0) x]) (by simp;omega)).trans ?_;simp only[List.map_cons,List.append_assoc,List.singleton_append,List.cons_append,List.nil_append]) ((s++dp (v.1,v.2.2))++[w8 ((v.2.1.length:Nat):Int)]) (by rw[List.length_append,l1];simp;omega);refine acY.trans ?_;simp only[List.flatMap_cons,dD,List.append_assoc,List.singleton_append,List.cons_append,List.nil_append])
   b (by omega)
 have hse:=h.se;have key:=br d.2 (fun i (s:List ag×List Int)=>LX G 42 kh Tryz.f42 uc (aK Tryz.prog 42 0) ((d.2,(((d.2.length:Nat):Int),(i,()))),(((d,()),()),(bh s.1 0,(s.2,()))))) (fun r s=>(((s.2++r.flatMap dp)++(w8 ((d.1.length:Nat):Int)::d.1.flatMap (dD (bh d.2 0))),((0:Int),())),())) (fun m s=>s.2.length+m*50≤10000∧∃r,s.1++r=d.2∧r.length=m) (fun s hs=>by obtain⟨h1,r,h2,h3⟩:=hs;have h0:r=[]:=abN h3;rw[h0,List.append_nil]at h2;refine ar PV (af (cy _) (ae (fits (show s.2.length+1≤_ by omega)) ?_));rw[h2];refine(Lc (s.2++[w8 ((d.1.length:Nat):Int)]) (by simp;omega)).trans ?_;simp only[List.flatMap_nil,List.append_nil,List.append_assoc,List.singleton_append,List.cons_append,List.nil_append];rfl) (fun i e r s hi he xT hk ih=>by
   obtain⟨p,b⟩:=s;obtain⟨h1,q,hq,hql⟩:=hk;have hq:p++q=d.2:=hq;have S5:p.length=i:=by have:=congrArg List.length hq;rw[List.length_append]at this;omega
   cases q with
   |nil=>simp at hql
   |cons e' q' =>
    have Og:e'=e:=by have:=he;rw[←hq,List.getElem?_append_right (by omega),S5,Nat.sub_self]at this;simpa using this
    subst Og;have hm:e'∈d.2:=acw he;have iW:=yn (h.ge e' hm).l;have h1:b.length+(r.length+1)*50≤10000:=h1;refine ar PV (ae (aT hi) (aa (aA he) (aa (aaU hG b e' (by omega)) ?_)));have hnk:e'.1∉(bh p 0).map (·.1):=by rw[A9];intro k;obtain⟨u,hu,hue⟩:=ace.1 k;have h5:=hse;rw[←hq]at h5;have:=(List.pairwise_append.1 h5).2.2 u hu e' (by simp);rw[hue,bZ]at this;cases this
    have m1:jK fV e'.1 (i:Int) (bh p 0)=bh (p++[e']) 0:=by rw[ER,Nat.zero_add,S5];exact acZ (i:Int) hnk
    have ew:=aD hi (by omega);have:=ih (p++[e'],b++dp e') ⟨by show(b++dp e').length+_≤_;rw[List.length_append,rq];omega,q',by simpa using hq,by simp at hql;omega⟩;refine(congr (congrArg (fun(k:Int) (pl:List (ID×Int))=>LX G 42 kh Tryz.f42 uc (aK Tryz.prog 42 0) ((d.2,(((d.2.length:Nat):Int),(k,()))),(((d,()),()),(pl,(b++dp e',()))))) ew) m1).trans (this.trans ?_);simp only[List.flatMap_cons,List.append_assoc])
  ([],[w8 ((d.2.length:Nat):Int)]) ⟨by show 1+d.2.length*50≤_;omega,d.2,rfl,rfl⟩
 exact key
theorem tl{α β:Type}(f:α→List β)(k:Nat):∀l:List α,(∀e∈l,(f e).length≤k)→(l.flatMap f).length≤k*l.length
 |[],_=>by simp
 |e::r,h=>by have h1:=h e (by simp);have h2:=tl f k r fun q hq=>h q (by simp[hq]);rw[List.flatMap_cons,List.length_append,List.length_cons,Nat.mul_succ];omega
theorem yp{d:ak}(h:Wf d):(fB d).length≤5000:=by
 have My:=h.nv;have bz:=h.ne;have KV:(an d.1).length≤80:=by rw[h.pd.length_eq,ym];omega
 have h1:=tl dp 29 d.2 fun e he=>by have:=yn (h.ge e he).l;rw[rq];omega
 have h2:=tl (dD (bh d.2 0)) 110 d.1 fun v hv=>by have:=yn (h.gv v hv).l;obtain⟨a,b,he⟩:=adh hv;rw[he,kM,eY]at KV;unfold dD;rw[List.length_append,rq,List.length_cons,List.length_map];simp at KV ⊢;omega
 unfold fB;rw[List.length_cons,List.length_append,List.length_cons];omega
end Go.Vs
set_option autoImplicit false
namespace Go.Vs
open Go
theorem L9{row:List ab}{x:ab}(h:x∈row):jE row x∈row:=by have hl:0<row.length:=List.length_pos_of_mem h;unfold jE dB;rw[if_pos h];have aO:((idx x row 0).toNat+(row.length-1))%row.length<row.length:=adw _ hl;rw[List.getElem?_eq_getElem aO];exact ac8 aO
theorem Wf.md{d:ak}(h:Wf d){x:ab}(hx:x∈an d.1):nq x=true:=by obtain⟨e,he,h1,h2⟩:=dZ.1 (h.pd.mem_iff.1 hx);unfold nq;rw[←h1,(h.ge e he).i,Bool.true_and];exact decide_eq_true h2
def bB(l:List ax):Prop:=∀g∈l,nq g.1=true∧(g.2=zD∨nq g.2=true)
theorem Wf.ah{d:ak}(h:Wf d){x:ab}(hx:x∈an d.1):dk d x=zD∨nq (dk d x)=true:=by
 obtain⟨v,hv,hm⟩:=aU.1 hx;rw[Hf h.rw hv hm];have h1:=L9 hm;have h2:=L9 h1
 split
 ·split
  ·exact .inl rfl
  ·exact .inr (h.md (aU.2 ⟨v,hv,h2⟩))
 ·exact .inr (h.md (aU.2 ⟨v,hv,h1⟩))
theorem bB.zero:bB []:=fun g hg=>by cases hg
theorem bB.add{l:List ax}(h:bB l){g:ax}(h1:nq g.1=true)(h2:g.2=zD∨nq g.2=true):bB (bS l g):=by
 unfold bS
 split
 ·exact h
 ·intro q hq;rcases yd hq with rfl|⟨k,_⟩
  ·exact⟨h1,h2⟩
  ·exact h q k
theorem HA{x:ID}(h:ck x=true){i:Int}(hi:i=0∨i=1):nq (x,i)=true:=by unfold nq;rw[h,Bool.true_and];exact decide_eq_true hi
theorem bB.one{s:StateT}(h:eI s)(hg:bB s.2)(o:bq):bB (ke s o).1.2:=by
 unfold ke
 split
 ·exact bB.zero
 split
 ·unfold ov
  split;· exact bB.zero
  split;· exact bB.zero
  exact hg
 split
 ·unfold vq
  split
  ·exact bB.zero
  ·split
   ·exact bB.zero
   ·exact hg
 split
 ·unfold ou
  split;· exact bB.zero
  split;· exact bB.zero
  split;· exact bB.zero
  split;· exact bB.zero
  split;· exact bB.zero
  exact hg
 split
 ·unfold D4
  split;· exact bB.zero
  rename_i h1;have hs:=pY h1;have d0:=h.d.kR hs (s:=0) (.inl rfl);have d1:=h.d.kR hs (s:=1) (.inr rfl);exact(hg.add (h.d.md d0) (h.d.ah d0)).add (h.d.md d1) (h.d.ah d1)
 split
 ·unfold kJ
  split;· exact bB.zero
  split;· exact bB.zero
  split;· exact bB.zero
  split;· exact bB.zero
  split;· exact bB.zero
  exact hg
 split
 ·unfold j0
  split
  ·exact bB.zero
  ·rename_i v hv
   split
   ·rename_i r0 r1 hr;have XH:=eO hv;have m0:=h.d.md (aU.2 ⟨v,XH,by rw[hr];simp⟩:r0∈an s.1.1);have m1:=h.d.md (aU.2 ⟨v,XH,by rw[hr];simp⟩:r1∈an s.1.1);have key:∀a b:ab,nq a=true→nq b=true→bB (Jo s.2 a b):=fun a b ha hb=>by
     have hi:ck b.1=true:=(Bool.and_eq_true _ _▸(show(ck b.1&&decide (b.2=0∨b.2=1))=true from hb)).1;have ht:∀i,oL a b i=zD∨nq (oL a b i)=true:=fun i=>by
      unfold oL;split
      ·exact .inr ha
      ·exact .inl rfl
     exact(hg.add (g:=((b.1,0),oL a b 0)) (HA hi (.inl rfl)) (ht 0)).add (g:=((b.1,1),oL a b 1)) (HA hi (.inr rfl)) (ht 1)
    unfold je
    split;· exact bB.zero
    split
    ·exact key r1 r0 m1 m0
    split
    ·exact key r0 r1 m0 m1
    ·exact bB.zero
   ·exact bB.zero
 ·unfold wg
  split
  ·exact hg
  ·exact bB.zero
theorem bB.go:∀(l:List bq) {s:StateT},eI s→bB s.2→bB (D5 l s).1.2
 |[],_,_,h=>h
 |o::r,s,hw,h=>by
  unfold D5
  split
  ·exact bB.zero
  ·exact bB.go r (hw.one o) (bB.one hw h o)
theorem bB.try{s:StateT}(hw:eI s)(h:bB s.2)(l:List bq):bB (il s l).2:=by
 unfold il
 split
 ·exact h
 ·unfold cV
  split
  ·exact bB.zero
  ·exact bB.go l hw h
theorem bB.all:∀(l:List (List bq)) {s:StateT},eI s→bB s.2→bB (kc l s).2
 |[],_,_,h=>h
 |e::r,_,hw,h=>bB.all r (hw.try e) (bB.try hw h e)
theorem ES(n:Int):w8 n=n%256:=rfl
theorem HB(n:Int):0≤w8 n∧w8 n<256:=by rw[ES];omega
theorem Zt(n:Int):gF n=[(n%18446744073709551616) / 72057594037927936%256,(n%18446744073709551616) / 281474976710656%256,(n%18446744073709551616) / 1099511627776%256,(n%18446744073709551616) / 4294967296%256,(n%18446744073709551616) / 16777216%256,(n%18446744073709551616) / 65536%256,(n%18446744073709551616) / 256%256,n%18446744073709551616%256]:=by have e:∀k:Int,0≤k→Int.fdiv (n%18446744073709551616) k=(n%18446744073709551616) / k:=fun k hk=>Int.fdiv_eq_ediv_of_nonneg _ hk;have h:gF n=[Int.fdiv (n%18446744073709551616) 72057594037927936%256,Int.fdiv (n%18446744073709551616) 281474976710656%256,Int.fdiv (n%18446744073709551616) 1099511627776%256,Int.fdiv (n%18446744073709551616) 4294967296%256,Int.fdiv (n%18446744073709551616) 16777216%256,Int.fdiv (n%18446744073709551616) 65536%256,Int.fdiv (n%18446744073709551616) 256%256,Int.fdiv (n%18446744073709551616) 1%256]:=rfl;rw[h,e _ (by decide),e _ (by decide),e _ (by decide),e _ (by decide),e _ (by decide),e _ (by decide),e _ (by decide),e _ (by decide),Int.ediv_one]
theorem Sp(N:Int)(h0:0≤N)(h1:N<18446744073709551616):(((((((N / 72057594037927936%256*256+N / 281474976710656%256)*256+N / 1099511627776%256)*256+N / 4294967296%256)*256+N / 16777216%256)*256+N / 65536%256)*256+N / 256%256)*256+N%256)=N:=by omega
theorem Ma{s t:ByteArray}(h:bytesOf s=bytesOf t):s=t:=by unfold bytesOf at h;have:=List.map_inj_right (f:=fun b:UInt8=>(b.toNat:Int)) (fun a b AW=>UInt8.toNat_inj.1 (by exact_mod_cast AW)) |>.1 h;obtain⟨⟨l⟩⟩:=s;obtain⟨⟨m⟩⟩:=t;simp only at this;rw[this]
structure ac1(e:ag):Prop where
 i:ck e.1=true
 l:kI e.2.1=true
 a:jX e.2.2=true
theorem GE.th{e:ag}(h:GE e):ac1 e:=⟨h.i,h.l,h.a⟩
theorem GV.th{v:ai}(h:GV v):ac1 (v.1,v.2.2):=⟨h.i,h.l,h.a⟩
theorem ET(x:ID):∀(l:List ag) (i:Nat),fJ fV x (bh l i)=(l.findIdx? fun e=>decide (e.1=x)).map fun j=>((i+j:Nat):Int)
 |[],i=>by unfold fJ;rw[N5];rfl
 |e::r,i=>by
  have ih:=ET x r (i+1);unfold fJ at ih ⊢;rw[N5]at ih ⊢;rw[bh,List.findIdx?_cons,List.findIdx?_cons];by_cases h:e.1=x
  ·simp only[h,decide_true,if_true];rfl
  ·simp only[decide_eq_false h];have e2:(r.findIdx? fun e=>decide (e.1=x)).map (fun j=>((i+1+j:Nat):Int))=((r.findIdx? fun e=>decide (e.1=x)).map (·+1)).map fun j=>((i+j:Nat):Int):=by rw[Option.map_map];congr 1;funext j;show((i+1+j:Nat):Int)=((i+(j+1):Nat):Int);congr 1;omega
   refine Eq.trans ?_ e2
   cases h2:(bh r (i+1)).findIdx? fun e=>decide (e.1=x)<;>rw[h2]at ih
   ·exact ih
   ·exact ih
def EU(l:List ag)(x:ID):Int:=match l.findIdx? fun e=>decide (e.1=x) with|some j=>(j:Int)|none=>0
theorem Sq(l:List ag)(x:ID):Option.getD (fJ fV x (bh l 0)) (0:Int)=EU l x:=by
 rw[ET];unfold EU
 split
 ·rename_i j h;rw[h];simp
 ·rename_i h;rw[h];rfl
theorem Sr{l:List ag}{x:ID}(h:∃e∈l,e.1=x):∃j,EU l x=((j:Nat):Int)∧∃hj:j<l.length,l[j].1=x:=by
 obtain⟨e,he,h1⟩:=h;unfold EU
 cases h2:l.findIdx? fun e=>decide (e.1=x) with
 |none=>rw[List.findIdx?_eq_none_iff]at h2;have:=h2 e he;simp[h1]at this
 |some j =>obtain⟨h3,h4,_⟩:=adz.1 h2;exact⟨j,rfl,h3,of_decide_eq_true h4⟩
theorem Xd{l:List ag}(hl:l.length≤40){y:ab}(hy:y∈ends l):∃j:Nat,rP (bh l 0) y=(j:Int)+128*y.2∧(y.2=0∨y.2=1)∧EU l y.1=(j:Int)∧∃hj:j<l.length,l[j].1=y.1:=by obtain⟨e,he,h1,h2⟩:=dZ.1 hy;obtain⟨j,h3,h4,h5⟩:=Sr ⟨e,he,h1⟩;refine⟨j,?_,h2,h3,h4,h5⟩;unfold rP;rw[Sq,h3,ES];rw[show wI ((128:Int)*y.2)=128*y.2 from wrap_small (by omega) (by omega),show wI ((j:Int)+128*y.2)=(j:Int)+128*y.2 from wrap_small (by omega) (by omega)];omega
structure asz(l:List ag)(v:ai):Prop where
 g:GV v
 n:v.2.1.length≤80
 m:∀x∈v.2.1,x∈ends l
theorem nG{x:ab}(h:x=zD∨nq x=true):(0≤x.1.1∧x.1.1≤8∧0≤x.1.2∧x.1.2≤1048576)∧(0≤x.2∧x.2≤1):=by
 rcases h with rfl|h
 ·exact⟨by decide,by decide⟩
 ·obtain⟨h1,h2⟩:=(Bool.and_eq_true _ _▸(show(ck x.1&&decide (x.2=0∨x.2=1))=true from h));have h1:1≤x.1.1∧x.1.1≤8∧1≤x.1.2∧x.1.2≤1048576:=of_decide_eq_true h1;have h2:=of_decide_eq_true h2;omega
def dE(l:List Int):Prop:=∀c∈l,0≤c∧c<256
theorem Mb:∀(l:List Int) (r:ByteArray),dE l→bytesOf (l.foldl (fun r n=>r.push (UInt8.ofNat n.toNat)) r)=bytesOf r++l
 |[],r,_=>by simp
 |c::l,r,h=>by
  rw[List.foldl_cons,Mb l _ (fun x hx=>h x (by simp[hx]))];have hc:=h c (by simp);have e:bytesOf (r.push (UInt8.ofNat c.toNat))=bytesOf r++[c]:=by
   unfold bytesOf;show((r.data.push _).toList).map _=_;rw[Array.toList_push,List.map_append];congr 1;have h1:((UInt8.ofNat c.toNat).toNat:Int)=c:=by
    rw[UInt8.toNat_ofNat'];have:c.toNat<256:=by omega
    rw[Nat.mod_eq_of_lt (by simpa using this)];omega
   simp only[List.map_cons,List.map_nil,h1]
  rw[e,List.append_assoc];rfl
theorem Ss{l:List Int}(h:dE l):bytesOf (strOf l)=l:=by have:=Mb l ByteArray.empty h;exact this
theorem dE.app{a b:List Int}(ha:dE a)(hb:dE b):dE (a++b):=fun c hc=>(abX.1 hc).elim (ha c) (hb c)
theorem dE.cons{n:Int}{b:List Int}(hb:dE b):dE (w8 n::b):=fun c hc=>by
 rcases abz.1 hc with rfl|hc
 ·exact HB n
 ·exact hb c hc
theorem dE.nil:dE []:=fun c hc=>by cases hc
theorem dE.flat{α:Type}{f:α→List Int}(hf:∀a,dE (f a))(l:List α):dE (l.flatMap f):=fun c hc=>by obtain⟨a,_,h⟩:=List.mem_flatMap.1 hc;exact hf a c h
theorem dE.cX(x:ID):dE (cX x):=dE.nil.cons.cons.cons.cons
theorem dE.gF(n:Int):dE (gF n):=fun c hc=>by obtain⟨i,_,rfl⟩:=ace.1 hc;exact HB _
theorem dE.bytesOf(s:ByteArray):dE (bytesOf s):=fun c hc=>by obtain⟨i,_,rfl⟩:=ace.1 hc;have:=i.toNat_lt;omega
theorem dE.Xe(e:ag):dE (dp e):=(dE.cX _).app ((dE.bytesOf _).cons.app (dE.gF _))
theorem dE.Ev(pl:List (ID×Int))(v:ai):dE (dD pl v):=(dE.Xe _).app (dE.cons fun c hc=>by obtain⟨i,_,rfl⟩:=ace.1 hc;exact HB _)
theorem dE.fB(d:ak):dE (fB d):=((dE.flat dE.Xe _).app (dE.flat (dE.Ev _) _).cons).cons
theorem dE.gone(g:ax):dE (aaY g):=(dE.cX _).app ((dE.cX _).app dE.nil.cons).cons
theorem dE.state(s:StateT):dE (ac0 s):=(dE.fB _).app (dE.flat dE.gone _)
end Go.Vs
set_option autoImplicit false
namespace Go.Vs
open Go
theorem Xf(x c:Nat)(hc:c<256):x*256 ||| c=x*256+c:=by have:=Nat.shiftLeft_add_eq_or_of_lt (i:=8) (b:=c) (by simpa using hc) x;rw[Nat.shiftLeft_eq]at this;exact this.symm
theorem tn{n:Int}(h0:0≤n)(h1:n<18446744073709551616):IntKind.wrap .u64 n=n:=by show n%18446744073709551616=n;omega
theorem anA(x c:Int)(h0:0≤x)(h1:x<72057594037927936)(hc:0≤c∧c<256):dr .or .u64 (Bc .u64 x 8) c=x*256+c:=by
 obtain⟨n,rfl⟩:∃n:Nat,x=(n:Int):=⟨x.toNat,by omega⟩;obtain⟨m,rfl⟩:∃n:Nat,c=(n:Int):=⟨c.toNat,by omega⟩;have e:Bc .u64 (n:Int) 8=((n*256:Nat):Int):=by unfold Bc;rw[show(2:Int) ^ (min (Int.toNat 8) (IntKind.bits .u64))=256 from rfl,tn (by omega) (by omega)];omega
 rw[e];unfold dr;simp only[BitVec.ofInt_natCast,BitVec.toNat_or,BitVec.toNat_ofNat];rw[show(2:Nat) ^ IntKind.bits .u64=18446744073709551616 from rfl,Nat.mod_eq_of_lt (by omega),Nat.mod_eq_of_lt (by omega),Xf _ _ (by omega),tn (by omega) (by omega)];omega
theorem anB(x c:Int)(h0:0≤x)(h1:x<36028797018963968)(hc:0≤c∧c<256):dr .or .i64 (Bc .i64 x 8) c=x*256+c:=by
 obtain⟨n,rfl⟩:∃n:Nat,x=(n:Int):=⟨x.toNat,by omega⟩;obtain⟨m,rfl⟩:∃n:Nat,c=(n:Int):=⟨c.toNat,by omega⟩;have e:Bc .i64 (n:Int) 8=((n*256:Nat):Int):=by unfold Bc;rw[show(2:Int) ^ (min (Int.toNat 8) (IntKind.bits .i64))=256 from rfl,wrap_small (by omega) (by omega)];omega
 rw[e];unfold dr;simp only[BitVec.ofInt_natCast,BitVec.toNat_or,BitVec.toNat_ofNat];rw[show(2:Nat) ^ IntKind.bits .i64=18446744073709551616 from rfl,Nat.mod_eq_of_lt (by omega),Nat.mod_eq_of_lt (by omega),Xf _ _ (by omega),wrap_small (by omega) (by omega)];omega
def Ba(l:List Int)(x:Int):Int:=l.foldl (fun x c=>x*256+c) x
def Mc(b:List Int):ID×(List Int×(Bool×Unit)) :=if 4≤b.length∧ck (b.headD 0,Ba ((b.drop 1).take 3) 0)=true then((b.headD 0,Ba ((b.drop 1).take 3) 0),(b.drop 4,(true,()))) else(zI,(b,(false,())))
def takeN(b:List Int):Int×(List Int×(Bool×Unit)) :=if 8≤b.length then(IntKind.wrap .i64 (Ba (b.take 8) 0),(b.drop 8,(true,()))) else(0,(b,(false,())))
def Bb(b:List Int):ByteArray×(List Int×(Bool×Unit)):=match b with
 |[]=>(e0,([],(false,())))
 |c::r=>if c≤((r.length:Nat):Int) then(strOf (r.take c.toNat),(r.drop c.toNat,(true,()))) else(e0,(b,(false,())))
theorem Ac{x:ID}(h:ck x=true)(r:List Int):Mc (cX x++r)=(x,(r,(true,()))):=by
 obtain⟨a,b⟩:=x;have hx:1≤a∧a≤8∧1≤b∧b≤1048576:=of_decide_eq_true h;have e:cX (a,b)++r=[a%256,(b.fdiv 65536)%256,(b.fdiv 256)%256,b%256]++r:=rfl;rw[e,Int.fdiv_eq_ediv_of_nonneg _ (show(0:Int)≤65536 by decide),Int.fdiv_eq_ediv_of_nonneg _ (show(0:Int)≤256 by decide)];have e1:a%256=a:=by omega
 have e2:Ba [b / 65536%256,b / 256%256,b%256] 0=b:=by show((0*256+b / 65536%256)*256+b / 256%256)*256+b%256=b;omega
 unfold Mc;show(if 4≤(r.length+4)∧ck (a%256,Ba [b / 65536%256,b / 256%256,b%256] 0)=true then((a%256,Ba [b / 65536%256,b / 256%256,b%256] 0),(r,(true,()))) else _)=_;rw[e1,e2,if_pos ⟨by omega,h⟩]
theorem Xg{n:Int}(h : -9223372036854775808≤n∧n<9223372036854775808):IntKind.wrap .i64 (n%18446744073709551616)=n:=by unfold IntKind.wrap;simp[IntKind.bits,IntKind.signed];omega
theorem Ad{n:Int}(h : -9223372036854775808≤n∧n<9223372036854775808)(r:List Int):takeN (gF n++r)=(n,(r,(true,()))):=by
 have hb:=Sp (n%18446744073709551616) (by omega) (by omega);unfold takeN;rw[if_pos (by rw[List.length_append,iV];omega),List.take_left' (iV n),List.drop_left' (iV n)];have e:Ba (gF n) 0=n%18446744073709551616:=by rw[Zt];refine Eq.trans ?_ hb;show(((((((0*256+_)*256+_)*256+_)*256+_)*256+_)*256+_)*256+_)*256+_=_;rw[Int.zero_mul,Int.zero_add]
 rw[e];rw[Xg h]
theorem N6{s:ByteArray}(h:s.size≤255)(r:List Int):Bb (rO s++r)=(s,(r,(true,()))):=by
 unfold rO Bb;simp only[List.cons_append];have e:w8 ((s.size:Nat):Int)=(s.size:Int):=by rw[ES];omega
 rw[e,if_pos (by rw[List.length_append,oy];omega),Int.toNat_natCast,List.take_left' (oy s),List.drop_left' (oy s)];have h2:strOf (bytesOf s)=s:=Ma (Ss (dE.bytesOf s));rw[h2]
def b8(g:ax):List Int:=cX g.1.1++(w8 g.1.2::(if g.2=zD then[0] else w8 (g.2.2+1)::cX g.2.1))
def yq(n:Int)(s:StateT):List Int:=gF n++(gF (((fB s.1).length:Nat):Int)++(fB s.1++s.2.flatMap b8))
theorem Su(g:ax):1≤(b8 g).length:=by unfold b8;split<;>simp[cX]
theorem dE.b8(g:ax):dE (b8 g):=by
 unfold Go.Vs.b8;refine(dE.cX _).app (dE.cons ?_)
 split
 ·intro c hc;rw[List.mem_singleton.1 hc];omega
 ·exact(dE.cX _).cons
theorem dE.snap(n:Int)(s:StateT):dE (yq n s):=(dE.gF _).app ((dE.gF _).app ((dE.fB _).app (dE.flat dE.b8 _)))
theorem Ae(g:ax):(b8 g).length≤10:=by unfold b8;split<;>simp[cX]
end Go.Vs
set_option autoImplicit false
namespace Go.Vs
open Go Go.Proofs
variable {G:(f:FuncId)→(g:aN)→Option (g.A→Option g.B)}
theorem uM{c:Int}(h:0≤c∧c<256):wI c=c:=wrap_small (by omega) (by omega)
theorem qe{α:Type}(l:List α)(k:Nat):cut l (k:Int) (((l.length:Nat)):Int)=l.drop k:=by unfold cut;rw[List.take_of_length_le (by omega)];rfl
theorem four{b:List Int}(h:4≤b.length):∃c0 c1 c2 c3 r,b=c0::c1::c2::c3::r:=by
 match b,h with
 |c0::c1::c2::c3::r,_=>exact⟨c0,c1,c2,c3,r,rfl⟩
theorem Xh(hG:HG G)(b:List Int)(hb:b.length≤1000000)(hy:dE b):FX G 79 ng ((b,()),())=some (Mc b,()):=by
 refine av (hG _ _ rfl) ahQ ?_;by_cases h4:4≤b.length
 ·obtain⟨c0,c1,c2,c3,r,rfl⟩:=four h4;have y0:=hy c0 (by simp);have y1:=hy c1 (by simp);have y2:=hy c2 (by simp);have y3:=hy c3 (by simp);have hl:(c0::c1::c2::c3::r).length=r.length+4:=rfl;refine af (decide_eq_false (show ¬((((c0::c1::c2::c3::r).length:Nat):Int)<4) by omega)) (aa (aA (i:=0) rfl) (ae (show aB (c0::c1::c2::c3::r).length 1 4=true by simp[aB];omega) ?_));have step:∀(k:Nat) (N c:Int),k<3→([c1,c2,c3]:List Int)[k]? = some c→0≤N→N<4294967296→(0≤c∧c<256)→∀{z},LX G 79 ng Tryz.f79 oq (aK Tryz.prog 79 0) ((c0::c1::c2::c3::r,([c1,c2,c3],((3:Int),(((k+1:Nat):Int),())))),(((OI,()),(((c0,N*256+c),()),())),()))=some z → LX G 79 ng Tryz.f79 oq (aK Tryz.prog 79 0) ((c0::c1::c2::c3::r,([c1,c2,c3],((3:Int),((k:Int),())))),(((OI,()),(((c0,N),()),())),()))=some z:=fun k N c hk hc h0 h1 hcb z hz=>by
   refine ar Qc (ae (decide_eq_true (show(k:Int)<3 by omega)) (aa (aA hc) (af rfl ?_)));have e1:wI ((k:Int)+1)=((k+1:Nat):Int):=aD (n:=3) hk (by omega);have e2:dr .or .i64 (Bc .i64 N 8) (wI c)=N*256+c:=by rw[uM hcb];exact anB N c h0 (by omega) hcb
   exact(congr (congrArg (fun(i:Int) (M:Int)=>LX G 79 ng Tryz.f79 oq (aK Tryz.prog 79 0) ((c0::c1::c2::c3::r,([c1,c2,c3],((3:Int),(i,())))),(((OI,()),(((c0,M),()),())),()))) e1) e2).trans hz
  have ew:=uM y0;refine(congrArg (fun q:Int=>LX G 79 ng Tryz.f79 oq (aK Tryz.prog 79 0) ((c0::c1::c2::c3::r,([c1,c2,c3],((3:Int),((0:Int),())))),(((OI,()),((((q,(0:Int)):ID),()),())),()))) ew).trans ?_;refine step 0 0 c1 (by omega) rfl (by omega) (by omega) y1 (step 1 _ c2 (by omega) rfl (by omega) (by omega) y2 (step 2 _ c3 (by omega) rfl (by omega) (by omega) y3 ?_));refine ar Qc (af rfl (aa (Lj (hG _ _ rfl) _) ?_));unfold Mc;by_cases hm:ck (c0,((0*256+c1)*256+c2)*256+c3)=true
  ·refine af (show(!(ck (c0,((0*256+c1)*256+c2)*256+c3)))=false by rw[hm];rfl) (ae (show aB (c0::c1::c2::c3::r).length 4 (((c0::c1::c2::c3::r).length:Nat):Int)=true by simp[aB];omega) ?_);rw[if_pos ⟨h4,hm⟩];exact congrArg (fun q:List Int=>some ((((c0,((0*256+c1)*256+c2)*256+c3):ID),(q,(true,()))),())) (qe (c0::c1::c2::c3::r) 4)
  ·refine ae (show(!(ck (c0,((0*256+c1)*256+c2)*256+c3)))=true by rw[Bool.eq_false_iff.2 hm];rfl) ?_;rw[if_neg fun k=>hm k.2];rfl
 ·refine ae (decide_eq_true (show(((b.length:Nat):Int)<4) by omega)) ?_;unfold Mc;rw[if_neg fun k=>h4 k.1];rfl
theorem eight{b:List Int}(h:8≤b.length):∃c0 c1 c2 c3 c4 c5 c6 c7 r,b=c0::c1::c2::c3::c4::c5::c6::c7::r:=by
 match b,h with
 |c0::c1::c2::c3::c4::c5::c6::c7::r,_=>exact⟨c0,c1,c2,c3,c4,c5,c6,c7,r,rfl⟩
theorem Xi(hG:HG G)(b:List Int)(hb:b.length≤1000000)(hy:dE b):FX G 53 pM ((b,()),())=some (takeN b,()):=by
 refine av (hG _ _ rfl) ahL ?_;unfold takeN;by_cases h8:8≤b.length
 ·rw[if_pos h8];obtain⟨c0,c1,c2,c3,c4,c5,c6,c7,r,hbr⟩:=eight h8;have hc:∀c∈[c0,c1,c2,c3,c4,c5,c6,c7],0≤c∧c<256:=fun c hc=>hy c (by rw[hbr];simp at hc ⊢;omega);have y0:=hc c0 (by simp);have y1:=hc c1 (by simp);have y2:=hc c2 (by simp);have y3:=hc c3 (by simp);have y4:=hc c4 (by simp);have y5:=hc c5 (by simp);have y6:=hc c6 (by simp);have y7:=hc c7 (by simp);have ec:cut b 0 8=[c0,c1,c2,c3,c4,c5,c6,c7]:=by rw[hbr];rfl
  have et:b.take 8=[c0,c1,c2,c3,c4,c5,c6,c7]:=by rw[hbr];rfl
  refine af (decide_eq_false (show ¬(((b.length:Nat):Int)<8) by omega)) (ae (show aB b.length 0 8=true by simp[aB];omega) ?_);have step:∀(k:Nat) (N c:Int),k<8→([c0,c1,c2,c3,c4,c5,c6,c7]:List Int)[k]? = some c→0≤N→N<72057594037927936→(0≤c∧c<256)→∀{z},LX G 53 pM Tryz.f53 oi (aK Tryz.prog 53 0) ((b,(N*256+c,([c0,c1,c2,c3,c4,c5,c6,c7],((8:Int),(((k+1:Nat):Int),()))))),((),()))=some z → LX G 53 pM Tryz.f53 oi (aK Tryz.prog 53 0) ((b,(N,([c0,c1,c2,c3,c4,c5,c6,c7],((8:Int),((k:Int),()))))),((),()))=some z:=fun k N c hk hc h0 h1 hcb z hz=>by
   refine ar P8 (ae (decide_eq_true (show(k:Int)<8 by omega)) (aa (aA hc) (af rfl ?_)));have e1:wI ((k:Int)+1)=((k+1:Nat):Int):=aD (n:=8) hk (by omega);have e2:dr .or .u64 (Bc .u64 N 8) (IntKind.wrap .u64 c)=N*256+c:=by rw[tn (by omega) (by omega)];exact anA N c h0 h1 hcb
   exact(congr (congrArg (fun(i:Int) (M:Int)=>LX G 53 pM Tryz.f53 oi (aK Tryz.prog 53 0) ((b,(M,([c0,c1,c2,c3,c4,c5,c6,c7],((8:Int),(i,()))))),((),()))) e1) e2).trans hz
  refine(congrArg (fun q:List Int=>LX G 53 pM Tryz.f53 oi (aK Tryz.prog 53 0) ((b,((0:Int),(q,((lI q),((0:Int),()))))),((),()))) ec).trans ?_;refine step 0 0 c0 (by omega) rfl (by omega) (by omega) y0 (step 1 _ c1 (by omega) rfl (by omega) (by omega) y1 (step 2 _ c2 (by omega) rfl (by omega) (by omega) y2 (step 3 _ c3 (by omega) rfl (by omega) (by omega) y3 (step 4 _ c4 (by omega) rfl (by omega) (by omega) y4 (step 5 _ c5 (by omega) rfl (by omega) (by omega) y5 (step 6 _ c6 (by omega) rfl (by omega) (by omega) y6 (step 7 _ c7 (by omega) rfl (by omega) (by omega) y7 ?_)))))));refine ar P8 (af rfl (ae (show aB b.length 8 (((b.length:Nat)):Int)=true by simp[aB];omega) ?_));rw[et];exact congrArg (fun q:List Int=>some ((wI (Ba [c0,c1,c2,c3,c4,c5,c6,c7] 0),(q,(true,()))),())) (qe b 8)
 ·rw[if_neg h8];exact ae (decide_eq_true (show(((b.length:Nat):Int)<8) by omega)) rfl
def qf(b:List Int):List Int×(List Int×(Bool×Unit)):=match b with
 |[]=>([],([],(false,())))
 |c::r=>if c≤((r.length:Nat):Int) then(r.take c.toNat,(r.drop c.toNat,(true,()))) else([],(c::r,(false,())))
theorem aa0(hG:HG G)(b:List Int)(hb:b.length≤1000000)(hy:dE b):FX G 78 GQ ((b,()),())=some (qf b,()):=by
 refine av (hG _ _ rfl) ahP ?_
 cases b with
 |nil=>exact ae rfl rfl
 |cons c r =>
  have yc:=hy c (by simp);have hb:r.length+1≤1000000:=hb;have e1:wI ((((c::r).length:Nat):Int)-1)=((r.length:Nat):Int):=by show IntKind.wrap .i64 (((r.length+1:Nat):Int)-1)=_;rw[wrap_small (by omega) (by omega)];omega
  have e2:=uM yc;obtain⟨k,rfl⟩:∃k:Nat,c=(k:Int):=⟨c.toNat,by omega⟩;have e3:wI ((1:Int)+wI (k:Int))=((k+1:Nat):Int):=by rw[e2];show IntKind.wrap .i64 _=_;rw[wrap_small (by omega) (by omega)];omega
  refine af (show((((r.length+1:Nat):Int))==0)=false by rw[beq_eq_false_iff_ne];omega) (aa (aA (i:=0) rfl) ?_);by_cases h:(k:Int)≤((r.length:Nat):Int)
  ·have et:qf ((k:Int)::r)=(r.take k,(r.drop k,(true,()))):=by unfold qf;simp only[if_pos h,Int.toNat_natCast]
   rw[et];refine af (decide_eq_false (show ¬wI (((((k:Int)::r).length:Nat):Int)-1)<wI (k:Int) by rw[e1,e2];omega)) (aa (aA (i:=0) rfl) (ae ?_ (ae ?_ ?_)))
   ·show aB (r.length+1) 1 (wI ((1:Int)+wI (k:Int)))=true;rw[e3];simp[aB];omega
   ·show aB (r.length+1) (wI ((1:Int)+wI (k:Int))) ((r.length+1:Nat):Int)=true;rw[e3];simp[aB];omega
   ·have a1:cut ((k:Int)::r) (1:Int) (wI ((1:Int)+wI (k:Int)))=r.take k:=by rw[e3];unfold cut;rw[Int.toNat_natCast];rfl
    have a2:cut ((k:Int)::r) (wI ((1:Int)+wI (k:Int))) (lI ((k:Int)::r))=r.drop k:=by rw[e3];exact qe ((k:Int)::r) (k+1)
    show some ((cut ((k:Int)::r) (1:Int) (wI ((1:Int)+wI (k:Int))),(cut ((k:Int)::r) (wI ((1:Int)+wI (k:Int))) (lI ((k:Int)::r)),(true,()))),())=_;rw[a1,a2];rfl
  ·have et:qf ((k:Int)::r)=([],((k:Int)::r,(false,()))):=by unfold qf;simp only[if_neg h]
   rw[et];exact ae (decide_eq_true (show wI ((((( k:Int)::r).length:Nat):Int)-1)<wI (k:Int) by rw[e1,e2];omega)) rfl
theorem ah1(hG:HG G)(b:List Int)(hb:b.length≤1000000)(hy:dE b):FX G 106 KU ((b,()),())=some (Bb b,()):=by
 refine av (hG _ _ rfl) ahR (aa (aa0 hG b hb hy) ?_)
 cases b with
 |nil=>rfl
 |cons c r =>
  show some ((strOf (qf (c::r)).1,(qf (c::r)).2),())=some (Bb (c::r),());by_cases h:c≤((r.length:Nat):Int)
  ·have a:qf (c::r)=(r.take c.toNat,(r.drop c.toNat,(true,()))):=by unfold qf;simp only[if_pos h]
   have b:Bb (c::r)=(strOf (r.take c.toNat),(r.drop c.toNat,(true,()))):=by unfold Bb;simp only[if_pos h]
   rw[a,b]
  ·have a:qf (c::r)=([],(c::r,(false,()))):=by unfold qf;simp only[if_neg h]
   have b:Bb (c::r)=(e0,(c::r,(false,()))):=by unfold Bb;simp only[if_neg h]
   rw[a,b];rfl
theorem aa1(hG:HG G)(c:Int)(r:List Int)(bad:Bool)(hb:r.length≤1000000)(hc:0≤c∧c<256):FX G 76 AU ((),((c::r,(bad,())),()))=some ((c,()),((r,(bad,())),())):=by refine av (hG _ _ rfl) ahN (af (show((((r.length+1:Nat):Int))==0)=false by rw[beq_eq_false_iff_ne];omega) (aa (aA (i:=0) rfl) (ae (show aB (c::r).length 1 (((c::r).length:Nat):Int)=true by simp[aB];omega) ?_)));have e1:=uM hc;have e2:cut (c::r) 1 (lI (c::r))=r:=qe (c::r) 1;show some ((wI c,()),((cut (c::r) 1 (lI (c::r)),(bad,())),()))=_;rw[e1,e2];rfl
theorem aa2(hG:HG G)(e:ag)(r:List Int)(he:ac1 e)(hb:r.length≤100000)(hy:dE r):FX G 77 GO ((),((dp e++r,(false,())),()))=some ((e,()),((r,(false,())),())):=by
 have hs:=yn he.l;have ha:=he.a;unfold jX at ha;have ha:=of_decide_eq_true ha;have e0:dp e++r=cX e.1++(rO e.2.1++(gF e.2.2++r)):=by unfold dp;simp only[List.append_assoc]
 have l1:(gF e.2.2++r).length=r.length+8:=by rw[List.length_append,iV];omega
 have l2:(rO e.2.1++(gF e.2.2++r)).length=r.length+8+(e.2.1.size+1):=by rw[List.length_append,l1,Ab];omega
 have y1:dE (gF e.2.2++r):=(dE.gF _).app hy;have y2:dE (rO e.2.1++(gF e.2.2++r)):=dE.app (dE.bytesOf _).cons y1;rw[e0];have t1:=Xh hG (cX e.1++(rO e.2.1++(gF e.2.2++r))) (by rw[List.length_append,l2];simp[cX];omega) ((dE.cX _).app y2);rw[Ac he.i]at t1;have t2:=ah1 hG (rO e.2.1++(gF e.2.2++r)) (by rw[l2];omega) y2;rw[N6 (by omega)]at t2;have t3:=Xi hG (gF e.2.2++r) (by rw[l1];omega) y1;rw[Ad (by omega)]at t3;exact av (hG _ _ rfl) ahO (aa t1 (aa t2 (aa t3 (af rfl (af rfl (af rfl rfl))))))
end Go.Vs
set_option autoImplicit false
namespace Go.Vs
open Go Go.Proofs
variable {G:(f:FuncId)→(g:aN)→Option (g.A→Option g.B)}
theorem Md(n:Nat)(h:n≤1000000):wI (((n+1:Nat):Int)-1)=((n:Nat):Int):=by show IntKind.wrap .i64 _=_;rw[wrap_small (by omega) (by omega)];omega
theorem N7{L r:List Int}(h:L.length≤255):qf (w8 ((L.length:Nat):Int)::(L++r))=(L,(r,(true,()))):=by
 have e:w8 ((L.length:Nat):Int)=(L.length:Int):=by rw[ES];omega
 unfold qf;simp only[e];rw[if_pos (by rw[List.length_append];omega),Int.toNat_natCast,List.take_left,List.drop_left]
theorem ah2(hG:HG G)(hp:rj G)(d:ak)(h:Wf d)(hg:bP d=0):FX G 54 jC ((fB d,()),())=some ((d,((0:Int),())),()):=by
 have My:=h.nv;have bz:=h.ne;have hB:=yp h;have yB:=dE.fB d;generalize hBB:fB d=B at hB yB;have VD:∀(r vs:List ai),vs++r=d.1→(r.flatMap (dD (bh d.2 0))).length≤5000 → LX G 54 jC Tryz.f54 oo (aK Tryz.prog 54 1) ((B,(((r.length:Nat):Int),())),((([],([],())),((r.flatMap (dD (bh d.2 0)),(false,())),((vs,(d.2,())),()))),()))=some ((d,((0:Int),())),()):=by
  intro r
  induction r with
  |nil =>intro vs hv hl;rw[List.append_nil]at hv;have ht:=aaZ hG hp d h hg;rw[hBB]at ht;subst hv;refine ar Qa (af rfl (aa ht (af rfl (af rfl (aa (av (hG _ _ rfl) aaS rfl) (af ?_ rfl))))));show(!(strOf B==strOf B))=false;rw[(MapKept.bytes_beq _ _).2 rfl];rfl
  |cons v r ih =>
   intro vs hv hl;have hm:v∈d.1:=by rw[←hv];simp
   have RO:=h.gv v hm;have Oz:=h.tc v hm;have asA:r.length+1≤24:=by have:=congrArg List.length hv;rw[List.length_append]at this;simp at this;omega
   rw[List.flatMap_cons]at hl;have e0:(v::r).flatMap (dD (bh d.2 0))=dp (v.1,v.2.2)++(w8 (((v.2.1.map (rP (bh d.2 0))).length:Nat):Int)::(v.2.1.map (rP (bh d.2 0))++r.flatMap (dD (bh d.2 0)))):=by rw[List.flatMap_cons,dD,List.length_map];simp only[List.append_assoc,List.cons_append]
   have yr:dE (r.flatMap (dD (bh d.2 0))):=dE.flat (dE.Ev _) _;have yL:dE (v.2.1.map (rP (bh d.2 0))):=fun c hc=>by obtain⟨i,_,rfl⟩:=ace.1 hc;exact HB _
   have lr:(r.flatMap (dD (bh d.2 0))).length≤5000:=by rw[List.length_append]at hl;omega
   have hLl:(v.2.1.map (rP (bh d.2 0))).length=v.2.1.length:=List.length_map _;have sD:∀(k:Nat) (x:ab),v.2.1[k]? = some x→(v.2.1.map (rP (bh d.2 0)))[k]? = some (rP (bh d.2 0) x):=fun k x hx=>by rw[List.getElem?_map,hx];rfl
   generalize hL:v.2.1.map (rP (bh d.2 0))=L at e0 yL hLl sD;have hq:L.length+(r.flatMap (dD (bh d.2 0))).length≤6000:=by omega
   have t1:=aa2 hG (v.1,v.2.2) (w8 ((L.length:Nat):Int)::(L++r.flatMap (dD (bh d.2 0)))) RO.th (by rw[List.length_cons,List.length_append];omega) (dE.cons (yL.app yr));have t2:=aa0 hG (w8 ((L.length:Nat):Int)::(L++r.flatMap (dD (bh d.2 0)))) (by rw[List.length_cons,List.length_append];omega) (dE.cons (yL.app yr));rw[N7 (by omega)]at t2;refine(congrArg (fun q:List Int=>LX G 54 jC Tryz.f54 oo (aK Tryz.prog 54 1) ((B,(((r.length+1:Nat):Int),())),((([],([],())),((q,(false,())),((vs,(d.2,())),()))),()))) e0).trans ?_;refine ar Qa (ae (decide_eq_true (show(((r.length+1:Nat)):Int)>0 by omega)) (ae rfl (aa t1 (aa t2 (af rfl ?_)))));have key:=br v.2.1 (fun k (p:List ab)=>LX G 54 jC Tryz.f54 qV (aK Tryz.prog 54 2) ((B,(((r.length+1:Nat):Int),(false,(true,(L,(((L.length:Nat):Int),(k,()))))))),((([],([],())),((r.flatMap (dD (bh d.2 0)),(false,())),((vs,(d.2,())),((v.1.1,(v.1.2,(p,(v.2.2.1,(v.2.2.2,()))))),())))),()))) (fun _ _=>((d,((0:Int),())),())) (fun m p=>∃q,p++q=v.2.1∧q.length=m) (fun p Tt=>by
     obtain⟨q,h1,h2⟩:=Tt;have h0:q=[]:=abN h2;rw[h0,List.append_nil]at h1;subst h1;have hvl:vs.length+1≤24:=by have:=congrArg List.length hv;rw[List.length_append]at this;simp at this;omega
     refine ar Qb (af (by show decide (((v.2.1.length:Nat):Int)<((L.length:Nat):Int))=false;rw[hLl];exact cy _) (ae (fits (show vs.length+1≤_ by omega)) ?_));exact(congrArg (fun k:Int=>LX G 54 jC Tryz.f54 oo (aK Tryz.prog 54 1) ((B,(k,())),((([],([],())),((r.flatMap (dD (bh d.2 0)),(false,())),((vs++[v],(d.2,())),()))),()))) (Md r.length (by omega))).trans (ih (vs++[v]) (by rw[List.append_assoc];exact hv) lr))
    (fun k x r' p hk hx xT hinv ih2=>by
     obtain⟨q,h1,h2⟩:=hinv
     cases q with
     |nil=>simp at h2
     |cons x' q =>
     have Tb:x'=x:=by
      have e5:=hx;rw[←h1,List.getElem?_append_right (by have:=congrArg List.length h1;rw[List.length_append]at this;simp at this h2;omega)]at e5;have:k-p.length=0:=by have:=congrArg List.length h1;rw[List.length_append]at this;simp at this h2;omega
      rw[this]at e5;simpa using e5
     subst Tb;obtain⟨j,hj1,hj2,_,ME,Za⟩:=Xd bz (h.pd.mem_iff.1 (aU.2 ⟨v,hm,acw hx⟩));have hc:=sD k x' hx;rw[hj1]at hc;have ew:wI ((j:Int)+128*x'.2)=(j:Int)+128*x'.2:=wrap_small (by omega) (by omega);have em:Int.tmod (wI ((j:Int)+128*x'.2)) 128=(j:Int):=by rw[ew,Int.tmod_eq_emod_of_nonneg (by omega)];omega
     have ed:wI (Int.tdiv (wI ((j:Int)+128*x'.2)) 128)=x'.2:=by rw[ew,Int.tdiv_eq_ediv_of_nonneg (by omega)];refine(wrap_small (by omega) (by omega)).trans ?_;omega
     have S5:p.length≤80:=by have:=congrArg List.length h1;rw[List.length_append]at this;omega
     refine ar Qb (ae (by show decide ((k:Int)<((L.length:Nat):Int))=true;rw[hLl];exact aT hk) (aa (aA hc) (af rfl (af ?_ (ae ?_ (aa (a:=d.2[j]) ?_ (af rfl (ae (fits (show p.length+1≤_ by omega)) ?_))))))))
     ·rw[em];exact decide_eq_false (show ¬((j:Int)≥((d.2.length:Nat):Int)) by omega)
     ·rw[em];exact cK (decide_eq_true (by omega)) (decide_eq_true (show(j:Int)<((d.2.length:Nat):Int) by omega))
     ·rw[em,Int.toNat_natCast];exact abn ME
     ·have ex:((d.2[j].1,wI (Int.tdiv (wI ((j:Int)+128*x'.2)) 128)):ab)=x':=Prod.ext Za ed;have e1:wI ((k:Int)+1)=((k+1:Nat):Int):=aD hk (by omega);exact(congr (congrArg (fun(i:Int) (y:ab)=>LX G 54 jC Tryz.f54 qV (aK Tryz.prog 54 2) ((B,(((r.length+1:Nat):Int),(false,(true,(L,(((L.length:Nat):Int),(i,()))))))),((([],([],())),((r.flatMap (dD (bh d.2 0)),(false,())),((vs,(d.2,())),((v.1.1,(v.1.2,(p++[y],(v.2.2.1,(v.2.2.2,()))))),())))),()))) e1) ex).trans (ih2 (p++[x']) ⟨q,by rw[List.append_assoc];exact h1,by simpa using h2⟩))
    [] ⟨v.2.1,rfl,rfl⟩
   exact key
 have yt:dE (w8 ((d.1.length:Nat):Int)::d.1.flatMap (dD (bh d.2 0))):=(dE.flat (dE.Ev _) _).cons;have env:w8 ((d.1.length:Nat):Int)=((d.1.length:Nat):Int):=by rw[ES];omega
 have ene:w8 ((d.2.length:Nat):Int)=((d.2.length:Nat):Int):=by rw[ES];omega
 have VF:∀(r es:List ag),es++r=d.2→(r.flatMap dp++(w8 ((d.1.length:Nat):Int)::d.1.flatMap (dD (bh d.2 0)))).length≤5000 → LX G 54 jC Tryz.f54 qU (aK Tryz.prog 54 0) ((B,(((r.length:Nat):Int),())),((([],([],())),((r.flatMap dp++(w8 ((d.1.length:Nat):Int)::d.1.flatMap (dD (bh d.2 0))),(false,())),(([],(es,())),()))),()))=some ((d,((0:Int),())),()):=by
  intro r
  induction r with
  |nil =>intro es L8 hl;rw[List.append_nil]at L8;have hl:(d.1.flatMap (dD (bh d.2 0))).length+1≤5000:=hl;have t:=aa1 hG (w8 ((d.1.length:Nat):Int)) (d.1.flatMap (dD (bh d.2 0))) false (by omega) (HB _);rw[env]at t;have l1:=VD d.1 [] rfl (by omega);rw[List.flatMap_nil,List.nil_append,env,L8];exact ar P9 (af rfl (aa t l1))
  |cons e r ih =>
   intro es L8 hl;have hm:e∈d.2:=by rw[←L8];simp
   have wA:es.length+(r.length+1)≤40:=by have:=congrArg List.length L8;rw[List.length_append]at this;simp at this;omega
   rw[List.flatMap_cons,List.append_assoc]at hl ⊢;have u5:(r.flatMap dp++(w8 ((d.1.length:Nat):Int)::d.1.flatMap (dD (bh d.2 0)))).length≤5000:=by rw[List.length_append]at hl;omega
   refine ar P9 (ae (decide_eq_true (show(((r.length+1:Nat)):Int)>0 by omega)) (ae rfl (aa (aa2 hG e _ (h.ge e hm).th (by omega) ((dE.flat dE.Xe _).app yt)) (ae (fits (show es.length+1≤_ by omega)) ?_))));exact(congrArg (fun k:Int=>LX G 54 jC Tryz.f54 qU (aK Tryz.prog 54 0) ((B,(k,())),((([],([],())),((r.flatMap dp++(w8 ((d.1.length:Nat):Int)::d.1.flatMap (dD (bh d.2 0))),(false,())),(([],(es++[e],())),()))),()))) (Md r.length (by omega))).trans (ih (es++[e]) (by rw[List.append_assoc];exact L8) u5)
 have hB2:w8 ((d.2.length:Nat):Int)::(d.2.flatMap dp++(w8 ((d.1.length:Nat):Int)::d.1.flatMap (dD (bh d.2 0))))=B:=hBB;have hl0:(d.2.flatMap dp++(w8 ((d.1.length:Nat):Int)::d.1.flatMap (dD (bh d.2 0)))).length+1≤5000:=by have:=congrArg List.length hB2;rw[List.length_cons]at this;omega
 have t:=aa1 hG (w8 ((d.2.length:Nat):Int)) (d.2.flatMap dp++(w8 ((d.1.length:Nat):Int)::d.1.flatMap (dD (bh d.2 0)))) false (by omega) (HB _);have l0:=VF d.2 [] rfl (by omega);have t2:=(congrArg (fun q:List Int=>FX G 76 AU ((),((q,(false,())),()))) hB2.symm).trans t;exact av (hG _ _ rfl) ahM (aa t2 ((congrArg (fun k:Int=>LX G 54 jC Tryz.f54 qU (aK Tryz.prog 54 0) ((B,(k,())),((([],([],())),((d.2.flatMap dp++(w8 ((d.1.length:Nat):Int)::d.1.flatMap (dD (bh d.2 0))),(false,())),(([],([],())),()))),()))) ene).trans l0))
end Go.Vs
set_option autoImplicit false
namespace Go.Vs
open Go Go.Proofs
variable {G:(f:FuncId)→(g:aN)→Option (g.A→Option g.B)}
theorem Me{c:Int}(h:0≤c∧c<256):w8 c=c:=by rw[ES];omega
theorem ah3(hG:HG G)(g:ax)(r:List Int)(hb:r.length≤100000)(hy:dE r)(h1:nq g.1=true)(h2:g.2=zD∨nq g.2=true):FX G 55 KT ((b8 g++r,()),())=some ((g,(r,(true,()))),()):=by
 obtain⟨a1,a2⟩:=nG (.inr h1);obtain⟨a3,a4⟩:=nG h2;have m1:ck g.1.1=true:=(Bool.and_eq_true _ _▸(show(ck g.1.1&&decide (g.1.2=0∨g.1.2=1))=true from h1)).1;have s1:w8 g.1.2=g.1.2:=Me (by omega);have e0:b8 g++r=cX g.1.1++(g.1.2::((if g.2=zD then[0] else w8 (g.2.2+1)::cX g.2.1)++r)):=by unfold b8;rw[s1];simp only[List.append_assoc,List.cons_append]
 have yX:dE ((if g.2=zD then[0] else w8 (g.2.2+1)::cX g.2.1)++r):=by
  refine dE.app ?_ hy
  split
  ·intro c hc;rw[List.mem_singleton.1 hc];omega
  ·exact(dE.cX _).cons
 have lX:((if g.2=zD then[0] else w8 (g.2.2+1)::cX g.2.1)++r).length≤r.length+5:=by rw[List.length_append];split<;>simp[cX]<;>omega
 have hq:=e0;generalize hX:(if g.2=zD then[0] else w8 (g.2.2+1)::cX g.2.1)++r=X at hq yX lX;have y1:dE (g.1.2::X):=s1▸(dE.cons (n:=g.1.2) yX);have t1:=Xh hG (cX g.1.1++(g.1.2::X)) (by rw[List.length_append,List.length_cons];simp[cX];omega) ((dE.cX _).app y1);rw[Ac m1]at t1;have t1:=(congrArg (fun q:List Int=>FX G 79 ng ((q,()),())) hq).trans t1;have w1:wI g.1.2=g.1.2:=uM (by omega);have eg:((g.1.1,wI g.1.2):ab)=g.1:=Prod.ext rfl w1;by_cases hz:g.2=zD
 ·rw[if_pos hz]at hX;subst hX;have ec:cut (g.1.2::(0::r)) 2 (lI (g.1.2::(0::r)))=r:=qe (g.1.2::(0::r)) 2;refine av (hG _ _ rfl) aaT (aa t1 (af rfl (af (decide_eq_false (show ¬(((r.length+1+1:Nat):Int)<2) by omega)) (aa (aA (i:=1) rfl) (af rfl (aa (aA (i:=0) rfl) (aa (aA (i:=1) rfl) (ae (show aB (r.length+1+1) 2 ((r.length+1+1:Nat):Int)=true by simp[aB];omega) (af rfl ?_)))))))));show some ((((g.1.1,wI g.1.2),OD),(cut (g.1.2::(0::r)) 2 (lI (g.1.2::(0::r))),(true,()))),())=_;rw[eg,ec];exact congrArg (fun q:ab=>some (((g.1,q),(r,(true,()))),())) hz.symm
 ·rw[if_neg hz]at hX;have Tx:nq g.2=true:=h2.resolve_left hz;have m2:ck g.2.1=true:=(Bool.and_eq_true _ _▸(show(ck g.2.1&&decide (g.2.2=0∨g.2.2=1))=true from Tx)).1;have s2:w8 (g.2.2+1)=g.2.2+1:=Me (by omega);rw[s2,List.cons_append]at hX;subst hX;have lr:(cX g.2.1++r).length=r.length+4:=by rw[List.length_append];simp[cX];omega
  have ec:cut (g.1.2::((g.2.2+1)::(cX g.2.1++r))) 2 (lI (g.1.2::((g.2.2+1)::(cX g.2.1++r))))=cX g.2.1++r:=qe (g.1.2::((g.2.2+1)::(cX g.2.1++r))) 2;have t2:=Xh hG (cX g.2.1++r) (by omega) ((dE.cX _).app hy);rw[Ac m2]at t2;have t2:=(congrArg (fun q:List Int=>FX G 79 ng ((q,()),())) ec).trans t2;have w2:wI (g.2.2+1)=g.2.2+1:=uM (by omega);have w3:wI (wI (g.2.2+1)-1)=g.2.2:=by rw[w2];exact(wrap_small (by omega) (by omega)).trans (by omega)
  have eh:((g.2.1,wI (wI (g.2.2+1)-1)):ab)=g.2:=Prod.ext rfl w3;refine av (hG _ _ rfl) aaT (aa t1 (af rfl (af (decide_eq_false (show ¬((((cX g.2.1++r).length+1+1:Nat):Int)<2) by omega)) (aa (aA (i:=1) rfl) (af (decide_eq_false (show ¬(g.2.2+1>2) by omega)) (aa (aA (i:=0) rfl) (aa (aA (i:=1) rfl) (ae (show aB ((cX g.2.1++r).length+1+1) 2 (((cX g.2.1++r).length+1+1:Nat):Int)=true by simp[aB];omega) (ae (decide_eq_true (show wI (g.2.2+1)>0 by rw[w2];omega)) (aa t2 ?_))))))))));show some ((((g.1.1,wI g.1.2),(g.2.1,wI (wI (g.2.2+1)-1))),(r,(true,()))),())=_;rw[eg,eh];rfl
theorem ac2{g:ab}(h:g=zD):(((g.1.1==(0:Int))&&(g.1.2==(0:Int)))&&(g.2==(0:Int)))=true:=by have:=lJ g zD;rw[decide_eq_true h]at this;exact this
theorem ac3{g:ab}(h:g≠zD):(((g.1.1==(0:Int))&&(g.1.2==(0:Int)))&&(g.2==(0:Int)))=false:=by have:=lJ g zD;rw[decide_eq_false h]at this;exact this
theorem Mf{b:Bool}(h:b=true):(!b)=false:=by rw[h];rfl
theorem aa3{b:Bool}(h:b=false):(!b)=true:=by rw[h];rfl
theorem ah4(hG:HG G)(l:List ax)(hs:iQ l)(hn:l.length≤400)(hk:bB l):FX G 48 xq ((l,()),())=some ((true,()),()):=by
 refine av (hG _ _ rfl) ahK ?_;have loop:∀(n i:Nat),i+n=l.length→LX G 48 xq Tryz.f48 mf (aK Tryz.prog 48 0) ((l,(l,(((l.length:Nat):Int),((i:Int),())))),((),()))=some ((true,()),()):=by
  intro n
  induction n with
  |zero =>
   intro i hi;have:i=l.length:=by omega
   subst this;refine ar P7 (af (cy _) ?_);exact congrArg (fun b:Bool=>some ((b,()),())) (decide_eq_true (show((l.length:Nat):Int)≤400 by omega))
  |succ n ih =>
   intro i hi;have aO:i<l.length:=by omega
   obtain⟨k1,k2⟩:=hk l[i] (ac8 aO);have r1:=(nG (.inr k1)).2;have r2:=(nG k2).2;have next:LX G 48 xq Tryz.f48 mf (aK Tryz.prog 48 0) ((l,(l,(((l.length:Nat):Int),(wI ((i:Int)+1),())))),((),()))=some ((true,()),()):=by rw[wI,aD aO (by omega)];exact ih (i+1) (by omega)
   have q1:=Vw hG l[i].1 ⟨by omega,by omega⟩;have q2:=Vw hG l[i].2 ⟨by omega,by omega⟩;refine ar P7 (ae (aT aO) (aa (aA (abn aO)) (aa q1 (af (Mf k1) ?_))));by_cases h0:i=0
   ·have g0:decide ((i:Int)>0)=false:=decide_eq_false (by omega);by_cases hz:l[i].2=zD
    ·exact af (Mf (ac2 hz)) (af g0 next)
    ·exact ae (aa3 (ac3 hz)) (aa q2 (af (Mf (k2.resolve_left hz)) (af g0 next)))
   ·have g0:decide ((i:Int)>0)=true:=decide_eq_true (by omega);have hp:i-1<l.length:=by omega
    have ew:wI ((i:Int)-1)=((i-1:Nat):Int):=by show IntKind.wrap .i64 _=_;rw[wrap_small (by omega) (by omega)];omega
    have prev:aS l (wI ((i:Int)-1))=some l[i-1]:=by rw[ew];exact aA (abn hp)
    have ho:nL l[i-1].1 l[i].1<0:=(xZ _ _).2 (ady.1 hs (i-1) i hp aO (by omega));have q3:=VA hG l[i-1].1 l[i].1;have g1:decide (nL l[i-1].1 l[i].1≥0)=false:=decide_eq_false (by omega);by_cases hz:l[i].2=zD
    ·exact af (Mf (ac2 hz)) (ae g0 (aa prev (aa q3 (af g1 next))))
    ·exact ae (aa3 (ac3 hz)) (aa q2 (af (Mf (k2.resolve_left hz)) (ae g0 (aa prev (aa q3 (af g1 next))))))
 exact loop l.length 0 (by omega)
theorem aa4(hG:HG G)(hp:rj G)(n:Int)(s:StateT)(hn:0≤n∧n≤1073741824)(h:eI s)(hg:bP s.1=0)(hk:bB s.2):FX G 22 ki ((n,(s,())),())=some ((yq n s,((0:Int),())),()):=by
 have hgn:=h.n;have hd:=yp h.d;have l1:(([]:List Int)++gF n).length=8:=by rw[List.nil_append,iV]
 have l2:((([]:List Int)++gF n)++gF (((fB s.1).length:Nat):Int)).length=16:=by rw[List.length_append,l1,iV]
 refine av (hG _ _ rfl) ahI (af (decide_eq_false (show ¬n<0 by omega)) (af (decide_eq_false (show ¬n>1073741824 by omega)) (aa (ah4 hG s.2 h.g h.n hk) (af rfl (aa (aaZ hG hp s.1 h.d hg) (af rfl (aa (W0 hG [] n (by decide)) (aa (W0 hG ([]++gF n) (((fB s.1).length:Nat):Int) (by omega)) (ae (fits ?_) ?_)))))))))
 ·show((([]:List Int)++gF n)++gF (((fB s.1).length:Nat):Int)).length+(fB s.1).length≤_;rw[l2];omega
 have key:=br s.2 (fun i (b:List Int)=>LX G 22 ki Tryz.f22 od (aK Tryz.prog 22 0) ((s.2,(((s.2.length:Nat):Int),(i,()))),((),(b,())))) (fun r b=>((b++r.flatMap b8,((0:Int),())),())) (fun m b=>b.length+m*10≤20000) (fun b hb=>by refine ar P5 (af (cy _) ?_);simp only[List.flatMap_nil,List.append_nil]) (fun i g r b hi hx xT hb ih=>by
   obtain⟨k1,k2⟩:=hk g (acw hx);have r2:=(nG k2).2;have hb:b.length+(r.length+1)*10≤20000:=hb;have l3:(b++cX g.1.1).length=b.length+4:=by simp[cX]
   have l4:((b++cX g.1.1)++[w8 g.1.2]).length=b.length+5:=by rw[List.length_append,l3];rfl
   have ew:=aD hi (by omega);have hq:=Ae g;have go:=ih (b++b8 g) (by rw[List.length_append];omega);have fin:some ((((b++b8 g)++r.flatMap b8,((0:Int),())),()):(List Int×(Int×Unit))×Unit)=some ((b++(g::r).flatMap b8,((0:Int),())),()):=by rw[List.flatMap_cons,List.append_assoc]
   refine ar P5 (ae (aT hi) (aa (aA hx) (aa (WZ hG b g.1.1 (by omega)) (ae (fits (show(b++cX g.1.1).length+1≤_ by omega)) ?_))));by_cases hz:g.2=zD
   ·refine ae (ac2 hz) (ae (fits (show((b++cX g.1.1)++[w8 g.1.2]).length+1≤_ by omega)) ?_);have e9:((b++cX g.1.1)++[w8 g.1.2])++[0]=b++b8 g:=by unfold b8;rw[if_pos hz];simp only[List.append_assoc,List.singleton_append,List.cons_append,List.nil_append]
    exact(congr (congrArg (fun(k:Int) (q:List Int)=>LX G 22 ki Tryz.f22 od (aK Tryz.prog 22 0) ((s.2,(((s.2.length:Nat):Int),(k,()))),((),(q,())))) ew) e9).trans (go.trans fin)
   ·have w3:wI (g.2.2+1)=g.2.2+1:=wrap_small (by omega) (by omega);have l5:(((b++cX g.1.1)++[w8 g.1.2])++[w8 (wI (g.2.2+1))]).length=b.length+6:=by rw[List.length_append,l4];rfl
    refine af (ac3 hz) (ae (fits (show((b++cX g.1.1)++[w8 g.1.2]).length+1≤_ by omega)) (aa (WZ hG (((b++cX g.1.1)++[w8 g.1.2])++[w8 (wI (g.2.2+1))]) g.2.1 (by omega)) ?_));have e9:(((b++cX g.1.1)++[w8 g.1.2])++[w8 (wI (g.2.2+1))])++cX g.2.1=b++b8 g:=by unfold b8;rw[if_neg hz,w3];simp only[List.append_assoc,List.singleton_append,List.cons_append,List.nil_append]
    exact(congr (congrArg (fun(k:Int) (q:List Int)=>LX G 22 ki Tryz.f22 od (aK Tryz.prog 22 0) ((s.2,(((s.2.length:Nat):Int),(k,()))),((),(q,())))) ew) e9).trans (go.trans fin))
  (((([]:List Int)++gF n)++gF (((fB s.1).length:Nat):Int))++fB s.1) (by show _+_≤20000;rw[List.length_append,l2];omega)
 refine key.trans ?_;unfold yq;simp only[List.nil_append,List.append_assoc];rfl
theorem Sw{n:Int}{s:StateT}(h:eI s):(yq n s).length≤10000:=by have hd:=yp h.d;have hgn:=h.n;have:=tl b8 10 s.2 fun e _=>Ae e;unfold yq;rw[List.length_append,List.length_append,List.length_append,iV,iV];omega
theorem ah5(hG:HG G)(hp:rj G)(n:Int)(s:StateT)(hn:0≤n∧n≤1073741824)(h:eI s)(hg:bP s.1=0)(hk:bB s.2):FX G 24 nc ((yq n s,()),())=some ((n,(s,((0:Int),()))),()):=by
 have hd:=yp h.d;have hgn:=h.n;have S4:=Sw (n:=n) h;have Sx:=aa4 hG hp n s hn h hg hk;have yF:dE (s.2.flatMap b8):=dE.flat dE.b8 _;have y3:dE (fB s.1++s.2.flatMap b8):=(dE.fB _).app yF;have y2:dE (gF (((fB s.1).length:Nat):Int)++(fB s.1++s.2.flatMap b8)):=(dE.gF _).app y3;have lf:=tl b8 10 s.2 fun e _=>Ae e;have l3:(fB s.1++s.2.flatMap b8).length=(fB s.1).length+(s.2.flatMap b8).length:=List.length_append;have t1:=Xi hG (yq n s) (by omega) (dE.snap n s);rw[show takeN (yq n s)=_ from Ad (by omega) _]at t1;have t2:=Xi hG (gF (((fB s.1).length:Nat):Int)++(fB s.1++s.2.flatMap b8)) (by rw[List.length_append,iV];omega) y2;rw[Ad (by omega)]at t2;have c1:cut (fB s.1++s.2.flatMap b8) 0 (((fB s.1).length:Nat):Int)=fB s.1:=ahl _ _;have c2:cut (fB s.1++s.2.flatMap b8) (((fB s.1).length:Nat):Int) (lI (fB s.1++s.2.flatMap b8))=s.2.flatMap b8:=ahm _ _;have t3:=(congrArg (fun q:List Int=>FX G 54 jC ((q,()),())) c1).trans (ah2 hG hp s.1 h.d hg);refine av (hG _ _ rfl) ahJ (aa t1 (aa t2 (af rfl (af (decide_eq_false (show ¬((((fB s.1).length:Nat):Int)<0) by omega)) (af (decide_eq_false (show ¬((((fB s.1).length:Nat):Int)>(((fB s.1++s.2.flatMap b8).length:Nat):Int)) by omega)) (ae (show aB (fB s.1++s.2.flatMap b8).length 0 (((fB s.1).length:Nat):Int)=true by rw[l3];simp[aB]<;>omega) (aa t3 (ae (show aB (fB s.1++s.2.flatMap b8).length (((fB s.1).length:Nat):Int) (((fB s.1++s.2.flatMap b8).length:Nat):Int)=true by rw[l3];simp[aB]<;>omega) ?_))))))));have hB:=S4;generalize hBB:yq n s=B at hB Sx;have loop:∀(r es:List ax),es++r=s.2→(r.flatMap b8).length≤5000→LX G 24 nc Tryz.f24 og (aK Tryz.prog 24 0) ((B,(n,(r.flatMap b8,((0:Int),())))),((OW,((s.1.1,(s.1.2,(es,()))),())),()))=some ((n,(s,((0:Int),()))),()):=by
  intro r
  induction r with
  |nil =>intro es L8 hl;rw[List.append_nil]at L8;subst L8;refine ar P6 (ae rfl (af rfl (af rfl (aa Sx (af rfl (aa (av (hG _ _ rfl) aaS rfl) (af ?_ rfl)))))));show(!(strOf B==strOf B))=false;rw[(MapKept.bytes_beq _ _).2 rfl];rfl
  |cons g r ih =>
   intro es L8 hl;obtain⟨k1,k2⟩:=hk g (by rw[←L8];simp);have wA:es.length+(r.length+1)≤400:=by have:=congrArg List.length L8;rw[List.length_append]at this;simp at this;omega
   have e0:(g::r).flatMap b8=b8 g++r.flatMap b8:=List.flatMap_cons;have u5:(r.flatMap b8).length≤5000:=by rw[e0,List.length_append]at hl;omega
   have hp1:=Su g;refine(congrArg (fun q:List Int=>LX G 24 nc Tryz.f24 og (aK Tryz.prog 24 0) ((B,(n,(q,((0:Int),())))),((OW,((s.1.1,(s.1.2,(es,()))),())),()))) e0).trans ?_;refine ar P6 (ae rfl (ae (decide_eq_true (show(((b8 g++r.flatMap b8).length:Nat):Int)>0 by rw[List.length_append];omega)) (ae (decide_eq_true (show((es.length:Nat):Int)≤400 by omega)) (aa (ah3 hG g (r.flatMap b8) (by omega) (dE.flat dE.b8 _) k1 k2) (af rfl (ae (fits (show es.length+1≤_ by omega)) ?_))))));exact ih (es++[g]) (by rw[List.append_assoc];exact L8) u5
 exact(congrArg (fun q:List Int=>LX G 24 nc Tryz.f24 og (aK Tryz.prog 24 0) ((B,(n,(q,((0:Int),())))),((OW,((s.1.1,(s.1.2,([],()))),())),()))) c2).trans (loop s.2 [] rfl (by omega))
end Go.Vs
