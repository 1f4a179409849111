/- Diagrams and states as bytes -/
import Derived.Test.YtoleelddkocpkaaGreatHist
set_option linter.unusedVariables false
set_option linter.unusedSimpArgs false
namespace Go.Vs
open Go.Proofs
variable {G:(f:FuncId)→(g:aO)→Option (g.A→Option g.B)}
abbrev w8(n:Int):Int:=IntKind.wrap .u8 n
def bq(x:ID):List Int:=[w8 x.1,w8 (iq .i64 x.2 16),w8 (iq .i64 x.2 8),w8 x.2]
def w5(n:Int)(i:Nat):Int:=w8 (iq .u64 (IntKind.wrap .u64 n) (8*(7-(i:Int))))
def dr(n:Int):List Int:=(List.range 8).map (w5 n)
def iF(s:ByteArray):List Int:=w8 ((s.size:Nat):Int)::bytesOf s
def bB(e:aj):List Int:=bq e.1++(iF e.2.1++dr e.2.2)
theorem Yc(hG:HG G)(b:List Int)(x:ID)(hb:b.length≤1000000):FX G 43 EJ ((b,(x,())),())=some ((b++bq x,()),()):=by
 refine au (hG _ _ rfl) aiU ?_;have ec:cut b 0 (((b.length:Nat)):Int)=b:=Ro b;refine ae (dw (show aq b.length 0 (((b.length:Nat)):Int)=true by simp[aq]) (decide_eq_true rfl)) (af rfl (af rfl (ae (fits ?_) ?_)))
 ·show(cut b 0 (((b.length:Nat)):Int)).length+4≤_;rw[ec];omega
 ·exact congrArg (fun l:List Int=>some ((l++bq x,()),())) ec
theorem Yd(hG:HG G)(b:List Int)(n:Int)(hb:b.length≤1000000):FX G 49 sR ((b,(n,())),())=some ((b++dr n,()),()):=by
 refine au (hG _ _ rfl) aiS ?_;have e:wI (lI b+8)=((b.length+8:Nat):Int):=by show IntKind.wrap .i64 (((b.length:Nat):Int)+8)=_;rw[wrap_small (by omega) (by omega)];omega
 have loop:∀(m i:Nat),i+m=8→LX G 49 sR Tryz.f49 rT (aE Tryz.prog 49 0) ((b,(n,((i:Int),()))),((),(b++((List.range i).map (w5 n)++List.replicate m 0),())))=some ((b++dr n,()),()):=by
  intro m
  induction m with
  |zero =>
   intro i hi;have:i=8:=by omega
   subst this;refine ak Rt (af rfl ?_);rw[List.replicate_zero,List.append_nil];rfl
  |succ m ih =>
   intro i hi;have e2:wI ((8:Int)*wI ((7:Int)-(i:Int)))=8*(7-(i:Int)):=by show IntKind.wrap .i64 (8*IntKind.wrap .i64 (7-(i:Int)))=_;rw[wrap_small (n:=7-(i:Int)) (by omega) (by omega),wrap_small (by omega) (by omega)]
   have e3:wI (lI b+(i:Int))=((b.length+i:Nat):Int):=by show IntKind.wrap .i64 (((b.length:Nat):Int)+(i:Int))=_;rw[wrap_small (by omega) (by omega)];omega
   have hal:((List.range i).map (w5 n)).length=i:=by simp
   generalize hA:(List.range i).map (w5 n)=A at hal;have hlen:(b++(A++List.replicate (m+1) (0:Int))).length=b.length+8:=by simp[hal];omega
   refine ak Rt (ae (decide_eq_true (show(i:Int)<8 by omega)) (af (decide_eq_false (by rw[e2];omega)) (ae (dw (decide_eq_true (by rw[e3];omega)) (decide_eq_true ?_)) ?_)))
   ·rw[e3];show((b.length+i:Nat):Int)<(((b++(A++List.replicate (m+1) (0:Int))).length:Nat):Int);rw[hlen];omega
   ·refine aa (a:=(0:Int)) ?_ ?_
    ·show(b++(A++List.replicate (m+1) (0:Int)))[(wI (lI b+(i:Int))).toNat]? = some 0;rw[e3,Int.toNat_natCast,List.getElem?_append_right (by omega),List.getElem?_append_right (by omega),show b.length+i-b.length-A.length=0 by omega];rfl
    ·have e4:List.set (b++(A++List.replicate (m+1) (0:Int))) (wI (lI b+(i:Int))).toNat (IntKind.wrap .u8 (iq .u64 (IntKind.wrap .u64 n) (wI ((8:Int)*wI ((7:Int)-(i:Int))))))=b++((List.range (i+1)).map (w5 n)++List.replicate m 0):=by rw[e3,e2,Int.toNat_natCast,List.set_append_right _ _ (by omega),List.set_append_right _ _ (by omega),show b.length+i-b.length-A.length=0 by omega,List.replicate_succ,List.set_cons_zero,List.range_succ,List.map_append,hA,List.append_assoc];rfl
     have ew:wI ((i:Int)+1)=((i+1:Nat):Int):=aB (n:=8) (by omega) (by omega);exact(congr (congrArg (fun(k:Int) (r:List Int)=>LX G 49 sR Tryz.f49 rT (aE Tryz.prog 49 0) ((b,(n,(k,()))),((),(r,())))) ew) e4).trans (ih (i+1) (by omega))
 refine ae (dw (decide_eq_true (by rw[e];omega)) (dw (decide_eq_true (by rw[e];omega)) (decide_eq_true rfl))) (ae ?_ ?_)
 ·show(!(List.replicate (wI (lI b+8)).toNat (0:Int)).isEmpty)=true;rw[e,Int.toNat_natCast];rfl
 ·have er:oG b (List.replicate (wI (lI b+8)).toNat (0:Int))=b++(([]:List Int)++List.replicate 8 0):=by rw[e,Int.toNat_natCast];unfold oG;rw[List.length_replicate,List.take_of_length_le (by omega),List.drop_replicate,show b.length+8-b.length=8 by omega,List.nil_append]
  exact(congrArg (fun r:List Int=>LX G 49 sR Tryz.f49 rT (aE Tryz.prog 49 0) ((b,(n,((0:Int),()))),((),(r,())))) er).trans (loop 8 0 (by omega))
theorem ajc(hG:HG G)(b:List Int)(s:ByteArray)(hb:b.length+s.size≤1000000):FX G 97 Me ((b,(s,())),())=some ((b++iF s,()),()):=by
 refine au (hG _ _ rfl) aiT ?_;have hl:(b++[w8 ((s.size:Nat):Int)]).length=b.length+1:=by simp
 refine ae (fits (show b.length+1≤_ by omega)) (ae (dw ?_ (fits ?_)) ?_)
 ·show(!(b++[w8 ((s.size:Nat):Int)]).isEmpty)=true
  cases b<;>rfl
 ·show(b++[w8 ((s.size:Nat):Int)]).length+s.size≤_;rw[hl];omega
 ·show some ((((b++[w8 ((s.size:Nat):Int)])++bytesOf s:List Int),()),())=_;rw[List.append_assoc];rfl
theorem iG(s:ByteArray):(bytesOf s).length=s.size:=by unfold bytesOf;rw[List.length_map,Array.length_toList];rfl
theorem cT(n:Int):(dr n).length=8:=by simp[dr]
theorem qW(s:ByteArray):(iF s).length=s.size+1:=by show(bytesOf s).length+1=_;rw[iG]
theorem ow(e:aj):(bB e).length=e.2.1.size+13:=by unfold bB;rw[List.length_append,List.length_append,qW,cT];show 4+_=_;omega
theorem acj(hG:HG G)(b:List Int)(e:aj)(hb:b.length+e.2.1.size≤500000):FX G 68 H9 ((b,(e,())),())=some ((b++bB e,()),()):=by
 refine au (hG _ _ rfl) aiR ?_;have l1:(b++bq e.1).length=b.length+4:=by simp[bq]
 have l2:((b++bq e.1)++iF e.2.1).length=b.length+4+(e.2.1.size+1):=by rw[List.length_append,l1,qW]
 refine aa (Yc hG b e.1 (by omega)) (aa (ajc hG _ e.2.1 (by rw[l1];omega)) (aa (Yd hG _ e.2.2 (by rw[l2];omega)) ?_));show some (((((b++bq e.1)++iF e.2.1)++dr e.2.2,()):List Int×Unit),())=_;rw[List.append_assoc,List.append_assoc];rfl
theorem ack(hG:HG G)(l:List ID)(hl:l.length≤1000)(hs:l.Pairwise fun a b=>fD a b=true)(hm:∀x∈l,bQ x=true):FX G 133 tX ((l,()),())=some ((true,()),()):=by
 refine au (hG _ _ rfl) ab6 ?_;have loop:∀(n i:Nat),i+n=l.length→LX G 133 tX Tryz.f133 rU (aE Tryz.prog 133 0) ((l,(l,(((l.length:Nat):Int),((i:Int),())))),((),()))=some ((true,()),()):=by
  intro n
  induction n with
  |zero=>intro i hi;exact ak sF (af (decide_eq_false (show ¬((i:Int)<((l.length:Nat):Int)) by omega)) rfl)
  |succ n ih =>
   intro i hi;have aG:i<l.length:=by omega
   have hx:l[i]? = some l[i]:=abf aG;have ih:=ih (i+1) (by omega);have ew:=aB aG (by omega);refine ak sF (ae (aJ aG) (aa (ai hx) (aa (CH (hG _ _ rfl) _) (af (show(!bQ l[i])=false by rw[hm _ (List.getElem_mem aG)];rfl) ?_))));by_cases h0:i=0
   ·refine af (decide_eq_false (show ¬((i:Int)>0) by omega)) ?_;rw[wI,ew];exact ih
   ·have hy:l[i-1]? = some l[i-1]:=abf (by omega);have e2:aP l (IntKind.wrap .i64 ((i:Int)-1))=some l[i-1]:=by rw[sD (by omega) aG (by omega)];exact ai hy
    have h3:=(mN l[i-1] l[i]).2 (adK.1 hs (i-1) i (by omega) aG (by omega));refine ae (decide_eq_true (show((i:Int)>0) by omega)) (aa e2 (aa (Ir hG _ _) (af (decide_eq_false (show ¬(sd l[i-1] l[i]≥0) by omega)) ?_)));rw[wI,ew];exact ih
 exact loop l.length 0 (by omega)
theorem ajd(hG:HG G)(v:an):FX G 135 EG ((v,()),())=some ((v.1,()),()):=au (hG _ _ rfl) aby rfl
theorem aje(hG:HG G)(v:aj):FX G 137 Md ((v,()),())=some ((v.1,()),()):=au (hG _ _ rfl) agO rfl
theorem Ns(hG:HG G)(l:List an)(hl:l.length≤1000):FX G 136134 lW ((l,()),())=some ((l.map (·.1),()),()):=by refine au (hG _ _ rfl) X9 ?_;exact bh l (fun i (s:List ID)=>LX G 136134 lW Tryz.f134 n8 (aE Tryz.prog 134 0) ((l,(((l.length:Nat):Int),(i,()))),((),(s,())))) (fun r s=>((s++r.map (·.1),()),())) (fun m s=>s.length+m≤1000) (fun s _=>by refine ak Ga (af (bW _) ?_);simp only[List.map_nil,List.append_nil];rfl) (fun i x r s hi hx A3 hk ih=>by refine ak Ga (ae (aJ hi) (aa (ai hx) (aa (ajd hG x) (ae (fits (by simp;omega)) ?_))));rw[wI,aB hi (by omega)];refine(ih (s++[x.1]) (by simp;omega)).trans ?_;simp) [] (by simpa using hl)
theorem Nt(hG:HG G)(l:List aj)(hl:l.length≤1000):FX G 138136 lY ((l,()),())=some ((l.map (·.1),()),()):=by refine au (hG _ _ rfl) Ya ?_;exact bh l (fun i (s:List ID)=>LX G 138136 lY Tryz.f136 oa (aE Tryz.prog 136 0) ((l,(((l.length:Nat):Int),(i,()))),((),(s,())))) (fun r s=>((s++r.map (·.1),()),())) (fun m s=>s.length+m≤1000) (fun s _=>by refine ak Gb (af (bW _) ?_);simp only[List.map_nil,List.append_nil];rfl) (fun i x r s hi hx A3 hk ih=>by refine ak Gb (ae (aJ hi) (aa (ai hx) (aa (aje hG x) (ae (fits (by simp;omega)) ?_))));rw[wI,aB hi (by omega)];refine(ih (s++[x.1]) (by simp;omega)).trans ?_;simp) [] (by simpa using hl)
theorem ajf(hG:HG G)(l:List ag)(hl:l.length≤1000):FX G 178 wE ((l,l,()),())=some ((true,()),()):=by
 refine au (hG _ _ rfl) ab8 ?_;refine af (show((((l.length:Nat):Int)) != ((l.length:Nat):Int))=false by simp) ?_;have loop:∀(n i:Nat),i+n=l.length→LX G 178 wE Tryz.f178 vu (aE Tryz.prog 178 0) ((l,(l,(((l.length:Nat):Int),((i:Int),())))),((),()))=some ((true,()),()):=by
  intro n
  induction n with
  |zero=>intro i hi;exact ak zU (af (decide_eq_false (show ¬((i:Int)<((l.length:Nat):Int)) by omega)) rfl)
  |succ n ih =>
   intro i hi;have aG:i<l.length:=by omega
   have hx:=ai (abf aG);refine ak zU (ae (aJ aG) (aa hx (aa hx (af (by simp) ?_))));rw[wI,aB aG (by omega)];exact ih (i+1) (by omega)
 exact loop l.length 0 (by omega)
structure Left(es:List (ag×Bool))(rem:List ag):Prop where
 p:(es.map (·.1)).Perm rem
 t:∀e∈es,e.2=true
theorem Left.get{es:List (ag×Bool)}{x:ag}{rem:List ag}(h:Left es (x::rem)):(Option.getD (fG bz x es) false)=true:=by
 rw[Pr];have hx:x∈es.map (·.1):=h.p.mem_iff.2 (by simp);have key:∀{l:List (ag×Bool)},(∀e∈l,e.2=true)→x∈l.map (·.1)→fO x l=some true:=by
  intro l
  induction l with
  |nil=>intro _ h;simp at h
  |cons e r ih =>
   intro h1 h2;rw[fO];by_cases he:e.1=x
   ·rw[if_pos he,h1 e (by simp)]
   ·rw[if_neg he];refine ih (fun q hq=>h1 q (by simp[hq])) ?_;simp only[List.map_cons,List.mem_cons]at h2;exact h2.resolve_left fun k=>he k.symm
 rw[key h.t hx];rfl
theorem Left.del{es:List (ag×Bool)}{x:ag}{rem:List ag}(h:Left es (x::rem)):Left (Gz bz x es) rem:=by
 have hx:x∈es.map (·.1):=h.p.mem_iff.2 (by simp);unfold Gz
 split
 ·rename_i i hi;rw[Bn]at hi;obtain⟨aG,h1,_⟩:=aeI.1 hi;have h1:es[i].1=x:=of_decide_eq_true h1;refine⟨?_,fun e he=>h.t e (List.mem_of_mem_eraseIdx he)⟩;have h2:es.Perm (es[i]::es.eraseIdx i):=by
   rw[List.eraseIdx_eq_take_drop_succ]
   conv=>lhs;rw[←List.take_append_drop i es,List.drop_eq_getElem_cons aG]
   exact List.perm_middle
  have h3:=(h2.map (·.1)).symm.trans h.p;rw[List.map_cons,h1]at h3;exact h3.cons_inv
 ·rename_i hi;rw[Bn,List.findIdx?_eq_none_iff]at hi;obtain⟨e,he,h1⟩:=acE.1 hx;have:=hi e he;simp[h1]at this
theorem z6:∀l:List aj,(ends l).length=2*l.length
 |[]=>rfl
 |e::r=>by rw[eY];simp[z6 r];omega
def tr(es:List ag):List (ag×Bool):=es.map fun x=>(x,true)
theorem KA(es:List ag):(tr es).map (·.1)=es:=by unfold tr;rw[List.map_map,show((fun e:ag×Bool=>e.1) ∘ fun x=>(x,true))=id from rfl,List.map_id]
theorem aej(a b:List ag):tr (a++b)=tr a++tr b:=List.map_append
theorem Dq(x:ag)(es:List ag)(h:x∉es):j4 bz x true (tr es)=tr (es++[x]):=by rw[aej];exact M6 true (by rw[KA];exact h)
theorem ajg(hG:HG G)(d:ar)(h:Wf d):FX G 138 jV ((d,()),())=some ((true,()),()):=by
 have ND:=h.nv;have bA:=h.ne;have hen:=z6 d.2;have Mi:(av d.1).length≤80:=by rw[h.pd.length_eq,hen];omega
 refine au (hG _ _ rfl) ab7 ?_;have G3:∀es,Left es (av d.1)→LX G 138 jV Tryz.f138 rW (aE Tryz.prog 138 1) ((d.1,(((d.1.length:Nat):Int),((0:Int),()))),((),(es,())))=some ((true,()),()):=by
  intro es v7;exact bh d.1 (fun i (s:List (ag×Bool)×List an)=>LX G 138 jV Tryz.f138 rW (aE Tryz.prog 138 1) ((d.1,(((d.1.length:Nat):Int),(i,()))),((),(s.1,())))) (fun r s=>((true,()),())) (fun m s=>Left s.1 (av s.2)∧s.2.length=m∧∃p,p++s.2=d.1) (fun s hs=>by
    obtain⟨h1,h2,_⟩:=hs;have h3:s.2=[]:=abD h2;rw[h3]at h1;have h4:s.1=[]:=by have:=h1.p.length_eq;simpa[av] using this
    refine ak zR (af (bW _) ?_);rw[h4];rfl)
   (fun i v r s hi hv A3 hk ih=>by
    obtain⟨h1,h2,p,hp⟩:=hk;have N0:p.length=i:=by have:=congrArg List.length hp;rw[List.length_append]at this;omega
    obtain⟨s1,s2⟩:=s
    cases s2 with
    |nil=>simp at h2
    |cons v' r' =>
     have CR:v'=v:=by have:=hv;rw[←hp,List.getElem?_append_right (by omega),N0,Nat.sub_self]at this;simpa using this
     subst CR;have hm:v'∈d.1:=abC hv;have ht:=(h.gv v' hm).t;have KK:v'.2.1.length≤80:=by
      have:v'.2.1.length≤(av d.1).length:=by rw[←hp,la,dQ];simp;omega
      omega
     refine ak zR (ae (aJ hi) (aa (ai hv) (aa (zy hG _ (by omega)) ?_)));rw[ht];refine aa (ajf hG _ (by omega)) (af rfl ?_);have ew:=aB hi (by omega);have Ye:∀es,Left es (v'.2.1++av r')→LX G 138 jV Tryz.f138 rX (aE Tryz.prog 138 2) ((d.1,(((d.1.length:Nat):Int),((i:Int),(v'.2.1,(((v'.2.1.length:Nat):Int),((0:Int),())))))),((),(es,())))=some ((true,()),()):=by
      intro es v7;exact bh v'.2.1 (fun k (s:List (ag×Bool)×List ag)=>LX G 138 jV Tryz.f138 rX (aE Tryz.prog 138 2) ((d.1,(((d.1.length:Nat):Int),((i:Int),(v'.2.1,(((v'.2.1.length:Nat):Int),(k,())))))),((),(s.1,())))) (fun r s=>((true,()),())) (fun m s=>Left s.1 (s.2++av r')∧s.2.length=m∧∃p,p++s.2=v'.2.1) (fun s hs=>by obtain⟨h5,h6,_⟩:=hs;have h7:s.2=[]:=abD h6;rw[h7,List.nil_append]at h5;refine ak zT (af (bW _) ?_);rw[wI,ew];exact ih (s.1,r') ⟨h5,by simp at h2;omega,p++[v'],by simpa using hp⟩) (fun k x q s hk hx hqq hh PL=>by
        obtain⟨h5,h6,p2,ZV⟩:=hh;have aoh:p2.length=k:=by have:=congrArg List.length ZV;rw[List.length_append]at this;omega
        obtain⟨s1,s2⟩:=s
        cases s2 with
        |nil=>simp at h6
        |cons x' q' =>
         have Us:x'=x:=by have:=hx;rw[←ZV,List.getElem?_append_right (by omega),aoh,Nat.sub_self]at this;simpa using this
         subst Us;refine ak zT (ae (aJ hk) (aa (ai hx) (af ?_ ?_)))
         ·show(!(Option.getD (fG bz x' s1) false))=false;rw[Left.get h5];rfl
         ·rw[wI,aB hk (by omega)];exact PL (Gz bz x' s1,q') ⟨Left.del h5,by simp at h6;omega,p2++[x'],by simpa using ZV⟩)
       (es,v'.2.1) ⟨v7,rfl,[],rfl⟩
     exact Ye s1 (by rw[dQ]at h1;exact h1))
   (es,d.1) ⟨v7,rfl,[],rfl⟩
 have GL:=iE h.se;exact bh d.2 (fun i (s:List (ag×Bool))=>LX G 138 jV Tryz.f138 vq (aE Tryz.prog 138 0) ((d.2,(((d.2.length:Nat):Int),(i,()))),(((d,()),()),(s,())))) (fun r s=>((true,()),())) (fun m s=>∃p,s=tr (ends p)∧∃r,p++r=d.2∧r.length=m) (fun s hs=>by
   obtain⟨p,rfl,r,hp,hr⟩:=hs;have h0:r=[]:=abD hr;rw[h0,List.append_nil]at hp;subst hp;refine ak Dm (af (bW _) ?_);refine G3 _ ⟨?_,fun e he=>?_⟩
   ·rw[KA];exact h.pd.symm
   ·obtain⟨x,_,rfl⟩:=acE.1 he;rfl)
  (fun i e r s hi he A3 hk ih=>by
   obtain⟨p,rfl,q,hp,hq⟩:=hk;have N0:p.length=i:=by have:=congrArg List.length hp;rw[List.length_append]at this;omega
   cases q with
   |nil=>simp at hq
   |cons e' q' =>
    have NC:e'=e:=by have:=he;rw[←hp,List.getElem?_append_right (by omega),N0,Nat.sub_self]at this;simpa using this
    subst NC;refine ak Dm (ae (aJ hi) (aa (ai he) ?_));rw[wI,aB hi (by omega)];rw[←hp,zz,eY]at GL;obtain⟨_,h6,h7⟩:=adz.1 GL;have e0:ends (p++[e'])=(ends p++[(e'.1,0)])++[(e'.1,1)]:=by rw[zz,eY,show ends []=[] from rfl,List.append_assoc];rfl
    have m1:=Dq (e'.1,0) (ends p) fun k=>h7 _ k _ (by simp) rfl;have m2:=Dq (e'.1,1) (ends p++[(e'.1,0)]) fun k=>by
     rcases abY.1 k with k|k
     ·exact h7 _ k _ (by simp) rfl
     ·simp at k
    rw[←e0]at m2;have:=ih (tr (ends (p++[e']))) ⟨p++[e'],rfl,q',by simpa using hp,by simp at hq;omega⟩;rw[←m2,←m1]at this;exact this)
  [] ⟨[],rfl,d.2,rfl,rfl⟩
theorem RF(hG:HG G)(s:ByteArray)(n:Int)(hs:s.size≤100000000):FX G 140 Ib ((s,(n,())),())=some ((!dY s,()),()):=au (hG _ _ rfl) aiV (aa (ahu (hG _ _ rfl) s hs) rfl)
theorem RG(hG:HG G)(s:ByteArray)(n:Int):FX G 142 Ic ((s,(n,())),())=some ((!dE n,()),()):=au (hG _ _ rfl) aiW (aa (ahv (hG _ _ rfl) n) rfl)
theorem G9(hG:HG G)(v:an)(h:dY v.2.2.1=true):FX G 14100000180 gS ((v,()),(((),()),()))=some ((false,()),(((),()),())):=by refine au (hG _ _ rfl) wX (aa (RF hG v.2.2.1 v.2.2.2 (by have:=Bk h;omega)) ?_);show some (((!dY v.2.2.1,()):Bool×Unit),_)=_;rw[h];rfl
theorem Hc(hG:HG G)(l:List an)(hl:l.length≤1000)(h:∀v∈l,dY v.2.2.1=true):FX G 14100181203 bF ((l,()),(((),()),()))=some (((-1:Int),()),(((),()),())):=by
 refine au (hG _ _ rfl) wR ?_;have loop:∀(n i:Nat),i+n=l.length→LX G 14100181203 bF Tryz.f203 b7 (aE Tryz.prog 203 0) ((l,(((l.length:Nat):Int),((i:Int),()))),((((),()),()),()))=some (((-1:Int),()),(((),()),())):=by
  intro n
  induction n with
  |zero=>intro i hi;exact ak gy (af (decide_eq_false (show ¬((i:Int)<((l.length:Nat):Int)) by omega)) rfl)
  |succ n ih =>
   intro i hi;have aG:i<l.length:=by omega
   refine ak gy (ae (aJ aG) (aa (ai (abf aG)) (aa (G9 hG _ (h _ (acG aG))) (af rfl ?_))));rw[wI,aB aG (by omega)];exact ih (i+1) (by omega)
 exact loop l.length 0 (by omega)
theorem Hd(hG:HG G)(l:List an)(hl:l.length≤1000)(h:∀v∈l,dY v.2.2.1=true):FX G 14100181179 gO ((l,()),(((),()),()))=some ((false,()),(((),()),())):=au (hG _ _ rfl) wP (aa (Hc hG l hl h) rfl)
theorem He(hG:HG G)(v:aj)(h:dY v.2.1=true):FX G 14100000182 gV ((v,()),(((),()),()))=some ((false,()),(((),()),())):=by refine au (hG _ _ rfl) wZ (aa (RF hG v.2.1 v.2.2 (by have:=Bk h;omega)) ?_);show some (((!dY v.2.1,()):Bool×Unit),_)=_;rw[h];rfl
theorem Hf(hG:HG G)(l:List aj)(hl:l.length≤1000)(h:∀v∈l,dY v.2.1=true):FX G 14100183204 bH ((l,()),(((),()),()))=some (((-1:Int),()),(((),()),())):=by
 refine au (hG _ _ rfl) wV ?_;have loop:∀(n i:Nat),i+n=l.length→LX G 14100183204 bH Tryz.f204 cc (aE Tryz.prog 204 0) ((l,(((l.length:Nat):Int),((i:Int),()))),((((),()),()),()))=some (((-1:Int),()),(((),()),())):=by
  intro n
  induction n with
  |zero=>intro i hi;exact ak gE (af (decide_eq_false (show ¬((i:Int)<((l.length:Nat):Int)) by omega)) rfl)
  |succ n ih =>
   intro i hi;have aG:i<l.length:=by omega
   refine ak gE (ae (aJ aG) (aa (ai (abf aG)) (aa (He hG _ (h _ (acG aG))) (af rfl ?_))));rw[wI,aB aG (by omega)];exact ih (i+1) (by omega)
 exact loop l.length 0 (by omega)
theorem Hg(hG:HG G)(l:List aj)(hl:l.length≤1000)(h:∀v∈l,dY v.2.1=true):FX G 14100183181 gQ ((l,()),(((),()),()))=some ((false,()),(((),()),())):=au (hG _ _ rfl) wT (aa (Hf hG l hl h) rfl)
theorem Yf(hG:HG G)(d:ar)(h1:d.1.length≤1000)(h2:d.2.length≤1000)(hv:∀v∈d.1,dY v.2.2.1=true)(he:∀v∈d.2,dY v.2.1=true):FX G 141139 qy ((d,()),())=some ((false,()),()) :=au (hG _ _ rfl) Nq (aa (Hd hG d.1 h1 hv) (af rfl (aa (Hg hG d.2 h2 he) rfl)))
theorem Hh(hG:HG G)(v:an)(h:dE v.2.2.2=true):FX G 14300000180 gT ((v,()),(((),()),()))=some ((false,()),(((),()),())):=by refine au (hG _ _ rfl) wY (aa (RG hG v.2.2.1 v.2.2.2) ?_);show some (((!dE v.2.2.2,()):Bool×Unit),_)=_;rw[h];rfl
theorem Hi(hG:HG G)(l:List an)(hl:l.length≤1000)(h:∀v∈l,dE v.2.2.2=true):FX G 14300181203 bG ((l,()),(((),()),()))=some (((-1:Int),()),(((),()),())):=by
 refine au (hG _ _ rfl) wS ?_;have loop:∀(n i:Nat),i+n=l.length→LX G 14300181203 bG Tryz.f203 b8 (aE Tryz.prog 203 0) ((l,(((l.length:Nat):Int),((i:Int),()))),((((),()),()),()))=some (((-1:Int),()),(((),()),())):=by
  intro n
  induction n with
  |zero=>intro i hi;exact ak gD (af (decide_eq_false (show ¬((i:Int)<((l.length:Nat):Int)) by omega)) rfl)
  |succ n ih =>
   intro i hi;have aG:i<l.length:=by omega
   refine ak gD (ae (aJ aG) (aa (ai (abf aG)) (aa (Hh hG _ (h _ (acG aG))) (af rfl ?_))));rw[wI,aB aG (by omega)];exact ih (i+1) (by omega)
 exact loop l.length 0 (by omega)
theorem Hj(hG:HG G)(l:List an)(hl:l.length≤1000)(h:∀v∈l,dE v.2.2.2=true):FX G 14300181179 gP ((l,()),(((),()),()))=some ((false,()),(((),()),())):=au (hG _ _ rfl) wQ (aa (Hi hG l hl h) rfl)
theorem Hk(hG:HG G)(v:aj)(h:dE v.2.2=true):FX G 14300000182 gW ((v,()),(((),()),()))=some ((false,()),(((),()),())):=by refine au (hG _ _ rfl) w4 (aa (RG hG v.2.1 v.2.2) ?_);show some (((!dE v.2.2,()):Bool×Unit),_)=_;rw[h];rfl
theorem Hl(hG:HG G)(l:List aj)(hl:l.length≤1000)(h:∀v∈l,dE v.2.2=true):FX G 14300183204 bI ((l,()),(((),()),()))=some (((-1:Int),()),(((),()),())):=by
 refine au (hG _ _ rfl) wW ?_;have loop:∀(n i:Nat),i+n=l.length→LX G 14300183204 bI Tryz.f204 cd (aE Tryz.prog 204 0) ((l,(((l.length:Nat):Int),((i:Int),()))),((((),()),()),()))=some (((-1:Int),()),(((),()),())):=by
  intro n
  induction n with
  |zero=>intro i hi;exact ak gF (af (decide_eq_false (show ¬((i:Int)<((l.length:Nat):Int)) by omega)) rfl)
  |succ n ih =>
   intro i hi;have aG:i<l.length:=by omega
   refine ak gF (ae (aJ aG) (aa (ai (abf aG)) (aa (Hk hG _ (h _ (acG aG))) (af rfl ?_))));rw[wI,aB aG (by omega)];exact ih (i+1) (by omega)
 exact loop l.length 0 (by omega)
theorem Hm(hG:HG G)(l:List aj)(hl:l.length≤1000)(h:∀v∈l,dE v.2.2=true):FX G 14300183181 gR ((l,()),(((),()),()))=some ((false,()),(((),()),())):=au (hG _ _ rfl) wU (aa (Hl hG l hl h) rfl)
theorem Yg(hG:HG G)(d:ar)(h1:d.1.length≤1000)(h2:d.2.length≤1000)(hv:∀v∈d.1,dE v.2.2.2=true)(he:∀v∈d.2,dE v.2.2=true):FX G 143139 qz ((d,()),())=some ((false,()),()) :=au (hG _ _ rfl) Nr (aa (Hj hG d.1 h1 hv) (af rfl (aa (Hm hG d.2 h2 he) rfl)))
theorem ajh(hG:HG G)(d:ar)(h:Wf d):FX G 95 Ia ((d,()),())=some (((0:Int),()),()):=by have ND:=h.nv;have bA:=h.ne;obtain⟨n1,n2,n3,n4⟩:=Ni h;refine au (hG _ _ rfl) ab5 ?_;refine af (decide_eq_false (show ¬(((d.1.length:Nat):Int)>24) by omega)) (af (decide_eq_false (show ¬(((d.2.length:Nat):Int)>40) by omega)) ?_);refine aa (Ns hG d.1 (by omega)) (aa (ack hG _ (by rw[List.length_map];omega) n1 n2) (af rfl ?_));refine aa (Nt hG d.2 (by omega)) (aa (ack hG _ (by rw[List.length_map];omega) n3 n4) (af rfl ?_));refine aa (ajg hG d h) (af rfl (aa (Yf hG d (by omega) (by omega) (fun v hv=>(h.gv v hv).l) fun v hv=>(h.ge v hv).l) (af rfl ?_)));exact aa (Yg hG d (by omega) (by omega) (fun v hv=>(h.gv v hv).a) fun v hv=>(h.ge v hv).a) (af rfl rfl)
theorem aji(hG:HG G)(hp:jM G)(d:ar)(h:Wf d)(hg:cX d=0):FX G 67 H8 ((d,()),())=some (((0:Int),()),()):=by refine au (hG _ _ rfl) ab4 (aa (ajh hG d h) (af rfl ?_));refine aa (hp d h) (af ?_ rfl);show(!decide (cX d=0))=false;rw[decide_eq_true hg];rfl
def aH:List aj→Nat→List (ID×Int)
 |[],_=>[]
 |e::r,i=>(e.1,(i:Int))::aH r (i+1)
theorem Gc:∀(a b:List aj) (i:Nat),aH (a++b) i=aH a i++aH b (i+a.length)
 |[],_,_=>rfl
 |e::r,b,i=>by rw[List.cons_append,aH,aH,Gc r b (i+1),List.length_cons,List.cons_append,show i+1+r.length=i+(r.length+1) by omega]
theorem Cq:∀(l:List aj) (i:Nat),(aH l i).map (·.1)=l.map (·.1)
 |[],_=>rfl
 |e::r,i=>by rw[aH,List.map_cons,List.map_cons,Cq r]
theorem PM{α:Type}(x:ID)(es:List (ID×α)):sZ fQ x es=es.findIdx? fun e=>decide (e.1=x):=by
 show List.findIdx? (fun e:ID×α=>((x.1==e.1.1)&&(x.2==e.1.2))) es=_;congr 1;funext e;rw[vX x e.1];by_cases h:x=e.1
 ·rw[decide_eq_true h,decide_eq_true h.symm]
 ·rw[decide_eq_false h,decide_eq_false (fun k=>h k.symm)]
theorem aek{α:Type}{x:ID}(v:α){es:List (ID×α)}(h:x∉es.map (·.1)):j4 fQ x v es=es++[(x,v)]:=by
 have e:sZ fQ x es=none:=by rw[PM,List.findIdx?_eq_none_iff];intro q hq;exact decide_eq_false fun k=>h (acE.2 ⟨q,hq,k⟩)
 unfold j4
 split
 ·rename_i i k;rw[e]at k;cases k
 ·rfl
def gG(pl:List (ID×Int))(y:ag):Int:=w8 (wI ((Option.getD (fG fQ y.1 pl) (0:Int))+(wI ((128:Int)*y.2))))
def bu(pl:List (ID×Int))(v:an):List Int:=bB (v.1,v.2.2)++(w8 ((v.2.1.length:Nat):Int)::v.2.1.map (gG pl))
def b6(d:ar):List Int:=w8 ((d.2.length:Nat):Int)::(d.2.flatMap bB++(w8 ((d.1.length:Nat):Int)::d.1.flatMap (bu (aH d.2 0))))
def acm(g:aC):List Int:=bq g.1.1++(w8 g.1.2::(bq g.2.1++[w8 g.2.2]))
def ael(s:StateT):List Int:=b6 s.1++s.2.flatMap acm
theorem gm{s:ByteArray}(h:dY s=true):s.size≤16:=Bk h
theorem Yh(hG:HG G)(hp:jM G)(d:ar)(h:Wf d)(hg:cX d=0):FX G 42 jU ((d,()),())=some ((b6 d,((0:Int),())),()):=by
 have ND:=h.nv;have bA:=h.ne;have Mi:(av d.1).length≤80:=by rw[h.pd.length_eq,z6];omega
 have ajj:∀v∈d.1,v.2.1.length≤80:=fun v hv=>by obtain⟨a,b,he⟩:=adm hv;rw[he,la,dQ]at Mi;simp at Mi;omega
 refine au (hG _ _ rfl) ab3 (aa (aji hG hp d h hg) (af rfl ?_));have G3:∀b:List Int,b.length≤20000→LX G 42 jU Tryz.f42 vp (aE Tryz.prog 42 1) ((d.1,(((d.1.length:Nat):Int),((0:Int),()))),((),(aH d.2 0,(b,()))))=some ((b++d.1.flatMap (bu (aH d.2 0)),((0:Int),())),()):=by
  intro b hb;exact bh d.1 (fun i (s:List Int)=>LX G 42 jU Tryz.f42 vp (aE Tryz.prog 42 1) ((d.1,(((d.1.length:Nat):Int),(i,()))),((),(aH d.2 0,(s,()))))) (fun r s=>((s++r.flatMap (bu (aH d.2 0)),((0:Int),())),())) (fun m s=>s.length+m*200≤40000) (fun s hs=>by refine ak Rr (af (bW _) ?_);simp only[List.flatMap_nil,List.append_nil]) (fun i v r s hi hv A3 hk ih=>by
    have hm:v∈d.1:=abC hv;have iY:=gm (h.gv v hm).l;have KK:=ajj v hm;have l1:(s++bB (v.1,v.2.2)).length=s.length+(v.2.2.1.size+13):=by rw[List.length_append,ow]
    refine ak Rr (ae (aJ hi) (aa (ai hv) (aa (acj hG s (v.1,v.2.2) (by show s.length+v.2.2.1.size≤_;omega)) (ae (fits ?_) ?_))))
    ·show(s++bB (v.1,v.2.2)).length+1≤_;rw[l1];omega
    have ew:=aB hi (by omega);have Ye:=bh v.2.1 (fun k (q:List Int)=>LX G 42 jU Tryz.f42 zi (aE Tryz.prog 42 2) ((d.1,(((d.1.length:Nat):Int),((i:Int),(v.2.1,(((v.2.1.length:Nat):Int),(k,())))))),((),(aH d.2 0,(q,()))))) (fun r' q=>(((q++r'.map (gG (aH d.2 0)))++r.flatMap (bu (aH d.2 0)),((0:Int),())),())) (fun m q=>q.length+m=s.length+(v.2.2.1.size+14)+v.2.1.length) (fun q hq=>by refine ak Rs (af (bW _) ?_);rw[wI,ew];refine(ih q (by omega)).trans ?_;simp only[List.map_nil,List.append_nil]) (fun k x r' q uh hx hqq hh PL=>by refine ak Rs (ae (aJ uh) (aa (ai hx) (ae (fits (show q.length+1≤_ by omega)) ?_)));rw[wI,aB uh (by omega)];refine(PL (q++[gG (aH d.2 0) x]) (by simp;omega)).trans ?_;simp only[List.map_cons,List.append_assoc,List.singleton_append,List.cons_append,List.nil_append]) ((s++bB (v.1,v.2.2))++[w8 ((v.2.1.length:Nat):Int)]) (by rw[List.length_append,l1];simp;omega);refine Ye.trans ?_;simp only[List.flatMap_cons,bu,List.append_assoc,List.singleton_append,List.cons_append,List.nil_append])
   b (by omega)
 have N3:=h.se;have key:=bh d.2 (fun i (s:List aj×List Int)=>LX G 42 jU Tryz.f42 vo (aE Tryz.prog 42 0) ((d.2,(((d.2.length:Nat):Int),(i,()))),(((d,()),()),(aH s.1 0,(s.2,()))))) (fun r s=>(((s.2++r.flatMap bB)++(w8 ((d.1.length:Nat):Int)::d.1.flatMap (bu (aH d.2 0))),((0:Int),())),())) (fun m s=>s.2.length+m*50≤10000∧∃r,s.1++r=d.2∧r.length=m) (fun s hs=>by obtain⟨h1,r,h2,h3⟩:=hs;have h0:r=[]:=abD h3;rw[h0,List.append_nil]at h2;refine ak Rq (af (bW _) (ae (fits (show s.2.length+1≤_ by omega)) ?_));rw[h2];refine(G3 (s.2++[w8 ((d.1.length:Nat):Int)]) (by simp;omega)).trans ?_;simp only[List.flatMap_nil,List.append_nil,List.append_assoc,List.singleton_append,List.cons_append,List.nil_append];rfl) (fun i e r s hi he A3 hk ih=>by
   obtain⟨p,b⟩:=s;obtain⟨h1,q,hq,hql⟩:=hk;have hq:p++q=d.2:=hq;have N0:p.length=i:=by have:=congrArg List.length hq;rw[List.length_append]at this;omega
   cases q with
   |nil=>simp at hql
   |cons e' q' =>
    have NC:e'=e:=by have:=he;rw[←hq,List.getElem?_append_right (by omega),N0,Nat.sub_self]at this;simpa using this
    subst NC;have hm:e'∈d.2:=abC he;have iY:=gm (h.ge e' hm).l;have h1:b.length+(r.length+1)*50≤10000:=h1;refine ak Rq (ae (aJ hi) (aa (ai he) (aa (acj hG b e' (by omega)) ?_)));have hnk:e'.1∉(aH p 0).map (·.1):=by rw[Cq];intro k;obtain⟨u,hu,hue⟩:=acE.1 k;have h5:=N3;rw[←hq]at h5;have:=(List.pairwise_append.1 h5).2.2 u hu e' (by simp);rw[hue,cm]at this;cases this
    have m1:j4 fQ e'.1 (i:Int) (aH p 0)=aH (p++[e']) 0:=by rw[Gc,Nat.zero_add,N0];exact aek (i:Int) hnk
    have ew:=aB hi (by omega);have:=ih (p++[e'],b++bB e') ⟨by show(b++bB e').length+_≤_;rw[List.length_append,ow];omega,q',by simpa using hq,by simp at hql;omega⟩;refine(congr (congrArg (fun(k:Int) (pl:List (ID×Int))=>LX G 42 jU Tryz.f42 vo (aE Tryz.prog 42 0) ((d.2,(((d.2.length:Nat):Int),(k,()))),(((d,()),()),(pl,(b++bB e',()))))) ew) m1).trans (this.trans ?_);simp only[List.flatMap_cons,List.append_assoc])
  ([],[w8 ((d.2.length:Nat):Int)]) ⟨by show 1+d.2.length*50≤_;omega,d.2,rfl,rfl⟩
 exact key
theorem qX{α β:Type}(f:α→List β)(k:Nat):∀l:List α,(∀e∈l,(f e).length≤k)→(l.flatMap f).length≤k*l.length
 |[],_=>by simp
 |e::r,h=>by have h1:=h e (by simp);have h2:=qX f k r fun q hq=>h q (by simp[hq]);rw[List.flatMap_cons,List.length_append,List.length_cons,Nat.mul_succ];omega
theorem ox{d:ar}(h:Wf d):(b6 d).length≤5000:=by
 have ND:=h.nv;have bA:=h.ne;have Mi:(av d.1).length≤80:=by rw[h.pd.length_eq,z6];omega
 have h1:=qX bB 29 d.2 fun e he=>by have:=gm (h.ge e he).l;rw[ow];omega
 have h2:=qX (bu (aH d.2 0)) 110 d.1 fun v hv=>by have:=gm (h.gv v hv).l;obtain⟨a,b,he⟩:=adm hv;rw[he,la,dQ]at Mi;unfold bu;rw[List.length_append,ow,List.length_cons,List.length_map];simp at Mi ⊢;omega
 unfold b6;rw[List.length_cons,List.length_append,List.length_cons];omega
end Go.Vs
set_option autoImplicit false
namespace Go.Vs
open Go
theorem Nu{row:List ag}{x:ag}(h:x∈row):my row x∈row:=by have hl:0<row.length:=List.length_pos_of_mem h;unfold my fR;rw[if_pos h];have aG:((idx x row 0).toNat+(row.length-1))%row.length<row.length:=aeM _ hl;rw[List.getElem?_eq_getElem aG];exact acG aG
theorem Wf.md{d:ar}(h:Wf d){x:ag}(hx:x∈av d.1):gr x=true:=by obtain⟨e,he,h1,h2⟩:=cy.1 (h.pd.mem_iff.1 hx);unfold gr;rw[←h1,(h.ge e he).i,Bool.true_and];exact decide_eq_true h2
def bw(l:List aC):Prop:=∀g∈l,gr g.1=true∧(g.2=zD∨gr g.2=true)
theorem Wf.ah{d:ar}(h:Wf d){x:ag}(hx:x∈av d.1):fL d x=zD∨gr (fL d x)=true:=by
 obtain⟨v,hv,hm⟩:=aS.1 hx;rw[IH h.rw hv hm];have h1:=Nu hm;have h2:=Nu h1
 split
 ·split
  ·exact .inl rfl
  ·exact .inr (h.md (aS.2 ⟨v,hv,h2⟩))
 ·exact .inr (h.md (aS.2 ⟨v,hv,h1⟩))
theorem bw.zero:bw []:=fun g hg=>by cases hg
theorem bw.add{l:List aC}(h:bw l){g:aC}(h1:gr g.1=true)(h2:g.2=zD∨gr g.2=true):bw (ct l g):=by
 unfold ct
 split
 ·exact h
 ·intro q hq;rcases zG hq with rfl|⟨k,_⟩
  ·exact⟨h1,h2⟩
  ·exact h q k
theorem I0{x:ID}(h:bQ x=true){i:Int}(hi:i=0∨i=1):gr (x,i)=true:=by unfold gr;rw[h,Bool.true_and];exact decide_eq_true hi
theorem bw.one{s:StateT}(h:fN s)(hg:bw s.2)(o:bP):bw (qI s o).1.2:=by
 unfold qI
 split
 ·exact bw.zero
 split
 ·unfold sW
  split;· exact bw.zero
  split;· exact bw.zero
  exact hg
 split
 ·unfold Ci
  split
  ·exact bw.zero
  ·split
   ·exact bw.zero
   ·exact hg
 split
 ·unfold uo
  split;· exact bw.zero
  split;· exact bw.zero
  split;· exact bw.zero
  split;· exact bw.zero
  split;· exact bw.zero
  exact hg
 split
 ·unfold MC
  split;· exact bw.zero
  rename_i h1;have hs:=Bi h1;have d0:=h.d.mn hs (s:=0) (.inl rfl);have d1:=h.d.mn hs (s:=1) (.inr rfl);exact(hg.add (h.d.md d0) (h.d.ah d0)).add (h.d.md d1) (h.d.ah d1)
 split
 ·unfold pQ
  split;· exact bw.zero
  split;· exact bw.zero
  split;· exact bw.zero
  split;· exact bw.zero
  split;· exact bw.zero
  exact hg
 split
 ·unfold pj
  split
  ·exact bw.zero
  ·rename_i v hv
   split
   ·rename_i r0 r1 hr;have hvm:=gZ hv;have m0:=h.d.md (aS.2 ⟨v,hvm,by rw[hr];simp⟩:r0∈av s.1.1);have m1:=h.d.md (aS.2 ⟨v,hvm,by rw[hr];simp⟩:r1∈av s.1.1);have key:∀a b:ag,gr a=true→gr b=true→bw (NO s.2 a b):=fun a b ha hb=>by
     have hi:bQ b.1=true:=(aeK _ _▸(show(bQ b.1&&decide (b.2=0∨b.2=1))=true from hb)).1;have ht:∀i,ti a b i=zD∨gr (ti a b i)=true:=fun i=>by
      unfold ti;split
      ·exact .inr ha
      ·exact .inl rfl
     exact(hg.add (g:=((b.1,0),ti a b 0)) (I0 hi (.inl rfl)) (ht 0)).add (g:=((b.1,1),ti a b 1)) (I0 hi (.inr rfl)) (ht 1)
    unfold mO
    split;· exact bw.zero
    split
    ·exact key r1 r0 m1 m0
    split
    ·exact key r0 r1 m0 m1
    ·exact bw.zero
   ·exact bw.zero
 ·unfold A6
  split
  ·exact hg
  ·exact bw.zero
theorem bw.go:∀(l:List bP) {s:StateT},fN s→bw s.2→bw (Kc l s).1.2
 |[],_,_,h=>h
 |o::r,s,hw,h=>by
  unfold Kc
  split
  ·exact bw.zero
  ·exact bw.go r (hw.one o) (bw.one hw h o)
theorem bw.try{s:StateT}(hw:fN s)(h:bw s.2)(l:List bP):bw (kB s l).2:=by
 unfold kB
 split
 ·exact h
 ·unfold eV
  split
  ·exact bw.zero
  ·exact bw.go l hw h
theorem bw.all:∀(l:List (List bP)) {s:StateT},fN s→bw s.2→bw (zQ l s).2
 |[],_,_,h=>h
 |e::r,_,hw,h=>bw.all r (hw.try e) (bw.try hw h e)
theorem gH(n:Int):w8 n=n%256:=rfl
theorem Gd(n:Int):0≤w8 n∧w8 n<256:=by rw[gH];omega
theorem PN{x y:ID}(hx:bQ x=true)(hy:bQ y=true)(h:bq x=bq y):x=y:=by
 obtain⟨a,b⟩:=x;obtain⟨c,d⟩:=y;have hx:1≤a∧a≤8∧1≤b∧b≤1048576:=of_decide_eq_true hx;have hy:1≤c∧c≤8∧1≤d∧d≤1048576:=of_decide_eq_true hy;have h:[a%256,(b.fdiv 65536)%256,(b.fdiv 256)%256,b%256]=[c%256,(d.fdiv 65536)%256,(d.fdiv 256)%256,d%256]:=h;simp only[Int.fdiv_eq_ediv_of_nonneg _ (show(0:Int)≤65536 by decide),Int.fdiv_eq_ediv_of_nonneg _ (show(0:Int)≤256 by decide),List.cons.injEq,and_true]at h;have h1:a=c:=by omega
 have h2:b=d:=by omega
 rw[h1,h2]
theorem KB(n:Int):dr n=[(n%18446744073709551616) / 72057594037927936%256,(n%18446744073709551616) / 281474976710656%256,(n%18446744073709551616) / 1099511627776%256,(n%18446744073709551616) / 4294967296%256,(n%18446744073709551616) / 16777216%256,(n%18446744073709551616) / 65536%256,(n%18446744073709551616) / 256%256,n%18446744073709551616%256]:=by have e:∀k:Int,0≤k→Int.fdiv (n%18446744073709551616) k=(n%18446744073709551616) / k:=fun k hk=>Int.fdiv_eq_ediv_of_nonneg _ hk;have h:dr n=[Int.fdiv (n%18446744073709551616) 72057594037927936%256,Int.fdiv (n%18446744073709551616) 281474976710656%256,Int.fdiv (n%18446744073709551616) 1099511627776%256,Int.fdiv (n%18446744073709551616) 4294967296%256,Int.fdiv (n%18446744073709551616) 16777216%256,Int.fdiv (n%18446744073709551616) 65536%256,Int.fdiv (n%18446744073709551616) 256%256,Int.fdiv (n%18446744073709551616) 1%256]:=rfl;rw[h,e _ (by decide),e _ (by decide),e _ (by decide),e _ (by decide),e _ (by decide),e _ (by decide),e _ (by decide),e _ (by decide),Int.ediv_one]
theorem Bx(N:Int)(h0:0≤N)(h1:N<18446744073709551616):(((((((N / 72057594037927936%256*256+N / 281474976710656%256)*256+N / 1099511627776%256)*256+N / 4294967296%256)*256+N / 16777216%256)*256+N / 65536%256)*256+N / 256%256)*256+N%256)=N:=by omega
theorem Nv{m n:Int}(hm : -9223372036854775808≤m∧m<9223372036854775808)(hn : -9223372036854775808≤n∧n<9223372036854775808)(h:dr m=dr n):m=n:=by rw[KB,KB]at h;simp only[List.cons.injEq,and_true]at h;have a:=Bx (m%18446744073709551616) (by omega) (by omega);have b:=Bx (n%18446744073709551616) (by omega) (by omega);obtain⟨h1,h2,h3,h4,h5,h6,h7,h8⟩:=h;rw[h1,h2,h3,h4,h5,h6,h7,h8,b]at a;omega
theorem Cr{s t:ByteArray}(h:bytesOf s=bytesOf t):s=t:=by unfold bytesOf at h;have:=List.map_inj_right (f:=fun b:UInt8=>(b.toNat:Int)) (fun a b Fc=>UInt8.toNat_inj.1 (by exact_mod_cast Fc)) |>.1 h;obtain⟨⟨l⟩⟩:=s;obtain⟨⟨m⟩⟩:=t;simp only at this;rw[this]
theorem pz{α:Type}{a b c d:List α}(hl:a.length=c.length)(h:a++b=c++d):a=c∧b=d:=List.append_inj h hl
theorem TR{s t:ByteArray}{r q:List Int}(hs:s.size≤16)(ht:t.size≤16)(h:iF s++r=iF t++q):s=t∧r=q:=by
 unfold iF at h;simp only[List.cons_append,List.cons.injEq]at h;obtain⟨h1,h2⟩:=h;have hz:s.size=t.size:=by rw[gH,gH]at h1;omega
 obtain⟨h3,h4⟩:=pz (by rw[iG,iG,hz]) h2;exact⟨Cr h3,h4⟩
structure PO(e:aj):Prop where
 i:bQ e.1=true
 l:dY e.2.1=true
 a:dE e.2.2=true
theorem GE.th{e:aj}(h:GE e):PO e:=⟨h.i,h.l,h.a⟩
theorem GV.th{v:an}(h:GV v):PO (v.1,v.2.2):=⟨h.i,h.l,h.a⟩
theorem Ge{e f:aj}{r q:List Int}(he:PO e)(hf:PO f)(h:bB e++r=bB f++q):e=f∧r=q:=by unfold bB at h;simp only[List.append_assoc]at h;obtain⟨h1,h2⟩:=pz (by rfl) h;obtain⟨h3,h4⟩:=TR (gm he.l) (gm hf.l) h2;obtain⟨h5,h6⟩:=pz (by rw[cT,cT]) h4;have a:=he.a;have b:=hf.a;unfold dE at a b;have a:=of_decide_eq_true a;have b:=of_decide_eq_true b;have h7:=Nv (by omega) (by omega) h5;refine⟨?_,h6⟩;obtain⟨e1,e2,e3⟩:=e;obtain⟨f1,f2,f3⟩:=f;have:=PN he.i hf.i h1;simp only at this h3 h7;rw[this,h3,h7]
theorem Gf{α:Type}(f:α→List Int)(P:α→Prop)(hf:∀a b r q,P a→P b→f a++r=f b++q→a=b∧r=q):∀(l m:List α) (r q:List Int),l.length=m.length→(∀a∈l,P a)→(∀a∈m,P a)→l.flatMap f++r=m.flatMap f++q→l=m∧r=q
 |[],[],r,q,_,_,_,h=>⟨rfl,h⟩
 |a::l,b::m,r,q,hl,h1,h2,h=>by simp only[List.flatMap_cons,List.append_assoc]at h;obtain⟨e1,e2⟩:=hf a b _ _ (h1 a (by simp)) (h2 b (by simp)) h;obtain⟨e3,e4⟩:=Gf f P hf l m r q (by simpa using hl) (fun a ha=>h1 a (by simp[ha])) (fun a ha=>h2 a (by simp[ha])) e2;exact⟨by rw[e1,e3],e4⟩
 |[],_::_,_,_,hl,_,_,_=>by simp at hl
 |_::_,[],_,_,hl,_,_,_=>by simp at hl
theorem Gg(x:ID):∀(l:List aj) (i:Nat),fG fQ x (aH l i)=(l.findIdx? fun e=>decide (e.1=x)).map fun j=>((i+j:Nat):Int)
 |[],i=>by unfold fG;rw[PM];rfl
 |e::r,i=>by
  have ih:=Gg x r (i+1);unfold fG at ih ⊢;rw[PM]at ih ⊢;rw[aH,List.findIdx?_cons,List.findIdx?_cons];by_cases h:e.1=x
  ·simp only[h,decide_true,if_true];rfl
  ·simp only[decide_eq_false h];have e2:(r.findIdx? fun e=>decide (e.1=x)).map (fun j=>((i+1+j:Nat):Int))=((r.findIdx? fun e=>decide (e.1=x)).map (·+1)).map fun j=>((i+j:Nat):Int):=by rw[Option.map_map];congr 1;funext j;show((i+1+j:Nat):Int)=((i+(j+1):Nat):Int);congr 1;omega
   refine Eq.trans ?_ e2
   cases h2:(aH r (i+1)).findIdx? fun e=>decide (e.1=x)<;>rw[h2]at ih
   ·exact ih
   ·exact ih
def uG(l:List aj)(x:ID):Int:=match l.findIdx? fun e=>decide (e.1=x) with|some j=>(j:Int)|none=>0
theorem I2(l:List aj)(x:ID):Option.getD (fG fQ x (aH l 0)) (0:Int)=uG l x:=by
 rw[Gg];unfold uG
 split
 ·rename_i j h;rw[h];simp
 ·rename_i h;rw[h];rfl
theorem TS{l:List aj}{x:ID}(h:∃e∈l,e.1=x):∃j,uG l x=((j:Nat):Int)∧∃hj:j<l.length,l[j].1=x:=by
 obtain⟨e,he,h1⟩:=h;unfold uG
 cases h2:l.findIdx? fun e=>decide (e.1=x) with
 |none=>rw[List.findIdx?_eq_none_iff]at h2;have:=h2 e he;simp[h1]at this
 |some j =>obtain⟨h3,h4,_⟩:=aeI.1 h2;exact⟨j,rfl,h3,of_decide_eq_true h4⟩
theorem z7{l:List aj}(hl:l.length≤40){y:ag}(hy:y∈ends l):∃j:Nat,gG (aH l 0) y=(j:Int)+128*y.2∧(y.2=0∨y.2=1)∧uG l y.1=(j:Int)∧∃hj:j<l.length,l[j].1=y.1:=by obtain⟨e,he,h1,h2⟩:=cy.1 hy;obtain⟨j,h3,h4,h5⟩:=TS ⟨e,he,h1⟩;refine⟨j,?_,h2,h3,h4,h5⟩;unfold gG;rw[I2,h3,gH];rw[show wI ((128:Int)*y.2)=128*y.2 from wrap_small (by omega) (by omega),show wI ((j:Int)+128*y.2)=(j:Int)+128*y.2 from wrap_small (by omega) (by omega)];omega
theorem TT{l:List aj}(hl:l.length≤40){y z:ag}(hy:y∈ends l)(hz:z∈ends l)(h:gG (aH l 0) y=gG (aH l 0) z):y=z:=by
 obtain⟨j,e1,s1,_,j1,k1⟩:=z7 hl hy;obtain⟨i,e2,s2,_,j2,k2⟩:=z7 hl hz;rw[e1,e2]at h;have hj:j=i:=by omega
 subst hj;obtain⟨a,b⟩:=y;obtain⟨c,d⟩:=z;simp only at *;have:b=d:=by omega
 rw[←k1,←k2,this]
structure aaN(l:List aj)(v:an):Prop where
 g:GV v
 n:v.2.1.length≤80
 m:∀x∈v.2.1,x∈ends l
theorem Gh{α β:Type}{f:α→β}:∀{l m:List α},(∀a∈l,∀b∈m,f a=f b→a=b)→l.map f=m.map f→l=m
 |[],[],_,_=>rfl
 |a::l,b::m,hf,h=>by simp only[List.map_cons,List.cons.injEq]at h;rw[hf a (by simp) b (by simp) h.1,Gh (fun x hx y hy=>hf x (by simp[hx]) y (by simp[hy])) h.2]
 |[],_::_,_,h=>by simp at h
 |_::_,[],_,h=>by simp at h
theorem TU{l:List aj}(hl:l.length≤40)(v w:an)(r q:List Int)(hv:aaN l v)(hw:aaN l w)(h:bu (aH l 0) v++r=bu (aH l 0) w++q):v=w∧r=q:=by
 unfold bu at h;simp only[List.append_assoc,List.cons_append]at h;obtain⟨h1,h2⟩:=Ge hv.g.th hw.g.th h;obtain⟨h3,h4⟩:=aeE h2;have a:=hv.n;have b:=hw.n;have hn:v.2.1.length=w.2.1.length:=by rw[gH,gH]at h3;omega
 obtain⟨h5,h6⟩:=pz (by rw[List.length_map,List.length_map,hn]) h4;have h7:=Gh (fun x hx y hy=>TT hl (hv.m x hx) (hw.m y hy)) h5;refine⟨?_,h6⟩;obtain⟨v1,v2,v3⟩:=v;obtain⟨w1,w2,w3⟩:=w;simp only[Prod.mk.injEq]at h1 h7 ⊢;exact⟨h1.1,h7,h1.2⟩
theorem Wf.vt{d:ar}(h:Wf d):∀v∈d.1,aaN d.2 v:=fun v hv=>⟨h.gv v hv,h.mo v hv,fun x hx=>h.pd.mem_iff.1 (aS.2 ⟨v,hv,hx⟩)⟩
theorem Yi{d c:ar}(hd:Wf d)(hc:Wf c){r q:List Int}(h:b6 d++r=b6 c++q):d=c∧r=q:=by
 unfold b6 at h;simp only[List.cons_append,List.append_assoc]at h;obtain⟨h1,h2⟩:=aeE h;have a:=hd.ne;have b:=hc.ne;have he:d.2.length=c.2.length:=by rw[gH,gH]at h1;omega
 obtain⟨h3,h4⟩:=Gf bB PO (fun _ _ _ _=>Ge) d.2 c.2 _ _ he (fun e k=>(hd.ge e k).th) (fun e k=>(hc.ge e k).th) h2;obtain⟨h5,h6⟩:=aeE h4;have a2:=hd.nv;have b2:=hc.nv;have hv:d.1.length=c.1.length:=by rw[gH,gH]at h5;omega
 have hcv:=hc.vt;rw[←h3]at h6 hcv;obtain⟨h7,h8⟩:=Gf (bu (aH d.2 0)) (aaN d.2) (TU hd.ne) d.1 c.1 _ _ hv hd.vt hcv h6;exact⟨Prod.ext h7 h3,h8⟩
theorem Gi{x y:ID}(hx:0≤x.1∧x.1≤8∧0≤x.2∧x.2≤1048576)(hy:0≤y.1∧y.1≤8∧0≤y.2∧y.2≤1048576)(h:bq x=bq y):x=y:=by
 obtain⟨a,b⟩:=x;obtain⟨c,d⟩:=y;have h:[a%256,(b.fdiv 65536)%256,(b.fdiv 256)%256,b%256]=[c%256,(d.fdiv 65536)%256,(d.fdiv 256)%256,d%256]:=h;simp only[Int.fdiv_eq_ediv_of_nonneg _ (show(0:Int)≤65536 by decide),Int.fdiv_eq_ediv_of_nonneg _ (show(0:Int)≤256 by decide),List.cons.injEq,and_true]at h;simp only at hx hy;have h1:a=c:=by omega
 have h2:b=d:=by omega
 rw[h1,h2]
theorem cK{x:ag}(h:x=zD∨gr x=true):(0≤x.1.1∧x.1.1≤8∧0≤x.1.2∧x.1.2≤1048576)∧(0≤x.2∧x.2≤1):=by
 rcases h with rfl|h
 ·exact⟨by decide,by decide⟩
 ·obtain⟨h1,h2⟩:=(aeK _ _▸(show(bQ x.1&&decide (x.2=0∨x.2=1))=true from h));have h1:1≤x.1.1∧x.1.1≤8∧1≤x.1.2∧x.1.2≤1048576:=of_decide_eq_true h1;have h2:=of_decide_eq_true h2;omega
def bU(l:List Int):Prop:=∀c∈l,0≤c∧c<256
theorem Nw:∀(l:List Int) (r:ByteArray),bU l→bytesOf (l.foldl (fun r n=>r.push (UInt8.ofNat n.toNat)) r)=bytesOf r++l
 |[],r,_=>by simp
 |c::l,r,h=>by
  rw[List.foldl_cons,Nw l _ (fun x hx=>h x (by simp[hx]))];have hc:=h c (by simp);have e:bytesOf (r.push (UInt8.ofNat c.toNat))=bytesOf r++[c]:=by
   unfold bytesOf;show((r.data.push _).toList).map _=_;rw[Array.toList_push,List.map_append];congr 1;have h1:((UInt8.ofNat c.toNat).toNat:Int)=c:=by
    rw[UInt8.toNat_ofNat'];have:c.toNat<256:=by omega
    rw[Nat.mod_eq_of_lt (by simpa using this)];omega
   simp only[List.map_cons,List.map_nil,h1]
  rw[e,List.append_assoc];rfl
theorem By{l:List Int}(h:bU l):bytesOf (strOf l)=l:=by have:=Nw l ByteArray.empty h;exact this
theorem I3{a b:List Int}(ha:bU a)(hb:bU b):(strOf a==strOf b)=decide (a=b):=by
 rw[ZN];by_cases h:a=b
 ·rw[decide_eq_true h,decide_eq_true (by rw[h])]
 ·rw[decide_eq_false h,decide_eq_false fun k=>h (by rw[←By ha,←By hb,k])]
theorem bU.app{a b:List Int}(ha:bU a)(hb:bU b):bU (a++b):=fun c hc=>(abY.1 hc).elim (ha c) (hb c)
theorem bU.cons{n:Int}{b:List Int}(hb:bU b):bU (w8 n::b):=fun c hc=>by
 rcases abq.1 hc with rfl|hc
 ·exact Gd n
 ·exact hb c hc
theorem bU.nil:bU []:=fun c hc=>by cases hc
theorem bU.flat{α:Type}{f:α→List Int}(hf:∀a,bU (f a))(l:List α):bU (l.flatMap f):=fun c hc=>by obtain⟨a,_,h⟩:=List.mem_flatMap.1 hc;exact hf a c h
theorem bU.bq(x:ID):bU (bq x):=bU.nil.cons.cons.cons.cons
theorem bU.dr(n:Int):bU (dr n):=fun c hc=>by obtain⟨i,_,rfl⟩:=acE.1 hc;exact Gd _
theorem bU.bytesOf(s:ByteArray):bU (bytesOf s):=fun c hc=>by obtain⟨i,_,rfl⟩:=acE.1 hc;have:=i.toNat_lt;omega
theorem bU.I4(e:aj):bU (bB e):=(bU.bq _).app ((bU.bytesOf _).cons.app (bU.dr _))
theorem bU.CI(pl:List (ID×Int))(v:an):bU (bu pl v):=(bU.I4 _).app (bU.cons fun c hc=>by obtain⟨i,_,rfl⟩:=acE.1 hc;exact Gd _)
theorem bU.b6(d:ar):bU (b6 d):=((bU.flat bU.I4 _).app (bU.flat (bU.CI _) _).cons).cons
theorem bU.gone(g:aC):bU (acm g):=(bU.bq _).app ((bU.bq _).app bU.nil.cons).cons
theorem bU.state(s:StateT):bU (ael s):=(bU.b6 _).app (bU.flat bU.gone _)
end Go.Vs
set_option autoImplicit false
namespace Go.Vs
open Go
theorem Yj(x c:Nat)(hc:c<256):x*256 ||| c=x*256+c:=by have:=Nat.shiftLeft_add_eq_or_of_lt (i:=8) (b:=c) (by simpa using hc) x;rw[Nat.shiftLeft_eq]at this;exact this.symm
theorem jY{n:Int}(h0:0≤n)(h1:n<18446744073709551616):IntKind.wrap .u64 n=n:=by show n%18446744073709551616=n;omega
theorem aoi(x c:Int)(h0:0≤x)(h1:x<72057594037927936)(hc:0≤c∧c<256):dI .or .u64 (Cs .u64 x 8) c=x*256+c:=by
 obtain⟨n,rfl⟩:∃n:Nat,x=(n:Int):=⟨x.toNat,by omega⟩;obtain⟨m,rfl⟩:∃n:Nat,c=(n:Int):=⟨c.toNat,by omega⟩;have e:Cs .u64 (n:Int) 8=((n*256:Nat):Int):=by unfold Cs;rw[show(2:Int) ^ (min (Int.toNat 8) (IntKind.bits .u64))=256 from rfl,jY (by omega) (by omega)];omega
 rw[e];unfold dI;simp only[BitVec.ofInt_natCast,BitVec.toNat_or,BitVec.toNat_ofNat];rw[show(2:Nat) ^ IntKind.bits .u64=18446744073709551616 from rfl,Nat.mod_eq_of_lt (by omega),Nat.mod_eq_of_lt (by omega),Yj _ _ (by omega),jY (by omega) (by omega)];omega
theorem aoj(x c:Int)(h0:0≤x)(h1:x<36028797018963968)(hc:0≤c∧c<256):dI .or .i64 (Cs .i64 x 8) c=x*256+c:=by
 obtain⟨n,rfl⟩:∃n:Nat,x=(n:Int):=⟨x.toNat,by omega⟩;obtain⟨m,rfl⟩:∃n:Nat,c=(n:Int):=⟨c.toNat,by omega⟩;have e:Cs .i64 (n:Int) 8=((n*256:Nat):Int):=by unfold Cs;rw[show(2:Int) ^ (min (Int.toNat 8) (IntKind.bits .i64))=256 from rfl,wrap_small (by omega) (by omega)];omega
 rw[e];unfold dI;simp only[BitVec.ofInt_natCast,BitVec.toNat_or,BitVec.toNat_ofNat];rw[show(2:Nat) ^ IntKind.bits .i64=18446744073709551616 from rfl,Nat.mod_eq_of_lt (by omega),Nat.mod_eq_of_lt (by omega),Yj _ _ (by omega),wrap_small (by omega) (by omega)];omega
def z8(l:List Int)(x:Int):Int:=l.foldl (fun x c=>x*256+c) x
def cj(b:List Int):ID×(List Int×(Bool×Unit)) :=if 4≤b.length∧bQ (b.headD 0,z8 ((b.drop 1).take 3) 0)=true then((b.headD 0,z8 ((b.drop 1).take 3) 0),(b.drop 4,(true,()))) else(zI,(b,(false,())))
def takeN(b:List Int):Int×(List Int×(Bool×Unit)) :=if 8≤b.length then(IntKind.wrap .i64 (z8 (b.take 8) 0),(b.drop 8,(true,()))) else(0,(b,(false,())))
def cO(b:List Int):ByteArray×(List Int×(Bool×Unit)):=match b with
 |[]=>(e0,([],(false,())))
 |c::r=>if c≤((r.length:Nat):Int) then(strOf (r.take c.toNat),(r.drop c.toNat,(true,()))) else(e0,(b,(false,())))
theorem nk{x:ID}(h:bQ x=true)(r:List Int):cj (bq x++r)=(x,(r,(true,()))):=by
 obtain⟨a,b⟩:=x;have hx:1≤a∧a≤8∧1≤b∧b≤1048576:=of_decide_eq_true h;have e:bq (a,b)++r=[a%256,(b.fdiv 65536)%256,(b.fdiv 256)%256,b%256]++r:=rfl;rw[e,Int.fdiv_eq_ediv_of_nonneg _ (show(0:Int)≤65536 by decide),Int.fdiv_eq_ediv_of_nonneg _ (show(0:Int)≤256 by decide)];have e1:a%256=a:=by omega
 have e2:z8 [b / 65536%256,b / 256%256,b%256] 0=b:=by show((0*256+b / 65536%256)*256+b / 256%256)*256+b%256=b;omega
 unfold cj;show(if 4≤(r.length+4)∧bQ (a%256,z8 [b / 65536%256,b / 256%256,b%256] 0)=true then((a%256,z8 [b / 65536%256,b / 256%256,b%256] 0),(r,(true,()))) else _)=_;rw[e1,e2,if_pos ⟨by omega,h⟩]
theorem Yk{n:Int}(h : -9223372036854775808≤n∧n<9223372036854775808):IntKind.wrap .i64 (n%18446744073709551616)=n:=by unfold IntKind.wrap;simp[IntKind.bits,IntKind.signed];omega
theorem nm{n:Int}(h : -9223372036854775808≤n∧n<9223372036854775808)(r:List Int):takeN (dr n++r)=(n,(r,(true,()))):=by
 have hb:=Bx (n%18446744073709551616) (by omega) (by omega);unfold takeN;rw[if_pos (by rw[List.length_append,cT];omega),List.take_left' (cT n),List.drop_left' (cT n)];have e:z8 (dr n) 0=n%18446744073709551616:=by rw[KB];refine Eq.trans ?_ hb;show(((((((0*256+_)*256+_)*256+_)*256+_)*256+_)*256+_)*256+_)*256+_=_;rw[Int.zero_mul,Int.zero_add]
 rw[e];rw[Yk h]
theorem Gj{s:ByteArray}(h:s.size≤255)(r:List Int):cO (iF s++r)=(s,(r,(true,()))):=by
 unfold iF cO;simp only[List.cons_append];have e:w8 ((s.size:Nat):Int)=(s.size:Int):=by rw[gH];omega
 rw[e,if_pos (by rw[List.length_append,iG];omega),Int.toNat_natCast,List.take_left' (iG s),List.drop_left' (iG s)];have h2:strOf (bytesOf s)=s:=Cr (By (bU.bytesOf s));rw[h2]
def bc(g:aC):List Int:=bq g.1.1++(w8 g.1.2::(if g.2=zD then[0] else w8 (g.2.2+1)::bq g.2.1))
def fz(n:Int)(s:StateT):List Int:=dr n++(dr (((b6 s.1).length:Nat):Int)++(b6 s.1++s.2.flatMap bc))
theorem TV(g k:aC)(r q:List Int)(hg:gr g.1=true∧(g.2=zD∨gr g.2=true))(hk:gr k.1=true∧(k.2=zD∨gr k.2=true))(h:bc g++r=bc k++q):g=k∧r=q:=by
 unfold bc at h;simp only[List.append_assoc,List.cons_append]at h;obtain⟨a1,a2⟩:=cK (.inr hg.1);obtain⟨a3,a4⟩:=cK hg.2;obtain⟨b1,b2⟩:=cK (.inr hk.1);obtain⟨b3,b4⟩:=cK hk.2;obtain⟨h1,h2⟩:=pz (show(bq g.1.1).length=(bq k.1.1).length from rfl) h;obtain⟨h3,h4⟩:=aeE h2;rw[gH,gH]at h3;have e1:g.1=k.1:=Prod.ext (Gi a1 b1 h1) (by omega);by_cases c1:g.2=zD<;>by_cases c2:k.2=zD
 ·rw[if_pos c1,if_pos c2]at h4;exact⟨Prod.ext e1 (c1.trans c2.symm),(aeE h4).2⟩
 ·rw[if_pos c1,if_neg c2]at h4;have:=(aeE h4).1;rw[gH]at this;omega
 ·rw[if_neg c1,if_pos c2]at h4;have:=(aeE h4).1;rw[gH]at this;omega
 ·rw[if_neg c1,if_neg c2]at h4;simp only[List.cons_append]at h4;obtain⟨h5,h6⟩:=aeE h4;rw[gH,gH]at h5;obtain⟨h7,h8⟩:=pz (show(bq g.2.1).length=(bq k.2.1).length from rfl) h6;exact⟨Prod.ext e1 (Prod.ext (Gi a3 b3 h7) (by omega)),h8⟩
theorem Bz(g:aC):1≤(bc g).length:=by unfold bc;split<;>simp[bq]
theorem Nx{α:Type}(f:α→List Int)(P:α→Prop)(hf:∀a b r q,P a→P b→f a++r=f b++q→a=b∧r=q)(hp:∀a,1≤(f a).length):∀(l m:List α),(∀a∈l,P a)→(∀a∈m,P a)→l.flatMap f=m.flatMap f→l=m
 |[],[],_,_,_=>rfl
 |a::l,b::m,h1,h2,h=>by simp only[List.flatMap_cons]at h;obtain⟨e1,e2⟩:=hf a b _ _ (h1 a (by simp)) (h2 b (by simp)) h;rw[e1,Nx f P hf hp l m (fun a ha=>h1 a (by simp[ha])) (fun a ha=>h2 a (by simp[ha])) e2]
 |[],b::m,_,_,h=>by
  have e:(f b++m.flatMap f).length=0:=by rw[←List.flatMap_cons,←h];rfl
  rw[List.length_append]at e;have:=hp b;omega
 |a::l,[],_,_,h=>by
  have e:(f a++l.flatMap f).length=0:=by rw[←List.flatMap_cons,h];rfl
  rw[List.length_append]at e;have:=hp a;omega
theorem TW{n m:Int}{a b:StateT}(hn:0≤n∧n≤1073741824)(hm:0≤m∧m≤1073741824)(ha:fN a)(hb:fN b)(ga:bw a.2)(gb:bw b.2)(h:fz n a=fz m b):n=m∧a=b:=by unfold fz at h;obtain⟨h1,h2⟩:=pz (by rw[cT,cT]) h;obtain⟨h3,h4⟩:=pz (by rw[cT,cT]) h2;obtain⟨h5,h6⟩:=Yi ha.d hb.d h4;exact⟨Nv (by omega) (by omega) h1,Prod.ext h5 (Nx bc _ TV Bz a.2 b.2 ga gb h6)⟩
theorem bU.bc(g:aC):bU (bc g):=by
 unfold Go.Vs.bc;refine(bU.bq _).app (bU.cons ?_)
 split
 ·intro c hc;rw[List.mem_singleton.1 hc];omega
 ·exact(bU.bq _).cons
theorem bU.snap(n:Int)(s:StateT):bU (fz n s):=(bU.dr _).app ((bU.dr _).app ((bU.b6 _).app (bU.flat bU.bc _)))
theorem qY(g:aC):(bc g).length≤10:=by unfold bc;split<;>simp[bq]
end Go.Vs
set_option autoImplicit false
namespace Go.Vs
open Go Go.Proofs
variable {G:(f:FuncId)→(g:aO)→Option (g.A→Option g.B)}
theorem RH(hG:HG G)(b:List Int)(x:ID)(hb:b.length≤1000000)(hx:0≤x.1∧x.1≤8∧0≤x.2∧x.2≤1048576):FX G 52 Cc ((b,(x,())),())=some ((b++bq x,()),()):=by
 refine au (hG _ _ rfl) aiY (ae (fits (show 0+b.length≤_ by omega)) (af rfl (af rfl (af rfl (af rfl (ae (fits (show([]++b).length+4≤_ by rw[List.nil_append];omega)) ?_))))));refine congrArg (fun l:List Int=>some ((l,()),())) ?_;obtain⟨p,q⟩:=x;simp only at hx;show([]++b)++[w8 p,w8 (wI (Int.tdiv q 65536)),w8 (Int.tmod (wI (Int.tdiv q 256)) 256),w8 (Int.tmod q 256)]=b++[w8 p,w8 (q.fdiv 65536),w8 (q.fdiv 256),w8 q];have e1:wI (Int.tdiv q 65536)=q / 65536:=by rw[Int.tdiv_eq_ediv_of_nonneg (by omega)];exact wrap_small (by omega) (by omega)
 have e2:wI (Int.tdiv q 256)=q / 256:=by rw[Int.tdiv_eq_ediv_of_nonneg (by omega)];exact wrap_small (by omega) (by omega)
 rw[e1,e2,Int.fdiv_eq_ediv_of_nonneg _ (show(0:Int)≤65536 by decide),Int.fdiv_eq_ediv_of_nonneg _ (show(0:Int)≤256 by decide),Int.tmod_eq_emod_of_nonneg (by omega),Int.tmod_eq_emod_of_nonneg (by omega),List.nil_append];simp only[gH,Int.emod_emod]
theorem Gk{x:ID}(h:bQ x=true):0≤x.1∧x.1≤8∧0≤x.2∧x.2≤1048576:=by have h:1≤x.1∧x.1≤8∧1≤x.2∧x.2≤1048576:=of_decide_eq_true h;omega
theorem acn(hG:HG G)(b:List Int)(s:ByteArray)(hb:b.length+s.size≤1000000):FX G 70 Ie ((b,(s,())),())=some ((b++iF s,()),()):=by
 refine au (hG _ _ rfl) aiZ (ae (fits (show 0+b.length≤_ by omega)) (ae (fits (show([]++b).length+1≤_ by rw[List.nil_append];omega)) (ae (fits ?_) ?_)))
 ·show(([]++b)++[w8 ((s.size:Nat):Int)]).length+(bytesOf s).length≤_;rw[iG,List.nil_append,List.length_append];simp only[List.length_cons,List.length_nil];omega
 ·refine congrArg (fun l:List Int=>some ((l,()),())) ?_;show(([]++b)++[w8 ((s.size:Nat):Int)])++bytesOf s=b++(w8 ((s.size:Nat):Int)::bytesOf s);simp only[List.nil_append,List.append_assoc,List.singleton_append]
theorem RI(hG:HG G)(b:List Int)(n:Int)(hb:b.length≤1000000):FX G 51 qA ((b,(n,())),())=some ((b++dr n,()),()):=by
 refine au (hG _ _ rfl) aiX (ae (fits (show 0+b.length≤_ by omega)) ?_);have loop:∀(m j:Nat),j+m=8→LX G 51 qA Tryz.f51 rY (aE Tryz.prog 51 0) ((n,((m:Int)-1,())),((),(b++(List.range j).map (w5 n),())))=some ((b++dr n,()),()):=by
  intro m
  induction m with
  |zero =>
   intro j hj;have:j=8:=by omega
   subst this;exact ak Ry (af rfl rfl)
  |succ m ih =>
   intro j hj;have ei:((m+1:Nat):Int)-1=(m:Int):=by omega
   have e8:wI ((8:Int)*(((m+1:Nat):Int)-1))=8*(7-(j:Int)):=by show IntKind.wrap .i64 _=_;rw[wrap_small (by omega) (by omega)];omega
   have e1:wI ((((m+1:Nat):Int)-1)-1)=(m:Int)-1:=by show IntKind.wrap .i64 _=_;rw[wrap_small (by omega) (by omega)];omega
   have el:(b++(List.range j).map (w5 n))++[w8 (iq .u64 (IntKind.wrap .u64 n) (wI ((8:Int)*(((m+1:Nat):Int)-1))))]=b++(List.range (j+1)).map (w5 n):=by rw[e8,List.range_succ,List.map_append,List.append_assoc];rfl
   refine ak Ry (ae (decide_eq_true (show((m+1:Nat):Int)-1≥0 by omega)) (af (decide_eq_false (show ¬wI ((8:Int)*(((m+1:Nat):Int)-1))<0 by rw[e8];omega)) (ae (fits ?_) ?_)))
   ·show(b++(List.range j).map (w5 n)).length+1≤_;rw[List.length_append,List.length_map,List.length_range];omega
   ·exact(congr (congrArg (fun(k:Int) (r:List Int)=>LX G 51 qA Tryz.f51 rY (aE Tryz.prog 51 0) ((n,(k,())),((),(r,())))) e1) el).trans (ih (j+1) (by omega))
 have e0:([]:List Int)++b=b++(List.range 0).map (w5 n):=by simp
 exact(congrArg (fun r:List Int=>LX G 51 qA Tryz.f51 rY (aE Tryz.prog 51 0) ((n,((7:Int),())),((),(r,())))) e0).trans (loop 8 0 rfl)
def atR(i:Nat):Option Nat→Int
 |some j=>((i+j:Nat):Int)
 |none=>0
theorem ajk(hG:HG G)(d:ar)(x:ID)(hl:d.2.length≤1000):FX G 71 Cd ((d,(x,())),())=some ((uG d.2 x,()),()):=by
 refine au (hG _ _ rfl) ai0 ?_;have loop:∀(n i:Nat),i+n=d.2.length→LX G 71 Cd Tryz.f71 zm (aE Tryz.prog 71 0) (((i:Int),()),(((d,()),((x,()),())),()))=some ((atR i ((d.2.drop i).findIdx? fun e=>decide (e.1=x)),()),()):=by
  intro n
  induction n with
  |zero =>
   intro i hi;have:i=d.2.length:=by omega
   subst this;refine ak Rz (af (bW _) ?_);rw[List.drop_length];rfl
  |succ n ih =>
   intro i hi;have aG:i<d.2.length:=by omega
   refine ak Rz (ae (aJ aG) (aa (ai (abf aG)) ?_));rw[List.drop_eq_getElem_cons aG,List.findIdx?_cons];by_cases h:d.2[i].1=x
   ·refine ae (by rw[vX];exact decide_eq_true h) ?_;simp only[h,decide_true,if_true];rfl
   ·refine af (by rw[vX];exact decide_eq_false h) ?_;rw[wI,aB aG (by omega)];refine(ih (i+1) (by omega)).trans ?_;simp only[decide_eq_false h,Bool.false_eq_true,if_false]
    cases (d.2.drop (i+1)).findIdx? fun e=>decide (e.1=x) with
    |none=>rfl
    |some j=>exact congrArg (fun q:Nat=>some (((q:Int),()),())) (show i+1+j=i+(j+1) by omega)
 refine(loop d.2.length 0 (by omega)).trans ?_;unfold uG;rw[List.drop_zero]
 cases d.2.findIdx? fun e=>decide (e.1=x) with
 |none=>rfl
 |some j=>exact congrArg (fun q:Nat=>some (((q:Int),()),())) (Nat.zero_add j)
theorem aem(hG:HG G)(d:ar)(h:Wf d)(Un:FX G 69 SL ((d,()),())=some (((0:Int),()),())):FX G 44 kE ((d,()),())=some ((b6 d,((0:Int),())),()):=by
 have ND:=h.nv;have bA:=h.ne;refine au (hG _ _ rfl) ab9 (aa Un (af rfl ?_));have G3:∀b:List Int,b.length≤20000→LX G 44 kE Tryz.f44 vv (aE Tryz.prog 44 1) (((0:Int),()),(((d,()),()),(b,())))=some ((b++d.1.flatMap (bu (aH d.2 0)),((0:Int),())),()):=by
  intro b hb;exact bh d.1 (fun i (s:List Int)=>LX G 44 kE Tryz.f44 vv (aE Tryz.prog 44 1) ((i,()),(((d,()),()),(s,())))) (fun r s=>((s++r.flatMap (bu (aH d.2 0)),((0:Int),())),())) (fun m s=>s.length+m*200≤40000) (fun s hs=>by refine ak Rv (af (bW _) ?_);simp only[List.flatMap_nil,List.append_nil]) (fun i v r s hi hv A3 hk ih=>by
    have hm:v∈d.1:=abC hv;have MK:=h.gv v hm;have iY:=gm MK.l;have KK:=h.mo v hm;have l1:(s++bq v.1).length=s.length+4:=by simp[bq]
    have l2:((s++bq v.1)++iF v.2.2.1).length=s.length+4+(v.2.2.1.size+1):=by rw[List.length_append,l1,qW]
    have l3:(((s++bq v.1)++iF v.2.2.1)++dr v.2.2.2).length=s.length+4+(v.2.2.1.size+1)+8:=by rw[List.length_append,l2,cT]
    have hk:s.length+(r.length+1)*200≤40000:=hk;refine ak Rv (ae (aJ hi) (aa (ai hv) (aa (RH hG s v.1 (by omega) (Gk MK.i)) (aa (acn hG _ v.2.2.1 (by rw[l1];omega)) (aa (RI hG _ v.2.2.2 (by rw[l2];omega)) (ae (fits ?_) ?_))))))
    ·show(((s++bq v.1)++iF v.2.2.1)++dr v.2.2.2).length+1≤_;rw[l3];omega
    have ew:=aB hi (by omega);have Ye:=bh v.2.1 (fun k (q:List Int)=>LX G 44 kE Tryz.f44 zk (aE Tryz.prog 44 2) (((i:Int),(k,())),(((d,()),((v,()),())),(q,())))) (fun r' q=>(((q++r'.map (gG (aH d.2 0)))++r.flatMap (bu (aH d.2 0)),((0:Int),())),())) (fun m q=>q.length+m=s.length+(v.2.2.1.size+14)+v.2.1.length) (fun q hq=>by refine ak Rx (af (bW _) ?_);rw[wI,ew];refine(ih q (by show q.length+r.length*200≤40000;omega)).trans ?_;simp only[List.map_nil,List.append_nil]) (fun k x r' q uh hx hqq hh PL=>by
      have eb:w8 (wI (uG d.2 x.1+wI ((128:Int)*x.2)))=gG (aH d.2 0) x:=by unfold gG;rw[I2]
      refine ak Rx (ae (aJ uh) (aa (ai hx) (aa (ajk hG d x.1 (by omega)) (aa (ai hx) (ae (fits (show q.length+1≤_ by omega)) ?_)))));rw[wI,aB uh (by omega)];refine Eq.trans ?_ ((PL (q++[gG (aH d.2 0) x]) (by simp;omega)).trans ?_)
      ·rw[←eb]
      ·simp only[List.map_cons,List.append_assoc,List.singleton_append,List.cons_append,List.nil_append])
     ((((s++bq v.1)++iF v.2.2.1)++dr v.2.2.2)++[w8 ((v.2.1.length:Nat):Int)]) (by rw[List.length_append,l3];simp;omega)
    refine Ye.trans ?_;simp only[List.flatMap_cons,bu,bB,List.append_assoc,List.singleton_append,List.cons_append,List.nil_append])
   b (by omega)
 have key:=bh d.2 (fun i (s:List Int)=>LX G 44 kE Tryz.f44 zj (aE Tryz.prog 44 0) ((i,()),(((d,()),()),(s,())))) (fun r s=>(((s++r.flatMap bB)++(w8 ((d.1.length:Nat):Int)::d.1.flatMap (bu (aH d.2 0))),((0:Int),())),())) (fun m s=>s.length+m*50≤10000) (fun s hs=>by refine ak Ru (af (bW _) (ae (fits (show s.length+1≤_ by omega)) ?_));refine(G3 (s++[w8 ((d.1.length:Nat):Int)]) (by simp;omega)).trans ?_;simp only[List.flatMap_nil,List.append_nil,List.append_assoc,List.singleton_append,List.cons_append,List.nil_append];rfl) (fun i e r s hi he A3 hk ih=>by
   have hm:e∈d.2:=abC he;have Jl:=h.ge e hm;have iY:=gm Jl.l;have l1:(s++bq e.1).length=s.length+4:=by simp[bq]
   have l2:((s++bq e.1)++iF e.2.1).length=s.length+4+(e.2.1.size+1):=by rw[List.length_append,l1,qW]
   have hk:s.length+(r.length+1)*50≤10000:=hk;refine ak Ru (ae (aJ hi) (aa (ai he) (aa (RH hG s e.1 (by omega) (Gk Jl.i)) (aa (ai he) (aa (acn hG _ e.2.1 (by rw[l1];omega)) (aa (ai he) (aa (RI hG _ e.2.2 (by rw[l2];omega)) ?_)))))));rw[wI,aB hi (by omega)];refine(ih (((s++bq e.1)++iF e.2.1)++dr e.2.2) (by rw[List.length_append,l2,cT];omega)).trans ?_;simp only[List.flatMap_cons,bB,List.append_assoc])
  [w8 ((d.2.length:Nat):Int)] (by show 1+d.2.length*50≤_;omega)
 exact key
end Go.Vs
set_option autoImplicit false
namespace Go.Vs
open Go Go.Proofs
variable {G:(f:FuncId)→(g:aO)→Option (g.A→Option g.B)}
theorem cW{c:Int}(h:0≤c∧c<256):wI c=c:=wrap_small (by omega) (by omega)
theorem cU{α:Type}(l:List α)(k:Nat):cut l (k:Int) (((l.length:Nat)):Int)=l.drop k:=by unfold cut;rw[List.take_of_length_le (by omega)];rfl
theorem four{b:List Int}(h:4≤b.length):∃c0 c1 c2 c3 r,b=c0::c1::c2::c3::r:=by
 match b,h with
 |c0::c1::c2::c3::r,_=>exact⟨c0,c1,c2,c3,r,rfl⟩
theorem I5(hG:HG G)(b:List Int)(hb:b.length≤1000000)(hy:bU b):FX G 79 mw ((b,()),())=some (cj b,()):=by
 refine au (hG _ _ rfl) ai3 ?_;by_cases h4:4≤b.length
 ·obtain⟨c0,c1,c2,c3,r,rfl⟩:=four h4;have y0:=hy c0 (by simp);have y1:=hy c1 (by simp);have y2:=hy c2 (by simp);have y3:=hy c3 (by simp);have hl:(c0::c1::c2::c3::r).length=r.length+4:=rfl;refine af (decide_eq_false (show ¬((((c0::c1::c2::c3::r).length:Nat):Int)<4) by omega)) (aa (ai (i:=0) rfl) (ae (show aq (c0::c1::c2::c3::r).length 1 4=true by simp[aq];omega) ?_));have step:∀(k:Nat) (N c:Int),k<3→([c1,c2,c3]:List Int)[k]? = some c→0≤N→N<4294967296→(0≤c∧c<256)→∀{z},LX G 79 mw Tryz.f79 o4 (aE Tryz.prog 79 0) ((c0::c1::c2::c3::r,([c1,c2,c3],((3:Int),(((k+1:Nat):Int),())))),(((OI,()),(((c0,N*256+c),()),())),()))=some z → LX G 79 mw Tryz.f79 o4 (aE Tryz.prog 79 0) ((c0::c1::c2::c3::r,([c1,c2,c3],((3:Int),((k:Int),())))),(((OI,()),(((c0,N),()),())),()))=some z:=fun k N c hk hc h0 h1 hcb z hz=>by
   refine ak RC (ae (decide_eq_true (show(k:Int)<3 by omega)) (aa (ai hc) (af rfl ?_)));have e1:wI ((k:Int)+1)=((k+1:Nat):Int):=aB (n:=3) hk (by omega);have e2:dI .or .i64 (Cs .i64 N 8) (wI c)=N*256+c:=by rw[cW hcb];exact aoj N c h0 (by omega) hcb
   exact(congr (congrArg (fun(i:Int) (M:Int)=>LX G 79 mw Tryz.f79 o4 (aE Tryz.prog 79 0) ((c0::c1::c2::c3::r,([c1,c2,c3],((3:Int),(i,())))),(((OI,()),(((c0,M),()),())),()))) e1) e2).trans hz
  have ew:=cW y0;refine(congrArg (fun q:Int=>LX G 79 mw Tryz.f79 o4 (aE Tryz.prog 79 0) ((c0::c1::c2::c3::r,([c1,c2,c3],((3:Int),((0:Int),())))),(((OI,()),((((q,(0:Int)):ID),()),())),()))) ew).trans ?_;refine step 0 0 c1 (by omega) rfl (by omega) (by omega) y1 (step 1 _ c2 (by omega) rfl (by omega) (by omega) y2 (step 2 _ c3 (by omega) rfl (by omega) (by omega) y3 ?_));refine ak RC (af rfl (aa (CH (hG _ _ rfl) _) ?_));unfold cj;by_cases hm:bQ (c0,((0*256+c1)*256+c2)*256+c3)=true
  ·refine af (show(!(bQ (c0,((0*256+c1)*256+c2)*256+c3)))=false by rw[hm];rfl) (ae (show aq (c0::c1::c2::c3::r).length 4 (((c0::c1::c2::c3::r).length:Nat):Int)=true by simp[aq];omega) ?_);rw[if_pos ⟨h4,hm⟩];exact congrArg (fun q:List Int=>some ((((c0,((0*256+c1)*256+c2)*256+c3):ID),(q,(true,()))),())) (cU (c0::c1::c2::c3::r) 4)
  ·refine ae (show(!(bQ (c0,((0*256+c1)*256+c2)*256+c3)))=true by rw[Bool.eq_false_iff.2 hm];rfl) ?_;rw[if_neg fun k=>hm k.2];rfl
 ·refine ae (decide_eq_true (show(((b.length:Nat):Int)<4) by omega)) ?_;unfold cj;rw[if_neg fun k=>h4 k.1];rfl
theorem eight{b:List Int}(h:8≤b.length):∃c0 c1 c2 c3 c4 c5 c6 c7 r,b=c0::c1::c2::c3::c4::c5::c6::c7::r:=by
 match b,h with
 |c0::c1::c2::c3::c4::c5::c6::c7::r,_=>exact⟨c0,c1,c2,c3,c4,c5,c6,c7,r,rfl⟩
theorem I6(hG:HG G)(b:List Int)(hb:b.length≤1000000)(hy:bU b):FX G 53 qB ((b,()),())=some (takeN b,()):=by
 refine au (hG _ _ rfl) ai1 ?_;unfold takeN;by_cases h8:8≤b.length
 ·rw[if_pos h8];obtain⟨c0,c1,c2,c3,c4,c5,c6,c7,r,hbr⟩:=eight h8;have hc:∀c∈[c0,c1,c2,c3,c4,c5,c6,c7],0≤c∧c<256:=fun c hc=>hy c (by rw[hbr];simp at hc ⊢;omega);have y0:=hc c0 (by simp);have y1:=hc c1 (by simp);have y2:=hc c2 (by simp);have y3:=hc c3 (by simp);have y4:=hc c4 (by simp);have y5:=hc c5 (by simp);have y6:=hc c6 (by simp);have y7:=hc c7 (by simp);have ec:cut b 0 8=[c0,c1,c2,c3,c4,c5,c6,c7]:=by rw[hbr];rfl
  have et:b.take 8=[c0,c1,c2,c3,c4,c5,c6,c7]:=by rw[hbr];rfl
  refine af (decide_eq_false (show ¬(((b.length:Nat):Int)<8) by omega)) (ae (show aq b.length 0 8=true by simp[aq];omega) ?_);have step:∀(k:Nat) (N c:Int),k<8→([c0,c1,c2,c3,c4,c5,c6,c7]:List Int)[k]? = some c→0≤N→N<72057594037927936→(0≤c∧c<256)→∀{z},LX G 53 qB Tryz.f53 oZ (aE Tryz.prog 53 0) ((b,(N*256+c,([c0,c1,c2,c3,c4,c5,c6,c7],((8:Int),(((k+1:Nat):Int),()))))),((),()))=some z → LX G 53 qB Tryz.f53 oZ (aE Tryz.prog 53 0) ((b,(N,([c0,c1,c2,c3,c4,c5,c6,c7],((8:Int),((k:Int),()))))),((),()))=some z:=fun k N c hk hc h0 h1 hcb z hz=>by
   refine ak RB (ae (decide_eq_true (show(k:Int)<8 by omega)) (aa (ai hc) (af rfl ?_)));have e1:wI ((k:Int)+1)=((k+1:Nat):Int):=aB (n:=8) hk (by omega);have e2:dI .or .u64 (Cs .u64 N 8) (IntKind.wrap .u64 c)=N*256+c:=by rw[jY (by omega) (by omega)];exact aoi N c h0 h1 hcb
   exact(congr (congrArg (fun(i:Int) (M:Int)=>LX G 53 qB Tryz.f53 oZ (aE Tryz.prog 53 0) ((b,(M,([c0,c1,c2,c3,c4,c5,c6,c7],((8:Int),(i,()))))),((),()))) e1) e2).trans hz
  refine(congrArg (fun q:List Int=>LX G 53 qB Tryz.f53 oZ (aE Tryz.prog 53 0) ((b,((0:Int),(q,((lI q),((0:Int),()))))),((),()))) ec).trans ?_;refine step 0 0 c0 (by omega) rfl (by omega) (by omega) y0 (step 1 _ c1 (by omega) rfl (by omega) (by omega) y1 (step 2 _ c2 (by omega) rfl (by omega) (by omega) y2 (step 3 _ c3 (by omega) rfl (by omega) (by omega) y3 (step 4 _ c4 (by omega) rfl (by omega) (by omega) y4 (step 5 _ c5 (by omega) rfl (by omega) (by omega) y5 (step 6 _ c6 (by omega) rfl (by omega) (by omega) y6 (step 7 _ c7 (by omega) rfl (by omega) (by omega) y7 ?_)))))));refine ak RB (af rfl (ae (show aq b.length 8 (((b.length:Nat)):Int)=true by simp[aq];omega) ?_));rw[et];exact congrArg (fun q:List Int=>some ((wI (z8 [c0,c1,c2,c3,c4,c5,c6,c7] 0),(q,(true,()))),())) (cU b 8)
 ·rw[if_neg h8];exact ae (decide_eq_true (show(((b.length:Nat):Int)<8) by omega)) rfl
def js(b:List Int):List Int×(List Int×(Bool×Unit)):=match b with
 |[]=>([],([],(false,())))
 |c::r=>if c≤((r.length:Nat):Int) then(r.take c.toNat,(r.drop c.toNat,(true,()))) else([],(c::r,(false,())))
theorem Yl(hG:HG G)(b:List Int)(hb:b.length≤1000000)(hy:bU b):FX G 78 Ih ((b,()),())=some (js b,()):=by
 refine au (hG _ _ rfl) ai2 ?_
 cases b with
 |nil=>exact ae rfl rfl
 |cons c r =>
  have yc:=hy c (by simp);have hb:r.length+1≤1000000:=hb;have e1:wI ((((c::r).length:Nat):Int)-1)=((r.length:Nat):Int):=by show IntKind.wrap .i64 (((r.length+1:Nat):Int)-1)=_;rw[wrap_small (by omega) (by omega)];omega
  have e2:=cW yc;obtain⟨k,rfl⟩:∃k:Nat,c=(k:Int):=⟨c.toNat,by omega⟩;have e3:wI ((1:Int)+wI (k:Int))=((k+1:Nat):Int):=by rw[e2];show IntKind.wrap .i64 _=_;rw[wrap_small (by omega) (by omega)];omega
  refine af (show((((r.length+1:Nat):Int))==0)=false by rw[beq_eq_false_iff_ne];omega) (aa (ai (i:=0) rfl) ?_);by_cases h:(k:Int)≤((r.length:Nat):Int)
  ·have et:js ((k:Int)::r)=(r.take k,(r.drop k,(true,()))):=by unfold js;simp only[if_pos h,Int.toNat_natCast]
   rw[et];refine af (decide_eq_false (show ¬wI (((((k:Int)::r).length:Nat):Int)-1)<wI (k:Int) by rw[e1,e2];omega)) (aa (ai (i:=0) rfl) (ae ?_ (ae ?_ ?_)))
   ·show aq (r.length+1) 1 (wI ((1:Int)+wI (k:Int)))=true;rw[e3];simp[aq];omega
   ·show aq (r.length+1) (wI ((1:Int)+wI (k:Int))) ((r.length+1:Nat):Int)=true;rw[e3];simp[aq];omega
   ·have a1:cut ((k:Int)::r) (1:Int) (wI ((1:Int)+wI (k:Int)))=r.take k:=by rw[e3];unfold cut;rw[Int.toNat_natCast];rfl
    have a2:cut ((k:Int)::r) (wI ((1:Int)+wI (k:Int))) (lI ((k:Int)::r))=r.drop k:=by rw[e3];exact cU ((k:Int)::r) (k+1)
    show some ((cut ((k:Int)::r) (1:Int) (wI ((1:Int)+wI (k:Int))),(cut ((k:Int)::r) (wI ((1:Int)+wI (k:Int))) (lI ((k:Int)::r)),(true,()))),())=_;rw[a1,a2];rfl
  ·have et:js ((k:Int)::r)=([],((k:Int)::r,(false,()))):=by unfold js;simp only[if_neg h]
   rw[et];exact ae (decide_eq_true (show wI ((((( k:Int)::r).length:Nat):Int)-1)<wI (k:Int) by rw[e1,e2];omega)) rfl
theorem aco(hG:HG G)(b:List Int)(hb:b.length≤1000000)(hy:bU b):FX G 106 Mf ((b,()),())=some (cO b,()):=by
 refine au (hG _ _ rfl) ai4 (aa (Yl hG b hb hy) ?_)
 cases b with
 |nil=>rfl
 |cons c r =>
  show some ((strOf (js (c::r)).1,(js (c::r)).2),())=some (cO (c::r),());by_cases h:c≤((r.length:Nat):Int)
  ·have a:js (c::r)=(r.take c.toNat,(r.drop c.toNat,(true,()))):=by unfold js;simp only[if_pos h]
   have b:cO (c::r)=(strOf (r.take c.toNat),(r.drop c.toNat,(true,()))):=by unfold cO;simp only[if_pos h]
   rw[a,b]
  ·have a:js (c::r)=([],(c::r,(false,()))):=by unfold js;simp only[if_neg h]
   have b:cO (c::r)=(e0,(c::r,(false,()))):=by unfold cO;simp only[if_neg h]
   rw[a,b];rfl
theorem Ym(hG:HG G)(c:Int)(r:List Int)(bad:Bool)(hb:r.length≤1000000)(hc:0≤c∧c<256):FX G 76 wF ((),((c::r,(bad,())),()))=some ((c,()),((r,(bad,())),())):=by refine au (hG _ _ rfl) acf (af (show((((r.length+1:Nat):Int))==0)=false by rw[beq_eq_false_iff_ne];omega) (aa (ai (i:=0) rfl) (ae (show aq (c::r).length 1 (((c::r).length:Nat):Int)=true by simp[aq];omega) ?_)));have e1:=cW hc;have e2:cut (c::r) 1 (lI (c::r))=r:=cU (c::r) 1;show some ((wI c,()),((cut (c::r) 1 (lI (c::r)),(bad,())),()))=_;rw[e1,e2];rfl
theorem acp(hG:HG G)(e:aj)(r:List Int)(he:PO e)(hb:r.length≤100000)(hy:bU r):FX G 77 Ce ((),((bB e++r,(false,())),()))=some ((e,()),((r,(false,())),())):=by
 have hs:=gm he.l;have ha:=he.a;unfold dE at ha;have ha:=of_decide_eq_true ha;have e0:bB e++r=bq e.1++(iF e.2.1++(dr e.2.2++r)):=by unfold bB;simp only[List.append_assoc]
 have l1:(dr e.2.2++r).length=r.length+8:=by rw[List.length_append,cT];omega
 have l2:(iF e.2.1++(dr e.2.2++r)).length=r.length+8+(e.2.1.size+1):=by rw[List.length_append,l1,qW];omega
 have y1:bU (dr e.2.2++r):=(bU.dr _).app hy;have y2:bU (iF e.2.1++(dr e.2.2++r)):=bU.app (bU.bytesOf _).cons y1;rw[e0];have t1:=I5 hG (bq e.1++(iF e.2.1++(dr e.2.2++r))) (by rw[List.length_append,l2];simp[bq];omega) ((bU.bq _).app y2);rw[nk he.i]at t1;have t2:=aco hG (iF e.2.1++(dr e.2.2++r)) (by rw[l2];omega) y2;rw[Gj (by omega)]at t2;have t3:=I6 hG (dr e.2.2++r) (by rw[l1];omega) y1;rw[nm (by omega)]at t3;exact au (hG _ _ rfl) acg (aa t1 (aa t2 (aa t3 (af rfl (af rfl (af rfl rfl))))))
end Go.Vs
set_option autoImplicit false
namespace Go.Vs
open Go Go.Proofs
variable {G:(f:FuncId)→(g:aO)→Option (g.A→Option g.B)}
theorem Aa(n:Nat)(h:n≤1000000):wI (((n+1:Nat):Int)-1)=((n:Nat):Int):=by show IntKind.wrap .i64 _=_;rw[wrap_small (by omega) (by omega)];omega
theorem PQ{L r:List Int}(h:L.length≤255):js (w8 ((L.length:Nat):Int)::(L++r))=(L,(r,(true,()))):=by
 have e:w8 ((L.length:Nat):Int)=(L.length:Int):=by rw[gH];omega
 unfold js;simp only[e];rw[if_pos (by rw[List.length_append];omega),Int.toNat_natCast,List.take_left,List.drop_left]
theorem ajm(hG:HG G)(hp:jM G)(d:ar)(h:Wf d)(hg:cX d=0):FX G 54 eT ((b6 d,()),())=some ((d,((0:Int),())),()):=by
 have ND:=h.nv;have bA:=h.ne;have hB:=ox h;have yB:=bU.b6 d;generalize hBB:b6 d=B at hB yB;have uu:∀(r vs:List an),vs++r=d.1→(r.flatMap (bu (aH d.2 0))).length≤5000 → LX G 54 eT Tryz.f54 ju (aE Tryz.prog 54 1) ((B,(((r.length:Nat):Int),())),((([],([],())),((r.flatMap (bu (aH d.2 0)),(false,())),((vs,(d.2,())),()))),()))=some ((d,((0:Int),())),()):=by
  intro r
  induction r with
  |nil =>intro vs hv hl;rw[List.append_nil]at hv;have ht:=Yh hG hp d h hg;rw[hBB]at ht;subst hv;refine ak vO (af rfl (aa ht (af rfl (af rfl (aa (au (hG _ _ rfl) Rp rfl) (af ?_ rfl))))));show(!(strOf B==strOf B))=false;rw[(MapKept.bytes_beq _ _).2 rfl];rfl
  |cons v r ih =>
   intro vs hv hl;have hm:v∈d.1:=by rw[←hv];simp
   have MK:=h.gv v hm;have KK:=h.mo v hm;have asQ:r.length+1≤24:=by have:=congrArg List.length hv;rw[List.length_append]at this;simp at this;omega
   rw[List.flatMap_cons]at hl;have e0:(v::r).flatMap (bu (aH d.2 0))=bB (v.1,v.2.2)++(w8 (((v.2.1.map (gG (aH d.2 0))).length:Nat):Int)::(v.2.1.map (gG (aH d.2 0))++r.flatMap (bu (aH d.2 0)))):=by rw[List.flatMap_cons,bu,List.length_map];simp only[List.append_assoc,List.cons_append]
   have yr:bU (r.flatMap (bu (aH d.2 0))):=bU.flat (bU.CI _) _;have yL:bU (v.2.1.map (gG (aH d.2 0))):=fun c hc=>by obtain⟨i,_,rfl⟩:=acE.1 hc;exact Gd _
   have lr:(r.flatMap (bu (aH d.2 0))).length≤5000:=by rw[List.length_append]at hl;omega
   have hLl:(v.2.1.map (gG (aH d.2 0))).length=v.2.1.length:=List.length_map _;have oC:∀(k:Nat) (x:ag),v.2.1[k]? = some x→(v.2.1.map (gG (aH d.2 0)))[k]? = some (gG (aH d.2 0) x):=fun k x hx=>by rw[List.getElem?_map,hx];rfl
   generalize hL:v.2.1.map (gG (aH d.2 0))=L at e0 yL hLl oC;have hq:L.length+(r.flatMap (bu (aH d.2 0))).length≤6000:=by omega
   have t1:=acp hG (v.1,v.2.2) (w8 ((L.length:Nat):Int)::(L++r.flatMap (bu (aH d.2 0)))) MK.th (by rw[List.length_cons,List.length_append];omega) (bU.cons (yL.app yr));have t2:=Yl hG (w8 ((L.length:Nat):Int)::(L++r.flatMap (bu (aH d.2 0)))) (by rw[List.length_cons,List.length_append];omega) (bU.cons (yL.app yr));rw[PQ (by omega)]at t2;refine(congrArg (fun q:List Int=>LX G 54 eT Tryz.f54 ju (aE Tryz.prog 54 1) ((B,(((r.length+1:Nat):Int),())),((([],([],())),((q,(false,())),((vs,(d.2,())),()))),()))) e0).trans ?_;refine ak vO (ae (decide_eq_true (show(((r.length+1:Nat)):Int)>0 by omega)) (ae rfl (aa t1 (aa t2 (af rfl ?_)))));have key:=bh v.2.1 (fun k (p:List ag)=>LX G 54 eT Tryz.f54 mH (aE Tryz.prog 54 2) ((B,(((r.length+1:Nat):Int),(false,(true,(L,(((L.length:Nat):Int),(k,()))))))),((([],([],())),((r.flatMap (bu (aH d.2 0)),(false,())),((vs,(d.2,())),((v.1.1,(v.1.2,(p,(v.2.2.1,(v.2.2.2,()))))),())))),()))) (fun _ _=>((d,((0:Int),())),())) (fun m p=>∃q,p++q=v.2.1∧q.length=m) (fun p UH=>by
     obtain⟨q,h1,h2⟩:=UH;have h0:q=[]:=abD h2;rw[h0,List.append_nil]at h1;subst h1;have hvl:vs.length+1≤24:=by have:=congrArg List.length hv;rw[List.length_append]at this;simp at this;omega
     refine ak zY (af (by show decide (((v.2.1.length:Nat):Int)<((L.length:Nat):Int))=false;rw[hLl];exact bW _) (ae (fits (show vs.length+1≤_ by omega)) ?_));exact(congrArg (fun k:Int=>LX G 54 eT Tryz.f54 ju (aE Tryz.prog 54 1) ((B,(k,())),((([],([],())),((r.flatMap (bu (aH d.2 0)),(false,())),((vs++[v],(d.2,())),()))),()))) (Aa r.length (by omega))).trans (ih (vs++[v]) (by rw[List.append_assoc];exact hv) lr))
    (fun k x r' p hk hx A3 hinv PL=>by
     obtain⟨q,h1,h2⟩:=hinv
     cases q with
     |nil=>simp at h2
     |cons x' q =>
     have Us:x'=x:=by
      have e5:=hx;rw[←h1,List.getElem?_append_right (by have:=congrArg List.length h1;rw[List.length_append]at this;simp at this h2;omega)]at e5;have:k-p.length=0:=by have:=congrArg List.length h1;rw[List.length_append]at this;simp at this h2;omega
      rw[this]at e5;simpa using e5
     subst Us;obtain⟨j,YZ,hj2,_,GH,XQ⟩:=z7 bA (h.pd.mem_iff.1 (aS.2 ⟨v,hm,abC hx⟩));have hc:=oC k x' hx;rw[YZ]at hc;have ew:wI ((j:Int)+128*x'.2)=(j:Int)+128*x'.2:=wrap_small (by omega) (by omega);have em:Int.tmod (wI ((j:Int)+128*x'.2)) 128=(j:Int):=by rw[ew,Int.tmod_eq_emod_of_nonneg (by omega)];omega
     have ed:wI (Int.tdiv (wI ((j:Int)+128*x'.2)) 128)=x'.2:=by rw[ew,Int.tdiv_eq_ediv_of_nonneg (by omega)];refine(wrap_small (by omega) (by omega)).trans ?_;omega
     have N0:p.length≤80:=by have:=congrArg List.length h1;rw[List.length_append]at this;omega
     refine ak zY (ae (by show decide ((k:Int)<((L.length:Nat):Int))=true;rw[hLl];exact aJ hk) (aa (ai hc) (af rfl (af ?_ (ae ?_ (aa (a:=d.2[j]) ?_ (af rfl (ae (fits (show p.length+1≤_ by omega)) ?_))))))))
     ·rw[em];exact decide_eq_false (show ¬((j:Int)≥((d.2.length:Nat):Int)) by omega)
     ·rw[em];exact dw (decide_eq_true (by omega)) (decide_eq_true (show(j:Int)<((d.2.length:Nat):Int) by omega))
     ·rw[em,Int.toNat_natCast];exact abf GH
     ·have ex:((d.2[j].1,wI (Int.tdiv (wI ((j:Int)+128*x'.2)) 128)):ag)=x':=Prod.ext XQ ed;have e1:wI ((k:Int)+1)=((k+1:Nat):Int):=aB hk (by omega);exact(congr (congrArg (fun(i:Int) (y:ag)=>LX G 54 eT Tryz.f54 mH (aE Tryz.prog 54 2) ((B,(((r.length+1:Nat):Int),(false,(true,(L,(((L.length:Nat):Int),(i,()))))))),((([],([],())),((r.flatMap (bu (aH d.2 0)),(false,())),((vs,(d.2,())),((v.1.1,(v.1.2,(p++[y],(v.2.2.1,(v.2.2.2,()))))),())))),()))) e1) ex).trans (PL (p++[x']) ⟨q,by rw[List.append_assoc];exact h1,by simpa using h2⟩))
    [] ⟨v.2.1,rfl,rfl⟩
   exact key
 have yt:bU (w8 ((d.1.length:Nat):Int)::d.1.flatMap (bu (aH d.2 0))):=(bU.flat (bU.CI _) _).cons;have env:w8 ((d.1.length:Nat):Int)=((d.1.length:Nat):Int):=by rw[gH];omega
 have ene:w8 ((d.2.length:Nat):Int)=((d.2.length:Nat):Int):=by rw[gH];omega
 have ux:∀(r es:List aj),es++r=d.2→(r.flatMap bB++(w8 ((d.1.length:Nat):Int)::d.1.flatMap (bu (aH d.2 0)))).length≤5000 → LX G 54 eT Tryz.f54 mG (aE Tryz.prog 54 0) ((B,(((r.length:Nat):Int),())),((([],([],())),((r.flatMap bB++(w8 ((d.1.length:Nat):Int)::d.1.flatMap (bu (aH d.2 0))),(false,())),(([],(es,())),()))),()))=some ((d,((0:Int),())),()):=by
  intro r
  induction r with
  |nil =>intro es v7 hl;rw[List.append_nil]at v7;have hl:(d.1.flatMap (bu (aH d.2 0))).length+1≤5000:=hl;have t:=Ym hG (w8 ((d.1.length:Nat):Int)) (d.1.flatMap (bu (aH d.2 0))) false (by omega) (Gd _);rw[env]at t;have l1:=uu d.1 [] rfl (by omega);rw[List.flatMap_nil,List.nil_append,env,v7];exact ak zX (af rfl (aa t l1))
  |cons e r ih =>
   intro es v7 hl;have hm:e∈d.2:=by rw[←v7];simp
   have uX:es.length+(r.length+1)≤40:=by have:=congrArg List.length v7;rw[List.length_append]at this;simp at this;omega
   rw[List.flatMap_cons,List.append_assoc]at hl ⊢;have tL:(r.flatMap bB++(w8 ((d.1.length:Nat):Int)::d.1.flatMap (bu (aH d.2 0)))).length≤5000:=by rw[List.length_append]at hl;omega
   refine ak zX (ae (decide_eq_true (show(((r.length+1:Nat)):Int)>0 by omega)) (ae rfl (aa (acp hG e _ (h.ge e hm).th (by omega) ((bU.flat bU.I4 _).app yt)) (ae (fits (show es.length+1≤_ by omega)) ?_))));exact(congrArg (fun k:Int=>LX G 54 eT Tryz.f54 mG (aE Tryz.prog 54 0) ((B,(k,())),((([],([],())),((r.flatMap bB++(w8 ((d.1.length:Nat):Int)::d.1.flatMap (bu (aH d.2 0))),(false,())),(([],(es++[e],())),()))),()))) (Aa r.length (by omega))).trans (ih (es++[e]) (by rw[List.append_assoc];exact v7) tL)
 have hB2:w8 ((d.2.length:Nat):Int)::(d.2.flatMap bB++(w8 ((d.1.length:Nat):Int)::d.1.flatMap (bu (aH d.2 0))))=B:=hBB;have hl0:(d.2.flatMap bB++(w8 ((d.1.length:Nat):Int)::d.1.flatMap (bu (aH d.2 0)))).length+1≤5000:=by have:=congrArg List.length hB2;rw[List.length_cons]at this;omega
 have t:=Ym hG (w8 ((d.2.length:Nat):Int)) (d.2.flatMap bB++(w8 ((d.1.length:Nat):Int)::d.1.flatMap (bu (aH d.2 0)))) false (by omega) (Gd _);have l0:=ux d.2 [] rfl (by omega);have t2:=(congrArg (fun q:List Int=>FX G 76 wF ((),((q,(false,())),()))) hB2.symm).trans t;exact au (hG _ _ rfl) ace (aa t2 ((congrArg (fun k:Int=>LX G 54 eT Tryz.f54 mG (aE Tryz.prog 54 0) ((B,(k,())),((([],([],())),((d.2.flatMap bB++(w8 ((d.1.length:Nat):Int)::d.1.flatMap (bu (aH d.2 0))),(false,())),(([],([],())),()))),()))) ene).trans l0))
end Go.Vs
set_option autoImplicit false
namespace Go.Vs
open Go Go.Proofs
variable {G:(f:FuncId)→(g:aO)→Option (g.A→Option g.B)}
theorem Ab{c:Int}(h:0≤c∧c<256):w8 c=c:=by rw[gH];omega
theorem ajn(hG:HG G)(g:aC)(r:List Int)(hb:r.length≤100000)(hy:bU r)(h1:gr g.1=true)(h2:g.2=zD∨gr g.2=true):FX G 55 Ig ((bc g++r,()),())=some ((g,(r,(true,()))),()):=by
 obtain⟨a1,a2⟩:=cK (.inr h1);obtain⟨a3,a4⟩:=cK h2;have m1:bQ g.1.1=true:=(aeK _ _▸(show(bQ g.1.1&&decide (g.1.2=0∨g.1.2=1))=true from h1)).1;have s1:w8 g.1.2=g.1.2:=Ab (by omega);have e0:bc g++r=bq g.1.1++(g.1.2::((if g.2=zD then[0] else w8 (g.2.2+1)::bq g.2.1)++r)):=by unfold bc;rw[s1];simp only[List.append_assoc,List.cons_append]
 have yX:bU ((if g.2=zD then[0] else w8 (g.2.2+1)::bq g.2.1)++r):=by
  refine bU.app ?_ hy
  split
  ·intro c hc;rw[List.mem_singleton.1 hc];omega
  ·exact(bU.bq _).cons
 have lX:((if g.2=zD then[0] else w8 (g.2.2+1)::bq g.2.1)++r).length≤r.length+5:=by rw[List.length_append];split<;>simp[bq]<;>omega
 have hq:=e0;generalize hX:(if g.2=zD then[0] else w8 (g.2.2+1)::bq g.2.1)++r=X at hq yX lX;have y1:bU (g.1.2::X):=s1▸(bU.cons (n:=g.1.2) yX);have t1:=I5 hG (bq g.1.1++(g.1.2::X)) (by rw[List.length_append,List.length_cons];simp[bq];omega) ((bU.bq _).app y1);rw[nk m1]at t1;have t1:=(congrArg (fun q:List Int=>FX G 79 mw ((q,()),())) hq).trans t1;have w1:wI g.1.2=g.1.2:=cW (by omega);have eg:((g.1.1,wI g.1.2):ag)=g.1:=Prod.ext rfl w1;by_cases hz:g.2=zD
 ·rw[if_pos hz]at hX;subst hX;have ec:cut (g.1.2::(0::r)) 2 (lI (g.1.2::(0::r)))=r:=cU (g.1.2::(0::r)) 2;refine au (hG _ _ rfl) Cp (aa t1 (af rfl (af (decide_eq_false (show ¬(((r.length+1+1:Nat):Int)<2) by omega)) (aa (ai (i:=1) rfl) (af rfl (aa (ai (i:=0) rfl) (aa (ai (i:=1) rfl) (ae (show aq (r.length+1+1) 2 ((r.length+1+1:Nat):Int)=true by simp[aq];omega) (af rfl ?_)))))))));show some ((((g.1.1,wI g.1.2),OD),(cut (g.1.2::(0::r)) 2 (lI (g.1.2::(0::r))),(true,()))),())=_;rw[eg,ec];exact congrArg (fun q:ag=>some (((g.1,q),(r,(true,()))),())) hz.symm
 ·rw[if_neg hz]at hX;have Af:gr g.2=true:=h2.resolve_left hz;have m2:bQ g.2.1=true:=(aeK _ _▸(show(bQ g.2.1&&decide (g.2.2=0∨g.2.2=1))=true from Af)).1;have s2:w8 (g.2.2+1)=g.2.2+1:=Ab (by omega);rw[s2,List.cons_append]at hX;subst hX;have lr:(bq g.2.1++r).length=r.length+4:=by rw[List.length_append];simp[bq];omega
  have ec:cut (g.1.2::((g.2.2+1)::(bq g.2.1++r))) 2 (lI (g.1.2::((g.2.2+1)::(bq g.2.1++r))))=bq g.2.1++r:=cU (g.1.2::((g.2.2+1)::(bq g.2.1++r))) 2;have t2:=I5 hG (bq g.2.1++r) (by omega) ((bU.bq _).app hy);rw[nk m2]at t2;have t2:=(congrArg (fun q:List Int=>FX G 79 mw ((q,()),())) ec).trans t2;have w2:wI (g.2.2+1)=g.2.2+1:=cW (by omega);have w3:wI (wI (g.2.2+1)-1)=g.2.2:=by rw[w2];exact(wrap_small (by omega) (by omega)).trans (by omega)
  have eh:((g.2.1,wI (wI (g.2.2+1)-1)):ag)=g.2:=Prod.ext rfl w3;refine au (hG _ _ rfl) Cp (aa t1 (af rfl (af (decide_eq_false (show ¬((((bq g.2.1++r).length+1+1:Nat):Int)<2) by omega)) (aa (ai (i:=1) rfl) (af (decide_eq_false (show ¬(g.2.2+1>2) by omega)) (aa (ai (i:=0) rfl) (aa (ai (i:=1) rfl) (ae (show aq ((bq g.2.1++r).length+1+1) 2 (((bq g.2.1++r).length+1+1:Nat):Int)=true by simp[aq];omega) (ae (decide_eq_true (show wI (g.2.2+1)>0 by rw[w2];omega)) (aa t2 ?_))))))))));show some ((((g.1.1,wI g.1.2),(g.2.1,wI (wI (g.2.2+1)-1))),(r,(true,()))),())=_;rw[eg,eh];rfl
theorem Ho{g:ag}(h:g=zD):(((g.1.1==(0:Int))&&(g.1.2==(0:Int)))&&(g.2==(0:Int)))=true:=by have:=vY g zD;rw[decide_eq_true h]at this;exact this
theorem KC{g:ag}(h:g≠zD):(((g.1.1==(0:Int))&&(g.1.2==(0:Int)))&&(g.2==(0:Int)))=false:=by have:=vY g zD;rw[decide_eq_false h]at this;exact this
theorem cz{b:Bool}(h:b=true):(!b)=false:=by rw[h];rfl
theorem fS{b:Bool}(h:b=false):(!b)=true:=by rw[h];rfl
theorem ajo(hG:HG G)(l:List aC)(hs:iS l)(hn:l.length≤400)(hk:bw l):FX G 48 sS ((l,()),())=some ((true,()),()):=by
 refine au (hG _ _ rfl) acd ?_;have loop:∀(n i:Nat),i+n=l.length→LX G 48 sS Tryz.f48 kh (aE Tryz.prog 48 0) ((l,(l,(((l.length:Nat):Int),((i:Int),())))),((),()))=some ((true,()),()):=by
  intro n
  induction n with
  |zero =>
   intro i hi;have:i=l.length:=by omega
   subst this;refine ak ky (af (bW _) ?_);exact congrArg (fun b:Bool=>some ((b,()),())) (decide_eq_true (show((l.length:Nat):Int)≤400 by omega))
  |succ n ih =>
   intro i hi;have aG:i<l.length:=by omega
   obtain⟨k1,k2⟩:=hk l[i] (acG aG);have r1:=(cK (.inr k1)).2;have r2:=(cK k2).2;have next:LX G 48 sS Tryz.f48 kh (aE Tryz.prog 48 0) ((l,(l,(((l.length:Nat):Int),(wI ((i:Int)+1),())))),((),()))=some ((true,()),()):=by rw[wI,aB aG (by omega)];exact ih (i+1) (by omega)
   have q1:=ME hG l[i].1 ⟨by omega,by omega⟩;have q2:=ME hG l[i].2 ⟨by omega,by omega⟩;refine ak ky (ae (aJ aG) (aa (ai (abf aG)) (aa q1 (af (cz k1) ?_))));by_cases h0:i=0
   ·have g0:decide ((i:Int)>0)=false:=decide_eq_false (by omega);by_cases hz:l[i].2=zD
    ·exact af (cz (Ho hz)) (af g0 next)
    ·exact ae (fS (KC hz)) (aa q2 (af (cz (k2.resolve_left hz)) (af g0 next)))
   ·have g0:decide ((i:Int)>0)=true:=decide_eq_true (by omega);have hp:i-1<l.length:=by omega
    have ew:wI ((i:Int)-1)=((i-1:Nat):Int):=by show IntKind.wrap .i64 _=_;rw[wrap_small (by omega) (by omega)];omega
    have prev:aP l (wI ((i:Int)-1))=some l[i-1]:=by rw[ew];exact ai (abf hp)
    have ho:kZ l[i-1].1 l[i].1<0:=(mP _ _).2 (adK.1 hs (i-1) i hp aG (by omega));have q3:=Fq hG l[i-1].1 l[i].1;have g1:decide (kZ l[i-1].1 l[i].1≥0)=false:=decide_eq_false (by omega);by_cases hz:l[i].2=zD
    ·exact af (cz (Ho hz)) (ae g0 (aa prev (aa q3 (af g1 next))))
    ·exact ae (fS (KC hz)) (aa q2 (af (cz (k2.resolve_left hz)) (ae g0 (aa prev (aa q3 (af g1 next))))))
 exact loop l.length 0 (by omega)
theorem acq(hG:HG G)(hp:jM G)(n:Int)(s:StateT)(hn:0≤n∧n≤1073741824)(h:fN s)(hg:cX s.1=0)(hk:bw s.2):FX G 22 mu ((n,(s,())),())=some ((fz n s,((0:Int),())),()):=by
 have hgn:=h.n;have hd:=ox h.d;have l1:(([]:List Int)++dr n).length=8:=by rw[List.nil_append,cT]
 have l2:((([]:List Int)++dr n)++dr (((b6 s.1).length:Nat):Int)).length=16:=by rw[List.length_append,l1,cT]
 refine au (hG _ _ rfl) aca (af (decide_eq_false (show ¬n<0 by omega)) (af (decide_eq_false (show ¬n>1073741824 by omega)) (aa (ajo hG s.2 h.g h.n hk) (af rfl (aa (Yh hG hp s.1 h.d hg) (af rfl (aa (Yd hG [] n (by decide)) (aa (Yd hG ([]++dr n) (((b6 s.1).length:Nat):Int) (by omega)) (ae (fits ?_) ?_)))))))))
 ·show((([]:List Int)++dr n)++dr (((b6 s.1).length:Nat):Int)).length+(b6 s.1).length≤_;rw[l2];omega
 have key:=bh s.2 (fun i (b:List Int)=>LX G 22 mu Tryz.f22 oY (aE Tryz.prog 22 0) ((s.2,(((s.2.length:Nat):Int),(i,()))),((),(b,())))) (fun r b=>((b++r.flatMap bc,((0:Int),())),())) (fun m b=>b.length+m*10≤20000) (fun b hb=>by refine ak RA (af (bW _) ?_);simp only[List.flatMap_nil,List.append_nil]) (fun i g r b hi hx A3 hb ih=>by
   obtain⟨k1,k2⟩:=hk g (abC hx);have r2:=(cK k2).2;have hb:b.length+(r.length+1)*10≤20000:=hb;have l3:(b++bq g.1.1).length=b.length+4:=by simp[bq]
   have l4:((b++bq g.1.1)++[w8 g.1.2]).length=b.length+5:=by rw[List.length_append,l3];rfl
   have ew:=aB hi (by omega);have hq:=qY g;have go:=ih (b++bc g) (by rw[List.length_append];omega);have fin:some ((((b++bc g)++r.flatMap bc,((0:Int),())),()):(List Int×(Int×Unit))×Unit)=some ((b++(g::r).flatMap bc,((0:Int),())),()):=by rw[List.flatMap_cons,List.append_assoc]
   refine ak RA (ae (aJ hi) (aa (ai hx) (aa (Yc hG b g.1.1 (by omega)) (ae (fits (show(b++bq g.1.1).length+1≤_ by omega)) ?_))));by_cases hz:g.2=zD
   ·refine ae (Ho hz) (ae (fits (show((b++bq g.1.1)++[w8 g.1.2]).length+1≤_ by omega)) ?_);have e9:((b++bq g.1.1)++[w8 g.1.2])++[0]=b++bc g:=by unfold bc;rw[if_pos hz];simp only[List.append_assoc,List.singleton_append,List.cons_append,List.nil_append]
    exact(congr (congrArg (fun(k:Int) (q:List Int)=>LX G 22 mu Tryz.f22 oY (aE Tryz.prog 22 0) ((s.2,(((s.2.length:Nat):Int),(k,()))),((),(q,())))) ew) e9).trans (go.trans fin)
   ·have w3:wI (g.2.2+1)=g.2.2+1:=wrap_small (by omega) (by omega);have l5:(((b++bq g.1.1)++[w8 g.1.2])++[w8 (wI (g.2.2+1))]).length=b.length+6:=by rw[List.length_append,l4];rfl
    refine af (KC hz) (ae (fits (show((b++bq g.1.1)++[w8 g.1.2]).length+1≤_ by omega)) (aa (Yc hG (((b++bq g.1.1)++[w8 g.1.2])++[w8 (wI (g.2.2+1))]) g.2.1 (by omega)) ?_));have e9:(((b++bq g.1.1)++[w8 g.1.2])++[w8 (wI (g.2.2+1))])++bq g.2.1=b++bc g:=by unfold bc;rw[if_neg hz,w3];simp only[List.append_assoc,List.singleton_append,List.cons_append,List.nil_append]
    exact(congr (congrArg (fun(k:Int) (q:List Int)=>LX G 22 mu Tryz.f22 oY (aE Tryz.prog 22 0) ((s.2,(((s.2.length:Nat):Int),(k,()))),((),(q,())))) ew) e9).trans (go.trans fin))
  (((([]:List Int)++dr n)++dr (((b6 s.1).length:Nat):Int))++b6 s.1) (by show _+_≤20000;rw[List.length_append,l2];omega)
 refine key.trans ?_;unfold fz;simp only[List.nil_append,List.append_assoc];rfl
theorem I7{n:Int}{s:StateT}(h:fN s):(fz n s).length≤10000:=by have hd:=ox h.d;have hgn:=h.n;have:=qX bc 10 s.2 fun e _=>qY e;unfold fz;rw[List.length_append,List.length_append,List.length_append,cT,cT];omega
theorem ajp(hG:HG G)(hp:jM G)(n:Int)(s:StateT)(hn:0≤n∧n≤1073741824)(h:fN s)(hg:cX s.1=0)(hk:bw s.2):FX G 24 oW ((fz n s,()),())=some ((n,(s,((0:Int),()))),()):=by
 have hd:=ox h.d;have hgn:=h.n;have TZ:=I7 (n:=n) h;have ajq:=acq hG hp n s hn h hg hk;have yF:bU (s.2.flatMap bc):=bU.flat bU.bc _;have y3:bU (b6 s.1++s.2.flatMap bc):=(bU.b6 _).app yF;have y2:bU (dr (((b6 s.1).length:Nat):Int)++(b6 s.1++s.2.flatMap bc)):=(bU.dr _).app y3;have lf:=qX bc 10 s.2 fun e _=>qY e;have l3:(b6 s.1++s.2.flatMap bc).length=(b6 s.1).length+(s.2.flatMap bc).length:=List.length_append;have t1:=I6 hG (fz n s) (by omega) (bU.snap n s);rw[show takeN (fz n s)=_ from nm (by omega) _]at t1;have t2:=I6 hG (dr (((b6 s.1).length:Nat):Int)++(b6 s.1++s.2.flatMap bc)) (by rw[List.length_append,cT];omega) y2;rw[nm (by omega)]at t2;have c1:cut (b6 s.1++s.2.flatMap bc) 0 (((b6 s.1).length:Nat):Int)=b6 s.1:=XX _ _;have c2:cut (b6 s.1++s.2.flatMap bc) (((b6 s.1).length:Nat):Int) (lI (b6 s.1++s.2.flatMap bc))=s.2.flatMap bc:=XY _ _;have t3:=(congrArg (fun q:List Int=>FX G 54 eT ((q,()),())) c1).trans (ajm hG hp s.1 h.d hg);refine au (hG _ _ rfl) acb (aa t1 (aa t2 (af rfl (af (decide_eq_false (show ¬((((b6 s.1).length:Nat):Int)<0) by omega)) (af (decide_eq_false (show ¬((((b6 s.1).length:Nat):Int)>(((b6 s.1++s.2.flatMap bc).length:Nat):Int)) by omega)) (ae (show aq (b6 s.1++s.2.flatMap bc).length 0 (((b6 s.1).length:Nat):Int)=true by rw[l3];simp[aq]<;>omega) (aa t3 (ae (show aq (b6 s.1++s.2.flatMap bc).length (((b6 s.1).length:Nat):Int) (((b6 s.1++s.2.flatMap bc).length:Nat):Int)=true by rw[l3];simp[aq]<;>omega) ?_))))))));have hB:=TZ;generalize hBB:fz n s=B at hB ajq;have loop:∀(r es:List aC),es++r=s.2→(r.flatMap bc).length≤5000→LX G 24 oW Tryz.f24 lA (aE Tryz.prog 24 0) ((B,(n,(r.flatMap bc,((0:Int),())))),((OW,((s.1.1,(s.1.2,(es,()))),())),()))=some ((n,(s,((0:Int),()))),()):=by
  intro r
  induction r with
  |nil =>intro es v7 hl;rw[List.append_nil]at v7;subst v7;refine ak Dn (ae rfl (af rfl (af rfl (aa ajq (af rfl (aa (au (hG _ _ rfl) Rp rfl) (af ?_ rfl)))))));show(!(strOf B==strOf B))=false;rw[(MapKept.bytes_beq _ _).2 rfl];rfl
  |cons g r ih =>
   intro es v7 hl;obtain⟨k1,k2⟩:=hk g (by rw[←v7];simp);have uX:es.length+(r.length+1)≤400:=by have:=congrArg List.length v7;rw[List.length_append]at this;simp at this;omega
   have e0:(g::r).flatMap bc=bc g++r.flatMap bc:=List.flatMap_cons;have tL:(r.flatMap bc).length≤5000:=by rw[e0,List.length_append]at hl;omega
   have hp1:=Bz g;refine(congrArg (fun q:List Int=>LX G 24 oW Tryz.f24 lA (aE Tryz.prog 24 0) ((B,(n,(q,((0:Int),())))),((OW,((s.1.1,(s.1.2,(es,()))),())),()))) e0).trans ?_;refine ak Dn (ae rfl (ae (decide_eq_true (show(((bc g++r.flatMap bc).length:Nat):Int)>0 by rw[List.length_append];omega)) (ae (decide_eq_true (show((es.length:Nat):Int)≤400 by omega)) (aa (ajn hG g (r.flatMap bc) (by omega) (bU.flat bU.bc _) k1 k2) (af rfl (ae (fits (show es.length+1≤_ by omega)) ?_))))));exact ih (es++[g]) (by rw[List.append_assoc];exact v7) tL
 exact(congrArg (fun q:List Int=>LX G 24 oW Tryz.f24 lA (aE Tryz.prog 24 0) ((B,(n,(q,((0:Int),())))),((OW,((s.1.1,(s.1.2,([],()))),())),()))) c2).trans (loop s.2 [] rfl (by omega))
end Go.Vs
