/- What the document says of a -/
import Derived.Test.YtoleelddkocpkaaGreatFormed
set_option linter.unusedVariables false
set_option linter.unusedSimpArgs false
namespace Go.Vs
open Go.Proofs
variable {G:(f:FuncId)→(g:aO)→Option (g.A→Option g.B)}
theorem PJ{α:Type}{R:α→α→Prop}(tr:∀a b c,R a b→R b c→R a c){l:List α}(h:∀j x y,l[j]? = some x→l[j+1]? = some y→R x y):l.Pairwise R:=by
 rw[List.pairwise_iff_getElem];have key:∀(n i:Nat) (hi:i<l.length) (hj:i+n+1<l.length),R l[i] l[i+n+1]:=by
  intro n
  induction n with
  |zero=>intro i hi hj;exact h i _ _ (abf hi) (abf hj)
  |succ n ih =>intro i hi hj;exact tr _ _ _ (ih i hi (by omega)) (h (i+n+1) _ _ (abf (by omega)) (abf hj))
 intro i j hi hj GG;have:=key (j-i-1) i hi (by omega)
 grind
theorem sD{i n:Nat}(h0:0<i)(h:i<n)(hn:n≤1073741824):IntKind.wrap .i64 ((i:Int)-1)=((i-1:Nat):Int):=by
 grind [wrap_small]
theorem an7(hG:HG G)(d:ar)(hv:d.1.length≤50000000)(he:d.2.length≤50000000):FX G 146 CD ((d,()),())=some ((d.1.map (·.1)++d.2.map (·.1),()),()):=by
 refine au (hG _ _ rfl) alM ?_;have G3:∀(a:List ID),a.length≤50000000→LX G 146 CD Tryz.f146 AR (aE Tryz.prog 146 1) (((0:Int),()),(((d,()),()),(a,())))=some ((a++d.2.map (·.1),()),()):=by
  intro a ha;have key:=bh d.2 (fun i (s:List ID)=>LX G 146 CD Tryz.f146 AR (aE Tryz.prog 146 1) ((i,()),(((d,()),()),(s,())))) (fun r s=>((s++r.map (·.1),()),())) (fun m s=>s.length+m≤100000000) (fun s _=>by refine ak VY (af (bW _) ?_);simp only[List.map_nil,List.append_nil];rfl) (fun i x r s hi hx A3 hk ih=>by
    refine ak VY ?_;refine ae (aJ hi) (aa (ai hx) (ae (fits (by simp;omega)) ?_));rw[wI,aB hi (by omega)]
    grind)
   a (by omega)
  exact key
 have key:=bh d.1 (fun i (s:List ID)=>LX G 146 CD Tryz.f146 E2 (aE Tryz.prog 146 0) ((i,()),(((d,()),()),(s,())))) (fun r s=>(((s++r.map (·.1))++d.2.map (·.1),()),())) (fun m s=>s.length+m≤50000000) (fun s hs=>by refine ak VX (af (bW _) ?_);refine(G3 s (by omega)).trans ?_;simp only[List.map_nil,List.append_nil];rfl) (fun i x r s hi hx A3 hk ih=>by
   refine ak VX ?_;refine ae (aJ hi) (aa (ai hx) (ae (fits (by simp;omega)) ?_));rw[wI,aB hi (by omega)]
   grind)
  [] (by simpa using hv)
 exact key
theorem aiF(hG:HG G)(l:List ID)(hl:l.length≤1073741824):∃b,FX G 147 yN ((l,()),())=some ((b,()),())∧(b=true↔(l.Pairwise fun a b=>fD a b=true)∧∀x∈l,bQ x=true):=by
 have loop:∀(n i:Nat),i+n=l.length→(∀j x,j<i→l[j]? = some x→bQ x=true)→(∀j x y,j+1<i→l[j]? = some x→l[j+1]? = some y→fD x y=true) → ∃b,LX G 147 yN Tryz.f147 AS (aE Tryz.prog 147 0) ((l,((i:Int),())),((),()))=some ((b,()),())∧(b=true↔(l.Pairwise fun a b=>fD a b=true)∧∀x∈l,bQ x=true):=by
  intro n
  induction n with
  |zero =>
   intro i hi hm ha;refine⟨true,ak VZ (af (decide_eq_false (show ¬((i:Int)<((l.length:Nat):Int)) by omega)) rfl),fun _=>⟨?_,fun x hx=>?_⟩,fun _=>rfl⟩
   ·refine PJ (R:=fun a b:ID=>fD a b=true) (fun a b c=>gX) fun j x y h1 h2=>ha j x y ?_ h1 h2
    grind
   grind [List.mem_iff_getElem?,List.getElem?_eq_some_iff]
  |succ n ih =>
   intro i hi hm ha;have aG:i<l.length:=by omega
   have hx:l[i]? = some l[i]:=abf aG;have e1:=@VZ (FX G) (LX G 147 yN Tryz.f147) ((l,((i:Int),())),((),()))
   cases T5:bQ l[i] with
   |false=>exact⟨false,ak (e1.trans (ae (aJ aG) (aa (ai hx) (aa (S7 (hG _ _ rfl) _) (aW T5 rfl))))) rfl,fun h=>(by cases h),fun h=>by simp_all⟩
   |true =>
    have Af:∀j x,j<i+1→l[j]? = some x→bQ x=true:=fun j x hj k=>by
     grind
    by_cases h0:i=0
    ·obtain⟨b,h1,h2⟩:=ih (i+1) (by omega) Af (fun j x y hj=>by omega);refine⟨b,ak (e1.trans (ae (aJ aG) (aa (ai hx) (aa (S7 (hG _ _ rfl) _) (aW T5 (af rfl (af (decide_eq_false (show ¬((i:Int)>0) by omega)) ?_))))))) rfl,h2⟩;rw[wI,aB aG hl];exact h1
    ·have hy:l[i-1]? = some l[i-1]:=abf (by omega);have e2:aP l (IntKind.wrap .i64 ((i:Int)-1))=some l[i-1]:=by grind [sD,ai]
     by_cases hc:fD l[i-1] l[i]=true
     ·obtain⟨b,h1,h2⟩:=ih (i+1) (by omega) Af (fun j x y hj k1 k2=>by
       by_cases hji:j+1=i
       ·have ej:j=i-1:=by omega
        grind
       grind)
      refine⟨b,ak (e1.trans (ae (aJ aG) (aa (ai hx) (aa (S7 (hG _ _ rfl) _) (aW T5 (af rfl (ae (decide_eq_true (show((i:Int)>0) by omega)) (aa e2 (aa (ai hx) (aa (adp (hG _ _ rfl) _ _) (af (decide_eq_false ?_) ?_))))))))))) rfl,h2⟩
      ·have:=(mN l[i-1] l[i]).2 hc;simp_all
      ·rw[wI,aB aG hl];exact h1
     ·refine⟨false,ak (e1.trans (ae (aJ aG) (aa (ai hx) (aa (S7 (hG _ _ rfl) _) (aW T5 (af rfl (ae (decide_eq_true (show((i:Int)>0) by omega)) (aa e2 (aa (ai hx) (aa (adp (hG _ _ rfl) _ _) (ae (decide_eq_true ?_) rfl))))))))))) rfl,fun h=>(by cases h),fun h=>absurd (adK.1 h.1 (i-1) i (by omega) aG (by omega)) hc⟩;have:=mt (mN l[i-1] l[i]).1 hc;simp_all
 obtain⟨b,h1,h2⟩:=loop l.length 0 (by omega) (fun j x hj=>by omega) (fun j x y hj=>by omega);exact⟨b,au (hG _ _ rfl) alN h1,h2⟩
theorem aiG(hG:HG G)(d:ar)(x:ag)(hs:Sm d)(hn:d.1.length≤24):FX G 184 qu ((d,x,()),())=some (((((av d.1).count x:Nat):Int),()),()):=by
 refine au (hG _ _ rfl) afV ?_;have inner:∀(v:an) (i:Nat) (hv:d.1[i]? = some v) (m k acc:Nat) y,k+m=v.2.1.length→acc+m≤100000000000 → LX G 184 qu Tryz.f184 vl (aE Tryz.prog 184 0) ((((acc+(v.2.1.drop k).count x:Nat):Int),(((i+1:Nat):Int),())),(((d,()),((x,()),())),()))=some y → LX G 184 qu Tryz.f184 rQ (aE Tryz.prog 184 1) (((acc:Int),((i:Int),((k:Int),()))),(((d,()),((x,()),())),()))=some y:=by
  intro v i hv m;have T8:v.2.1.length≤50000000:=hs.r v (abC hv);have hi:i<d.1.length:=(abp.1 hv).1
  induction m with
  |zero =>intro k acc y hk ha hy;refine ak Qk ?_;refine aa (ai hv) (af (decide_eq_false (show ¬((k:Int)<((v.2.1.length:Nat):Int)) by omega)) ?_);rw[List.drop_eq_nil_of_le (by omega)]at hy;rw[wI,aB hi (by omega)];exact hy
  |succ m ih =>
   intro k acc y hk ha hy;have aG:k<v.2.1.length:=by omega
   have hx:v.2.1[k]? = some v.2.1[k]:=abf aG;refine ak Qk ?_;refine aa (ai hv) (ae (aJ aG) (aa (ai hv) (aa (ai hx) ?_)));have hb:=vY v.2.1[k] x;rw[List.drop_eq_getElem_cons aG,List.count_cons]at hy;by_cases hc:v.2.1[k]=x
   ·refine ae (hb.trans (decide_eq_true hc)) ?_;have w1:IntKind.wrap .i64 ((acc:Int)+1)=((acc+1:Nat):Int):=by grind [wrap_small]
    show LX G 184 qu Tryz.f184 rQ (aE Tryz.prog 184 1) ((IntKind.wrap .i64 ((acc:Int)+1),((i:Int),(IntKind.wrap .i64 ((k:Int)+1),()))),(((d,()),((x,()),())),()))=some y;rw[w1,aB aG (by omega)];refine ih (k+1) (acc+1) y (by omega) (by omega) ?_
    grind
   ·refine af (hb.trans (decide_eq_false hc)) ?_;rw[wI,aB aG (by omega)];refine ih (k+1) acc y (by omega) (by omega) ?_;simp_all
 have outer:∀(m i acc:Nat),i+m=d.1.length→acc≤i*50000000→LX G 184 qu Tryz.f184 vl (aE Tryz.prog 184 0) (((acc:Int),((i:Int),())),(((d,()),((x,()),())),()))=some ((((acc+(av (d.1.drop i)).count x:Nat):Int),()),()):=by
  intro m
  induction m with
  |zero =>intro i acc hi ha;refine ak Qj (af (decide_eq_false (show ¬((i:Int)<((d.1.length:Nat):Int)) by omega)) ?_);rw[List.drop_eq_nil_of_le (by omega)];rfl
  |succ m ih =>
   intro i acc hi ha;have aG:i<d.1.length:=by omega
   have hx:d.1[i]? = some d.1[i]:=abf aG;have T8:d.1[i].2.1.length≤50000000:=hs.r _ (acG aG);refine ak Qj (ae (aJ aG) ?_);have wh:List.count x d.1[i].2.1≤d.1[i].2.1.length:=List.count_le_length;refine inner d.1[i] i hx d.1[i].2.1.length 0 acc _ (by omega) (by omega) ?_;rw[List.drop_zero];have:=ih (i+1) (acc+List.count x d.1[i].2.1) (by omega) (by omega);refine this.trans ?_;rw[List.drop_eq_getElem_cons aG,dQ,List.count_append,Nat.add_assoc];rfl
 have:=outer d.1.length 0 0 (by omega) (by omega);rw[List.drop_zero,Nat.zero_add]at this;exact this
structure sE(d:ar):Prop where
 t:∀v∈d.1,cZ v.2.1=v.2.1
 e:∀v∈d.1,∀x∈v.2.1,(ba d.2 x.1).isSome=true∧0≤x.2∧x.2≤1
 c:∀e∈d.2,∀s:Int,s=0∨s=1→(av d.1).count (e.1,s)=1
theorem an8(hG:HG G)(d:ar)(hs:Sm d)(hn:d.1.length≤24):∃b,FX G 148 nS ((d,()),())=some ((b,()),())∧(b=true↔sE d):=by
 have tL:=hs.e;have XV:∀(m i:Nat),i+m=d.2.length→(∀v∈d.1,cZ v.2.1=v.2.1)→(∀v∈d.1,∀x∈v.2.1,(ba d.2 x.1).isSome=true∧0≤x.2∧x.2≤1)→(∀j e,j<i→d.2[j]? = some e→∀s:Int,s=0∨s=1→(av d.1).count (e.1,s)=1) → ∃b,LX G 148 nS Tryz.f148 AU (aE Tryz.prog 148 2) (((i:Int),()),(((d,()),()),()))=some ((b,()),())∧(b=true↔sE d):=by
  intro m
  induction m with
  |zero =>
   intro i hi h1 h2 h3;refine⟨true,ak V7 (af (decide_eq_false (show ¬((i:Int)<((d.2.length:Nat):Int)) by omega)) rfl),fun _=>⟨h1,h2,fun e he s hs=>?_⟩,fun _=>rfl⟩
   grind [List.mem_iff_getElem?,List.getElem?_eq_some_iff]
  |succ m ih =>
   intro i hi h1 h2 h3;have aG:i<d.2.length:=by omega
   have hx:d.2[i]? = some d.2[i]:=abf aG;have key:∀(s:Nat),s≤1→∀y,((av d.1).count (d.2[i].1,(s:Int))=1→LX G 148 nS Tryz.f148 xx (aE Tryz.prog 148 3) (((i:Int),(((s+1:Nat):Int),())),(((d,()),()),()))=some y)→((av d.1).count (d.2[i].1,(s:Int))≠1→y=((false,()),())) → LX G 148 nS Tryz.f148 xx (aE Tryz.prog 148 3) (((i:Int),((s:Int),())),(((d,()),()),()))=some y:=by
    intro s NJ y k1 k2;refine ak V8 ?_;refine ae (decide_eq_true (show((s:Int)<2) by omega)) (aa (ai hx) (aa (aiG hG d (d.2[i].1,(s:Int)) hs hn) ?_));by_cases hc:(av d.1).count (d.2[i].1,(s:Int))=1
    ·refine af (show((((av d.1).count (d.2[i].1,(s:Int)):Nat):Int) != 1)=false by rw[hc];rfl) ?_;have w1:IntKind.wrap .i64 ((s:Int)+1)=((s+1:Nat):Int):=by grind [wrap_small]
     grind
    ·rw[k2 hc];exact ae (show((((av d.1).count (d.2[i].1,(s:Int)):Nat):Int) != 1)=true by grind) rfl
   have go:∀y,LX G 148 nS Tryz.f148 xx (aE Tryz.prog 148 3) (((i:Int),((0:Int),())),(((d,()),()),()))=some y→LX G 148 nS Tryz.f148 AU (aE Tryz.prog 148 2) (((i:Int),()),(((d,()),()),()))=some y:=fun y hy =>ak V7 (ae (aJ aG) hy);by_cases c0:(av d.1).count (d.2[i].1,((0:Nat):Int))=1
   ·by_cases c1:(av d.1).count (d.2[i].1,((1:Nat):Int))=1
    ·obtain⟨b,k1,k2⟩:=ih (i+1) (by omega) h1 h2 (fun j e hj hje s hs=>by
      grind)
     refine⟨b,go _ (key 0 (by omega) _ (fun _=>key 1 (by omega) _ (fun _=>?_) fun h=>absurd c1 h) fun h=>absurd c0 h),k2⟩;refine ak V8 (af (decide_eq_false (show ¬((((1+1:Nat):Nat):Int)<2) by omega)) ?_);rw[wI,aB aG (by omega)];exact k1
    ·exact⟨false,go _ (key 0 (by omega) _ (fun _=>key 1 (by omega) _ (fun h=>absurd h c1) fun _=>rfl) fun h=>absurd c0 h),fun h=>(by cases h),fun h=>absurd (h.c _ (acG aG) 1 (.inr rfl)) c1⟩
   ·exact⟨false,go _ (key 0 (by omega) _ (fun h=>absurd h c0) fun _=>rfl),fun h=>(by cases h),fun h=>absurd (h.c _ (acG aG) 0 (.inl rfl)) c0⟩
 have ring:∀(v:an) (i:Nat) (hv:d.1[i]? = some v) (y:Bool) (P:Prop),(P→LX G 148 nS Tryz.f148 xw (aE Tryz.prog 148 0) ((((i+1:Nat):Int),()),(((d,()),()),()))=some ((y,()),()))→(¬P→y=false)→(P↔∀x∈v.2.1,(ba d.2 x.1).isSome=true∧0≤x.2∧x.2≤1) → ∀(m k:Nat),k+m=v.2.1.length→(∀j x,j<k→v.2.1[j]? = some x→(ba d.2 x.1).isSome=true∧0≤x.2∧x.2≤1) → LX G 148 nS Tryz.f148 AT (aE Tryz.prog 148 1) (((i:Int),(v.2.1,((k:Int),()))),(((d,()),()),()))=some ((y,()),()):=by
  intro v i hv y P hP hnP hPi m;have hi:i<d.1.length:=(abp.1 hv).1;have T8:v.2.1.length≤50000000:=hs.r v (abC hv)
  induction m with
  |zero =>
   intro k hk hj;have p:P:=hPi.2 fun x hx=>by
    grind [List.mem_iff_getElem?,List.getElem?_eq_some_iff]
   refine ak V6 (af (decide_eq_false (show ¬((k:Int)<((v.2.1.length:Nat):Int)) by omega)) ?_);rw[wI,aB hi (by omega)];exact hP p
  |succ m ih =>
   intro k hk hj;have aG:k<v.2.1.length:=by omega
   have hx:v.2.1[k]? = some v.2.1[k]:=abf aG;have kA:v.2.1[k]∈v.2.1:=acG aG;refine ak V6 (ae (aJ aG) (aa (ai hx) (aa (amm (hG _ _ rfl) d v.2.1[k].1 (by omega)) ?_)));have hE:(G2 zE (oF d v.2.1[k].1)).2.1=(ba d.2 v.2.1[k].1).isSome:=Da _ _
   cases Ek:(ba d.2 v.2.1[k].1).isSome
   case false =>
    rw[hnP fun p=>by grind];exact aW (hE.trans Ek) rfl
   refine aW (hE.trans Ek) (af rfl (aa (ai hx) ?_));by_cases h0:v.2.1[k].2<0
   ·rw[hnP fun p=>by grind];exact ae (decide_eq_true h0) rfl
   refine af (decide_eq_false h0) (aa (ai hx) ?_);by_cases h1:v.2.1[k].2>1
   ·rw[hnP fun p=>by grind];exact ae (decide_eq_true h1) rfl
   refine af (decide_eq_false h1) ?_;rw[wI,aB aG (by omega)];refine ih (k+1) (by omega) fun j x hjk hjx=>?_;by_cases hje:j=k
   ·grind
   ·exact hj j x (by omega) hjx
 have XW:∀(m i:Nat),i+m=d.1.length→(∀j v,j<i→d.1[j]? = some v→cZ v.2.1=v.2.1∧∀x∈v.2.1,(ba d.2 x.1).isSome=true∧0≤x.2∧x.2≤1) → ∃b,LX G 148 nS Tryz.f148 xw (aE Tryz.prog 148 0) (((i:Int),()),(((d,()),()),()))=some ((b,()),())∧(b=true↔sE d):=by
  intro m
  induction m with
  |zero =>
   intro i hi hj;have je:∀v∈d.1,cZ v.2.1=v.2.1∧∀x∈v.2.1,(ba d.2 x.1).isSome=true∧0≤x.2∧x.2≤1:=fun v hv=>by obtain⟨j,hjv⟩:=aeA.1 hv;exact hj j v (by have:=(abp.1 hjv).1;omega) hjv
   obtain⟨b,k1,k2⟩:=XV d.2.length 0 (by omega) (fun v hv=>(je v hv).1) (fun v hv=>(je v hv).2) (fun j e hj=>by omega);exact⟨b,ak V5 (af (decide_eq_false (show ¬((i:Int)<((d.1.length:Nat):Int)) by omega)) k1),k2⟩
  |succ m ih =>
   intro i hi hj;have aG:i<d.1.length:=by omega
   have hx:d.1[i]? = some d.1[i]:=abf aG;have T8:d.1[i].2.1.length≤50000000:=hs.r _ (acG aG);have start:∀y,cond (not (decide (d.1[i].2.1=cZ d.1[i].2.1))) (some ((false,()),())) (LX G 148 nS Tryz.f148 AT (aE Tryz.prog 148 1) (((i:Int),(d.1[i].2.1,((0:Int),()))),(((d,()),()),())))=some y → LX G 148 nS Tryz.f148 xw (aE Tryz.prog 148 0) (((i:Int),()),(((d,()),()),()))=some y:=fun y hy =>ak V5 (ae (aJ aG) (aa (ai hx) (aa (amk hG d.1[i].2.1 (by omega)) (aa (ahg hG d.1[i].2.1 (cZ d.1[i].2.1) (by omega)) hy))));by_cases ht:d.1[i].2.1=cZ d.1[i].2.1
   ·by_cases hp:∀x∈d.1[i].2.1,(ba d.2 x.1).isSome=true∧0≤x.2∧x.2≤1
    ·obtain⟨b,k1,k2⟩:=ih (i+1) (by omega) (fun j v hji hjv=>by
      by_cases hje:j=i
      ·subst hje;rw[hx]at hjv;cases hjv;exact⟨ht.symm,hp⟩
      ·exact hj j v (by omega) hjv)
     exact⟨b,start _ (aW (decide_eq_true ht) (af rfl (ring d.1[i] i hx b _ (fun _=>k1) (fun h=>absurd hp h) Iff.rfl d.1[i].2.1.length 0 (by omega) fun j x hj=>by omega))),k2⟩
    ·exact⟨false,start _ (aW (decide_eq_true ht) (af rfl (ring d.1[i] i hx false _ (fun h=>absurd h hp) (fun _=>rfl) Iff.rfl d.1[i].2.1.length 0 (by omega) fun j x hj=>by omega))),fun h=>(by cases h),fun h=>absurd (h.e _ (acG aG)) hp⟩
   ·exact⟨false,start _ (aW (decide_eq_false ht) rfl),fun h=>(by cases h),fun h=>absurd (h.t _ (acG aG)).symm ht⟩
 obtain⟨b,k1,k2⟩:=XW d.1.length 0 (by omega) (fun j v hj=>by omega);exact⟨b,au (hG _ _ rfl) alO k1,k2⟩
theorem XX{α:Type}(a b:List α):cut (a++b) 0 ((a.length:Nat):Int)=a:=by
 grind [cut,Int.toNat_natCast,List.take_left]
theorem XY{α:Type}(a b:List α):cut (a++b) ((a.length:Nat):Int) (((a++b).length:Nat):Int)=b:=by
 grind [cut,Int.toNat_natCast,List.take_length,List.drop_left]
theorem vN{x:ag}:∀{l:List ag},l.Nodup→x∈l→l.count x=1
 |a::r,hn,hm=>by
  grind
structure ab2(d:ar):Prop where
 v:∀v∈d.1,dY v.2.2.1=true∧dE v.2.2.2=true
 e:∀e∈d.2,dY e.2.1=true∧dE e.2.2=true
theorem aaF{d:ar}(nv:d.1.length≤24)(ne:d.2.length≤40)(hv:(d.1.map (·.1)).Pairwise fun a b=>fD a b=true)(mv:∀x∈d.1.map (·.1),bQ x=true)(he:(d.2.map (·.1)).Pairwise fun a b=>fD a b=true)(me:∀x∈d.2.map (·.1),bQ x=true)(hr:sE d)(hl:ab2 d):Wf d:=by
 have sv:cg d.1:=aeO.1 hv;have se:dv d.2:=aeO.1 he;refine⟨sv,se,nv,ne,fun v h=>⟨mv _ (acE.2 ⟨v,h,rfl⟩),(hl.v v h).1,(hl.v v h).2,hr.t v h⟩,fun e h=>⟨me _ (acE.2 ⟨e,h,rfl⟩),(hl.e e h).1,(hl.e e h).2⟩,?_⟩;rw[List.perm_iff_count];intro x;by_cases hx:x∈ends d.2
 ·rw[vN (iE se) hx];obtain⟨e,h1,h2,h3⟩:=cy.1 hx;have:=hr.c e h1 x.2 h3;simp_all
 ·rw[List.count_eq_zero.2 hx,List.count_eq_zero];intro hd;obtain⟨v,h1,h2⟩:=aS.1 hd;obtain⟨k1,k2,k3⟩:=hr.e v h1 x h2;obtain⟨e,hee⟩:=acK.1 k1
  grind [cy,Be,qM]
theorem XZ{d:ar}(h:Wf d):sE d:=by
 refine⟨fun v hv=>(h.gv v hv).t,fun v hv x hx=>?_,fun e he s hs=>?_⟩
 ·obtain⟨e,h1,h2,h3⟩:=cy.1 (h.pd.mem_iff.1 (aS.2 ⟨v,hv,hx⟩))
  grind [ba,List.find?_isSome]
 ·rw[h.pd.count_eq];exact vN (iE h.se) (cy.2 ⟨e,he,rfl,hs⟩)
theorem Ni{d:ar}(h:Wf d):((d.1.map (·.1)).Pairwise fun a b=>fD a b=true)∧(∀x∈d.1.map (·.1),bQ x=true)∧((d.2.map (·.1)).Pairwise fun a b=>fD a b=true)∧∀x∈d.2.map (·.1),bQ x=true:=by
 refine⟨aeO.2 h.sv,fun x hx=>?_,aeO.2 h.se,fun x hx=>?_⟩
 ·obtain⟨v,hv,rfl⟩:=acE.1 hx;exact(h.gv v hv).i
 ·obtain⟨v,hv,rfl⟩:=acE.1 hx;exact(h.ge v hv).i
theorem aee{d:ar}(h:Wf d):ab2 d:=⟨fun v hv=>⟨(h.gv v hv).l,(h.gv v hv).a⟩,fun v hv=>⟨(h.ge v hv).l,(h.ge v hv).a⟩⟩
end Go.Vs
