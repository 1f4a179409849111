/- What the document says of a -/
import Derived.Test.YtoleelddkocpkaaGreatFormed
set_option linter.unusedVariables false
set_option linter.unusedSimpArgs false
namespace Go.Vs
open Go.Proofs
variable {G:(f:FuncId)→(g:aP)→Option (g.A→Option g.B)}
theorem acJ{α:Type}{R:α→α→Prop}(tr:∀a b c,R a b→R b c→R a c){l:List α}(h:∀j x y,l[j]? = some x→l[j+1]? = some y→R x y):l.Pairwise R:=by
 rw[List.pairwise_iff_getElem];have key:∀(n i:Nat) (hi:i<l.length) (hj:i+n+1<l.length),R l[i] l[i+n+1]:=by
  intro n
  induction n with
  |zero=>intro i hi hj;exact h i _ _ (aby hi) (aby hj)
  |succ n ih =>intro i hi hj;exact tr _ _ _ (ih i hi (by omega)) (h (i+n+1) _ _ (aby (by omega)) (aby hj))
 intro i j hi hj E9;have:=key (j-i-1) i hi (by omega)
 grind
theorem PF{i n:Nat}(h0:0<i)(h:i<n)(hn:n≤1073741824):IntKind.wrap .i64 ((i:Int)-1)=((i-1:Nat):Int):=by
 grind [wrap_small]
theorem anh(hG:HG G)(d:an)(hv:d.1.length≤50000000)(he:d.2.length≤50000000):FX G 146 Bg ((d,()),())=some ((d.1.map (·.1)++d.2.map (·.1),()),()):=by
 refine av (hG _ _ rfl) akR ?_;have Bj:∀(a:List ID),a.length≤50000000→LX G 146 Bg Tryz.f146 zh (aF Tryz.prog 146 1) (((0:Int),()),(((d,()),()),(a,())))=some ((a++d.2.map (·.1),()),()):=by
  intro a ha;have key:=bf d.2 (fun i (s:List ID)=>LX G 146 Bg Tryz.f146 zh (aF Tryz.prog 146 1) ((i,()),(((d,()),()),(s,())))) (fun r s=>((s++r.map (·.1),()),())) (fun m s=>s.length+m≤100000000) (fun s _=>by refine ar UH (ag (bX _) ?_);simp only[List.map_nil,List.append_nil];rfl) (fun i x r s hi hx uN hk ih=>by
    refine ar UH ?_;refine af (aN hi) (aa (aw hx) (af (fits (by simp;omega)) ?_));rw[wI,aA hi (by omega)]
    grind)
   a (by omega)
  exact key
 have key:=bf d.1 (fun i (s:List ID)=>LX G 146 Bg Tryz.f146 DJ (aF Tryz.prog 146 0) ((i,()),(((d,()),()),(s,())))) (fun r s=>(((s++r.map (·.1))++d.2.map (·.1),()),())) (fun m s=>s.length+m≤50000000) (fun s hs=>by refine ar UG (ag (bX _) ?_);refine(Bj s (by omega)).trans ?_;simp only[List.map_nil,List.append_nil];rfl) (fun i x r s hi hx uN hk ih=>by
   refine ar UG ?_;refine af (aN hi) (aa (aw hx) (af (fits (by simp;omega)) ?_));rw[wI,aA hi (by omega)]
   grind)
  [] (by simpa using hv)
 exact key
theorem ahd(hG:HG G)(l:List ID)(hl:l.length≤1073741824):∃b,FX G 147 w9 ((l,()),())=some ((b,()),())∧(b=true↔(l.Pairwise fun a b=>fL a b=true)∧∀x∈l,cr x=true):=by
 have loop:∀(n i:Nat),i+n=l.length→(∀j x,j<i→l[j]? = some x→cr x=true)→(∀j x y,j+1<i→l[j]? = some x→l[j+1]? = some y→fL x y=true) → ∃b,LX G 147 w9 Tryz.f147 zi (aF Tryz.prog 147 0) ((l,((i:Int),())),((),()))=some ((b,()),())∧(b=true↔(l.Pairwise fun a b=>fL a b=true)∧∀x∈l,cr x=true):=by
  intro n
  induction n with
  |zero =>
   intro i hi hm ha;refine⟨true,ar UI (ag (decide_eq_false (show ¬((i:Int)<((l.length:Nat):Int)) by omega)) rfl),fun _=>⟨?_,fun x hx=>?_⟩,fun _=>rfl⟩
   ·refine acJ (R:=fun a b:ID=>fL a b=true) (fun a b c=>gW) fun j x y h1 h2=>ha j x y ?_ h1 h2
    grind
   grind [List.mem_iff_getElem?,List.getElem?_eq_some_iff]
  |succ n ih =>
   intro i hi hm ha;have aH:i<l.length:=by omega
   have hx:l[i]? = some l[i]:=aby aH;have e1:=@UI (FX G) (LX G 147 w9 Tryz.f147) ((l,((i:Int),())),((),()))
   cases hmi:cr l[i] with
   |false=>exact⟨false,ar (e1.trans (af (aN aH) (aa (aw hx) (aa (Fw (hG _ _ rfl) _) (aV hmi rfl))))) rfl,fun h=>(by cases h),fun h=>by simp_all⟩
   |true =>
    have Sq:∀j x,j<i+1→l[j]? = some x→cr x=true:=fun j x hj k=>by
     grind
    by_cases h0:i=0
    ·obtain⟨b,h1,h2⟩:=ih (i+1) (by omega) Sq (fun j x y hj=>by omega);refine⟨b,ar (e1.trans (af (aN aH) (aa (aw hx) (aa (Fw (hG _ _ rfl) _) (aV hmi (ag rfl (ag (decide_eq_false (show ¬((i:Int)>0) by omega)) ?_))))))) rfl,h2⟩;rw[wI,aA aH hl];exact h1
    ·have hy:l[i-1]? = some l[i-1]:=aby (by omega);have e2:aR l (IntKind.wrap .i64 ((i:Int)-1))=some l[i-1]:=by grind [PF,aw]
     by_cases hc:fL l[i-1] l[i]=true
     ·obtain⟨b,h1,h2⟩:=ih (i+1) (by omega) Sq (fun j x y hj k1 k2=>by
       by_cases hji:j+1=i
       ·have ej:j=i-1:=by omega
        grind
       grind)
      refine⟨b,ar (e1.trans (af (aN aH) (aa (aw hx) (aa (Fw (hG _ _ rfl) _) (aV hmi (ag rfl (af (decide_eq_true (show((i:Int)>0) by omega)) (aa e2 (aa (aw hx) (aa (Vn (hG _ _ rfl) _ _) (ag (decide_eq_false ?_) ?_))))))))))) rfl,h2⟩
      ·have:=(jQ l[i-1] l[i]).2 hc;simp_all
      ·rw[wI,aA aH hl];exact h1
     ·refine⟨false,ar (e1.trans (af (aN aH) (aa (aw hx) (aa (Fw (hG _ _ rfl) _) (aV hmi (ag rfl (af (decide_eq_true (show((i:Int)>0) by omega)) (aa e2 (aa (aw hx) (aa (Vn (hG _ _ rfl) _ _) (af (decide_eq_true ?_) rfl))))))))))) rfl,fun h=>(by cases h),fun h=>absurd (adu.1 h.1 (i-1) i (by omega) aH (by omega)) hc⟩;have:=mt (jQ l[i-1] l[i]).1 hc;simp_all
 obtain⟨b,h1,h2⟩:=loop l.length 0 (by omega) (fun j x hj=>by omega) (fun j x y hj=>by omega);exact⟨b,av (hG _ _ rfl) akS h1,h2⟩
theorem ahe(hG:HG G)(d:an)(x:ae)(hs:Sm d)(hn:d.1.length≤24):FX G 184 pf ((d,x,()),())=some (((((aq d.1).count x:Nat):Int),()),()):=by
 refine av (hG _ _ rfl) ael ?_;have inner:∀(v:ai) (i:Nat) (hv:d.1[i]? = some v) (m k acc:Nat) y,k+m=v.2.1.length→acc+m≤100000000000 → LX G 184 pf Tryz.f184 tS (aF Tryz.prog 184 0) ((((acc+(v.2.1.drop k).count x:Nat):Int),(((i+1:Nat):Int),())),(((d,()),((x,()),())),()))=some y → LX G 184 pf Tryz.f184 qE (aF Tryz.prog 184 1) (((acc:Int),((i:Int),((k:Int),()))),(((d,()),((x,()),())),()))=some y:=by
  intro v i hv m;have Sx:v.2.1.length≤50000000:=hs.r v (acC hv);have hi:i<d.1.length:=(abJ.1 hv).1
  induction m with
  |zero =>intro k acc y hk ha hy;refine ar OE ?_;refine aa (aw hv) (ag (decide_eq_false (show ¬((k:Int)<((v.2.1.length:Nat):Int)) by omega)) ?_);rw[List.drop_eq_nil_of_le (by omega)]at hy;rw[wI,aA hi (by omega)];exact hy
  |succ m ih =>
   intro k acc y hk ha hy;have aH:k<v.2.1.length:=by omega
   have hx:v.2.1[k]? = some v.2.1[k]:=aby aH;refine ar OE ?_;refine aa (aw hv) (af (aN aH) (aa (aw hv) (aa (aw hx) ?_)));have hb:=lJ v.2.1[k] x;rw[List.drop_eq_getElem_cons aH,List.count_cons]at hy;by_cases hc:v.2.1[k]=x
   ·refine af (hb.trans (decide_eq_true hc)) ?_;have w1:IntKind.wrap .i64 ((acc:Int)+1)=((acc+1:Nat):Int):=by grind [wrap_small]
    show LX G 184 pf Tryz.f184 qE (aF Tryz.prog 184 1) ((IntKind.wrap .i64 ((acc:Int)+1),((i:Int),(IntKind.wrap .i64 ((k:Int)+1),()))),(((d,()),((x,()),())),()))=some y;rw[w1,aA aH (by omega)];refine ih (k+1) (acc+1) y (by omega) (by omega) ?_
    grind
   ·refine ag (hb.trans (decide_eq_false hc)) ?_;rw[wI,aA aH (by omega)];refine ih (k+1) acc y (by omega) (by omega) ?_;simp_all
 have outer:∀(m i acc:Nat),i+m=d.1.length→acc≤i*50000000→LX G 184 pf Tryz.f184 tS (aF Tryz.prog 184 0) (((acc:Int),((i:Int),())),(((d,()),((x,()),())),()))=some ((((acc+(aq (d.1.drop i)).count x:Nat):Int),()),()):=by
  intro m
  induction m with
  |zero =>intro i acc hi ha;refine ar Oz (ag (decide_eq_false (show ¬((i:Int)<((d.1.length:Nat):Int)) by omega)) ?_);rw[List.drop_eq_nil_of_le (by omega)];rfl
  |succ m ih =>
   intro i acc hi ha;have aH:i<d.1.length:=by omega
   have hx:d.1[i]? = some d.1[i]:=aby aH;have Sx:d.1[i].2.1.length≤50000000:=hs.r _ (acv aH);refine ar Oz (af (aN aH) ?_);have uR:List.count x d.1[i].2.1≤d.1[i].2.1.length:=List.count_le_length;refine inner d.1[i] i hx d.1[i].2.1.length 0 acc _ (by omega) (by omega) ?_;rw[List.drop_zero];have:=ih (i+1) (acc+List.count x d.1[i].2.1) (by omega) (by omega);refine this.trans ?_;rw[List.drop_eq_getElem_cons aH,dR,List.count_append,Nat.add_assoc];rfl
 have:=outer d.1.length 0 0 (by omega) (by omega);rw[List.drop_zero,Nat.zero_add]at this;exact this
structure yh(d:an):Prop where
 t:∀v∈d.1,cc v.2.1=v.2.1
 e:∀v∈d.1,∀x∈v.2.1,(aY d.2 x.1).isSome=true∧0≤x.2∧x.2≤1
 c:∀e∈d.2,∀s:Int,s=0∨s=1→(aq d.1).count (e.1,s)=1
theorem ani(hG:HG G)(d:an)(hs:Sm d)(hn:d.1.length≤24):∃b,FX G 148 lU ((d,()),())=some ((b,()),())∧(b=true↔yh d):=by
 have Ah:=hs.e;have WE:∀(m i:Nat),i+m=d.2.length→(∀v∈d.1,cc v.2.1=v.2.1)→(∀v∈d.1,∀x∈v.2.1,(aY d.2 x.1).isSome=true∧0≤x.2∧x.2≤1)→(∀j e,j<i→d.2[j]? = some e→∀s:Int,s=0∨s=1→(aq d.1).count (e.1,s)=1) → ∃b,LX G 148 lU Tryz.f148 zk (aF Tryz.prog 148 2) (((i:Int),()),(((d,()),()),()))=some ((b,()),())∧(b=true↔yh d):=by
  intro m
  induction m with
  |zero =>
   intro i hi h1 h2 h3;refine⟨true,ar UL (ag (decide_eq_false (show ¬((i:Int)<((d.2.length:Nat):Int)) by omega)) rfl),fun _=>⟨h1,h2,fun e he s hs=>?_⟩,fun _=>rfl⟩
   grind [List.mem_iff_getElem?,List.getElem?_eq_some_iff]
  |succ m ih =>
   intro i hi h1 h2 h3;have aH:i<d.2.length:=by omega
   have hx:d.2[i]? = some d.2[i]:=aby aH;have key:∀(s:Nat),s≤1→∀y,((aq d.1).count (d.2[i].1,(s:Int))=1→LX G 148 lU Tryz.f148 vS (aF Tryz.prog 148 3) (((i:Int),(((s+1:Nat):Int),())),(((d,()),()),()))=some y)→((aq d.1).count (d.2[i].1,(s:Int))≠1→y=((false,()),())) → LX G 148 lU Tryz.f148 vS (aF Tryz.prog 148 3) (((i:Int),((s:Int),())),(((d,()),()),()))=some y:=by
    intro s Mg y k1 k2;refine ar UM ?_;refine af (decide_eq_true (show((s:Int)<2) by omega)) (aa (aw hx) (aa (ahe hG d (d.2[i].1,(s:Int)) hs hn) ?_));by_cases hc:(aq d.1).count (d.2[i].1,(s:Int))=1
    ·refine ag (show((((aq d.1).count (d.2[i].1,(s:Int)):Nat):Int) != 1)=false by rw[hc];rfl) ?_;have w1:IntKind.wrap .i64 ((s:Int)+1)=((s+1:Nat):Int):=by grind [wrap_small]
     grind
    ·rw[k2 hc];exact af (show((((aq d.1).count (d.2[i].1,(s:Int)):Nat):Int) != 1)=true by grind) rfl
   have go:∀y,LX G 148 lU Tryz.f148 vS (aF Tryz.prog 148 3) (((i:Int),((0:Int),())),(((d,()),()),()))=some y→LX G 148 lU Tryz.f148 zk (aF Tryz.prog 148 2) (((i:Int),()),(((d,()),()),()))=some y:=fun y hy =>ar UL (af (aN aH) hy);by_cases c0:(aq d.1).count (d.2[i].1,((0:Nat):Int))=1
   ·by_cases c1:(aq d.1).count (d.2[i].1,((1:Nat):Int))=1
    ·obtain⟨b,k1,k2⟩:=ih (i+1) (by omega) h1 h2 (fun j e hj EK s hs=>by
      grind)
     refine⟨b,go _ (key 0 (by omega) _ (fun _=>key 1 (by omega) _ (fun _=>?_) fun h=>absurd c1 h) fun h=>absurd c0 h),k2⟩;refine ar UM (ag (decide_eq_false (show ¬((((1+1:Nat):Nat):Int)<2) by omega)) ?_);rw[wI,aA aH (by omega)];exact k1
    ·exact⟨false,go _ (key 0 (by omega) _ (fun _=>key 1 (by omega) _ (fun h=>absurd h c1) fun _=>rfl) fun h=>absurd c0 h),fun h=>(by cases h),fun h=>absurd (h.c _ (acv aH) 1 (.inr rfl)) c1⟩
   ·exact⟨false,go _ (key 0 (by omega) _ (fun h=>absurd h c0) fun _=>rfl),fun h=>(by cases h),fun h=>absurd (h.c _ (acv aH) 0 (.inl rfl)) c0⟩
 have ring:∀(v:ai) (i:Nat) (hv:d.1[i]? = some v) (y:Bool) (P:Prop),(P→LX G 148 lU Tryz.f148 vR (aF Tryz.prog 148 0) ((((i+1:Nat):Int),()),(((d,()),()),()))=some ((y,()),()))→(¬P→y=false)→(P↔∀x∈v.2.1,(aY d.2 x.1).isSome=true∧0≤x.2∧x.2≤1) → ∀(m k:Nat),k+m=v.2.1.length→(∀j x,j<k→v.2.1[j]? = some x→(aY d.2 x.1).isSome=true∧0≤x.2∧x.2≤1) → LX G 148 lU Tryz.f148 zj (aF Tryz.prog 148 1) (((i:Int),(v.2.1,((k:Int),()))),(((d,()),()),()))=some ((y,()),()):=by
  intro v i hv y P hP hnP hPi m;have hi:i<d.1.length:=(abJ.1 hv).1;have Sx:v.2.1.length≤50000000:=hs.r v (acC hv)
  induction m with
  |zero =>
   intro k hk hj;have p:P:=hPi.2 fun x hx=>by
    grind [List.mem_iff_getElem?,List.getElem?_eq_some_iff]
   refine ar UK (ag (decide_eq_false (show ¬((k:Int)<((v.2.1.length:Nat):Int)) by omega)) ?_);rw[wI,aA hi (by omega)];exact hP p
  |succ m ih =>
   intro k hk hj;have aH:k<v.2.1.length:=by omega
   have hx:v.2.1[k]? = some v.2.1[k]:=aby aH;have iy:v.2.1[k]∈v.2.1:=acv aH;refine ar UK (af (aN aH) (aa (aw hx) (aa (Vo (hG _ _ rfl) d v.2.1[k].1 (by omega)) ?_)));have hE:(qL zE (gN d v.2.1[k].1)).2.1=(aY d.2 v.2.1[k].1).isSome:=gV _ _
   cases CX:(aY d.2 v.2.1[k].1).isSome
   case false =>
    rw[hnP fun p=>by grind];exact aV (hE.trans CX) rfl
   refine aV (hE.trans CX) (ag rfl (aa (aw hx) ?_));by_cases h0:v.2.1[k].2<0
   ·rw[hnP fun p=>by grind];exact af (decide_eq_true h0) rfl
   refine ag (decide_eq_false h0) (aa (aw hx) ?_);by_cases h1:v.2.1[k].2>1
   ·rw[hnP fun p=>by grind];exact af (decide_eq_true h1) rfl
   refine ag (decide_eq_false h1) ?_;rw[wI,aA aH (by omega)];refine ih (k+1) (by omega) fun j x hjk hjx=>?_;by_cases EK:j=k
   ·grind
   ·exact hj j x (by omega) hjx
 have WG:∀(m i:Nat),i+m=d.1.length→(∀j v,j<i→d.1[j]? = some v→cc v.2.1=v.2.1∧∀x∈v.2.1,(aY d.2 x.1).isSome=true∧0≤x.2∧x.2≤1) → ∃b,LX G 148 lU Tryz.f148 vR (aF Tryz.prog 148 0) (((i:Int),()),(((d,()),()),()))=some ((b,()),())∧(b=true↔yh d):=by
  intro m
  induction m with
  |zero =>
   intro i hi hj;have iq:∀v∈d.1,cc v.2.1=v.2.1∧∀x∈v.2.1,(aY d.2 x.1).isSome=true∧0≤x.2∧x.2≤1:=fun v hv=>by obtain⟨j,XO⟩:=adi.1 hv;exact hj j v (by have:=(abJ.1 XO).1;omega) XO
   obtain⟨b,k1,k2⟩:=WE d.2.length 0 (by omega) (fun v hv=>(iq v hv).1) (fun v hv=>(iq v hv).2) (fun j e hj=>by omega);exact⟨b,ar UJ (ag (decide_eq_false (show ¬((i:Int)<((d.1.length:Nat):Int)) by omega)) k1),k2⟩
  |succ m ih =>
   intro i hi hj;have aH:i<d.1.length:=by omega
   have hx:d.1[i]? = some d.1[i]:=aby aH;have Sx:d.1[i].2.1.length≤50000000:=hs.r _ (acv aH);have start:∀y,cond (not (decide (d.1[i].2.1=cc d.1[i].2.1))) (some ((false,()),())) (LX G 148 lU Tryz.f148 zj (aF Tryz.prog 148 1) (((i:Int),(d.1[i].2.1,((0:Int),()))),(((d,()),()),())))=some y → LX G 148 lU Tryz.f148 vR (aF Tryz.prog 148 0) (((i:Int),()),(((d,()),()),()))=some y:=fun y hy =>ar UJ (af (aN aH) (aa (aw hx) (aa (IT hG d.1[i].2.1 (by omega)) (aa (afB hG d.1[i].2.1 (cc d.1[i].2.1) (by omega)) hy))));by_cases ht:d.1[i].2.1=cc d.1[i].2.1
   ·by_cases hp:∀x∈d.1[i].2.1,(aY d.2 x.1).isSome=true∧0≤x.2∧x.2≤1
    ·obtain⟨b,k1,k2⟩:=ih (i+1) (by omega) (fun j v hji XO=>by
      by_cases EK:j=i
      ·subst EK;rw[hx]at XO;cases XO;exact⟨ht.symm,hp⟩
      ·exact hj j v (by omega) XO)
     exact⟨b,start _ (aV (decide_eq_true ht) (ag rfl (ring d.1[i] i hx b _ (fun _=>k1) (fun h=>absurd hp h) Iff.rfl d.1[i].2.1.length 0 (by omega) fun j x hj=>by omega))),k2⟩
    ·exact⟨false,start _ (aV (decide_eq_true ht) (ag rfl (ring d.1[i] i hx false _ (fun h=>absurd h hp) (fun _=>rfl) Iff.rfl d.1[i].2.1.length 0 (by omega) fun j x hj=>by omega))),fun h=>(by cases h),fun h=>absurd (h.e _ (acv aH)) hp⟩
   ·exact⟨false,start _ (aV (decide_eq_false ht) rfl),fun h=>(by cases h),fun h=>absurd (h.t _ (acv aH)).symm ht⟩
 obtain⟨b,k1,k2⟩:=WG d.1.length 0 (by omega) (fun j v hj=>by omega);exact⟨b,av (hG _ _ rfl) akT k1,k2⟩
theorem ahf{α:Type}(a b:List α):cut (a++b) 0 ((a.length:Nat):Int)=a:=by
 grind [cut,Int.toNat_natCast,List.take_left]
theorem ahg{α:Type}(a b:List α):cut (a++b) ((a.length:Nat):Int) (((a++b).length:Nat):Int)=b:=by
 grind [cut,Int.toNat_natCast,List.take_length,List.drop_left]
theorem HB{x:ae}:∀{l:List ae},l.Nodup→x∈l→l.count x=1
 |a::r,hn,hm=>by
  grind
structure PH(d:an):Prop where
 v:∀v∈d.1,iM v.2.2.1=true∧ic v.2.2.2=true
 e:∀e∈d.2,iM e.2.1=true∧ic e.2.2=true
theorem Zk{d:an}(nv:d.1.length≤24)(ne:d.2.length≤40)(hv:(d.1.map (·.1)).Pairwise fun a b=>fL a b=true)(mv:∀x∈d.1.map (·.1),cr x=true)(he:(d.2.map (·.1)).Pairwise fun a b=>fL a b=true)(me:∀x∈d.2.map (·.1),cr x=true)(hr:yh d)(hl:PH d):Wf d:=by
 have sv:bZ d.1:=ad5.1 hv;have se:dp d.2:=ad5.1 he;refine⟨sv,se,nv,ne,fun v h=>⟨mv _ (acU.2 ⟨v,h,rfl⟩),(hl.v v h).1,(hl.v v h).2,hr.t v h⟩,fun e h=>⟨me _ (acU.2 ⟨e,h,rfl⟩),(hl.e e h).1,(hl.e e h).2⟩,?_⟩;rw[List.perm_iff_count];intro x;by_cases hx:x∈ends d.2
 ·rw[HB (ni se) hx];obtain⟨e,h1,h2,h3⟩:=c7.1 hx;have:=hr.c e h1 x.2 h3;simp_all
 ·rw[List.count_eq_zero.2 hx,List.count_eq_zero];intro hd;obtain⟨v,h1,h2⟩:=aU.1 hd;obtain⟨k1,k2,k3⟩:=hr.e v h1 x h2;obtain⟨e,hee⟩:=acV.1 k1
  grind [c7,G6,sO]
theorem WH{d:an}(h:Wf d):yh d:=by
 refine⟨fun v hv=>(h.gv v hv).t,fun v hv x hx=>?_,fun e he s hs=>?_⟩
 ·obtain⟨e,h1,h2,h3⟩:=c7.1 (h.pd.mem_iff.1 (aU.2 ⟨v,hv,hx⟩))
  grind [aY,List.find?_isSome]
 ·rw[h.pd.count_eq];exact HB (ni h.se) (c7.2 ⟨e,he,rfl,hs⟩)
theorem sZ{d:an}(h:Wf d):((d.1.map (·.1)).Pairwise fun a b=>fL a b=true)∧(∀x∈d.1.map (·.1),cr x=true)∧((d.2.map (·.1)).Pairwise fun a b=>fL a b=true)∧∀x∈d.2.map (·.1),cr x=true:=by
 refine⟨ad5.2 h.sv,fun x hx=>?_,ad5.2 h.se,fun x hx=>?_⟩
 ·obtain⟨v,hv,rfl⟩:=acU.1 hx;exact(h.gv v hv).i
 ·obtain⟨v,hv,rfl⟩:=acU.1 hx;exact(h.ge v hv).i
theorem acK{d:an}(h:Wf d):PH d:=⟨fun v hv=>⟨(h.gv v hv).l,(h.gv v hv).a⟩,fun v hv=>⟨(h.ge v hv).l,(h.ge v hv).a⟩⟩
theorem ank(hG:HG G)(d:an)(hs:Sm d)(tv:∀v∈d.1,v.2.2.1.size≤100000000)(te:∀e∈d.2,e.2.1.size≤100000000):∃r:Int,FX G 98 rF ((d,()),())=some ((r,()),())∧(r=0↔Wf d):=by
 have e0:=@akx (FX G) (LX G 98 rF Tryz.f98) ((d,()),());have fin:∀{y},bC 98 rF Tryz.f98 (FX G) (LX G 98 rF Tryz.f98) ((d,()),())=some y→FX G 98 rF ((d,()),())=some y:=fun {y} h=>av (hG _ _ rfl) h rfl;by_cases hn:24<d.1.length
 ·exact⟨3,fin (e0.trans (af (decide_eq_true (show((d.1.length:Nat):Int)>24 by omega)) rfl)),fun h=>(by cases h),fun h=>by have:=h.nv;omega⟩
 by_cases hm:40<d.2.length
 ·exact⟨3,fin (e0.trans (ag (decide_eq_false (show ¬((d.1.length:Nat):Int)>24 by omega)) (af (decide_eq_true (show((d.2.length:Nat):Int)>40 by omega)) rfl))),fun h=>(by cases h),fun h=>by have:=h.ne;omega⟩
 obtain⟨ids,rB⟩:∃ids,ids=d.1.map (·.1)++d.2.map (·.1):=⟨_,rfl⟩;have l1:(d.1.map (·.1)).length=d.1.length:=List.length_map _;have l2:(d.2.map (·.1)).length=d.2.length:=List.length_map _;have o8:ids.length=d.1.length+d.2.length:=by rw[rB,List.length_append,l1,l2]
 have c1:cut ids 0 ((d.1.length:Nat):Int)=d.1.map (·.1):=by rw[rB,←l1];exact ahf _ _
 have c2:cut ids ((d.1.length:Nat):Int) ((ids.length:Nat):Int)=d.2.map (·.1):=by rw[rB,←l1];exact ahg _ _
 obtain⟨b1,k1,p1⟩:=ahd hG (d.1.map (·.1)) (by rw[l1];omega);obtain⟨b2,k2,p2⟩:=ahd hG (d.2.map (·.1)) (by rw[l2];omega);have o1:bg ids.length 0 ((d.1.length:Nat):Int)=true:=by unfold bg;rw[o8];simp only[Bool.and_eq_true,decide_eq_true_eq];omega
 have o2:bg ids.length ((d.1.length:Nat):Int) ((ids.length:Nat):Int)=true:=by unfold bg;rw[o8];simp only[Bool.and_eq_true,decide_eq_true_eq];omega
 have kc1:FX G 147 w9 ((cut ids 0 ((d.1.length:Nat):Int),()),())=some ((b1,()),()):=(congrArg (fun q:List ID=>FX G 147 w9 ((q,()),())) c1).trans k1;have kc2:FX G 147 w9 ((cut ids ((d.1.length:Nat):Int) ((ids.length:Nat):Int),()),())=some ((b2,()),()):=(congrArg (fun q:List ID=>FX G 147 w9 ((q,()),())) c2).trans k2;have h82:=anh hG d hs.v hs.e;rw[←rB]at h82;have pre:∀{y},cond (not b1) (some (((10:Int),()),())) (cond (not b2) (some (((10:Int),()),())) ((FX G 148 lU ((d,()),())).bind fun(y4:((Bool×Unit)×Unit))=>cond (not y4.1.1) (some (((10:Int),()),())) (LX G 98 rF Tryz.f98 qG (aF Tryz.prog 98 0) ((((d.1.length:Nat):Int),(true,(true,((0:Int),())))),(((d,()),()),())))))=some y → FX G 98 rF ((d,()),())=some y:=fun {y} h=>by refine fin (e0.trans ?_);refine ag (decide_eq_false (show ¬((d.1.length:Nat):Int)>24 by omega)) (ag (decide_eq_false (show ¬((d.2.length:Nat):Int)>40 by omega)) ?_);refine aa h82 (af o1 ?_);refine aa kc1 (af o2 ?_);exact aa kc2 h
 cases Sw:b1 with
 |false=>subst Sw;exact⟨10,pre rfl,fun h=>(by cases h),fun h=>by have:=p1.2 ⟨(sZ h).1,(sZ h).2.1⟩;cases this⟩
 |true =>
 cases Bx:b2 with
 |false=>subst Sw;subst Bx;exact⟨10,pre rfl,fun h=>(by cases h),fun h=>by have:=p2.2 ⟨(sZ h).2.2.1,(sZ h).2.2.2⟩;cases this⟩
 |true =>
 subst Sw;subst Bx;obtain⟨b3,k3,p3⟩:=ani hG d hs (by omega)
 cases hb3:b3 with
 |false=>subst hb3;exact⟨10,pre (ag rfl (ag rfl (aa k3 rfl))),fun h=>(by cases h),fun h=>by have:=p3.2 (WH h);cases this⟩
 |true =>
 subst hb3;have WE:∀(m i:Nat) (lb ab:Bool),i+m=d.2.length→(lb=true↔(∀v∈d.1,iM v.2.2.1=true)∧∀j e,j<i→d.2[j]? = some e→iM e.2.1=true)→(ab=true↔(∀v∈d.1,ic v.2.2.2=true)∧∀j e,j<i→d.2[j]? = some e→ic e.2.2=true) → ∃r:Int,LX G 98 rF Tryz.f98 qH (aF Tryz.prog 98 1) ((lb,(ab,((i:Int),()))),(((d,()),()),()))=some ((r,()),())∧(r=0↔PH d):=by
  intro m
  induction m with
  |zero =>
   intro i lb ab hi yV rm;have c:∀{y},cond (not lb) (some (((4:Int),()),())) (cond (not ab) (some (((1:Int),()),())) (some (((0:Int),()),())))=some y→LX G 98 rF Tryz.f98 qH (aF Tryz.prog 98 1) ((lb,(ab,((i:Int),()))),(((d,()),()),()))=some y:=fun {y} h =>ar UB (ag (decide_eq_false (show ¬((i:Int)<((d.2.length:Nat):Int)) by omega)) h)
   cases lb with
   |false=>exact⟨4,c rfl,fun h=>(by cases h),fun h=>by have:=yV.2 ⟨fun v hv=>(h.v v hv).1,fun j e _ EK=>(h.e e (acC EK)).1⟩;cases this⟩
   |true =>
    cases ab with
    |false=>exact⟨1,c rfl,fun h=>(by cases h),fun h=>by have:=rm.2 ⟨fun v hv=>(h.v v hv).2,fun j e _ EK=>(h.e e (acC EK)).2⟩;cases this⟩
    |true =>
     refine⟨0,c rfl,fun _=>⟨fun v hv=>⟨(yV.1 rfl).1 v hv,(rm.1 rfl).1 v hv⟩,fun e he=>?_⟩,fun _=>rfl⟩;obtain⟨j,hj⟩:=adi.1 he;have hji:j<i:=by have:=(abJ.1 hj).1;omega
     exact⟨(yV.1 rfl).2 j e hji hj,(rm.1 rfl).2 j e hji hj⟩
  |succ m ih =>
   intro i lb ab hi yV rm;have aH:i<d.2.length:=by omega
   have hx:d.2[i]? = some d.2[i]:=aby aH;have f28:=abT (hG 122 yY rfl) d.2[i].2.1 (te _ (acv aH));have f29:=abU (hG 121 A9 rfl) d.2[i].2.2;obtain⟨r,q1,q2⟩:=ih (i+1) (lb&&iM d.2[i].2.1) (ab&&ic d.2[i].2.2) (by omega) ⟨fun h=>by
     simp only[Bool.and_eq_true]at h;exact⟨(yV.1 h.1).1,fun j e hj EK=>by
      by_cases k:j=i
      ·subst k;rw[hx]at EK;cases EK;exact h.2
      ·exact(yV.1 h.1).2 j e (by omega) EK⟩,fun h=>cd (yV.2 ⟨h.1,fun j e hj=>h.2 j e (by omega)⟩) (h.2 i _ (by omega) hx)⟩
    ⟨fun h=>by
     simp only[Bool.and_eq_true]at h;exact⟨(rm.1 h.1).1,fun j e hj EK=>by
      by_cases k:j=i
      ·subst k;rw[hx]at EK;cases EK;exact h.2
      ·exact(rm.1 h.1).2 j e (by omega) EK⟩,fun h=>cd (rm.2 ⟨h.1,fun j e hj=>h.2 j e (by omega)⟩) (h.2 i _ (by omega) hx)⟩
   refine⟨r,ar UB (af (aN aH) ?_),q2⟩;rw[wI,aA aH (by omega)]
   cases lb<;>cases ab
   ·exact q1
   ·exact ag rfl (af rfl (aa (aw hx) (aa f29 q1)))
   ·exact af rfl (aa (aw hx) (aa f28 (ag rfl q1)))
   ·exact af rfl (aa (aw hx) (aa f28 (af rfl (aa (aw hx) (aa f29 q1)))))
 have WG:∀(m i:Nat) (lb ab:Bool),i+m=d.1.length→(lb=true↔∀j v,j<i→d.1[j]? = some v→iM v.2.2.1=true)→(ab=true↔∀j v,j<i→d.1[j]? = some v→ic v.2.2.2=true) → ∃r:Int,LX G 98 rF Tryz.f98 qG (aF Tryz.prog 98 0) ((((d.1.length:Nat):Int),(lb,(ab,((i:Int),())))),(((d,()),()),()))=some ((r,()),())∧(r=0↔PH d):=by
  intro m
  induction m with
  |zero =>intro i lb ab hi yV rm;obtain⟨r,q1,q2⟩:=WE d.2.length 0 lb ab (by omega) ⟨fun h=>⟨fun v hv=>by obtain⟨j,hj⟩:=adi.1 hv;exact yV.1 h j v (by have:=(abJ.1 hj).1;omega) hj,fun j e hj=>by omega⟩,fun h=>yV.2 fun j v _ XO=>h.1 v (acC XO)⟩ ⟨fun h=>⟨fun v hv=>by obtain⟨j,hj⟩:=adi.1 hv;exact rm.1 h j v (by have:=(abJ.1 hj).1;omega) hj,fun j e hj=>by omega⟩,fun h=>rm.2 fun j v _ XO=>h.1 v (acC XO)⟩;exact⟨r,ar UA (ag (decide_eq_false (show ¬((i:Int)<((d.1.length:Nat):Int)) by omega)) q1),q2⟩
  |succ m ih =>
   intro i lb ab hi yV rm;have aH:i<d.1.length:=by omega
   have hx:d.1[i]? = some d.1[i]:=aby aH;have f28:=abT (hG 122 yY rfl) d.1[i].2.2.1 (tv _ (acv aH));have f29:=abU (hG 121 A9 rfl) d.1[i].2.2.2;obtain⟨r,q1,q2⟩:=ih (i+1) (lb&&iM d.1[i].2.2.1) (ab&&ic d.1[i].2.2.2) (by omega) ⟨fun h=>by
     simp only[Bool.and_eq_true]at h;exact fun j e hj EK=>by
      by_cases k:j=i
      ·subst k;rw[hx]at EK;cases EK;exact h.2
      ·exact yV.1 h.1 j e (by omega) EK,fun h=>cd (yV.2 fun j e hj=>h j e (by omega)) (h i _ (by omega) hx)⟩
    ⟨fun h=>by
     simp only[Bool.and_eq_true]at h;exact fun j e hj EK=>by
      by_cases k:j=i
      ·subst k;rw[hx]at EK;cases EK;exact h.2
      ·exact rm.1 h.1 j e (by omega) EK,fun h=>cd (rm.2 fun j e hj=>h j e (by omega)) (h i _ (by omega) hx)⟩
   refine⟨r,ar UA (af (aN aH) ?_),q2⟩;rw[wI,aA aH (by omega)]
   cases lb<;>cases ab
   ·exact q1
   ·exact ag rfl (af rfl (aa (aw hx) (aa f29 q1)))
   ·exact af rfl (aa (aw hx) (aa f28 (ag rfl q1)))
   ·exact af rfl (aa (aw hx) (aa f28 (af rfl (aa (aw hx) (aa f29 q1)))))
 obtain⟨r,q1,q2⟩:=WG d.1.length 0 true true (by omega) ⟨fun _ j v hj=>by omega,fun _=>rfl⟩ ⟨fun _ j v hj=>by omega,fun _=>rfl⟩;refine⟨r,pre (ag rfl (ag rfl (aa k3 (ag rfl q1)))),fun h=>?_,fun h=>q2.2 (acK h)⟩;exact Zk (by omega) (by omega) (p1.1 rfl).1 (p1.1 rfl).2 (p2.1 rfl).1 (p2.1 rfl).2 (p3.1 rfl) (q2.1 h)
theorem anl(hG:HG G)(d:an)(hs:Sm d)(tv:∀v∈d.1,v.2.2.1.size≤100000000)(te:∀e∈d.2,e.2.1.size≤100000000):∃r:Int,FX G 69 Il ((d,()),())=some ((r,()),())∧(r=0↔Wf d∧bH d=0):=by
 obtain⟨r,k1,k2⟩:=ank hG d hs tv te;have e0:=@akb (FX G) (LX G 69 Il Tryz.f69) ((d,()),());have fin:∀{y},bC 69 Il Tryz.f69 (FX G) (LX G 69 Il Tryz.f69) ((d,()),())=some y→FX G 69 Il ((d,()),())=some y:=fun {y} h=>av (hG _ _ rfl) h rfl;by_cases hr:r=0
 ·have hw:=k2.1 hr;have bw:=hw.ne;by_cases hg:bH d=0
  ·exact⟨0,fin (e0.trans (aa k1 (ag (by simp[hr]) (aa (abS hG d hs (by omega)) (ag (by simp[hg]) rfl))))),fun _=>⟨hw,hg⟩,fun _=>rfl⟩
  ·exact⟨11,fin (e0.trans (aa k1 (ag (by simp[hr]) (aa (abS hG d hs (by omega)) (af (by simp[hg]) rfl))))),fun h=>(by cases h),fun h=>absurd h.2 hg⟩
 ·exact⟨r,fin (e0.trans (aa k1 (af (by simp[hr]) rfl))),fun h=>absurd h hr,fun h=>k2.2 h.1⟩
end Go.Vs
