/- Diagrams as bytes -/
import Derived.Test.YtoleelddkocpkaaGreatPartsB
import Derived.Test.YtoleelddkocpkaaGreatForm
import Derived.Test.YtoleelddkocpkaaGreatNormalD
import Derived.Test.YtoleelddkocpkaaGreatPlane
set_option linter.unusedVariables false
set_option linter.unusedSimpArgs false
namespace Go.Vs
open Go.Proofs
variable {G:(f:FuncId)→(g:aO)→Option (g.A→Option g.B)}
theorem M8{n:Int}(h:N5 (.int .i64) n):Qx n:=by
 have h1:IntKind.min .i64 = -9223372036854775808:=by decide
 have h2:IntKind.max .i64=9223372036854775807:=by decide
 have h:IntKind.min .i64≤n∧n≤IntKind.max .i64:=h;rw[h1,h2]at h;unfold Qx;omega
theorem VF{o:bg}(h:N5 ua o)(ht:sq o):Fit o:=by obtain⟨_,_,_,_,⟨_,_,h1⟩,⟨_,_,h2⟩,_,_,h3⟩:=h;exact⟨M8 h1,M8 h2,M8 h3,ht⟩
theorem Wf.bd{d:ak}(h:Wf d):Bd 100 d:=⟨by have:=h.nv;omega,by have:=h.ne;omega,fun v hv=>by have:=h.su v hv;omega⟩
end Go.Vs
namespace Go.Vs
def ng:List (List bg)→StateT→StateT
 |[],s=>s
 |e::r,s=>ng r (iB s e)
def pC:List (List bg)→StateT→List Bool
 |[],_=>[]
 |e::r,s=>decide ((cv s e).2.1=0)::pC r (iB s e)
theorem Yq(s:StateT):iB s []=s:=by rfl
theorem dF.all:∀(l:List (List bg)) {s:StateT},dF s→dF (ng l s)
 |[],_,h=>h
 |e::r,_,h=>dF.all r (h.try e)
theorem Bs.all:∀{l:List (List bg)} {n:Nat} {s:StateT},(∀e∈l,e.length≤8)→Bs n s→Bs (n+24*l.length) (ng l s)
 |[],_,_,_,h=>h
 |e::r,n,s,hl,h=>by have h1:Bs (n+24) (iB s e):=h.try.mono (by have:=hl e (by simp);omega);exact(Bs.all (fun e he=>hl e (by simp[he])) h1).mono (by simp;omega)
theorem La{l:List ai}{x:ID}:(aQ l x).isSome=true↔∃v∈l,v.1=x:=by
 grind [aQ,List.find?_isSome]
theorem Lb{l:List aj}{x:ID}:(aY l x).isSome=true↔∃v∈l,v.1=x:=by
 grind [aY,List.find?_isSome]
structure Gr(s t:StateT):Prop where
 v:∀x,(aQ s.1.1 x).isSome=true→(aQ t.1.1 x).isSome=true
 e:∀x,(aY s.1.2 x).isSome=true→(aY t.1.2 x).isSome=true
 nv:s.1.1.length≤t.1.1.length
 ne:s.1.2.length≤t.1.2.length
theorem Gr.rfl(s:StateT):Gr s s:=⟨fun _ h=>h,fun _ h=>h,abX _,abX _⟩
theorem Gr.trans{a b c:StateT}(h:Gr a b)(k:Gr b c):Gr a c:=⟨fun x p=>k.v x (h.v x p),fun x p=>k.e x (h.e x p),ab0 h.nv k.nv,ab0 h.ne k.ne⟩
def named(s:StateT)(o:bg):Prop:=if o.1=1 then(aQ s.1.1 (aZ o)).isSome=true else(aY s.1.2 (aZ o)).isSome=true
theorem named.up{s t:StateT}{o:bg}(h:named s o)(k:Gr s t):named t o:=by
 unfold named at h ⊢
 split
 ·rename_i h1;rw[if_pos h1]at h;exact k.v _ h
 ·rename_i h1;rw[if_neg h1]at h;exact k.e _ h
theorem OQ(d:ak)(c:qP)(x:ab):(bT d c x).1.length=d.1.length∧(bT d c x).2=d.2:=⟨jf _ _ _,rfl⟩
theorem VG{s:StateT}{o:bg}(hk:o.1=1∨o.1=3)(h:(jW s o).2.1=0):Gr s (jW s o).1∧named (jW s o).1 o:=by
 unfold jW at h ⊢;by_cases hm:cx o=0
 case neg=>rw[if_pos hm]at h;exact absurd h hm
 rw[if_neg (by simp[hm])]at h ⊢;rcases hk with h1|h3
 ·rw[if_pos h1]at h ⊢;unfold nJ at h ⊢;by_cases h2:(bj s.1 (aZ o)).isSome=true
  ·rw[if_pos h2]at h;cases h
  rw[if_neg h2]at h ⊢;by_cases h4:24≤s.1.1.length
  ·rw[if_pos h4]at h;cases h
  rw[if_neg h4];refine⟨⟨fun x hx=>?_,fun x hx=>hx,by show _≤(cU _ _).length;rw[fk];omega,abX _⟩,?_⟩
  ·rw[La]at hx ⊢;obtain⟨v,hv,e⟩:=hx;exact⟨v,jL.2 (.inr hv),e⟩
  ·unfold named;rw[if_pos h1,La];exact⟨_,jL.2 (.inl rfl),rfl⟩
 ·have n1:¬o.1=1:=by omega
  have n2:¬o.1=2:=by omega
  rw[if_neg n1,if_neg n2,if_pos h3]at h ⊢;unfold nI at h ⊢
  split at h
  ·cases h
  rename_i c1
  split at h
  ·cases h
  rename_i c2
  split at h
  ·cases h
  rename_i c3
  split at h
  ·cases h
  rename_i c4
  split at h
  ·cases h
  rename_i c5;rw[if_neg c1,if_neg c2,if_neg c3,if_neg c4,if_neg c5];have l1:(gT s o).1.length=s.1.1.length:=by unfold gT;rw[(OQ _ _ _).1,(OQ _ _ _).1]
  have l2:(gT s o).2=dv (aZ o,(e0,0)) s.1.2:=rfl;refine⟨⟨fun x hx=>?_,fun x hx=>?_,by show _≤(gT s o).1.length;omega,by show _≤(gT s o).2.length;rw[l2,ll];omega⟩,?_⟩
  ·exact xk _ (xk _ hx)
  ·show(aY (gT s o).2 x).isSome=true;rw[l2];rw[Lb]at hx ⊢;obtain⟨v,hv,e⟩:=hx;exact⟨v,o4.2 (.inr hv),e⟩
  ·unfold named;rw[if_neg n1];show(aY (gT s o).2 (aZ o)).isSome=true;rw[l2,Lb];exact⟨_,o4.2 (.inl rfl),rfl⟩
theorem Rk{s:StateT}{o:bg}(hk:o.1=1∨o.1=3)(h:named s o):(jW s o).2.1≠0:=by
 unfold jW;by_cases hm:cx o=0
 case neg=>simp_all
 rw[if_neg (by simp[hm])];unfold named at h;rcases hk with h1|h3
 ·simp_all [if_pos,nJ,bj,aZ]
 simp_all [if_neg,if_pos,nI,gN,aZ]
structure Yr(e:List bg):Prop where
 k:∀o∈e,o.1=1∨o.1=3
 n:e≠[]
theorem Iq:∀{e:List bg} {s:StateT},(∀o∈e,o.1=1∨o.1=3)→(Df e s).2.1=0→Gr s (Df e s).1∧∀o∈e,named (Df e s).1 o
 |[],s,_,_=>⟨Gr.rfl s,fun o ho=>by cases ho⟩
 |o::r,s,hk,h=>by
  unfold Df at h ⊢;by_cases h1:(jW s o).2.1=0
  case neg=>simp_all
  rw[if_neg (by simp[h1])]at h ⊢;obtain⟨g1,n1⟩:=VG (hk o (by simp)) h1;obtain⟨g2,n2⟩:=Iq (fun o ho=>hk o (by simp[ho])) h;refine⟨g1.trans g2,fun p hp=>?_⟩;rcases abM.1 hp with rfl|hp
  ·exact n1.up g2
  grind
theorem sF{s:StateT}{e:List bg}(h:(cv s e).2.1=0):cv s e=Df e s:=by
 unfold cv at h ⊢
 grind
theorem VH{s:StateT}{e:List bg}(h:(cv s e).2.1=0):iB s e=(cv s e).1:=by simp_all [iB,if_neg]
theorem Ys{s:StateT}{e:List bg}(h:(cv s e).2.1≠0):iB s e=s:=by unfold iB;rw[if_pos h]
theorem Lc{s:StateT}{e:List bg}(ha:Yr e):Gr s (iB s e):=by
 by_cases h:(cv s e).2.1=0
 ·rw[VH h,sF h];rw[sF h]at h;exact(Iq ha.k h).1
 grind [Ys,Gr.rfl]
theorem Ld:∀{l:List (List bg)} {s:StateT},(∀e∈l,Yr e)→Gr s (ng l s)
 |[],s,_=>Gr.rfl s
 |e::r,s,h=>(Lc (h e (by simp))).trans (Ld fun e he=>h e (by simp[he]))
theorem Le{s t:StateT}{e:List bg}(ha:Yr e)(h:(cv s e).2.1=0)(hg:Gr (iB s e) t):(cv t e).2.1≠0:=fun h2=>by
 rw[VH h,sF h]at hg;rw[sF h]at h;rw[sF h2]at h2;obtain⟨_,hn⟩:=Iq ha.k h
 cases e with
 |nil=>exact ha.n rfl
 |cons o r =>have h3:=Rk (ha.k o (by simp)) ((hn o (by simp)).up hg);simp_all [Df,if_pos]
theorem wj:∀{l:List (List bg)} {s t:StateT},(∀e∈l,Yr e)→Gr (ng l s) t→∀i:Nat,(pC l s)[i]? = some true→(pC l t)[i]? = some true→False
 |[],_,_,_,_,i,h,_=>by simp[pC]at h
 |e::r,s,t,ha,hg,0,h1,h2=>by simp[pC]at h1 h2;exact Le (ha e (by simp)) h1 ((Ld fun e he=>ha e (by simp[he])).trans hg) h2
 |e::r,s,t,ha,hg,i+1,h1,h2=>by have h1:(pC r (iB s e))[i]? = some true:=h1;have h2:(pC r (iB t e))[i]? = some true:=h2;exact wj (l:=r) (s:=iB s e) (t:=iB t e) (fun e he=>ha e (by simp[he])) (Gr.trans (show Gr (ng r (iB s e)) t from hg) (Lc (ha e (by simp)))) i h1 h2
end Go.Vs
namespace Go.Vs
open Go.Proofs
variable {G:(f:FuncId)→(g:aO)→Option (g.A→Option g.B)}
structure jw(l:List (List bg)):Prop where
 n:l.length≤1073741824
 e:∀e∈l,e.length≤1073741824
 f:∀e∈l,∀o∈e,Fit o
theorem jw.mem{l m:List (List bg)}(h:jw l)(hs:∀e∈m,e∈l)(hn:m.length≤1073741824):jw m:=⟨hn,fun e he=>h.e e (hs e he),fun e he=>h.f e (hs e he)⟩
theorem VI(hG:HG G)(xG:∀o,gZ G o){l:List (List bg)}(h:jw l){e:List bg}(he:e∈l)(s:StateT)(hw:dF s):FX G 62 EC ((s,e,()),())=some ((iB s e,()),()) :=ae2 hG s e hw (h.e e he) (h.f e he) fun o _=>xG o
theorem abH(hG:HG G)(xG:∀o,gZ G o){l:List (List bg)}(h:jw l){e:List bg}(he:e∈l)(s:StateT)(hw:dF s):FX G 40 Md ((s,e,()),())=some (cv s e,()) :=ae1 hG s e hw (h.e e he) (h.f e he) fun o _=>xG o
theorem VJ(hG:HG G)(xG:∀o,gZ G o)(s:StateT)(hw:dF s):FX G 62 EC ((s,[],()),())=some ((s,()),()):=by
 have:=ae2 hG s [] hw (by simp) (by simp) fun o _=>xG o
 rwa [Yq]at this
theorem af4(hG:HG G)(s:StateT)(e:List bg):FX G 36 J4 ((s,e,()),())=some ((),()):=aw (hG _ _ rfl) ad1 rfl
theorem af5(hG:HG G)(xG:∀o,gZ G o){l:List (List bg)}(h:jw l){e:List bg}(he:e∈l)(s:StateT)(hw:dF s)(p:List Bool)(hp:p.length≤1073741823) :
  FX G 39 J5 ((s,e,()),((p,()),()))=some ((),((p++[decide ((cv s e).2.1=0)],()),())):=by
 refine aw (hG _ _ rfl) ad2 ?_;refine aa (abH hG xG h he s hw) ?_;refine ae (fits (by simp;omega)) ?_;rfl
theorem VL(hG:HG G)(xG:∀o,gZ G o)(l:List (List bg))(h:jw l):∀(n i:Nat) (s:StateT),i+n=l.length→dF s → LX G 537035 k0 Tryz.f35 mK (aM Tryz.prog 35 0) ((((l.length:Nat):Int),((i:Int),())),((zW,((s,()),())),(l,())))=some ((ng (l.drop i) s,()),(l,())):=by
 intro n
 induction n with
 |zero =>intro i s hi hw;refine au C5 (af (decide_eq_false (show ¬((i:Int)<((l.length:Nat):Int)) by omega)) ?_);rw[List.drop_eq_nil_of_le (by omega)];rfl
 |succ n ih =>
  intro i s hi hw;have aK:i<l.length:=by omega
  have hm:=ab4 aK;refine au C5 (ae (aR aK) ?_);refine ae (cz (decide_eq_true (show(0:Int)≤(i:Int) by omega)) (aR aK)) (aa (abk aK) ?_);refine aa (af4 hG s l[i]) (aa (VI hG xG h hm s hw) ?_);rw[wI,aB aK h.n,List.drop_eq_getElem_cons aK,ng];exact ih (i+1) _ (by omega) (hw.try l[i])
theorem VM(hG:HG G)(xG:∀o,gZ G o)(s:StateT)(l:List (List bg))(hw:dF s)(h:jw l):FX G 500013 rU ((s,()),(l,()))=some ((ng l s,()),(l,())):=by
 refine aw (hG _ _ rfl) T3 ?_;have h1:FX G 537035 k0 ((s,()),(l,()))=some ((ng l s,()),(l,())):=by refine aw (hG _ _ rfl) T5 ?_;refine aa (VJ hG xG s hw) ?_;exact VL hG xG l h l.length 0 s (by omega) hw
 exact aa h1 rfl
theorem VN(hG:HG G)(xG:∀o,gZ G o)(l:List (List bg))(h:jw l):∀(n i:Nat) (s:StateT) (p:List Bool),i+n=l.length→p.length=i→dF s → LX G 540035 k9 Tryz.f35 mL (aM Tryz.prog 35 0) ((((l.length:Nat):Int),((i:Int),())),(((p,()),(zW,((s,()),()))),(l,())))=some ((ng (l.drop i) s,()),(l,((p++pC (l.drop i) s,()),()))):=by
 intro n
 induction n with
 |zero =>intro i s p hi hp hw;refine au C6 (af (decide_eq_false (show ¬((i:Int)<((l.length:Nat):Int)) by omega)) ?_);rw[List.drop_eq_nil_of_le (by omega),pC,List.append_nil];rfl
 |succ n ih =>
  intro i s p hi hp hw;have aK:i<l.length:=by omega
  have hm:=ab4 aK;have hn:=h.n;refine au C6 (ae (aR aK) ?_);refine ae (cz (decide_eq_true (show(0:Int)≤(i:Int) by omega)) (aR aK)) (aa (abk aK) ?_);refine aa (af5 hG xG h hm s hw p (by omega)) (aa (VI hG xG h hm s hw) ?_);rw[wI,aB aK h.n,List.drop_eq_getElem_cons aK,ng,pC];have:=ih (i+1) _ (p++[decide ((cv s l[i]).2.1=0)]) (by omega) (by simp;omega) (hw.try l[i]);rw[List.append_assoc]at this;exact this
theorem VO(hG:HG G)(xG:∀o,gZ G o)(s:StateT)(l:List (List bg))(hw:dF s)(h:jw l):FX G 500015 rW ((s,()),(l,()))=some ((pC l s,()),(l,())):=by
 refine aw (hG _ _ rfl) T4 ?_;have h1:FX G 540035 k9 ((s,()),(l,(([],()),())))=some ((ng l s,()),(l,((pC l s,()),()))):=by refine aw (hG _ _ rfl) T6 ?_;refine aa (VJ hG xG s hw) ?_;exact VN hG xG l h l.length 0 s [] (by omega) rfl hw
 exact aa h1 rfl
theorem VP(hG:HG G)(n:Int):FX G 34 CB ((n,()),())=some (([Qu 1 (1,n)],()),()):=aw (hG _ _ rfl) ad0 rfl
theorem Yt(n:Int):Fit (Qu 1 (1,n)):=⟨aa3,aa3,aa3,by show e0.size≤_;simp[e0,ByteArray.size]⟩
theorem OR(l:List (List bg))(hl:l.length≤1073741824)(h:∀e∈l,∃n:Int,e=[Qu 1 (1,n)]):jw l :=⟨hl,fun e he=>by grind,fun e he o ho=>by obtain⟨n,rfl⟩:=h e he;grind [List.mem_singleton,Yt]⟩
theorem M9:pC [[Qu 1 (1,1)],[Qu 1 (1,1)]] zS=[true,false]:=by decide
theorem af6(hG:HG G)(xG:∀o,gZ G o):FX G 9 J3 ((),())=some ((true,()),()):=by refine aw (hG _ _ rfl) adX ?_;refine aa (VP hG 1) (aa (VP hG 1) ?_);have r2:∀e∈[[Qu 1 (1,1)],[Qu 1 (1,1)]],∃n:Int,e=[Qu 1 (1,n)]:=fun e he=>⟨1,by simp_all⟩;have r1:∀e∈[[Qu 1 (1,1)]],∃n:Int,e=[Qu 1 (1,n)]:=fun e he=>⟨1,List.mem_singleton.1 he⟩;have h1:=VO hG xG zS [[Qu 1 (1,1)],[Qu 1 (1,1)]] dF.zero (OR _ (by simp) r2);rw[M9]at h1;refine aa h1 ?_;refine ae rfl (ae rfl (aa rfl (ae rfl (ae rfl (aa rfl (ae rfl ?_))))));refine aa (VP hG 1) ?_;refine aa (VM hG xG zS [[Qu 1 (1,1)]] dF.zero (OR _ (by simp) r1)) ?_;rfl
abbrev hiB(h:gR):StateT:=h.1
abbrev RF(h:gR):Int:=h.2.1
abbrev Na(h:gR):List (List bg):=h.2.2.1
def hiL(h:gR):Int:=RF h+((Na h).length:Nat)
structure VQ(m:Nat)(h:gR):Prop where
 b:dF (hiB h)
 f0:0≤RF h
 f1:hiL h≤m
 m1:m≤1000000000
 n:(Na h).length≤64
 r:jw (Na h)
theorem VQ.zero:VQ 0 (zS,(0,([],()))):=⟨dF.zero,Int.le_refl _,by decide,by decide,acg _,⟨acg _,fun e he=>(by cases he),fun e he=>(by cases he)⟩⟩
def af8(h:gR)(e:List bg):(Int×(Int×Unit))×gR :=if eU e≠0 then((0,(eU e,())),h) else if 64≤(Na h).length then((0,(20,())),h) else((hiL h+1,(0,())),(hiB h,(RF h,(Na h++[e],()))))
theorem Yu{α:Type}(l:List α):cut l 0 ((l.length:Nat):Int)=l:=by unfold cut;rw[show Int.toNat (0:Int)=0 from rfl,List.drop_zero];exact List.take_of_length_le (by omega)
theorem VQ.mono{m k:Nat}{h:gR}(ho:VQ m h)(hk:m≤k)(h1:k≤1000000000):VQ k h:=⟨ho.b,ho.f0,by have:=ho.f1;omega,h1,ho.n,ho.r⟩
theorem VQ.add{m:Nat}{h:gR}(ho:VQ m h)(hm:m<1000000000){e:List bg}(he:e.length≤1073741824)(hf:∀o∈e,Fit o):VQ (m+1) (af8 h e).2:=by
 unfold af8
 split
 ·exact ho.mono (by omega) (by omega)
 split
 ·exact ho.mono (by omega) (by omega)
 ·rename_i h1 h2;have h3:=ho.f1;have hl:hiL h=RF h+((Na h).length:Nat):=rfl;refine⟨ho.b,ho.f0,?_,by omega,?_,?_,fun p hp=>?_,fun p hp=>?_⟩
  ·show RF h+(((Na h++[e]).length:Nat):Int)≤_;simp;omega
  ·grind
  ·grind
  ·rcases abU.1 (show p∈Na h++[e] from hp) with hp|hp
   ·exact ho.r.e p hp
   simp_all
  ·rcases abU.1 (show p∈Na h++[e] from hp) with hp|hp
   ·exact ho.r.f p hp
   simp_all
def hIn(h:gR)(n:Int):Prop:=RF h≤n∧n≤hiL h
instance (h:gR) (n:Int):Decidable (hIn h n):=by unfold hIn;infer_instance
def atH(h:gR)(n:Int):StateT×(Int×Unit):=if hIn h n then(ng ((Na h).take (n-RF h).toNat) (hiB h),(0,())) else(zS,(26,()))
theorem jw.take{l:List (List bg)}(h:jw l)(n:Nat):jw (l.take n):=h.mem (fun e he=>ad9 he) (by have:=h.n;simp;omega)
theorem jw.drop{l:List (List bg)}(h:jw l)(n:Nat):jw (l.drop n):=h.mem (fun e he=>acW he) (by have:=h.n;simp;omega)
def ZI(h:gR)(n:Int):Int×gR:=if hIn h n then(0,(ng ((Na h).take (n-RF h).toNat) (hiB h),(n,((Na h).drop (n-RF h).toNat,())))) else(26,h)
theorem VQ.comp{m:Nat}{h:gR}(ho:VQ m h)(n:Int):VQ m (ZI h n).2:=by
 unfold ZI;have h1:=ho.f0;have h2:=ho.f1;have h3:=ho.n;have hl:hiL h=RF h+((Na h).length:Nat):=rfl;by_cases hi:hIn h n
 ·rw[if_pos hi];unfold hIn at hi;refine⟨dF.all _ ho.b,by grind,?_,ho.m1,?_,ho.r.drop _⟩
  ·show n+((((Na h).drop (n-RF h).toNat).length:Nat):Int)≤m
   grind
  grind
 simp_all
end Go.Vs
set_option maxRecDepth 1000000
set_option maxHeartbeats 0
namespace Go.Vs
open Go.Proofs
theorem af9{F:FT}{J:JT FZ}{x:((StateT×(StateT×Unit))×Unit)}:bJ 19 FZ Tryz.f19 F J x =(F 17 mG ((x.1.1,()),())).bind fun(y1:Te) =>(F 17 mG ((x.1.2.1,()),())).bind fun(y2:Te) =>(F 46 NF ((y1.1.1,y2.1),())).bind fun(y3:Q0) =>some (y3.1,()):=by kernel_rfl
theorem aga{F:FT}{J:JT NF}{x:(((List Int)×((List Int)×Unit))×Unit)}:bJ 46 NF Tryz.f46 F J x = some ((((strOf x.1.1)==(strOf x.1.2.1)),()),()):=by kernel_rfl
theorem agb{F:FT}{J:JT mG}{x:((StateT×Unit)×Unit)}:bJ 17 mG Tryz.f17 F J x =(F 42 lD ((x.1.1.1,()),())).bind fun(y1:Q47) =>J wW (aM Tryz.prog 17 0) ((x.1.1.2,((lI x.1.1.2),((0:Int),()))),((),(y1.1.1,()))):=by kernel_rfl
theorem OT{F:FT}{J:JT mG}{x:(((List ax)×(Int×(Int×Unit)))×(Unit×((List Int)×Unit)))}:ed 17 0 mG Tryz.f17 wW F J x = cond (decide (x.1.2.2.1<x.1.2.1)) (((aW x.1.1 x.1.2.2.1)).bind fun(y2:ax) =>J tv (aM Tryz.prog 17 1) ((x.1.1,(x.1.2.1,(x.1.2.2.1,((lI (y2.1::(y2.2::([]:List ab)))),((0:Int),()))))),((),(x.2.2.1,((y2.1::(y2.2::([]:List ab))),()))))) (some (x.2.2,())):=by kernel_rfl
theorem OU{F:FT}{J:JT mG}{x:(((List ax)×(Int×(Int×(Int×(Int×Unit)))))×(Unit×((List Int)×((List ab)×Unit))))}:ed 17 1 mG Tryz.f17 tv F J x = cond (decide (x.1.2.2.2.2.1<x.1.2.2.2.1)) (cond ((decide ((0:Int)≤x.1.2.2.2.2.1))&&(decide (x.1.2.2.2.2.1<(lI x.2.2.2.1)))) (((x.2.2.2.1)[(Int.toNat x.1.2.2.2.2.1)]?).bind fun(y3:ab) =>(F 43 F2 ((x.2.2.1,(y3.1,())),())).bind fun(y4:Te) =>cond (aL (List.length y4.1.1) (List.length ((IntKind.wrap .u8 y3.2)::([]:List Int)))) (J tv (aM Tryz.prog 17 1) ((x.1.1,(x.1.2.1,(x.1.2.2.1,(x.1.2.2.2.1,((wI (x.1.2.2.2.2.1+1)),()))))),((),((y4.1.1++((IntKind.wrap .u8 y3.2)::([]:List Int))),x.2.2.2)))) (none)) (none)) (J wW (aM Tryz.prog 17 0) ((x.1.1,(x.1.2.1,((wI (x.1.2.2.1+1)),()))),((),(x.2.2.1,())))):=by kernel_rfl
theorem agc{F:FT}{J:JT lD}{x:((ak×Unit)×Unit)}:bJ 42 lD Tryz.f42 F J x =(F 67 J7 ((x.1.1,()),())).bind fun(y1:Q2) =>cond (y1.1.1 != 0) (some ((([]:List Int),y1.1),())) (J tw (aM Tryz.prog 42 0) ((x.1.1.2,((lI x.1.1.2),((0:Int),()))),(((x.1.1,()),()),(([]:List ab),(((IntKind.wrap .u8 (lI x.1.1.2))::([]:List Int)),()))))):=by kernel_rfl
theorem OV{F:FT}{J:JT lD}{x:(((List aj)×(Int×(Int×Unit)))×(((ak×Unit)×Unit)×((List ab)×((List Int)×Unit))))}:ed 42 0 lD Tryz.f42 tw F J x = cond (decide (x.1.2.2.1<x.1.2.1)) (((aW x.1.1 x.1.2.2.1)).bind fun(y2:aj) =>(F 68 F3 ((x.2.2.2.1,(y2,())),())).bind fun(y3:Te) =>J tw (aM Tryz.prog 42 0) ((x.1.1,(x.1.2.1,((wI (x.1.2.2.1+1)),()))),(((x.2.1.1.1,()),()),((jx (.pair (.int .i64) (.int .i64)) y2.1 x.1.2.2.1 x.2.2.1),y3.1)))) (cond (aL (List.length x.2.2.2.1) (List.length ((IntKind.wrap .u8 (lI x.2.1.1.1.1))::([]:List Int)))) (J tx (aM Tryz.prog 42 1) ((x.2.1.1.1.1,((lI x.2.1.1.1.1),((0:Int),()))),((),(x.2.2.1,((x.2.2.2.1++((IntKind.wrap .u8 (lI x.2.1.1.1.1))::([]:List Int))),()))))) (none)):=by kernel_rfl
theorem OX{F:FT}{J:JT lD}{x:(((List ai)×(Int×(Int×Unit)))×(Unit×((List ab)×((List Int)×Unit))))}:ed 42 1 lD Tryz.f42 tx F J x = cond (decide (x.1.2.2.1<x.1.2.1)) (((aW x.1.1 x.1.2.2.1)).bind fun(y4:ai) =>(F 68 F3 ((x.2.2.2.1,((y4.1,y4.2.2),())),())).bind fun(y5:Te) =>cond (aL (List.length y5.1.1) (List.length ((IntKind.wrap .u8 (lI y4.2.1))::([]:List Int)))) (J wX (aM Tryz.prog 42 2) ((x.1.1,(x.1.2.1,(x.1.2.2.1,(y4.2.1,((lI y4.2.1),((0:Int),())))))),((),(x.2.2.1,((y5.1.1++((IntKind.wrap .u8 (lI y4.2.1))::([]:List Int))),()))))) (none)) (some ((x.2.2.2.1,((0:Int),())),())):=by kernel_rfl
theorem OY{F:FT}{J:JT lD}{x:(((List ai)×(Int×(Int×((List ab)×(Int×(Int×Unit))))))×(Unit×((List ab)×((List Int)×Unit))))}:ed 42 2 lD Tryz.f42 wX F J x = cond (decide (x.1.2.2.2.2.2.1<x.1.2.2.2.2.1)) (((aW x.1.2.2.2.1 x.1.2.2.2.2.2.1)).bind fun(y6:ab) =>cond (aL (List.length x.2.2.2.1) (List.length ((IntKind.wrap .u8 (wI ((Option.getD (fm (.pair (.int .i64) (.int .i64)) y6.1 x.2.2.1) (0:Int))+(wI ((128:Int)*y6.2)))))::([]:List Int)))) (J wX (aM Tryz.prog 42 2) ((x.1.1,(x.1.2.1,(x.1.2.2.1,(x.1.2.2.2.1,(x.1.2.2.2.2.1,((wI (x.1.2.2.2.2.2.1+1)),())))))),((),(x.2.2.1,((x.2.2.2.1++((IntKind.wrap .u8 (wI ((Option.getD (fm (.pair (.int .i64) (.int .i64)) y6.1 x.2.2.1) (0:Int))+(wI ((128:Int)*y6.2)))))::([]:List Int))),()))))) (none)) (J tx (aM Tryz.prog 42 1) ((x.1.1,(x.1.2.1,((wI (x.1.2.2.1+1)),()))),((),x.2.2))):=by kernel_rfl
theorem agd{F:FT}{J:JT J7}{x:((ak×Unit)×Unit)}:bJ 67 J7 Tryz.f67 F J x =(F 95 J8 ((x.1.1,()),())).bind fun(y1:Q2) =>cond (y1.1.1 != 0) (some (y1.1,())) ((F 96 zU ((x.1.1,()),())).bind fun(y2:Q0) =>cond (not y2.1.1) (some (((11:Int),()),())) (some (((0:Int),()),()))):=by kernel_rfl
theorem age{F:FT}{J:JT F3}{x:(((List Int)×(aj×Unit))×Unit)}:bJ 68 F3 Tryz.f68 F J x =(F 43 F2 ((x.1.1,(x.1.2.1.1,())),())).bind fun(y1:Te) =>(F 97 J9 ((y1.1.1,(x.1.2.1.2.1,())),())).bind fun(y2:Te) =>(F 49 uF ((y2.1.1,(x.1.2.1.2.2,())),())).bind fun(y3:Te) =>some (y3.1,()):=by kernel_rfl
theorem agf{F:FT}{J:JT J8}{x:((ak×Unit)×Unit)}:bJ 95 J8 Tryz.f95 F J x = cond (decide ((lI x.1.1.1)>24)) (some (((3:Int),()),())) (cond (decide ((lI x.1.1.2)>40)) (some (((3:Int),()),())) ((F 136134 la ((x.1.1.1,()),())).bind fun(y1:(((List ID)×Unit)×Unit)) =>(F 133 wJ (y1.1,())).bind fun(y2:Q0) =>cond (not y2.1.1) (some (((10:Int),()),())) ((F 138136 lf ((x.1.1.2,()),())).bind fun(y3:(((List ID)×Unit)×Unit)) =>(F 133 wJ (y3.1,())).bind fun(y4:Q0) =>cond (not y4.1.1) (some (((10:Int),()),())) ((F 138 lE ((x.1.1,()),())).bind fun(y5:Q0) =>cond (not y5.1.1) (some (((10:Int),()),())) ((F 141139 rX ((x.1.1,()),())).bind fun(y6:Q0) =>cond y6.1.1 (some (((4:Int),()),())) ((F 143139 rY ((x.1.1,()),())).bind fun(y7:Q0) =>cond y7.1.1 (some (((1:Int),()),())) (some (((0:Int),()),())))))))):=by kernel_rfl
theorem agh{F:FT}{J:JT uF}{x:(((List Int)×(Int×Unit))×Unit)}:bJ 49 uF Tryz.f49 F J x = cond ((decide ((0:Int)≤(wI ((lI x.1.1)+8))))&&((decide ((wI ((lI x.1.1)+8))≤1073741824))&&(decide ((wI ((lI x.1.1)+8))=(wI ((lI x.1.1)+8)))))) (cond (not (List.isEmpty (List.replicate (Int.toNat (wI ((lI x.1.1)+8))) (0:Int)))) (J qn (aM Tryz.prog 49 0) ((x.1.1,(x.1.2.1,((0:Int),()))),((),((nh x.1.1 (List.replicate (Int.toNat (wI ((lI x.1.1)+8))) (0:Int))),())))) (none)) (none):=by kernel_rfl
theorem OZ{F:FT}{J:JT uF}{x:(((List Int)×(Int×(Int×Unit)))×(Unit×((List Int)×Unit)))}:ed 49 0 uF Tryz.f49 qn F J x = cond (decide (x.1.2.2.1<8)) (cond (decide ((wI ((8:Int)*(wI ((7:Int)-x.1.2.2.1))))<0)) (none) (cond ((decide ((0:Int)≤(wI ((lI x.1.1)+x.1.2.2.1))))&&(decide ((wI ((lI x.1.1)+x.1.2.2.1))<(lI x.2.2.1)))) (((x.2.2.1)[(Int.toNat (wI ((lI x.1.1)+x.1.2.2.1)))]?).bind fun(y1:Int) =>J qn (aM Tryz.prog 49 0) ((x.1.1,(x.1.2.1,((wI (x.1.2.2.1+1)),()))),((),((List.set x.2.2.1 (Int.toNat (wI ((lI x.1.1)+x.1.2.2.1))) (IntKind.wrap .u8 (g9 .u64 (IntKind.wrap .u64 x.1.2.1) (wI ((8:Int)*(wI ((7:Int)-x.1.2.2.1))))))),())))) (none))) (some (x.2.2,())):=by kernel_rfl
theorem agi{F:FT}{J:JT J9}{x:(((List Int)×(ByteArray×Unit))×Unit)}:bJ 97 J9 Tryz.f97 F J x = cond (aL (List.length x.1.1) (List.length ((IntKind.wrap .u8 (((ByteArray.size x.1.2.1):Nat):Int))::([]:List Int)))) (cond ((not (List.isEmpty (x.1.1++((IntKind.wrap .u8 (((ByteArray.size x.1.2.1):Nat):Int))::([]:List Int)))))&&(aL (List.length (x.1.1++((IntKind.wrap .u8 (((ByteArray.size x.1.2.1):Nat):Int))::([]:List Int)))) (ByteArray.size x.1.2.1))) (some (((rr (x.1.1++((IntKind.wrap .u8 (((ByteArray.size x.1.2.1):Nat):Int))::([]:List Int))) x.1.2.1),()),())) (none)) (none):=by kernel_rfl
theorem agj{F:FT}{J:JT wJ}{x:(((List ID)×Unit)×Unit)}:bJ 133 wJ Tryz.f133 F J x = J tz (aM Tryz.prog 133 0) ((x.1.1,(x.1.1,((lI x.1.1),((0:Int),())))),((),())):=by kernel_rfl
theorem O0{F:FT}{J:JT wJ}{x:(((List ID)×((List ID)×(Int×(Int×Unit))))×(Unit×Unit))}:ed 133 0 wJ Tryz.f133 tz F J x = cond (decide (x.1.2.2.2.1<x.1.2.2.1)) (((aW x.1.2.1 x.1.2.2.2.1)).bind fun(y1:ID) =>(F 100 rh ((y1,()),())).bind fun(y2:Q0) =>cond (not y2.1.1) (some ((false,()),())) (cond (decide (x.1.2.2.2.1>0)) (((aW x.1.1 (wI (x.1.2.2.2.1-1)))).bind fun(y3:ID) =>(F 102 zX ((y3,(y1,())),())).bind fun(y4:Q2) =>cond (decide (y4.1.1≥0)) (some ((false,()),())) (J tz (aM Tryz.prog 133 0) ((x.1.1,(x.1.2.1,(x.1.2.2.1,((wI (x.1.2.2.2.1+1)),())))),((),())))) (J tz (aM Tryz.prog 133 0) ((x.1.1,(x.1.2.1,(x.1.2.2.1,((wI (x.1.2.2.2.1+1)),())))),((),()))))) (some ((true,()),())):=by kernel_rfl
theorem agk{F:FT}{J:JT lE}{x:((ak×Unit)×Unit)}:bJ 138 lE Tryz.f138 F J x = J wY (aM Tryz.prog 138 0) ((x.1.1.2,((lI x.1.1.2),((0:Int),()))),(((x.1.1,()),()),(([]:List (ab×Bool)),()))):=by kernel_rfl
theorem O2{F:FT}{J:JT lE}{x:(((List aj)×(Int×(Int×Unit)))×(((ak×Unit)×Unit)×((List (ab×Bool))×Unit)))}:ed 138 0 lE Tryz.f138 wY F J x = cond (decide (x.1.2.2.1<x.1.2.1)) (((aW x.1.1 x.1.2.2.1)).bind fun(y1:aj) =>J wY (aM Tryz.prog 138 0) ((x.1.1,(x.1.2.1,((wI (x.1.2.2.1+1)),()))),(((x.2.1.1.1,()),()),((jx (.pair (.pair (.int .i64) (.int .i64)) (.int .i64)) (y1.1,(1:Int)) true (jx (.pair (.pair (.int .i64) (.int .i64)) (.int .i64)) (y1.1,(0:Int)) true x.2.2.1)),())))) (J tB (aM Tryz.prog 138 1) ((x.2.1.1.1.1,((lI x.2.1.1.1.1),((0:Int),()))),((),x.2.2))):=by kernel_rfl
theorem O3{F:FT}{J:JT lE}{x:(((List ai)×(Int×(Int×Unit)))×(Unit×((List (ab×Bool))×Unit)))}:ed 138 1 lE Tryz.f138 tB F J x = cond (decide (x.1.2.2.1<x.1.2.1)) (((aW x.1.1 x.1.2.2.1)).bind fun(y2:ai) =>(F 167 qR ((y2.2.1,()),())).bind fun(y3:Q6) =>(F 178 z7 ((y2.2.1,y3.1),())).bind fun(y4:Q0) =>cond (not y4.1.1) (some ((false,()),())) (J tC (aM Tryz.prog 138 2) ((x.1.1,(x.1.2.1,(x.1.2.2.1,(y2.2.1,((lI y2.2.1),((0:Int),())))))),((),x.2.2)))) (some ((((lI x.2.2.1)==0),()),())):=by kernel_rfl
theorem O4{F:FT}{J:JT lE}{x:(((List ai)×(Int×(Int×((List ab)×(Int×(Int×Unit))))))×(Unit×((List (ab×Bool))×Unit)))}:ed 138 2 lE Tryz.f138 tC F J x = cond (decide (x.1.2.2.2.2.2.1<x.1.2.2.2.2.1)) (((aW x.1.2.2.2.1 x.1.2.2.2.2.2.1)).bind fun(y5:ab) =>cond (not (Option.getD (fm (.pair (.pair (.int .i64) (.int .i64)) (.int .i64)) y5 x.2.2.1) false)) (some ((false,()),())) (J tC (aM Tryz.prog 138 2) ((x.1.1,(x.1.2.1,(x.1.2.2.1,(x.1.2.2.2.1,(x.1.2.2.2.2.1,((wI (x.1.2.2.2.2.2.1+1)),())))))),((),((GQ (.pair (.pair (.int .i64) (.int .i64)) (.int .i64)) y5 x.2.2.1),()))))) (J tB (aM Tryz.prog 138 1) ((x.1.1,(x.1.2.1,((wI (x.1.2.2.1+1)),()))),((),x.2.2))):=by kernel_rfl
theorem agl{F:FT}{J:JT z7}{x:(((List ab)×((List ab)×Unit))×Unit)}:bJ 178 z7 Tryz.f178 F J x = cond ((lI x.1.1) != (lI x.1.2.1)) (some ((false,()),())) (J wZ (aM Tryz.prog 178 0) ((x.1.1,(x.1.2.1,((lI x.1.1),((0:Int),())))),((),()))):=by kernel_rfl
theorem O5{F:FT}{J:JT z7}{x:(((List ab)×((List ab)×(Int×(Int×Unit))))×(Unit×Unit))}:ed 178 0 z7 Tryz.f178 wZ F J x = cond (decide (x.1.2.2.2.1<x.1.2.2.1)) (((aW x.1.1 x.1.2.2.2.1)).bind fun(y1:ab) =>((aW x.1.2.1 x.1.2.2.2.1)).bind fun(y2:ab) =>cond (not (((y1.1.1==y2.1.1)&&(y1.1.2==y2.1.2))&&(y1.2==y2.2))) (some ((false,()),())) (J wZ (aM Tryz.prog 178 0) ((x.1.1,(x.1.2.1,(x.1.2.2.1,((wI (x.1.2.2.2.1+1)),())))),((),())))) (some ((true,()),())):=by kernel_rfl
theorem agm{F:FT}{J:JT F2}{x:(((List Int)×(ID×Unit))×Unit)}:bJ 43 F2 Tryz.f43 F J x = cond ((bp (List.length x.1.1) (0:Int) (lI x.1.1))&&(decide ((lI x.1.1)=(lI x.1.1)))) (cond (decide ((16:Int)<0)) (none) (cond (decide ((8:Int)<0)) (none) (cond (aL (List.length (cut x.1.1 (0:Int) (lI x.1.1))) (List.length ((IntKind.wrap .u8 x.1.2.1.1)::((IntKind.wrap .u8 (g9 .i64 x.1.2.1.2 (16:Int)))::((IntKind.wrap .u8 (g9 .i64 x.1.2.1.2 (8:Int)))::((IntKind.wrap .u8 x.1.2.1.2)::([]:List Int))))))) (some ((((cut x.1.1 (0:Int) (lI x.1.1))++((IntKind.wrap .u8 x.1.2.1.1)::((IntKind.wrap .u8 (g9 .i64 x.1.2.1.2 (16:Int)))::((IntKind.wrap .u8 (g9 .i64 x.1.2.1.2 (8:Int)))::((IntKind.wrap .u8 x.1.2.1.2)::([]:List Int)))))),()),())) (none)))) (none):=by kernel_rfl
theorem agn{F:FT}{J:JT F4}{x:((ByteArray×(Int×Unit))×Unit)}:bJ 140 F4 Tryz.f140 F J x =(F 141 wC ((x.1.1,()),())).bind fun(y1:Q0) =>some (((not y1.1.1),()),()):=by kernel_rfl
theorem ago{F:FT}{J:JT F5}{x:((ByteArray×(Int×Unit))×Unit)}:bJ 142 F5 Tryz.f142 F J x =(F 143 HA (x.1.2,())).bind fun(y1:Q0) =>some (((not y1.1.1),()),()):=by kernel_rfl
theorem VR{F:FT}{J:JT la}{x:(((List ai)×Unit)×Unit)}:bJ 136134 la Tryz.f134 F J x = J mM (aM Tryz.prog 134 0) ((x.1.1,((lI x.1.1),((0:Int),()))),((),(([]:List ID),()))):=by kernel_rfl
theorem D0{F:FT}{J:JT la}{x:(((List ai)×(Int×(Int×Unit)))×(Unit×((List ID)×Unit)))}:ed 136134 0 la Tryz.f134 mM F J x = cond (decide (x.1.2.2.1<x.1.2.1)) (((aW x.1.1 x.1.2.2.1)).bind fun(y1:ai) =>(F 135 Cx ((y1,()),())).bind fun(y2:((ID×Unit)×Unit)) =>cond (aL (List.length x.2.2.1) (List.length (y2.1.1::([]:List ID)))) (J mM (aM Tryz.prog 134 0) ((x.1.1,(x.1.2.1,((wI (x.1.2.2.1+1)),()))),((),((x.2.2.1++(y2.1.1::([]:List ID))),())))) (none)) (some (x.2.2,())):=by kernel_rfl
theorem VS{F:FT}{J:JT lf}{x:(((List aj)×Unit)×Unit)}:bJ 138136 lf Tryz.f136 F J x = J mN (aM Tryz.prog 136 0) ((x.1.1,((lI x.1.1),((0:Int),()))),((),(([]:List ID),()))):=by kernel_rfl
theorem D1{F:FT}{J:JT lf}{x:(((List aj)×(Int×(Int×Unit)))×(Unit×((List ID)×Unit)))}:ed 138136 0 lf Tryz.f136 mN F J x = cond (decide (x.1.2.2.1<x.1.2.1)) (((aW x.1.1 x.1.2.2.1)).bind fun(y1:aj) =>(F 137 J6 ((y1,()),())).bind fun(y2:((ID×Unit)×Unit)) =>cond (aL (List.length x.2.2.1) (List.length (y2.1.1::([]:List ID)))) (J mN (aM Tryz.prog 136 0) ((x.1.1,(x.1.2.1,((wI (x.1.2.2.1+1)),()))),((),((x.2.2.1++(y2.1.1::([]:List ID))),())))) (none)) (some (x.2.2,())):=by kernel_rfl
theorem VT{F:FT}{J:JT rX}{x:((ak×Unit)×Unit)}:bJ 141139 rX Tryz.f139 F J x =(F 14100181179 il ((x.1.1.1,()),(((),()),()))).bind fun(y1:Y2) =>cond y1.1.1 (some ((true,()),())) ((F 14100183181 iq ((x.1.1.2,()),(((),()),()))).bind fun(y2:Y2) =>some (y2.1,())):=by kernel_rfl
theorem VU{F:FT}{J:JT rY}{x:((ak×Unit)×Unit)}:bJ 143139 rY Tryz.f139 F J x =(F 14300181179 im ((x.1.1.1,()),(((),()),()))).bind fun(y1:Y2) =>cond y1.1.1 (some ((true,()),())) ((F 14300183181 ir ((x.1.1.2,()),(((),()),()))).bind fun(y2:Y2) =>some (y2.1,())):=by kernel_rfl
theorem EP{F:FT}{J:JT il}{x:(((List ai)×Unit)×((Unit×Unit)×Unit))}:bJ 14100181179 il Tryz.f179 F J x =(F 14100181203 dB (x.1,(((),()),()))).bind fun(y1:Q46) =>some (((decide (y1.1.1≥0)),()),(((),()),())):=by kernel_rfl
theorem ER{F:FT}{J:JT im}{x:(((List ai)×Unit)×((Unit×Unit)×Unit))}:bJ 14300181179 im Tryz.f179 F J x =(F 14300181203 dC (x.1,(((),()),()))).bind fun(y1:Q46) =>some (((decide (y1.1.1≥0)),()),(((),()),())):=by kernel_rfl
theorem ES{F:FT}{J:JT dB}{x:(((List ai)×Unit)×((Unit×Unit)×Unit))}:bJ 14100181203 dB Tryz.f203 F J x = J fL (aM Tryz.prog 203 0) ((x.1.1,((lI x.1.1),((0:Int),()))),((((),()),()),())):=by kernel_rfl
theorem qW{F:FT}{J:JT dB}{x:(((List ai)×(Int×(Int×Unit)))×(((Unit×Unit)×Unit)×Unit))}:ed 14100181203 0 dB Tryz.f203 fL F J x = cond (decide (x.1.2.2.1<x.1.2.1)) (((aW x.1.1 x.1.2.2.1)).bind fun(y1:ai) =>(F 14100000180 iu ((y1,()),(((),()),()))).bind fun(y2:Y2) =>cond y2.1.1 (some (x.1.2.2,(((),()),()))) (J fL (aM Tryz.prog 203 0) ((x.1.1,(x.1.2.1,((wI (x.1.2.2.1+1)),()))),((((),()),()),())))) (some (((-1:Int),()),(((),()),()))):=by kernel_rfl
theorem ET{F:FT}{J:JT dC}{x:(((List ai)×Unit)×((Unit×Unit)×Unit))}:bJ 14300181203 dC Tryz.f203 F J x = J fM (aM Tryz.prog 203 0) ((x.1.1,((lI x.1.1),((0:Int),()))),((((),()),()),())):=by kernel_rfl
theorem qX{F:FT}{J:JT dC}{x:(((List ai)×(Int×(Int×Unit)))×(((Unit×Unit)×Unit)×Unit))}:ed 14300181203 0 dC Tryz.f203 fM F J x = cond (decide (x.1.2.2.1<x.1.2.1)) (((aW x.1.1 x.1.2.2.1)).bind fun(y1:ai) =>(F 14300000180 iv ((y1,()),(((),()),()))).bind fun(y2:Y2) =>cond y2.1.1 (some (x.1.2.2,(((),()),()))) (J fM (aM Tryz.prog 203 0) ((x.1.1,(x.1.2.1,((wI (x.1.2.2.1+1)),()))),((((),()),()),())))) (some (((-1:Int),()),(((),()),()))):=by kernel_rfl
theorem EU{F:FT}{J:JT iq}{x:(((List aj)×Unit)×((Unit×Unit)×Unit))}:bJ 14100183181 iq Tryz.f181 F J x =(F 14100183204 dD (x.1,(((),()),()))).bind fun(y1:Q46) =>some (((decide (y1.1.1≥0)),()),(((),()),())):=by kernel_rfl
theorem EV{F:FT}{J:JT ir}{x:(((List aj)×Unit)×((Unit×Unit)×Unit))}:bJ 14300183181 ir Tryz.f181 F J x =(F 14300183204 dE (x.1,(((),()),()))).bind fun(y1:Q46) =>some (((decide (y1.1.1≥0)),()),(((),()),())):=by kernel_rfl
theorem EW{F:FT}{J:JT dD}{x:(((List aj)×Unit)×((Unit×Unit)×Unit))}:bJ 14100183204 dD Tryz.f204 F J x = J fN (aM Tryz.prog 204 0) ((x.1.1,((lI x.1.1),((0:Int),()))),((((),()),()),())):=by kernel_rfl
theorem qY{F:FT}{J:JT dD}{x:(((List aj)×(Int×(Int×Unit)))×(((Unit×Unit)×Unit)×Unit))}:ed 14100183204 0 dD Tryz.f204 fN F J x = cond (decide (x.1.2.2.1<x.1.2.1)) (((aW x.1.1 x.1.2.2.1)).bind fun(y1:aj) =>(F 14100000182 iw ((y1,()),(((),()),()))).bind fun(y2:Y2) =>cond y2.1.1 (some (x.1.2.2,(((),()),()))) (J fN (aM Tryz.prog 204 0) ((x.1.1,(x.1.2.1,((wI (x.1.2.2.1+1)),()))),((((),()),()),())))) (some (((-1:Int),()),(((),()),()))):=by kernel_rfl
theorem EX{F:FT}{J:JT dE}{x:(((List aj)×Unit)×((Unit×Unit)×Unit))}:bJ 14300183204 dE Tryz.f204 F J x = J fO (aM Tryz.prog 204 0) ((x.1.1,((lI x.1.1),((0:Int),()))),((((),()),()),())):=by kernel_rfl
theorem qZ{F:FT}{J:JT dE}{x:(((List aj)×(Int×(Int×Unit)))×(((Unit×Unit)×Unit)×Unit))}:ed 14300183204 0 dE Tryz.f204 fO F J x = cond (decide (x.1.2.2.1<x.1.2.1)) (((aW x.1.1 x.1.2.2.1)).bind fun(y1:aj) =>(F 14300000182 iy ((y1,()),(((),()),()))).bind fun(y2:Y2) =>cond y2.1.1 (some (x.1.2.2,(((),()),()))) (J fO (aM Tryz.prog 204 0) ((x.1.1,(x.1.2.1,((wI (x.1.2.2.1+1)),()))),((((),()),()),())))) (some (((-1:Int),()),(((),()),()))):=by kernel_rfl
theorem EY{F:FT}{J:JT iu}{x:((ai×Unit)×((Unit×Unit)×Unit))}:bJ 14100000180 iu Tryz.f180 F J x =(F 140 F4 ((x.1.1.2.2.1,(x.1.1.2.2.2,())),())).bind fun(y1:Q0) =>some (y1.1,(((),()),())):=by kernel_rfl
theorem EZ{F:FT}{J:JT iv}{x:((ai×Unit)×((Unit×Unit)×Unit))}:bJ 14300000180 iv Tryz.f180 F J x =(F 142 F5 ((x.1.1.2.2.1,(x.1.1.2.2.2,())),())).bind fun(y1:Q0) =>some (y1.1,(((),()),())):=by kernel_rfl
theorem E0{F:FT}{J:JT iw}{x:((aj×Unit)×((Unit×Unit)×Unit))}:bJ 14100000182 iw Tryz.f182 F J x =(F 140 F4 ((x.1.1.2.1,(x.1.1.2.2,())),())).bind fun(y1:Q0) =>some (y1.1,(((),()),())):=by kernel_rfl
theorem E1{F:FT}{J:JT iy}{x:((aj×Unit)×((Unit×Unit)×Unit))}:bJ 14300000182 iy Tryz.f182 F J x =(F 142 F5 ((x.1.1.2.1,(x.1.1.2.2,())),())).bind fun(y1:Q0) =>some (y1.1,(((),()),())):=by kernel_rfl
theorem agp{F:FT}{J:JT F6}{x:(((List (List bg))×((List (List bg))×Unit))×Unit)}:bJ 5 F6 Tryz.f5 F J x =(F 9 J3 ((),())).bind fun(y1:Q0) =>(F 11 uE ((x.1.1,()),())).bind fun(y2:Q17) =>(F 10 wH ((OS,y2.1),())).bind fun(y3:Q4) =>(F 11 uE (x.1.2,())).bind fun(y4:Q17) =>(F 10 wH ((OS,y4.1),())).bind fun(y5:Q4) =>(F 14 SW ((y3.1.1,(y5.1.1,())),())).bind fun(y6:Q0) =>cond y1.1.1 ((F 19 FZ ((y3.1.1,(y5.1.1,())),())).bind fun(y7:Q0) =>cond (y7.1.1==y6.1.1) ((F 17 mG ((y3.1.1,()),())).bind fun(y8:Te) =>(F 17 mG ((y5.1.1,()),())).bind fun(y9:Te) =>cond (((strOf y8.1.1)==(strOf y9.1.1))==y6.1.1) ((F 19 FZ ((y3.1.1,(y3.1.1,())),())).bind fun(qS:Q0) =>some (qS.1,())) (some ((false,()),()))) (some ((false,()),()))) (some ((false,()),())):=by kernel_rfl
end Go.Vs
namespace Go.Vs
open Go.Proofs
variable {G:(f:FuncId)→(g:aO)→Option (g.A→Option g.B)}
abbrev w8(n:Int):Int:=IntKind.wrap .u8 n
def jU(x:ID):List Int:=[w8 x.1,w8 (g9 .i64 x.2 16),w8 (g9 .i64 x.2 8),w8 x.2]
def Lf(n:Int)(i:Nat):Int:=w8 (g9 .u64 (IntKind.wrap .u64 n) (8*(7-(i:Int))))
def zg(n:Int):List Int:=(List.range 8).map (Lf n)
def Ak(s:ByteArray):List Int:=w8 ((s.size:Nat):Int)::bytesOf s
def gh(e:aj):List Int:=jU e.1++(Ak e.2.1++zg e.2.2)
theorem ZJ(hG:HG G)(b:List Int)(x:ID)(hb:b.length≤1000000):FX G 43 F2 ((b,(x,())),())=some ((b++jU x,()),()):=by
 refine aw (hG _ _ rfl) agm ?_;have ec:cut b 0 (((b.length:Nat)):Int)=b:=Yu b;refine ae (cz (show bp b.length 0 (((b.length:Nat)):Int)=true by simp[bp]) (decide_eq_true rfl)) (af rfl (af rfl (ae (fits ?_) ?_)))
 ·show(cut b 0 (((b.length:Nat)):Int)).length+4≤_;rw[ec];omega
 ·exact congrArg (fun l:List Int=>some ((l++jU x,()),())) ec
theorem agq(hG:HG G)(b:List Int)(n:Int)(hb:b.length≤1000000):FX G 49 uF ((b,(n,())),())=some ((b++zg n,()),()):=by
 refine aw (hG _ _ rfl) agh ?_;have e:wI (lI b+8)=((b.length+8:Nat):Int):=by show IntKind.wrap .i64 (((b.length:Nat):Int)+8)=_;rw[wrap_small (by omega) (by omega)];omega
 have loop:∀(m i:Nat),i+m=8→LX G 49 uF Tryz.f49 qn (aM Tryz.prog 49 0) ((b,(n,((i:Int),()))),((),(b++((List.range i).map (Lf n)++List.replicate m 0),())))=some ((b++zg n,()),()):=by
  intro m
  induction m with
  |zero =>
   intro i hi;have:i=8:=by omega
   subst this;refine au OZ (af rfl ?_);rw[List.replicate_zero,List.append_nil];rfl
  |succ m ih =>
   intro i hi;have e2:wI ((8:Int)*wI ((7:Int)-(i:Int)))=8*(7-(i:Int)):=by show IntKind.wrap .i64 (8*IntKind.wrap .i64 (7-(i:Int)))=_;rw[wrap_small (n:=7-(i:Int)) (by omega) (by omega),wrap_small (by omega) (by omega)]
   have e3:wI (lI b+(i:Int))=((b.length+i:Nat):Int):=by show IntKind.wrap .i64 (((b.length:Nat):Int)+(i:Int))=_;rw[wrap_small (by omega) (by omega)];omega
   have hal:((List.range i).map (Lf n)).length=i:=by simp
   generalize hA:(List.range i).map (Lf n)=A at hal;have hlen:(b++(A++List.replicate (m+1) (0:Int))).length=b.length+8:=by simp[hal];omega
   refine au OZ (ae (decide_eq_true (show(i:Int)<8 by omega)) (af (decide_eq_false (by rw[e2];omega)) (ae (cz (decide_eq_true (by rw[e3];omega)) (decide_eq_true ?_)) ?_)))
   ·rw[e3];show((b.length+i:Nat):Int)<(((b++(A++List.replicate (m+1) (0:Int))).length:Nat):Int);rw[hlen];omega
   ·refine aa (a:=(0:Int)) ?_ ?_
    ·show(b++(A++List.replicate (m+1) (0:Int)))[(wI (lI b+(i:Int))).toNat]? = some 0;rw[e3,Int.toNat_natCast,List.getElem?_append_right (by omega),List.getElem?_append_right (by omega),show b.length+i-b.length-A.length=0 by omega];rfl
    ·have e4:List.set (b++(A++List.replicate (m+1) (0:Int))) (wI (lI b+(i:Int))).toNat (IntKind.wrap .u8 (g9 .u64 (IntKind.wrap .u64 n) (wI ((8:Int)*wI ((7:Int)-(i:Int))))))=b++((List.range (i+1)).map (Lf n)++List.replicate m 0):=by rw[e3,e2,Int.toNat_natCast,List.set_append_right _ _ (by omega),List.set_append_right _ _ (by omega),show b.length+i-b.length-A.length=0 by omega,List.replicate_succ,List.set_cons_zero,List.range_succ,List.map_append,hA,List.append_assoc];rfl
     have ew:wI ((i:Int)+1)=((i+1:Nat):Int):=aB (n:=8) (by omega) (by omega);exact(congr (congrArg (fun(k:Int) (r:List Int)=>LX G 49 uF Tryz.f49 qn (aM Tryz.prog 49 0) ((b,(n,(k,()))),((),(r,())))) ew) e4).trans (ih (i+1) (by omega))
 refine ae (cz (decide_eq_true (by rw[e];omega)) (cz (decide_eq_true (by rw[e];omega)) (decide_eq_true rfl))) (ae ?_ ?_)
 ·show(!(List.replicate (wI (lI b+8)).toNat (0:Int)).isEmpty)=true;rw[e,Int.toNat_natCast];rfl
 ·have er:nh b (List.replicate (wI (lI b+8)).toNat (0:Int))=b++(([]:List Int)++List.replicate 8 0):=by rw[e,Int.toNat_natCast];unfold nh;rw[List.length_replicate,List.take_of_length_le (by omega),List.drop_replicate,show b.length+8-b.length=8 by omega,List.nil_append]
  exact(congrArg (fun r:List Int=>LX G 49 uF Tryz.f49 qn (aM Tryz.prog 49 0) ((b,(n,((0:Int),()))),((),(r,())))) er).trans (loop 8 0 (by omega))
theorem agr(hG:HG G)(b:List Int)(s:ByteArray)(hb:b.length+s.size≤1000000):FX G 97 J9 ((b,(s,())),())=some ((b++Ak s,()),()):=by
 refine aw (hG _ _ rfl) agi ?_;have hl:(b++[w8 ((s.size:Nat):Int)]).length=b.length+1:=by simp
 refine ae (fits (show b.length+1≤_ by omega)) (ae (cz ?_ (fits ?_)) ?_)
 ·show(!(b++[w8 ((s.size:Nat):Int)]).isEmpty)=true
  cases b<;>rfl
 ·show(b++[w8 ((s.size:Nat):Int)]).length+s.size≤_;rw[hl];omega
 ·show some ((((b++[w8 ((s.size:Nat):Int)])++bytesOf s:List Int),()),())=_;rw[List.append_assoc];rfl
theorem sG(s:ByteArray):(bytesOf s).length=s.size:=by unfold bytesOf;rw[List.length_map,Array.length_toList];rfl
theorem D2(n:Int):(zg n).length=8:=by simp[zg]
theorem GJ(s:ByteArray):(Ak s).length=s.size+1:=by show(bytesOf s).length+1=_;rw[sG]
theorem qG(e:aj):(gh e).length=e.2.1.size+13:=by unfold gh;rw[List.length_append,List.length_append,GJ,D2];show 4+_=_;omega
theorem ZK(hG:HG G)(b:List Int)(e:aj)(hb:b.length+e.2.1.size≤500000):FX G 68 F3 ((b,(e,())),())=some ((b++gh e,()),()):=by
 refine aw (hG _ _ rfl) age ?_;have l1:(b++jU e.1).length=b.length+4:=by simp[jU]
 have l2:((b++jU e.1)++Ak e.2.1).length=b.length+4+(e.2.1.size+1):=by rw[List.length_append,l1,GJ]
 refine aa (ZJ hG b e.1 (by omega)) (aa (agr hG _ e.2.1 (by rw[l1];omega)) (aa (agq hG _ e.2.2 (by rw[l2];omega)) ?_));show some (((((b++jU e.1)++Ak e.2.1)++zg e.2.2,()):List Int×Unit),())=_;rw[List.append_assoc,List.append_assoc];rfl
theorem ZL(hG:HG G)(l:List ID)(hl:l.length≤1000)(hs:l.Pairwise fun a b=>gm a b=true)(hm:∀x∈l,cF x=true):FX G 133 wJ ((l,()),())=some ((true,()),()):=by
 refine aw (hG _ _ rfl) agj ?_;have loop:∀(n i:Nat),i+n=l.length→LX G 133 wJ Tryz.f133 tz (aM Tryz.prog 133 0) ((l,(l,(((l.length:Nat):Int),((i:Int),())))),((),()))=some ((true,()),()):=by
  intro n
  induction n with
  |zero=>intro i hi;exact au O0 (af (decide_eq_false (show ¬((i:Int)<((l.length:Nat):Int)) by omega)) rfl)
  |succ n ih =>
   intro i hi;have aK:i<l.length:=by omega
   have hx:l[i]? = some l[i]:=abk aK;have ih:=ih (i+1) (by omega);have ew:=aB aK (by omega);refine au O0 (ae (aR aK) (aa (aG hx) (aa (Mv (hG _ _ rfl) _) (af (show(!cF l[i])=false by rw[hm _ (List.getElem_mem aK)];rfl) ?_))));by_cases h0:i=0
   ·refine af (decide_eq_false (show ¬((i:Int)>0) by omega)) ?_;rw[wI,ew];exact ih
   ·have hy:l[i-1]? = some l[i-1]:=abk (by omega);have e2:aW l (IntKind.wrap .i64 ((i:Int)-1))=some l[i-1]:=by rw[Yk (by omega) aK (by omega)];exact aG hy
    have h3:=(lQ l[i-1] l[i]).2 (aed.1 hs (i-1) i (by omega) aK (by omega));refine ae (decide_eq_true (show((i:Int)>0) by omega)) (aa e2 (aa (Oa hG _ _) (af (decide_eq_false (show ¬(rj l[i-1] l[i]≥0) by omega)) ?_)));rw[wI,ew];exact ih
 exact loop l.length 0 (by omega)
theorem ags(hG:HG G)(v:ai):FX G 135 Cx ((v,()),())=some ((v.1,()),()):=aw (hG _ _ rfl) Y9 rfl
theorem agt(hG:HG G)(v:aj):FX G 137 J6 ((v,()),())=some ((v.1,()),()):=aw (hG _ _ rfl) ad3 rfl
theorem VV(hG:HG G)(l:List ai)(hl:l.length≤1000):FX G 136134 la ((l,()),())=some ((l.map (·.1),()),()):=by refine aw (hG _ _ rfl) VR ?_;exact br l (fun i (s:List ID)=>LX G 136134 la Tryz.f134 mM (aM Tryz.prog 134 0) ((l,(((l.length:Nat):Int),(i,()))),((),(s,())))) (fun r s=>((s++r.map (·.1),()),())) (fun m s=>s.length+m≤1000) (fun s _=>by refine au D0 (af (cK _) ?_);simp only[List.map_nil,List.append_nil];rfl) (fun i x r s hi hx xF hk ih=>by refine au D0 (ae (aR hi) (aa (aG hx) (aa (ags hG x) (ae (fits (by simp;omega)) ?_))));rw[wI,aB hi (by omega)];refine(ih (s++[x.1]) (by simp;omega)).trans ?_;simp) [] (by simpa using hl)
theorem VW(hG:HG G)(l:List aj)(hl:l.length≤1000):FX G 138136 lf ((l,()),())=some ((l.map (·.1),()),()):=by refine aw (hG _ _ rfl) VS ?_;exact br l (fun i (s:List ID)=>LX G 138136 lf Tryz.f136 mN (aM Tryz.prog 136 0) ((l,(((l.length:Nat):Int),(i,()))),((),(s,())))) (fun r s=>((s++r.map (·.1),()),())) (fun m s=>s.length+m≤1000) (fun s _=>by refine au D1 (af (cK _) ?_);simp only[List.map_nil,List.append_nil];rfl) (fun i x r s hi hx xF hk ih=>by refine au D1 (ae (aR hi) (aa (aG hx) (aa (agt hG x) (ae (fits (by simp;omega)) ?_))));rw[wI,aB hi (by omega)];refine(ih (s++[x.1]) (by simp;omega)).trans ?_;simp) [] (by simpa using hl)
theorem agu(hG:HG G)(l:List ab)(hl:l.length≤1000):FX G 178 z7 ((l,l,()),())=some ((true,()),()):=by
 refine aw (hG _ _ rfl) agl ?_;refine af (show((((l.length:Nat):Int)) != ((l.length:Nat):Int))=false by simp) ?_;have loop:∀(n i:Nat),i+n=l.length→LX G 178 z7 Tryz.f178 wZ (aM Tryz.prog 178 0) ((l,(l,(((l.length:Nat):Int),((i:Int),())))),((),()))=some ((true,()),()):=by
  intro n
  induction n with
  |zero=>intro i hi;exact au O5 (af (decide_eq_false (show ¬((i:Int)<((l.length:Nat):Int)) by omega)) rfl)
  |succ n ih =>
   intro i hi;have aK:i<l.length:=by omega
   have hx:=aG (abk aK);refine au O5 (ae (aR aK) (aa hx (aa hx (af (by simp) ?_))));rw[wI,aB aK (by omega)];exact ih (i+1) (by omega)
 exact loop l.length 0 (by omega)
structure Left(es:List (ab×Bool))(rem:List ab):Prop where
 p:(es.map (·.1)).Perm rem
 t:∀e∈es,e.2=true
theorem Left.get{es:List (ab×Bool)}{x:ab}{rem:List ab}(h:Left es (x::rem)):(Option.getD (fm bf x es) false)=true:=by
 rw[MP];have hx:x∈es.map (·.1):=h.p.mem_iff.2 (by simp);have key:∀{l:List (ab×Bool)},(∀e∈l,e.2=true)→x∈l.map (·.1)→fa x l=some true:=by
  intro l
  induction l with
  |nil=>intro _ h;simp at h
  |cons e r ih =>
   intro h1 h2;rw[fa];by_cases he:e.1=x
   ·rw[if_pos he,h1 e (by simp)]
   ·rw[if_neg he];refine ih (fun q hq=>h1 q (by simp[hq])) ?_;simp only[List.map_cons,List.mem_cons]at h2;exact h2.resolve_left fun k=>he k.symm
 rw[key h.t hx];rfl
theorem Left.del{es:List (ab×Bool)}{x:ab}{rem:List ab}(h:Left es (x::rem)):Left (GQ bf x es) rem:=by
 have hx:x∈es.map (·.1):=h.p.mem_iff.2 (by simp);unfold GQ
 split
 ·rename_i i hi;rw[DP]at hi;obtain⟨aK,h1,_⟩:=acX.1 hi;have h1:es[i].1=x:=of_decide_eq_true h1;refine⟨?_,fun e he=>h.t e (List.mem_of_mem_eraseIdx he)⟩;have h2:es.Perm (es[i]::es.eraseIdx i):=by
   rw[List.eraseIdx_eq_take_drop_succ]
   conv=>lhs;rw[←List.take_append_drop i es,List.drop_eq_getElem_cons aK]
   exact List.perm_middle
  have h3:=(h2.map (·.1)).symm.trans h.p;rw[List.map_cons,h1]at h3;exact h3.cons_inv
 ·rename_i hi;rw[DP,List.findIdx?_eq_none_iff]at hi;obtain⟨e,he,h1⟩:=abW.1 hx;have:=hi e he;simp[h1]at this
theorem xw:∀l:List aj,(ends l).length=2*l.length
 |[]=>rfl
 |e::r=>by rw[fV];simp[xw r];omega
def tr(es:List ab):List (ab×Bool):=es.map fun x=>(x,true)
theorem O6(es:List ab):(tr es).map (·.1)=es:=by unfold tr;rw[List.map_map,show((fun e:ab×Bool=>e.1) ∘ fun x=>(x,true))=id from rfl,List.map_id]
theorem abI(a b:List ab):tr (a++b)=tr a++tr b:=List.map_append
theorem O7(x:ab)(es:List ab)(h:x∉es):jx bf x true (tr es)=tr (es++[x]):=by rw[abI];exact KZ true (by rw[O6];exact h)
theorem agv(hG:HG G)(d:ak)(h:Wf d):FX G 138 lE ((d,()),())=some ((true,()),()):=by
 have Nn:=h.nv;have bw:=h.ne;have hen:=xw d.2;have Kc:(an d.1).length≤80:=by rw[h.pd.length_eq,hen];omega
 refine aw (hG _ _ rfl) agk ?_;have Ks:∀es,Left es (an d.1)→LX G 138 lE Tryz.f138 tB (aM Tryz.prog 138 1) ((d.1,(((d.1.length:Nat):Int),((0:Int),()))),((),(es,())))=some ((true,()),()):=by
  intro es hes;exact br d.1 (fun i (s:List (ab×Bool)×List ai)=>LX G 138 lE Tryz.f138 tB (aM Tryz.prog 138 1) ((d.1,(((d.1.length:Nat):Int),(i,()))),((),(s.1,())))) (fun r s=>((true,()),())) (fun m s=>Left s.1 (an s.2)∧s.2.length=m∧∃p,p++s.2=d.1) (fun s hs=>by
    obtain⟨h1,h2,_⟩:=hs;have h3:s.2=[]:=abS h2;rw[h3]at h1;have h4:s.1=[]:=by have:=h1.p.length_eq;simpa[an] using this
    refine au O3 (af (cK _) ?_);rw[h4];rfl)
   (fun i v r s hi hv xF hk ih=>by
    obtain⟨h1,h2,p,hp⟩:=hk;have Wc:p.length=i:=by have:=congrArg List.length hp;rw[List.length_append]at this;omega
    obtain⟨s1,s2⟩:=s
    cases s2 with
    |nil=>simp at h2
    |cons v' r' =>
     have AK:v'=v:=by have:=hv;rw[←hp,List.getElem?_append_right (by omega),Wc,Nat.sub_self]at this;simpa using this
     subst AK;have hm:v'∈d.1:=ab3 hv;have ht:=(h.gv v' hm).t;have P3:v'.2.1.length≤80:=by
      have:v'.2.1.length≤(an d.1).length:=by rw[←hp,kr,eI];simp;omega
      omega
     refine au O3 (ae (aR hi) (aa (aG hv) (aa (Dn hG _ (by omega)) ?_)));rw[ht];refine aa (agu hG _ (by omega)) (af rfl ?_);have ew:=aB hi (by omega);have abJ:∀es,Left es (v'.2.1++an r')→LX G 138 lE Tryz.f138 tC (aM Tryz.prog 138 2) ((d.1,(((d.1.length:Nat):Int),((i:Int),(v'.2.1,(((v'.2.1.length:Nat):Int),((0:Int),())))))),((),(es,())))=some ((true,()),()):=by
      intro es hes;exact br v'.2.1 (fun k (s:List (ab×Bool)×List ab)=>LX G 138 lE Tryz.f138 tC (aM Tryz.prog 138 2) ((d.1,(((d.1.length:Nat):Int),((i:Int),(v'.2.1,(((v'.2.1.length:Nat):Int),(k,())))))),((),(s.1,())))) (fun r s=>((true,()),())) (fun m s=>Left s.1 (s.2++an r')∧s.2.length=m∧∃p,p++s.2=v'.2.1) (fun s hs=>by obtain⟨h5,h6,_⟩:=hs;have h7:s.2=[]:=abS h6;rw[h7,List.nil_append]at h5;refine au O4 (af (cK _) ?_);rw[wI,ew];exact ih (s.1,r') ⟨h5,by simp at h2;omega,p++[v'],by simpa using hp⟩) (fun k x q s hk hx hqq hh ih2=>by
        obtain⟨h5,h6,p2,hp2⟩:=hh;have alR:p2.length=k:=by have:=congrArg List.length hp2;rw[List.length_append]at this;omega
        obtain⟨s1,s2⟩:=s
        cases s2 with
        |nil=>simp at h6
        |cons x' q' =>
         have WN:x'=x:=by have:=hx;rw[←hp2,List.getElem?_append_right (by omega),alR,Nat.sub_self]at this;simpa using this
         subst WN;refine au O4 (ae (aR hk) (aa (aG hx) (af ?_ ?_)))
         ·show(!(Option.getD (fm bf x' s1) false))=false;rw[Left.get h5];rfl
         ·rw[wI,aB hk (by omega)];exact ih2 (GQ bf x' s1,q') ⟨Left.del h5,by simp at h6;omega,p2++[x'],by simpa using hp2⟩)
       (es,v'.2.1) ⟨hes,rfl,[],rfl⟩
     exact abJ s1 (by rw[eI]at h1;exact h1))
   (es,d.1) ⟨hes,rfl,[],rfl⟩
 have Et:=vD h.se;exact br d.2 (fun i (s:List (ab×Bool))=>LX G 138 lE Tryz.f138 wY (aM Tryz.prog 138 0) ((d.2,(((d.2.length:Nat):Int),(i,()))),(((d,()),()),(s,())))) (fun r s=>((true,()),())) (fun m s=>∃p,s=tr (ends p)∧∃r,p++r=d.2∧r.length=m) (fun s hs=>by
   obtain⟨p,rfl,r,hp,hr⟩:=hs;have h0:r=[]:=abS hr;rw[h0,List.append_nil]at hp;subst hp;refine au O2 (af (cK _) ?_);refine Ks _ ⟨?_,fun e he=>?_⟩
   ·rw[O6];exact h.pd.symm
   ·obtain⟨x,_,rfl⟩:=abW.1 he;rfl)
  (fun i e r s hi he xF hk ih=>by
   obtain⟨p,rfl,q,hp,hq⟩:=hk;have Wc:p.length=i:=by have:=congrArg List.length hp;rw[List.length_append]at this;omega
   cases q with
   |nil=>simp at hq
   |cons e' q' =>
    have Nm:e'=e:=by have:=he;rw[←hp,List.getElem?_append_right (by omega),Wc,Nat.sub_self]at this;simpa using this
    subst Nm;refine au O2 (ae (aR hi) (aa (aG he) ?_));rw[wI,aB hi (by omega)];rw[←hp,KC,fV]at Et;obtain⟨_,h6,h7⟩:=acf.1 Et;have e0:ends (p++[e'])=(ends p++[(e'.1,0)])++[(e'.1,1)]:=by rw[KC,fV,show ends []=[] from rfl,List.append_assoc];rfl
    have m1:=O7 (e'.1,0) (ends p) fun k=>h7 _ k _ (by simp) rfl;have m2:=O7 (e'.1,1) (ends p++[(e'.1,0)]) fun k=>by
     rcases abU.1 k with k|k
     ·exact h7 _ k _ (by simp) rfl
     ·simp at k
    rw[←e0]at m2;have:=ih (tr (ends (p++[e']))) ⟨p++[e'],rfl,q',by simpa using hp,by simp at hq;omega⟩;rw[←m2,←m1]at this;exact this)
  [] ⟨[],rfl,d.2,rfl,rfl⟩
theorem ZM(hG:HG G)(s:ByteArray)(n:Int)(hs:s.size≤100000000):FX G 140 F4 ((s,(n,())),())=some ((!kj s,()),()):=aw (hG _ _ rfl) agn (aa (aeP (hG _ _ rfl) s hs) rfl)
theorem ZN(hG:HG G)(s:ByteArray)(n:Int):FX G 142 F5 ((s,(n,())),())=some ((!jJ n,()),()):=aw (hG _ _ rfl) ago (aa (aeQ (hG _ _ rfl) n) rfl)
theorem E2(hG:HG G)(v:ai)(h:kj v.2.2.1=true):FX G 14100000180 iu ((v,()),(((),()),()))=some ((false,()),(((),()),())):=by refine aw (hG _ _ rfl) EY (aa (ZM hG v.2.2.1 v.2.2.2 (by have:=yS h;omega)) ?_);show some (((!kj v.2.2.1,()):Bool×Unit),_)=_;rw[h];rfl
theorem E3(hG:HG G)(l:List ai)(hl:l.length≤1000)(h:∀v∈l,kj v.2.2.1=true):FX G 14100181203 dB ((l,()),(((),()),()))=some (((-1:Int),()),(((),()),())):=by
 refine aw (hG _ _ rfl) ES ?_;have loop:∀(n i:Nat),i+n=l.length→LX G 14100181203 dB Tryz.f203 fL (aM Tryz.prog 203 0) ((l,(((l.length:Nat):Int),((i:Int),()))),((((),()),()),()))=some (((-1:Int),()),(((),()),())):=by
  intro n
  induction n with
  |zero=>intro i hi;exact au qW (af (decide_eq_false (show ¬((i:Int)<((l.length:Nat):Int)) by omega)) rfl)
  |succ n ih =>
   intro i hi;have aK:i<l.length:=by omega
   refine au qW (ae (aR aK) (aa (aG (abk aK)) (aa (E2 hG _ (h _ (ab4 aK))) (af rfl ?_))));rw[wI,aB aK (by omega)];exact ih (i+1) (by omega)
 exact loop l.length 0 (by omega)
theorem E4(hG:HG G)(l:List ai)(hl:l.length≤1000)(h:∀v∈l,kj v.2.2.1=true):FX G 14100181179 il ((l,()),(((),()),()))=some ((false,()),(((),()),())):=aw (hG _ _ rfl) EP (aa (E3 hG l hl h) rfl)
theorem E5(hG:HG G)(v:aj)(h:kj v.2.1=true):FX G 14100000182 iw ((v,()),(((),()),()))=some ((false,()),(((),()),())):=by refine aw (hG _ _ rfl) E0 (aa (ZM hG v.2.1 v.2.2 (by have:=yS h;omega)) ?_);show some (((!kj v.2.1,()):Bool×Unit),_)=_;rw[h];rfl
theorem E6(hG:HG G)(l:List aj)(hl:l.length≤1000)(h:∀v∈l,kj v.2.1=true):FX G 14100183204 dD ((l,()),(((),()),()))=some (((-1:Int),()),(((),()),())):=by
 refine aw (hG _ _ rfl) EW ?_;have loop:∀(n i:Nat),i+n=l.length→LX G 14100183204 dD Tryz.f204 fN (aM Tryz.prog 204 0) ((l,(((l.length:Nat):Int),((i:Int),()))),((((),()),()),()))=some (((-1:Int),()),(((),()),())):=by
  intro n
  induction n with
  |zero=>intro i hi;exact au qY (af (decide_eq_false (show ¬((i:Int)<((l.length:Nat):Int)) by omega)) rfl)
  |succ n ih =>
   intro i hi;have aK:i<l.length:=by omega
   refine au qY (ae (aR aK) (aa (aG (abk aK)) (aa (E5 hG _ (h _ (ab4 aK))) (af rfl ?_))));rw[wI,aB aK (by omega)];exact ih (i+1) (by omega)
 exact loop l.length 0 (by omega)
theorem E7(hG:HG G)(l:List aj)(hl:l.length≤1000)(h:∀v∈l,kj v.2.1=true):FX G 14100183181 iq ((l,()),(((),()),()))=some ((false,()),(((),()),())):=aw (hG _ _ rfl) EU (aa (E6 hG l hl h) rfl)
theorem VX(hG:HG G)(d:ak)(h1:d.1.length≤1000)(h2:d.2.length≤1000)(hv:∀v∈d.1,kj v.2.2.1=true)(he:∀v∈d.2,kj v.2.1=true):FX G 141139 rX ((d,()),())=some ((false,()),()) :=aw (hG _ _ rfl) VT (aa (E4 hG d.1 h1 hv) (af rfl (aa (E7 hG d.2 h2 he) rfl)))
theorem E8(hG:HG G)(v:ai)(h:jJ v.2.2.2=true):FX G 14300000180 iv ((v,()),(((),()),()))=some ((false,()),(((),()),())):=by refine aw (hG _ _ rfl) EZ (aa (ZN hG v.2.2.1 v.2.2.2) ?_);show some (((!jJ v.2.2.2,()):Bool×Unit),_)=_;rw[h];rfl
theorem E9(hG:HG G)(l:List ai)(hl:l.length≤1000)(h:∀v∈l,jJ v.2.2.2=true):FX G 14300181203 dC ((l,()),(((),()),()))=some (((-1:Int),()),(((),()),())):=by
 refine aw (hG _ _ rfl) ET ?_;have loop:∀(n i:Nat),i+n=l.length→LX G 14300181203 dC Tryz.f203 fM (aM Tryz.prog 203 0) ((l,(((l.length:Nat):Int),((i:Int),()))),((((),()),()),()))=some (((-1:Int),()),(((),()),())):=by
  intro n
  induction n with
  |zero=>intro i hi;exact au qX (af (decide_eq_false (show ¬((i:Int)<((l.length:Nat):Int)) by omega)) rfl)
  |succ n ih =>
   intro i hi;have aK:i<l.length:=by omega
   refine au qX (ae (aR aK) (aa (aG (abk aK)) (aa (E8 hG _ (h _ (ab4 aK))) (af rfl ?_))));rw[wI,aB aK (by omega)];exact ih (i+1) (by omega)
 exact loop l.length 0 (by omega)
theorem Fa(hG:HG G)(l:List ai)(hl:l.length≤1000)(h:∀v∈l,jJ v.2.2.2=true):FX G 14300181179 im ((l,()),(((),()),()))=some ((false,()),(((),()),())):=aw (hG _ _ rfl) ER (aa (E9 hG l hl h) rfl)
theorem Fb(hG:HG G)(v:aj)(h:jJ v.2.2=true):FX G 14300000182 iy ((v,()),(((),()),()))=some ((false,()),(((),()),())):=by refine aw (hG _ _ rfl) E1 (aa (ZN hG v.2.1 v.2.2) ?_);show some (((!jJ v.2.2,()):Bool×Unit),_)=_;rw[h];rfl
theorem Fc(hG:HG G)(l:List aj)(hl:l.length≤1000)(h:∀v∈l,jJ v.2.2=true):FX G 14300183204 dE ((l,()),(((),()),()))=some (((-1:Int),()),(((),()),())):=by
 refine aw (hG _ _ rfl) EX ?_;have loop:∀(n i:Nat),i+n=l.length→LX G 14300183204 dE Tryz.f204 fO (aM Tryz.prog 204 0) ((l,(((l.length:Nat):Int),((i:Int),()))),((((),()),()),()))=some (((-1:Int),()),(((),()),())):=by
  intro n
  induction n with
  |zero=>intro i hi;exact au qZ (af (decide_eq_false (show ¬((i:Int)<((l.length:Nat):Int)) by omega)) rfl)
  |succ n ih =>
   intro i hi;have aK:i<l.length:=by omega
   refine au qZ (ae (aR aK) (aa (aG (abk aK)) (aa (Fb hG _ (h _ (ab4 aK))) (af rfl ?_))));rw[wI,aB aK (by omega)];exact ih (i+1) (by omega)
 exact loop l.length 0 (by omega)
theorem Fe(hG:HG G)(l:List aj)(hl:l.length≤1000)(h:∀v∈l,jJ v.2.2=true):FX G 14300183181 ir ((l,()),(((),()),()))=some ((false,()),(((),()),())):=aw (hG _ _ rfl) EV (aa (Fc hG l hl h) rfl)
theorem VY(hG:HG G)(d:ak)(h1:d.1.length≤1000)(h2:d.2.length≤1000)(hv:∀v∈d.1,jJ v.2.2.2=true)(he:∀v∈d.2,jJ v.2.2=true):FX G 143139 rY ((d,()),())=some ((false,()),()) :=aw (hG _ _ rfl) VU (aa (Fa hG d.1 h1 hv) (af rfl (aa (Fe hG d.2 h2 he) rfl)))
theorem agw(hG:HG G)(d:ak)(h:Wf d):FX G 95 J8 ((d,()),())=some (((0:Int),()),()):=by have Nn:=h.nv;have bw:=h.ne;obtain⟨n1,n2,n3,n4⟩:=Vv h;refine aw (hG _ _ rfl) agf ?_;refine af (decide_eq_false (show ¬(((d.1.length:Nat):Int)>24) by omega)) (af (decide_eq_false (show ¬(((d.2.length:Nat):Int)>40) by omega)) ?_);refine aa (VV hG d.1 (by omega)) (aa (ZL hG _ (by rw[List.length_map];omega) n1 n2) (af rfl ?_));refine aa (VW hG d.2 (by omega)) (aa (ZL hG _ (by rw[List.length_map];omega) n3 n4) (af rfl ?_));refine aa (agv hG d h) (af rfl (aa (VX hG d (by omega) (by omega) (fun v hv=>(h.gv v hv).l) fun v hv=>(h.ge v hv).l) (af rfl ?_)));exact aa (VY hG d (by omega) (by omega) (fun v hv=>(h.gv v hv).a) fun v hv=>(h.ge v hv).a) (af rfl rfl)
theorem agx(hG:HG G)(hp:sD G)(d:ak)(h:Wf d)(hg:bP d=0):FX G 67 J7 ((d,()),())=some (((0:Int),()),()):=by refine aw (hG _ _ rfl) agd (aa (agw hG d h) (af rfl ?_));refine aa (hp d h) (af ?_ rfl);show(!decide (bP d=0))=false;rw[decide_eq_true hg];rfl
def cq:List aj→Nat→List (ID×Int)
 |[],_=>[]
 |e::r,i=>(e.1,(i:Int))::cq r (i+1)
theorem D3:∀(a b:List aj) (i:Nat),cq (a++b) i=cq a i++cq b (i+a.length)
 |[],_,_=>rfl
 |e::r,b,i=>by rw[List.cons_append,cq,cq,D3 r b (i+1),List.length_cons,List.cons_append,show i+1+r.length=i+(r.length+1) by omega]
theorem Al:∀(l:List aj) (i:Nat),(cq l i).map (·.1)=l.map (·.1)
 |[],_=>rfl
 |e::r,i=>by rw[cq,List.map_cons,List.map_cons,Al r]
theorem Nb{α:Type}(x:ID)(es:List (ID×α)):rq fZ x es=es.findIdx? fun e=>decide (e.1=x):=by
 show List.findIdx? (fun e:ID×α=>((x.1==e.1.1)&&(x.2==e.1.2))) es=_;congr 1;funext e;rw[lh x e.1];by_cases h:x=e.1
 ·rw[decide_eq_true h,decide_eq_true h.symm]
 ·rw[decide_eq_false h,decide_eq_false (fun k=>h k.symm)]
theorem abK{α:Type}{x:ID}(v:α){es:List (ID×α)}(h:x∉es.map (·.1)):jx fZ x v es=es++[(x,v)]:=by
 have e:rq fZ x es=none:=by rw[Nb,List.findIdx?_eq_none_iff];intro q hq;exact decide_eq_false fun k=>h (abW.2 ⟨q,hq,k⟩)
 unfold jx
 split
 ·rename_i i k;rw[e]at k;cases k
 ·rfl
def D4(pl:List (ID×Int))(y:ab):Int:=w8 (wI ((Option.getD (fm fZ y.1 pl) (0:Int))+(wI ((128:Int)*y.2))))
def pG(pl:List (ID×Int))(v:ai):List Int:=gh (v.1,v.2.2)++(w8 ((v.2.1.length:Nat):Int)::v.2.1.map (D4 pl))
def D5(d:ak):List Int:=w8 ((d.2.length:Nat):Int)::(d.2.flatMap gh++(w8 ((d.1.length:Nat):Int)::d.1.flatMap (pG (cq d.2 0))))
def pH(g:ax):List Int:=jU g.1.1++(w8 g.1.2::(jU g.2.1++[w8 g.2.2]))
def kD(s:StateT):List Int:=D5 s.1++s.2.flatMap pH
theorem tV{s:ByteArray}(h:kj s=true):s.size≤16:=yS h
theorem agy(hG:HG G)(hp:sD G)(d:ak)(h:Wf d)(hg:bP d=0):FX G 42 lD ((d,()),())=some ((D5 d,((0:Int),())),()):=by
 have Nn:=h.nv;have bw:=h.ne;have Kc:(an d.1).length≤80:=by rw[h.pd.length_eq,xw];omega
 have agz:∀v∈d.1,v.2.1.length≤80:=fun v hv=>by obtain⟨a,b,he⟩:=acb hv;rw[he,kr,eI]at Kc;simp at Kc;omega
 refine aw (hG _ _ rfl) agc (aa (agx hG hp d h hg) (af rfl ?_));have Ks:∀b:List Int,b.length≤20000→LX G 42 lD Tryz.f42 tx (aM Tryz.prog 42 1) ((d.1,(((d.1.length:Nat):Int),((0:Int),()))),((),(cq d.2 0,(b,()))))=some ((b++d.1.flatMap (pG (cq d.2 0)),((0:Int),())),()):=by
  intro b hb;exact br d.1 (fun i (s:List Int)=>LX G 42 lD Tryz.f42 tx (aM Tryz.prog 42 1) ((d.1,(((d.1.length:Nat):Int),(i,()))),((),(cq d.2 0,(s,()))))) (fun r s=>((s++r.flatMap (pG (cq d.2 0)),((0:Int),())),())) (fun m s=>s.length+m*200≤40000) (fun s hs=>by refine au OX (af (cK _) ?_);simp only[List.flatMap_nil,List.append_nil]) (fun i v r s hi hv xF hk ih=>by
    have hm:v∈d.1:=ab3 hv;have iH:=tV (h.gv v hm).l;have P3:=agz v hm;have l1:(s++gh (v.1,v.2.2)).length=s.length+(v.2.2.1.size+13):=by rw[List.length_append,qG]
    refine au OX (ae (aR hi) (aa (aG hv) (aa (ZK hG s (v.1,v.2.2) (by show s.length+v.2.2.1.size≤_;omega)) (ae (fits ?_) ?_))))
    ·show(s++gh (v.1,v.2.2)).length+1≤_;rw[l1];omega
    have ew:=aB hi (by omega);have abJ:=br v.2.1 (fun k (q:List Int)=>LX G 42 lD Tryz.f42 wX (aM Tryz.prog 42 2) ((d.1,(((d.1.length:Nat):Int),((i:Int),(v.2.1,(((v.2.1.length:Nat):Int),(k,())))))),((),(cq d.2 0,(q,()))))) (fun r' q=>(((q++r'.map (D4 (cq d.2 0)))++r.flatMap (pG (cq d.2 0)),((0:Int),())),())) (fun m q=>q.length+m=s.length+(v.2.2.1.size+14)+v.2.1.length) (fun q hq=>by refine au OY (af (cK _) ?_);rw[wI,ew];refine(ih q (by omega)).trans ?_;simp only[List.map_nil,List.append_nil]) (fun k x r' q vu hx hqq hh ih2=>by refine au OY (ae (aR vu) (aa (aG hx) (ae (fits (show q.length+1≤_ by omega)) ?_)));rw[wI,aB vu (by omega)];refine(ih2 (q++[D4 (cq d.2 0) x]) (by simp;omega)).trans ?_;simp only[List.map_cons,List.append_assoc,List.singleton_append,List.cons_append,List.nil_append]) ((s++gh (v.1,v.2.2))++[w8 ((v.2.1.length:Nat):Int)]) (by rw[List.length_append,l1];simp;omega);refine abJ.trans ?_;simp only[List.flatMap_cons,pG,List.append_assoc,List.singleton_append,List.cons_append,List.nil_append])
   b (by omega)
 have hse:=h.se;have key:=br d.2 (fun i (s:List aj×List Int)=>LX G 42 lD Tryz.f42 tw (aM Tryz.prog 42 0) ((d.2,(((d.2.length:Nat):Int),(i,()))),(((d,()),()),(cq s.1 0,(s.2,()))))) (fun r s=>(((s.2++r.flatMap gh)++(w8 ((d.1.length:Nat):Int)::d.1.flatMap (pG (cq d.2 0))),((0:Int),())),())) (fun m s=>s.2.length+m*50≤10000∧∃r,s.1++r=d.2∧r.length=m) (fun s hs=>by obtain⟨h1,r,h2,h3⟩:=hs;have h0:r=[]:=abS h3;rw[h0,List.append_nil]at h2;refine au OV (af (cK _) (ae (fits (show s.2.length+1≤_ by omega)) ?_));rw[h2];refine(Ks (s.2++[w8 ((d.1.length:Nat):Int)]) (by simp;omega)).trans ?_;simp only[List.flatMap_nil,List.append_nil,List.append_assoc,List.singleton_append,List.cons_append,List.nil_append];rfl) (fun i e r s hi he xF hk ih=>by
   obtain⟨p,b⟩:=s;obtain⟨h1,q,hq,hql⟩:=hk;have hq:p++q=d.2:=hq;have Wc:p.length=i:=by have:=congrArg List.length hq;rw[List.length_append]at this;omega
   cases q with
   |nil=>simp at hql
   |cons e' q' =>
    have Nm:e'=e:=by have:=he;rw[←hq,List.getElem?_append_right (by omega),Wc,Nat.sub_self]at this;simpa using this
    subst Nm;have hm:e'∈d.2:=ab3 he;have iH:=tV (h.ge e' hm).l;have h1:b.length+(r.length+1)*50≤10000:=h1;refine au OV (ae (aR hi) (aa (aG he) (aa (ZK hG b e' (by omega)) ?_)));have hnk:e'.1∉(cq p 0).map (·.1):=by rw[Al];intro k;obtain⟨u,hu,hue⟩:=abW.1 k;have h5:=hse;rw[←hq]at h5;have:=(List.pairwise_append.1 h5).2.2 u hu e' (by simp);rw[hue,bY]at this;cases this
    have m1:jx fZ e'.1 (i:Int) (cq p 0)=cq (p++[e']) 0:=by rw[D3,Nat.zero_add,Wc];exact abK (i:Int) hnk
    have ew:=aB hi (by omega);have:=ih (p++[e'],b++gh e') ⟨by show(b++gh e').length+_≤_;rw[List.length_append,qG];omega,q',by simpa using hq,by simp at hql;omega⟩;refine(congr (congrArg (fun(k:Int) (pl:List (ID×Int))=>LX G 42 lD Tryz.f42 tw (aM Tryz.prog 42 0) ((d.2,(((d.2.length:Nat):Int),(k,()))),(((d,()),()),(pl,(b++gh e',()))))) ew) m1).trans (this.trans ?_);simp only[List.flatMap_cons,List.append_assoc])
  ([],[w8 ((d.2.length:Nat):Int)]) ⟨by show 1+d.2.length*50≤_;omega,d.2,rfl,rfl⟩
 exact key
theorem D6{α β:Type}(f:α→List β)(k:Nat):∀l:List α,(∀e∈l,(f e).length≤k)→(l.flatMap f).length≤k*l.length
 |[],_=>by simp
 |e::r,h=>by have h1:=h e (by simp);have h2:=D6 f k r fun q hq=>h q (by simp[hq]);rw[List.flatMap_cons,List.length_append,List.length_cons,Nat.mul_succ];omega
theorem VZ{d:ak}(h:Wf d):(D5 d).length≤5000:=by
 have Nn:=h.nv;have bw:=h.ne;have Kc:(an d.1).length≤80:=by rw[h.pd.length_eq,xw];omega
 have h1:=D6 gh 29 d.2 fun e he=>by have:=tV (h.ge e he).l;rw[qG];omega
 have h2:=D6 (pG (cq d.2 0)) 110 d.1 fun v hv=>by have:=tV (h.gv v hv).l;obtain⟨a,b,he⟩:=acb hv;rw[he,kr,eI]at Kc;unfold pG;rw[List.length_append,qG,List.length_cons,List.length_map];simp at Kc ⊢;omega
 unfold D5;rw[List.length_cons,List.length_append,List.length_cons];omega
theorem zh(g:ax):(pH g).length=10:=rfl
theorem O8(hG:HG G)(hp:sD G)(s:StateT)(h:dF s)(hg:bP s.1=0):FX G 17 mG ((s,()),())=some ((kD s,()),()):=by
 have hgn:=h.n;refine aw (hG _ _ rfl) agb (aa (agy hG hp s.1 h.d hg) ?_);exact br s.2 (fun i (b:List Int)=>LX G 17 mG Tryz.f17 wW (aM Tryz.prog 17 0) ((s.2,(((s.2.length:Nat):Int),(i,()))),((),(b,())))) (fun r b=>((b++r.flatMap pH,()),())) (fun m b=>b.length+m*10≤10000) (fun b hb=>by refine au OT (af (cK _) ?_);simp only[List.flatMap_nil,List.append_nil];rfl) (fun i g r b hi hx xF hk ih=>by
   have ew:=aB hi (by omega);refine au OT (ae (aR hi) (aa (aG hx) ?_));have st:∀(k:Nat) (x:ab) (b:List Int) {z},b.length≤20000→([g.1,g.2]:List ab)[k]? = some x→k<2 → LX G 17 mG Tryz.f17 tv (aM Tryz.prog 17 1) ((s.2,(((s.2.length:Nat):Int),((i:Int),((2:Int),(((k+1:Nat):Int),()))))),((),((b++jU x.1)++[w8 x.2],([g.1,g.2],()))))=some z → LX G 17 mG Tryz.f17 tv (aM Tryz.prog 17 1) ((s.2,(((s.2.length:Nat):Int),((i:Int),((2:Int),((k:Int),()))))),((),(b,([g.1,g.2],()))))=some z:=by
    intro k x b z hb hx oF hn;have l1:(b++jU x.1).length=b.length+4:=by simp[jU]
    refine au OU (ae (decide_eq_true (show(k:Int)<2 by omega)) (ae (cz (decide_eq_true (show(0:Int)≤(k:Int) by omega)) (decide_eq_true (show(k:Int)<2 by omega))) (aa hx (aa (ZJ hG b x.1 (by omega)) (ae (fits ?_) ?_)))))
    ·show(b++jU x.1).length+1≤_;rw[l1];omega
    ·rw[wI,aB (n:=2) oF (by omega)];exact hn
   have hk:b.length+(r.length+1)*10≤10000:=hk;refine st 0 g.1 b (by omega) rfl (by omega) (st 1 g.2 _ (by simp[jU];omega) rfl (by omega) ?_);refine au OU (af rfl ?_);rw[wI,ew];have e9:((((b++jU g.1.1)++[w8 g.1.2])++jU g.2.1)++[w8 g.2.2])=b++pH g:=by unfold pH;simp only[List.append_assoc,List.singleton_append,List.cons_append,List.nil_append]
   rw[e9];refine(ih (b++pH g) (by rw[List.length_append,zh];omega)).trans ?_;simp only[List.flatMap_cons,List.append_assoc])
  (D5 s.1) (by have:=VZ h.d;omega)
theorem ZO(hG:HG G)(hp:sD G)(a b:StateT)(ha:dF a)(hb:dF b)(ga:bP a.1=0)(gb:bP b.1=0):FX G 19 FZ ((a,(b,())),())=some (((strOf (kD a)==strOf (kD b)),()),()) :=aw (hG _ _ rfl) af9 (aa (O8 hG hp a ha ga) (aa (O8 hG hp b hb gb) (aa (aw (hG _ _ rfl) aga rfl) rfl)))
end Go.Vs
set_option autoImplicit false
namespace Go.Vs
open Go
theorem Lg{row:List ab}{x:ab}(h:x∈row):jo row x∈row:=by have hl:0<row.length:=List.length_pos_of_mem h;unfold jo dp;rw[if_pos h];have aK:((idx x row 0).toNat+(row.length-1))%row.length<row.length:=acV _ hl;rw[List.getElem?_eq_getElem aK];exact ab4 aK
theorem Wf.md{d:ak}(h:Wf d){x:ab}(hx:x∈an d.1):lP x=true:=by obtain⟨e,he,h1,h2⟩:=dO.1 (h.pd.mem_iff.1 hx);unfold lP;rw[←h1,(h.ge e he).i,Bool.true_and];exact decide_eq_true h2
def bq(l:List ax):Prop:=∀g∈l,lP g.1=true∧(g.2=zD∨lP g.2=true)
theorem Wf.ah{d:ak}(h:Wf d){x:ab}(hx:x∈an d.1):db d x=zD∨lP (db d x)=true:=by
 obtain⟨v,hv,hm⟩:=aS.1 hx;rw[Gp h.rw hv hm];have h1:=Lg hm;have h2:=Lg h1
 split
 ·split
  ·exact .inl rfl
  ·exact .inr (h.md (aS.2 ⟨v,hv,h2⟩))
 ·exact .inr (h.md (aS.2 ⟨v,hv,h1⟩))
theorem bq.zero:bq []:=fun g hg=>by cases hg
theorem bq.add{l:List ax}(h:bq l){g:ax}(h1:lP g.1=true)(h2:g.2=zD∨lP g.2=true):bq (bR l g):=by
 unfold bR
 split
 ·exact h
 ·intro q hq;rcases xj hq with rfl|⟨k,_⟩
  ·exact⟨h1,h2⟩
  ·exact h q k
theorem GK{x:ID}(h:cF x=true){i:Int}(hi:i=0∨i=1):lP (x,i)=true:=by unfold lP;rw[h,Bool.true_and];exact decide_eq_true hi
theorem bq.one{s:StateT}(h:dF s)(hg:bq s.2)(o:bg):bq (jW s o).1.2:=by
 unfold jW
 split
 ·exact bq.zero
 split
 ·unfold nJ
  split;· exact bq.zero
  split;· exact bq.zero
  exact hg
 split
 ·unfold uI
  split
  ·exact bq.zero
  ·split
   ·exact bq.zero
   ·exact hg
 split
 ·unfold nI
  split;· exact bq.zero
  split;· exact bq.zero
  split;· exact bq.zero
  split;· exact bq.zero
  split;· exact bq.zero
  exact hg
 split
 ·unfold De
  split;· exact bq.zero
  rename_i h1;have hs:=o9 h1;have d0:=h.d.kA hs (s:=0) (.inl rfl);have d1:=h.d.kA hs (s:=1) (.inr rfl);exact(hg.add (h.d.md d0) (h.d.ah d0)).add (h.d.md d1) (h.d.ah d1)
 split
 ·unfold kl
  split;· exact bq.zero
  split;· exact bq.zero
  split;· exact bq.zero
  split;· exact bq.zero
  split;· exact bq.zero
  exact hg
 split
 ·unfold jM
  split
  ·exact bq.zero
  ·rename_i v hv
   split
   ·rename_i r0 r1 hr;have Wz:=dX hv;have m0:=h.d.md (aS.2 ⟨v,Wz,by rw[hr];simp⟩:r0∈an s.1.1);have m1:=h.d.md (aS.2 ⟨v,Wz,by rw[hr];simp⟩:r1∈an s.1.1);have key:∀a b:ab,lP a=true→lP b=true→bq (IC s.2 a b):=fun a b ha hb=>by
     have hi:cF b.1=true:=(Bool.and_eq_true _ _▸(show(cF b.1&&decide (b.2=0∨b.2=1))=true from hb)).1;have ht:∀i,nY a b i=zD∨lP (nY a b i)=true:=fun i=>by
      unfold nY;split
      ·exact .inr ha
      ·exact .inl rfl
     exact(hg.add (g:=((b.1,0),nY a b 0)) (GK hi (.inl rfl)) (ht 0)).add (g:=((b.1,1),nY a b 1)) (GK hi (.inr rfl)) (ht 1)
    unfold iM
    split;· exact bq.zero
    split
    ·exact key r1 r0 m1 m0
    split
    ·exact key r0 r1 m0 m1
    ·exact bq.zero
   ·exact bq.zero
 ·unfold vz
  split
  ·exact hg
  ·exact bq.zero
theorem bq.go:∀(l:List bg) {s:StateT},dF s→bq s.2→bq (Df l s).1.2
 |[],_,_,h=>h
 |o::r,s,hw,h=>by
  unfold Df
  split
  ·exact bq.zero
  ·exact bq.go r (hw.one o) (bq.one hw h o)
theorem bq.try{s:StateT}(hw:dF s)(h:bq s.2)(l:List bg):bq (iB s l).2:=by
 unfold iB
 split
 ·exact h
 ·unfold cv
  split
  ·exact bq.zero
  ·exact bq.go l hw h
theorem bq.all:∀(l:List (List bg)) {s:StateT},dF s→bq s.2→bq (ng l s).2
 |[],_,_,h=>h
 |e::r,_,hw,h=>bq.all r (hw.try e) (bq.try hw h e)
theorem q6(n:Int):w8 n=n%256:=rfl
theorem V5(n:Int):0≤w8 n∧w8 n<256:=by rw[q6];omega
theorem Nc{x y:ID}(hx:cF x=true)(hy:cF y=true)(h:jU x=jU y):x=y:=by
 obtain⟨a,b⟩:=x;obtain⟨c,d⟩:=y;have hx:1≤a∧a≤8∧1≤b∧b≤1048576:=of_decide_eq_true hx;have hy:1≤c∧c≤8∧1≤d∧d≤1048576:=of_decide_eq_true hy;have h:[a%256,(b.fdiv 65536)%256,(b.fdiv 256)%256,b%256]=[c%256,(d.fdiv 65536)%256,(d.fdiv 256)%256,d%256]:=h;simp only[Int.fdiv_eq_ediv_of_nonneg _ (show(0:Int)≤65536 by decide),Int.fdiv_eq_ediv_of_nonneg _ (show(0:Int)≤256 by decide),List.cons.injEq,and_true]at h;have h1:a=c:=by omega
 have h2:b=d:=by omega
 rw[h1,h2]
theorem O9(n:Int):zg n=[(n%18446744073709551616) / 72057594037927936%256,(n%18446744073709551616) / 281474976710656%256,(n%18446744073709551616) / 1099511627776%256,(n%18446744073709551616) / 4294967296%256,(n%18446744073709551616) / 16777216%256,(n%18446744073709551616) / 65536%256,(n%18446744073709551616) / 256%256,n%18446744073709551616%256]:=by have e:∀k:Int,0≤k→Int.fdiv (n%18446744073709551616) k=(n%18446744073709551616) / k:=fun k hk=>Int.fdiv_eq_ediv_of_nonneg _ hk;have h:zg n=[Int.fdiv (n%18446744073709551616) 72057594037927936%256,Int.fdiv (n%18446744073709551616) 281474976710656%256,Int.fdiv (n%18446744073709551616) 1099511627776%256,Int.fdiv (n%18446744073709551616) 4294967296%256,Int.fdiv (n%18446744073709551616) 16777216%256,Int.fdiv (n%18446744073709551616) 65536%256,Int.fdiv (n%18446744073709551616) 256%256,Int.fdiv (n%18446744073709551616) 1%256]:=rfl;rw[h,e _ (by decide),e _ (by decide),e _ (by decide),e _ (by decide),e _ (by decide),e _ (by decide),e _ (by decide),e _ (by decide),Int.ediv_one]
theorem GL(N:Int)(h0:0≤N)(h1:N<18446744073709551616):(((((((N / 72057594037927936%256*256+N / 281474976710656%256)*256+N / 1099511627776%256)*256+N / 4294967296%256)*256+N / 16777216%256)*256+N / 65536%256)*256+N / 256%256)*256+N%256)=N:=by omega
theorem V6{m n:Int}(hm : -9223372036854775808≤m∧m<9223372036854775808)(hn : -9223372036854775808≤n∧n<9223372036854775808)(h:zg m=zg n):m=n:=by rw[O9,O9]at h;simp only[List.cons.injEq,and_true]at h;have a:=GL (m%18446744073709551616) (by omega) (by omega);have b:=GL (n%18446744073709551616) (by omega) (by omega);obtain⟨h1,h2,h3,h4,h5,h6,h7,h8⟩:=h;rw[h1,h2,h3,h4,h5,h6,h7,h8,b]at a;omega
theorem Lh{s t:ByteArray}(h:bytesOf s=bytesOf t):s=t:=by unfold bytesOf at h;have:=List.map_inj_right (f:=fun b:UInt8=>(b.toNat:Int)) (fun a b z8=>UInt8.toNat_inj.1 (by exact_mod_cast z8)) |>.1 h;obtain⟨⟨l⟩⟩:=s;obtain⟨⟨m⟩⟩:=t;simp only at this;rw[this]
theorem tW{α:Type}{a b c d:List α}(hl:a.length=c.length)(h:a++b=c++d):a=c∧b=d:=List.append_inj h hl
theorem Rl{s t:ByteArray}{r q:List Int}(hs:s.size≤16)(ht:t.size≤16)(h:Ak s++r=Ak t++q):s=t∧r=q:=by
 unfold Ak at h;simp only[List.cons_append,List.cons.injEq]at h;obtain⟨h1,h2⟩:=h;have hz:s.size=t.size:=by rw[q6,q6]at h1;omega
 obtain⟨h3,h4⟩:=tW (by rw[sG,sG,hz]) h2;exact⟨Lh h3,h4⟩
structure V7(e:aj):Prop where
 i:cF e.1=true
 l:kj e.2.1=true
 a:jJ e.2.2=true
theorem GE.th{e:aj}(h:GE e):V7 e:=⟨h.i,h.l,h.a⟩
theorem GV.th{v:ai}(h:GV v):V7 (v.1,v.2.2):=⟨h.i,h.l,h.a⟩
theorem D7{e f:aj}{r q:List Int}(he:V7 e)(hf:V7 f)(h:gh e++r=gh f++q):e=f∧r=q:=by unfold gh at h;simp only[List.append_assoc]at h;obtain⟨h1,h2⟩:=tW (by rfl) h;obtain⟨h3,h4⟩:=Rl (tV he.l) (tV hf.l) h2;obtain⟨h5,h6⟩:=tW (by rw[D2,D2]) h4;have a:=he.a;have b:=hf.a;unfold jJ at a b;have a:=of_decide_eq_true a;have b:=of_decide_eq_true b;have h7:=V6 (by omega) (by omega) h5;refine⟨?_,h6⟩;obtain⟨e1,e2,e3⟩:=e;obtain⟨f1,f2,f3⟩:=f;have:=Nc he.i hf.i h1;simp only at this h3 h7;rw[this,h3,h7]
theorem xx{α:Type}(f:α→List Int)(P:α→Prop)(hf:∀a b r q,P a→P b→f a++r=f b++q→a=b∧r=q):∀(l m:List α) (r q:List Int),l.length=m.length→(∀a∈l,P a)→(∀a∈m,P a)→l.flatMap f++r=m.flatMap f++q→l=m∧r=q
 |[],[],r,q,_,_,_,h=>⟨rfl,h⟩
 |a::l,b::m,r,q,hl,h1,h2,h=>by simp only[List.flatMap_cons,List.append_assoc]at h;obtain⟨e1,e2⟩:=hf a b _ _ (h1 a (by simp)) (h2 b (by simp)) h;obtain⟨e3,e4⟩:=xx f P hf l m r q (by simpa using hl) (fun a ha=>h1 a (by simp[ha])) (fun a ha=>h2 a (by simp[ha])) e2;exact⟨by rw[e1,e3],e4⟩
 |[],_::_,_,_,hl,_,_,_=>by simp at hl
 |_::_,[],_,_,hl,_,_,_=>by simp at hl
theorem D8(x:ID):∀(l:List aj) (i:Nat),fm fZ x (cq l i)=(l.findIdx? fun e=>decide (e.1=x)).map fun j=>((i+j:Nat):Int)
 |[],i=>by unfold fm;rw[Nb];rfl
 |e::r,i=>by
  have ih:=D8 x r (i+1);unfold fm at ih ⊢;rw[Nb]at ih ⊢;rw[cq,List.findIdx?_cons,List.findIdx?_cons];by_cases h:e.1=x
  ·simp only[h,decide_true,if_true];rfl
  ·simp only[decide_eq_false h];have e2:(r.findIdx? fun e=>decide (e.1=x)).map (fun j=>((i+1+j:Nat):Int))=((r.findIdx? fun e=>decide (e.1=x)).map (·+1)).map fun j=>((i+j:Nat):Int):=by rw[Option.map_map];congr 1;funext j;show((i+1+j:Nat):Int)=((i+(j+1):Nat):Int);congr 1;omega
   refine Eq.trans ?_ e2
   cases h2:(cq r (i+1)).findIdx? fun e=>decide (e.1=x)<;>rw[h2]at ih
   ·exact ih
   ·exact ih
def D9(l:List aj)(x:ID):Int:=match l.findIdx? fun e=>decide (e.1=x) with|some j=>(j:Int)|none=>0
theorem Rm(l:List aj)(x:ID):Option.getD (fm fZ x (cq l 0)) (0:Int)=D9 l x:=by
 rw[D8];unfold D9
 split
 ·rename_i j h;rw[h];simp
 ·rename_i h;rw[h];rfl
theorem Rn{l:List aj}{x:ID}(h:∃e∈l,e.1=x):∃j,D9 l x=((j:Nat):Int)∧∃hj:j<l.length,l[j].1=x:=by
 obtain⟨e,he,h1⟩:=h;unfold D9
 cases h2:l.findIdx? fun e=>decide (e.1=x) with
 |none=>rw[List.findIdx?_eq_none_iff]at h2;have:=h2 e he;simp[h1]at this
 |some j =>obtain⟨h3,h4,_⟩:=acX.1 h2;exact⟨j,rfl,h3,of_decide_eq_true h4⟩
theorem Li{l:List aj}(hl:l.length≤40){y:ab}(hy:y∈ends l):∃j:Nat,D4 (cq l 0) y=(j:Int)+128*y.2∧(y.2=0∨y.2=1)∧D9 l y.1=(j:Int)∧∃hj:j<l.length,l[j].1=y.1:=by obtain⟨e,he,h1,h2⟩:=dO.1 hy;obtain⟨j,h3,h4,h5⟩:=Rn ⟨e,he,h1⟩;refine⟨j,?_,h2,h3,h4,h5⟩;unfold D4;rw[Rm,h3,q6];rw[show wI ((128:Int)*y.2)=128*y.2 from wrap_small (by omega) (by omega),show wI ((j:Int)+128*y.2)=(j:Int)+128*y.2 from wrap_small (by omega) (by omega)];omega
theorem Ro{l:List aj}(hl:l.length≤40){y z:ab}(hy:y∈ends l)(hz:z∈ends l)(h:D4 (cq l 0) y=D4 (cq l 0) z):y=z:=by
 obtain⟨j,e1,s1,_,j1,k1⟩:=Li hl hy;obtain⟨i,e2,s2,_,j2,k2⟩:=Li hl hz;rw[e1,e2]at h;have hj:j=i:=by omega
 subst hj;obtain⟨a,b⟩:=y;obtain⟨c,d⟩:=z;simp only at *;have:b=d:=by omega
 rw[←k1,←k2,this]
structure Yv(l:List aj)(v:ai):Prop where
 g:GV v
 n:v.2.1.length≤80
 m:∀x∈v.2.1,x∈ends l
theorem Ea{α β:Type}{f:α→β}:∀{l m:List α},(∀a∈l,∀b∈m,f a=f b→a=b)→l.map f=m.map f→l=m
 |[],[],_,_=>rfl
 |a::l,b::m,hf,h=>by simp only[List.map_cons,List.cons.injEq]at h;rw[hf a (by simp) b (by simp) h.1,Ea (fun x hx y hy=>hf x (by simp[hx]) y (by simp[hy])) h.2]
 |[],_::_,_,h=>by simp at h
 |_::_,[],_,h=>by simp at h
theorem Rp{l:List aj}(hl:l.length≤40)(v w:ai)(r q:List Int)(hv:Yv l v)(hw:Yv l w)(h:pG (cq l 0) v++r=pG (cq l 0) w++q):v=w∧r=q:=by
 unfold pG at h;simp only[List.append_assoc,List.cons_append]at h;obtain⟨h1,h2⟩:=D7 hv.g.th hw.g.th h;obtain⟨h3,h4⟩:=List.cons.inj h2;have a:=hv.n;have b:=hw.n;have hn:v.2.1.length=w.2.1.length:=by rw[q6,q6]at h3;omega
 obtain⟨h5,h6⟩:=tW (by rw[List.length_map,List.length_map,hn]) h4;have h7:=Ea (fun x hx y hy=>Ro hl (hv.m x hx) (hw.m y hy)) h5;refine⟨?_,h6⟩;obtain⟨v1,v2,v3⟩:=v;obtain⟨w1,w2,w3⟩:=w;simp only[Prod.mk.injEq]at h1 h7 ⊢;exact⟨h1.1,h7,h1.2⟩
theorem Wf.vt{d:ak}(h:Wf d):∀v∈d.1,Yv d.2 v:=fun v hv=>⟨h.gv v hv,h.su v hv,fun x hx=>h.pd.mem_iff.1 (aS.2 ⟨v,hv,hx⟩)⟩
theorem V8{d c:ak}(hd:Wf d)(hc:Wf c){r q:List Int}(h:D5 d++r=D5 c++q):d=c∧r=q:=by
 unfold D5 at h;simp only[List.cons_append,List.append_assoc]at h;obtain⟨h1,h2⟩:=List.cons.inj h;have a:=hd.ne;have b:=hc.ne;have he:d.2.length=c.2.length:=by rw[q6,q6]at h1;omega
 obtain⟨h3,h4⟩:=xx gh V7 (fun _ _ _ _=>D7) d.2 c.2 _ _ he (fun e k=>(hd.ge e k).th) (fun e k=>(hc.ge e k).th) h2;obtain⟨h5,h6⟩:=List.cons.inj h4;have a2:=hd.nv;have b2:=hc.nv;have hv:d.1.length=c.1.length:=by rw[q6,q6]at h5;omega
 have hcv:=hc.vt;rw[←h3]at h6 hcv;obtain⟨h7,h8⟩:=xx (pG (cq d.2 0)) (Yv d.2) (Rp hd.ne) d.1 c.1 _ _ hv hd.vt hcv h6;exact⟨Prod.ext h7 h3,h8⟩
theorem Eb{x y:ID}(hx:0≤x.1∧x.1≤8∧0≤x.2∧x.2≤1048576)(hy:0≤y.1∧y.1≤8∧0≤y.2∧y.2≤1048576)(h:jU x=jU y):x=y:=by
 obtain⟨a,b⟩:=x;obtain⟨c,d⟩:=y;have h:[a%256,(b.fdiv 65536)%256,(b.fdiv 256)%256,b%256]=[c%256,(d.fdiv 65536)%256,(d.fdiv 256)%256,d%256]:=h;simp only[Int.fdiv_eq_ediv_of_nonneg _ (show(0:Int)≤65536 by decide),Int.fdiv_eq_ediv_of_nonneg _ (show(0:Int)≤256 by decide),List.cons.injEq,and_true]at h;simp only at hx hy;have h1:a=c:=by omega
 have h2:b=d:=by omega
 rw[h1,h2]
theorem qH{x:ab}(h:x=zD∨lP x=true):(0≤x.1.1∧x.1.1≤8∧0≤x.1.2∧x.1.2≤1048576)∧(0≤x.2∧x.2≤1):=by
 rcases h with rfl|h
 ·exact⟨by decide,by decide⟩
 ·obtain⟨h1,h2⟩:=(Bool.and_eq_true _ _▸(show(cF x.1&&decide (x.2=0∨x.2=1))=true from h));have h1:1≤x.1.1∧x.1.1≤8∧1≤x.1.2∧x.1.2≤1048576:=of_decide_eq_true h1;have h2:=of_decide_eq_true h2;omega
theorem Rq(g k:ax)(r q:List Int)(hg:lP g.1=true∧(g.2=zD∨lP g.2=true))(hk:lP k.1=true∧(k.2=zD∨lP k.2=true))(h:pH g++r=pH k++q):g=k∧r=q:=by unfold pH at h;simp only[List.append_assoc,List.cons_append,List.nil_append]at h;obtain⟨a1,a2⟩:=qH (.inr hg.1);obtain⟨a3,a4⟩:=qH hg.2;obtain⟨b1,b2⟩:=qH (.inr hk.1);obtain⟨b3,b4⟩:=qH hk.2;obtain⟨h1,h2⟩:=tW (show(jU g.1.1).length=(jU k.1.1).length from rfl) h;obtain⟨h3,h4⟩:=List.cons.inj h2;obtain⟨h5,h6⟩:=tW (show(jU g.2.1).length=(jU k.2.1).length from rfl) h4;obtain⟨h7,h8⟩:=List.cons.inj h6;rw[q6,q6]at h3 h7;exact⟨Prod.ext (Prod.ext (Eb a1 b1 h1) (by omega)) (Prod.ext (Eb a3 b3 h5) (by omega)),h8⟩
theorem Ec{α:Type}(f:α→List Int)(k:Nat)(hf:∀a,(f a).length=k):∀l:List α,(l.flatMap f).length=k*l.length
 |[]=>by simp
 |a::l=>by rw[List.flatMap_cons,List.length_append,hf,Ec f k hf l,List.length_cons,Nat.mul_succ,Nat.add_comm]
theorem Nd{a b:StateT}(ha:dF a)(hb:dF b)(ga:bq a.2)(gb:bq b.2)(h:kD a=kD b):a=b:=by unfold kD at h;obtain⟨h1,h2⟩:=V8 ha.d hb.d h;have hl:=congrArg List.length h2;rw[Ec pH 10 zh,Ec pH 10 zh]at hl;obtain⟨h3,_⟩:=xx pH _ Rq a.2 b.2 [] [] (by omega) ga gb (by rw[h2]);exact Prod.ext h1 h3
def lG(l:List Int):Prop:=∀c∈l,0≤c∧c<256
theorem Lj:∀(l:List Int) (r:ByteArray),lG l→bytesOf (l.foldl (fun r n=>r.push (UInt8.ofNat n.toNat)) r)=bytesOf r++l
 |[],r,_=>by simp
 |c::l,r,h=>by
  rw[List.foldl_cons,Lj l _ (fun x hx=>h x (by simp[hx]))];have hc:=h c (by simp);have e:bytesOf (r.push (UInt8.ofNat c.toNat))=bytesOf r++[c]:=by
   unfold bytesOf;show((r.data.push _).toList).map _=_;rw[Array.toList_push,List.map_append];congr 1;have h1:((UInt8.ofNat c.toNat).toNat:Int)=c:=by
    rw[UInt8.toNat_ofNat'];have:c.toNat<256:=by omega
    rw[Nat.mod_eq_of_lt (by simpa using this)];omega
   simp only[List.map_cons,List.map_nil,h1]
  rw[e,List.append_assoc];rfl
theorem GM{l:List Int}(h:lG l):bytesOf (strOf l)=l:=by have:=Lj l ByteArray.empty h;exact this
theorem Rr{a b:List Int}(ha:lG a)(hb:lG b):(strOf a==strOf b)=decide (a=b):=by
 rw[XB];by_cases h:a=b
 ·rw[decide_eq_true h,decide_eq_true (by rw[h])]
 ·rw[decide_eq_false h,decide_eq_false fun k=>h (by rw[←GM ha,←GM hb,k])]
theorem lG.app{a b:List Int}(ha:lG a)(hb:lG b):lG (a++b):=fun c hc=>(abU.1 hc).elim (ha c) (hb c)
theorem lG.cons{n:Int}{b:List Int}(hb:lG b):lG (w8 n::b):=fun c hc=>by
 rcases abM.1 hc with rfl|hc
 ·exact V5 n
 ·exact hb c hc
theorem lG.nil:lG []:=fun c hc=>by cases hc
theorem lG.flat{α:Type}{f:α→List Int}(hf:∀a,lG (f a))(l:List α):lG (l.flatMap f):=fun c hc=>by obtain⟨a,_,h⟩:=List.mem_flatMap.1 hc;exact hf a c h
theorem lG.jU(x:ID):lG (jU x):=lG.nil.cons.cons.cons.cons
theorem lG.zg(n:Int):lG (zg n):=fun c hc=>by obtain⟨i,_,rfl⟩:=abW.1 hc;exact V5 _
theorem lG.bytesOf(s:ByteArray):lG (bytesOf s):=fun c hc=>by obtain⟨i,_,rfl⟩:=abW.1 hc;have:=i.toNat_lt;omega
theorem lG.ZP(e:aj):lG (gh e):=(lG.jU _).app ((lG.bytesOf _).cons.app (lG.zg _))
theorem lG.H9(pl:List (ID×Int))(v:ai):lG (pG pl v):=(lG.ZP _).app (lG.cons fun c hc=>by obtain⟨i,_,rfl⟩:=abW.1 hc;exact V5 _)
theorem lG.D5(d:ak):lG (D5 d):=((lG.flat lG.ZP _).app (lG.flat (lG.H9 _) _).cons).cons
theorem lG.gone(g:ax):lG (pH g):=(lG.jU _).app ((lG.jU _).app lG.nil.cons).cons
theorem lG.state(s:StateT):lG (kD s):=(lG.D5 _).app (lG.flat lG.gone _)
