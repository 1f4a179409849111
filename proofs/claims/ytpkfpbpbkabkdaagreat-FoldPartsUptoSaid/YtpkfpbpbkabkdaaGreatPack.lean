/- Diagrams as bytes -/
import Derived.Test.YtpkfpbpbkabkdaaGreatPartsB
import Derived.Test.YtpkfpbpbkabkdaaGreatNormalD
import Derived.Test.YtpkfpbpbkabkdaaGreatPlane
import Derived.Test.YtpkfpbpbkabkdaaGreatForm
set_option linter.unusedVariables false
set_option linter.unusedSimpArgs false
namespace Go.Vs
open Go.Proofs
variable {G:(f:FuncId)→(g:aO)→Option (g.A→Option g.B)}
theorem LF{n:Int}(h:Mn (.int .i64) n):Ow n:=by
 have h1:IntKind.min .i64 = -9223372036854775808:=by decide
 have h2:IntKind.max .i64=9223372036854775807:=by decide
 have h:IntKind.min .i64≤n∧n≤IntKind.max .i64:=h;rw[h1,h2]at h;unfold Ow;omega
theorem YY{o:aY}(h:Mn C4 o)(ht:KS o):Fit o:=by obtain⟨_,_,_,_,⟨_,_,h1⟩,⟨_,_,h2⟩,_,_,h3⟩:=h;exact⟨LF h1,LF h2,LF h3,ht⟩
end Go.Vs
namespace Go.Vs
def dU:List (List aY)→StateT→StateT
 |[],s=>s
 |e::r,s=>dU r (iy s e)
def fT:List (List aY)→StateT→List Bool
 |[],_=>[]
 |e::r,s=>decide ((ct s e).2.1=0)::fT r (iy s e)
theorem wE:∀(l:List (List aY)) (s:StateT),(fT l s).length=l.length
 |[],_=>rfl
 |e::r,s=>by unfold fT;simp[wE r]
theorem VJ(s:StateT):iy s []=s:=by unfold iy ct gK;simp
theorem wF:∀(a b:List (List aY)) (s:StateT),dU (a++b) s=dU b (dU a s)
 |[],_,_=>rfl
 |e::r,b,s=>wF r b (iy s e)
theorem dM.all:∀(l:List (List aY)) {s:StateT},dM s→dM (dU l s)
 |[],_,h=>h
 |e::r,_,h=>dM.all r (h.try e)
theorem Bs.all:∀{l:List (List aY)} {n:Nat} {s:StateT},(∀e∈l,e.length≤8)→Bs n s→Bs (n+24*l.length) (dU l s)
 |[],_,_,_,h=>h
 |e::r,n,s,hl,h=>by have h1:Bs (n+24) (iy s e):=h.try.mono (by have:=hl e (by simp);omega);exact(Bs.all (fun e he=>hl e (by simp[he])) h1).mono (by simp;omega)
theorem Jo{l:List ai}{x:ID}:(aL l x).isSome=true↔∃v∈l,v.1=x:=by unfold aL;rw[List.find?_isSome];simp
theorem Jp{l:List aq}{x:ID}:(aV l x).isSome=true↔∃v∈l,v.1=x:=by unfold aV;rw[List.find?_isSome];simp
structure Gr(s t:StateT):Prop where
 v:∀x,(aL s.1.1 x).isSome=true→(aL t.1.1 x).isSome=true
 e:∀x,(aV s.1.2 x).isSome=true→(aV t.1.2 x).isSome=true
 nv:s.1.1.length≤t.1.1.length
 ne:s.1.2.length≤t.1.2.length
theorem Gr.rfl(s:StateT):Gr s s:=⟨fun _ h=>h,fun _ h=>h,acn _,acn _⟩
theorem Gr.trans{a b c:StateT}(h:Gr a b)(k:Gr b c):Gr a c:=⟨fun x p=>k.v x (h.v x p),fun x p=>k.e x (h.e x p),acB h.nv k.nv,acB h.ne k.ne⟩
def named(s:StateT)(o:aY):Prop:=if o.1=1 then(aL s.1.1 (bu o)).isSome=true else(aV s.1.2 (bu o)).isSome=true
theorem named.up{s t:StateT}{o:aY}(h:named s o)(k:Gr s t):named t o:=by
 unfold named at h ⊢
 split
 ·rename_i h1;rw[if_pos h1]at h;exact k.v _ h
 ·rename_i h1;rw[if_neg h1]at h;exact k.e _ h
theorem MZ(d:ak)(c:uP)(x:ab):(cr d c x).1.length=d.1.length∧(cr d c x).2=d.2:=⟨fj _ _ _,rfl⟩
theorem SY{s:StateT}{o:aY}(hk:o.1=1∨o.1=3)(h:(oQ s o).2.1=0):Gr s (oQ s o).1∧named (oQ s o).1 o:=by
 unfold oQ at h ⊢;by_cases hm:cX o=0
 case neg=>rw[if_pos hm]at h;exact absurd h hm
 rw[if_neg (by simp[hm])]at h ⊢;rcases hk with h1|h3
 ·rw[if_pos h1]at h ⊢;unfold qy at h ⊢;by_cases h2:(cd s.1 (bu o)).isSome=true
  ·rw[if_pos h2]at h;cases h
  rw[if_neg h2]at h ⊢;by_cases h4:24≤s.1.1.length
  ·rw[if_pos h4]at h;cases h
  rw[if_neg h4];refine⟨⟨fun x hx=>?_,fun x hx=>hx,by show _≤(cW _ _).length;rw[eW];omega,acn _⟩,?_⟩
  ·rw[Jo]at hx ⊢;obtain⟨v,hv,e⟩:=hx;exact⟨v,jG.2 (.inr hv),e⟩
  ·unfold named;rw[if_pos h1,Jo];exact⟨_,jG.2 (.inl rfl),rfl⟩
 ·have n1:¬o.1=1:=by omega
  have n2:¬o.1=2:=by omega
  rw[if_neg n1,if_neg n2,if_pos h3]at h ⊢;unfold rH at h ⊢
  split at h
  ·cases h
  rename_i c1
  split at h
  ·cases h
  rename_i c2
  split at h
  ·cases h
  rename_i c3
  split at h
  ·cases h
  rename_i c4
  split at h
  ·cases h
  rename_i c5;rw[if_neg c1,if_neg c2,if_neg c3,if_neg c4,if_neg c5];have l1:(oP s o).1.length=s.1.1.length:=by unfold oP;rw[(MZ _ _ _).1,(MZ _ _ _).1]
  have l2:(oP s o).2=fg (bu o,(e0,0)) s.1.2:=rfl;refine⟨⟨fun x hx=>?_,fun x hx=>?_,by show _≤(oP s o).1.length;omega,by show _≤(oP s o).2.length;rw[l2,kT];omega⟩,?_⟩
  ·exact wu _ (wu _ hx)
  ·show(aV (oP s o).2 x).isSome=true;rw[l2];rw[Jp]at hx ⊢;obtain⟨v,hv,e⟩:=hx;exact⟨v,oO.2 (.inr hv),e⟩
  ·unfold named;rw[if_neg n1];show(aV (oP s o).2 (bu o)).isSome=true;rw[l2,Jp];exact⟨_,oO.2 (.inl rfl),rfl⟩
theorem Ph{s:StateT}{o:aY}(hk:o.1=1∨o.1=3)(h:named s o):(oQ s o).2.1≠0:=by
 unfold oQ;by_cases hm:cX o=0
 case neg=>rw[if_pos hm];exact hm
 rw[if_neg (by simp[hm])];unfold named at h;rcases hk with h1|h3
 ·rw[if_pos h1]at h;rw[if_pos h1];unfold qy;rw[if_pos (show(cd s.1 (bu o)).isSome=true from h)];decide
 ·have n1:¬o.1=1:=by omega
  have n2:¬o.1=2:=by omega
  rw[if_neg n1]at h;rw[if_neg n1,if_neg n2,if_pos h3];unfold rH;rw[if_pos (show(nR s.1 (bu o)).isSome=true from h)];decide
structure VL(e:List aY):Prop where
 k:∀o∈e,o.1=1∨o.1=3
 n:e≠[]
theorem GF:∀{e:List aY} {s:StateT},(∀o∈e,o.1=1∨o.1=3)→(Gf e s).2.1=0→Gr s (Gf e s).1∧∀o∈e,named (Gf e s).1 o
 |[],s,_,_=>⟨Gr.rfl s,fun o ho=>by cases ho⟩
 |o::r,s,hk,h=>by
  unfold Gf at h ⊢;by_cases h1:(oQ s o).2.1=0
  case neg=>rw[if_pos h1]at h;exact absurd h h1
  rw[if_neg (by simp[h1])]at h ⊢;obtain⟨g1,n1⟩:=SY (hk o (by simp)) h1;obtain⟨g2,n2⟩:=GF (fun o ho=>hk o (by simp[ho])) h;refine⟨g1.trans g2,fun p hp=>?_⟩;rcases abw.1 hp with rfl|hp
  ·exact n1.up g2
  ·exact n2 p hp
theorem rP{s:StateT}{e:List aY}(h:(ct s e).2.1=0):ct s e=Gf e s:=by
 unfold ct at h ⊢;by_cases hm:gK e=0
 ·rw[if_neg (by simp[hm])]
 ·rw[if_pos hm]at h;exact absurd h hm
theorem SZ{s:StateT}{e:List aY}(h:(ct s e).2.1=0):iy s e=(ct s e).1:=by unfold iy;rw[if_neg (by simp[h])]
theorem M0{s:StateT}{e:List aY}(h:(ct s e).2.1≠0):iy s e=s:=by unfold iy;rw[if_pos h]
theorem Jq{s:StateT}{e:List aY}(ha:VL e):Gr s (iy s e):=by
 by_cases h:(ct s e).2.1=0
 ·rw[SZ h,rP h];rw[rP h]at h;exact(GF ha.k h).1
 ·rw[M0 h];exact Gr.rfl s
theorem Js:∀{l:List (List aY)} {s:StateT},(∀e∈l,VL e)→Gr s (dU l s)
 |[],s,_=>Gr.rfl s
 |e::r,s,h=>(Jq (h e (by simp))).trans (Js fun e he=>h e (by simp[he]))
theorem Jt{s t:StateT}{e:List aY}(ha:VL e)(h:(ct s e).2.1=0)(hg:Gr (iy s e) t):(ct t e).2.1≠0:=fun h2=>by
 rw[SZ h,rP h]at hg;rw[rP h]at h;rw[rP h2]at h2;obtain⟨_,hn⟩:=GF ha.k h
 cases e with
 |nil=>exact ha.n rfl
 |cons o r =>have h3:=Ph (ha.k o (by simp)) ((hn o (by simp)).up hg);unfold Gf at h2;rw[if_pos h3]at h2;exact h3 h2
theorem vt:∀{l:List (List aY)} {s t:StateT},(∀e∈l,VL e)→Gr (dU l s) t→∀i:Nat,(fT l s)[i]? = some true→(fT l t)[i]? = some true→False
 |[],_,_,_,_,i,h,_=>by simp[fT]at h
 |e::r,s,t,ha,hg,0,h1,h2=>by simp[fT]at h1 h2;exact Jt (ha e (by simp)) h1 ((Js fun e he=>ha e (by simp[he])).trans hg) h2
 |e::r,s,t,ha,hg,i+1,h1,h2=>by have h1:(fT r (iy s e))[i]? = some true:=h1;have h2:(fT r (iy t e))[i]? = some true:=h2;exact vt (l:=r) (s:=iy s e) (t:=iy t e) (fun e he=>ha e (by simp[he])) (Gr.trans (show Gr (dU r (iy s e)) t from hg) (Jq (ha e (by simp)))) i h1 h2
end Go.Vs
namespace Go.Vs
open Go.Proofs
variable {G:(f:FuncId)→(g:aO)→Option (g.A→Option g.B)}
structure fU(l:List (List aY)):Prop where
 n:l.length≤1073741824
 e:∀e∈l,e.length≤1073741824
 f:∀e∈l,∀o∈e,Fit o
theorem fU.mem{l m:List (List aY)}(h:fU l)(hs:∀e∈m,e∈l)(hn:m.length≤1073741824):fU m:=⟨hn,fun e he=>h.e e (hs e he),fun e he=>h.f e (hs e he)⟩
theorem GG(hG:HG G)(nD:∀o,eQ G o){l:List (List aY)}(h:fU l){e:List aY}(he:e∈l)(s:StateT)(hw:dM s):FX G 102 vE ((s,e,()),())=some ((iy s e,()),()) :=ab2 hG s e hw (h.e e he) (h.f e he) fun o _=>nD o
theorem YZ(hG:HG G)(nD:∀o,eQ G o){l:List (List aY)}(h:fU l){e:List aY}(he:e∈l)(s:StateT)(hw:dM s):FX G 63 Kv ((s,e,()),())=some (ct s e,()) :=ab1 hG s e hw (h.e e he) (h.f e he) fun o _=>nD o
theorem GH(hG:HG G)(nD:∀o,eQ G o)(s:StateT)(hw:dM s):FX G 102 vE ((s,[],()),())=some ((s,()),()):=by
 have:=ab2 hG s [] hw (by simp) (by simp) fun o _=>nD o
 rwa [VJ]at this
theorem W9(hG:HG G)(s:StateT)(e:List aY):FX G 61 Ez ((s,e,()),())=some ((),()):=aA (hG _ _ rfl) abj rfl
theorem Xa(hG:HG G)(nD:∀o,eQ G o){l:List (List aY)}(h:fU l){e:List aY}(he:e∈l)(s:StateT)(hw:dM s)(p:List Bool)(hp:p.length≤1073741823) :
  FX G 62 EA ((s,e,()),((p,()),()))=some ((),((p++[decide ((ct s e).2.1=0)],()),())):=by
 refine aA (hG _ _ rfl) abk ?_;refine aa (YZ hG nD h he s hw) ?_;refine ae (fits (by simp;omega)) ?_;have:((ct s e).2.1==0)=decide ((ct s e).2.1=0):=by rw[Bool.eq_iff_iff];simp
 rw[this];rfl
theorem S4(hG:HG G)(nD:∀o,eQ G o)(l:List (List aY))(h:fU l):∀(n i:Nat) (s:StateT),i+n=l.length→dM s → LX G 62060 kL Tryz.f60 mw (aZ Tryz.prog 60 0) ((l,(((l.length:Nat):Int),((i:Int),()))),((zW,((s,()),())),()))=some ((dU (l.drop i) s,()),()):=by
 intro n
 induction n with
 |zero =>intro i s hi hw;refine aC B2 (af (decide_eq_false (show ¬((i:Int)<((l.length:Nat):Int)) by omega)) ?_);rw[List.drop_eq_nil_of_le (by omega)];rfl
 |succ n ih =>
  intro i s hi hw;have aF:i<l.length:=by omega
  have hm:=acC aF;refine aC B2 (ae (bg aF) ?_);refine aa (aR (abv aF)) ?_;refine aa (W9 hG s l[i]) (aa (GG hG nD h hm s hw) ?_);rw[wI,aK aF h.n,List.drop_eq_getElem_cons aF,dU];exact ih (i+1) _ (by omega) (hw.try l[i])
theorem S5(hG:HG G)(nD:∀o,eQ G o)(s:StateT)(l:List (List aY))(hw:dM s)(h:fU l):FX G 18 kK ((s,l,()),())=some ((dU l s,()),()):=by
 refine aA (hG _ _ rfl) abg ?_;have h1:FX G 62060 kL ((s,l,()),())=some ((dU l s,()),()):=by refine aA (hG _ _ rfl) Rf ?_;refine aa (GH hG nD s hw) ?_;exact S4 hG nD l h l.length 0 s (by omega) hw
 exact aa h1 rfl
theorem S6(hG:HG G)(nD:∀o,eQ G o)(l:List (List aY))(h:fU l):∀(n i:Nat) (s:StateT),i+n=l.length→dM s → LX G 562060 kN Tryz.f60 mz (aZ Tryz.prog 60 0) ((((l.length:Nat):Int),((i:Int),())),((zW,((s,()),())),(l,())))=some ((dU (l.drop i) s,()),(l,())):=by
 intro n
 induction n with
 |zero =>intro i s hi hw;refine aC B4 (af (decide_eq_false (show ¬((i:Int)<((l.length:Nat):Int)) by omega)) ?_);rw[List.drop_eq_nil_of_le (by omega)];rfl
 |succ n ih =>
  intro i s hi hw;have aF:i<l.length:=by omega
  have hm:=acC aF;refine aC B4 (ae (bg aF) ?_);refine ae (cY (decide_eq_true (show(0:Int)≤(i:Int) by omega)) (bg aF)) (aa (abv aF) ?_);refine aa (W9 hG s l[i]) (aa (GG hG nD h hm s hw) ?_);rw[wI,aK aF h.n,List.drop_eq_getElem_cons aF,dU];exact ih (i+1) _ (by omega) (hw.try l[i])
theorem Ju(hG:HG G)(nD:∀o,eQ G o)(s:StateT)(l:List (List aY))(hw:dM s)(h:fU l):FX G 500018 oJ ((s,()),(l,()))=some ((dU l s,()),(l,())):=by
 refine aA (hG _ _ rfl) Rh ?_;have h1:FX G 562060 kN ((s,()),(l,()))=some ((dU l s,()),(l,())):=by refine aA (hG _ _ rfl) Rj ?_;refine aa (GH hG nD s hw) ?_;exact S6 hG nD l h l.length 0 s (by omega) hw
 exact aa h1 rfl
theorem S7(hG:HG G)(nD:∀o,eQ G o)(l:List (List aY))(h:fU l):∀(n i:Nat) (s:StateT) (p:List Bool),i+n=l.length→p.length=i→dM s → LX G 563060 kO Tryz.f60 mA (aZ Tryz.prog 60 0) ((((l.length:Nat):Int),((i:Int),())),(((p,()),(zW,((s,()),()))),(l,())))=some ((dU (l.drop i) s,()),(l,((p++fT (l.drop i) s,()),()))):=by
 intro n
 induction n with
 |zero =>intro i s p hi hp hw;refine aC B5 (af (decide_eq_false (show ¬((i:Int)<((l.length:Nat):Int)) by omega)) ?_);rw[List.drop_eq_nil_of_le (by omega),fT,List.append_nil];rfl
 |succ n ih =>
  intro i s p hi hp hw;have aF:i<l.length:=by omega
  have hm:=acC aF;have hn:=h.n;refine aC B5 (ae (bg aF) ?_);refine ae (cY (decide_eq_true (show(0:Int)≤(i:Int) by omega)) (bg aF)) (aa (abv aF) ?_);refine aa (Xa hG nD h hm s hw p (by omega)) (aa (GG hG nD h hm s hw) ?_);rw[wI,aK aF h.n,List.drop_eq_getElem_cons aF,dU,fT];have:=ih (i+1) _ (p++[decide ((ct s l[i]).2.1=0)]) (by omega) (by simp;omega) (hw.try l[i]);rw[List.append_assoc]at this;exact this
theorem S8(hG:HG G)(nD:∀o,eQ G o)(s:StateT)(l:List (List aY))(hw:dM s)(h:fU l):FX G 500019 rB ((s,()),(l,()))=some ((fT l s,()),(l,())):=by
 refine aA (hG _ _ rfl) Ri ?_;have h1:FX G 563060 kO ((s,()),(l,(([],()),())))=some ((dU l s,()),(l,((fT l s,()),()))):=by refine aA (hG _ _ rfl) Rk ?_;refine aa (GH hG nD s hw) ?_;exact S7 hG nD l h l.length 0 s [] (by omega) rfl hw
 exact aa h1 rfl
theorem Ta(hG:HG G)(n:Int):FX G 59 BL ((n,()),())=some (([KX 1 (1,n)],()),()):=aA (hG _ _ rfl) abi rfl
theorem VM(n:Int):Fit (KX 1 (1,n)):=⟨Yj,Yj,Yj,by show e0.size≤_;simp[e0,ByteArray.size]⟩
theorem M1(l:List (List aY))(hl:l.length≤1073741824)(h:∀e∈l,∃n:Int,e=[KX 1 (1,n)]):fU l :=⟨hl,fun e he=>by obtain⟨n,rfl⟩:=h e he;simp,fun e he o ho=>by obtain⟨n,rfl⟩:=h e he;rw[List.mem_singleton.1 ho];exact VM n⟩
theorem LG:fT [[KX 1 (1,1)],[KX 1 (1,1)]] zS=[true,false]:=by decide
theorem Pj:(dU [[KX 1 (1,1)]] zS).1.1.length=1:=by decide
theorem ac9(hG:HG G)(nD:∀o,eQ G o):FX G 15 Ib ((),())=some ((true,()),()):=by refine aA (hG _ _ rfl) abe ?_;refine aa (Ta hG 1) (aa (Ta hG 1) ?_);have r2:∀e∈[[KX 1 (1,1)],[KX 1 (1,1)]],∃n:Int,e=[KX 1 (1,n)]:=fun e he=>⟨1,by rcases abw.1 he with rfl|he;rfl;exact List.mem_singleton.1 he⟩;have r1:∀e∈[[KX 1 (1,1)]],∃n:Int,e=[KX 1 (1,n)]:=fun e he=>⟨1,List.mem_singleton.1 he⟩;have h1:=S8 hG nD zS [[KX 1 (1,1)],[KX 1 (1,1)]] dM.zero (M1 _ (by simp) r2);rw[LG]at h1;refine aa h1 ?_;refine ae rfl (ae rfl (aa rfl (ae rfl (ae rfl (aa rfl (ae rfl ?_))))));refine aa (Ta hG 1) ?_;refine aa (Ju hG nD zS [[KX 1 (1,1)]] dM.zero (M1 _ (by simp) r1)) ?_;show some ((((((dU [[KX 1 (1,1)]] zS).1.1.length:Nat):Int)==1,()),()))=_;rw[Pj];rfl
abbrev hiB(h:ig):StateT:=h.1
abbrev PB(h:ig):Int:=h.2.1
abbrev Jv(h:ig):List (List aY):=h.2.2.1
def hiL(h:ig):Int:=PB h+((Jv h).length:Nat)
structure Tb(m:Nat)(h:ig):Prop where
 b:dM (hiB h)
 f0:0≤PB h
 f1:hiL h≤m
 m1:m≤1000000000
 n:(Jv h).length≤64
 r:fU (Jv h)
theorem Tb.zero:Tb 0 (zS,(0,([],()))):=⟨dM.zero,Int.le_refl _,by decide,by decide,adO _,⟨adO _,fun e he=>(by cases he),fun e he=>(by cases he)⟩⟩
def adb(h:ig)(e:List aY):(Int×(Int×Unit))×ig :=if gK e≠0 then((0,(gK e,())),h) else if 64≤(Jv h).length then((0,(20,())),h) else((hiL h+1,(0,())),(hiB h,(PB h,(Jv h++[e],()))))
theorem VN{α:Type}(l:List α):cut l 0 ((l.length:Nat):Int)=l:=by unfold cut;rw[show Int.toNat (0:Int)=0 from rfl,List.drop_zero];exact List.take_of_length_le (by omega)
theorem Tb.mono{m k:Nat}{h:ig}(ho:Tb m h)(hk:m≤k)(h1:k≤1000000000):Tb k h:=⟨ho.b,ho.f0,by have:=ho.f1;omega,h1,ho.n,ho.r⟩
theorem Tb.add{m:Nat}{h:ig}(ho:Tb m h)(hm:m<1000000000){e:List aY}(he:e.length≤1073741824)(hf:∀o∈e,Fit o):Tb (m+1) (adb h e).2:=by
 unfold adb
 split
 ·exact ho.mono (by omega) (by omega)
 split
 ·exact ho.mono (by omega) (by omega)
 ·rename_i h1 h2;have h3:=ho.f1;have hl:hiL h=PB h+((Jv h).length:Nat):=rfl;refine⟨ho.b,ho.f0,?_,by omega,?_,?_,fun p hp=>?_,fun p hp=>?_⟩
  ·show PB h+(((Jv h++[e]).length:Nat):Int)≤_;simp;omega
  ·show(Jv h++[e]).length≤64;simp;omega
  ·show(Jv h++[e]).length≤_;simp;omega
  ·rcases ab0.1 (show p∈Jv h++[e] from hp) with hp|hp
   ·exact ho.r.e p hp
   ·rw[List.mem_singleton.1 hp];exact he
  ·rcases ab0.1 (show p∈Jv h++[e] from hp) with hp|hp
   ·exact ho.r.f p hp
   ·rw[List.mem_singleton.1 hp];exact hf
def hIn(h:ig)(n:Int):Prop:=PB h≤n∧n≤hiL h
instance (h:ig) (n:Int):Decidable (hIn h n):=by unfold hIn;infer_instance
def atH(h:ig)(n:Int):StateT×(Int×Unit):=if hIn h n then(dU ((Jv h).take (n-PB h).toNat) (hiB h),(0,())) else(zS,(26,()))
theorem fU.take{l:List (List aY)}(h:fU l)(n:Nat):fU (l.take n):=h.mem (fun e he=>ad2 he) (by have:=h.n;simp;omega)
theorem fU.drop{l:List (List aY)}(h:fU l)(n:Nat):fU (l.drop n):=h.mem (fun e he=>adW he) (by have:=h.n;simp;omega)
def Xb(h:ig)(n:Int):Int×ig:=if hIn h n then(0,(dU ((Jv h).take (n-PB h).toNat) (hiB h),(n,((Jv h).drop (n-PB h).toNat,())))) else(26,h)
theorem Tb.comp{m:Nat}{h:ig}(ho:Tb m h)(n:Int):Tb m (Xb h n).2:=by
 unfold Xb;have h1:=ho.f0;have h2:=ho.f1;have h3:=ho.n;have hl:hiL h=PB h+((Jv h).length:Nat):=rfl;by_cases hi:hIn h n
 ·rw[if_pos hi];unfold hIn at hi;refine⟨dM.all _ ho.b,by show 0≤n;omega,?_,ho.m1,?_,ho.r.drop _⟩
  ·show n+((((Jv h).drop (n-PB h).toNat).length:Nat):Int)≤m;rw[List.length_drop];omega
  ·show((Jv h).drop (n-PB h).toNat).length≤64;rw[List.length_drop];omega
 ·rw[if_neg hi];exact ho
end Go.Vs
set_option maxRecDepth 1000000
set_option maxHeartbeats 0
namespace Go.Vs
open Go.Proofs
theorem ade{F:FT}{J:JT Ic}{x:((StateT×(StateT×Unit))×Unit)}:cm 58 Ic Tryz.f58 F J x =(F 101 oI ((x.1.1,()),())).bind fun(y1:Wn) =>(F 101 oI ((x.1.2.1,()),())).bind fun(y2:Wn) =>(F 100 L0 ((y1.1.1,y2.1),())).bind fun(y3:Q0) =>some (y3.1,()):=by kernel_rfl
theorem adf{F:FT}{J:JT L0}{x:(((List Int)×((List Int)×Unit))×Unit)}:cm 100 L0 Tryz.f100 F J x = some ((((strOf x.1.1)==(strOf x.1.2.1)),()),()):=by kernel_rfl
theorem adg{F:FT}{J:JT oI}{x:((StateT×Unit)×Unit)}:cm 101 oI Tryz.f101 F J x =(F 129 lk ((x.1.1.1,()),())).bind fun(y1:(((List Int)×(Int×Unit))×Unit)) =>J vY (aZ Tryz.prog 101 0) ((x.1.1.2,((lI x.1.1.2),((0:Int),()))),((),(y1.1.1,()))):=by kernel_rfl
theorem M3{F:FT}{J:JT oI}{x:(((List aM)×(Int×(Int×Unit)))×(Unit×((List Int)×Unit)))}:jC 101 0 oI Tryz.f101 vY F J x = cond (decide (x.1.2.2.1<x.1.2.1)) (((bU x.1.1 x.1.2.2.1)).bind fun(y2:aM) =>J sG (aZ Tryz.prog 101 1) ((x.1.1,(x.1.2.1,(x.1.2.2.1,((lI (y2.1::(y2.2::([]:List ab)))),((0:Int),()))))),((),(x.2.2.1,((y2.1::(y2.2::([]:List ab))),()))))) (some (x.2.2,())):=by kernel_rfl
theorem M4{F:FT}{J:JT oI}{x:(((List aM)×(Int×(Int×(Int×(Int×Unit)))))×(Unit×((List Int)×((List ab)×Unit))))}:jC 101 1 oI Tryz.f101 sG F J x = cond (decide (x.1.2.2.2.2.1<x.1.2.2.2.1)) (cond ((decide ((0:Int)≤x.1.2.2.2.2.1))&&(decide (x.1.2.2.2.2.1<(lI x.2.2.2.1)))) (((x.2.2.2.1)[(Int.toNat x.1.2.2.2.2.1)]?).bind fun(y3:ab) =>(F 130 EB ((x.2.2.1,(y3.1,())),())).bind fun(y4:Wn) =>cond (bJ (List.length y4.1.1) (List.length ((IntKind.wrap .u8 y3.2)::([]:List Int)))) (J sG (aZ Tryz.prog 101 1) ((x.1.1,(x.1.2.1,(x.1.2.2.1,(x.1.2.2.2.1,((wI (x.1.2.2.2.2.1+1)),()))))),((),((y4.1.1++((IntKind.wrap .u8 y3.2)::([]:List Int))),x.2.2.2)))) (none)) (none)) (J vY (aZ Tryz.prog 101 0) ((x.1.1,(x.1.2.1,((wI (x.1.2.2.1+1)),()))),((),(x.2.2.1,())))):=by kernel_rfl
theorem adh{F:FT}{J:JT lk}{x:((ak×Unit)×Unit)}:cm 129 lk Tryz.f129 F J x =(F 150 Ig ((x.1.1,()),())).bind fun(y1:Q2) =>cond (y1.1.1 != 0) (some ((([]:List Int),y1.1),())) (J sH (aZ Tryz.prog 129 0) ((x.1.1.2,((lI x.1.1.2),((0:Int),()))),(((x.1.1,()),()),(([]:List ab),(((IntKind.wrap .u8 (lI x.1.1.2))::([]:List Int)),()))))):=by kernel_rfl
theorem M5{F:FT}{J:JT lk}{x:(((List aq)×(Int×(Int×Unit)))×(((ak×Unit)×Unit)×((List ab)×((List Int)×Unit))))}:jC 129 0 lk Tryz.f129 sH F J x = cond (decide (x.1.2.2.1<x.1.2.1)) (((bU x.1.1 x.1.2.2.1)).bind fun(y2:aq) =>(F 151 EC ((x.2.2.2.1,(y2,())),())).bind fun(y3:Wn) =>J sH (aZ Tryz.prog 129 0) ((x.1.1,(x.1.2.1,((wI (x.1.2.2.1+1)),()))),(((x.2.1.1.1,()),()),((jn (.pair (.int .i64) (.int .i64)) y2.1 x.1.2.2.1 x.2.2.1),y3.1)))) (cond (bJ (List.length x.2.2.2.1) (List.length ((IntKind.wrap .u8 (lI x.2.1.1.1.1))::([]:List Int)))) (J sI (aZ Tryz.prog 129 1) ((x.2.1.1.1.1,((lI x.2.1.1.1.1),((0:Int),()))),((),(x.2.2.1,((x.2.2.2.1++((IntKind.wrap .u8 (lI x.2.1.1.1.1))::([]:List Int))),()))))) (none)):=by kernel_rfl
theorem M6{F:FT}{J:JT lk}{x:(((List ai)×(Int×(Int×Unit)))×(Unit×((List ab)×((List Int)×Unit))))}:jC 129 1 lk Tryz.f129 sI F J x = cond (decide (x.1.2.2.1<x.1.2.1)) (((bU x.1.1 x.1.2.2.1)).bind fun(y4:ai) =>(F 151 EC ((x.2.2.2.1,((y4.1,y4.2.2),())),())).bind fun(y5:Wn) =>cond (bJ (List.length y5.1.1) (List.length ((IntKind.wrap .u8 (lI y4.2.1))::([]:List Int)))) (J vZ (aZ Tryz.prog 129 2) ((x.1.1,(x.1.2.1,(x.1.2.2.1,(y4.2.1,((lI y4.2.1),((0:Int),())))))),((),(x.2.2.1,((y5.1.1++((IntKind.wrap .u8 (lI y4.2.1))::([]:List Int))),()))))) (none)) (some ((x.2.2.2.1,((0:Int),())),())):=by kernel_rfl
theorem M7{F:FT}{J:JT lk}{x:(((List ai)×(Int×(Int×((List ab)×(Int×(Int×Unit))))))×(Unit×((List ab)×((List Int)×Unit))))}:jC 129 2 lk Tryz.f129 vZ F J x = cond (decide (x.1.2.2.2.2.2.1<x.1.2.2.2.2.1)) (((bU x.1.2.2.2.1 x.1.2.2.2.2.2.1)).bind fun(y6:ab) =>cond (bJ (List.length x.2.2.2.1) (List.length ((IntKind.wrap .u8 (wI ((Option.getD (fW (.pair (.int .i64) (.int .i64)) y6.1 x.2.2.1) (0:Int))+(wI ((128:Int)*y6.2)))))::([]:List Int)))) (J vZ (aZ Tryz.prog 129 2) ((x.1.1,(x.1.2.1,(x.1.2.2.1,(x.1.2.2.2.1,(x.1.2.2.2.2.1,((wI (x.1.2.2.2.2.2.1+1)),())))))),((),(x.2.2.1,((x.2.2.2.1++((IntKind.wrap .u8 (wI ((Option.getD (fW (.pair (.int .i64) (.int .i64)) y6.1 x.2.2.1) (0:Int))+(wI ((128:Int)*y6.2)))))::([]:List Int))),()))))) (none)) (J sI (aZ Tryz.prog 129 1) ((x.1.1,(x.1.2.1,((wI (x.1.2.2.1+1)),()))),((),x.2.2))):=by kernel_rfl
theorem adi{F:FT}{J:JT Ig}{x:((ak×Unit)×Unit)}:cm 150 Ig Tryz.f150 F J x =(F 171 Ih ((x.1.1,()),())).bind fun(y1:Q2) =>cond (y1.1.1 != 0) (some (y1.1,())) ((F 172 yL ((x.1.1,()),())).bind fun(y2:Q0) =>cond (not y2.1.1) (some (((11:Int),()),())) (some (((0:Int),()),()))):=by kernel_rfl
theorem adk{F:FT}{J:JT EC}{x:(((List Int)×(aq×Unit))×Unit)}:cm 151 EC Tryz.f151 F J x =(F 130 EB ((x.1.1,(x.1.2.1.1,())),())).bind fun(y1:Wn) =>(F 174 Ii ((y1.1.1,(x.1.2.1.2.1,())),())).bind fun(y2:Wn) =>(F 173 tN ((y2.1.1,(x.1.2.1.2.2,())),())).bind fun(y3:Wn) =>some (y3.1,()):=by kernel_rfl
theorem adl{F:FT}{J:JT Ih}{x:((ak×Unit)×Unit)}:cm 171 Ih Tryz.f171 F J x = cond (decide ((lI x.1.1.1)>24)) (some (((3:Int),()),())) (cond (decide ((lI x.1.1.2)>40)) (some (((3:Int),()),())) ((F 110198 kP ((x.1.1.1,()),())).bind fun(y1:(((List ID)×Unit)×Unit)) =>(F 197 vM (y1.1,())).bind fun(y2:Q0) =>cond (not y2.1.1) (some (((10:Int),()),())) ((F 139199 kQ ((x.1.1.2,()),())).bind fun(y3:(((List ID)×Unit)×Unit)) =>(F 197 vM (y3.1,())).bind fun(y4:Q0) =>cond (not y4.1.1) (some (((10:Int),()),())) ((F 200 ll ((x.1.1,()),())).bind fun(y5:Q0) =>cond (not y5.1.1) (some (((10:Int),()),())) ((F 203201 rC ((x.1.1,()),())).bind fun(y6:Q0) =>cond y6.1.1 (some (((4:Int),()),())) ((F 204201 rD ((x.1.1,()),())).bind fun(y7:Q0) =>cond y7.1.1 (some (((1:Int),()),())) (some (((0:Int),()),())))))))):=by kernel_rfl
theorem adm{F:FT}{J:JT tN}{x:(((List Int)×(Int×Unit))×Unit)}:cm 173 tN Tryz.f173 F J x = cond ((decide ((0:Int)≤(wI ((lI x.1.1)+8))))&&((decide ((wI ((lI x.1.1)+8))≤1073741824))&&(decide ((wI ((lI x.1.1)+8))=(wI ((lI x.1.1)+8)))))) (cond (not (List.isEmpty (List.replicate (Int.toNat (wI ((lI x.1.1)+8))) (0:Int)))) (J p4 (aZ Tryz.prog 173 0) ((x.1.1,(x.1.2.1,((0:Int),()))),((),((mV x.1.1 (List.replicate (Int.toNat (wI ((lI x.1.1)+8))) (0:Int))),())))) (none)) (none):=by kernel_rfl
theorem M8{F:FT}{J:JT tN}{x:(((List Int)×(Int×(Int×Unit)))×(Unit×((List Int)×Unit)))}:jC 173 0 tN Tryz.f173 p4 F J x = cond (decide (x.1.2.2.1<8)) (cond (decide ((wI ((8:Int)*(wI ((7:Int)-x.1.2.2.1))))<0)) (none) (cond ((decide ((0:Int)≤(wI ((lI x.1.1)+x.1.2.2.1))))&&(decide ((wI ((lI x.1.1)+x.1.2.2.1))<(lI x.2.2.1)))) (((x.2.2.1)[(Int.toNat (wI ((lI x.1.1)+x.1.2.2.1)))]?).bind fun(y1:Int) =>J p4 (aZ Tryz.prog 173 0) ((x.1.1,(x.1.2.1,((wI (x.1.2.2.1+1)),()))),((),((List.set x.2.2.1 (Int.toNat (wI ((lI x.1.1)+x.1.2.2.1))) (IntKind.wrap .u8 (gQ .u64 (IntKind.wrap .u64 x.1.2.1) (wI ((8:Int)*(wI ((7:Int)-x.1.2.2.1))))))),())))) (none))) (some (x.2.2,())):=by kernel_rfl
theorem adn{F:FT}{J:JT Ii}{x:(((List Int)×(ByteArray×Unit))×Unit)}:cm 174 Ii Tryz.f174 F J x = cond (bJ (List.length x.1.1) (List.length ((IntKind.wrap .u8 (((ByteArray.size x.1.2.1):Nat):Int))::([]:List Int)))) (cond ((not (List.isEmpty (x.1.1++((IntKind.wrap .u8 (((ByteArray.size x.1.2.1):Nat):Int))::([]:List Int)))))&&(bJ (List.length (x.1.1++((IntKind.wrap .u8 (((ByteArray.size x.1.2.1):Nat):Int))::([]:List Int)))) (ByteArray.size x.1.2.1))) (some (((qR (x.1.1++((IntKind.wrap .u8 (((ByteArray.size x.1.2.1):Nat):Int))::([]:List Int))) x.1.2.1),()),())) (none)) (none):=by kernel_rfl
theorem ado{F:FT}{J:JT vM}{x:(((List ID)×Unit)×Unit)}:cm 197 vM Tryz.f197 F J x = J sJ (aZ Tryz.prog 197 0) ((x.1.1,(x.1.1,((lI x.1.1),((0:Int),())))),((),())):=by kernel_rfl
theorem M9{F:FT}{J:JT vM}{x:(((List ID)×((List ID)×(Int×(Int×Unit))))×(Unit×Unit))}:jC 197 0 vM Tryz.f197 sJ F J x = cond (decide (x.1.2.2.2.1<x.1.2.2.1)) (((bU x.1.2.1 x.1.2.2.2.1)).bind fun(y1:ID) =>(F 159 qI ((y1,()),())).bind fun(y2:Q0) =>cond (not y2.1.1) (some ((false,()),())) (cond (decide (x.1.2.2.2.1>0)) (((bU x.1.1 (wI (x.1.2.2.2.1-1)))).bind fun(y3:ID) =>(F 208 yM ((y3,(y1,())),())).bind fun(y4:Q2) =>cond (decide (y4.1.1≥0)) (some ((false,()),())) (J sJ (aZ Tryz.prog 197 0) ((x.1.1,(x.1.2.1,(x.1.2.2.1,((wI (x.1.2.2.2.1+1)),())))),((),())))) (J sJ (aZ Tryz.prog 197 0) ((x.1.1,(x.1.2.1,(x.1.2.2.1,((wI (x.1.2.2.2.1+1)),())))),((),()))))) (some ((true,()),())):=by kernel_rfl
theorem adp{F:FT}{J:JT ll}{x:((ak×Unit)×Unit)}:cm 200 ll Tryz.f200 F J x = J v5 (aZ Tryz.prog 200 0) ((x.1.1.2,((lI x.1.1.2),((0:Int),()))),(((x.1.1,()),()),(([]:List (ab×Bool)),()))):=by kernel_rfl
theorem Na{F:FT}{J:JT ll}{x:(((List aq)×(Int×(Int×Unit)))×(((ak×Unit)×Unit)×((List (ab×Bool))×Unit)))}:jC 200 0 ll Tryz.f200 v5 F J x = cond (decide (x.1.2.2.1<x.1.2.1)) (((bU x.1.1 x.1.2.2.1)).bind fun(y1:aq) =>J v5 (aZ Tryz.prog 200 0) ((x.1.1,(x.1.2.1,((wI (x.1.2.2.1+1)),()))),(((x.2.1.1.1,()),()),((jn (.pair (.pair (.int .i64) (.int .i64)) (.int .i64)) (y1.1,(1:Int)) true (jn (.pair (.pair (.int .i64) (.int .i64)) (.int .i64)) (y1.1,(0:Int)) true x.2.2.1)),())))) (J sK (aZ Tryz.prog 200 1) ((x.2.1.1.1.1,((lI x.2.1.1.1.1),((0:Int),()))),((),x.2.2))):=by kernel_rfl
theorem Nb{F:FT}{J:JT ll}{x:(((List ai)×(Int×(Int×Unit)))×(Unit×((List (ab×Bool))×Unit)))}:jC 200 1 ll Tryz.f200 sK F J x = cond (decide (x.1.2.2.1<x.1.2.1)) (((bU x.1.1 x.1.2.2.1)).bind fun(y2:ai) =>(F 169 qv ((y2.2.1,()),())).bind fun(y3:Q6) =>(F 221 yR ((y2.2.1,y3.1),())).bind fun(y4:Q0) =>cond (not y4.1.1) (some ((false,()),())) (J sL (aZ Tryz.prog 200 2) ((x.1.1,(x.1.2.1,(x.1.2.2.1,(y2.2.1,((lI y2.2.1),((0:Int),())))))),((),x.2.2)))) (some ((((lI x.2.2.1)==0),()),())):=by kernel_rfl
theorem Nc{F:FT}{J:JT ll}{x:(((List ai)×(Int×(Int×((List ab)×(Int×(Int×Unit))))))×(Unit×((List (ab×Bool))×Unit)))}:jC 200 2 ll Tryz.f200 sL F J x = cond (decide (x.1.2.2.2.2.2.1<x.1.2.2.2.2.1)) (((bU x.1.2.2.2.1 x.1.2.2.2.2.2.1)).bind fun(y5:ab) =>cond (not (Option.getD (fW (.pair (.pair (.int .i64) (.int .i64)) (.int .i64)) y5 x.2.2.1) false)) (some ((false,()),())) (J sL (aZ Tryz.prog 200 2) ((x.1.1,(x.1.2.1,(x.1.2.2.1,(x.1.2.2.2.1,(x.1.2.2.2.2.1,((wI (x.1.2.2.2.2.2.1+1)),())))))),((),((Fh (.pair (.pair (.int .i64) (.int .i64)) (.int .i64)) y5 x.2.2.1),()))))) (J sK (aZ Tryz.prog 200 1) ((x.1.1,(x.1.2.1,((wI (x.1.2.2.1+1)),()))),((),x.2.2))):=by kernel_rfl
theorem adq{F:FT}{J:JT yR}{x:(((List ab)×((List ab)×Unit))×Unit)}:cm 221 yR Tryz.f221 F J x = cond ((lI x.1.1) != (lI x.1.2.1)) (some ((false,()),())) (J v7 (aZ Tryz.prog 221 0) ((x.1.1,(x.1.2.1,((lI x.1.1),((0:Int),())))),((),()))):=by kernel_rfl
theorem Nd{F:FT}{J:JT yR}{x:(((List ab)×((List ab)×(Int×(Int×Unit))))×(Unit×Unit))}:jC 221 0 yR Tryz.f221 v7 F J x = cond (decide (x.1.2.2.2.1<x.1.2.2.1)) (((bU x.1.1 x.1.2.2.2.1)).bind fun(y1:ab) =>((bU x.1.2.1 x.1.2.2.2.1)).bind fun(y2:ab) =>cond (not (((y1.1.1==y2.1.1)&&(y1.1.2==y2.1.2))&&(y1.2==y2.2))) (some ((false,()),())) (J v7 (aZ Tryz.prog 221 0) ((x.1.1,(x.1.2.1,(x.1.2.2.1,((wI (x.1.2.2.2.1+1)),())))),((),())))) (some ((true,()),())):=by kernel_rfl
theorem adr{F:FT}{J:JT EB}{x:(((List Int)×(ID×Unit))×Unit)}:cm 130 EB Tryz.f130 F J x = cond ((aH (List.length x.1.1) (0:Int) (lI x.1.1))&&(decide ((lI x.1.1)=(lI x.1.1)))) (cond (decide ((16:Int)<0)) (none) (cond (decide ((8:Int)<0)) (none) (cond (bJ (List.length (cut x.1.1 (0:Int) (lI x.1.1))) (List.length ((IntKind.wrap .u8 x.1.2.1.1)::((IntKind.wrap .u8 (gQ .i64 x.1.2.1.2 (16:Int)))::((IntKind.wrap .u8 (gQ .i64 x.1.2.1.2 (8:Int)))::((IntKind.wrap .u8 x.1.2.1.2)::([]:List Int))))))) (some ((((cut x.1.1 (0:Int) (lI x.1.1))++((IntKind.wrap .u8 x.1.2.1.1)::((IntKind.wrap .u8 (gQ .i64 x.1.2.1.2 (16:Int)))::((IntKind.wrap .u8 (gQ .i64 x.1.2.1.2 (8:Int)))::((IntKind.wrap .u8 x.1.2.1.2)::([]:List Int)))))),()),())) (none)))) (none):=by kernel_rfl
theorem ads{F:FT}{J:JT ED}{x:((ByteArray×(Int×Unit))×Unit)}:cm 202 ED Tryz.f202 F J x =(F 161 vF ((x.1.1,()),())).bind fun(y1:Q0) =>some (((not y1.1.1),()),()):=by kernel_rfl
theorem adt{F:FT}{J:JT EE}{x:((ByteArray×(Int×Unit))×Unit)}:cm 203 EE Tryz.f203 F J x =(F 162 FQ (x.1.2,())).bind fun(y1:Q0) =>some (((not y1.1.1),()),()):=by kernel_rfl
theorem Td{F:FT}{J:JT kP}{x:(((List ai)×Unit)×Unit)}:cm 110198 kP Tryz.f198 F J x = J mB (aZ Tryz.prog 198 0) ((x.1.1,((lI x.1.1),((0:Int),()))),((),(([]:List ID),()))):=by kernel_rfl
theorem CX{F:FT}{J:JT kP}{x:(((List ai)×(Int×(Int×Unit)))×(Unit×((List ID)×Unit)))}:jC 110198 0 kP Tryz.f198 mB F J x = cond (decide (x.1.2.2.1<x.1.2.1)) (((bU x.1.1 x.1.2.2.1)).bind fun(y1:ai) =>(F 109 BG ((y1,()),())).bind fun(y2:((ID×Unit)×Unit)) =>cond (bJ (List.length x.2.2.1) (List.length (y2.1.1::([]:List ID)))) (J mB (aZ Tryz.prog 198 0) ((x.1.1,(x.1.2.1,((wI (x.1.2.2.1+1)),()))),((),((x.2.2.1++(y2.1.1::([]:List ID))),())))) (none)) (some (x.2.2,())):=by kernel_rfl
theorem Te{F:FT}{J:JT kQ}{x:(((List aq)×Unit)×Unit)}:cm 139199 kQ Tryz.f199 F J x = J mC (aZ Tryz.prog 199 0) ((x.1.1,((lI x.1.1),((0:Int),()))),((),(([]:List ID),()))):=by kernel_rfl
theorem CY{F:FT}{J:JT kQ}{x:(((List aq)×(Int×(Int×Unit)))×(Unit×((List ID)×Unit)))}:jC 139199 0 kQ Tryz.f199 mC F J x = cond (decide (x.1.2.2.1<x.1.2.1)) (((bU x.1.1 x.1.2.2.1)).bind fun(y1:aq) =>(F 138 Ie ((y1,()),())).bind fun(y2:((ID×Unit)×Unit)) =>cond (bJ (List.length x.2.2.1) (List.length (y2.1.1::([]:List ID)))) (J mC (aZ Tryz.prog 199 0) ((x.1.1,(x.1.2.1,((wI (x.1.2.2.1+1)),()))),((),((x.2.2.1++(y2.1.1::([]:List ID))),())))) (none)) (some (x.2.2,())):=by kernel_rfl
theorem Tf{F:FT}{J:JT rC}{x:((ak×Unit)×Unit)}:cm 203201 rC Tryz.f201 F J x =(F 20300224222 ij ((x.1.1.1,()),(((),()),()))).bind fun(y1:Wo) =>cond y1.1.1 (some ((true,()),())) ((F 20300226224 im ((x.1.1.2,()),(((),()),()))).bind fun(y2:Wo) =>some (y2.1,())):=by kernel_rfl
theorem Tg{F:FT}{J:JT rD}{x:((ak×Unit)×Unit)}:cm 204201 rD Tryz.f201 F J x =(F 20400224222 il ((x.1.1.1,()),(((),()),()))).bind fun(y1:Wo) =>cond y1.1.1 (some ((true,()),())) ((F 20400226224 iq ((x.1.1.2,()),(((),()),()))).bind fun(y2:Wo) =>some (y2.1,())):=by kernel_rfl
theorem Dz{F:FT}{J:JT ij}{x:(((List ai)×Unit)×((Unit×Unit)×Unit))}:cm 20300224222 ij Tryz.f222 F J x =(F 20300224236 dp (x.1,(((),()),()))).bind fun(y1:Q46) =>some (((decide (y1.1.1≥0)),()),(((),()),())):=by kernel_rfl
theorem DA{F:FT}{J:JT il}{x:(((List ai)×Unit)×((Unit×Unit)×Unit))}:cm 20400224222 il Tryz.f222 F J x =(F 20400224236 dq (x.1,(((),()),()))).bind fun(y1:Q46) =>some (((decide (y1.1.1≥0)),()),(((),()),())):=by kernel_rfl
theorem DB{F:FT}{J:JT dp}{x:(((List ai)×Unit)×((Unit×Unit)×Unit))}:cm 20300224236 dp Tryz.f236 F J x = J fz (aZ Tryz.prog 236 0) ((x.1.1,((lI x.1.1),((0:Int),()))),((((),()),()),())):=by kernel_rfl
theorem qB{F:FT}{J:JT dp}{x:(((List ai)×(Int×(Int×Unit)))×(((Unit×Unit)×Unit)×Unit))}:jC 20300224236 0 dp Tryz.f236 fz F J x = cond (decide (x.1.2.2.1<x.1.2.1)) (((bU x.1.1 x.1.2.2.1)).bind fun(y1:ai) =>(F 20300000223 ir ((y1,()),(((),()),()))).bind fun(y2:Wo) =>cond y2.1.1 (some (x.1.2.2,(((),()),()))) (J fz (aZ Tryz.prog 236 0) ((x.1.1,(x.1.2.1,((wI (x.1.2.2.1+1)),()))),((((),()),()),())))) (some (((-1:Int),()),(((),()),()))):=by kernel_rfl
theorem DC{F:FT}{J:JT dq}{x:(((List ai)×Unit)×((Unit×Unit)×Unit))}:cm 20400224236 dq Tryz.f236 F J x = J fB (aZ Tryz.prog 236 0) ((x.1.1,((lI x.1.1),((0:Int),()))),((((),()),()),())):=by kernel_rfl
theorem qC{F:FT}{J:JT dq}{x:(((List ai)×(Int×(Int×Unit)))×(((Unit×Unit)×Unit)×Unit))}:jC 20400224236 0 dq Tryz.f236 fB F J x = cond (decide (x.1.2.2.1<x.1.2.1)) (((bU x.1.1 x.1.2.2.1)).bind fun(y1:ai) =>(F 20400000223 iu ((y1,()),(((),()),()))).bind fun(y2:Wo) =>cond y2.1.1 (some (x.1.2.2,(((),()),()))) (J fB (aZ Tryz.prog 236 0) ((x.1.1,(x.1.2.1,((wI (x.1.2.2.1+1)),()))),((((),()),()),())))) (some (((-1:Int),()),(((),()),()))):=by kernel_rfl
theorem DD{F:FT}{J:JT im}{x:(((List aq)×Unit)×((Unit×Unit)×Unit))}:cm 20300226224 im Tryz.f224 F J x =(F 20300226237 dr (x.1,(((),()),()))).bind fun(y1:Q46) =>some (((decide (y1.1.1≥0)),()),(((),()),())):=by kernel_rfl
theorem DE{F:FT}{J:JT iq}{x:(((List aq)×Unit)×((Unit×Unit)×Unit))}:cm 20400226224 iq Tryz.f224 F J x =(F 20400226237 du (x.1,(((),()),()))).bind fun(y1:Q46) =>some (((decide (y1.1.1≥0)),()),(((),()),())):=by kernel_rfl
theorem DF{F:FT}{J:JT dr}{x:(((List aq)×Unit)×((Unit×Unit)×Unit))}:cm 20300226237 dr Tryz.f237 F J x = J fC (aZ Tryz.prog 237 0) ((x.1.1,((lI x.1.1),((0:Int),()))),((((),()),()),())):=by kernel_rfl
theorem qD{F:FT}{J:JT dr}{x:(((List aq)×(Int×(Int×Unit)))×(((Unit×Unit)×Unit)×Unit))}:jC 20300226237 0 dr Tryz.f237 fC F J x = cond (decide (x.1.2.2.1<x.1.2.1)) (((bU x.1.1 x.1.2.2.1)).bind fun(y1:aq) =>(F 20300000225 iv ((y1,()),(((),()),()))).bind fun(y2:Wo) =>cond y2.1.1 (some (x.1.2.2,(((),()),()))) (J fC (aZ Tryz.prog 237 0) ((x.1.1,(x.1.2.1,((wI (x.1.2.2.1+1)),()))),((((),()),()),())))) (some (((-1:Int),()),(((),()),()))):=by kernel_rfl
theorem DG{F:FT}{J:JT du}{x:(((List aq)×Unit)×((Unit×Unit)×Unit))}:cm 20400226237 du Tryz.f237 F J x = J fD (aZ Tryz.prog 237 0) ((x.1.1,((lI x.1.1),((0:Int),()))),((((),()),()),())):=by kernel_rfl
theorem qE{F:FT}{J:JT du}{x:(((List aq)×(Int×(Int×Unit)))×(((Unit×Unit)×Unit)×Unit))}:jC 20400226237 0 du Tryz.f237 fD F J x = cond (decide (x.1.2.2.1<x.1.2.1)) (((bU x.1.1 x.1.2.2.1)).bind fun(y1:aq) =>(F 20400000225 iw ((y1,()),(((),()),()))).bind fun(y2:Wo) =>cond y2.1.1 (some (x.1.2.2,(((),()),()))) (J fD (aZ Tryz.prog 237 0) ((x.1.1,(x.1.2.1,((wI (x.1.2.2.1+1)),()))),((((),()),()),())))) (some (((-1:Int),()),(((),()),()))):=by kernel_rfl
theorem DH{F:FT}{J:JT ir}{x:((ai×Unit)×((Unit×Unit)×Unit))}:cm 20300000223 ir Tryz.f223 F J x =(F 202 ED ((x.1.1.2.2.1,(x.1.1.2.2.2,())),())).bind fun(y1:Q0) =>some (y1.1,(((),()),())):=by kernel_rfl
theorem DI{F:FT}{J:JT iu}{x:((ai×Unit)×((Unit×Unit)×Unit))}:cm 20400000223 iu Tryz.f223 F J x =(F 203 EE ((x.1.1.2.2.1,(x.1.1.2.2.2,())),())).bind fun(y1:Q0) =>some (y1.1,(((),()),())):=by kernel_rfl
theorem DJ{F:FT}{J:JT iv}{x:((aq×Unit)×((Unit×Unit)×Unit))}:cm 20300000225 iv Tryz.f225 F J x =(F 202 ED ((x.1.1.2.1,(x.1.1.2.2,())),())).bind fun(y1:Q0) =>some (y1.1,(((),()),())):=by kernel_rfl
theorem DK{F:FT}{J:JT iw}{x:((aq×Unit)×((Unit×Unit)×Unit))}:cm 20400000225 iw Tryz.f225 F J x =(F 203 EE ((x.1.1.2.1,(x.1.1.2.2,())),())).bind fun(y1:Q0) =>some (y1.1,(((),()),())):=by kernel_rfl
end Go.Vs
namespace Go.Vs
open Go.Proofs
variable {G:(f:FuncId)→(g:aO)→Option (g.A→Option g.B)}
abbrev w8(n:Int):Int:=IntKind.wrap .u8 n
def tu(x:ID):List Int:=[w8 x.1,w8 (gQ .i64 x.2 16),w8 (gQ .i64 x.2 8),w8 x.2]
def Jw(n:Int)(i:Nat):Int:=w8 (gQ .u64 (IntKind.wrap .u64 n) (8*(7-(i:Int))))
def Pk(n:Int):List Int:=(List.range 8).map (Jw n)
def Jx(s:ByteArray):List Int:=w8 ((s.size:Nat):Int)::bytesOf s
def ke(e:aq):List Int:=tu e.1++(Jx e.2.1++Pk e.2.2)
theorem Xc(hG:HG G)(b:List Int)(x:ID)(hb:b.length≤1000000):FX G 130 EB ((b,(x,())),())=some ((b++tu x,()),()):=by
 refine aA (hG _ _ rfl) adr ?_;have ec:cut b 0 (((b.length:Nat)):Int)=b:=VN b;refine ae (cY (show aH b.length 0 (((b.length:Nat)):Int)=true by simp[aH]) (decide_eq_true rfl)) (af rfl (af rfl (ae (fits ?_) ?_)))
 ·show(cut b 0 (((b.length:Nat)):Int)).length+4≤_;rw[ec];omega
 ·exact congrArg (fun l:List Int=>some ((l++tu x,()),())) ec
theorem adu(hG:HG G)(b:List Int)(n:Int)(hb:b.length≤1000000):FX G 173 tN ((b,(n,())),())=some ((b++Pk n,()),()):=by
 refine aA (hG _ _ rfl) adm ?_;have e:wI (lI b+8)=((b.length+8:Nat):Int):=by show IntKind.wrap .i64 (((b.length:Nat):Int)+8)=_;rw[wrap_small (by omega) (by omega)];omega
 have loop:∀(m i:Nat),i+m=8→LX G 173 tN Tryz.f173 p4 (aZ Tryz.prog 173 0) ((b,(n,((i:Int),()))),((),(b++((List.range i).map (Jw n)++List.replicate m 0),())))=some ((b++Pk n,()),()):=by
  intro m
  induction m with
  |zero =>
   intro i hi;have:i=8:=by omega
   subst this;refine aC M8 (af rfl ?_);rw[List.replicate_zero,List.append_nil];rfl
  |succ m ih =>
   intro i hi;have e2:wI ((8:Int)*wI ((7:Int)-(i:Int)))=8*(7-(i:Int)):=by show IntKind.wrap .i64 (8*IntKind.wrap .i64 (7-(i:Int)))=_;rw[wrap_small (n:=7-(i:Int)) (by omega) (by omega),wrap_small (by omega) (by omega)]
   have e3:wI (lI b+(i:Int))=((b.length+i:Nat):Int):=by show IntKind.wrap .i64 (((b.length:Nat):Int)+(i:Int))=_;rw[wrap_small (by omega) (by omega)];omega
   have hal:((List.range i).map (Jw n)).length=i:=by simp
   generalize hA:(List.range i).map (Jw n)=A at hal;have hlen:(b++(A++List.replicate (m+1) (0:Int))).length=b.length+8:=by simp[hal];omega
   refine aC M8 (ae (decide_eq_true (show(i:Int)<8 by omega)) (af (decide_eq_false (by rw[e2];omega)) (ae (cY (decide_eq_true (by rw[e3];omega)) (decide_eq_true ?_)) ?_)))
   ·rw[e3];show((b.length+i:Nat):Int)<(((b++(A++List.replicate (m+1) (0:Int))).length:Nat):Int);rw[hlen];omega
   ·refine aa (a:=(0:Int)) ?_ ?_
    ·show(b++(A++List.replicate (m+1) (0:Int)))[(wI (lI b+(i:Int))).toNat]? = some 0;rw[e3,Int.toNat_natCast,List.getElem?_append_right (by omega),List.getElem?_append_right (by omega),show b.length+i-b.length-A.length=0 by omega];rfl
    ·have e4:List.set (b++(A++List.replicate (m+1) (0:Int))) (wI (lI b+(i:Int))).toNat (IntKind.wrap .u8 (gQ .u64 (IntKind.wrap .u64 n) (wI ((8:Int)*wI ((7:Int)-(i:Int))))))=b++((List.range (i+1)).map (Jw n)++List.replicate m 0):=by rw[e3,e2,Int.toNat_natCast,List.set_append_right _ _ (by omega),List.set_append_right _ _ (by omega),show b.length+i-b.length-A.length=0 by omega,List.replicate_succ,List.set_cons_zero,List.range_succ,List.map_append,hA,List.append_assoc];rfl
     have ew:wI ((i:Int)+1)=((i+1:Nat):Int):=aK (n:=8) (by omega) (by omega);exact(congr (congrArg (fun(k:Int) (r:List Int)=>LX G 173 tN Tryz.f173 p4 (aZ Tryz.prog 173 0) ((b,(n,(k,()))),((),(r,())))) ew) e4).trans (ih (i+1) (by omega))
 refine ae (cY (decide_eq_true (by rw[e];omega)) (cY (decide_eq_true (by rw[e];omega)) (decide_eq_true rfl))) (ae ?_ ?_)
 ·show(!(List.replicate (wI (lI b+8)).toNat (0:Int)).isEmpty)=true;rw[e,Int.toNat_natCast];rfl
 ·have er:mV b (List.replicate (wI (lI b+8)).toNat (0:Int))=b++(([]:List Int)++List.replicate 8 0):=by rw[e,Int.toNat_natCast];unfold mV;rw[List.length_replicate,List.take_of_length_le (by omega),List.drop_replicate,show b.length+8-b.length=8 by omega,List.nil_append]
  exact(congrArg (fun r:List Int=>LX G 173 tN Tryz.f173 p4 (aZ Tryz.prog 173 0) ((b,(n,((0:Int),()))),((),(r,())))) er).trans (loop 8 0 (by omega))
theorem adv(hG:HG G)(b:List Int)(s:ByteArray)(hb:b.length+s.size≤1000000):FX G 174 Ii ((b,(s,())),())=some ((b++Jx s,()),()):=by
 refine aA (hG _ _ rfl) adn ?_;have hl:(b++[w8 ((s.size:Nat):Int)]).length=b.length+1:=by simp
 refine ae (fits (show b.length+1≤_ by omega)) (ae (cY ?_ (fits ?_)) ?_)
 ·show(!(b++[w8 ((s.size:Nat):Int)]).isEmpty)=true
  cases b<;>rfl
 ·show(b++[w8 ((s.size:Nat):Int)]).length+s.size≤_;rw[hl];omega
 ·show some ((((b++[w8 ((s.size:Nat):Int)])++bytesOf s:List Int),()),())=_;rw[List.append_assoc];rfl
theorem Jy(s:ByteArray):(bytesOf s).length=s.size:=by unfold bytesOf;rw[List.length_map,Array.length_toList];rfl
theorem Th(n:Int):(Pk n).length=8:=by simp[Pk]
theorem Fb(s:ByteArray):(Jx s).length=s.size+1:=by show(bytesOf s).length+1=_;rw[Jy]
theorem qk(e:aq):(ke e).length=e.2.1.size+13:=by unfold ke;rw[List.length_append,List.length_append,Fb,Th];show 4+_=_;omega
theorem Xd(hG:HG G)(b:List Int)(e:aq)(hb:b.length+e.2.1.size≤500000):FX G 151 EC ((b,(e,())),())=some ((b++ke e,()),()):=by
 refine aA (hG _ _ rfl) adk ?_;have l1:(b++tu e.1).length=b.length+4:=by simp[tu]
 have l2:((b++tu e.1)++Jx e.2.1).length=b.length+4+(e.2.1.size+1):=by rw[List.length_append,l1,Fb]
 refine aa (Xc hG b e.1 (by omega)) (aa (adv hG _ e.2.1 (by rw[l1];omega)) (aa (adu hG _ e.2.2 (by rw[l2];omega)) ?_));show some (((((b++tu e.1)++Jx e.2.1)++Pk e.2.2,()):List Int×Unit),())=_;rw[List.append_assoc,List.append_assoc];rfl
theorem Xe(hG:HG G)(l:List ID)(hl:l.length≤1000)(hs:l.Pairwise fun a b=>gI a b=true)(hm:∀x∈l,dL x=true):FX G 197 vM ((l,()),())=some ((true,()),()):=by
 refine aA (hG _ _ rfl) ado ?_;have loop:∀(n i:Nat),i+n=l.length→LX G 197 vM Tryz.f197 sJ (aZ Tryz.prog 197 0) ((l,(l,(((l.length:Nat):Int),((i:Int),())))),((),()))=some ((true,()),()):=by
  intro n
  induction n with
  |zero=>intro i hi;exact aC M9 (af (decide_eq_false (show ¬((i:Int)<((l.length:Nat):Int)) by omega)) rfl)
  |succ n ih =>
   intro i hi;have aF:i<l.length:=by omega
   have hx:l[i]? = some l[i]:=abv aF;have ih:=ih (i+1) (by omega);have ew:=aK aF (by omega);refine aC M9 (ae (bg aF) (aa (aR hx) (aa (KU (hG _ _ rfl) _) (af (show(!dL l[i])=false by rw[hm _ (List.getElem_mem aF)];rfl) ?_))));by_cases h0:i=0
   ·refine af (decide_eq_false (show ¬((i:Int)>0) by omega)) ?_;rw[wI,ew];exact ih
   ·have hy:l[i-1]? = some l[i-1]:=abv (by omega);have e2:bU l (IntKind.wrap .i64 ((i:Int)-1))=some l[i-1]:=by rw[VC (by omega) aF (by omega)];exact aR hy
    have h3:=(wj l[i-1] l[i]).2 (ad1.1 hs (i-1) i (by omega) aF (by omega));refine ae (decide_eq_true (show((i:Int)>0) by omega)) (aa e2 (aa (Mt hG _ _) (af (decide_eq_false (show ¬(Cd l[i-1] l[i]≥0) by omega)) ?_)));rw[wI,ew];exact ih
 exact loop l.length 0 (by omega)
theorem adw(hG:HG G)(v:ai):FX G 109 BG ((v,()),())=some ((v.1,()),()):=aA (hG _ _ rfl) Wu rfl
theorem adx(hG:HG G)(v:aq):FX G 138 Ie ((v,()),())=some ((v.1,()),()):=aA (hG _ _ rfl) abl rfl
theorem Ti(hG:HG G)(l:List ai)(hl:l.length≤1000):FX G 110198 kP ((l,()),())=some ((l.map (·.1),()),()):=by refine aA (hG _ _ rfl) Td ?_;exact dz l (fun i (s:List ID)=>LX G 110198 kP Tryz.f198 mB (aZ Tryz.prog 198 0) ((l,(((l.length:Nat):Int),(i,()))),((),(s,())))) (fun r s=>((s++r.map (·.1),()),())) (fun m s=>s.length+m≤1000) (fun s _=>by refine aC CX (af (jD _) ?_);simp only[List.map_nil,List.append_nil];rfl) (fun i x r s hi hx I3 hk ih=>by refine aC CX (ae (bg hi) (aa (aR hx) (aa (adw hG x) (ae (fits (by simp;omega)) ?_))));rw[wI,aK hi (by omega)];refine(ih (s++[x.1]) (by simp;omega)).trans ?_;simp) [] (by simpa using hl)
theorem Tj(hG:HG G)(l:List aq)(hl:l.length≤1000):FX G 139199 kQ ((l,()),())=some ((l.map (·.1),()),()):=by refine aA (hG _ _ rfl) Te ?_;exact dz l (fun i (s:List ID)=>LX G 139199 kQ Tryz.f199 mC (aZ Tryz.prog 199 0) ((l,(((l.length:Nat):Int),(i,()))),((),(s,())))) (fun r s=>((s++r.map (·.1),()),())) (fun m s=>s.length+m≤1000) (fun s _=>by refine aC CY (af (jD _) ?_);simp only[List.map_nil,List.append_nil];rfl) (fun i x r s hi hx I3 hk ih=>by refine aC CY (ae (bg hi) (aa (aR hx) (aa (adx hG x) (ae (fits (by simp;omega)) ?_))));rw[wI,aK hi (by omega)];refine(ih (s++[x.1]) (by simp;omega)).trans ?_;simp) [] (by simpa using hl)
theorem ady(hG:HG G)(l:List ab)(hl:l.length≤1000):FX G 221 yR ((l,l,()),())=some ((true,()),()):=by
 refine aA (hG _ _ rfl) adq ?_;refine af (show((((l.length:Nat):Int)) != ((l.length:Nat):Int))=false by simp) ?_;have loop:∀(n i:Nat),i+n=l.length→LX G 221 yR Tryz.f221 v7 (aZ Tryz.prog 221 0) ((l,(l,(((l.length:Nat):Int),((i:Int),())))),((),()))=some ((true,()),()):=by
  intro n
  induction n with
  |zero=>intro i hi;exact aC Nd (af (decide_eq_false (show ¬((i:Int)<((l.length:Nat):Int)) by omega)) rfl)
  |succ n ih =>
   intro i hi;have aF:i<l.length:=by omega
   have hx:=aR (abv aF);refine aC Nd (ae (bg aF) (aa hx (aa hx (af (by simp) ?_))));rw[wI,aK aF (by omega)];exact ih (i+1) (by omega)
 exact loop l.length 0 (by omega)
structure Left(es:List (ab×Bool))(rem:List ab):Prop where
 p:(es.map (·.1)).Perm rem
 t:∀e∈es,e.2=true
theorem Left.get{es:List (ab×Bool)}{x:ab}{rem:List ab}(h:Left es (x::rem)):(Option.getD (fW bL x es) false)=true:=by
 rw[Ll];have hx:x∈es.map (·.1):=h.p.mem_iff.2 (by simp);have key:∀{l:List (ab×Bool)},(∀e∈l,e.2=true)→x∈l.map (·.1)→eR x l=some true:=by
  intro l
  induction l with
  |nil=>intro _ h;simp at h
  |cons e r ih =>
   intro h1 h2;rw[eR];by_cases he:e.1=x
   ·rw[if_pos he,h1 e (by simp)]
   ·rw[if_neg he];refine ih (fun q hq=>h1 q (by simp[hq])) ?_;simp only[List.map_cons,List.mem_cons]at h2;exact h2.resolve_left fun k=>he k.symm
 rw[key h.t hx];rfl
theorem Left.del{es:List (ab×Bool)}{x:ab}{rem:List ab}(h:Left es (x::rem)):Left (Fh bL x es) rem:=by
 have hx:x∈es.map (·.1):=h.p.mem_iff.2 (by simp);unfold Fh
 split
 ·rename_i i hi;rw[CL]at hi;obtain⟨aF,h1,_⟩:=ad5.1 hi;have h1:es[i].1=x:=of_decide_eq_true h1;refine⟨?_,fun e he=>h.t e (List.mem_of_mem_eraseIdx he)⟩;have h2:es.Perm (es[i]::es.eraseIdx i):=by
   rw[List.eraseIdx_eq_take_drop_succ]
   conv=>lhs;rw[←List.take_append_drop i es,List.drop_eq_getElem_cons aF]
   exact adR
  have h3:=(h2.map (·.1)).symm.trans h.p;rw[List.map_cons,h1]at h3;exact h3.cons_inv
 ·rename_i hi;rw[CL,List.findIdx?_eq_none_iff]at hi;obtain⟨e,he,h1⟩:=acx.1 hx;have:=hi e he;simp[h1]at this
theorem wG:∀l:List aq,(ends l).length=2*l.length
 |[]=>rfl
 |e::r=>by rw[fL];simp[wG r];omega
def tr(es:List ab):List (ab×Bool):=es.map fun x=>(x,true)
theorem Ng(es:List ab):(tr es).map (·.1)=es:=by unfold tr;rw[List.map_map,show((fun e:ab×Bool=>e.1) ∘ fun x=>(x,true))=id from rfl,List.map_id]
theorem Y0(a b:List ab):tr (a++b)=tr a++tr b:=List.map_append
theorem Nh(x:ab)(es:List ab)(h:x∉es):jn bL x true (tr es)=tr (es++[x]):=by rw[Y0];exact Jb true (by rw[Ng];exact h)
theorem adz(hG:HG G)(d:ak)(h:Wf d):FX G 200 ll ((d,()),())=some ((true,()),()):=by
 have JZ:=h.nv;have aW:=h.ne;have hen:=wG d.2;have F3:(aj d.1).length≤80:=by rw[h.pd.length_eq,hen];omega
 refine aA (hG _ _ rfl) adp ?_;have Oo:∀es,Left es (aj d.1)→LX G 200 ll Tryz.f200 sK (aZ Tryz.prog 200 1) ((d.1,(((d.1.length:Nat):Int),((0:Int),()))),((),(es,())))=some ((true,()),()):=by
  intro es hes;exact dz d.1 (fun i (s:List (ab×Bool)×List ai)=>LX G 200 ll Tryz.f200 sK (aZ Tryz.prog 200 1) ((d.1,(((d.1.length:Nat):Int),(i,()))),((),(s.1,())))) (fun r s=>((true,()),())) (fun m s=>Left s.1 (aj s.2)∧s.2.length=m∧∃p,p++s.2=d.1) (fun s hs=>by
    obtain⟨h1,h2,_⟩:=hs;have h3:s.2=[]:=ace h2;rw[h3]at h1;have h4:s.1=[]:=by have:=h1.p.length_eq;simpa[aj] using this
    refine aC Nb (af (jD _) ?_);rw[h4];rfl)
   (fun i v r s hi hv I3 hk ih=>by
    obtain⟨h1,h2,p,hp⟩:=hk;have Tw:p.length=i:=by have:=congrArg List.length hp;rw[List.length_append]at this;omega
    obtain⟨s1,s2⟩:=s
    cases s2 with
    |nil=>simp at h2
    |cons v' r' =>
     have zn:v'=v:=by have:=hv;rw[←hp,List.getElem?_append_right (by omega),Tw,Nat.sub_self]at this;simpa using this
     subst zn;have hm:v'∈d.1:=acy hv;have ht:=(h.gv v' hm).t;have N2:v'.2.1.length≤80:=by
      have:v'.2.1.length≤(aj d.1).length:=by rw[←hp,jf,eg];simp;omega
      omega
     refine aC Nb (ae (bg hi) (aa (aR hv) (aa (Cl hG _ (by omega)) ?_)));rw[ht];refine aa (ady hG _ (by omega)) (af rfl ?_);have ew:=aK hi (by omega);have Y1:∀es,Left es (v'.2.1++aj r')→LX G 200 ll Tryz.f200 sL (aZ Tryz.prog 200 2) ((d.1,(((d.1.length:Nat):Int),((i:Int),(v'.2.1,(((v'.2.1.length:Nat):Int),((0:Int),())))))),((),(es,())))=some ((true,()),()):=by
      intro es hes;exact dz v'.2.1 (fun k (s:List (ab×Bool)×List ab)=>LX G 200 ll Tryz.f200 sL (aZ Tryz.prog 200 2) ((d.1,(((d.1.length:Nat):Int),((i:Int),(v'.2.1,(((v'.2.1.length:Nat):Int),(k,())))))),((),(s.1,())))) (fun r s=>((true,()),())) (fun m s=>Left s.1 (s.2++aj r')∧s.2.length=m∧∃p,p++s.2=v'.2.1) (fun s hs=>by obtain⟨h5,h6,_⟩:=hs;have h7:s.2=[]:=ace h6;rw[h7,List.nil_append]at h5;refine aC Nc (af (jD _) ?_);rw[wI,ew];exact ih (s.1,r') ⟨h5,by simp at h2;omega,p++[v'],by simpa using hp⟩) (fun k x q s hk hx hqq hh ih2=>by
        obtain⟨h5,h6,p2,hp2⟩:=hh;have ahU:p2.length=k:=by have:=congrArg List.length hp2;rw[List.length_append]at this;omega
        obtain⟨s1,s2⟩:=s
        cases s2 with
        |nil=>simp at h6
        |cons x' q' =>
         have T6:x'=x:=by have:=hx;rw[←hp2,List.getElem?_append_right (by omega),ahU,Nat.sub_self]at this;simpa using this
         subst T6;refine aC Nc (ae (bg hk) (aa (aR hx) (af ?_ ?_)))
         ·show(!(Option.getD (fW bL x' s1) false))=false;rw[Left.get h5];rfl
         ·rw[wI,aK hk (by omega)];exact ih2 (Fh bL x' s1,q') ⟨Left.del h5,by simp at h6;omega,p2++[x'],by simpa using hp2⟩)
       (es,v'.2.1) ⟨hes,rfl,[],rfl⟩
     exact Y1 s1 (by rw[eg]at h1;exact h1))
   (es,d.1) ⟨hes,rfl,[],rfl⟩
 have zQ:=uI h.se;exact dz d.2 (fun i (s:List (ab×Bool))=>LX G 200 ll Tryz.f200 v5 (aZ Tryz.prog 200 0) ((d.2,(((d.2.length:Nat):Int),(i,()))),(((d,()),()),(s,())))) (fun r s=>((true,()),())) (fun m s=>∃p,s=tr (ends p)∧∃r,p++r=d.2∧r.length=m) (fun s hs=>by
   obtain⟨p,rfl,r,hp,hr⟩:=hs;have h0:r=[]:=ace hr;rw[h0,List.append_nil]at hp;subst hp;refine aC Na (af (jD _) ?_);refine Oo _ ⟨?_,fun e he=>?_⟩
   ·rw[Ng];exact h.pd.symm
   ·obtain⟨x,_,rfl⟩:=acx.1 he;rfl)
  (fun i e r s hi he I3 hk ih=>by
   obtain⟨p,rfl,q,hp,hq⟩:=hk;have Tw:p.length=i:=by have:=congrArg List.length hp;rw[List.length_append]at this;omega
   cases q with
   |nil=>simp at hq
   |cons e' q' =>
    have JB:e'=e:=by have:=he;rw[←hp,List.getElem?_append_right (by omega),Tw,Nat.sub_self]at this;simpa using this
    subst JB;refine aC Na (ae (bg hi) (aa (aR he) ?_));rw[wI,aK hi (by omega)];rw[←hp,IK,fL]at zQ;obtain⟨_,h6,h7⟩:=adK.1 zQ;have e0:ends (p++[e'])=(ends p++[(e'.1,0)])++[(e'.1,1)]:=by rw[IK,fL,show ends []=[] from rfl,List.append_assoc];rfl
    have m1:=Nh (e'.1,0) (ends p) fun k=>h7 _ k _ (by simp) rfl;have m2:=Nh (e'.1,1) (ends p++[(e'.1,0)]) fun k=>by
     rcases ab0.1 k with k|k
     ·exact h7 _ k _ (by simp) rfl
     ·simp at k
    rw[←e0]at m2;have:=ih (tr (ends (p++[e']))) ⟨p++[e'],rfl,q',by simpa using hp,by simp at hq;omega⟩;rw[←m2,←m1]at this;exact this)
  [] ⟨[],rfl,d.2,rfl,rfl⟩
theorem Xf(hG:HG G)(s:ByteArray)(n:Int)(hs:s.size≤100000000):FX G 202 ED ((s,(n,())),())=some ((!lB s,()),()):=aA (hG _ _ rfl) ads (aa (abO (hG _ _ rfl) s hs) rfl)
theorem Xg(hG:HG G)(s:ByteArray)(n:Int):FX G 203 EE ((s,(n,())),())=some ((!mG n,()),()):=aA (hG _ _ rfl) adt (aa (abP (hG _ _ rfl) n) rfl)
theorem DL(hG:HG G)(v:ai)(h:lB v.2.2.1=true):FX G 20300000223 ir ((v,()),(((),()),()))=some ((false,()),(((),()),())):=by refine aA (hG _ _ rfl) DH (aa (Xf hG v.2.2.1 v.2.2.2 (by have:=xO h;omega)) ?_);show some (((!lB v.2.2.1,()):Bool×Unit),_)=_;rw[h];rfl
theorem DM(hG:HG G)(l:List ai)(hl:l.length≤1000)(h:∀v∈l,lB v.2.2.1=true):FX G 20300224236 dp ((l,()),(((),()),()))=some (((-1:Int),()),(((),()),())):=by
 refine aA (hG _ _ rfl) DB ?_;have loop:∀(n i:Nat),i+n=l.length→LX G 20300224236 dp Tryz.f236 fz (aZ Tryz.prog 236 0) ((l,(((l.length:Nat):Int),((i:Int),()))),((((),()),()),()))=some (((-1:Int),()),(((),()),())):=by
  intro n
  induction n with
  |zero=>intro i hi;exact aC qB (af (decide_eq_false (show ¬((i:Int)<((l.length:Nat):Int)) by omega)) rfl)
  |succ n ih =>
   intro i hi;have aF:i<l.length:=by omega
   refine aC qB (ae (bg aF) (aa (aR (abv aF)) (aa (DL hG _ (h _ (acC aF))) (af rfl ?_))));rw[wI,aK aF (by omega)];exact ih (i+1) (by omega)
 exact loop l.length 0 (by omega)
theorem DN(hG:HG G)(l:List ai)(hl:l.length≤1000)(h:∀v∈l,lB v.2.2.1=true):FX G 20300224222 ij ((l,()),(((),()),()))=some ((false,()),(((),()),())):=aA (hG _ _ rfl) Dz (aa (DM hG l hl h) rfl)
theorem DO(hG:HG G)(v:aq)(h:lB v.2.1=true):FX G 20300000225 iv ((v,()),(((),()),()))=some ((false,()),(((),()),())):=by refine aA (hG _ _ rfl) DJ (aa (Xf hG v.2.1 v.2.2 (by have:=xO h;omega)) ?_);show some (((!lB v.2.1,()):Bool×Unit),_)=_;rw[h];rfl
theorem DP(hG:HG G)(l:List aq)(hl:l.length≤1000)(h:∀v∈l,lB v.2.1=true):FX G 20300226237 dr ((l,()),(((),()),()))=some (((-1:Int),()),(((),()),())):=by
 refine aA (hG _ _ rfl) DF ?_;have loop:∀(n i:Nat),i+n=l.length→LX G 20300226237 dr Tryz.f237 fC (aZ Tryz.prog 237 0) ((l,(((l.length:Nat):Int),((i:Int),()))),((((),()),()),()))=some (((-1:Int),()),(((),()),())):=by
  intro n
  induction n with
  |zero=>intro i hi;exact aC qD (af (decide_eq_false (show ¬((i:Int)<((l.length:Nat):Int)) by omega)) rfl)
  |succ n ih =>
   intro i hi;have aF:i<l.length:=by omega
   refine aC qD (ae (bg aF) (aa (aR (abv aF)) (aa (DO hG _ (h _ (acC aF))) (af rfl ?_))));rw[wI,aK aF (by omega)];exact ih (i+1) (by omega)
 exact loop l.length 0 (by omega)
theorem DQ(hG:HG G)(l:List aq)(hl:l.length≤1000)(h:∀v∈l,lB v.2.1=true):FX G 20300226224 im ((l,()),(((),()),()))=some ((false,()),(((),()),())):=aA (hG _ _ rfl) DD (aa (DP hG l hl h) rfl)
theorem Tk(hG:HG G)(d:ak)(h1:d.1.length≤1000)(h2:d.2.length≤1000)(hv:∀v∈d.1,lB v.2.2.1=true)(he:∀v∈d.2,lB v.2.1=true):FX G 203201 rC ((d,()),())=some ((false,()),()) :=aA (hG _ _ rfl) Tf (aa (DN hG d.1 h1 hv) (af rfl (aa (DQ hG d.2 h2 he) rfl)))
theorem DR(hG:HG G)(v:ai)(h:mG v.2.2.2=true):FX G 20400000223 iu ((v,()),(((),()),()))=some ((false,()),(((),()),())):=by refine aA (hG _ _ rfl) DI (aa (Xg hG v.2.2.1 v.2.2.2) ?_);show some (((!mG v.2.2.2,()):Bool×Unit),_)=_;rw[h];rfl
theorem DS(hG:HG G)(l:List ai)(hl:l.length≤1000)(h:∀v∈l,mG v.2.2.2=true):FX G 20400224236 dq ((l,()),(((),()),()))=some (((-1:Int),()),(((),()),())):=by
 refine aA (hG _ _ rfl) DC ?_;have loop:∀(n i:Nat),i+n=l.length→LX G 20400224236 dq Tryz.f236 fB (aZ Tryz.prog 236 0) ((l,(((l.length:Nat):Int),((i:Int),()))),((((),()),()),()))=some (((-1:Int),()),(((),()),())):=by
  intro n
  induction n with
  |zero=>intro i hi;exact aC qC (af (decide_eq_false (show ¬((i:Int)<((l.length:Nat):Int)) by omega)) rfl)
  |succ n ih =>
   intro i hi;have aF:i<l.length:=by omega
   refine aC qC (ae (bg aF) (aa (aR (abv aF)) (aa (DR hG _ (h _ (acC aF))) (af rfl ?_))));rw[wI,aK aF (by omega)];exact ih (i+1) (by omega)
 exact loop l.length 0 (by omega)
theorem DT(hG:HG G)(l:List ai)(hl:l.length≤1000)(h:∀v∈l,mG v.2.2.2=true):FX G 20400224222 il ((l,()),(((),()),()))=some ((false,()),(((),()),())):=aA (hG _ _ rfl) DA (aa (DS hG l hl h) rfl)
theorem DU(hG:HG G)(v:aq)(h:mG v.2.2=true):FX G 20400000225 iw ((v,()),(((),()),()))=some ((false,()),(((),()),())):=by refine aA (hG _ _ rfl) DK (aa (Xg hG v.2.1 v.2.2) ?_);show some (((!mG v.2.2,()):Bool×Unit),_)=_;rw[h];rfl
theorem DV(hG:HG G)(l:List aq)(hl:l.length≤1000)(h:∀v∈l,mG v.2.2=true):FX G 20400226237 du ((l,()),(((),()),()))=some (((-1:Int),()),(((),()),())):=by
 refine aA (hG _ _ rfl) DG ?_;have loop:∀(n i:Nat),i+n=l.length→LX G 20400226237 du Tryz.f237 fD (aZ Tryz.prog 237 0) ((l,(((l.length:Nat):Int),((i:Int),()))),((((),()),()),()))=some (((-1:Int),()),(((),()),())):=by
  intro n
  induction n with
  |zero=>intro i hi;exact aC qE (af (decide_eq_false (show ¬((i:Int)<((l.length:Nat):Int)) by omega)) rfl)
  |succ n ih =>
   intro i hi;have aF:i<l.length:=by omega
   refine aC qE (ae (bg aF) (aa (aR (abv aF)) (aa (DU hG _ (h _ (acC aF))) (af rfl ?_))));rw[wI,aK aF (by omega)];exact ih (i+1) (by omega)
 exact loop l.length 0 (by omega)
theorem DW(hG:HG G)(l:List aq)(hl:l.length≤1000)(h:∀v∈l,mG v.2.2=true):FX G 20400226224 iq ((l,()),(((),()),()))=some ((false,()),(((),()),())):=aA (hG _ _ rfl) DE (aa (DV hG l hl h) rfl)
theorem Tl(hG:HG G)(d:ak)(h1:d.1.length≤1000)(h2:d.2.length≤1000)(hv:∀v∈d.1,mG v.2.2.2=true)(he:∀v∈d.2,mG v.2.2=true):FX G 204201 rD ((d,()),())=some ((false,()),()) :=aA (hG _ _ rfl) Tg (aa (DT hG d.1 h1 hv) (af rfl (aa (DW hG d.2 h2 he) rfl)))
theorem adA(hG:HG G)(d:ak)(h:Wf d):FX G 171 Ih ((d,()),())=some (((0:Int),()),()):=by have JZ:=h.nv;have aW:=h.ne;obtain⟨n1,n2,n3,n4⟩:=SO h;refine aA (hG _ _ rfl) adl ?_;refine af (decide_eq_false (show ¬(((d.1.length:Nat):Int)>24) by omega)) (af (decide_eq_false (show ¬(((d.2.length:Nat):Int)>40) by omega)) ?_);refine aa (Ti hG d.1 (by omega)) (aa (Xe hG _ (by rw[List.length_map];omega) n1 n2) (af rfl ?_));refine aa (Tj hG d.2 (by omega)) (aa (Xe hG _ (by rw[List.length_map];omega) n3 n4) (af rfl ?_));refine aa (adz hG d h) (af rfl (aa (Tk hG d (by omega) (by omega) (fun v hv=>(h.gv v hv).l) fun v hv=>(h.ge v hv).l) (af rfl ?_)));exact aa (Tl hG d (by omega) (by omega) (fun v hv=>(h.gv v hv).a) fun v hv=>(h.ge v hv).a) (af rfl rfl)
theorem adB(hG:HG G)(hp:rN G)(d:ak)(h:Wf d)(hg:bK d=0):FX G 150 Ig ((d,()),())=some (((0:Int),()),()):=by refine aA (hG _ _ rfl) adi (aa (adA hG d h) (af rfl ?_));refine aa (hp d h) (af ?_ rfl);show(!decide (bK d=0))=false;rw[decide_eq_true hg];rfl
def dG:List aq→Nat→List (ID×Int)
 |[],_=>[]
 |e::r,i=>(e.1,(i:Int))::dG r (i+1)
theorem CZ:∀(a b:List aq) (i:Nat),dG (a++b) i=dG a i++dG b (i+a.length)
 |[],_,_=>rfl
 |e::r,b,i=>by rw[List.cons_append,dG,dG,CZ r b (i+1),List.length_cons,List.cons_append,show i+1+r.length=i+(r.length+1) by omega]
theorem zd:∀(l:List aq) (i:Nat),(dG l i).map (·.1)=l.map (·.1)
 |[],_=>rfl
 |e::r,i=>by rw[dG,List.map_cons,List.map_cons,zd r]
theorem Y2{α:Type}(x:ID)(es:List (ID×α)):qQ jZ x es=es.findIdx? fun e=>decide (e.1=x):=by
 show List.findIdx? (fun e:ID×α=>((x.1==e.1.1)&&(x.2==e.1.2))) es=_;congr 1;funext e;rw[Cc x e.1];by_cases h:x=e.1
 ·rw[decide_eq_true h,decide_eq_true h.symm]
 ·rw[decide_eq_false h,decide_eq_false (fun k=>h k.symm)]
theorem Y3{α:Type}{x:ID}(v:α){es:List (ID×α)}(h:x∉es.map (·.1)):jn jZ x v es=es++[(x,v)]:=by
 have e:qQ jZ x es=none:=by rw[Y2,List.findIdx?_eq_none_iff];intro q hq;exact decide_eq_false fun k=>h (acx.2 ⟨q,hq,k⟩)
 unfold jn
 split
 ·rename_i i k;rw[e]at k;cases k
 ·rfl
def Tn(pl:List (ID×Int))(y:ab):Int:=w8 (wI ((Option.getD (fW jZ y.1 pl) (0:Int))+(wI ((128:Int)*y.2))))
def ze(pl:List (ID×Int))(v:ai):List Int:=ke (v.1,v.2.2)++(w8 ((v.2.1.length:Nat):Int)::v.2.1.map (Tn pl))
def Tp(d:ak):List Int:=w8 ((d.2.length:Nat):Int)::(d.2.flatMap ke++(w8 ((d.1.length:Nat):Int)::d.1.flatMap (ze (dG d.2 0))))
def Fc(g:aM):List Int:=tu g.1.1++(w8 g.1.2::(tu g.2.1++[w8 g.2.2]))
def LH(s:StateT):List Int:=Tp s.1++s.2.flatMap Fc
theorem Ap{s:ByteArray}(h:lB s=true):s.size≤16:=xO h
theorem adC(hG:HG G)(hp:rN G)(d:ak)(h:Wf d)(hg:bK d=0):FX G 129 lk ((d,()),())=some ((Tp d,((0:Int),())),()):=by
 have JZ:=h.nv;have aW:=h.ne;have F3:(aj d.1).length≤80:=by rw[h.pd.length_eq,wG];omega
 have adD:∀v∈d.1,v.2.1.length≤80:=fun v hv=>by obtain⟨a,b,he⟩:=adM hv;rw[he,jf,eg]at F3;simp at F3;omega
 refine aA (hG _ _ rfl) adh (aa (adB hG hp d h hg) (af rfl ?_));have Oo:∀b:List Int,b.length≤20000→LX G 129 lk Tryz.f129 sI (aZ Tryz.prog 129 1) ((d.1,(((d.1.length:Nat):Int),((0:Int),()))),((),(dG d.2 0,(b,()))))=some ((b++d.1.flatMap (ze (dG d.2 0)),((0:Int),())),()):=by
  intro b hb;exact dz d.1 (fun i (s:List Int)=>LX G 129 lk Tryz.f129 sI (aZ Tryz.prog 129 1) ((d.1,(((d.1.length:Nat):Int),(i,()))),((),(dG d.2 0,(s,()))))) (fun r s=>((s++r.flatMap (ze (dG d.2 0)),((0:Int),())),())) (fun m s=>s.length+m*200≤40000) (fun s hs=>by refine aC M6 (af (jD _) ?_);simp only[List.flatMap_nil,List.append_nil]) (fun i v r s hi hv I3 hk ih=>by
    have hm:v∈d.1:=acy hv;have gE:=Ap (h.gv v hm).l;have N2:=adD v hm;have l1:(s++ke (v.1,v.2.2)).length=s.length+(v.2.2.1.size+13):=by rw[List.length_append,qk]
    refine aC M6 (ae (bg hi) (aa (aR hv) (aa (Xd hG s (v.1,v.2.2) (by show s.length+v.2.2.1.size≤_;omega)) (ae (fits ?_) ?_))))
    ·show(s++ke (v.1,v.2.2)).length+1≤_;rw[l1];omega
    have ew:=aK hi (by omega);have Y1:=dz v.2.1 (fun k (q:List Int)=>LX G 129 lk Tryz.f129 vZ (aZ Tryz.prog 129 2) ((d.1,(((d.1.length:Nat):Int),((i:Int),(v.2.1,(((v.2.1.length:Nat):Int),(k,())))))),((),(dG d.2 0,(q,()))))) (fun r' q=>(((q++r'.map (Tn (dG d.2 0)))++r.flatMap (ze (dG d.2 0)),((0:Int),())),())) (fun m q=>q.length+m=s.length+(v.2.2.1.size+14)+v.2.1.length) (fun q hq=>by refine aC M7 (af (jD _) ?_);rw[wI,ew];refine(ih q (by omega)).trans ?_;simp only[List.map_nil,List.append_nil]) (fun k x r' q wK hx hqq hh ih2=>by refine aC M7 (ae (bg wK) (aa (aR hx) (ae (fits (show q.length+1≤_ by omega)) ?_)));rw[wI,aK wK (by omega)];refine(ih2 (q++[Tn (dG d.2 0) x]) (by simp;omega)).trans ?_;simp only[List.map_cons,List.append_assoc,List.singleton_append,List.cons_append,List.nil_append]) ((s++ke (v.1,v.2.2))++[w8 ((v.2.1.length:Nat):Int)]) (by rw[List.length_append,l1];simp;omega);refine Y1.trans ?_;simp only[List.flatMap_cons,ze,List.append_assoc,List.singleton_append,List.cons_append,List.nil_append])
   b (by omega)
 have T7:=h.se;have key:=dz d.2 (fun i (s:List aq×List Int)=>LX G 129 lk Tryz.f129 sH (aZ Tryz.prog 129 0) ((d.2,(((d.2.length:Nat):Int),(i,()))),(((d,()),()),(dG s.1 0,(s.2,()))))) (fun r s=>(((s.2++r.flatMap ke)++(w8 ((d.1.length:Nat):Int)::d.1.flatMap (ze (dG d.2 0))),((0:Int),())),())) (fun m s=>s.2.length+m*50≤10000∧∃r,s.1++r=d.2∧r.length=m) (fun s hs=>by obtain⟨h1,r,h2,h3⟩:=hs;have h0:r=[]:=ace h3;rw[h0,List.append_nil]at h2;refine aC M5 (af (jD _) (ae (fits (show s.2.length+1≤_ by omega)) ?_));rw[h2];refine(Oo (s.2++[w8 ((d.1.length:Nat):Int)]) (by simp;omega)).trans ?_;simp only[List.flatMap_nil,List.append_nil,List.append_assoc,List.singleton_append,List.cons_append,List.nil_append];rfl) (fun i e r s hi he I3 hk ih=>by
   obtain⟨p,b⟩:=s;obtain⟨h1,q,hq,hql⟩:=hk;have hq:p++q=d.2:=hq;have Tw:p.length=i:=by have:=congrArg List.length hq;rw[List.length_append]at this;omega
   cases q with
   |nil=>simp at hql
   |cons e' q' =>
    have JB:e'=e:=by have:=he;rw[←hq,List.getElem?_append_right (by omega),Tw,Nat.sub_self]at this;simpa using this
    subst JB;have hm:e'∈d.2:=acy he;have gE:=Ap (h.ge e' hm).l;have h1:b.length+(r.length+1)*50≤10000:=h1;refine aC M5 (ae (bg hi) (aa (aR he) (aa (Xd hG b e' (by omega)) ?_)));have Ye:e'.1∉(dG p 0).map (·.1):=by rw[zd];intro k;obtain⟨u,hu,hue⟩:=acx.1 k;have h5:=T7;rw[←hq]at h5;have:=(List.pairwise_append.1 h5).2.2 u hu e' (by simp);rw[hue,bV]at this;cases this
    have m1:jn jZ e'.1 (i:Int) (dG p 0)=dG (p++[e']) 0:=by rw[CZ,Nat.zero_add,Tw];exact Y3 (i:Int) Ye
    have ew:=aK hi (by omega);have:=ih (p++[e'],b++ke e') ⟨by show(b++ke e').length+_≤_;rw[List.length_append,qk];omega,q',by simpa using hq,by simp at hql;omega⟩;refine(congr (congrArg (fun(k:Int) (pl:List (ID×Int))=>LX G 129 lk Tryz.f129 sH (aZ Tryz.prog 129 0) ((d.2,(((d.2.length:Nat):Int),(k,()))),(((d,()),()),(pl,(b++ke e',()))))) ew) m1).trans (this.trans ?_);simp only[List.flatMap_cons,List.append_assoc])
  ([],[w8 ((d.2.length:Nat):Int)]) ⟨by show 1+d.2.length*50≤_;omega,d.2,rfl,rfl⟩
 exact key
theorem C0{α β:Type}(f:α→List β)(k:Nat):∀l:List α,(∀e∈l,(f e).length≤k)→(l.flatMap f).length≤k*l.length
 |[],_=>by simp
 |e::r,h=>by have h1:=h e (by simp);have h2:=C0 f k r fun q hq=>h q (by simp[hq]);rw[List.flatMap_cons,List.length_append,List.length_cons,Nat.mul_succ];omega
theorem Tq{d:ak}(h:Wf d):(Tp d).length≤5000:=by
 have JZ:=h.nv;have aW:=h.ne;have F3:(aj d.1).length≤80:=by rw[h.pd.length_eq,wG];omega
 have h1:=C0 ke 29 d.2 fun e he=>by have:=Ap (h.ge e he).l;rw[qk];omega
 have h2:=C0 (ze (dG d.2 0)) 110 d.1 fun v hv=>by have:=Ap (h.gv v hv).l;obtain⟨a,b,he⟩:=adM hv;rw[he,jf,eg]at F3;unfold ze;rw[List.length_append,qk,List.length_cons,List.length_map];simp at F3 ⊢;omega
 unfold Tp;rw[List.length_cons,List.length_append,List.length_cons];omega
theorem Pn(g:aM):(Fc g).length=10:=rfl
theorem Xh(hG:HG G)(hp:rN G)(s:StateT)(h:dM s)(hg:bK s.1=0):FX G 101 oI ((s,()),())=some ((LH s,()),()):=by
 have hgn:=h.n;refine aA (hG _ _ rfl) adg (aa (adC hG hp s.1 h.d hg) ?_);exact dz s.2 (fun i (b:List Int)=>LX G 101 oI Tryz.f101 vY (aZ Tryz.prog 101 0) ((s.2,(((s.2.length:Nat):Int),(i,()))),((),(b,())))) (fun r b=>((b++r.flatMap Fc,()),())) (fun m b=>b.length+m*10≤10000) (fun b hb=>by refine aC M3 (af (jD _) ?_);simp only[List.flatMap_nil,List.append_nil];rfl) (fun i g r b hi hx I3 hk ih=>by
   have ew:=aK hi (by omega);refine aC M3 (ae (bg hi) (aa (aR hx) ?_));have st:∀(k:Nat) (x:ab) (b:List Int) {z},b.length≤20000→([g.1,g.2]:List ab)[k]? = some x→k<2 → LX G 101 oI Tryz.f101 sG (aZ Tryz.prog 101 1) ((s.2,(((s.2.length:Nat):Int),((i:Int),((2:Int),(((k+1:Nat):Int),()))))),((),((b++tu x.1)++[w8 x.2],([g.1,g.2],()))))=some z → LX G 101 oI Tryz.f101 sG (aZ Tryz.prog 101 1) ((s.2,(((s.2.length:Nat):Int),((i:Int),((2:Int),((k:Int),()))))),((),(b,([g.1,g.2],()))))=some z:=by
    intro k x b z hb hx mY hn;have l1:(b++tu x.1).length=b.length+4:=by simp[tu]
    refine aC M4 (ae (decide_eq_true (show(k:Int)<2 by omega)) (ae (cY (decide_eq_true (show(0:Int)≤(k:Int) by omega)) (decide_eq_true (show(k:Int)<2 by omega))) (aa hx (aa (Xc hG b x.1 (by omega)) (ae (fits ?_) ?_)))))
    ·show(b++tu x.1).length+1≤_;rw[l1];omega
    ·rw[wI,aK (n:=2) mY (by omega)];exact hn
   have hk:b.length+(r.length+1)*10≤10000:=hk;refine st 0 g.1 b (by omega) rfl (by omega) (st 1 g.2 _ (by simp[tu];omega) rfl (by omega) ?_);refine aC M4 (af rfl ?_);rw[wI,ew];have e9:((((b++tu g.1.1)++[w8 g.1.2])++tu g.2.1)++[w8 g.2.2])=b++Fc g:=by unfold Fc;simp only[List.append_assoc,List.singleton_append,List.cons_append,List.nil_append]
   rw[e9];refine(ih (b++Fc g) (by rw[List.length_append,Pn];omega)).trans ?_;simp only[List.flatMap_cons,List.append_assoc])
  (Tp s.1) (by have:=Tq h.d;omega)
theorem adE(hG:HG G)(hp:rN G)(a b:StateT)(ha:dM a)(hb:dM b)(ga:bK a.1=0)(gb:bK b.1=0):FX G 58 Ic ((a,(b,())),())=some (((strOf (LH a)==strOf (LH b)),()),()) :=aA (hG _ _ rfl) ade (aa (Xh hG hp a ha ga) (aa (Xh hG hp b hb gb) (aa (aA (hG _ _ rfl) adf rfl) rfl)))
end Go.Vs
