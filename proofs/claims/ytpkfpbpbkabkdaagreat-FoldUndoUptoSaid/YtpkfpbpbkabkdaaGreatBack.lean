/- What takes operations back -/
import Derived.Test.YtpkfpbpbkabkdaaGreatPartsB
import Derived.Test.YtpkfpbpbkabkdaaGreatForm
import Derived.Test.YtpkfpbpbkabkdaaGreatNormalD
import Derived.Test.YtpkfpbpbkabkdaaGreatPlane
set_option linter.unusedVariables false
set_option linter.unusedSimpArgs false
namespace Go.Vs
open Go.Proofs
variable {G:(f:FuncId)→(g:aX)→Option (g.A→Option g.B)}
theorem Pg{n:Int}(h:Qh (.int .i64) n):E7 n:=by
 have h1:IntKind.min .i64 = -9223372036854775808:=by decide
 have h2:IntKind.max .i64=9223372036854775807:=by decide
 have h:IntKind.min .i64≤n∧n≤IntKind.max .i64:=h;rw[h1,h2]at h;unfold E7;omega
theorem XH{o:aE}(h:Qh ij o)(ht:ua o):Fit o:=by obtain⟨_,_,_,_,⟨_,_,h1⟩,⟨_,_,h2⟩,_,_,h3⟩:=h;exact⟨Pg h1,Pg h2,Pg h3,ht⟩
theorem Wf.bd{d:ak}(h:Wf d):Bd 100 d:=⟨by have:=h.nv;omega,by have:=h.ne;omega,fun v hv=>by have:=h.sd v hv;omega⟩
end Go.Vs
namespace Go.Vs
def oS:List (List aE)→StateT→StateT
 |[],s=>s
 |e::r,s=>oS r (iM s e)
def qX:List (List aE)→StateT→List Bool
 |[],_=>[]
 |e::r,s=>decide ((bC s e).2.1=0)::qX r (iM s e)
theorem aaf(s:StateT):iM s []=s:=by unfold iM bC fh;simp
theorem cS.all:∀(l:List (List aE)) {s:StateT},cS s→cS (oS l s)
 |[],_,h=>h
 |e::r,_,h=>cS.all r (h.try e)
theorem Bs.all:∀{l:List (List aE)} {n:Nat} {s:StateT},(∀e∈l,e.length≤8)→Bs n s→Bs (n+24*l.length) (oS l s)
 |[],_,_,_,h=>h
 |e::r,n,s,hl,h=>by have h1:Bs (n+24) (iM s e):=h.try.mono (by have:=hl e (by simp);omega);exact(Bs.all (fun e he=>hl e (by simp[he])) h1).mono (by simp;omega)
theorem MP{l:List ai}{x:ID}:(aO l x).isSome=true↔∃v∈l,v.1=x:=by unfold aO;rw[List.find?_isSome];simp
theorem MQ{l:List aj}{x:ID}:(aP l x).isSome=true↔∃v∈l,v.1=x:=by unfold aP;rw[List.find?_isSome];simp
structure Gr(s t:StateT):Prop where
 v:∀x,(aO s.1.1 x).isSome=true→(aO t.1.1 x).isSome=true
 e:∀x,(aP s.1.2 x).isSome=true→(aP t.1.2 x).isSome=true
 nv:s.1.1.length≤t.1.1.length
 ne:s.1.2.length≤t.1.2.length
theorem Gr.rfl(s:StateT):Gr s s:=⟨fun _ h=>h,fun _ h=>h,abZ _,abZ _⟩
theorem Gr.trans{a b c:StateT}(h:Gr a b)(k:Gr b c):Gr a c:=⟨fun x p=>k.v x (h.v x p),fun x p=>k.e x (h.e x p),acH h.nv k.nv,acH h.ne k.ne⟩
def named(s:StateT)(o:aE):Prop:=if o.1=1 then(aO s.1.1 (ar o)).isSome=true else(aP s.1.2 (ar o)).isSome=true
theorem named.up{s t:StateT}{o:aE}(h:named s o)(k:Gr s t):named t o:=by
 unfold named at h ⊢
 split
 ·rename_i h1;rw[if_pos h1]at h;exact k.v _ h
 ·rename_i h1;rw[if_neg h1]at h;exact k.e _ h
theorem QT(d:ak)(c:lW)(x:ab):(br d c x).1.length=d.1.length∧(br d c x).2=d.2:=⟨fO _ _ _,rfl⟩
theorem XI{s:StateT}{o:aE}(hk:o.1=1∨o.1=3)(h:(bP s o).2.1=0):Gr s (bP s o).1∧named (bP s o).1 o:=by
 unfold bP at h ⊢;by_cases hm:bg o=0
 case neg=>rw[if_pos hm]at h;exact absurd h hm
 rw[if_neg (by simp[hm])]at h ⊢;rcases hk with h1|h3
 ·rw[if_pos h1]at h ⊢;unfold mh at h ⊢;by_cases h2:(aG s.1 (ar o)).isSome=true
  ·rw[if_pos h2]at h;cases h
  rw[if_neg h2]at h ⊢;by_cases h4:24≤s.1.1.length
  ·rw[if_pos h4]at h;cases h
  rw[if_neg h4];refine⟨⟨fun x hx=>?_,fun x hx=>hx,by show _≤(cx _ _).length;rw[gD];omega,abZ _⟩,?_⟩
  ·rw[MP]at hx ⊢;obtain⟨v,hv,e⟩:=hx;exact⟨v,kE.2 (.inr hv),e⟩
  ·unfold named;rw[if_pos h1,MP];exact⟨_,kE.2 (.inl rfl),rfl⟩
 ·have n1:¬o.1=1:=by omega
  have n2:¬o.1=2:=by omega
  rw[if_neg n1,if_neg n2,if_pos h3]at h ⊢;unfold kP at h ⊢
  split at h
  ·cases h
  rename_i c1
  split at h
  ·cases h
  rename_i c2
  split at h
  ·cases h
  rename_i c3
  split at h
  ·cases h
  rename_i c4
  split at h
  ·cases h
  rename_i c5;rw[if_neg c1,if_neg c2,if_neg c3,if_neg c4,if_neg c5];have l1:(gS s o).1.length=s.1.1.length:=by unfold gS;rw[(QT _ _ _).1,(QT _ _ _).1]
  have l2:(gS s o).2=bW (ar o,(e0,0)) s.1.2:=rfl;refine⟨⟨fun x hx=>?_,fun x hx=>?_,by show _≤(gS s o).1.length;omega,by show _≤(gS s o).2.length;rw[l2,mg];omega⟩,?_⟩
  ·exact ud _ (ud _ hx)
  ·show(aP (gS s o).2 x).isSome=true;rw[l2];rw[MQ]at hx ⊢;obtain⟨v,hv,e⟩:=hx;exact⟨v,kF.2 (.inr hv),e⟩
  ·unfold named;rw[if_neg n1];show(aP (gS s o).2 (ar o)).isSome=true;rw[l2,MQ];exact⟨_,kF.2 (.inl rfl),rfl⟩
theorem Tk{s:StateT}{o:aE}(hk:o.1=1∨o.1=3)(h:named s o):(bP s o).2.1≠0:=by
 unfold bP;by_cases hm:bg o=0
 case neg=>rw[if_pos hm];exact hm
 rw[if_neg (by simp[hm])];unfold named at h;rcases hk with h1|h3
 ·rw[if_pos h1]at h;rw[if_pos h1];unfold mh;rw[if_pos (show(aG s.1 (ar o)).isSome=true from h)];decide
 ·have n1:¬o.1=1:=by omega
  have n2:¬o.1=2:=by omega
  rw[if_neg n1]at h;rw[if_neg n1,if_neg n2,if_pos h3];unfold kP;rw[if_pos (show(b5 s.1 (ar o)).isSome=true from h)];decide
structure aag(e:List aE):Prop where
 k:∀o∈e,o.1=1∨o.1=3
 n:e≠[]
theorem J1:∀{e:List aE} {s:StateT},(∀o∈e,o.1=1∨o.1=3)→(ji e s).2.1=0→Gr s (ji e s).1∧∀o∈e,named (ji e s).1 o
 |[],s,_,_=>⟨Gr.rfl s,fun o ho=>by cases ho⟩
 |o::r,s,hk,h=>by
  unfold ji at h ⊢;by_cases h1:(bP s o).2.1=0
  case neg=>rw[if_pos h1]at h;exact absurd h h1
  rw[if_neg (by simp[h1])]at h ⊢;obtain⟨g1,n1⟩:=XI (hk o (by simp)) h1;obtain⟨g2,n2⟩:=J1 (fun o ho=>hk o (by simp[ho])) h;refine⟨g1.trans g2,fun p hp=>?_⟩;rcases abn.1 hp with rfl|hp
  ·exact n1.up g2
  ·exact n2 p hp
theorem mq{s:StateT}{e:List aE}(h:(bC s e).2.1=0):bC s e=ji e s:=by
 unfold bC at h ⊢;by_cases hm:fh e=0
 ·rw[if_neg (by simp[hm])]
 ·rw[if_pos hm]at h;exact absurd h hm
theorem Ph{s:StateT}{e:List aE}(h:(bC s e).2.1=0):iM s e=(bC s e).1:=by unfold iM;rw[if_neg (by simp[h])]
theorem QU{s:StateT}{e:List aE}(h:(bC s e).2.1≠0):iM s e=s:=by unfold iM;rw[if_pos h]
theorem MR{s:StateT}{e:List aE}(ha:aag e):Gr s (iM s e):=by
 by_cases h:(bC s e).2.1=0
 ·rw[Ph h,mq h];rw[mq h]at h;exact(J1 ha.k h).1
 ·rw[QU h];exact Gr.rfl s
theorem MS:∀{l:List (List aE)} {s:StateT},(∀e∈l,aag e)→Gr s (oS l s)
 |[],s,_=>Gr.rfl s
 |e::r,s,h=>(MR (h e (by simp))).trans (MS fun e he=>h e (by simp[he]))
theorem MT{s t:StateT}{e:List aE}(ha:aag e)(h:(bC s e).2.1=0)(hg:Gr (iM s e) t):(bC t e).2.1≠0:=fun h2=>by
 rw[Ph h,mq h]at hg;rw[mq h]at h;rw[mq h2]at h2;obtain⟨_,hn⟩:=J1 ha.k h
 cases e with
 |nil=>exact ha.n rfl
 |cons o r =>have h3:=Tk (ha.k o (by simp)) ((hn o (by simp)).up hg);unfold ji at h2;rw[if_pos h3]at h2;exact h3 h2
theorem xX:∀{l:List (List aE)} {s t:StateT},(∀e∈l,aag e)→Gr (oS l s) t→∀i:Nat,(qX l s)[i]? = some true→(qX l t)[i]? = some true→False
 |[],_,_,_,_,i,h,_=>by simp[qX]at h
 |e::r,s,t,ha,hg,0,h1,h2=>by simp[qX]at h1 h2;exact MT (ha e (by simp)) h1 ((MS fun e he=>ha e (by simp[he])).trans hg) h2
 |e::r,s,t,ha,hg,i+1,h1,h2=>by have h1:(qX r (iM s e))[i]? = some true:=h1;have h2:(qX r (iM t e))[i]? = some true:=h2;exact xX (l:=r) (s:=iM s e) (t:=iM t e) (fun e he=>ha e (by simp[he])) (Gr.trans (show Gr (oS r (iM s e)) t from hg) (MR (ha e (by simp)))) i h1 h2
end Go.Vs
namespace Go.Vs
open Go.Proofs
variable {G:(f:FuncId)→(g:aX)→Option (g.A→Option g.B)}
structure iZ(l:List (List aE)):Prop where
 n:l.length≤1073741824
 e:∀e∈l,e.length≤1073741824
 f:∀e∈l,∀o∈e,Fit o
theorem iZ.mem{l m:List (List aE)}(h:iZ l)(hs:∀e∈m,e∈l)(hn:m.length≤1073741824):iZ m:=⟨hn,fun e he=>h.e e (hs e he),fun e he=>h.f e (hs e he)⟩
theorem Pj(hG:HG G)(py:∀o,fP G o){l:List (List aE)}(h:iZ l){e:List aE}(he:e∈l)(s:StateT)(hw:cS s):FX G 102 B6 ((s,e,()),())=some ((iM s e,()),()) :=agY hG s e hw (h.e e he) (h.f e he) fun o _=>py o
theorem adl(hG:HG G)(py:∀o,fP G o){l:List (List aE)}(h:iZ l){e:List aE}(he:e∈l)(s:StateT)(hw:cS s):FX G 63 K5 ((s,e,()),())=some (bC s e,()) :=acD hG s e hw (h.e e he) (h.f e he) fun o _=>py o
theorem Pk(hG:HG G)(py:∀o,fP G o)(s:StateT)(hw:cS s):FX G 102 B6 ((s,[],()),())=some ((s,()),()):=by
 have:=agY hG s [] hw (by simp) (by simp) fun o _=>py o
 rwa [aaf]at this
theorem ah1(hG:HG G)(s:StateT)(e:List aE):FX G 61 LD ((s,e,()),())=some ((),()):=aC (hG _ _ rfl) afS rfl
theorem ah2(hG:HG G)(py:∀o,fP G o){l:List (List aE)}(h:iZ l){e:List aE}(he:e∈l)(s:StateT)(hw:cS s)(p:List Bool)(hp:p.length≤1073741823) :
  FX G 62 LF ((s,e,()),((p,()),()))=some ((),((p++[decide ((bC s e).2.1=0)],()),())):=by
 refine aC (hG _ _ rfl) afT ?_;refine aa (adl hG py h he s hw) ?_;refine ae (fits (by simp;omega)) ?_;have:((bC s e).2.1==0)=decide ((bC s e).2.1=0):=by rw[Bool.eq_iff_iff];simp
 rw[this];rfl
theorem XJ(hG:HG G)(py:∀o,fP G o)(l:List (List aE))(h:iZ l):∀(n i:Nat) (s:StateT),i+n=l.length→cS s → LX G 562060 l9 Tryz.f60 oq (aY Tryz.prog 60 0) ((((l.length:Nat):Int),((i:Int),())),((zW,((s,()),())),(l,())))=some ((oS (l.drop i) s,()),(l,())):=by
 intro n
 induction n with
 |zero =>intro i s hi hw;refine aB ET (ah (decide_eq_false (show ¬((i:Int)<((l.length:Nat):Int)) by omega)) ?_);rw[List.drop_eq_nil_of_le (by omega)];rfl
 |succ n ih =>
  intro i s hi hw;have aK:i<l.length:=by omega
  have hm:=acB aK;refine aB ET (ae (bj aK) ?_);refine ae (dU (decide_eq_true (show(0:Int)≤(i:Int) by omega)) (bj aK)) (aa (aba aK) ?_);refine aa (ah1 hG s l[i]) (aa (Pj hG py h hm s hw) ?_);rw[wI,aN aK h.n,List.drop_eq_getElem_cons aK,oS];exact ih (i+1) _ (by omega) (hw.try l[i])
theorem XK(hG:HG G)(py:∀o,fP G o)(s:StateT)(l:List (List aE))(hw:cS s)(h:iZ l):FX G 500018 tM ((s,()),(l,()))=some ((oS l s,()),(l,())):=by
 refine aC (hG _ _ rfl) VV ?_;have h1:FX G 562060 l9 ((s,()),(l,()))=some ((oS l s,()),(l,())):=by refine aC (hG _ _ rfl) VX ?_;refine aa (Pk hG py s hw) ?_;exact XJ hG py l h l.length 0 s (by omega) hw
 exact aa h1 rfl
theorem XL(hG:HG G)(py:∀o,fP G o)(l:List (List aE))(h:iZ l):∀(n i:Nat) (s:StateT) (p:List Bool),i+n=l.length→p.length=i→cS s → LX G 563060 ma Tryz.f60 ou (aY Tryz.prog 60 0) ((((l.length:Nat):Int),((i:Int),())),(((p,()),(zW,((s,()),()))),(l,())))=some ((oS (l.drop i) s,()),(l,((p++qX (l.drop i) s,()),()))):=by
 intro n
 induction n with
 |zero =>intro i s p hi hp hw;refine aB EU (ah (decide_eq_false (show ¬((i:Int)<((l.length:Nat):Int)) by omega)) ?_);rw[List.drop_eq_nil_of_le (by omega),qX,List.append_nil];rfl
 |succ n ih =>
  intro i s p hi hp hw;have aK:i<l.length:=by omega
  have hm:=acB aK;have hn:=h.n;refine aB EU (ae (bj aK) ?_);refine ae (dU (decide_eq_true (show(0:Int)≤(i:Int) by omega)) (bj aK)) (aa (aba aK) ?_);refine aa (ah2 hG py h hm s hw p (by omega)) (aa (Pj hG py h hm s hw) ?_);rw[wI,aN aK h.n,List.drop_eq_getElem_cons aK,oS,qX];have:=ih (i+1) _ (p++[decide ((bC s l[i]).2.1=0)]) (by omega) (by simp;omega) (hw.try l[i]);rw[List.append_assoc]at this;exact this
theorem XM(hG:HG G)(py:∀o,fP G o)(s:StateT)(l:List (List aE))(hw:cS s)(h:iZ l):FX G 500019 tN ((s,()),(l,()))=some ((qX l s,()),(l,())):=by
 refine aC (hG _ _ rfl) VW ?_;have h1:FX G 563060 ma ((s,()),(l,(([],()),())))=some ((oS l s,()),(l,((qX l s,()),()))):=by refine aC (hG _ _ rfl) VY ?_;refine aa (Pk hG py s hw) ?_;exact XL hG py l h l.length 0 s [] (by omega) rfl hw
 exact aa h1 rfl
theorem XN(hG:HG G)(n:Int):FX G 59 Ek ((n,()),())=some (([p7 1 (1,n)],()),()):=aC (hG _ _ rfl) afR rfl
theorem aah(n:Int):Fit (p7 1 (1,n)):=⟨sQ,sQ,sQ,by show e0.size≤_;simp[e0,ByteArray.size]⟩
theorem QV(l:List (List aE))(hl:l.length≤1073741824)(h:∀e∈l,∃n:Int,e=[p7 1 (1,n)]):iZ l :=⟨hl,fun e he=>by obtain⟨n,rfl⟩:=h e he;simp,fun e he o ho=>by obtain⟨n,rfl⟩:=h e he;rw[List.mem_singleton.1 ho];exact aah n⟩
theorem Pn:qX [[p7 1 (1,1)],[p7 1 (1,1)]] zS=[true,false]:=by decide
theorem Tl:(oS [[p7 1 (1,1)]] zS).1.1.length=1:=by decide
theorem ah3(hG:HG G)(py:∀o,fP G o):FX G 15 Ly ((),())=some ((true,()),()):=by refine aC (hG _ _ rfl) afG ?_;refine aa (XN hG 1) (aa (XN hG 1) ?_);have r2:∀e∈[[p7 1 (1,1)],[p7 1 (1,1)]],∃n:Int,e=[p7 1 (1,n)]:=fun e he=>⟨1,by rcases abn.1 he with rfl|he;rfl;exact List.mem_singleton.1 he⟩;have r1:∀e∈[[p7 1 (1,1)]],∃n:Int,e=[p7 1 (1,n)]:=fun e he=>⟨1,List.mem_singleton.1 he⟩;have h1:=XM hG py zS [[p7 1 (1,1)],[p7 1 (1,1)]] cS.zero (QV _ (by simp) r2);rw[Pn]at h1;refine aa h1 ?_;refine ae rfl (ae rfl (aa rfl (ae rfl (ae rfl (aa rfl (ae rfl ?_))))));refine aa (XN hG 1) ?_;refine aa (XK hG py zS [[p7 1 (1,1)]] cS.zero (QV _ (by simp) r1)) ?_;show some ((((((oS [[p7 1 (1,1)]] zS).1.1.length:Nat):Int)==1,()),()))=_;rw[Tl];rfl
abbrev hiB(h:iW):StateT:=h.1
abbrev Tn(h:iW):Int:=h.2.1
abbrev Kf(h:iW):List (List aE):=h.2.2.1
def hiL(h:iW):Int:=Tn h+((Kf h).length:Nat)
structure XO(m:Nat)(h:iW):Prop where
 b:cS (hiB h)
 f0:0≤Tn h
 f1:hiL h≤m
 m1:m≤1000000000
 n:(Kf h).length≤64
 r:iZ (Kf h)
theorem XO.zero:XO 0 (zS,(0,([],()))):=⟨cS.zero,Int.le_refl _,by decide,by decide,adL _,⟨adL _,fun e he=>(by cases he),fun e he=>(by cases he)⟩⟩
def ah5(h:iW)(e:List aE):(Int×(Int×Unit))×iW :=if fh e≠0 then((0,(fh e,())),h) else if 64≤(Kf h).length then((0,(20,())),h) else((hiL h+1,(0,())),(hiB h,(Tn h,(Kf h++[e],()))))
theorem XO.mono{m k:Nat}{h:iW}(ho:XO m h)(hk:m≤k)(h1:k≤1000000000):XO k h:=⟨ho.b,ho.f0,by have:=ho.f1;omega,h1,ho.n,ho.r⟩
theorem XO.add{m:Nat}{h:iW}(ho:XO m h)(hm:m<1000000000){e:List aE}(he:e.length≤1073741824)(hf:∀o∈e,Fit o):XO (m+1) (ah5 h e).2:=by
 unfold ah5
 split
 ·exact ho.mono (by omega) (by omega)
 split
 ·exact ho.mono (by omega) (by omega)
 ·rename_i h1 h2;have h3:=ho.f1;have hl:hiL h=Tn h+((Kf h).length:Nat):=rfl;refine⟨ho.b,ho.f0,?_,by omega,?_,?_,fun p hp=>?_,fun p hp=>?_⟩
  ·show Tn h+(((Kf h++[e]).length:Nat):Int)≤_;simp;omega
  ·show(Kf h++[e]).length≤64;simp;omega
  ·show(Kf h++[e]).length≤_;simp;omega
  ·rcases abH.1 (show p∈Kf h++[e] from hp) with hp|hp
   ·exact ho.r.e p hp
   ·rw[List.mem_singleton.1 hp];exact he
  ·rcases abH.1 (show p∈Kf h++[e] from hp) with hp|hp
   ·exact ho.r.f p hp
   ·rw[List.mem_singleton.1 hp];exact hf
def hIn(h:iW)(n:Int):Prop:=Tn h≤n∧n≤hiL h
instance (h:iW) (n:Int):Decidable (hIn h n):=by unfold hIn;infer_instance
def atH(h:iW)(n:Int):StateT×(Int×Unit):=if hIn h n then(oS ((Kf h).take (n-Tn h).toNat) (hiB h),(0,())) else(zS,(26,()))
theorem iZ.take{l:List (List aE)}(h:iZ l)(n:Nat):iZ (l.take n):=h.mem (fun e he=>adS he) (by have:=h.n;simp;omega)
theorem iZ.drop{l:List (List aE)}(h:iZ l)(n:Nat):iZ (l.drop n):=h.mem (fun e he=>adM he) (by have:=h.n;simp;omega)
def aby(h:iW)(n:Int):Int×iW:=if hIn h n then(0,(oS ((Kf h).take (n-Tn h).toNat) (hiB h),(n,((Kf h).drop (n-Tn h).toNat,())))) else(26,h)
theorem XO.comp{m:Nat}{h:iW}(ho:XO m h)(n:Int):XO m (aby h n).2:=by
 unfold aby;have h1:=ho.f0;have h2:=ho.f1;have h3:=ho.n;have hl:hiL h=Tn h+((Kf h).length:Nat):=rfl;by_cases hi:hIn h n
 ·rw[if_pos hi];unfold hIn at hi;refine⟨cS.all _ ho.b,by show 0≤n;omega,?_,ho.m1,?_,ho.r.drop _⟩
  ·show n+((((Kf h).drop (n-Tn h).toNat).length:Nat):Int)≤m;rw[List.length_drop];omega
  ·show((Kf h).drop (n-Tn h).toNat).length≤64;rw[List.length_drop];omega
 ·rw[if_neg hi];exact ho
def mr(x:ID)(a b:lW):aE:=(3,(x,(zI,(zI,(a,(b,(false,(e0,0))))))))
def fH(x v w:ID)(n:Int):aE:=(5,(x,(v,(w,(zC,(zC,(false,(e0,n))))))))
def cT(v w:ID):aE:=(6,(v,(zI,(w,(zC,(zC,(false,(e0,0))))))))
def bu(x:ID)(oe:Bool)(l:ByteArray)(n:Int):List aE:=(if l=e0 then[] else[SR x oe l])++(if n=0 then[] else[Qr x oe n])
theorem da(x:ID)(oe:Bool)(l:ByteArray)(n:Int):(bu x oe l n).length≤2:=by unfold bu;split<;>split<;>simp
theorem QW(hG:HG G)(x:ID)(oe:Bool)(l:ByteArray)(n:Int):FX G 75 v5 ((x,oe,l,n,()),())=some ((bu x oe l n,()),()):=by
 refine aC (hG _ _ rfl) afU ?_;unfold bu;by_cases h1:l=e0
 ·rw[if_pos h1];refine ah (show(!(l==e0))=false by rw[Ol,decide_eq_true h1];rfl) ?_;by_cases h2:n=0
  ·rw[if_pos h2];exact ah (show(n != 0)=false by simp[h2]) rfl
  ·rw[if_neg h2];exact ae (show(n != 0)=true by simp[h2]) (ae rfl rfl)
 ·rw[if_neg h1];refine ae (show(!(l==e0))=true by rw[Ol,decide_eq_false h1];rfl) (ae rfl ?_);by_cases h2:n=0
  ·rw[if_pos h2];exact ah (show(n != 0)=false by simp[h2]) rfl
  ·rw[if_neg h2];exact ae (show(n != 0)=true by simp[h2]) (ae rfl rfl)
theorem ah6(hG:HG G)(e:aj):FX G 138 LJ ((e,()),())=some ((e.1,()),()):=aC (hG _ _ rfl) af6 rfl
theorem XP(hG:HG G)(d:ak)(x:ID)(hl:d.2.length≤1073741824):FX G 111 Em ((d,x,()),())=some (ia zE (b5 d x),()):=by
 refine aC (hG _ _ rfl) af2 ?_;have h1:FX G 139137 l8 ((d.2,x,()),())=some (ia zE (aP d.2 x),()):=by
  refine aC (hG _ _ rfl) VU ?_;have loop:∀(n i:Nat),i+n=d.2.length→LX G 139137 l8 Tryz.f137 oo (aY Tryz.prog 137 0) ((d.2,(((d.2.length:Nat):Int),((i:Int),()))),(((x,()),((zE,()),())),()))=some (ia zE (aP (d.2.drop i) x),()):=by
   intro n
   induction n with
   |zero =>intro i hi;refine aB ES (ah (decide_eq_false (show ¬((i:Int)<((d.2.length:Nat):Int)) by omega)) ?_);rw[List.drop_eq_nil_of_le (by omega)];rfl
   |succ n ih =>
    intro i hi;have aK:i<d.2.length:=by omega
    refine aB ES (ae (bj aK) (aa (aT (aba aK)) (aa (ah6 hG d.2[i]) ?_)));rw[List.drop_eq_getElem_cons aK];have hf:aP (d.2[i]::d.2.drop (i+1)) x=if d.2[i].1=x then some d.2[i] else aP (d.2.drop (i+1)) x:=by unfold aP;rw[List.find?_cons];by_cases h:d.2[i].1=x<;>simp[h]
    rw[hf];by_cases h:d.2[i].1=x
    ·rw[if_pos h];refine ae ?_ rfl;exact(iL d.2[i].1 x).trans (decide_eq_true h)
    ·rw[if_neg h];refine ah ((iL d.2[i].1 x).trans (decide_eq_false h)) ?_;rw[wI,aN aK hl];exact ih (i+1) (by omega)
  exact loop d.2.length 0 (by omega)
 exact aa h1 rfl
def zh(d:ak)(x fj:ab):lW :=
 let y:=cr (bw (aW d ((bM d x).getD zI)) fj) x
 if y=x then((bM d x).getD zI,zD) else((bM d x).getD zI,y)
theorem abz(hG:HG G)(d:ak)(x fj:ab)(hw:Wf d):FX G 112 HA ((d,x,fj,()),())=some ((zh d x fj,()),()):=by
 have hs:=hw.sm;refine aC (hG _ _ rfl) af3 ?_;refine aa (W9 hG d x hs) ?_;show Option.bind (FX G 74 vY ((d,(ia zI (bM d x)).1,()),())) _=_;rw[dG];refine aa (Mx hG d _ hs) ?_;show Option.bind (FX G 141 Ee (((ia zV (aG d ((bM d x).getD zI))).1.2.1,fj,()),())) _=_;rw[dG];have TG:=nj hs ((bM d x).getD zI);have Cs:(aW d ((bM d x).getD zI)).Nodup:=by
  unfold aW
  cases hv:aG d ((bM d x).getD zI) with
  |none=>simp[zV]
  |some v=>exact hw.rw.ring (ab5 hv)
 refine aa (WA hG (aW d ((bM d x).getD zI)) fj Cs (by omega)) ?_;have DU:=ub (aW d ((bM d x).getD zI)) fj;refine aa (abk hG (bw (aW d ((bM d x).getD zI)) fj) x (by omega)) ?_;unfold zh;have e1:(zt (cK (bw (aW d ((bM d x).getD zI)) fj) x ((bw (aW d ((bM d x).getD zI)) fj).length-1))).1=cr (bw (aW d ((bM d x).getD zI)) fj) x:=u6 _;have hb:=lg (zt (cK (bw (aW d ((bM d x).getD zI)) fj) x ((bw (aW d ((bM d x).getD zI)) fj).length-1))).1 x;rw[e1]at hb;by_cases h:cr (bw (aW d ((bM d x).getD zI)) fj) x=x
 ·refine ah ?_ ?_
  ·show(!(((((zt (cK (bw (aW d ((bM d x).getD zI)) fj) x ((bw (aW d ((bM d x).getD zI)) fj).length-1))).1).1.1==x.1.1)&&(((zt (cK (bw (aW d ((bM d x).getD zI)) fj) x ((bw (aW d ((bM d x).getD zI)) fj).length-1))).1).1.2==x.1.2))&&(((zt (cK (bw (aW d ((bM d x).getD zI)) fj) x ((bw (aW d ((bM d x).getD zI)) fj).length-1))).1).2==x.2)))=false;rw[e1,hb,decide_eq_true h];rfl
  ·refine congrArg (fun c:lW=>some ((c,()),())) ?_;show((bM d x).getD zI,zD)=if cr (bw (aW d ((bM d x).getD zI)) fj) x=x then((bM d x).getD zI,zD) else((bM d x).getD zI,cr (bw (aW d ((bM d x).getD zI)) fj) x)
   rw[if_pos h]
 ·refine ae ?_ ?_
  ·show(!(((((zt (cK (bw (aW d ((bM d x).getD zI)) fj) x ((bw (aW d ((bM d x).getD zI)) fj).length-1))).1).1.1==x.1.1)&&(((zt (cK (bw (aW d ((bM d x).getD zI)) fj) x ((bw (aW d ((bM d x).getD zI)) fj).length-1))).1).1.2==x.1.2))&&(((zt (cK (bw (aW d ((bM d x).getD zI)) fj) x ((bw (aW d ((bM d x).getD zI)) fj).length-1))).1).2==x.2)))=true;rw[e1,hb,decide_eq_false h];rfl
  ·refine congrArg (fun c:lW=>some ((c,()),())) ?_;show((bM d x).getD zI,(zt (cK (bw (aW d ((bM d x).getD zI)) fj) x ((bw (aW d ((bM d x).getD zI)) fj).length-1))).1)=if cr (bw (aW d ((bM d x).getD zI)) fj) x=x then((bM d x).getD zI,zD) else((bM d x).getD zI,cr (bw (aW d ((bM d x).getD zI)) fj) x)
   rw[if_neg h,e1]
def dZ(d:ak)(x:ID):ByteArray×Int:=((aG d x).getD zV).2.2
def fJ(d:ak)(x:ID):ByteArray×Int:=((b5 d x).getD zE).2
def xk(d:ak)(x:ID):List aE:=mr x (zh d (x,0) (x,1)) (zh d (x,1) zD)::bu x true (fJ d x).1 (fJ d x).2
theorem ah7(hG:HG G)(d:ak)(o:aE)(hw:Wf d):FX G 76 LG ((d,o,()),())=some ((xk d (ar o),()),()):=by have hs:=hw.sm;have he:=hs.e;refine aC (hG _ _ rfl) afV ?_;refine aa (XP hG d (ar o) (by omega)) ?_;refine aa (abz hG d (ar o,0) (ar o,1) hw) (aa (abz hG d (ar o,1) zD hw) ?_);show Option.bind (FX G 75 v5 ((ar o,true,(ia zE (b5 d (ar o))).1.2.1,(ia zE (b5 d (ar o))).1.2.2,()),())) _=_;rw[dG];refine aa (QW hG _ _ _ _) ?_;have hl:=da (ar o) true (fJ d (ar o)).1 (fJ d (ar o)).2;exact ae (fits (show 1+(bu (ar o) true (fJ d (ar o)).1 (fJ d (ar o)).2).length≤_ by omega)) rfl
def qd(d:ak)(o:aE):List aE :=
 let q:=if cQ o=true then fJ d (ar o) else dZ d (ar o)
 if o.1=7 then[(o.1,(ar o,(cc o,(af o,(oA o,(oB o,(cQ o,(q.1,oN o))))))))] else[(o.1,(ar o,(cc o,(af o,(oA o,(oB o,(cQ o,(gR o,q.2))))))))]
theorem ah8(hG:HG G)(d:ak)(o:aE)(hw:Wf d):FX G 78 LH ((d,o,()),())=some ((qd d o,()),()):=by
 have hs:=hw.sm;have he:=hs.e;refine aC (hG _ _ rfl) afX ?_;refine aa (Mx hG d (ar o) hs) ?_;unfold qd
 cases ho:cQ o with
 |true =>
  refine ae ho (aa (XP hG d (ar o) (by omega)) ?_);have e1:(ia zE (b5 d (ar o))).1=(b5 d (ar o)).getD zE:=dG _ _;by_cases h7:o.1=7
  ·refine ae (show(o.1==7)=true by simp[h7]) ?_;show some (([(o.1,(ar o,(cc o,(af o,(oA o,(oB o,(cQ o,((ia zE (b5 d (ar o))).1.2.1,oN o))))))))],()),())=some (((if o.1=7 then _ else _),()),());rw[if_pos h7,e1,ho];rfl
  ·refine ah (show(o.1==7)=false by simp[h7]) ?_;show some (([(o.1,(ar o,(cc o,(af o,(oA o,(oB o,(cQ o,(gR o,(ia zE (b5 d (ar o))).1.2.2))))))))],()),())=some (((if o.1=7 then _ else _),()),());rw[if_neg h7,e1,ho];rfl
 |false =>
  refine ah ho ?_;have e1:(ia zV (aG d (ar o))).1=(aG d (ar o)).getD zV:=dG _ _;by_cases h7:o.1=7
  ·refine ae (show(o.1==7)=true by simp[h7]) ?_;show some (([(o.1,(ar o,(cc o,(af o,(oA o,(oB o,(cQ o,((ia zV (aG d (ar o))).1.2.2.1,oN o))))))))],()),())=some (((if o.1=7 then _ else _),()),());rw[if_pos h7,e1,ho];rfl
  ·refine ah (show(o.1==7)=false by simp[h7]) ?_;show some (([(o.1,(ar o,(cc o,(af o,(oA o,(oB o,(cQ o,(gR o,(ia zV (aG d (ar o))).1.2.2.2))))))))],()),())=some (((if o.1=7 then _ else _),()),());rw[if_neg h7,e1,ho];rfl
theorem ah9(hG:HG G)(a b c:List aE)(h:a.length+b.length+c.length≤1000):FX G 113 pf (([a,b,c],()),())=some ((a++b++c,()),()):=by
 refine aC (hG _ _ rfl) af4 ?_;have w1:∀(i:Nat),i<3→IntKind.wrap .i64 ((i:Int)+1)=((i+1:Nat):Int):=fun i hi=>aN hi (by omega);have fin:LX G 113 pf Tryz.f113 rS (aY Tryz.prog 113 1) (([a,b,c],((3:Int),((0:Int),()))),((),(([]:List aE),())))=some ((a++b++c,()),()):=by
  have step:∀(i:Nat) (p q:List aE),[a,b,c][i]? = some q→p.length+q.length≤1000→i<3 → LX G 113 pf Tryz.f113 rS (aY Tryz.prog 113 1) (([a,b,c],((3:Int),(((i+1:Nat):Int),()))),((),(p++q,())))=some ((a++b++c,()),()) → LX G 113 pf Tryz.f113 rS (aY Tryz.prog 113 1) (([a,b,c],((3:Int),((i:Int),()))),((),(p,())))=some ((a++b++c,()),()):=by intro i p q hq hl hi k;refine aB P9 (ae (decide_eq_true (show(i:Int)<3 by omega)) (aa (aT hq) (ae (fits (show p.length+q.length≤_ by omega)) ?_)));rw[wI,w1 i hi];exact k
  refine step 0 [] a rfl (by simp;omega) (by omega) (step 1 ([]++a) b rfl (by simp;omega) (by omega) (step 2 ([]++a++b) c rfl (by simp;omega) (by omega) ?_));exact aB P9 (ah (decide_eq_false (show ¬((3:Int)<3) by decide)) rfl)
 have cnt:∀(i m:Nat) (q:List aE),[a,b,c][i]? = some q→m+q.length≤1000→i<3 → LX G 113 pf Tryz.f113 uZ (aY Tryz.prog 113 0) (([a,b,c],(((m+q.length:Nat):Int),([a,b,c],((3:Int),(((i+1:Nat):Int),()))))),((),()))=some ((a++b++c,()),()) → LX G 113 pf Tryz.f113 uZ (aY Tryz.prog 113 0) (([a,b,c],((m:Int),([a,b,c],((3:Int),((i:Int),()))))),((),()))=some ((a++b++c,()),()):=by
  intro i m q hq hl hi k;have e:IntKind.wrap .i64 ((m:Int)+((q.length:Nat):Int))=((m+q.length:Nat):Int):=by rw[wrap_small (by omega) (by omega)];omega
  refine aB P8 (ae (decide_eq_true (show(i:Int)<3 by omega)) (aa (aT hq) ?_));rw[wI,e];refine ah (decide_eq_false (by omega)) ?_;rw[wI,w1 i hi];exact k
 refine cnt 0 0 a rfl (by omega) (by omega) (cnt 1 _ b rfl (by omega) (by omega) (cnt 2 _ c rfl (by omega) (by omega) ?_));refine aB P8 (ah (decide_eq_false (show ¬((3:Int)<3) by decide)) ?_);refine ae (show s8 ((0+a.length+b.length+c.length:Nat):Int)=true by unfold s8;rw[Bool.and_eq_true,decide_eq_true_eq,decide_eq_true_eq];have:gF=1073741824:=rfl;omega) ?_;exact fin
def um(r0 r1:ab)(w:ID):ab×ab:=if r0.1=w then(r1,r0) else(r0,r1)
def cF(d:ak)(o:aE)(r0 r1:ab):List aE :=[fH (um r0 r1 (af o)).1.1 (ar o) (af o) (1-(um r0 r1 (af o)).1.2+2*(um r0 r1 (af o)).2.2)]++bu (ar o) false (dZ d (ar o)).1 (dZ d (ar o)).2++bu (af o) true (fJ d (af o)).1 (fJ d (af o)).2
theorem QX{p q:Int}(hp:p=0∨p=1)(hq:q=0∨q=1) :
  dx .or .i64 (dx .or .i64 0 (IntKind.wrap .i64 (1-p))) (Kh .i64 q 1)=1-p+2*q∧dx .or .i64 (dx .or .i64 0 (Kh .i64 q 1)) (IntKind.wrap .i64 (1-p))=1-p+2*q:=by
 rcases hp with rfl|rfl<;>rcases hq with rfl|rfl<;>exact⟨by decide +kernel,by decide +kernel⟩
theorem aia(hG:HG G)(d:ak)(o:aE)(hw:Wf d){v:ai}{r0 r1:ab}(hv:aG d (ar o)=some v)(hr:v.2.1=[r0,r1])(bp:r0.1≠r1.1)(hor:r0.1=af o∨r1.1=af o)(h0:r0.2=0∨r0.2=1)(h1:r1.2=0∨r1.2=1) :
  FX G 77 qG ((d,o,()),())=some ((cF d o r0 r1,()),()):=by
 have hs:=hw.sm;have he:=hs.e;refine aC (hG _ _ rfl) afW ?_;refine aa (Mx hG d (ar o) hs) (aa (XP hG d (af o) (by omega)) ?_);have ev:(ia zV (aG d (ar o))).1=v:=by rw[hv];rfl
 have ee:(ia zE (b5 d (af o))).1=(b5 d (af o)).getD zE:=dG _ _;show LX G 77 qG Tryz.f77 ky (aY Tryz.prog 77 0) (((ia zV (aG d (ar o))).1.2.1,((((ia zV (aG d (ar o))).1.2.1.length:Nat):Int),((0:Int),()))),(((o,()),(((ia zV (aG d (ar o))).1,()),(((ia zE (b5 d (af o))).1,()),((fH zI (ar o) (af o) 0,()),())))),()))=_;rw[ev,ee,hr];have abA:∀(i:Nat) (r:ab) (p:ID) (n:Int),[r0,r1][i]? = some r→r.1=af o→i<2 → LX G 77 qG Tryz.f77 ky (aY Tryz.prog 77 0) (([r0,r1],((2:Int),(((i+1:Nat):Int),()))),(((o,()),((v,()),(((b5 d (af o)).getD zE,()),((fH p (ar o) (af o) (dx .or .i64 n (Kh .i64 r.2 1)),()),())))),()))=some ((cF d o r0 r1,()),()) → LX G 77 qG Tryz.f77 ky (aY Tryz.prog 77 0) (([r0,r1],((2:Int),((i:Int),()))),(((o,()),((v,()),(((b5 d (af o)).getD zE,()),((fH p (ar o) (af o) n,()),())))),()))=some ((cF d o r0 r1,()),()):=by intro i r p n hi hro h2 k;refine aB Jg (ae (decide_eq_true (show(i:Int)<2 by omega)) (aa (aT hi) (ae ((iL r.1 (af o)).trans (decide_eq_true hro)) (ah rfl ?_))));rw[wI,aN h2 (by omega)];exact k
 have abB:∀(i:Nat) (r:ab) (p:ID) (n:Int),[r0,r1][i]? = some r→r.1≠af o→i<2 → LX G 77 qG Tryz.f77 ky (aY Tryz.prog 77 0) (([r0,r1],((2:Int),(((i+1:Nat):Int),()))),(((o,()),((v,()),(((b5 d (af o)).getD zE,()),((fH r.1 (ar o) (af o) (dx .or .i64 n (IntKind.wrap .i64 (1-r.2))),()),())))),()))=some ((cF d o r0 r1,()),()) → LX G 77 qG Tryz.f77 ky (aY Tryz.prog 77 0) (([r0,r1],((2:Int),((i:Int),()))),(((o,()),((v,()),(((b5 d (af o)).getD zE,()),((fH p (ar o) (af o) n,()),())))),()))=some ((cF d o r0 r1,()),()):=by intro i r p n hi hro h2 k;refine aB Jg (ae (decide_eq_true (show(i:Int)<2 by omega)) (aa (aT hi) (ah ((iL r.1 (af o)).trans (decide_eq_false hro)) ?_)));rw[wI,aN h2 (by omega)];exact k
 have fin:∀n:Int,n=1-(um r0 r1 (af o)).1.2+2*(um r0 r1 (af o)).2.2 → LX G 77 qG Tryz.f77 ky (aY Tryz.prog 77 0) (([r0,r1],((2:Int),(((2:Nat):Int),()))),(((o,()),((v,()),(((b5 d (af o)).getD zE,()),((fH (um r0 r1 (af o)).1.1 (ar o) (af o) n,()),())))),()))=some ((cF d o r0 r1,()),()):=by intro n hn;refine aB Jg (ah (decide_eq_false (show ¬((2:Int)<2) by decide)) ?_);refine aa (QW hG (ar o) false v.2.2.1 v.2.2.2) (aa (QW hG (af o) true ((b5 d (af o)).getD zE).2.1 ((b5 d (af o)).getD zE).2.2) ?_);have l1:=da (ar o) false v.2.2.1 v.2.2.2;have l2:=da (af o) true ((b5 d (af o)).getD zE).2.1 ((b5 d (af o)).getD zE).2.2;refine aa (ah9 hG [fH (um r0 r1 (af o)).1.1 (ar o) (af o) n] (bu (ar o) false v.2.2.1 v.2.2.2) (bu (af o) true ((b5 d (af o)).getD zE).2.1 ((b5 d (af o)).getD zE).2.2) (by show 1+(bu (ar o) false v.2.2.1 v.2.2.2).length+(bu (af o) true ((b5 d (af o)).getD zE).2.1 ((b5 d (af o)).getD zE).2.2).length≤_;omega)) ?_;unfold cF dZ fJ;rw[hv,←hn];rfl
 by_cases h:r0.1=af o
 ·have h':r1.1≠af o:=fun k=>bp (h.trans k.symm);have rT:um r0 r1 (af o)=(r1,r0):=if_pos h;refine abA 0 r0 _ _ rfl h (by omega) (abB 1 r1 _ _ rfl h' (by omega) ?_);have:=fin (dx .or .i64 (dx .or .i64 0 (Kh .i64 r0.2 1)) (IntKind.wrap .i64 (1-r1.2))) (by rw[rT];exact(QX h1 h0).2);rw[rT]at this;exact this
 ·have h':r1.1=af o:=hor.resolve_left h;have rT:um r0 r1 (af o)=(r0,r1):=if_neg h;refine abB 0 r0 _ _ rfl h (by omega) (abA 1 r1 _ _ rfl h' (by omega) ?_);have:=fin (dx .or .i64 (dx .or .i64 0 (IntKind.wrap .i64 (1-r0.2))) (Kh .i64 r1.2 1)) (by rw[rT];exact(QX h0 h1).1);rw[rT]at this;exact this
def asy(x v:ID)(n:Int):aE:=(5,(x,(v,(v,(zC,(zC,(false,(e0,n))))))))
def J2(v w:ID):aE:=(6,(v,(zI,(w,(zC,(zC,(false,(e0,0))))))))
theorem MU{v w:ID}(hv:cY v=true)(hw:cY w=true):bg (J2 v w)=0:=by
 unfold bg;rw[if_neg (by simp[J2]),if_neg (by simp[J2]),if_neg (by simp[J2,hv]),if_neg,if_neg (by simp[J2]),if_neg (by simp[J2]),if_pos (show(J2 v w).1=6 from rfl)]
 ·exact if_pos hw
 intro h;have:sO (kC (J2 v w)) Ge=true:=(kD _ _).2 rfl;rw[this]at h;cases h
theorem xl(v:aj):∀{l:List aj},aP l v.1=none→bH (bW v l) v.1=l
 |[],_=>by simp[bW,bH]
 |w::r,hf=>by
  have bp:¬w.1=v.1:=fun e=>by simp[aP,e]at hf
  have Aa:aP r v.1=none:=by simpa[aP,List.find?_cons,bp] using hf
  unfold bW
  split
  ·unfold bH;rw[List.filter_cons_of_neg (by simp)];exact Ot hf
  ·have:=xl v Aa;unfold bH at this ⊢;rw[List.filter_cons_of_pos (by simpa using bp),this]
def ib(s:StateT)(o:aE):List aE :=if o.1=1 then[p7 2 (ar o)]
 else if o.1=2 then p7 1 (ar o)::bu (ar o) false (dZ s.1 (ar o)).1 (dZ s.1 (ar o)).2
 else if o.1=3 then[p7 4 (ar o)]
 else if o.1=4 then xk s.1 (ar o)
 else if o.1=5 then[J2 (cc o) (af o)]
 else if o.1=6 then(match ((aG s.1 (ar o)).getD zV).2.1 with | [r0,r1]=>cF s.1 o r0 r1|_=>[])
 else qd s.1 o
def qY(s:StateT)(o:aE):List aE:=if(bP s o).2.1≠0 then[] else ib s o
theorem iU{s:StateT}{o:aE}(h:(bP s o).2.1=0):bg o=0:=by
 unfold bP at h;by_cases hm:bg o=0
 ·exact hm
 ·rw[if_pos hm]at h;exact absurd h hm
theorem vo{s:StateT}{o:aE}(h:(bP s o).2.1=0)(hk:o.1=6):∃v r0 r1,aG s.1 (ar o)=some v∧v.2.1=[r0,r1]∧r0.1≠r1.1∧(r0.1=af o∨r1.1=af o):=by
 unfold bP at h;rw[if_neg (by simp[iU h]),if_neg (by omega),if_neg (by omega),if_neg (by omega),if_neg (by omega),if_neg (by omega),if_pos hk]at h;unfold fX at h
 split at h
 ·cases h
 ·rename_i v hv
  split at h
  ·rename_i r0 r1 hr;unfold dH at h
   split at h
   ·cases h
   rename_i h1
   split at h
   ·rename_i h2;exact⟨v,r0,r1,hv,hr,h1,.inl h2⟩
   split at h
   ·rename_i h2;exact⟨v,r0,r1,hv,hr,h1,.inr h2⟩
   ·cases h
  ·cases h
theorem aib(hG:HG G)(py:∀o,fP G o)(s:StateT)(o:aE)(h:cS s)(hf:Fit o):FX G 44 LA ((s,o,()),())=some ((qY s o,()),()):=by
 refine aC (hG _ _ rfl) afJ ?_;refine aa (Fs hG s o h hf fun hm h3=>py o s h hm h3) ?_;unfold qY;by_cases h0:(bP s o).2.1=0
 case neg=>rw[if_pos h0];exact ae (show((bP s o).2.1 != 0)=true by simp[h0]) rfl
 rw[if_neg (by simp[h0])];refine ah (show((bP s o).2.1 != 0)=false by simp[h0]) ?_;have hm:=iU h0;obtain⟨k1,k8⟩:=jw hm;have hs:=h.d.sm;unfold ib;have no:∀k:Int,¬o.1=k→(o.1==k)=false:=fun k hk=>by simp[hk]
 have ye:∀k:Int,o.1=k→(o.1==k)=true:=fun k hk=>by simp[hk]
 by_cases h1:o.1=1
 ·rw[if_pos h1];exact ae (ye 1 h1) rfl
 rw[if_neg h1];refine ah (no 1 h1) ?_;by_cases h2:o.1=2
 ·rw[if_pos h2];refine ae (ye 2 h2) (aa (Mx hG s.1 (ar o) hs) ?_);have e1:(ia zV (aG s.1 (ar o))).1=(aG s.1 (ar o)).getD zV:=dG _ _;show Option.bind (FX G 75 v5 ((ar o,false,(ia zV (aG s.1 (ar o))).1.2.2.1,(ia zV (aG s.1 (ar o))).1.2.2.2,()),())) _=_;rw[e1];refine aa (QW hG _ _ _ _) ?_;have hl:=da (ar o) false (dZ s.1 (ar o)).1 (dZ s.1 (ar o)).2;exact ae (fits (show 1+(bu (ar o) false (dZ s.1 (ar o)).1 (dZ s.1 (ar o)).2).length≤_ by omega)) rfl
 rw[if_neg h2];refine ah (no 2 h2) ?_;by_cases h3:o.1=3
 ·rw[if_pos h3];exact ae (ye 3 h3) rfl
 rw[if_neg h3];refine ah (no 3 h3) ?_;by_cases h4:o.1=4
 ·rw[if_pos h4];exact ae (ye 4 h4) (aa (ah7 hG s.1 o h.d) rfl)
 rw[if_neg h4];refine ah (no 4 h4) ?_;by_cases h5:o.1=5
 ·rw[if_pos h5];exact ae (ye 5 h5) rfl
 rw[if_neg h5];refine ah (no 5 h5) ?_;by_cases h6:o.1=6
 ·rw[if_pos h6];obtain⟨v,r0,r1,hv,hr,bp,hor⟩:=vo h0 h6;have Ce:v∈s.1.1:=ab5 hv;have side:∀r∈v.2.1,r.2=0∨r.2=1:=fun r hr=>h.d.side (aM.2 ⟨v,Ce,hr⟩);have hg:((aG s.1 (ar o)).getD zV).2.1=[r0,r1]:=by rw[hv];exact hr
  rw[hg];exact ae (ye 6 h6) (aa (aia hG s.1 o h.d hv hr bp hor (side r0 (by rw[hr];simp)) (side r1 (by rw[hr];simp))) rfl)
 rw[if_neg h6];exact ah (no 6 h6) (aa (ah8 hG s.1 o h.d) rfl)
theorem AX{row:List ab}{x:ab}(h:x∈row):cr row x∈row:=by have hl:0<row.length:=adI h;unfold cr cK;rw[if_pos h];have aK:((idx x row 0).toNat+(row.length-1))%row.length<row.length:=adR _ hl;rw[List.getElem?_eq_getElem aK];exact acB aK
theorem XQ{row:List ab}{x fj:ab}(h:x∈row)(bp:x≠fj):x∈bw row fj:=by unfold bw;exact(fF _).mem_iff.2 (adC.2 ⟨h,decide_eq_true bp⟩)
theorem XR{row:List ab}{x fj:ab}(h:x∈bw row fj):x∈row:=by unfold bw at h;exact(adC.1 ((fF _).mem_iff.1 h)).1
theorem J3{d:ak}(h:Wf d){x:ab}(hx:x∈an d.1):∃v∈d.1,x∈v.2.1∧bM d x=some v.1∧aW d v.1=v.2.1:=by obtain⟨v,hv,kb⟩:=aM.1 hx;exact⟨v,hv,kb,du h.rw hv kb,gm h.sv hv⟩
theorem C1{d:ak}(h:Wf d){x fj:ab}(hx:x∈an d.1)(bp:x≠fj):p6 (zh d x fj)=true:=by
 obtain⟨v,hv,kb,ha,hr⟩:=J3 h hx;have hi:=(h.gv v hv).i;unfold zh;rw[ha];simp only[Option.getD_some];rw[hr];have hm:=XR (AX (XQ kb bp))
 split
 ·unfold p6;simp[hi]
 ·obtain⟨e,he,h1,h2⟩:=dr.1 (h.pd.mem_iff.1 (aM.2 ⟨v,hv,hm⟩));unfold p6 Js;rw[hi,←h1,(h.ge e he).i,decide_eq_true h2];rfl
theorem Ii{n:ID}{a b:lW}(hn:cY n=true)(ha:p6 a=true)(hb:p6 b=true):bg (mr n a b)=0:=by
 unfold bg;rw[if_neg (by simp[mr]),if_neg (by simp[mr]),if_neg (by simp[mr,hn]),if_neg,if_pos (show(mr n a b).1=3 from rfl)]
 ·exact if_pos ⟨ha,hb⟩
 intro h;have:sO (kC (mr n a b)) Ge=true:=(kD _ _).2 rfl;rw[this]at h;cases h
theorem uo{x v w:ID}{n:Int}(hx:cY x=true)(hv:cY v=true)(hw:cY w=true)(h0:0≤n)(h3:n≤3):bg (fH x v w n)=0:=by
 unfold bg;rw[if_neg (by simp[fH]),if_neg (by simp[fH]),if_neg (by simp[fH,hx]),if_neg,if_neg (by simp[fH]),if_pos (show(fH x v w n).1=5 from rfl)]
 ·exact if_pos ⟨hv,hw,h0,h3⟩
 intro h;have:sO (kC (fH x v w n)) Ge=true:=(kD _ _).2 rfl;rw[this]at h;cases h
theorem pC{x:ID}{oe:Bool}{l:ByteArray}{n:Int}(hx:cY x=true)(hl:p4 l=true)(hn:mD n=true):∀p∈bu x oe l n,bg p=0:=fun p hp=>by
 unfold bu at hp;rcases abH.1 hp with hp|hp
 ·split at hp
  ·cases hp
  ·rw[List.mem_singleton.1 hp];exact CQ hx hl
 ·split at hp
  ·cases hp
  ·rw[List.mem_singleton.1 hp];exact CR hx hn
theorem MV{o:aE}(h:bg o=0):kC o=Ge:=by
 unfold bg at h
 split at h;· cases h
 split at h;· cases h
 split at h;· cases h
 split at h;· cases h
 rename_i h4;exact(kD _ _).1 (by simpa using h4)
theorem qZ{d:ak}(h:Wf d)(x:ID):p4 (dZ d x).1=true∧mD (dZ d x).2=true:=by
 unfold dZ
 cases hv:aG d x with
 |none=>exact⟨lp,lq⟩
 |some v=>have:=h.gv v (ab5 hv);exact⟨this.l,this.a⟩
theorem q6{d:ak}(h:Wf d)(x:ID):p4 (fJ d x).1=true∧mD (fJ d x).2=true:=by
 unfold fJ
 cases hv:b5 d x with
 |none=>exact⟨lp,lq⟩
 |some v=>have:=h.ge v (ab5 hv);exact⟨this.l,this.a⟩
theorem FV{o:aE}(hm:bg o=0)(hk:7≤o.1)(d:ak):qd d o=if o.1=7 then[SR (ar o) (cQ o) (if cQ o=true then fJ d (ar o) else dZ d (ar o)).1] else[Qr (ar o) (cQ o) (if cQ o=true then fJ d (ar o) else dZ d (ar o)).2]:=by
 have hr:=MV hm;obtain⟨k1,k8⟩:=jw hm;obtain⟨k,x,nw,ot,a,b,oe,t,n⟩:=o;simp only at hk k8;unfold qd;by_cases h7:k=7
 ·subst h7;unfold kC at hr;simp only[show ¬(7:Int)=3 by decide,show ¬(7:Int)=5 by decide,show ¬(7:Int)=6 by decide,if_false,if_true,Ge,Prod.mk.injEq,true_and]at hr;obtain⟨rfl,rfl,rfl,rfl,rfl⟩:=hr;rfl
 ·have h8:k=8:=by omega
  subst h8;unfold kC at hr;simp only[show ¬(8:Int)=3 by decide,show ¬(8:Int)=5 by decide,show ¬(8:Int)=6 by decide,show ¬(8:Int)=7 by decide,if_false,if_true,Ge,Prod.mk.injEq,true_and,and_true]at hr;obtain⟨rfl,rfl,rfl,rfl,rfl⟩:=hr;rfl
theorem AY{s:StateT}{o:aE}(h:(bP s o).2.1=0)(hk:o.1=4):(b5 s.1 (ar o)).isSome=true:=by
 unfold bP at h;rw[if_neg (by simp[iU h]),if_neg (by omega),if_neg (by omega),if_neg (by omega),if_pos hk]at h;unfold w8 at h
 split at h
 ·cases h
 ·rename_i h1;exact nq h1
theorem smN{p q:Int}(hp:p=0∨p=1)(hq:q=0∨q=1):0≤1-p+2*q∧1-p+2*q≤3:=by omega
theorem QY{s:StateT}{o:aE}(hw:cS s)(h:(bP s o).2.1=0):(∀p∈ib s o,bg p=0)∧1≤(ib s o).length∧(ib s o).length≤5:=by
 have hm:=iU h;obtain⟨k1,k8⟩:=jw hm;have hi:=rY hm;have one:∀{p:aE} {l:List aE},l=[p]→bg p=0→(∀q∈l,bg q=0)∧1≤l.length∧l.length≤5:=fun {p l} e hp=>by subst e;exact⟨fun q hq=>by rw[List.mem_singleton.1 hq];exact hp,by simp,by simp⟩
 unfold ib;by_cases h1:o.1=1
 ·rw[if_pos h1];exact one rfl (vn (.inr (.inl rfl)) hi)
 rw[if_neg h1];by_cases h2:o.1=2
 ·rw[if_pos h2];have hl:=da (ar o) false (dZ s.1 (ar o)).1 (dZ s.1 (ar o)).2;obtain⟨q1,q2⟩:=qZ hw.d (ar o);refine⟨fun p hp=>?_,by simp,by simp only[List.length_cons];omega⟩;rcases abn.1 hp with rfl|hp
  ·exact vn (.inl rfl) hi
  ·exact pC hi q1 q2 p hp
 rw[if_neg h2];by_cases h3:o.1=3
 ·rw[if_pos h3];exact one rfl (vn (.inr (.inr rfl)) hi)
 rw[if_neg h3];by_cases h4:o.1=4
 ·rw[if_pos h4];have he:=AY h h4;have hx:=hw.d.gq he (s:=0) (.inl rfl);have hy:=hw.d.gq he (s:=1) (.inr rfl);obtain⟨q1,q2⟩:=q6 hw.d (ar o);have hl:=da (ar o) true (fJ s.1 (ar o)).1 (fJ s.1 (ar o)).2;unfold xk;refine⟨fun p hp=>?_,by simp,by simp only[List.length_cons];omega⟩;rcases abn.1 hp with rfl|hp
  ·exact Ii hi (C1 hw.d hx (fun e=>by have:=congrArg (·.2) e;simp at this)) (C1 hw.d hy (fun e=>by have:=congrArg (·.1) e;have e2:ar o=zI:=this;rw[e2]at hi;cases hi))
  ·exact pC hi q1 q2 p hp
 rw[if_neg h4];by_cases h5:o.1=5
 ·rw[if_pos h5];obtain⟨a,b,_,_⟩:=np hm h5;exact one rfl (MU a b)
 rw[if_neg h5];by_cases h6:o.1=6
 ·rw[if_pos h6];obtain⟨v,r0,r1,hv,hr,bp,hor⟩:=vo h h6;have Ce:v∈s.1.1:=ab5 hv;have hg:((aG s.1 (ar o)).getD zV).2.1=[r0,r1]:=by rw[hv];exact hr
  rw[hg];have side:∀r∈v.2.1,(r.2=0∨r.2=1)∧cY r.1=true:=fun r hr=>by obtain⟨e,he,e1,e2⟩:=dr.1 (hw.d.pd.mem_iff.1 (aM.2 ⟨v,Ce,hr⟩));exact⟨e2,by rw[←e1];exact(hw.d.ge e he).i⟩
  have s0:=side r0 (by rw[hr];simp);have s1:=side r1 (by rw[hr];simp);obtain⟨q1,q2⟩:=qZ hw.d (ar o);obtain⟨q3,q4⟩:=q6 hw.d (af o);have ho:=Fj hm h6;have l1:=da (ar o) false (dZ s.1 (ar o)).1 (dZ s.1 (ar o)).2;have l2:=da (af o) true (fJ s.1 (af o)).1 (fJ s.1 (af o)).2;show(∀p∈cF s.1 o r0 r1,bg p=0)∧1≤(cF s.1 o r0 r1).length∧(cF s.1 o r0 r1).length≤5;unfold cF;refine⟨fun p hp=>?_,by simp only[List.length_append,List.length_cons,List.length_nil];omega,by simp only[List.length_append,List.length_cons,List.length_nil];omega⟩;rcases abH.1 hp with hp|hp
  ·rcases abH.1 hp with hp|hp
   ·rw[List.mem_singleton.1 hp];unfold um
    split
    ·obtain⟨n0,n3⟩:=smN s1.1 s0.1;exact uo s1.2 hi ho n0 n3
    ·obtain⟨n0,n3⟩:=smN s0.1 s1.1;exact uo s0.2 hi ho n0 n3
   ·exact pC hi q1 q2 p hp
  ·exact pC ho q3 q4 p hp
 rw[if_neg h6];obtain⟨q1,q2⟩:=qZ hw.d (ar o);obtain⟨q3,q4⟩:=q6 hw.d (ar o);have hq:p4 (if cQ o=true then fJ s.1 (ar o) else dZ s.1 (ar o)).1=true∧mD (if cQ o=true then fJ s.1 (ar o) else dZ s.1 (ar o)).2=true:=by split;exact⟨q3,q4⟩;exact⟨q1,q2⟩
 rw[FV hm (by omega)]
 split
 ·exact one rfl (CQ hi hq.1)
 ·exact one rfl (CR hi hq.2)
theorem FY{s:StateT}(hw:cS s)(o:aE):(qY s o).length≤5:=by
 unfold qY
 split
 ·simp
 ·rename_i h;exact(QY hw (by simpa using h)).2.2
def mX:List aE→StateT→List aE→List aE
 |[],_,acc=>acc
 |o::r,s,acc=>mX r (bP s o).1 (qY s o++acc)
def ofR(s:StateT)(l:List aE):List aE×(Int×Unit):=if(bC s l).2.1≠0 then([],((bC s l).2.1,())) else(mX l s [],(0,()))
theorem go_step{s:StateT}{o:aE}{r:List aE}(h:(ji (o::r) s).2.1=0):(bP s o).2.1=0∧(ji r (bP s o).1).2.1=0∧ji (o::r) s=ji r (bP s o).1:=by
 have e:ji (o::r) s=if(bP s o).2.1≠0 then(zS,(bP s o).2) else ji r (bP s o).1:=rfl
 rw[e]at h ⊢;by_cases h1:(bP s o).2.1=0
 ·rw[if_neg (by simp[h1])]at h ⊢;exact⟨h1,h,rfl⟩
 ·rw[if_pos h1]at h;exact absurd h h1
theorem aic(hG:HG G)(py:∀o,fP G o)(s:StateT)(l:List aE)(hw:cS s)(hl:l.length≤8)(hf:∀o∈l,Fit o):FX G 48 BF ((s,l,()),())=some (ofR s l,()):=by
 refine aC (hG _ _ rfl) afK ?_;refine aa (acD hG s l hw (by omega) hf fun o _=>py o) ?_;unfold ofR;by_cases h0:(bC s l).2.1=0
 case neg=>rw[if_pos h0];exact ae (show((bC s l).2.1 != 0)=true by simp[h0]) rfl
 rw[if_neg (by simp[h0])];refine ah (show((bC s l).2.1 != 0)=false by simp[h0]) ?_;have Qc:(ji l s).2.1=0:=by rw[mq h0]at h0;exact h0
 have loop:∀(n i:Nat) (t:StateT) (acc:List aE),i+n=l.length→cS t→(ji (l.drop i) t).2.1=0→acc.length≤5*i → LX G 48 BF Tryz.f48 yE (aY Tryz.prog 48 0) ((l,(((l.length:Nat):Int),((i:Int),()))),(((t,()),()),(acc,())))=some ((mX (l.drop i) t acc,((0:Int),())),()):=by
  intro n
  induction n with
  |zero =>intro i t acc hi ht hg ha;refine aB P3 (ah (decide_eq_false (show ¬((i:Int)<((l.length:Nat):Int)) by omega)) ?_);rw[List.drop_eq_nil_of_le (by omega)];rfl
  |succ n ih =>
   intro i t acc hi ht hg ha;have aK:i<l.length:=by omega
   have hm:=acB aK;rw[List.drop_eq_getElem_cons aK]at hg ⊢;obtain⟨g1,g2,_⟩:=go_step hg
   refine aB P3 (ae (bj aK) (aa (aT (aba aK)) ?_));refine aa (aib hG py t l[i] ht (hf _ hm)) ?_;have hp:=FY ht l[i];refine ae (fits (show(qY t l[i]).length+acc.length≤_ by omega)) ?_;refine aa (Fs hG t l[i] ht (hf _ hm) fun hm h3=>py _ t ht hm h3) ?_;refine ah (show((bP t l[i]).2.1 != 0)=false by simp[g1]) ?_;rw[wI,aN aK (by omega)];exact ih (i+1) _ (qY t l[i]++acc) (by omega) (ht.one l[i]) g2 (by rw[List.length_append];omega)
 exact loop l.length 0 s [] (by omega) hw Qc (by simp)
theorem aid(hG:HG G)(py:∀o,fP G o)(s:StateT)(l:List aE)(hw:cS s)(hl:l.length≤1073741824)(hf:∀o∈l,Fit o):FX G 53 BH ((s,l,()),())=some (ji l s,()):=by
 have hn:=hw.n;refine aC (hG _ _ rfl) afN ?_;refine aa (Zk hG s.1 hw.d.sm) (aa (Wr (hG _ _ rfl) s.2 (by omega)) ?_);have loop:∀(n i:Nat) (t:StateT),i+n=l.length→cS t → LX G 53 BH Tryz.f53 yG (aY Tryz.prog 53 0) ((l,(((l.length:Nat):Int),((i:Int),()))),(((zS,()),((t,()),())),()))=some (ji (l.drop i) t,()):=by
  intro n
  induction n with
  |zero =>intro i t hi ht;refine aB P5 (ah (decide_eq_false (show ¬((i:Int)<((l.length:Nat):Int)) by omega)) ?_);rw[List.drop_eq_nil_of_le (by omega)];rfl
  |succ n ih =>
   intro i t hi ht;have aK:i<l.length:=by omega
   have hm:=acB aK;refine aB P5 (ae (bj aK) (aa (aT (aba aK)) ?_));refine aa (Fs hG t l[i] ht (hf _ hm) fun hm h3=>py _ t ht hm h3) ?_;rw[List.drop_eq_getElem_cons aK,ji];by_cases h1:(bP t l[i]).2.1=0
   ·rw[if_neg (by simp[h1])];refine ah (show((bP t l[i]).2.1 != 0)=false by simp[h1]) ?_;rw[wI,aN aK hl];exact ih (i+1) _ (by omega) (ht.one l[i])
   ·rw[if_pos h1];exact ae (show((bP t l[i]).2.1 != 0)=true by simp[h1]) rfl
 exact loop l.length 0 s (by omega) hw
end Go.Vs
