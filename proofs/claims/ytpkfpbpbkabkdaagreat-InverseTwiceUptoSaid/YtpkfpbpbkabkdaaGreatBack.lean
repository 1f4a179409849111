/- What takes operations back -/
import Derived.Test.YtpkfpbpbkabkdaaGreatPartsB
import Derived.Test.YtpkfpbpbkabkdaaGreatForm
import Derived.Test.YtpkfpbpbkabkdaaGreatNormalD
import Derived.Test.YtpkfpbpbkabkdaaGreatPlane
set_option linter.unusedVariables false
set_option linter.unusedSimpArgs false
namespace Go.Vs
open Go.Proofs
variable {G:(f:FuncId)→(g:aX)→Option (g.A→Option g.B)}
theorem OU{n:Int}(h:PQ (.int .i64) n):EY n:=by
 have h1:IntKind.min .i64 = -9223372036854775808:=by decide
 have h2:IntKind.max .i64=9223372036854775807:=by decide
 have h:IntKind.min .i64≤n∧n≤IntKind.max .i64:=h;rw[h1,h2]at h;unfold EY;omega
theorem acR{o:aW}(h:PQ j4 o)(ht:Ak o):Fit o:=by obtain⟨_,_,_,_,⟨_,_,h1⟩,⟨_,_,h2⟩,_,_,h3⟩:=h;exact⟨OU h1,OU h2,OU h3,ht⟩
theorem Wf.bd{d:ak}(h:Wf d):Bd 100 d:=⟨by have:=h.nv;omega,by have:=h.ne;omega,fun v hv=>by have:=h.wT v hv;omega⟩
theorem HZ(v:ai):v.2.1.length+v.2.2.1.size+1≤cF dO v:=by have h:cF dO v=(1+1)+(((v.2.1.map (cF bA)).sum+1)+((v.2.2.1.size+1)+1)):=rfl;have h2:=yy (fun x:ae=>cF bA x) (fun x=>by show 1≤(1+1)+1;omega) v.2.1;have h3:(v.2.1.map fun x:ae=>cF bA x).sum=(v.2.1.map (cF bA)).sum:=rfl;rw[h];omega
theorem H3(e:an):e.2.1.size+1≤cF eR e:=by have h:cF eR e=(1+1)+((e.2.1.size+1)+1):=rfl;rw[h];omega
theorem Mw{s:StateT}{m:Nat}(hb:cF mr s≤m):s.1.1.length≤m∧s.1.2.length≤m∧s.2.length≤m∧(∀v∈s.1.1,v.2.1.length≤m∧v.2.2.1.size≤m)∧∀e∈s.1.2,e.2.1.size≤m:=by
 have h:cF mr s=(((s.1.1.map (cF dO)).sum+1)+((s.1.2.map (cF eR)).sum+1))+((s.2.map (cF dy)).sum+1):=rfl;rw[h]at hb;have l1:=yy (fun v:ai=>cF dO v) (fun v=>by have:=HZ v;omega) s.1.1;have l2:=yy (fun e:an=>cF eR e) (fun e=>by have:=H3 e;omega) s.1.2;have l3:=yy (fun g:aE=>cF dy g) (fun g=>by show 1≤((1+1)+1)+((1+1)+1);omega) s.2;have e1:(s.1.1.map fun v:ai=>cF dO v).sum=(s.1.1.map (cF dO)).sum:=rfl;have e2:(s.1.2.map fun v:an=>cF eR v).sum=(s.1.2.map (cF eR)).sum:=rfl;have e3:(s.2.map fun v:aE=>cF dy v).sum=(s.2.map (cF dy)).sum:=rfl;refine⟨by omega,by omega,by omega,fun v hv=>?_,fun e he=>?_⟩
 ·have:=CG (fun v:ai=>cF dO v) hv;have:=HZ v;omega
 ·have:=CG (fun v:an=>cF eR v) he;have:=H3 e;omega
end Go.Vs
namespace Go.Vs
def Mx:List (List aW)→StateT→StateT
 |[],s=>s
 |e::r,s=>Mx r (oK s e)
def FK:List (List aW)→StateT→List Bool
 |[],_=>[]
 |e::r,s=>decide ((cX s e).2.1=0)::FK r (oK s e)
theorem dN.all:∀(l:List (List aW)) {s:StateT},dN s→dN (Mx l s)
 |[],_,h=>h
 |e::r,_,h=>dN.all r (h.try e)
theorem Bs.all:∀{l:List (List aW)} {n:Nat} {s:StateT},(∀e∈l,e.length≤8)→Bs n s→Bs (n+24*l.length) (Mx l s)
 |[],_,_,_,h=>h
 |e::r,n,s,hl,h=>by have h1:Bs (n+24) (oK s e):=h.try.mono (by have:=hl e (by simp);omega);exact(Bs.all (fun e he=>hl e (by simp[he])) h1).mono (by simp;omega)
theorem My{l:List ai}{x:ID}:(aN l x).isSome=true↔∃v∈l,v.1=x:=by unfold aN;rw[List.find?_isSome];simp
theorem Mz{l:List an}{x:ID}:(aL l x).isSome=true↔∃v∈l,v.1=x:=by unfold aL;rw[List.find?_isSome];simp
structure Gr(s t:StateT):Prop where
 v:∀x,(aN s.1.1 x).isSome=true→(aN t.1.1 x).isSome=true
 e:∀x,(aL s.1.2 x).isSome=true→(aL t.1.2 x).isSome=true
 nv:s.1.1.length≤t.1.1.length
 ne:s.1.2.length≤t.1.2.length
theorem Gr.rfl(s:StateT):Gr s s:=⟨fun _ h=>h,fun _ h=>h,ack _,ack _⟩
theorem Gr.trans{a b c:StateT}(h:Gr a b)(k:Gr b c):Gr a c:=⟨fun x p=>k.v x (h.v x p),fun x p=>k.e x (h.e x p),acN h.nv k.nv,acN h.ne k.ne⟩
def named(s:StateT)(o:aW):Prop:=if o.1=1 then(aN s.1.1 (au o)).isSome=true else(aL s.1.2 (au o)).isSome=true
theorem named.up{s t:StateT}{o:aW}(h:named s o)(k:Gr s t):named t o:=by
 unfold named at h ⊢
 split
 ·rename_i h1;rw[if_pos h1]at h;exact k.v _ h
 ·rename_i h1;rw[if_neg h1]at h;exact k.e _ h
theorem Qt(d:ak)(c:ml)(x:ae):(br d c x).1.length=d.1.length∧(br d c x).2=d.2:=⟨fK _ _ _,rfl⟩
theorem Xi{s:StateT}{o:aW}(hk:o.1=1∨o.1=3)(h:(bT s o).2.1=0):Gr s (bT s o).1∧named (bT s o).1 o:=by
 unfold bT at h ⊢;by_cases hm:bm o=0
 case neg=>rw[if_pos hm]at h;exact absurd h hm
 rw[if_neg (by simp[hm])]at h ⊢;rcases hk with h1|h3
 ·rw[if_pos h1]at h ⊢;unfold l8 at h ⊢;by_cases h2:(aO s.1 (au o)).isSome=true
  ·rw[if_pos h2]at h;cases h
  rw[if_neg h2]at h ⊢;by_cases h4:24≤s.1.1.length
  ·rw[if_pos h4]at h;cases h
  rw[if_neg h4];refine⟨⟨fun x hx=>?_,fun x hx=>hx,by show _≤(ct _ _).length;rw[gu];omega,ack _⟩,?_⟩
  ·rw[My]at hx ⊢;obtain⟨v,hv,e⟩:=hx;exact⟨v,kx.2 (.inr hv),e⟩
  ·unfold named;rw[if_pos h1,My];exact⟨_,kx.2 (.inl rfl),rfl⟩
 ·have n1:¬o.1=1:=by omega
  have n2:¬o.1=2:=by omega
  rw[if_neg n1,if_neg n2,if_pos h3]at h ⊢;unfold kK at h ⊢
  split at h
  ·cases h
  rename_i c1
  split at h
  ·cases h
  rename_i c2
  split at h
  ·cases h
  rename_i c3
  split at h
  ·cases h
  rename_i c4
  split at h
  ·cases h
  rename_i c5;rw[if_neg c1,if_neg c2,if_neg c3,if_neg c4,if_neg c5];have l1:(gP s o).1.length=s.1.1.length:=by unfold gP;rw[(Qt _ _ _).1,(Qt _ _ _).1]
  have l2:(gP s o).2=bS (au o,(e0,0)) s.1.2:=rfl;refine⟨⟨fun x hx=>?_,fun x hx=>?_,by show _≤(gP s o).1.length;omega,by show _≤(gP s o).2.length;rw[l2,l6];omega⟩,?_⟩
  ·exact tK _ (tK _ hx)
  ·show(aL (gP s o).2 x).isSome=true;rw[l2];rw[Mz]at hx ⊢;obtain⟨v,hv,e⟩:=hx;exact⟨v,ky.2 (.inr hv),e⟩
  ·unfold named;rw[if_neg n1];show(aL (gP s o).2 (au o)).isSome=true;rw[l2,Mz];exact⟨_,ky.2 (.inl rfl),rfl⟩
theorem SF{s:StateT}{o:aW}(hk:o.1=1∨o.1=3)(h:named s o):(bT s o).2.1≠0:=by
 unfold bT;by_cases hm:bm o=0
 case neg=>rw[if_pos hm];exact hm
 rw[if_neg (by simp[hm])];unfold named at h;rcases hk with h1|h3
 ·rw[if_pos h1]at h;rw[if_pos h1];unfold l8;rw[if_pos (show(aO s.1 (au o)).isSome=true from h)];decide
 ·have n1:¬o.1=1:=by omega
  have n2:¬o.1=2:=by omega
  rw[if_neg n1]at h;rw[if_neg n1,if_neg n2,if_pos h3];unfold kK;rw[if_pos (show(cH s.1 (au o)).isSome=true from h)];decide
structure ZE(e:List aW):Prop where
 k:∀o∈e,o.1=1∨o.1=3
 n:e≠[]
theorem JP:∀{e:List aW} {s:StateT},(∀o∈e,o.1=1∨o.1=3)→(j5 e s).2.1=0→Gr s (j5 e s).1∧∀o∈e,named (j5 e s).1 o
 |[],s,_,_=>⟨Gr.rfl s,fun o ho=>by cases ho⟩
 |o::r,s,hk,h=>by
  unfold j5 at h ⊢;by_cases h1:(bT s o).2.1=0
  case neg=>rw[if_pos h1]at h;exact absurd h h1
  rw[if_neg (by simp[h1])]at h ⊢;obtain⟨g1,n1⟩:=Xi (hk o (by simp)) h1;obtain⟨g2,n2⟩:=JP (fun o ho=>hk o (by simp[ho])) h;refine⟨g1.trans g2,fun p hp=>?_⟩;rcases abd.1 hp with rfl|hp
  ·exact n1.up g2
  ·exact n2 p hp
theorem ox{s:StateT}{e:List aW}(h:(cX s e).2.1=0):cX s e=j5 e s:=by
 unfold cX at h ⊢;by_cases hm:fC e=0
 ·rw[if_neg (by simp[hm])]
 ·rw[if_pos hm]at h;exact absurd h hm
theorem Xk{s:StateT}{e:List aW}(h:(cX s e).2.1=0):oK s e=(cX s e).1:=by unfold oK;rw[if_neg (by simp[h])]
theorem ZF{s:StateT}{e:List aW}(h:(cX s e).2.1≠0):oK s e=s:=by unfold oK;rw[if_pos h]
theorem MA{s:StateT}{e:List aW}(ha:ZE e):Gr s (oK s e):=by
 by_cases h:(cX s e).2.1=0
 ·rw[Xk h,ox h];rw[ox h]at h;exact(JP ha.k h).1
 ·rw[ZF h];exact Gr.rfl s
theorem MB:∀{l:List (List aW)} {s:StateT},(∀e∈l,ZE e)→Gr s (Mx l s)
 |[],s,_=>Gr.rfl s
 |e::r,s,h=>(MA (h e (by simp))).trans (MB fun e he=>h e (by simp[he]))
theorem MC{s t:StateT}{e:List aW}(ha:ZE e)(h:(cX s e).2.1=0)(hg:Gr (oK s e) t):(cX t e).2.1≠0:=fun h2=>by
 rw[Xk h,ox h]at hg;rw[ox h]at h;rw[ox h2]at h2;obtain⟨_,hn⟩:=JP ha.k h
 cases e with
 |nil=>exact ha.n rfl
 |cons o r =>have h3:=SF (ha.k o (by simp)) ((hn o (by simp)).up hg);unfold j5 at h2;rw[if_pos h3]at h2;exact h3 h2
theorem xJ:∀{l:List (List aW)} {s t:StateT},(∀e∈l,ZE e)→Gr (Mx l s) t→∀i:Nat,(FK l s)[i]? = some true→(FK l t)[i]? = some true→False
 |[],_,_,_,_,i,h,_=>by simp[FK]at h
 |e::r,s,t,ha,hg,0,h1,h2=>by simp[FK]at h1 h2;exact MC (ha e (by simp)) h1 ((MB fun e he=>ha e (by simp[he])).trans hg) h2
 |e::r,s,t,ha,hg,i+1,h1,h2=>by have h1:(FK r (oK s e))[i]? = some true:=h1;have h2:(FK r (oK t e))[i]? = some true:=h2;exact xJ (l:=r) (s:=oK s e) (t:=oK t e) (fun e he=>ha e (by simp[he])) (Gr.trans (show Gr (Mx r (oK s e)) t from hg) (MA (ha e (by simp)))) i h1 h2
end Go.Vs
namespace Go.Vs
open Go.Proofs
variable {G:(f:FuncId)→(g:aX)→Option (g.A→Option g.B)}
structure vM(l:List (List aW)):Prop where
 n:l.length≤1073741824
 e:∀e∈l,e.length≤1073741824
 f:∀e∈l,∀o∈e,Fit o
theorem vM.mem{l m:List (List aW)}(h:vM l)(hs:∀e∈m,e∈l)(hn:m.length≤1073741824):vM m:=⟨hn,fun e he=>h.e e (hs e he),fun e he=>h.f e (hs e he)⟩
theorem ZG(n:Int):Fit (vG 1 (1,n)):=⟨sF,sF,sF,by show e0.size≤_;simp[e0,ByteArray.size]⟩
abbrev hiB(h:jk):StateT:=h.1
abbrev Tg(h:jk):Int:=h.2.1
abbrev MD(h:jk):List (List aW):=h.2.2.1
def hiL(h:jk):Int:=Tg h+((MD h).length:Nat)
structure Xl(m:Nat)(h:jk):Prop where
 b:dN (hiB h)
 f0:0≤Tg h
 f1:hiL h≤m
 m1:m≤1000000000
 n:(MD h).length≤64
 r:vM (MD h)
theorem Xl.zero:Xl 0 (zS,(0,([],()))):=⟨dN.zero,Int.le_refl _,by decide,by decide,adq _,⟨adq _,fun e he=>(by cases he),fun e he=>(by cases he)⟩⟩
def ahq(h:jk)(e:List aW):(Int×(Int×Unit))×jk :=if fC e≠0 then((0,(fC e,())),h) else if 64≤(MD h).length then((0,(20,())),h) else((hiL h+1,(0,())),(hiB h,(Tg h,(MD h++[e],()))))
theorem Xl.mono{m k:Nat}{h:jk}(ho:Xl m h)(hk:m≤k)(h1:k≤1000000000):Xl k h:=⟨ho.b,ho.f0,by have:=ho.f1;omega,h1,ho.n,ho.r⟩
theorem Xl.add{m:Nat}{h:jk}(ho:Xl m h)(hm:m<1000000000){e:List aW}(he:e.length≤1073741824)(hf:∀o∈e,Fit o):Xl (m+1) (ahq h e).2:=by
 unfold ahq
 split
 ·exact ho.mono (by omega) (by omega)
 split
 ·exact ho.mono (by omega) (by omega)
 ·rename_i h1 h2;have h3:=ho.f1;have hl:hiL h=Tg h+((MD h).length:Nat):=rfl;refine⟨ho.b,ho.f0,?_,by omega,?_,?_,fun p hp=>?_,fun p hp=>?_⟩
  ·show Tg h+(((MD h++[e]).length:Nat):Int)≤_;simp;omega
  ·show(MD h++[e]).length≤64;simp;omega
  ·show(MD h++[e]).length≤_;simp;omega
  ·rcases abw.1 (show p∈MD h++[e] from hp) with hp|hp
   ·exact ho.r.e p hp
   ·rw[List.mem_singleton.1 hp];exact he
  ·rcases abw.1 (show p∈MD h++[e] from hp) with hp|hp
   ·exact ho.r.f p hp
   ·rw[List.mem_singleton.1 hp];exact hf
def hIn(h:jk)(n:Int):Prop:=Tg h≤n∧n≤hiL h
instance (h:jk) (n:Int):Decidable (hIn h n):=by unfold hIn;infer_instance
def atH(h:jk)(n:Int):StateT×(Int×Unit):=if hIn h n then(Mx ((MD h).take (n-Tg h).toNat) (hiB h),(0,())) else(zS,(26,()))
theorem vM.take{l:List (List aW)}(h:vM l)(n:Nat):vM (l.take n):=h.mem (fun e he=>adC he) (by have:=h.n;simp;omega)
theorem vM.drop{l:List (List aW)}(h:vM l)(n:Nat):vM (l.drop n):=h.mem (fun e he=>adr he) (by have:=h.n;simp;omega)
def aa5(h:jk)(n:Int):Int×jk:=if hIn h n then(0,(Mx ((MD h).take (n-Tg h).toNat) (hiB h),(n,((MD h).drop (n-Tg h).toNat,())))) else(26,h)
theorem Xl.comp{m:Nat}{h:jk}(ho:Xl m h)(n:Int):Xl m (aa5 h n).2:=by
 unfold aa5;have h1:=ho.f0;have h2:=ho.f1;have h3:=ho.n;have hl:hiL h=Tg h+((MD h).length:Nat):=rfl;by_cases hi:hIn h n
 ·rw[if_pos hi];unfold hIn at hi;refine⟨dN.all _ ho.b,by show 0≤n;omega,?_,ho.m1,?_,ho.r.drop _⟩
  ·show n+((((MD h).drop (n-Tg h).toNat).length:Nat):Int)≤m;rw[List.length_drop];omega
  ·show((MD h).drop (n-Tg h).toNat).length≤64;rw[List.length_drop];omega
 ·rw[if_neg hi];exact ho
def mh(x:ID)(a b:ml):aW:=(3,(x,(zI,(zI,(a,(b,(false,(e0,0))))))))
def fV(x v w:ID)(n:Int):aW:=(5,(x,(v,(w,(zC,(zC,(false,(e0,n))))))))
def cP(v w:ID):aW:=(6,(v,(zI,(w,(zC,(zC,(false,(e0,0))))))))
def b7(x:ID)(oe:Bool)(l:ByteArray)(n:Int):List aW:=(if l=e0 then[] else[Td x oe l])++(if n=0 then[] else[Sd x oe n])
theorem fE(x:ID)(oe:Bool)(l:ByteArray)(n:Int):(b7 x oe l n).length≤2:=by unfold b7;split<;>split<;>simp
theorem Qu(hG:HG G)(x:ID)(oe:Bool)(l:ByteArray)(n:Int):FX G 75 vC ((x,oe,l,n,()),())=some ((b7 x oe l n,()),()):=by
 refine aB (hG _ _ rfl) afk ?_;unfold b7;by_cases h1:l=e0
 ·rw[if_pos h1];refine ag (show(!(l==e0))=false by rw[VI,decide_eq_true h1];rfl) ?_;by_cases h2:n=0
  ·rw[if_pos h2];exact ag (show(n != 0)=false by simp[h2]) rfl
  ·rw[if_neg h2];exact af (show(n != 0)=true by simp[h2]) (af rfl rfl)
 ·rw[if_neg h1];refine af (show(!(l==e0))=true by rw[VI,decide_eq_false h1];rfl) (af rfl ?_);by_cases h2:n=0
  ·rw[if_pos h2];exact ag (show(n != 0)=false by simp[h2]) rfl
  ·rw[if_neg h2];exact af (show(n != 0)=true by simp[h2]) (af rfl rfl)
theorem ahr(hG:HG G)(e:an):FX G 138 Lq ((e,()),())=some ((e.1,()),()):=aB (hG _ _ rfl) afr rfl
theorem Xm(hG:HG G)(d:ak)(x:ID)(hl:d.2.length≤1073741824):FX G 111 Eh ((d,x,()),())=some (jY zE (cH d x),()):=by
 refine aB (hG _ _ rfl) afo ?_;have h1:FX G 139137 lU ((d.2,x,()),())=some (jY zE (aL d.2 x),()):=by
  refine aB (hG _ _ rfl) Vr ?_;have loop:∀(n i:Nat),i+n=d.2.length→LX G 139137 lU Tryz.f137 n6 (aS Tryz.prog 137 0) ((d.2,(((d.2.length:Nat):Int),((i:Int),()))),(((x,()),((zE,()),())),()))=some (jY zE (aL (d.2.drop i) x),()):=by
   intro n
   induction n with
   |zero =>intro i hi;refine aw EL (ag (decide_eq_false (show ¬((i:Int)<((d.2.length:Nat):Int)) by omega)) ?_);rw[List.drop_eq_nil_of_le (by omega)];rfl
   |succ n ih =>
    intro i hi;have aG:i<d.2.length:=by omega
    refine aw EL (af (ba aG) (aa (aC (aa4 aG)) (aa (ahr hG d.2[i]) ?_)));rw[List.drop_eq_getElem_cons aG];have hf:aL (d.2[i]::d.2.drop (i+1)) x=if d.2[i].1=x then some d.2[i] else aL (d.2.drop (i+1)) x:=by unfold aL;rw[List.find?_cons];by_cases h:d.2[i].1=x<;>simp[h]
    rw[hf];by_cases h:d.2[i].1=x
    ·rw[if_pos h];refine af ?_ rfl;exact(jl d.2[i].1 x).trans (decide_eq_true h)
    ·rw[if_neg h];refine ag ((jl d.2[i].1 x).trans (decide_eq_false h)) ?_;rw[wI,aI aG hl];exact ih (i+1) (by omega)
  exact loop d.2.length 0 (by omega)
 exact aa h1 rfl
def GD(d:ak)(x fe:ae):ml :=
 let y:=cC (bz (aV d ((bJ d x).getD zI)) fe) x
 if y=x then((bJ d x).getD zI,zD) else((bJ d x).getD zI,y)
theorem aa6(hG:HG G)(d:ak)(x fe:ae)(hw:Wf d):FX G 112 Hk ((d,x,fe,()),())=some ((GD d x fe,()),()):=by
 have hs:=hw.sm;refine aB (hG _ _ rfl) afp ?_;refine aa (Wx hG d x hs) ?_;show Option.bind (FX G 74 vA ((d,(jY zI (bJ d x)).1,()),())) _=_;rw[fz];refine aa (Me hG d _ hs) ?_;show Option.bind (FX G 141 Ea (((jY zV (aO d ((bJ d x).getD zI))).1.2.1,fe,()),())) _=_;rw[fz];have SZ:=mY hs ((bJ d x).getD zI);have Cq:(aV d ((bJ d x).getD zI)).Nodup:=by
  unfold aV
  cases hv:aO d ((bJ d x).getD zI) with
  |none=>simp[zV]
  |some v=>exact hw.rw.ring (acq hv)
 refine aa (V5 hG (aV d ((bJ d x).getD zI)) fe Cq (by omega)) ?_;have DQ:=BJ (aV d ((bJ d x).getD zI)) fe;refine aa (aaS hG (bz (aV d ((bJ d x).getD zI)) fe) x (by omega)) ?_;unfold GD;have e1:(BG (cT (bz (aV d ((bJ d x).getD zI)) fe) x ((bz (aV d ((bJ d x).getD zI)) fe).length-1))).1=cC (bz (aV d ((bJ d x).getD zI)) fe) x:=yD _;have hb:=lW (BG (cT (bz (aV d ((bJ d x).getD zI)) fe) x ((bz (aV d ((bJ d x).getD zI)) fe).length-1))).1 x;rw[e1]at hb;by_cases h:cC (bz (aV d ((bJ d x).getD zI)) fe) x=x
 ·refine ag ?_ ?_
  ·show(!(((((BG (cT (bz (aV d ((bJ d x).getD zI)) fe) x ((bz (aV d ((bJ d x).getD zI)) fe).length-1))).1).1.1==x.1.1)&&(((BG (cT (bz (aV d ((bJ d x).getD zI)) fe) x ((bz (aV d ((bJ d x).getD zI)) fe).length-1))).1).1.2==x.1.2))&&(((BG (cT (bz (aV d ((bJ d x).getD zI)) fe) x ((bz (aV d ((bJ d x).getD zI)) fe).length-1))).1).2==x.2)))=false;rw[e1,hb,decide_eq_true h];rfl
  ·refine congrArg (fun c:ml=>some ((c,()),())) ?_;show((bJ d x).getD zI,zD)=if cC (bz (aV d ((bJ d x).getD zI)) fe) x=x then((bJ d x).getD zI,zD) else((bJ d x).getD zI,cC (bz (aV d ((bJ d x).getD zI)) fe) x)
   rw[if_pos h]
 ·refine af ?_ ?_
  ·show(!(((((BG (cT (bz (aV d ((bJ d x).getD zI)) fe) x ((bz (aV d ((bJ d x).getD zI)) fe).length-1))).1).1.1==x.1.1)&&(((BG (cT (bz (aV d ((bJ d x).getD zI)) fe) x ((bz (aV d ((bJ d x).getD zI)) fe).length-1))).1).1.2==x.1.2))&&(((BG (cT (bz (aV d ((bJ d x).getD zI)) fe) x ((bz (aV d ((bJ d x).getD zI)) fe).length-1))).1).2==x.2)))=true;rw[e1,hb,decide_eq_false h];rfl
  ·refine congrArg (fun c:ml=>some ((c,()),())) ?_;show((bJ d x).getD zI,(BG (cT (bz (aV d ((bJ d x).getD zI)) fe) x ((bz (aV d ((bJ d x).getD zI)) fe).length-1))).1)=if cC (bz (aV d ((bJ d x).getD zI)) fe) x=x then((bJ d x).getD zI,zD) else((bJ d x).getD zI,cC (bz (aV d ((bJ d x).getD zI)) fe) x)
   rw[if_neg h,e1]
def fQ(d:ak)(x:ID):ByteArray×Int:=((aO d x).getD zV).2.2
def gS(d:ak)(x:ID):ByteArray×Int:=((cH d x).getD zE).2
def FL(d:ak)(x:ID):List aW:=mh x (GD d (x,0) (x,1)) (GD d (x,1) zD)::b7 x true (gS d x).1 (gS d x).2
theorem ahs(hG:HG G)(d:ak)(o:aW)(hw:Wf d):FX G 76 Ln ((d,o,()),())=some ((FL d (au o),()),()):=by have hs:=hw.sm;have he:=hs.e;refine aB (hG _ _ rfl) afl ?_;refine aa (Xm hG d (au o) (by omega)) ?_;refine aa (aa6 hG d (au o,0) (au o,1) hw) (aa (aa6 hG d (au o,1) zD hw) ?_);show Option.bind (FX G 75 vC ((au o,true,(jY zE (cH d (au o))).1.2.1,(jY zE (cH d (au o))).1.2.2,()),())) _=_;rw[fz];refine aa (Qu hG _ _ _ _) ?_;have hl:=fE (au o) true (gS d (au o)).1 (gS d (au o)).2;exact af (fits (show 1+(b7 (au o) true (gS d (au o)).1 (gS d (au o)).2).length≤_ by omega)) rfl
def rT(d:ak)(o:aW):List aW :=
 let q:=if cW o=true then gS d (au o) else fQ d (au o)
 if o.1=7 then[(o.1,(au o,(b6 o,(aj o,(oA o,(oB o,(cW o,(q.1,oN o))))))))] else[(o.1,(au o,(b6 o,(aj o,(oA o,(oB o,(cW o,(gO o,q.2))))))))]
theorem aht(hG:HG G)(d:ak)(o:aW)(hw:Wf d):FX G 78 Lo ((d,o,()),())=some ((rT d o,()),()):=by
 have hs:=hw.sm;have he:=hs.e;refine aB (hG _ _ rfl) afn ?_;refine aa (Me hG d (au o) hs) ?_;unfold rT
 cases ho:cW o with
 |true =>
  refine af ho (aa (Xm hG d (au o) (by omega)) ?_);have e1:(jY zE (cH d (au o))).1=(cH d (au o)).getD zE:=fz _ _;by_cases h7:o.1=7
  ·refine af (show(o.1==7)=true by simp[h7]) ?_;show some (([(o.1,(au o,(b6 o,(aj o,(oA o,(oB o,(cW o,((jY zE (cH d (au o))).1.2.1,oN o))))))))],()),())=some (((if o.1=7 then _ else _),()),());rw[if_pos h7,e1,ho];rfl
  ·refine ag (show(o.1==7)=false by simp[h7]) ?_;show some (([(o.1,(au o,(b6 o,(aj o,(oA o,(oB o,(cW o,(gO o,(jY zE (cH d (au o))).1.2.2))))))))],()),())=some (((if o.1=7 then _ else _),()),());rw[if_neg h7,e1,ho];rfl
 |false =>
  refine ag ho ?_;have e1:(jY zV (aO d (au o))).1=(aO d (au o)).getD zV:=fz _ _;by_cases h7:o.1=7
  ·refine af (show(o.1==7)=true by simp[h7]) ?_;show some (([(o.1,(au o,(b6 o,(aj o,(oA o,(oB o,(cW o,((jY zV (aO d (au o))).1.2.2.1,oN o))))))))],()),())=some (((if o.1=7 then _ else _),()),());rw[if_pos h7,e1,ho];rfl
  ·refine ag (show(o.1==7)=false by simp[h7]) ?_;show some (([(o.1,(au o,(b6 o,(aj o,(oA o,(oB o,(cW o,(gO o,(jY zV (aO d (au o))).1.2.2.2))))))))],()),())=some (((if o.1=7 then _ else _),()),());rw[if_neg h7,e1,ho];rfl
theorem ahu(hG:HG G)(a b c:List aW)(h:a.length+b.length+c.length≤1000):FX G 113 oZ (([a,b,c],()),())=some ((a++b++c,()),()):=by
 refine aB (hG _ _ rfl) afq ?_;have w1:∀(i:Nat),i<3→IntKind.wrap .i64 ((i:Int)+1)=((i+1:Nat):Int):=fun i hi=>aI hi (by omega);have fin:LX G 113 oZ Tryz.f113 rG (aS Tryz.prog 113 1) (([a,b,c],((3:Int),((0:Int),()))),((),(([]:List aW),())))=some ((a++b++c,()),()):=by
  have step:∀(i:Nat) (p q:List aW),[a,b,c][i]? = some q→p.length+q.length≤1000→i<3 → LX G 113 oZ Tryz.f113 rG (aS Tryz.prog 113 1) (([a,b,c],((3:Int),(((i+1:Nat):Int),()))),((),(p++q,())))=some ((a++b++c,()),()) → LX G 113 oZ Tryz.f113 rG (aS Tryz.prog 113 1) (([a,b,c],((3:Int),((i:Int),()))),((),(p,())))=some ((a++b++c,()),()):=by intro i p q hq hl hi k;refine aw PI (af (decide_eq_true (show(i:Int)<3 by omega)) (aa (aC hq) (af (fits (show p.length+q.length≤_ by omega)) ?_)));rw[wI,w1 i hi];exact k
  refine step 0 [] a rfl (by simp;omega) (by omega) (step 1 ([]++a) b rfl (by simp;omega) (by omega) (step 2 ([]++a++b) c rfl (by simp;omega) (by omega) ?_));exact aw PI (ag (decide_eq_false (show ¬((3:Int)<3) by decide)) rfl)
 have cnt:∀(i m:Nat) (q:List aW),[a,b,c][i]? = some q→m+q.length≤1000→i<3 → LX G 113 oZ Tryz.f113 uG (aS Tryz.prog 113 0) (([a,b,c],(((m+q.length:Nat):Int),([a,b,c],((3:Int),(((i+1:Nat):Int),()))))),((),()))=some ((a++b++c,()),()) → LX G 113 oZ Tryz.f113 uG (aS Tryz.prog 113 0) (([a,b,c],((m:Int),([a,b,c],((3:Int),((i:Int),()))))),((),()))=some ((a++b++c,()),()):=by
  intro i m q hq hl hi k;have e:IntKind.wrap .i64 ((m:Int)+((q.length:Nat):Int))=((m+q.length:Nat):Int):=by rw[wrap_small (by omega) (by omega)];omega
  refine aw PH (af (decide_eq_true (show(i:Int)<3 by omega)) (aa (aC hq) ?_));rw[wI,e];refine ag (decide_eq_false (by omega)) ?_;rw[wI,w1 i hi];exact k
 refine cnt 0 0 a rfl (by omega) (by omega) (cnt 1 _ b rfl (by omega) (by omega) (cnt 2 _ c rfl (by omega) (by omega) ?_));refine aw PH (ag (decide_eq_false (show ¬((3:Int)<3) by decide)) ?_);refine af (show sP ((0+a.length+b.length+c.length:Nat):Int)=true by unfold sP;rw[Bool.and_eq_true,decide_eq_true_eq,decide_eq_true_eq];have:gy=1073741824:=rfl;omega) ?_;exact fin
def yU(r0 r1:ae)(w:ID):ae×ae:=if r0.1=w then(r1,r0) else(r0,r1)
def da(d:ak)(o:aW)(r0 r1:ae):List aW :=[fV (yU r0 r1 (aj o)).1.1 (au o) (aj o) (1-(yU r0 r1 (aj o)).1.2+2*(yU r0 r1 (aj o)).2.2)]++b7 (au o) false (fQ d (au o)).1 (fQ d (au o)).2++b7 (aj o) true (gS d (aj o)).1 (gS d (aj o)).2
theorem Qv{p q:Int}(hp:p=0∨p=1)(hq:q=0∨q=1) :
  dv .or .i64 (dv .or .i64 0 (IntKind.wrap .i64 (1-p))) (J7 .i64 q 1)=1-p+2*q∧dv .or .i64 (dv .or .i64 0 (J7 .i64 q 1)) (IntKind.wrap .i64 (1-p))=1-p+2*q:=by
 rcases hp with rfl|rfl<;>rcases hq with rfl|rfl<;>exact⟨by decide +kernel,by decide +kernel⟩
theorem ahv(hG:HG G)(d:ak)(o:aW)(hw:Wf d){v:ai}{r0 r1:ae}(hv:aO d (au o)=some v)(hr:v.2.1=[r0,r1])(bq:r0.1≠r1.1)(hor:r0.1=aj o∨r1.1=aj o)(h0:r0.2=0∨r0.2=1)(h1:r1.2=0∨r1.2=1) :
  FX G 77 qx ((d,o,()),())=some ((da d o r0 r1,()),()):=by
 have hs:=hw.sm;have he:=hs.e;refine aB (hG _ _ rfl) afm ?_;refine aa (Me hG d (au o) hs) (aa (Xm hG d (aj o) (by omega)) ?_);have ev:(jY zV (aO d (au o))).1=v:=by rw[hv];rfl
 have ee:(jY zE (cH d (aj o))).1=(cH d (aj o)).getD zE:=fz _ _;show LX G 77 qx Tryz.f77 km (aS Tryz.prog 77 0) (((jY zV (aO d (au o))).1.2.1,((((jY zV (aO d (au o))).1.2.1.length:Nat):Int),((0:Int),()))),(((o,()),(((jY zV (aO d (au o))).1,()),(((jY zE (cH d (aj o))).1,()),((fV zI (au o) (aj o) 0,()),())))),()))=_;rw[ev,ee,hr];have aa7:∀(i:Nat) (r:ae) (p:ID) (n:Int),[r0,r1][i]? = some r→r.1=aj o→i<2 → LX G 77 qx Tryz.f77 km (aS Tryz.prog 77 0) (([r0,r1],((2:Int),(((i+1:Nat):Int),()))),(((o,()),((v,()),(((cH d (aj o)).getD zE,()),((fV p (au o) (aj o) (dv .or .i64 n (J7 .i64 r.2 1)),()),())))),()))=some ((da d o r0 r1,()),()) → LX G 77 qx Tryz.f77 km (aS Tryz.prog 77 0) (([r0,r1],((2:Int),((i:Int),()))),(((o,()),((v,()),(((cH d (aj o)).getD zE,()),((fV p (au o) (aj o) n,()),())))),()))=some ((da d o r0 r1,()),()):=by intro i r p n hi hro h2 k;refine aw I4 (af (decide_eq_true (show(i:Int)<2 by omega)) (aa (aC hi) (af ((jl r.1 (aj o)).trans (decide_eq_true hro)) (ag rfl ?_))));rw[wI,aI h2 (by omega)];exact k
 have aa8:∀(i:Nat) (r:ae) (p:ID) (n:Int),[r0,r1][i]? = some r→r.1≠aj o→i<2 → LX G 77 qx Tryz.f77 km (aS Tryz.prog 77 0) (([r0,r1],((2:Int),(((i+1:Nat):Int),()))),(((o,()),((v,()),(((cH d (aj o)).getD zE,()),((fV r.1 (au o) (aj o) (dv .or .i64 n (IntKind.wrap .i64 (1-r.2))),()),())))),()))=some ((da d o r0 r1,()),()) → LX G 77 qx Tryz.f77 km (aS Tryz.prog 77 0) (([r0,r1],((2:Int),((i:Int),()))),(((o,()),((v,()),(((cH d (aj o)).getD zE,()),((fV p (au o) (aj o) n,()),())))),()))=some ((da d o r0 r1,()),()):=by intro i r p n hi hro h2 k;refine aw I4 (af (decide_eq_true (show(i:Int)<2 by omega)) (aa (aC hi) (ag ((jl r.1 (aj o)).trans (decide_eq_false hro)) ?_)));rw[wI,aI h2 (by omega)];exact k
 have fin:∀n:Int,n=1-(yU r0 r1 (aj o)).1.2+2*(yU r0 r1 (aj o)).2.2 → LX G 77 qx Tryz.f77 km (aS Tryz.prog 77 0) (([r0,r1],((2:Int),(((2:Nat):Int),()))),(((o,()),((v,()),(((cH d (aj o)).getD zE,()),((fV (yU r0 r1 (aj o)).1.1 (au o) (aj o) n,()),())))),()))=some ((da d o r0 r1,()),()):=by intro n hn;refine aw I4 (ag (decide_eq_false (show ¬((2:Int)<2) by decide)) ?_);refine aa (Qu hG (au o) false v.2.2.1 v.2.2.2) (aa (Qu hG (aj o) true ((cH d (aj o)).getD zE).2.1 ((cH d (aj o)).getD zE).2.2) ?_);have l1:=fE (au o) false v.2.2.1 v.2.2.2;have l2:=fE (aj o) true ((cH d (aj o)).getD zE).2.1 ((cH d (aj o)).getD zE).2.2;refine aa (ahu hG [fV (yU r0 r1 (aj o)).1.1 (au o) (aj o) n] (b7 (au o) false v.2.2.1 v.2.2.2) (b7 (aj o) true ((cH d (aj o)).getD zE).2.1 ((cH d (aj o)).getD zE).2.2) (by show 1+(b7 (au o) false v.2.2.1 v.2.2.2).length+(b7 (aj o) true ((cH d (aj o)).getD zE).2.1 ((cH d (aj o)).getD zE).2.2).length≤_;omega)) ?_;unfold da fQ gS;rw[hv,←hn];rfl
 by_cases h:r0.1=aj o
 ·have h':r1.1≠aj o:=fun k=>bq (h.trans k.symm);have mI:yU r0 r1 (aj o)=(r1,r0):=if_pos h;refine aa7 0 r0 _ _ rfl h (by omega) (aa8 1 r1 _ _ rfl h' (by omega) ?_);have:=fin (dv .or .i64 (dv .or .i64 0 (J7 .i64 r0.2 1)) (IntKind.wrap .i64 (1-r1.2))) (by rw[mI];exact(Qv h1 h0).2);rw[mI]at this;exact this
 ·have h':r1.1=aj o:=hor.resolve_left h;have mI:yU r0 r1 (aj o)=(r0,r1):=if_neg h;refine aa8 0 r0 _ _ rfl h (by omega) (aa7 1 r1 _ _ rfl h' (by omega) ?_);have:=fin (dv .or .i64 (dv .or .i64 0 (IntKind.wrap .i64 (1-r0.2))) (J7 .i64 r1.2 1)) (by rw[mI];exact(Qv h0 h1).1);rw[mI]at this;exact this
def arV(x v:ID)(n:Int):aW:=(5,(x,(v,(v,(zC,(zC,(false,(e0,n))))))))
def JQ(v w:ID):aW:=(6,(v,(zI,(w,(zC,(zC,(false,(e0,0))))))))
theorem ME{v w:ID}(hv:cz v=true)(hw:cz w=true):bm (JQ v w)=0:=by
 unfold bm;rw[if_neg (by simp[JQ]),if_neg (by simp[JQ]),if_neg (by simp[JQ,hv]),if_neg,if_neg (by simp[JQ]),if_neg (by simp[JQ]),if_pos (show(JQ v w).1=6 from rfl)]
 ·exact if_pos hw
 intro h;have:sD (kr (JQ v w)) F2=true:=(ku _ _).2 rfl;rw[this]at h;cases h
theorem wZ(v:an):∀{l:List an},aL l v.1=none→bF (bS v l) v.1=l
 |[],_=>by simp[bS,bF]
 |w::r,hf=>by
  have bq:¬w.1=v.1:=fun e=>by simp[aL,e]at hf
  have zO:aL r v.1=none:=by simpa[aL,List.find?_cons,bq] using hf
  unfold bS
  split
  ·unfold bF;rw[List.filter_cons_of_neg (by simp)];exact N3 hf
  ·have:=wZ v zO;unfold bF at this ⊢;rw[List.filter_cons_of_pos (by simpa using bq),this]
def hM(s:StateT)(o:aW):List aW :=if o.1=1 then[vG 2 (au o)]
 else if o.1=2 then vG 1 (au o)::b7 (au o) false (fQ s.1 (au o)).1 (fQ s.1 (au o)).2
 else if o.1=3 then[vG 4 (au o)]
 else if o.1=4 then FL s.1 (au o)
 else if o.1=5 then[JQ (b6 o) (aj o)]
 else if o.1=6 then(match ((aO s.1 (au o)).getD zV).2.1 with | [r0,r1]=>da s.1 o r0 r1|_=>[])
 else rT s.1 o
def mR(s:StateT)(o:aW):List aW:=if(bT s o).2.1≠0 then[] else hM s o
theorem jw{s:StateT}{o:aW}(h:(bT s o).2.1=0):bm o=0:=by
 unfold bT at h;by_cases hm:bm o=0
 ·exact hm
 ·rw[if_pos hm]at h;exact absurd h hm
theorem AR{s:StateT}{o:aW}(h:(bT s o).2.1=0)(hk:o.1=6):∃v r0 r1,aO s.1 (au o)=some v∧v.2.1=[r0,r1]∧r0.1≠r1.1∧(r0.1=aj o∨r1.1=aj o):=by
 unfold bT at h;rw[if_neg (by simp[jw h]),if_neg (by omega),if_neg (by omega),if_neg (by omega),if_neg (by omega),if_neg (by omega),if_pos hk]at h;unfold fU at h
 split at h
 ·cases h
 ·rename_i v hv
  split at h
  ·rename_i r0 r1 hr;unfold dG at h
   split at h
   ·cases h
   rename_i h1
   split at h
   ·rename_i h2;exact⟨v,r0,r1,hv,hr,h1,.inl h2⟩
   split at h
   ·rename_i h2;exact⟨v,r0,r1,hv,hr,h1,.inr h2⟩
   ·cases h
  ·cases h
theorem Xn(hG:HG G)(JK:∀o,pS G o)(s:StateT)(o:aW)(h:dN s)(hf:Fit o):FX G 44 Eg ((s,o,()),())=some ((mR s o,()),()):=by
 refine aB (hG _ _ rfl) afg ?_;refine aa (Fg hG s o h hf fun hm h3=>JK o s h hm h3) ?_;unfold mR;by_cases h0:(bT s o).2.1=0
 case neg=>rw[if_pos h0];exact af (show((bT s o).2.1 != 0)=true by simp[h0]) rfl
 rw[if_neg (by simp[h0])];refine ag (show((bT s o).2.1 != 0)=false by simp[h0]) ?_;have hm:=jw h0;obtain⟨k1,k8⟩:=kC hm;have hs:=h.d.sm;unfold hM;have no:∀k:Int,¬o.1=k→(o.1==k)=false:=fun k hk=>by simp[hk]
 have ye:∀k:Int,o.1=k→(o.1==k)=true:=fun k hk=>by simp[hk]
 by_cases h1:o.1=1
 ·rw[if_pos h1];exact af (ye 1 h1) rfl
 rw[if_neg h1];refine ag (no 1 h1) ?_;by_cases h2:o.1=2
 ·rw[if_pos h2];refine af (ye 2 h2) (aa (Me hG s.1 (au o) hs) ?_);have e1:(jY zV (aO s.1 (au o))).1=(aO s.1 (au o)).getD zV:=fz _ _;show Option.bind (FX G 75 vC ((au o,false,(jY zV (aO s.1 (au o))).1.2.2.1,(jY zV (aO s.1 (au o))).1.2.2.2,()),())) _=_;rw[e1];refine aa (Qu hG _ _ _ _) ?_;have hl:=fE (au o) false (fQ s.1 (au o)).1 (fQ s.1 (au o)).2;exact af (fits (show 1+(b7 (au o) false (fQ s.1 (au o)).1 (fQ s.1 (au o)).2).length≤_ by omega)) rfl
 rw[if_neg h2];refine ag (no 2 h2) ?_;by_cases h3:o.1=3
 ·rw[if_pos h3];exact af (ye 3 h3) rfl
 rw[if_neg h3];refine ag (no 3 h3) ?_;by_cases h4:o.1=4
 ·rw[if_pos h4];exact af (ye 4 h4) (aa (ahs hG s.1 o h.d) rfl)
 rw[if_neg h4];refine ag (no 4 h4) ?_;by_cases h5:o.1=5
 ·rw[if_pos h5];exact af (ye 5 h5) rfl
 rw[if_neg h5];refine ag (no 5 h5) ?_;by_cases h6:o.1=6
 ·rw[if_pos h6];obtain⟨v,r0,r1,hv,hr,bq,hor⟩:=AR h0 h6;have E6:v∈s.1.1:=acq hv;have side:∀r∈v.2.1,r.2=0∨r.2=1:=fun r hr=>h.d.side (aM.2 ⟨v,E6,hr⟩);have hg:((aO s.1 (au o)).getD zV).2.1=[r0,r1]:=by rw[hv];exact hr
  rw[hg];exact af (ye 6 h6) (aa (ahv hG s.1 o h.d hv hr bq hor (side r0 (by rw[hr];simp)) (side r1 (by rw[hr];simp))) rfl)
 rw[if_neg h6];exact ag (no 6 h6) (aa (aht hG s.1 o h.d) rfl)
theorem AS{row:List ae}{x:ae}(h:x∈row):cC row x∈row:=by have hl:0<row.length:=adn h;unfold cC cT;rw[if_pos h];have aG:((idx x row 0).toNat+(row.length-1))%row.length<row.length:=adv _ hl;rw[List.getElem?_eq_getElem aG];exact acm aG
theorem Xo{row:List ae}{x fe:ae}(h:x∈row)(bq:x≠fe):x∈bz row fe:=by unfold bz;exact(fw _).mem_iff.2 (adg.2 ⟨h,decide_eq_true bq⟩)
theorem Xp{row:List ae}{x fe:ae}(h:x∈bz row fe):x∈row:=by unfold bz at h;exact(adg.1 ((fw _).mem_iff.1 h)).1
theorem ZH{d:ak}(h:Wf d){x:ae}(hx:x∈aq d.1):∃v∈d.1,x∈v.2.1∧bJ d x=some v.1∧aV d v.1=v.2.1:=by obtain⟨v,hv,j6⟩:=aM.1 hx;exact⟨v,hv,j6,dq h.rw hv j6,gk h.sv hv⟩
theorem CY{d:ak}(h:Wf d){x fe:ae}(hx:x∈aq d.1)(bq:x≠fe):pQ (GD d x fe)=true:=by
 obtain⟨v,hv,j6,ha,hr⟩:=ZH h hx;have hi:=(h.gv v hv).i;unfold GD;rw[ha];simp only[Option.getD_some];rw[hr];have hm:=Xp (AS (Xo j6 bq))
 split
 ·unfold pQ;simp[hi]
 ·obtain⟨e,he,h1,h2⟩:=cO.1 (h.pd.mem_iff.1 (aM.2 ⟨v,hv,hm⟩));unfold pQ Je;rw[hi,←h1,(h.ge e he).i,decide_eq_true h2];rfl
theorem H4{n:ID}{a b:ml}(hn:cz n=true)(ha:pQ a=true)(hb:pQ b=true):bm (mh n a b)=0:=by
 unfold bm;rw[if_neg (by simp[mh]),if_neg (by simp[mh]),if_neg (by simp[mh,hn]),if_neg,if_pos (show(mh n a b).1=3 from rfl)]
 ·exact if_pos ⟨ha,hb⟩
 intro h;have:sD (kr (mh n a b)) F2=true:=(ku _ _).2 rfl;rw[this]at h;cases h
theorem tT{x v w:ID}{n:Int}(hx:cz x=true)(hv:cz v=true)(hw:cz w=true)(h0:0≤n)(h3:n≤3):bm (fV x v w n)=0:=by
 unfold bm;rw[if_neg (by simp[fV]),if_neg (by simp[fV]),if_neg (by simp[fV,hx]),if_neg,if_neg (by simp[fV]),if_pos (show(fV x v w n).1=5 from rfl)]
 ·exact if_pos ⟨hv,hw,h0,h3⟩
 intro h;have:sD (kr (fV x v w n)) F2=true:=(ku _ _).2 rfl;rw[this]at h;cases h
theorem o8{x:ID}{oe:Bool}{l:ByteArray}{n:Int}(hx:cz x=true)(hl:lY l=true)(hn:jZ n=true):∀p∈b7 x oe l n,bm p=0:=fun p hp=>by
 unfold b7 at hp;rcases abw.1 hp with hp|hp
 ·split at hp
  ·cases hp
  ·rw[List.mem_singleton.1 hp];exact CN hx hl
 ·split at hp
  ·cases hp
  ·rw[List.mem_singleton.1 hp];exact CO hx hn
theorem MF{o:aW}(h:bm o=0):kr o=F2:=by
 unfold bm at h
 split at h;· cases h
 split at h;· cases h
 split at h;· cases h
 split at h;· cases h
 rename_i h4;exact(ku _ _).1 (by simpa using h4)
theorem qP{d:ak}(h:Wf d)(x:ID):lY (fQ d x).1=true∧jZ (fQ d x).2=true:=by
 unfold fQ
 cases hv:aO d x with
 |none=>exact⟨lg,lh⟩
 |some v=>have:=h.gv v (acq hv);exact⟨this.l,this.a⟩
theorem qQ{d:ak}(h:Wf d)(x:ID):lY (gS d x).1=true∧jZ (gS d x).2=true:=by
 unfold gS
 cases hv:cH d x with
 |none=>exact⟨lg,lh⟩
 |some v=>have:=h.ge v (acq hv);exact⟨this.l,this.a⟩
theorem MG{o:aW}(hm:bm o=0)(hk:7≤o.1)(d:ak):rT d o=if o.1=7 then[Td (au o) (cW o) (if cW o=true then gS d (au o) else fQ d (au o)).1] else[Sd (au o) (cW o) (if cW o=true then gS d (au o) else fQ d (au o)).2]:=by
 have hr:=MF hm;obtain⟨k1,k8⟩:=kC hm;obtain⟨k,x,nw,ot,a,b,oe,t,n⟩:=o;simp only at hk k8;unfold rT;by_cases h7:k=7
 ·subst h7;unfold kr at hr;simp only[show ¬(7:Int)=3 by decide,show ¬(7:Int)=5 by decide,show ¬(7:Int)=6 by decide,if_false,if_true,F2,Prod.mk.injEq,true_and]at hr;obtain⟨rfl,rfl,rfl,rfl,rfl⟩:=hr;rfl
 ·have h8:k=8:=by omega
  subst h8;unfold kr at hr;simp only[show ¬(8:Int)=3 by decide,show ¬(8:Int)=5 by decide,show ¬(8:Int)=6 by decide,show ¬(8:Int)=7 by decide,if_false,if_true,F2,Prod.mk.injEq,true_and,and_true]at hr;obtain⟨rfl,rfl,rfl,rfl,rfl⟩:=hr;rfl
theorem H5{s:StateT}{o:aW}(h:(bT s o).2.1=0)(hk:o.1=4):(cH s.1 (au o)).isSome=true:=by
 unfold bT at h;rw[if_neg (by simp[jw h]),if_neg (by omega),if_neg (by omega),if_neg (by omega),if_pos hk]at h;unfold wM at h
 split at h
 ·cases h
 ·rename_i h1;exact ng h1
theorem smN{p q:Int}(hp:p=0∨p=1)(hq:q=0∨q=1):0≤1-p+2*q∧1-p+2*q≤3:=by omega
theorem Qw{s:StateT}{o:aW}(hw:dN s)(h:(bT s o).2.1=0):(∀p∈hM s o,bm p=0)∧1≤(hM s o).length∧(hM s o).length≤5:=by
 have hm:=jw h;obtain⟨k1,k8⟩:=kC hm;have hi:=rM hm;have one:∀{p:aW} {l:List aW},l=[p]→bm p=0→(∀q∈l,bm q=0)∧1≤l.length∧l.length≤5:=fun {p l} e hp=>by subst e;exact⟨fun q hq=>by rw[List.mem_singleton.1 hq];exact hp,by simp,by simp⟩
 unfold hM;by_cases h1:o.1=1
 ·rw[if_pos h1];exact one rfl (uX (.inr (.inl rfl)) hi)
 rw[if_neg h1];by_cases h2:o.1=2
 ·rw[if_pos h2];have hl:=fE (au o) false (fQ s.1 (au o)).1 (fQ s.1 (au o)).2;obtain⟨q1,q2⟩:=qP hw.d (au o);refine⟨fun p hp=>?_,by simp,by simp only[List.length_cons];omega⟩;rcases abd.1 hp with rfl|hp
  ·exact uX (.inl rfl) hi
  ·exact o8 hi q1 q2 p hp
 rw[if_neg h2];by_cases h3:o.1=3
 ·rw[if_pos h3];exact one rfl (uX (.inr (.inr rfl)) hi)
 rw[if_neg h3];by_cases h4:o.1=4
 ·rw[if_pos h4];have he:=H5 h h4;have hx:=hw.d.g9 he (s:=0) (.inl rfl);have hy:=hw.d.g9 he (s:=1) (.inr rfl);obtain⟨q1,q2⟩:=qQ hw.d (au o);have hl:=fE (au o) true (gS s.1 (au o)).1 (gS s.1 (au o)).2;unfold FL;refine⟨fun p hp=>?_,by simp,by simp only[List.length_cons];omega⟩;rcases abd.1 hp with rfl|hp
  ·exact H4 hi (CY hw.d hx (fun e=>by have:=congrArg (·.2) e;simp at this)) (CY hw.d hy (fun e=>by have:=congrArg (·.1) e;have e2:au o=zI:=this;rw[e2]at hi;cases hi))
  ·exact o8 hi q1 q2 p hp
 rw[if_neg h4];by_cases h5:o.1=5
 ·rw[if_pos h5];obtain⟨a,b,_,_⟩:=nc hm h5;exact one rfl (ME a b)
 rw[if_neg h5];by_cases h6:o.1=6
 ·rw[if_pos h6];obtain⟨v,r0,r1,hv,hr,bq,hor⟩:=AR h h6;have E6:v∈s.1.1:=acq hv;have hg:((aO s.1 (au o)).getD zV).2.1=[r0,r1]:=by rw[hv];exact hr
  rw[hg];have side:∀r∈v.2.1,(r.2=0∨r.2=1)∧cz r.1=true:=fun r hr=>by obtain⟨e,he,e1,e2⟩:=cO.1 (hw.d.pd.mem_iff.1 (aM.2 ⟨v,E6,hr⟩));exact⟨e2,by rw[←e1];exact(hw.d.ge e he).i⟩
  have s0:=side r0 (by rw[hr];simp);have s1:=side r1 (by rw[hr];simp);obtain⟨q1,q2⟩:=qP hw.d (au o);obtain⟨q3,q4⟩:=qQ hw.d (aj o);have ho:=E9 hm h6;have l1:=fE (au o) false (fQ s.1 (au o)).1 (fQ s.1 (au o)).2;have l2:=fE (aj o) true (gS s.1 (aj o)).1 (gS s.1 (aj o)).2;show(∀p∈da s.1 o r0 r1,bm p=0)∧1≤(da s.1 o r0 r1).length∧(da s.1 o r0 r1).length≤5;unfold da;refine⟨fun p hp=>?_,by simp only[List.length_append,List.length_cons,List.length_nil];omega,by simp only[List.length_append,List.length_cons,List.length_nil];omega⟩;rcases abw.1 hp with hp|hp
  ·rcases abw.1 hp with hp|hp
   ·rw[List.mem_singleton.1 hp];unfold yU
    split
    ·obtain⟨n0,n3⟩:=smN s1.1 s0.1;exact tT s1.2 hi ho n0 n3
    ·obtain⟨n0,n3⟩:=smN s0.1 s1.1;exact tT s0.2 hi ho n0 n3
   ·exact o8 hi q1 q2 p hp
  ·exact o8 ho q3 q4 p hp
 rw[if_neg h6];obtain⟨q1,q2⟩:=qP hw.d (au o);obtain⟨q3,q4⟩:=qQ hw.d (au o);have hq:lY (if cW o=true then gS s.1 (au o) else fQ s.1 (au o)).1=true∧jZ (if cW o=true then gS s.1 (au o) else fQ s.1 (au o)).2=true:=by split;exact⟨q3,q4⟩;exact⟨q1,q2⟩
 rw[MG hm (by omega)]
 split
 ·exact one rfl (CN hi hq.1)
 ·exact one rfl (CO hi hq.2)
theorem FM{s:StateT}(hw:dN s)(o:aW):(mR s o).length≤5:=by
 unfold mR
 split
 ·simp
 ·rename_i h;exact(Qw hw (by simpa using h)).2.2
theorem ahw(hG:HG G)(s:StateT)(hs:Sm s.1)(hl:s.2.length≤50000000)(tv:∀v∈s.1.1,v.2.2.1.size≤100000000)(te:∀e∈s.1.2,e.2.1.size≤100000000) :
  ∃b,FX G 43 nV ((s,()),())=some ((b,()),())∧(b=true→dN s∧bK s.1=0):=by
 obtain⟨r,q1,q2⟩:=anl hG s.1 hs tv te;have loop:∀(n i:Nat),i+n=s.2.length→0<i→(∀j x y,j+1<i→s.2[j]? = some x→s.2[j+1]? = some y→lA x.1 y.1=true) → ∃b,LX G 43 nV Tryz.f43 ym (aS Tryz.prog 43 0) (((i:Int),()),(((s,()),()),()))=some ((b,()),())∧(b=true→dN s∧bK s.1=0):=by
  intro n
  induction n with
  |zero =>
   intro i hi h0 ha;have e1:=@I3 (FX G) (LX G 43 nV Tryz.f43) (((i:Int),()),(((s,()),()),()));have e2:=e1.trans (ag (decide_eq_false (show ¬((i:Int)<((s.2.length:Nat):Int)) by omega)) rfl);by_cases h4:s.2.length≤400
   ·refine⟨r==0,aw (e2.trans (af (decide_eq_true (show((s.2.length:Nat):Int)≤400 by omega)) (aa q1 rfl))) rfl,fun hb=>?_⟩;obtain⟨hw,hg⟩:=q2.1 ((beq_iff_eq (α:=Int)).1 hb);exact⟨⟨hw,W0 (R:=fun a b:aE=>lA a.1 b.1=true) (fun a b c=>gX) fun j x y h1 h2=>ha j x y (by have:=(aa2.1 h2).1;omega) h1 h2,h4⟩,hg⟩
   ·exact⟨false,aw (e2.trans (ag (decide_eq_false (show ¬((s.2.length:Nat):Int)≤400 by omega)) rfl)) rfl,fun h=>by cases h⟩
  |succ n ih =>
   intro i hi h0 ha;have aG:i<s.2.length:=by omega
   have hx:s.2[i]? = some s.2[i]:=aa4 aG;have hy:s.2[i-1]? = some s.2[i-1]:=aa4 (by omega);have e1:=@I3 (FX G) (LX G 43 nV Tryz.f43) (((i:Int),()),(((s,()),()),()));have e2:bh s.2 (IntKind.wrap .i64 ((i:Int)-1))=some s.2[i-1]:=by rw[Qn h0 aG (by omega)];exact aC hy
   by_cases hc:lA s.2[i-1].1 s.2[i].1=true
   ·obtain⟨b,h1,h2⟩:=ih (i+1) (by omega) (by omega) (fun j x y hj k1 k2=>by
     by_cases hji:j+1=i
     ·have ej:j=i-1:=by omega
      subst ej;rw[hy]at k1;rw[show i-1+1=i by omega,hx]at k2
      cases k1;cases k2;exact hc
     ·exact ha j x y (by omega) k1 k2)
    refine⟨b,aw (e1.trans (af (ba aG) (aa e2 (aa (aC hx) (aa (YM hG _ _) (ag (decide_eq_false ?_) ?_)))))) rfl,h2⟩
    ·have:=(uN s.2[i-1].1 s.2[i].1).2 hc;show ¬(oc s.2[i-1].1 s.2[i].1≥0);omega
    ·rw[wI,aI aG (by omega)];exact h1
   ·refine⟨false,aw (e1.trans (af (ba aG) (aa e2 (aa (aC hx) (aa (YM hG _ _) (af (decide_eq_true ?_) rfl)))))) rfl,fun h=>by cases h⟩;have:=mt (uN s.2[i-1].1 s.2[i].1).1 hc;show oc s.2[i-1].1 s.2[i].1≥0;omega
 have e0:=@aff (FX G) (LX G 43 nV Tryz.f43) ((s,()),());have fin:∀{y},cp 43 nV Tryz.f43 (FX G) (LX G 43 nV Tryz.f43) ((s,()),())=some y→FX G 43 nV ((s,()),())=some y:=fun {y} h=>aB (hG _ _ rfl) h rfl;by_cases h0:s.2.length=0
 ·have e1:=@I3 (FX G) (LX G 43 nV Tryz.f43) (((1:Int),()),(((s,()),()),()));have e2:=e1.trans (ag (decide_eq_false (show ¬((1:Int)<((s.2.length:Nat):Int)) by omega)) rfl);refine⟨r==0,fin (e0.trans (aw (e2.trans (af (decide_eq_true (show((s.2.length:Nat):Int)≤400 by omega)) (aa q1 rfl))) rfl)),fun hb=>?_⟩;obtain⟨hw,hg⟩:=q2.1 ((beq_iff_eq (α:=Int)).1 hb);refine⟨⟨hw,?_,by omega⟩,hg⟩;rw[List.eq_nil_of_length_eq_zero h0];exact List.Pairwise.nil
 ·obtain⟨b,h1,h2⟩:=loop (s.2.length-1) 1 (by omega) (by omega) (fun j x y hj=>by omega);exact⟨b,fin (e0.trans h1),h2⟩
theorem ahx(hG:HG G)(JK:∀o,pS G o):FX G 42 Ll ((),())=some ((true,()),()):=by refine aB (hG _ _ rfl) afe ?_;have h1:=Xn hG JK zS (vG 1 (1,1)) dN.zero (ZG 1);have e:mR zS (vG 1 (1,1))=[vG 2 (1,1)]:=rfl;rw[e]at h1;exact aa h1 (af rfl (af rfl rfl))
theorem ahy(hG:HG G)(l:List aW):FX G 47 Lm ((l,()),())=some ((l.take 8,()),()):=by
 refine aB (hG _ _ rfl) afh ?_;by_cases h:8<l.length
 ·have d1:decide (((l.length:Nat):Int)>8)=true:=decide_eq_true (by omega);have d2:bu l.length 0 8=true:=by simp[bu];omega
  simp only[d1,d2];rfl
 ·have d1:decide (((l.length:Nat):Int)>8)=false:=decide_eq_false (by omega);rw[List.take_of_length_le (by omega)];simp only[d1];rfl
def oy:List aW→StateT→List aW→List aW
 |[],_,acc=>acc
 |o::r,s,acc=>oy r (bT s o).1 (mR s o++acc)
def ofR(s:StateT)(l:List aW):List aW×(Int×Unit):=if(cX s l).2.1≠0 then([],((cX s l).2.1,())) else(oy l s [],(0,()))
theorem go_step{s:StateT}{o:aW}{r:List aW}(h:(j5 (o::r) s).2.1=0):(bT s o).2.1=0∧(j5 r (bT s o).1).2.1=0∧j5 (o::r) s=j5 r (bT s o).1:=by
 have e:j5 (o::r) s=if(bT s o).2.1≠0 then(zS,(bT s o).2) else j5 r (bT s o).1:=rfl
 rw[e]at h ⊢;by_cases h1:(bT s o).2.1=0
 ·rw[if_neg (by simp[h1])]at h ⊢;exact⟨h1,h,rfl⟩
 ·rw[if_pos h1]at h;exact absurd h h1
theorem ahz(hG:HG G)(JK:∀o,pS G o)(s:StateT)(l:List aW)(hw:dN s)(hl:l.length≤8)(hf:∀o∈l,Fit o):FX G 48 BD ((s,l,()),())=some (ofR s l,()):=by
 refine aB (hG _ _ rfl) afi ?_;refine aa (al6 hG s l hw (by omega) hf fun o _=>JK o) ?_;unfold ofR;by_cases h0:(cX s l).2.1=0
 case neg=>rw[if_pos h0];exact af (show((cX s l).2.1 != 0)=true by simp[h0]) rfl
 rw[if_neg (by simp[h0])];refine ag (show((cX s l).2.1 != 0)=false by simp[h0]) ?_;have Ho:(j5 l s).2.1=0:=by rw[ox h0]at h0;exact h0
 have loop:∀(n i:Nat) (t:StateT) (acc:List aW),i+n=l.length→dN t→(j5 (l.drop i) t).2.1=0→acc.length≤5*i → LX G 48 BD Tryz.f48 yn (aS Tryz.prog 48 0) ((l,(((l.length:Nat):Int),((i:Int),()))),(((t,()),()),(acc,())))=some ((oy (l.drop i) t acc,((0:Int),())),()):=by
  intro n
  induction n with
  |zero =>intro i t acc hi ht hg ha;refine aw PE (ag (decide_eq_false (show ¬((i:Int)<((l.length:Nat):Int)) by omega)) ?_);rw[List.drop_eq_nil_of_le (by omega)];rfl
  |succ n ih =>
   intro i t acc hi ht hg ha;have aG:i<l.length:=by omega
   have hm:=acm aG;rw[List.drop_eq_getElem_cons aG]at hg ⊢;obtain⟨g1,g2,_⟩:=go_step hg
   refine aw PE (af (ba aG) (aa (aC (aa4 aG)) ?_));refine aa (Xn hG JK t l[i] ht (hf _ hm)) ?_;have hp:=FM ht l[i];refine af (fits (show(mR t l[i]).length+acc.length≤_ by omega)) ?_;refine aa (Fg hG t l[i] ht (hf _ hm) fun hm h3=>JK _ t ht hm h3) ?_;refine ag (show((bT t l[i]).2.1 != 0)=false by simp[g1]) ?_;rw[wI,aI aG (by omega)];exact ih (i+1) _ (mR t l[i]++acc) (by omega) (ht.one l[i]) g2 (by rw[List.length_append];omega)
 exact loop l.length 0 s [] (by omega) hw Ho (by simp)
theorem ahA(hG:HG G)(JK:∀o,pS G o)(s:StateT)(l:List aW)(hw:dN s)(hl:l.length≤1073741824)(hf:∀o∈l,Fit o):FX G 53 BE ((s,l,()),())=some (j5 l s,()):=by
 have hn:=hw.n;refine aB (hG _ _ rfl) afj ?_;refine aa (ab0 hG s.1 hw.d.sm) (aa (YQ (hG _ _ rfl) s.2 (by omega)) ?_);have loop:∀(n i:Nat) (t:StateT),i+n=l.length→dN t → LX G 53 BE Tryz.f53 yp (aS Tryz.prog 53 0) ((l,(((l.length:Nat):Int),((i:Int),()))),(((zS,()),((t,()),())),()))=some (j5 (l.drop i) t,()):=by
  intro n
  induction n with
  |zero =>intro i t hi ht;refine aw PF (ag (decide_eq_false (show ¬((i:Int)<((l.length:Nat):Int)) by omega)) ?_);rw[List.drop_eq_nil_of_le (by omega)];rfl
  |succ n ih =>
   intro i t hi ht;have aG:i<l.length:=by omega
   have hm:=acm aG;refine aw PF (af (ba aG) (aa (aC (aa4 aG)) ?_));refine aa (Fg hG t l[i] ht (hf _ hm) fun hm h3=>JK _ t ht hm h3) ?_;rw[List.drop_eq_getElem_cons aG,j5];by_cases h1:(bT t l[i]).2.1=0
   ·rw[if_neg (by simp[h1])];refine ag (show((bT t l[i]).2.1 != 0)=false by simp[h1]) ?_;rw[wI,aI aG hl];exact ih (i+1) _ (by omega) (ht.one l[i])
   ·rw[if_pos h1];exact af (show((bT t l[i]).2.1 != 0)=true by simp[h1]) rfl
 exact loop l.length 0 s (by omega) hw
end Go.Vs
