/- What takes operations back -/
import Derived.Test.YtpkfpbpbkabkdaaGreatPartsB
import Derived.Test.YtpkfpbpbkabkdaaGreatForm
import Derived.Test.YtpkfpbpbkabkdaaGreatNormalD
import Derived.Test.YtpkfpbpbkabkdaaGreatPlane
set_option linter.unusedVariables false
set_option linter.unusedSimpArgs false
namespace Go.Vs
open Go.Proofs
variable {G:(f:FuncId)→(g:aX)→Option (g.A→Option g.B)}
theorem OL{n:Int}(h:PD (.int .i64) n):ER n:=by
 have h1:IntKind.min .i64 = -9223372036854775808:=by decide
 have h2:IntKind.max .i64=9223372036854775807:=by decide
 have h:IntKind.min .i64≤n∧n≤IntKind.max .i64:=h;rw[h1,h2]at h;unfold ER;omega
theorem acK{o:aW}(h:PD kE o)(ht:Ah o):Fit o:=by obtain⟨_,_,_,_,⟨_,_,h1⟩,⟨_,_,h2⟩,_,_,h3⟩:=h;exact⟨OL h1,OL h2,OL h3,ht⟩
theorem Wf.bd{d:ak}(h:Wf d):Bd 100 d:=⟨by have:=h.nv;omega,by have:=h.ne;omega,fun v hv=>by have:=h.wR v hv;omega⟩
theorem HT(v:ai):v.2.1.length+v.2.2.1.size+1≤cF dN v:=by have h:cF dN v=(1+1)+(((v.2.1.map (cF bA)).sum+1)+((v.2.2.1.size+1)+1)):=rfl;have h2:=yr (fun x:ae=>cF bA x) (fun x=>by show 1≤(1+1)+1;omega) v.2.1;have h3:(v.2.1.map fun x:ae=>cF bA x).sum=(v.2.1.map (cF bA)).sum:=rfl;rw[h];omega
theorem HU(e:an):e.2.1.size+1≤cF eR e:=by have h:cF eR e=(1+1)+((e.2.1.size+1)+1):=rfl;rw[h];omega
theorem Mq{s:StateT}{m:Nat}(hb:cF mF s≤m):s.1.1.length≤m∧s.1.2.length≤m∧s.2.length≤m∧(∀v∈s.1.1,v.2.1.length≤m∧v.2.2.1.size≤m)∧∀e∈s.1.2,e.2.1.size≤m:=by
 have h:cF mF s=(((s.1.1.map (cF dN)).sum+1)+((s.1.2.map (cF eR)).sum+1))+((s.2.map (cF dx)).sum+1):=rfl;rw[h]at hb;have l1:=yr (fun v:ai=>cF dN v) (fun v=>by have:=HT v;omega) s.1.1;have l2:=yr (fun e:an=>cF eR e) (fun e=>by have:=HU e;omega) s.1.2;have l3:=yr (fun g:aE=>cF dx g) (fun g=>by show 1≤((1+1)+1)+((1+1)+1);omega) s.2;have e1:(s.1.1.map fun v:ai=>cF dN v).sum=(s.1.1.map (cF dN)).sum:=rfl;have e2:(s.1.2.map fun v:an=>cF eR v).sum=(s.1.2.map (cF eR)).sum:=rfl;have e3:(s.2.map fun v:aE=>cF dx v).sum=(s.2.map (cF dx)).sum:=rfl;refine⟨by omega,by omega,by omega,fun v hv=>?_,fun e he=>?_⟩
 ·have:=CA (fun v:ai=>cF dN v) hv;have:=HT v;omega
 ·have:=CA (fun v:an=>cF eR v) he;have:=HU e;omega
end Go.Vs
namespace Go.Vs
def Mr:List (List aW)→StateT→StateT
 |[],s=>s
 |e::r,s=>Mr r (oI s e)
def FD:List (List aW)→StateT→List Bool
 |[],_=>[]
 |e::r,s=>decide ((cS s e).2.1=0)::FD r (oI s e)
theorem dU.all:∀(l:List (List aW)) {s:StateT},dU s→dU (Mr l s)
 |[],_,h=>h
 |e::r,_,h=>dU.all r (h.try e)
theorem Bs.all:∀{l:List (List aW)} {n:Nat} {s:StateT},(∀e∈l,e.length≤8)→Bs n s→Bs (n+24*l.length) (Mr l s)
 |[],_,_,_,h=>h
 |e::r,n,s,hl,h=>by have h1:Bs (n+24) (oI s e):=h.try.mono (by have:=hl e (by simp);omega);exact(Bs.all (fun e he=>hl e (by simp[he])) h1).mono (by simp;omega)
theorem Mt{l:List ai}{x:ID}:(aN l x).isSome=true↔∃v∈l,v.1=x:=by unfold aN;rw[List.find?_isSome];simp
theorem Mu{l:List an}{x:ID}:(aL l x).isSome=true↔∃v∈l,v.1=x:=by unfold aL;rw[List.find?_isSome];simp
structure Gr(s t:StateT):Prop where
 v:∀x,(aN s.1.1 x).isSome=true→(aN t.1.1 x).isSome=true
 e:∀x,(aL s.1.2 x).isSome=true→(aL t.1.2 x).isSome=true
 nv:s.1.1.length≤t.1.1.length
 ne:s.1.2.length≤t.1.2.length
theorem Gr.rfl(s:StateT):Gr s s:=⟨fun _ h=>h,fun _ h=>h,aci _,aci _⟩
theorem Gr.trans{a b c:StateT}(h:Gr a b)(k:Gr b c):Gr a c:=⟨fun x p=>k.v x (h.v x p),fun x p=>k.e x (h.e x p),acX h.nv k.nv,acX h.ne k.ne⟩
def named(s:StateT)(o:aW):Prop:=if o.1=1 then(aN s.1.1 (au o)).isSome=true else(aL s.1.2 (au o)).isSome=true
theorem named.up{s t:StateT}{o:aW}(h:named s o)(k:Gr s t):named t o:=by
 unfold named at h ⊢
 split
 ·rename_i h1;rw[if_pos h1]at h;exact k.v _ h
 ·rename_i h1;rw[if_neg h1]at h;exact k.e _ h
theorem Qi(d:ak)(c:ml)(x:ae):(br d c x).1.length=d.1.length∧(br d c x).2=d.2:=⟨fK _ _ _,rfl⟩
theorem Xa{s:StateT}{o:aW}(hk:o.1=1∨o.1=3)(h:(bZ s o).2.1=0):Gr s (bZ s o).1∧named (bZ s o).1 o:=by
 unfold bZ at h ⊢;by_cases hm:bm o=0
 case neg=>rw[if_pos hm]at h;exact absurd h hm
 rw[if_neg (by simp[hm])]at h ⊢;rcases hk with h1|h3
 ·rw[if_pos h1]at h ⊢;unfold l8 at h ⊢;by_cases h2:(aO s.1 (au o)).isSome=true
  ·rw[if_pos h2]at h;cases h
  rw[if_neg h2]at h ⊢;by_cases h4:24≤s.1.1.length
  ·rw[if_pos h4]at h;cases h
  rw[if_neg h4];refine⟨⟨fun x hx=>?_,fun x hx=>hx,by show _≤(cr _ _).length;rw[gu];omega,aci _⟩,?_⟩
  ·rw[Mt]at hx ⊢;obtain⟨v,hv,e⟩:=hx;exact⟨v,kr.2 (.inr hv),e⟩
  ·unfold named;rw[if_pos h1,Mt];exact⟨_,kr.2 (.inl rfl),rfl⟩
 ·have n1:¬o.1=1:=by omega
  have n2:¬o.1=2:=by omega
  rw[if_neg n1,if_neg n2,if_pos h3]at h ⊢;unfold kJ at h ⊢
  split at h
  ·cases h
  rename_i c1
  split at h
  ·cases h
  rename_i c2
  split at h
  ·cases h
  rename_i c3
  split at h
  ·cases h
  rename_i c4
  split at h
  ·cases h
  rename_i c5;rw[if_neg c1,if_neg c2,if_neg c3,if_neg c4,if_neg c5];have l1:(gP s o).1.length=s.1.1.length:=by unfold gP;rw[(Qi _ _ _).1,(Qi _ _ _).1]
  have l2:(gP s o).2=bR (au o,(e0,0)) s.1.2:=rfl;refine⟨⟨fun x hx=>?_,fun x hx=>?_,by show _≤(gP s o).1.length;omega,by show _≤(gP s o).2.length;rw[l2,l6];omega⟩,?_⟩
  ·exact tI _ (tI _ hx)
  ·show(aL (gP s o).2 x).isSome=true;rw[l2];rw[Mu]at hx ⊢;obtain⟨v,hv,e⟩:=hx;exact⟨v,ku.2 (.inr hv),e⟩
  ·unfold named;rw[if_neg n1];show(aL (gP s o).2 (au o)).isSome=true;rw[l2,Mu];exact⟨_,ku.2 (.inl rfl),rfl⟩
theorem Sq{s:StateT}{o:aW}(hk:o.1=1∨o.1=3)(h:named s o):(bZ s o).2.1≠0:=by
 unfold bZ;by_cases hm:bm o=0
 case neg=>rw[if_pos hm];exact hm
 rw[if_neg (by simp[hm])];unfold named at h;rcases hk with h1|h3
 ·rw[if_pos h1]at h;rw[if_pos h1];unfold l8;rw[if_pos (show(aO s.1 (au o)).isSome=true from h)];decide
 ·have n1:¬o.1=1:=by omega
  have n2:¬o.1=2:=by omega
  rw[if_neg n1]at h;rw[if_neg n1,if_neg n2,if_pos h3];unfold kJ;rw[if_pos (show(cH s.1 (au o)).isSome=true from h)];decide
structure Zv(e:List aW):Prop where
 k:∀o∈e,o.1=1∨o.1=3
 n:e≠[]
theorem JJ:∀{e:List aW} {s:StateT},(∀o∈e,o.1=1∨o.1=3)→(lC e s).2.1=0→Gr s (lC e s).1∧∀o∈e,named (lC e s).1 o
 |[],s,_,_=>⟨Gr.rfl s,fun o ho=>by cases ho⟩
 |o::r,s,hk,h=>by
  unfold lC at h ⊢;by_cases h1:(bZ s o).2.1=0
  case neg=>rw[if_pos h1]at h;exact absurd h h1
  rw[if_neg (by simp[h1])]at h ⊢;obtain⟨g1,n1⟩:=Xa (hk o (by simp)) h1;obtain⟨g2,n2⟩:=JJ (fun o ho=>hk o (by simp[ho])) h;refine⟨g1.trans g2,fun p hp=>?_⟩;rcases abi.1 hp with rfl|hp
  ·exact n1.up g2
  ·exact n2 p hp
theorem ov{s:StateT}{e:List aW}(h:(cS s e).2.1=0):cS s e=lC e s:=by
 unfold cS at h ⊢;by_cases hm:fC e=0
 ·rw[if_neg (by simp[hm])]
 ·rw[if_pos hm]at h;exact absurd h hm
theorem Xb{s:StateT}{e:List aW}(h:(cS s e).2.1=0):oI s e=(cS s e).1:=by unfold oI;rw[if_neg (by simp[h])]
theorem Zw{s:StateT}{e:List aW}(h:(cS s e).2.1≠0):oI s e=s:=by unfold oI;rw[if_pos h]
theorem Mv{s:StateT}{e:List aW}(ha:Zv e):Gr s (oI s e):=by
 by_cases h:(cS s e).2.1=0
 ·rw[Xb h,ov h];rw[ov h]at h;exact(JJ ha.k h).1
 ·rw[Zw h];exact Gr.rfl s
theorem Mw:∀{l:List (List aW)} {s:StateT},(∀e∈l,Zv e)→Gr s (Mr l s)
 |[],s,_=>Gr.rfl s
 |e::r,s,h=>(Mv (h e (by simp))).trans (Mw fun e he=>h e (by simp[he]))
theorem Mx{s t:StateT}{e:List aW}(ha:Zv e)(h:(cS s e).2.1=0)(hg:Gr (oI s e) t):(cS t e).2.1≠0:=fun h2=>by
 rw[Xb h,ov h]at hg;rw[ov h]at h;rw[ov h2]at h2;obtain⟨_,hn⟩:=JJ ha.k h
 cases e with
 |nil=>exact ha.n rfl
 |cons o r =>have h3:=Sq (ha.k o (by simp)) ((hn o (by simp)).up hg);unfold lC at h2;rw[if_pos h3]at h2;exact h3 h2
theorem xG:∀{l:List (List aW)} {s t:StateT},(∀e∈l,Zv e)→Gr (Mr l s) t→∀i:Nat,(FD l s)[i]? = some true→(FD l t)[i]? = some true→False
 |[],_,_,_,_,i,h,_=>by simp[FD]at h
 |e::r,s,t,ha,hg,0,h1,h2=>by simp[FD]at h1 h2;exact Mx (ha e (by simp)) h1 ((Mw fun e he=>ha e (by simp[he])).trans hg) h2
 |e::r,s,t,ha,hg,i+1,h1,h2=>by have h1:(FD r (oI s e))[i]? = some true:=h1;have h2:(FD r (oI t e))[i]? = some true:=h2;exact xG (l:=r) (s:=oI s e) (t:=oI t e) (fun e he=>ha e (by simp[he])) (Gr.trans (show Gr (Mr r (oI s e)) t from hg) (Mv (ha e (by simp)))) i h1 h2
end Go.Vs
namespace Go.Vs
open Go.Proofs
variable {G:(f:FuncId)→(g:aX)→Option (g.A→Option g.B)}
structure vL(l:List (List aW)):Prop where
 n:l.length≤1073741824
 e:∀e∈l,e.length≤1073741824
 f:∀e∈l,∀o∈e,Fit o
theorem vL.mem{l m:List (List aW)}(h:vL l)(hs:∀e∈m,e∈l)(hn:m.length≤1073741824):vL m:=⟨hn,fun e he=>h.e e (hs e he),fun e he=>h.f e (hs e he)⟩
theorem Zx(n:Int):Fit (vF 1 (1,n)):=⟨sD,sD,sD,by show e0.size≤_;simp[e0,ByteArray.size]⟩
abbrev hiB(h:jk):StateT:=h.1
abbrev SZ(h:jk):Int:=h.2.1
abbrev My(h:jk):List (List aW):=h.2.2.1
def hiL(h:jk):Int:=SZ h+((My h).length:Nat)
structure Xc(m:Nat)(h:jk):Prop where
 b:dU (hiB h)
 f0:0≤SZ h
 f1:hiL h≤m
 m1:m≤1000000000
 n:(My h).length≤64
 r:vL (My h)
theorem Xc.zero:Xc 0 (zS,(0,([],()))):=⟨dU.zero,Int.le_refl _,by decide,by decide,adm _,⟨adm _,fun e he=>(by cases he),fun e he=>(by cases he)⟩⟩
def ahh(h:jk)(e:List aW):(Int×(Int×Unit))×jk :=if fC e≠0 then((0,(fC e,())),h) else if 64≤(My h).length then((0,(20,())),h) else((hiL h+1,(0,())),(hiB h,(SZ h,(My h++[e],()))))
theorem Xc.mono{m k:Nat}{h:jk}(ho:Xc m h)(hk:m≤k)(h1:k≤1000000000):Xc k h:=⟨ho.b,ho.f0,by have:=ho.f1;omega,h1,ho.n,ho.r⟩
theorem Xc.add{m:Nat}{h:jk}(ho:Xc m h)(hm:m<1000000000){e:List aW}(he:e.length≤1073741824)(hf:∀o∈e,Fit o):Xc (m+1) (ahh h e).2:=by
 unfold ahh
 split
 ·exact ho.mono (by omega) (by omega)
 split
 ·exact ho.mono (by omega) (by omega)
 ·rename_i h1 h2;have h3:=ho.f1;have hl:hiL h=SZ h+((My h).length:Nat):=rfl;refine⟨ho.b,ho.f0,?_,by omega,?_,?_,fun p hp=>?_,fun p hp=>?_⟩
  ·show SZ h+(((My h++[e]).length:Nat):Int)≤_;simp;omega
  ·show(My h++[e]).length≤64;simp;omega
  ·show(My h++[e]).length≤_;simp;omega
  ·rcases abG.1 (show p∈My h++[e] from hp) with hp|hp
   ·exact ho.r.e p hp
   ·rw[List.mem_singleton.1 hp];exact he
  ·rcases abG.1 (show p∈My h++[e] from hp) with hp|hp
   ·exact ho.r.f p hp
   ·rw[List.mem_singleton.1 hp];exact hf
def hIn(h:jk)(n:Int):Prop:=SZ h≤n∧n≤hiL h
instance (h:jk) (n:Int):Decidable (hIn h n):=by unfold hIn;infer_instance
def atH(h:jk)(n:Int):StateT×(Int×Unit):=if hIn h n then(Mr ((My h).take (n-SZ h).toNat) (hiB h),(0,())) else(zS,(26,()))
theorem vL.take{l:List (List aW)}(h:vL l)(n:Nat):vL (l.take n):=h.mem (fun e he=>adB he) (by have:=h.n;simp;omega)
theorem vL.drop{l:List (List aW)}(h:vL l)(n:Nat):vL (l.drop n):=h.mem (fun e he=>adn he) (by have:=h.n;simp;omega)
def aaX(h:jk)(n:Int):Int×jk:=if hIn h n then(0,(Mr ((My h).take (n-SZ h).toNat) (hiB h),(n,((My h).drop (n-SZ h).toNat,())))) else(26,h)
theorem Xc.comp{m:Nat}{h:jk}(ho:Xc m h)(n:Int):Xc m (aaX h n).2:=by
 unfold aaX;have h1:=ho.f0;have h2:=ho.f1;have h3:=ho.n;have hl:hiL h=SZ h+((My h).length:Nat):=rfl;by_cases hi:hIn h n
 ·rw[if_pos hi];unfold hIn at hi;refine⟨dU.all _ ho.b,by show 0≤n;omega,?_,ho.m1,?_,ho.r.drop _⟩
  ·show n+((((My h).drop (n-SZ h).toNat).length:Nat):Int)≤m;rw[List.length_drop];omega
  ·show((My h).drop (n-SZ h).toNat).length≤64;rw[List.length_drop];omega
 ·rw[if_neg hi];exact ho
def mh(x:ID)(a b:ml):aW:=(3,(x,(zI,(zI,(a,(b,(false,(e0,0))))))))
def fV(x v w:ID)(n:Int):aW:=(5,(x,(v,(w,(zC,(zC,(false,(e0,n))))))))
def cP(v w:ID):aW:=(6,(v,(zI,(w,(zC,(zC,(false,(e0,0))))))))
def b7(x:ID)(oe:Bool)(l:ByteArray)(n:Int):List aW:=(if l=e0 then[] else[SW x oe l])++(if n=0 then[] else[RY x oe n])
theorem fE(x:ID)(oe:Bool)(l:ByteArray)(n:Int):(b7 x oe l n).length≤2:=by unfold b7;split<;>split<;>simp
theorem Qj(hG:HG G)(x:ID)(oe:Bool)(l:ByteArray)(n:Int):FX G 75 vB ((x,oe,l,n,()),())=some ((b7 x oe l n,()),()):=by
 refine aB (hG _ _ rfl) afd ?_;unfold b7;by_cases h1:l=e0
 ·rw[if_pos h1];refine ag (show(!(l==e0))=false by rw[Vy,decide_eq_true h1];rfl) ?_;by_cases h2:n=0
  ·rw[if_pos h2];exact ag (show(n != 0)=false by simp[h2]) rfl
  ·rw[if_neg h2];exact af (show(n != 0)=true by simp[h2]) (af rfl rfl)
 ·rw[if_neg h1];refine af (show(!(l==e0))=true by rw[Vy,decide_eq_false h1];rfl) (af rfl ?_);by_cases h2:n=0
  ·rw[if_pos h2];exact ag (show(n != 0)=false by simp[h2]) rfl
  ·rw[if_neg h2];exact af (show(n != 0)=true by simp[h2]) (af rfl rfl)
theorem ahi(hG:HG G)(e:an):FX G 138 Ll ((e,()),())=some ((e.1,()),()):=aB (hG _ _ rfl) afk rfl
theorem Xd(hG:HG G)(d:ak)(x:ID)(hl:d.2.length≤1073741824):FX G 111 Ea ((d,x,()),())=some (jY zE (cH d x),()):=by
 refine aB (hG _ _ rfl) afh ?_;have h1:FX G 139137 lU ((d.2,x,()),())=some (jY zE (aL d.2 x),()):=by
  refine aB (hG _ _ rfl) Vi ?_;have loop:∀(n i:Nat),i+n=d.2.length→LX G 139137 lU Tryz.f137 nY (aS Tryz.prog 137 0) ((d.2,(((d.2.length:Nat):Int),((i:Int),()))),(((x,()),((zE,()),())),()))=some (jY zE (aL (d.2.drop i) x),()):=by
   intro n
   induction n with
   |zero =>intro i hi;refine ax EE (ag (decide_eq_false (show ¬((i:Int)<((d.2.length:Nat):Int)) by omega)) ?_);rw[List.drop_eq_nil_of_le (by omega)];rfl
   |succ n ih =>
    intro i hi;have aH:i<d.2.length:=by omega
    refine ax EE (af (bg aH) (aa (aC (abb aH)) (aa (ahi hG d.2[i]) ?_)));rw[List.drop_eq_getElem_cons aH];have hf:aL (d.2[i]::d.2.drop (i+1)) x=if d.2[i].1=x then some d.2[i] else aL (d.2.drop (i+1)) x:=by unfold aL;rw[List.find?_cons];by_cases h:d.2[i].1=x<;>simp[h]
    rw[hf];by_cases h:d.2[i].1=x
    ·rw[if_pos h];refine af ?_ rfl;exact(jl d.2[i].1 x).trans (decide_eq_true h)
    ·rw[if_neg h];refine ag ((jl d.2[i].1 x).trans (decide_eq_false h)) ?_;rw[wI,aK aH hl];exact ih (i+1) (by omega)
  exact loop d.2.length 0 (by omega)
 exact aa h1 rfl
def Gv(d:ak)(x fe:ae):ml :=
 let y:=cC (bz (aV d ((bJ d x).getD zI)) fe) x
 if y=x then((bJ d x).getD zI,zD) else((bJ d x).getD zI,y)
theorem aaY(hG:HG G)(d:ak)(x fe:ae)(hw:Wf d):FX G 112 Hf ((d,x,fe,()),())=some ((Gv d x fe,()),()):=by
 have hs:=hw.sm;refine aB (hG _ _ rfl) afi ?_;refine aa (Wo hG d x hs) ?_;show Option.bind (FX G 74 vz ((d,(jY zI (bJ d x)).1,()),())) _=_;rw[fz];refine aa (Ma hG d _ hs) ?_;show Option.bind (FX G 141 D4 (((jY zV (aO d ((bJ d x).getD zI))).1.2.1,fe,()),())) _=_;rw[fz];have SL:=mX hs ((bJ d x).getD zI);have Ck:(aV d ((bJ d x).getD zI)).Nodup:=by
  unfold aV
  cases hv:aO d ((bJ d x).getD zI) with
  |none=>simp[zV]
  |some v=>exact hw.rw.ring (acG hv)
 refine aa (VR hG (aV d ((bJ d x).getD zI)) fe Ck (by omega)) ?_;have DK:=BE (aV d ((bJ d x).getD zI)) fe;refine aa (aaK hG (bz (aV d ((bJ d x).getD zI)) fe) x (by omega)) ?_;unfold Gv;have e1:(BB (cU (bz (aV d ((bJ d x).getD zI)) fe) x ((bz (aV d ((bJ d x).getD zI)) fe).length-1))).1=cC (bz (aV d ((bJ d x).getD zI)) fe) x:=yv _;have hb:=lW (BB (cU (bz (aV d ((bJ d x).getD zI)) fe) x ((bz (aV d ((bJ d x).getD zI)) fe).length-1))).1 x;rw[e1]at hb;by_cases h:cC (bz (aV d ((bJ d x).getD zI)) fe) x=x
 ·refine ag ?_ ?_
  ·show(!(((((BB (cU (bz (aV d ((bJ d x).getD zI)) fe) x ((bz (aV d ((bJ d x).getD zI)) fe).length-1))).1).1.1==x.1.1)&&(((BB (cU (bz (aV d ((bJ d x).getD zI)) fe) x ((bz (aV d ((bJ d x).getD zI)) fe).length-1))).1).1.2==x.1.2))&&(((BB (cU (bz (aV d ((bJ d x).getD zI)) fe) x ((bz (aV d ((bJ d x).getD zI)) fe).length-1))).1).2==x.2)))=false;rw[e1,hb,decide_eq_true h];rfl
  ·refine congrArg (fun c:ml=>some ((c,()),())) ?_;show((bJ d x).getD zI,zD)=if cC (bz (aV d ((bJ d x).getD zI)) fe) x=x then((bJ d x).getD zI,zD) else((bJ d x).getD zI,cC (bz (aV d ((bJ d x).getD zI)) fe) x)
   rw[if_pos h]
 ·refine af ?_ ?_
  ·show(!(((((BB (cU (bz (aV d ((bJ d x).getD zI)) fe) x ((bz (aV d ((bJ d x).getD zI)) fe).length-1))).1).1.1==x.1.1)&&(((BB (cU (bz (aV d ((bJ d x).getD zI)) fe) x ((bz (aV d ((bJ d x).getD zI)) fe).length-1))).1).1.2==x.1.2))&&(((BB (cU (bz (aV d ((bJ d x).getD zI)) fe) x ((bz (aV d ((bJ d x).getD zI)) fe).length-1))).1).2==x.2)))=true;rw[e1,hb,decide_eq_false h];rfl
  ·refine congrArg (fun c:ml=>some ((c,()),())) ?_;show((bJ d x).getD zI,(BB (cU (bz (aV d ((bJ d x).getD zI)) fe) x ((bz (aV d ((bJ d x).getD zI)) fe).length-1))).1)=if cC (bz (aV d ((bJ d x).getD zI)) fe) x=x then((bJ d x).getD zI,zD) else((bJ d x).getD zI,cC (bz (aV d ((bJ d x).getD zI)) fe) x)
   rw[if_neg h,e1]
def fQ(d:ak)(x:ID):ByteArray×Int:=((aO d x).getD zV).2.2
def gS(d:ak)(x:ID):ByteArray×Int:=((cH d x).getD zE).2
def FE(d:ak)(x:ID):List aW:=mh x (Gv d (x,0) (x,1)) (Gv d (x,1) zD)::b7 x true (gS d x).1 (gS d x).2
theorem ahj(hG:HG G)(d:ak)(o:aW)(hw:Wf d):FX G 76 Li ((d,o,()),())=some ((FE d (au o),()),()):=by have hs:=hw.sm;have he:=hs.e;refine aB (hG _ _ rfl) afe ?_;refine aa (Xd hG d (au o) (by omega)) ?_;refine aa (aaY hG d (au o,0) (au o,1) hw) (aa (aaY hG d (au o,1) zD hw) ?_);show Option.bind (FX G 75 vB ((au o,true,(jY zE (cH d (au o))).1.2.1,(jY zE (cH d (au o))).1.2.2,()),())) _=_;rw[fz];refine aa (Qj hG _ _ _ _) ?_;have hl:=fE (au o) true (gS d (au o)).1 (gS d (au o)).2;exact af (fits (show 1+(b7 (au o) true (gS d (au o)).1 (gS d (au o)).2).length≤_ by omega)) rfl
def rQ(d:ak)(o:aW):List aW :=
 let q:=if cX o=true then gS d (au o) else fQ d (au o)
 if o.1=7 then[(o.1,(au o,(b6 o,(aj o,(oA o,(oB o,(cX o,(q.1,oN o))))))))] else[(o.1,(au o,(b6 o,(aj o,(oA o,(oB o,(cX o,(gO o,q.2))))))))]
theorem ahk(hG:HG G)(d:ak)(o:aW)(hw:Wf d):FX G 78 Lj ((d,o,()),())=some ((rQ d o,()),()):=by
 have hs:=hw.sm;have he:=hs.e;refine aB (hG _ _ rfl) afg ?_;refine aa (Ma hG d (au o) hs) ?_;unfold rQ
 cases ho:cX o with
 |true =>
  refine af ho (aa (Xd hG d (au o) (by omega)) ?_);have e1:(jY zE (cH d (au o))).1=(cH d (au o)).getD zE:=fz _ _;by_cases h7:o.1=7
  ·refine af (show(o.1==7)=true by simp[h7]) ?_;show some (([(o.1,(au o,(b6 o,(aj o,(oA o,(oB o,(cX o,((jY zE (cH d (au o))).1.2.1,oN o))))))))],()),())=some (((if o.1=7 then _ else _),()),());rw[if_pos h7,e1,ho];rfl
  ·refine ag (show(o.1==7)=false by simp[h7]) ?_;show some (([(o.1,(au o,(b6 o,(aj o,(oA o,(oB o,(cX o,(gO o,(jY zE (cH d (au o))).1.2.2))))))))],()),())=some (((if o.1=7 then _ else _),()),());rw[if_neg h7,e1,ho];rfl
 |false =>
  refine ag ho ?_;have e1:(jY zV (aO d (au o))).1=(aO d (au o)).getD zV:=fz _ _;by_cases h7:o.1=7
  ·refine af (show(o.1==7)=true by simp[h7]) ?_;show some (([(o.1,(au o,(b6 o,(aj o,(oA o,(oB o,(cX o,((jY zV (aO d (au o))).1.2.2.1,oN o))))))))],()),())=some (((if o.1=7 then _ else _),()),());rw[if_pos h7,e1,ho];rfl
  ·refine ag (show(o.1==7)=false by simp[h7]) ?_;show some (([(o.1,(au o,(b6 o,(aj o,(oA o,(oB o,(cX o,(gO o,(jY zV (aO d (au o))).1.2.2.2))))))))],()),())=some (((if o.1=7 then _ else _),()),());rw[if_neg h7,e1,ho];rfl
theorem ahl(hG:HG G)(a b c:List aW)(h:a.length+b.length+c.length≤1000):FX G 113 oX (([a,b,c],()),())=some ((a++b++c,()),()):=by
 refine aB (hG _ _ rfl) afj ?_;have w1:∀(i:Nat),i<3→IntKind.wrap .i64 ((i:Int)+1)=((i+1:Nat):Int):=fun i hi=>aK hi (by omega);have fin:LX G 113 oX Tryz.f113 rD (aS Tryz.prog 113 1) (([a,b,c],((3:Int),((0:Int),()))),((),(([]:List aW),())))=some ((a++b++c,()),()):=by
  have step:∀(i:Nat) (p q:List aW),[a,b,c][i]? = some q→p.length+q.length≤1000→i<3 → LX G 113 oX Tryz.f113 rD (aS Tryz.prog 113 1) (([a,b,c],((3:Int),(((i+1:Nat):Int),()))),((),(p++q,())))=some ((a++b++c,()),()) → LX G 113 oX Tryz.f113 rD (aS Tryz.prog 113 1) (([a,b,c],((3:Int),((i:Int),()))),((),(p,())))=some ((a++b++c,()),()):=by intro i p q hq hl hi k;refine ax Px (af (decide_eq_true (show(i:Int)<3 by omega)) (aa (aC hq) (af (fits (show p.length+q.length≤_ by omega)) ?_)));rw[wI,w1 i hi];exact k
  refine step 0 [] a rfl (by simp;omega) (by omega) (step 1 ([]++a) b rfl (by simp;omega) (by omega) (step 2 ([]++a++b) c rfl (by simp;omega) (by omega) ?_));exact ax Px (ag (decide_eq_false (show ¬((3:Int)<3) by decide)) rfl)
 have cnt:∀(i m:Nat) (q:List aW),[a,b,c][i]? = some q→m+q.length≤1000→i<3 → LX G 113 oX Tryz.f113 uF (aS Tryz.prog 113 0) (([a,b,c],(((m+q.length:Nat):Int),([a,b,c],((3:Int),(((i+1:Nat):Int),()))))),((),()))=some ((a++b++c,()),()) → LX G 113 oX Tryz.f113 uF (aS Tryz.prog 113 0) (([a,b,c],((m:Int),([a,b,c],((3:Int),((i:Int),()))))),((),()))=some ((a++b++c,()),()):=by
  intro i m q hq hl hi k;have e:IntKind.wrap .i64 ((m:Int)+((q.length:Nat):Int))=((m+q.length:Nat):Int):=by rw[wrap_small (by omega) (by omega)];omega
  refine ax Pw (af (decide_eq_true (show(i:Int)<3 by omega)) (aa (aC hq) ?_));rw[wI,e];refine ag (decide_eq_false (by omega)) ?_;rw[wI,w1 i hi];exact k
 refine cnt 0 0 a rfl (by omega) (by omega) (cnt 1 _ b rfl (by omega) (by omega) (cnt 2 _ c rfl (by omega) (by omega) ?_));refine ax Pw (ag (decide_eq_false (show ¬((3:Int)<3) by decide)) ?_);refine af (show sN ((0+a.length+b.length+c.length:Nat):Int)=true by unfold sN;rw[Bool.and_eq_true,decide_eq_true_eq,decide_eq_true_eq];have:gy=1073741824:=rfl;omega) ?_;exact fin
def yN(r0 r1:ae)(w:ID):ae×ae:=if r0.1=w then(r1,r0) else(r0,r1)
def da(d:ak)(o:aW)(r0 r1:ae):List aW :=[fV (yN r0 r1 (aj o)).1.1 (au o) (aj o) (1-(yN r0 r1 (aj o)).1.2+2*(yN r0 r1 (aj o)).2.2)]++b7 (au o) false (fQ d (au o)).1 (fQ d (au o)).2++b7 (aj o) true (gS d (aj o)).1 (gS d (aj o)).2
theorem Qk{p q:Int}(hp:p=0∨p=1)(hq:q=0∨q=1) :
  du .or .i64 (du .or .i64 0 (IntKind.wrap .i64 (1-p))) (J3 .i64 q 1)=1-p+2*q∧du .or .i64 (du .or .i64 0 (J3 .i64 q 1)) (IntKind.wrap .i64 (1-p))=1-p+2*q:=by
 rcases hp with rfl|rfl<;>rcases hq with rfl|rfl<;>exact⟨by decide +kernel,by decide +kernel⟩
theorem ahm(hG:HG G)(d:ak)(o:aW)(hw:Wf d){v:ai}{r0 r1:ae}(hv:aO d (au o)=some v)(hr:v.2.1=[r0,r1])(bq:r0.1≠r1.1)(hor:r0.1=aj o∨r1.1=aj o)(h0:r0.2=0∨r0.2=1)(h1:r1.2=0∨r1.2=1) :
  FX G 77 qv ((d,o,()),())=some ((da d o r0 r1,()),()):=by
 have hs:=hw.sm;have he:=hs.e;refine aB (hG _ _ rfl) aff ?_;refine aa (Ma hG d (au o) hs) (aa (Xd hG d (aj o) (by omega)) ?_);have ev:(jY zV (aO d (au o))).1=v:=by rw[hv];rfl
 have ee:(jY zE (cH d (aj o))).1=(cH d (aj o)).getD zE:=fz _ _;show LX G 77 qv Tryz.f77 kj (aS Tryz.prog 77 0) (((jY zV (aO d (au o))).1.2.1,((((jY zV (aO d (au o))).1.2.1.length:Nat):Int),((0:Int),()))),(((o,()),(((jY zV (aO d (au o))).1,()),(((jY zE (cH d (aj o))).1,()),((fV zI (au o) (aj o) 0,()),())))),()))=_;rw[ev,ee,hr];have aaZ:∀(i:Nat) (r:ae) (p:ID) (n:Int),[r0,r1][i]? = some r→r.1=aj o→i<2 → LX G 77 qv Tryz.f77 kj (aS Tryz.prog 77 0) (([r0,r1],((2:Int),(((i+1:Nat):Int),()))),(((o,()),((v,()),(((cH d (aj o)).getD zE,()),((fV p (au o) (aj o) (du .or .i64 n (J3 .i64 r.2 1)),()),())))),()))=some ((da d o r0 r1,()),()) → LX G 77 qv Tryz.f77 kj (aS Tryz.prog 77 0) (([r0,r1],((2:Int),((i:Int),()))),(((o,()),((v,()),(((cH d (aj o)).getD zE,()),((fV p (au o) (aj o) n,()),())))),()))=some ((da d o r0 r1,()),()):=by intro i r p n hi hro h2 k;refine ax IZ (af (decide_eq_true (show(i:Int)<2 by omega)) (aa (aC hi) (af ((jl r.1 (aj o)).trans (decide_eq_true hro)) (ag rfl ?_))));rw[wI,aK h2 (by omega)];exact k
 have aa0:∀(i:Nat) (r:ae) (p:ID) (n:Int),[r0,r1][i]? = some r→r.1≠aj o→i<2 → LX G 77 qv Tryz.f77 kj (aS Tryz.prog 77 0) (([r0,r1],((2:Int),(((i+1:Nat):Int),()))),(((o,()),((v,()),(((cH d (aj o)).getD zE,()),((fV r.1 (au o) (aj o) (du .or .i64 n (IntKind.wrap .i64 (1-r.2))),()),())))),()))=some ((da d o r0 r1,()),()) → LX G 77 qv Tryz.f77 kj (aS Tryz.prog 77 0) (([r0,r1],((2:Int),((i:Int),()))),(((o,()),((v,()),(((cH d (aj o)).getD zE,()),((fV p (au o) (aj o) n,()),())))),()))=some ((da d o r0 r1,()),()):=by intro i r p n hi hro h2 k;refine ax IZ (af (decide_eq_true (show(i:Int)<2 by omega)) (aa (aC hi) (ag ((jl r.1 (aj o)).trans (decide_eq_false hro)) ?_)));rw[wI,aK h2 (by omega)];exact k
 have fin:∀n:Int,n=1-(yN r0 r1 (aj o)).1.2+2*(yN r0 r1 (aj o)).2.2 → LX G 77 qv Tryz.f77 kj (aS Tryz.prog 77 0) (([r0,r1],((2:Int),(((2:Nat):Int),()))),(((o,()),((v,()),(((cH d (aj o)).getD zE,()),((fV (yN r0 r1 (aj o)).1.1 (au o) (aj o) n,()),())))),()))=some ((da d o r0 r1,()),()):=by intro n hn;refine ax IZ (ag (decide_eq_false (show ¬((2:Int)<2) by decide)) ?_);refine aa (Qj hG (au o) false v.2.2.1 v.2.2.2) (aa (Qj hG (aj o) true ((cH d (aj o)).getD zE).2.1 ((cH d (aj o)).getD zE).2.2) ?_);have l1:=fE (au o) false v.2.2.1 v.2.2.2;have l2:=fE (aj o) true ((cH d (aj o)).getD zE).2.1 ((cH d (aj o)).getD zE).2.2;refine aa (ahl hG [fV (yN r0 r1 (aj o)).1.1 (au o) (aj o) n] (b7 (au o) false v.2.2.1 v.2.2.2) (b7 (aj o) true ((cH d (aj o)).getD zE).2.1 ((cH d (aj o)).getD zE).2.2) (by show 1+(b7 (au o) false v.2.2.1 v.2.2.2).length+(b7 (aj o) true ((cH d (aj o)).getD zE).2.1 ((cH d (aj o)).getD zE).2.2).length≤_;omega)) ?_;unfold da fQ gS;rw[hv,←hn];rfl
 by_cases h:r0.1=aj o
 ·have h':r1.1≠aj o:=fun k=>bq (h.trans k.symm);have mI:yN r0 r1 (aj o)=(r1,r0):=if_pos h;refine aaZ 0 r0 _ _ rfl h (by omega) (aa0 1 r1 _ _ rfl h' (by omega) ?_);have:=fin (du .or .i64 (du .or .i64 0 (J3 .i64 r0.2 1)) (IntKind.wrap .i64 (1-r1.2))) (by rw[mI];exact(Qk h1 h0).2);rw[mI]at this;exact this
 ·have h':r1.1=aj o:=hor.resolve_left h;have mI:yN r0 r1 (aj o)=(r0,r1):=if_neg h;refine aa0 0 r0 _ _ rfl h (by omega) (aaZ 1 r1 _ _ rfl h' (by omega) ?_);have:=fin (du .or .i64 (du .or .i64 0 (IntKind.wrap .i64 (1-r0.2))) (J3 .i64 r1.2 1)) (by rw[mI];exact(Qk h0 h1).1);rw[mI]at this;exact this
def arM(x v:ID)(n:Int):aW:=(5,(x,(v,(v,(zC,(zC,(false,(e0,n))))))))
def JK(v w:ID):aW:=(6,(v,(zI,(w,(zC,(zC,(false,(e0,0))))))))
theorem Mz{v w:ID}(hv:cz v=true)(hw:cz w=true):bm (JK v w)=0:=by
 unfold bm;rw[if_neg (by simp[JK]),if_neg (by simp[JK]),if_neg (by simp[JK,hv]),if_neg,if_neg (by simp[JK]),if_neg (by simp[JK]),if_pos (show(JK v w).1=6 from rfl)]
 ·exact if_pos hw
 intro h;have:sw (km (JK v w)) FP=true:=(kq _ _).2 rfl;rw[this]at h;cases h
theorem wX(v:an):∀{l:List an},aL l v.1=none→bF (bR v l) v.1=l
 |[],_=>by simp[bR,bF]
 |w::r,hf=>by
  have bq:¬w.1=v.1:=fun e=>by simp[aL,e]at hf
  have zL:aL r v.1=none:=by simpa[aL,List.find?_cons,bq] using hf
  unfold bR
  split
  ·unfold bF;rw[List.filter_cons_of_neg (by simp)];exact NX hf
  ·have:=wX v zL;unfold bF at this ⊢;rw[List.filter_cons_of_pos (by simpa using bq),this]
def ib(s:StateT)(o:aW):List aW :=if o.1=1 then[vF 2 (au o)]
 else if o.1=2 then vF 1 (au o)::b7 (au o) false (fQ s.1 (au o)).1 (fQ s.1 (au o)).2
 else if o.1=3 then[vF 4 (au o)]
 else if o.1=4 then FE s.1 (au o)
 else if o.1=5 then[JK (b6 o) (aj o)]
 else if o.1=6 then(match ((aO s.1 (au o)).getD zV).2.1 with | [r0,r1]=>da s.1 o r0 r1|_=>[])
 else rQ s.1 o
def tR(s:StateT)(o:aW):List aW:=if(bZ s o).2.1≠0 then[] else ib s o
theorem jw{s:StateT}{o:aW}(h:(bZ s o).2.1=0):bm o=0:=by
 unfold bZ at h;by_cases hm:bm o=0
 ·exact hm
 ·rw[if_pos hm]at h;exact absurd h hm
theorem AO{s:StateT}{o:aW}(h:(bZ s o).2.1=0)(hk:o.1=6):∃v r0 r1,aO s.1 (au o)=some v∧v.2.1=[r0,r1]∧r0.1≠r1.1∧(r0.1=aj o∨r1.1=aj o):=by
 unfold bZ at h;rw[if_neg (by simp[jw h]),if_neg (by omega),if_neg (by omega),if_neg (by omega),if_neg (by omega),if_neg (by omega),if_pos hk]at h;unfold fU at h
 split at h
 ·cases h
 ·rename_i v hv
  split at h
  ·rename_i r0 r1 hr;unfold dG at h
   split at h
   ·cases h
   rename_i h1
   split at h
   ·rename_i h2;exact⟨v,r0,r1,hv,hr,h1,.inl h2⟩
   split at h
   ·rename_i h2;exact⟨v,r0,r1,hv,hr,h1,.inr h2⟩
   ·cases h
  ·cases h
theorem aa1(hG:HG G)(J0:∀o,pQ G o)(s:StateT)(o:aW)(h:dU s)(hf:Fit o):FX G 44 He ((s,o,()),())=some ((tR s o,()),()):=by
 refine aB (hG _ _ rfl) ae9 ?_;refine aa (E8 hG s o h hf fun hm h3=>J0 o s h hm h3) ?_;unfold tR;by_cases h0:(bZ s o).2.1=0
 case neg=>rw[if_pos h0];exact af (show((bZ s o).2.1 != 0)=true by simp[h0]) rfl
 rw[if_neg (by simp[h0])];refine ag (show((bZ s o).2.1 != 0)=false by simp[h0]) ?_;have hm:=jw h0;obtain⟨k1,k8⟩:=ky hm;have hs:=h.d.sm;unfold ib;have no:∀k:Int,¬o.1=k→(o.1==k)=false:=fun k hk=>by simp[hk]
 have ye:∀k:Int,o.1=k→(o.1==k)=true:=fun k hk=>by simp[hk]
 by_cases h1:o.1=1
 ·rw[if_pos h1];exact af (ye 1 h1) rfl
 rw[if_neg h1];refine ag (no 1 h1) ?_;by_cases h2:o.1=2
 ·rw[if_pos h2];refine af (ye 2 h2) (aa (Ma hG s.1 (au o) hs) ?_);have e1:(jY zV (aO s.1 (au o))).1=(aO s.1 (au o)).getD zV:=fz _ _;show Option.bind (FX G 75 vB ((au o,false,(jY zV (aO s.1 (au o))).1.2.2.1,(jY zV (aO s.1 (au o))).1.2.2.2,()),())) _=_;rw[e1];refine aa (Qj hG _ _ _ _) ?_;have hl:=fE (au o) false (fQ s.1 (au o)).1 (fQ s.1 (au o)).2;exact af (fits (show 1+(b7 (au o) false (fQ s.1 (au o)).1 (fQ s.1 (au o)).2).length≤_ by omega)) rfl
 rw[if_neg h2];refine ag (no 2 h2) ?_;by_cases h3:o.1=3
 ·rw[if_pos h3];exact af (ye 3 h3) rfl
 rw[if_neg h3];refine ag (no 3 h3) ?_;by_cases h4:o.1=4
 ·rw[if_pos h4];exact af (ye 4 h4) (aa (ahj hG s.1 o h.d) rfl)
 rw[if_neg h4];refine ag (no 4 h4) ?_;by_cases h5:o.1=5
 ·rw[if_pos h5];exact af (ye 5 h5) rfl
 rw[if_neg h5];refine ag (no 5 h5) ?_;by_cases h6:o.1=6
 ·rw[if_pos h6];obtain⟨v,r0,r1,hv,hr,bq,hor⟩:=AO h0 h6;have EZ:v∈s.1.1:=acG hv;have side:∀r∈v.2.1,r.2=0∨r.2=1:=fun r hr=>h.d.side (aM.2 ⟨v,EZ,hr⟩);have hg:((aO s.1 (au o)).getD zV).2.1=[r0,r1]:=by rw[hv];exact hr
  rw[hg];exact af (ye 6 h6) (aa (ahm hG s.1 o h.d hv hr bq hor (side r0 (by rw[hr];simp)) (side r1 (by rw[hr];simp))) rfl)
 rw[if_neg h6];exact ag (no 6 h6) (aa (ahk hG s.1 o h.d) rfl)
theorem AP{row:List ae}{x:ae}(h:x∈row):cC row x∈row:=by have hl:0<row.length:=adj h;unfold cC cU;rw[if_pos h];have aH:((idx x row 0).toNat+(row.length-1))%row.length<row.length:=adr _ hl;rw[List.getElem?_eq_getElem aH];exact acy aH
theorem Xe{row:List ae}{x fe:ae}(h:x∈row)(bq:x≠fe):x∈bz row fe:=by unfold bz;exact(fw _).mem_iff.2 (ada.2 ⟨h,decide_eq_true bq⟩)
theorem Xf{row:List ae}{x fe:ae}(h:x∈bz row fe):x∈row:=by unfold bz at h;exact(ada.1 ((fw _).mem_iff.1 h)).1
theorem Zy{d:ak}(h:Wf d){x:ae}(hx:x∈aq d.1):∃v∈d.1,x∈v.2.1∧bJ d x=some v.1∧aV d v.1=v.2.1:=by obtain⟨v,hv,j4⟩:=aM.1 hx;exact⟨v,hv,j4,dp h.rw hv j4,gk h.sv hv⟩
theorem CS{d:ak}(h:Wf d){x fe:ae}(hx:x∈aq d.1)(bq:x≠fe):pO (Gv d x fe)=true:=by
 obtain⟨v,hv,j4,ha,hr⟩:=Zy h hx;have hi:=(h.gv v hv).i;unfold Gv;rw[ha];simp only[Option.getD_some];rw[hr];have hm:=Xf (AP (Xe j4 bq))
 split
 ·unfold pO;simp[hi]
 ·obtain⟨e,he,h1,h2⟩:=cO.1 (h.pd.mem_iff.1 (aM.2 ⟨v,hv,hm⟩));unfold pO Ja;rw[hi,←h1,(h.ge e he).i,decide_eq_true h2];rfl
theorem HV{n:ID}{a b:ml}(hn:cz n=true)(ha:pO a=true)(hb:pO b=true):bm (mh n a b)=0:=by
 unfold bm;rw[if_neg (by simp[mh]),if_neg (by simp[mh]),if_neg (by simp[mh,hn]),if_neg,if_pos (show(mh n a b).1=3 from rfl)]
 ·exact if_pos ⟨ha,hb⟩
 intro h;have:sw (km (mh n a b)) FP=true:=(kq _ _).2 rfl;rw[this]at h;cases h
theorem tS{x v w:ID}{n:Int}(hx:cz x=true)(hv:cz v=true)(hw:cz w=true)(h0:0≤n)(h3:n≤3):bm (fV x v w n)=0:=by
 unfold bm;rw[if_neg (by simp[fV]),if_neg (by simp[fV]),if_neg (by simp[fV,hx]),if_neg,if_neg (by simp[fV]),if_pos (show(fV x v w n).1=5 from rfl)]
 ·exact if_pos ⟨hv,hw,h0,h3⟩
 intro h;have:sw (km (fV x v w n)) FP=true:=(kq _ _).2 rfl;rw[this]at h;cases h
theorem o5{x:ID}{oe:Bool}{l:ByteArray}{n:Int}(hx:cz x=true)(hl:lY l=true)(hn:jZ n=true):∀p∈b7 x oe l n,bm p=0:=fun p hp=>by
 unfold b7 at hp;rcases abG.1 hp with hp|hp
 ·split at hp
  ·cases hp
  ·rw[List.mem_singleton.1 hp];exact CG hx hl
 ·split at hp
  ·cases hp
  ·rw[List.mem_singleton.1 hp];exact CH hx hn
theorem MA{o:aW}(h:bm o=0):km o=FP:=by
 unfold bm at h
 split at h;· cases h
 split at h;· cases h
 split at h;· cases h
 split at h;· cases h
 rename_i h4;exact(kq _ _).1 (by simpa using h4)
theorem qM{d:ak}(h:Wf d)(x:ID):lY (fQ d x).1=true∧jZ (fQ d x).2=true:=by
 unfold fQ
 cases hv:aO d x with
 |none=>exact⟨lf,lg⟩
 |some v=>have:=h.gv v (acG hv);exact⟨this.l,this.a⟩
theorem qN{d:ak}(h:Wf d)(x:ID):lY (gS d x).1=true∧jZ (gS d x).2=true:=by
 unfold gS
 cases hv:cH d x with
 |none=>exact⟨lf,lg⟩
 |some v=>have:=h.ge v (acG hv);exact⟨this.l,this.a⟩
theorem MB{o:aW}(hm:bm o=0)(hk:7≤o.1)(d:ak):rQ d o=if o.1=7 then[SW (au o) (cX o) (if cX o=true then gS d (au o) else fQ d (au o)).1] else[RY (au o) (cX o) (if cX o=true then gS d (au o) else fQ d (au o)).2]:=by
 have hr:=MA hm;obtain⟨k1,k8⟩:=ky hm;obtain⟨k,x,nw,ot,a,b,oe,t,n⟩:=o;simp only at hk k8;unfold rQ;by_cases h7:k=7
 ·subst h7;unfold km at hr;simp only[show ¬(7:Int)=3 by decide,show ¬(7:Int)=5 by decide,show ¬(7:Int)=6 by decide,if_false,if_true,FP,Prod.mk.injEq,true_and]at hr;obtain⟨rfl,rfl,rfl,rfl,rfl⟩:=hr;rfl
 ·have h8:k=8:=by omega
  subst h8;unfold km at hr;simp only[show ¬(8:Int)=3 by decide,show ¬(8:Int)=5 by decide,show ¬(8:Int)=6 by decide,show ¬(8:Int)=7 by decide,if_false,if_true,FP,Prod.mk.injEq,true_and,and_true]at hr;obtain⟨rfl,rfl,rfl,rfl,rfl⟩:=hr;rfl
theorem HW{s:StateT}{o:aW}(h:(bZ s o).2.1=0)(hk:o.1=4):(cH s.1 (au o)).isSome=true:=by
 unfold bZ at h;rw[if_neg (by simp[jw h]),if_neg (by omega),if_neg (by omega),if_neg (by omega),if_pos hk]at h;unfold wK at h
 split at h
 ·cases h
 ·rename_i h1;exact nc h1
theorem smN{p q:Int}(hp:p=0∨p=1)(hq:q=0∨q=1):0≤1-p+2*q∧1-p+2*q≤3:=by omega
theorem Ql{s:StateT}{o:aW}(hw:dU s)(h:(bZ s o).2.1=0):(∀p∈ib s o,bm p=0)∧1≤(ib s o).length∧(ib s o).length≤5:=by
 have hm:=jw h;obtain⟨k1,k8⟩:=ky hm;have hi:=rJ hm;have one:∀{p:aW} {l:List aW},l=[p]→bm p=0→(∀q∈l,bm q=0)∧1≤l.length∧l.length≤5:=fun {p l} e hp=>by subst e;exact⟨fun q hq=>by rw[List.mem_singleton.1 hq];exact hp,by simp,by simp⟩
 unfold ib;by_cases h1:o.1=1
 ·rw[if_pos h1];exact one rfl (uW (.inr (.inl rfl)) hi)
 rw[if_neg h1];by_cases h2:o.1=2
 ·rw[if_pos h2];have hl:=fE (au o) false (fQ s.1 (au o)).1 (fQ s.1 (au o)).2;obtain⟨q1,q2⟩:=qM hw.d (au o);refine⟨fun p hp=>?_,by simp,by simp only[List.length_cons];omega⟩;rcases abi.1 hp with rfl|hp
  ·exact uW (.inl rfl) hi
  ·exact o5 hi q1 q2 p hp
 rw[if_neg h2];by_cases h3:o.1=3
 ·rw[if_pos h3];exact one rfl (uW (.inr (.inr rfl)) hi)
 rw[if_neg h3];by_cases h4:o.1=4
 ·rw[if_pos h4];have he:=HW h h4;have hx:=hw.d.g9 he (s:=0) (.inl rfl);have hy:=hw.d.g9 he (s:=1) (.inr rfl);obtain⟨q1,q2⟩:=qN hw.d (au o);have hl:=fE (au o) true (gS s.1 (au o)).1 (gS s.1 (au o)).2;unfold FE;refine⟨fun p hp=>?_,by simp,by simp only[List.length_cons];omega⟩;rcases abi.1 hp with rfl|hp
  ·exact HV hi (CS hw.d hx (fun e=>by have:=congrArg (·.2) e;simp at this)) (CS hw.d hy (fun e=>by have:=congrArg (·.1) e;have e2:au o=zI:=this;rw[e2]at hi;cases hi))
  ·exact o5 hi q1 q2 p hp
 rw[if_neg h4];by_cases h5:o.1=5
 ·rw[if_pos h5];obtain⟨a,b,_,_⟩:=mZ hm h5;exact one rfl (Mz a b)
 rw[if_neg h5];by_cases h6:o.1=6
 ·rw[if_pos h6];obtain⟨v,r0,r1,hv,hr,bq,hor⟩:=AO h h6;have EZ:v∈s.1.1:=acG hv;have hg:((aO s.1 (au o)).getD zV).2.1=[r0,r1]:=by rw[hv];exact hr
  rw[hg];have side:∀r∈v.2.1,(r.2=0∨r.2=1)∧cz r.1=true:=fun r hr=>by obtain⟨e,he,e1,e2⟩:=cO.1 (hw.d.pd.mem_iff.1 (aM.2 ⟨v,EZ,hr⟩));exact⟨e2,by rw[←e1];exact(hw.d.ge e he).i⟩
  have s0:=side r0 (by rw[hr];simp);have s1:=side r1 (by rw[hr];simp);obtain⟨q1,q2⟩:=qM hw.d (au o);obtain⟨q3,q4⟩:=qN hw.d (aj o);have ho:=E2 hm h6;have l1:=fE (au o) false (fQ s.1 (au o)).1 (fQ s.1 (au o)).2;have l2:=fE (aj o) true (gS s.1 (aj o)).1 (gS s.1 (aj o)).2;show(∀p∈da s.1 o r0 r1,bm p=0)∧1≤(da s.1 o r0 r1).length∧(da s.1 o r0 r1).length≤5;unfold da;refine⟨fun p hp=>?_,by simp only[List.length_append,List.length_cons,List.length_nil];omega,by simp only[List.length_append,List.length_cons,List.length_nil];omega⟩;rcases abG.1 hp with hp|hp
  ·rcases abG.1 hp with hp|hp
   ·rw[List.mem_singleton.1 hp];unfold yN
    split
    ·obtain⟨n0,n3⟩:=smN s1.1 s0.1;exact tS s1.2 hi ho n0 n3
    ·obtain⟨n0,n3⟩:=smN s0.1 s1.1;exact tS s0.2 hi ho n0 n3
   ·exact o5 hi q1 q2 p hp
  ·exact o5 ho q3 q4 p hp
 rw[if_neg h6];obtain⟨q1,q2⟩:=qM hw.d (au o);obtain⟨q3,q4⟩:=qN hw.d (au o);have hq:lY (if cX o=true then gS s.1 (au o) else fQ s.1 (au o)).1=true∧jZ (if cX o=true then gS s.1 (au o) else fQ s.1 (au o)).2=true:=by split;exact⟨q3,q4⟩;exact⟨q1,q2⟩
 rw[MB hm (by omega)]
 split
 ·exact one rfl (CG hi hq.1)
 ·exact one rfl (CH hi hq.2)
theorem MC{s:StateT}(hw:dU s)(o:aW):(tR s o).length≤5:=by
 unfold tR
 split
 ·simp
 ·rename_i h;exact(Ql hw (by simpa using h)).2.2
theorem ahn(hG:HG G)(s:StateT)(hs:Sm s.1)(hl:s.2.length≤50000000)(tv:∀v∈s.1.1,v.2.2.1.size≤100000000)(te:∀e∈s.1.2,e.2.1.size≤100000000) :
  ∃b,FX G 43 nT ((s,()),())=some ((b,()),())∧(b=true→dU s∧bY s.1=0):=by
 obtain⟨r,q1,q2⟩:=am9 hG s.1 hs tv te;have loop:∀(n i:Nat),i+n=s.2.length→0<i→(∀j x y,j+1<i→s.2[j]? = some x→s.2[j+1]? = some y→lz x.1 y.1=true) → ∃b,LX G 43 nT Tryz.f43 yh (aS Tryz.prog 43 0) (((i:Int),()),(((s,()),()),()))=some ((b,()),())∧(b=true→dU s∧bY s.1=0):=by
  intro n
  induction n with
  |zero =>
   intro i hi h0 ha;have e1:=@IY (FX G) (LX G 43 nT Tryz.f43) (((i:Int),()),(((s,()),()),()));have e2:=e1.trans (ag (decide_eq_false (show ¬((i:Int)<((s.2.length:Nat):Int)) by omega)) rfl);by_cases h4:s.2.length≤400
   ·refine⟨r==0,ax (e2.trans (af (decide_eq_true (show((s.2.length:Nat):Int)≤400 by omega)) (aa q1 rfl))) rfl,fun hb=>?_⟩;obtain⟨hw,hg⟩:=q2.1 ((beq_iff_eq (α:=Int)).1 hb);exact⟨⟨hw,WR (R:=fun a b:aE=>lz a.1 b.1=true) (fun a b c=>gX) fun j x y h1 h2=>ha j x y (by have:=(aa9.1 h2).1;omega) h1 h2,h4⟩,hg⟩
   ·exact⟨false,ax (e2.trans (ag (decide_eq_false (show ¬((s.2.length:Nat):Int)≤400 by omega)) rfl)) rfl,fun h=>by cases h⟩
  |succ n ih =>
   intro i hi h0 ha;have aH:i<s.2.length:=by omega
   have hx:s.2[i]? = some s.2[i]:=abb aH;have hy:s.2[i-1]? = some s.2[i-1]:=abb (by omega);have e1:=@IY (FX G) (LX G 43 nT Tryz.f43) (((i:Int),()),(((s,()),()),()));have e2:bh s.2 (IntKind.wrap .i64 ((i:Int)-1))=some s.2[i-1]:=by rw[Qd h0 aH (by omega)];exact aC hy
   by_cases hc:lz s.2[i-1].1 s.2[i].1=true
   ·obtain⟨b,h1,h2⟩:=ih (i+1) (by omega) (by omega) (fun j x y hj k1 k2=>by
     by_cases hji:j+1=i
     ·have ej:j=i-1:=by omega
      subst ej;rw[hy]at k1;rw[show i-1+1=i by omega,hx]at k2
      cases k1;cases k2;exact hc
     ·exact ha j x y (by omega) k1 k2)
    refine⟨b,ax (e1.trans (af (bg aH) (aa e2 (aa (aC hx) (aa (YD hG _ _) (ag (decide_eq_false ?_) ?_)))))) rfl,h2⟩
    ·have:=(uM s.2[i-1].1 s.2[i].1).2 hc;show ¬(n8 s.2[i-1].1 s.2[i].1≥0);omega
    ·rw[wI,aK aH (by omega)];exact h1
   ·refine⟨false,ax (e1.trans (af (bg aH) (aa e2 (aa (aC hx) (aa (YD hG _ _) (af (decide_eq_true ?_) rfl)))))) rfl,fun h=>by cases h⟩;have:=mt (uM s.2[i-1].1 s.2[i].1).1 hc;show n8 s.2[i-1].1 s.2[i].1≥0;omega
 have e0:=@ae8 (FX G) (LX G 43 nT Tryz.f43) ((s,()),());have fin:∀{y},cm 43 nT Tryz.f43 (FX G) (LX G 43 nT Tryz.f43) ((s,()),())=some y→FX G 43 nT ((s,()),())=some y:=fun {y} h=>aB (hG _ _ rfl) h rfl;by_cases h0:s.2.length=0
 ·have e1:=@IY (FX G) (LX G 43 nT Tryz.f43) (((1:Int),()),(((s,()),()),()));have e2:=e1.trans (ag (decide_eq_false (show ¬((1:Int)<((s.2.length:Nat):Int)) by omega)) rfl);refine⟨r==0,fin (e0.trans (ax (e2.trans (af (decide_eq_true (show((s.2.length:Nat):Int)≤400 by omega)) (aa q1 rfl))) rfl)),fun hb=>?_⟩;obtain⟨hw,hg⟩:=q2.1 ((beq_iff_eq (α:=Int)).1 hb);refine⟨⟨hw,?_,by omega⟩,hg⟩;rw[List.eq_nil_of_length_eq_zero h0];exact List.Pairwise.nil
 ·obtain⟨b,h1,h2⟩:=loop (s.2.length-1) 1 (by omega) (by omega) (fun j x y hj=>by omega);exact⟨b,fin (e0.trans h1),h2⟩
theorem aho(hG:HG G)(J0:∀o,pQ G o):FX G 42 Lg ((),())=some ((true,()),()):=by refine aB (hG _ _ rfl) ae7 ?_;have h1:=aa1 hG J0 zS (vF 1 (1,1)) dU.zero (Zx 1);have e:tR zS (vF 1 (1,1))=[vF 2 (1,1)]:=rfl;rw[e]at h1;exact aa h1 (af rfl (af rfl rfl))
theorem ahp(hG:HG G)(l:List aW):FX G 47 Lh ((l,()),())=some ((l.take 8,()),()):=by
 refine aB (hG _ _ rfl) afa ?_;by_cases h:8<l.length
 ·have d1:decide (((l.length:Nat):Int)>8)=true:=decide_eq_true (by omega);have d2:bu l.length 0 8=true:=by simp[bu];omega
  simp only[d1,d2];rfl
 ·have d1:decide (((l.length:Nat):Int)>8)=false:=decide_eq_false (by omega);rw[List.take_of_length_le (by omega)];simp only[d1];rfl
def yO:List aW→StateT→List aW→List aW
 |[],_,acc=>acc
 |o::r,s,acc=>yO r (bZ s o).1 (tR s o++acc)
def ofR(s:StateT)(l:List aW):List aW×(Int×Unit):=if(cS s l).2.1≠0 then([],((cS s l).2.1,())) else(yO l s [],(0,()))
theorem go_step{s:StateT}{o:aW}{r:List aW}(h:(lC (o::r) s).2.1=0):(bZ s o).2.1=0∧(lC r (bZ s o).1).2.1=0∧lC (o::r) s=lC r (bZ s o).1:=by
 have e:lC (o::r) s=if(bZ s o).2.1≠0 then(zS,(bZ s o).2) else lC r (bZ s o).1:=rfl
 rw[e]at h ⊢;by_cases h1:(bZ s o).2.1=0
 ·rw[if_neg (by simp[h1])]at h ⊢;exact⟨h1,h,rfl⟩
 ·rw[if_pos h1]at h;exact absurd h h1
theorem ahq(hG:HG G)(J0:∀o,pQ G o)(s:StateT)(l:List aW)(hw:dU s)(hl:l.length≤8)(hf:∀o∈l,Fit o):FX G 48 By ((s,l,()),())=some (ofR s l,()):=by
 refine aB (hG _ _ rfl) afb ?_;refine aa (alV hG s l hw (by omega) hf fun o _=>J0 o) ?_;unfold ofR;by_cases h0:(cS s l).2.1=0
 case neg=>rw[if_pos h0];exact af (show((cS s l).2.1 != 0)=true by simp[h0]) rfl
 rw[if_neg (by simp[h0])];refine ag (show((cS s l).2.1 != 0)=false by simp[h0]) ?_;have SR:(lC l s).2.1=0:=by rw[ov h0]at h0;exact h0
 have loop:∀(n i:Nat) (t:StateT) (acc:List aW),i+n=l.length→dU t→(lC (l.drop i) t).2.1=0→acc.length≤5*i → LX G 48 By Tryz.f48 yi (aS Tryz.prog 48 0) ((l,(((l.length:Nat):Int),((i:Int),()))),(((t,()),()),(acc,())))=some ((yO (l.drop i) t acc,((0:Int),())),()):=by
  intro n
  induction n with
  |zero =>intro i t acc hi ht hg ha;refine ax Pu (ag (decide_eq_false (show ¬((i:Int)<((l.length:Nat):Int)) by omega)) ?_);rw[List.drop_eq_nil_of_le (by omega)];rfl
  |succ n ih =>
   intro i t acc hi ht hg ha;have aH:i<l.length:=by omega
   have hm:=acy aH;rw[List.drop_eq_getElem_cons aH]at hg ⊢;obtain⟨g1,g2,_⟩:=go_step hg
   refine ax Pu (af (bg aH) (aa (aC (abb aH)) ?_));refine aa (aa1 hG J0 t l[i] ht (hf _ hm)) ?_;have hp:=MC ht l[i];refine af (fits (show(tR t l[i]).length+acc.length≤_ by omega)) ?_;refine aa (E8 hG t l[i] ht (hf _ hm) fun hm h3=>J0 _ t ht hm h3) ?_;refine ag (show((bZ t l[i]).2.1 != 0)=false by simp[g1]) ?_;rw[wI,aK aH (by omega)];exact ih (i+1) _ (tR t l[i]++acc) (by omega) (ht.one l[i]) g2 (by rw[List.length_append];omega)
 exact loop l.length 0 s [] (by omega) hw SR (by simp)
theorem ahr(hG:HG G)(J0:∀o,pQ G o)(s:StateT)(l:List aW)(hw:dU s)(hl:l.length≤1073741824)(hf:∀o∈l,Fit o):FX G 53 Bz ((s,l,()),())=some (lC l s,()):=by
 have hn:=hw.n;refine aB (hG _ _ rfl) afc ?_;refine aa (abT hG s.1 hw.d.sm) (aa (YH (hG _ _ rfl) s.2 (by omega)) ?_);have loop:∀(n i:Nat) (t:StateT),i+n=l.length→dU t → LX G 53 Bz Tryz.f53 yj (aS Tryz.prog 53 0) ((l,(((l.length:Nat):Int),((i:Int),()))),(((zS,()),((t,()),())),()))=some (lC (l.drop i) t,()):=by
  intro n
  induction n with
  |zero =>intro i t hi ht;refine ax Pv (ag (decide_eq_false (show ¬((i:Int)<((l.length:Nat):Int)) by omega)) ?_);rw[List.drop_eq_nil_of_le (by omega)];rfl
  |succ n ih =>
   intro i t hi ht;have aH:i<l.length:=by omega
   have hm:=acy aH;refine ax Pv (af (bg aH) (aa (aC (abb aH)) ?_));refine aa (E8 hG t l[i] ht (hf _ hm) fun hm h3=>J0 _ t ht hm h3) ?_;rw[List.drop_eq_getElem_cons aH,lC];by_cases h1:(bZ t l[i]).2.1=0
   ·rw[if_neg (by simp[h1])];refine ag (show((bZ t l[i]).2.1 != 0)=false by simp[h1]) ?_;rw[wI,aK aH hl];exact ih (i+1) _ (by omega) (ht.one l[i])
   ·rw[if_pos h1];exact af (show((bZ t l[i]).2.1 != 0)=true by simp[h1]) rfl
 exact loop l.length 0 s (by omega) hw
end Go.Vs
