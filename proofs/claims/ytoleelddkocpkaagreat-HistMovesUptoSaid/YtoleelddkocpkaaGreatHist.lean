/- Rows of edits -/
import Derived.Test.YtoleelddkocpkaaGreatPartsB
import Derived.Test.YtoleelddkocpkaaGreatForm
import Derived.Test.YtoleelddkocpkaaGreatNormalD
import Derived.Test.YtoleelddkocpkaaGreatPlane
set_option linter.unusedVariables false
set_option linter.unusedSimpArgs false
namespace Go.Vs
open Go.Proofs
variable {G:(f:FuncId)→(g:aN)→Option (g.A→Option g.B)}
theorem N3{n:Int}(h:Pb (.int .i64) n):RD n:=by
 have h1:IntKind.min .i64 = -9223372036854775808:=by decide
 have h2:IntKind.max .i64=9223372036854775807:=by decide
 have h:IntKind.min .i64≤n∧n≤IntKind.max .i64:=h;rw[h1,h2]at h;unfold RD;omega
theorem acU{o:bq}(h:Pb sN o)(ht:we o):Fit o:=by obtain⟨_,_,_,_,⟨_,_,h1⟩,⟨_,_,h2⟩,_,_,h3⟩:=h;exact⟨N3 h1,N3 h2,N3 h3,ht⟩
theorem Wf.bd{d:ak}(h:Wf d):Bd 100 d:=⟨by have:=h.nv;omega,by have:=h.ne;omega,fun v hv=>by have:=h.tc v hv;omega⟩
end Go.Vs
namespace Go.Vs
def kc:List (List bq)→StateT→StateT
 |[],s=>s
 |e::r,s=>kc r (il s e)
def EN:List (List bq)→StateT→List Bool
 |[],_=>[]
 |e::r,s=>decide ((cV s e).2.1=0)::EN r (il s e)
theorem Zp(s:StateT):il s []=s:=by rfl
theorem LZ:∀(a b:List (List bq)) (s:StateT),kc (a++b) s=kc b (kc a s)
 |[],_,_=>rfl
 |e::r,b,s=>LZ r b (il s e)
theorem eI.all:∀(l:List (List bq)) {s:StateT},eI s→eI (kc l s)
 |[],_,h=>h
 |e::r,_,h=>eI.all r (h.try e)
theorem Bs.all:∀{l:List (List bq)} {n:Nat} {s:StateT},(∀e∈l,e.length≤8)→Bs n s→Bs (n+24*l.length) (kc l s)
 |[],_,_,_,h=>h
 |e::r,n,s,hl,h=>by have h1:Bs (n+24) (il s e):=h.try.mono (by have:=hl e (by simp);omega);exact(Bs.all (fun e he=>hl e (by simp[he])) h1).mono (by simp;omega)
theorem L0{l:List ai}{x:ID}:(aR l x).isSome=true↔∃v∈l,v.1=x:=by
 grind [aR,List.find?_isSome]
theorem L3{l:List ag}{x:ID}:(aZ l x).isSome=true↔∃v∈l,v.1=x:=by
 grind [aZ,List.find?_isSome]
structure Gr(s t:StateT):Prop where
 v:∀x,(aR s.1.1 x).isSome=true→(aR t.1.1 x).isSome=true
 e:∀x,(aZ s.1.2 x).isSome=true→(aZ t.1.2 x).isSome=true
 nv:s.1.1.length≤t.1.1.length
 ne:s.1.2.length≤t.1.2.length
theorem Gr.rfl(s:StateT):Gr s s:=⟨fun _ h=>h,fun _ h=>h,acb _,acb _⟩
theorem Gr.trans{a b c:StateT}(h:Gr a b)(k:Gr b c):Gr a c:=⟨fun x p=>k.v x (h.v x p),fun x p=>k.e x (h.e x p),acz h.nv k.nv,acz h.ne k.ne⟩
def named(s:StateT)(o:bq):Prop:=if o.1=1 then(aR s.1.1 (ba o)).isSome=true else(aZ s.1.2 (ba o)).isSome=true
theorem named.up{s t:StateT}{o:bq}(h:named s o)(k:Gr s t):named t o:=by
 unfold named at h ⊢
 split
 ·rename_i h1;rw[if_pos h1]at h;exact k.v _ h
 ·rename_i h1;rw[if_neg h1]at h;exact k.e _ h
theorem PR(d:ak)(c:rC)(x:ab):(bU d c x).1.length=d.1.length∧(bU d c x).2=d.2:=⟨jv _ _ _,rfl⟩
theorem WS{s:StateT}{o:bq}(hk:o.1=1∨o.1=3)(h:(ke s o).2.1=0):Gr s (ke s o).1∧named (ke s o).1 o:=by
 unfold ke at h ⊢;by_cases hm:cC o=0
 case neg=>rw[if_pos hm]at h;exact absurd h hm
 rw[if_neg (by simp[hm])]at h ⊢;rcases hk with h1|h3
 ·rw[if_pos h1]at h ⊢;unfold ov at h ⊢;by_cases h2:(bp s.1 (ba o)).isSome=true
  ·rw[if_pos h2]at h;cases h
  rw[if_neg h2]at h ⊢;by_cases h4:24≤s.1.1.length
  ·rw[if_pos h4]at h;cases h
  rw[if_neg h4];refine⟨⟨fun x hx=>?_,fun x hx=>hx,by show _≤(cW _ _).length;rw[fH];omega,acb _⟩,?_⟩
  ·rw[L0]at hx ⊢;obtain⟨v,hv,e⟩:=hx;exact⟨v,jZ.2 (.inr hv),e⟩
  ·unfold named;rw[if_pos h1,L0];exact⟨_,jZ.2 (.inl rfl),rfl⟩
 ·have n1:¬o.1=1:=by omega
  have n2:¬o.1=2:=by omega
  rw[if_neg n1,if_neg n2,if_pos h3]at h ⊢;unfold ou at h ⊢
  split at h
  ·cases h
  rename_i c1
  split at h
  ·cases h
  rename_i c2
  split at h
  ·cases h
  rename_i c3
  split at h
  ·cases h
  rename_i c4
  split at h
  ·cases h
  rename_i c5;rw[if_neg c1,if_neg c2,if_neg c3,if_neg c4,if_neg c5];have l1:(ib s o).1.length=s.1.1.length:=by unfold ib;rw[(PR _ _ _).1,(PR _ _ _).1]
  have l2:(ib s o).2=dH (ba o,(e0,0)) s.1.2:=rfl;refine⟨⟨fun x hx=>?_,fun x hx=>?_,by show _≤(ib s o).1.length;omega,by show _≤(ib s o).2.length;rw[l2,lM];omega⟩,?_⟩
  ·exact ye _ (ye _ hx)
  ·show(aZ (ib s o).2 x).isSome=true;rw[l2];rw[L3]at hx ⊢;obtain⟨v,hv,e⟩:=hx;exact⟨v,pU.2 (.inr hv),e⟩
  ·unfold named;rw[if_neg n1];show(aZ (ib s o).2 (ba o)).isSome=true;rw[l2,L3];exact⟨_,pU.2 (.inl rfl),rfl⟩
theorem So{s:StateT}{o:bq}(hk:o.1=1∨o.1=3)(h:named s o):(ke s o).2.1≠0:=by
 unfold ke;by_cases hm:cC o=0
 case neg=>simp_all
 rw[if_neg (by simp[hm])];unfold named at h;rcases hk with h1|h3
 ·simp_all [if_pos,ov,bp,ba]
 simp_all [if_neg,if_pos,ou,hM,ba]
structure Zq(e:List bq):Prop where
 k:∀o∈e,o.1=1∨o.1=3
 n:e≠[]
theorem Jd:∀{e:List bq} {s:StateT},(∀o∈e,o.1=1∨o.1=3)→(D5 e s).2.1=0→Gr s (D5 e s).1∧∀o∈e,named (D5 e s).1 o
 |[],s,_,_=>⟨Gr.rfl s,fun o ho=>by cases ho⟩
 |o::r,s,hk,h=>by
  unfold D5 at h ⊢;by_cases h1:(ke s o).2.1=0
  case neg=>simp_all
  rw[if_neg (by simp[h1])]at h ⊢;obtain⟨g1,n1⟩:=WS (hk o (by simp)) h1;obtain⟨g2,n2⟩:=Jd (fun o ho=>hk o (by simp[ho])) h;refine⟨g1.trans g2,fun p hp=>?_⟩;rcases abz.1 hp with rfl|hp
  ·exact n1.up g2
  grind
theorem tj{s:StateT}{e:List bq}(h:(cV s e).2.1=0):cV s e=D5 e s:=by
 unfold cV at h ⊢
 grind
theorem WT{s:StateT}{e:List bq}(h:(cV s e).2.1=0):il s e=(cV s e).1:=by simp_all [il,if_neg]
theorem Zr{s:StateT}{e:List bq}(h:(cV s e).2.1≠0):il s e=s:=by unfold il;rw[if_pos h]
theorem L4{s:StateT}{e:List bq}(ha:Zq e):Gr s (il s e):=by
 by_cases h:(cV s e).2.1=0
 ·rw[WT h,tj h];rw[tj h]at h;exact(Jd ha.k h).1
 grind [Zr,Gr.rfl]
theorem L5:∀{l:List (List bq)} {s:StateT},(∀e∈l,Zq e)→Gr s (kc l s)
 |[],s,_=>Gr.rfl s
 |e::r,s,h=>(L4 (h e (by simp))).trans (L5 fun e he=>h e (by simp[he]))
theorem L6{s t:StateT}{e:List bq}(ha:Zq e)(h:(cV s e).2.1=0)(hg:Gr (il s e) t):(cV t e).2.1≠0:=fun h2=>by
 rw[WT h,tj h]at hg;rw[tj h]at h;rw[tj h2]at h2;obtain⟨_,hn⟩:=Jd ha.k h
 cases e with
 |nil=>exact ha.n rfl
 |cons o r =>have h3:=So (ha.k o (by simp)) ((hn o (by simp)).up hg);simp_all [D5,if_pos]
theorem w4:∀{l:List (List bq)} {s t:StateT},(∀e∈l,Zq e)→Gr (kc l s) t→∀i:Nat,(EN l s)[i]? = some true→(EN l t)[i]? = some true→False
 |[],_,_,_,_,i,h,_=>by simp[EN]at h
 |e::r,s,t,ha,hg,0,h1,h2=>by simp[EN]at h1 h2;exact L6 (ha e (by simp)) h1 ((L5 fun e he=>ha e (by simp[he])).trans hg) h2
 |e::r,s,t,ha,hg,i+1,h1,h2=>by have h1:(EN r (il s e))[i]? = some true:=h1;have h2:(EN r (il t e))[i]? = some true:=h2;exact w4 (l:=r) (s:=il s e) (t:=il t e) (fun e he=>ha e (by simp[he])) (Gr.trans (show Gr (kc r (il s e)) t from hg) (L4 (ha e (by simp)))) i h1 h2
end Go.Vs
namespace Go.Vs
open Go.Proofs
variable {G:(f:FuncId)→(g:aN)→Option (g.A→Option g.B)}
structure nF(l:List (List bq)):Prop where
 n:l.length≤1073741824
 e:∀e∈l,e.length≤1073741824
 f:∀e∈l,∀o∈e,Fit o
theorem nF.mem{l m:List (List bq)}(h:nF l)(hs:∀e∈m,e∈l)(hn:m.length≤1073741824):nF m:=⟨hn,fun e he=>h.e e (hs e he),fun e he=>h.f e (hs e he)⟩
theorem acV(hG:HG G)(A7:∀o,jw G o){l:List (List bq)}(h:nF l){e:List bq}(he:e∈l)(s:StateT)(hw:eI s):FX G 62 Kk ((s,e,()),())=some ((il s e,()),()) :=agm hG s e hw (h.e e he) (h.f e he) fun o _=>A7 o
theorem acW(hG:HG G)(A7:∀o,jw G o)(s:StateT)(hw:eI s):FX G 62 Kk ((s,[],()),())=some ((s,()),()):=by
 have:=agm hG s [] hw (by simp) (by simp) fun o _=>A7 o
 rwa [Zp]at this
theorem ahq(hG:HG G)(s:StateT)(e:List bq):FX G 36 KN ((s,e,()),())=some ((),()):=av (hG _ _ rfl) afn rfl
theorem WU(hG:HG G)(A7:∀o,jw G o)(l:List (List bq))(h:nF l):∀(n i:Nat) (s:StateT),i+n=l.length→eI s → LX G 37035 lC Tryz.f35 nk (aK Tryz.prog 35 0) ((l,(((l.length:Nat):Int),((i:Int),()))),((zW,((s,()),())),()))=some ((kc (l.drop i) s,()),()):=by
 intro n
 induction n with
 |zero =>intro i s hi hw;refine ar DW (af (decide_eq_false (show ¬((i:Int)<((l.length:Nat):Int)) by omega)) ?_);rw[List.drop_eq_nil_of_le (by omega)];rfl
 |succ n ih =>
  intro i s hi hw;have aO:i<l.length:=by omega
  have hm:=ac8 aO;refine ar DW (ae (aT aO) ?_);refine aa (aA (abn aO)) ?_;refine aa (ahq hG s l[i]) (aa (acV hG A7 h hm s hw) ?_);rw[wI,aD aO h.n,List.drop_eq_getElem_cons aO,kc];exact ih (i+1) _ (by omega) (hw.try l[i])
theorem aaP(hG:HG G)(A7:∀o,jw G o)(s:StateT)(l:List (List bq))(hw:eI s)(h:nF l):FX G 13 Dn ((s,l,()),())=some ((kc l s,()),()):=by
 refine av (hG _ _ rfl) afd ?_;have h1:FX G 37035 lC ((s,l,()),())=some ((kc l s,()),()):=by refine av (hG _ _ rfl) U8 ?_;refine aa (acW hG A7 s hw) ?_;exact WU hG A7 l h l.length 0 s (by omega) hw
 exact aa h1 rfl
theorem Zs(n:Int):Fit (YE 1 (1,n)):=⟨acg,acg,acg,by show e0.size≤_;simp[e0,ByteArray.size]⟩
theorem ahr(hG:HG G)(l:List bq)(hl:l.length≤50000000):FX G 60 KO ((l,()),())=some ((l,()),()):=by
 refine av (hG _ _ rfl) afo ?_
 cases l with
 |nil=>exact ae rfl (me (by omega) fun j hj=>by cases j<;>rfl)
 |cons x r=>exact af rfl (ae (fits (by grind)) rfl)
abbrev PS(h:dL):StateT:=h.1
abbrev rJ(h:dL):Int:=h.2.1
abbrev mC(h:dL):List (List bq):=h.2.2.1
def N4(h:dL):Int:=rJ h+((mC h).length:Nat)
structure Hz(m:Nat)(h:dL):Prop where
 b:eI (PS h)
 f0:0≤rJ h
 f1:N4 h≤m
 m1:m≤1000000000
 n:(mC h).length≤64
 r:nF (mC h)
theorem Hz.zero:Hz 0 (zS,(0,([],()))):=⟨eI.zero,Int.le_refl _,by decide,by decide,adl _,⟨adl _,fun e he=>(by cases he),fun e he=>(by cases he)⟩⟩
theorem PT(hG:HG G){m:Nat}(h:dL)(ho:Hz m h):FX G 32 gH ((),(h,()))=some ((N4 h,()),(h,())):=by refine av (hG _ _ rfl) afj ?_;have h1:=ho.f0;have h2:=ho.f1;have h3:=ho.n;have h4:=ho.m1;have hl:N4 h=rJ h+((mC h).length:Nat):=rfl;have e:IntKind.wrap .i64 (rJ h+(((mC h).length:Nat):Int))=N4 h:=wrap_small (by omega) (by omega);exact congrArg (fun n:Int=>some ((n,()),(h,()))) e
def Fy(h:dL)(e:List bq):(Int×(Int×Unit))×dL :=if c8 e≠0 then((0,(c8 e,())),h) else if 64≤(mC h).length then((0,(20,())),h) else((N4 h+1,(0,())),(PS h,(rJ h,(mC h++[e],()))))
theorem PU{α:Type}(l:List α):cut l 0 ((l.length:Nat):Int)=l:=by unfold cut;rw[show Int.toNat (0:Int)=0 from rfl,List.drop_zero];exact List.take_of_length_le (by omega)
theorem Hz.mono{m k:Nat}{h:dL}(ho:Hz m h)(hk:m≤k)(h1:k≤1000000000):Hz k h:=⟨ho.b,ho.f0,by have:=ho.f1;omega,h1,ho.n,ho.r⟩
theorem Hz.add{m:Nat}{h:dL}(ho:Hz m h)(hm:m<1000000000){e:List bq}(he:e.length≤1073741824)(hf:∀o∈e,Fit o):Hz (m+1) (Fy h e).2:=by
 unfold Fy
 split
 ·exact ho.mono (by omega) (by omega)
 split
 ·exact ho.mono (by omega) (by omega)
 ·rename_i h1 h2;have h3:=ho.f1;have hl:N4 h=rJ h+((mC h).length:Nat):=rfl;refine⟨ho.b,ho.f0,?_,by omega,?_,?_,fun p hp=>?_,fun p hp=>?_⟩
  ·show rJ h+(((mC h++[e]).length:Nat):Int)≤_;simp;omega
  ·grind
  ·grind
  ·rcases abX.1 (show p∈mC h++[e] from hp) with hp|hp
   ·exact ho.r.e p hp
   simp_all
  ·rcases abX.1 (show p∈mC h++[e] from hp) with hp|hp
   ·exact ho.r.f p hp
   simp_all
theorem aaQ(hG:HG G){m:Nat}(h:dL)(ho:Hz m h)(hm:m<1000000000)(e:List bq)(he:e.length≤50000000)(hf:∀o∈e,Fit o):FX G 29 GJ ((e,()),(h,()))=some ((Fy h e).1,((Fy h e).2,())):=by
 refine av (hG _ _ rfl) afg ?_;refine aa (age hG e (by omega) hf) ?_;have ha:=ho.add hm (e:=e) (by omega) hf;unfold Fy at ha ⊢;by_cases h0:c8 e=0
 case neg=>rw[if_pos h0];exact ae (show(c8 e != 0)=true by simp[h0]) rfl
 rw[if_neg (by simp[h0])]at ha ⊢;refine af (show(c8 e != 0)=false by simp[h0]) ?_;by_cases h64:64≤(mC h).length
 ·rw[if_pos h64];exact ae (decide_eq_true (show(((mC h).length:Nat):Int)≥64 by omega)) rfl
 rw[if_neg h64]at ha ⊢;refine af (decide_eq_false (show ¬(((mC h).length:Nat):Int)≥64 by omega)) ?_;refine ae (cK (show aB (mC h).length 0 (((mC h).length:Nat):Int)=true by simp[aB]) (decide_eq_true rfl)) ?_;refine aa (ahr hG e he) ?_;have ec:cut (mC h) 0 (((mC h).length:Nat):Int)=mC h:=PU _;refine ae (fits (show(cut (mC h) 0 (((mC h).length:Nat):Int)).length+1≤_ by rw[ec];omega)) ?_;show Option.bind (FX G 32 gH ((),((PS h,(rJ h,(cut (mC h) 0 (((mC h).length:Nat):Int)++[e],()))),()))) _=_;rw[ec];refine aa (PT hG _ ha) ?_;have:N4 (PS h,(rJ h,(mC h++[e],())))=N4 h+1:=by
  show rJ h+(((mC h++[e]).length:Nat):Int)=rJ h+(((mC h).length:Nat):Int)+1
  grind
 exact congrArg (fun n:Int=>(some ((n,((0:Int),())),((PS h,(rJ h,(mC h++[e],()))),())):Option ((Int×(Int×Unit))×(dL×Unit)))) this
def hIn(h:dL)(n:Int):Prop:=rJ h≤n∧n≤N4 h
instance (h:dL) (n:Int):Decidable (hIn h n):=by unfold hIn;infer_instance
def atH(h:dL)(n:Int):StateT×(Int×Unit):=if hIn h n then(kc ((mC h).take (n-rJ h).toNat) (PS h),(0,())) else(zS,(26,()))
theorem nF.take{l:List (List bq)}(h:nF l)(n:Nat):nF (l.take n):=h.mem (fun e he=>List.mem_of_mem_take he) (by have:=h.n;simp;omega)
theorem nF.drop{l:List (List bq)}(h:nF l)(n:Nat):nF (l.drop n):=h.mem (fun e he=>adx he) (by have:=h.n;simp;omega)
theorem ahs(hG:HG G)(A7:∀o,jw G o){m:Nat}(h:dL)(ho:Hz m h)(n:Int):FX G 61 KM ((n,()),(h,()))=some (atH h n,(h,())):=by
 refine av (hG _ _ rfl) afl ?_;have h1:=ho.f0;have h2:=ho.f1;have h3:=ho.n;have h4:=ho.m1;have hl:N4 h=rJ h+((mC h).length:Nat):=rfl;unfold atH;by_cases ha:n<rJ h
 ·rw[if_neg (show ¬hIn h n by unfold hIn;omega)];exact ae (decide_eq_true ha) rfl
 refine af (decide_eq_false ha) (aa (PT hG h ho) ?_);by_cases hb:n>N4 h
 ·rw[if_neg (show ¬hIn h n by unfold hIn;omega)];exact ae (decide_eq_true hb) rfl
 refine af (decide_eq_false hb) ?_;rw[if_pos (show hIn h n by unfold hIn;omega)];obtain⟨k,hk⟩:∃k:Nat,n=rJ h+k:=⟨(n-rJ h).toNat,by omega⟩;have ew:IntKind.wrap .i64 (n-rJ h)=(k:Int):=by grind [wrap_small]
 refine ae (show aB (mC h).length 0 (IntKind.wrap .i64 (n-rJ h))=true by grind [aB]) ?_;have ec:cut (mC h) 0 (IntKind.wrap .i64 (n-rJ h))=(mC h).take (n-rJ h).toNat:=by rw[ew];unfold cut;grind
 exact aa ((congrArg (fun l:List (List bq)=>FX G 13 Dn ((PS h,l,()),())) ec).trans (aaP hG A7 (PS h) _ ho.b (ho.r.take _))) rfl
def A8(h:dL)(n:Int):Int×dL:=if hIn h n then(0,(kc ((mC h).take (n-rJ h).toNat) (PS h),(n,((mC h).drop (n-rJ h).toNat,())))) else(26,h)
theorem Hz.comp{m:Nat}{h:dL}(ho:Hz m h)(n:Int):Hz m (A8 h n).2:=by
 unfold A8;have h1:=ho.f0;have h2:=ho.f1;have h3:=ho.n;have hl:N4 h=rJ h+((mC h).length:Nat):=rfl;by_cases hi:hIn h n
 ·rw[if_pos hi];unfold hIn at hi;refine⟨eI.all _ ho.b,by grind,?_,ho.m1,?_,ho.r.drop _⟩
  ·show n+((((mC h).drop (n-rJ h).toNat).length:Nat):Int)≤m
   grind
  grind
 simp_all
theorem aaR(hG:HG G)(A7:∀o,jw G o){m:Nat}(h:dL)(ho:Hz m h)(n:Int):FX G 31 Dp ((n,()),(h,()))=some (((A8 h n).1,()),((A8 h n).2,())):=by
 refine av (hG _ _ rfl) afi ?_;refine aa (ahs hG A7 h ho n) ?_;have h1:=ho.f0;have h2:=ho.f1;have h3:=ho.n;have h4:=ho.m1;have hl:N4 h=rJ h+((mC h).length:Nat):=rfl;unfold atH A8;by_cases hi:hIn h n
 case neg=>rw[if_neg hi,if_neg hi];rfl
 rw[if_pos hi,if_pos hi];unfold hIn at hi;refine ae rfl ?_;obtain⟨k,hk⟩:∃k:Nat,n=rJ h+k:=⟨(n-rJ h).toNat,by omega⟩;have ew:IntKind.wrap .i64 (n-rJ h)=(k:Int):=by grind [wrap_small]
 refine ae (show aB (mC h).length (IntKind.wrap .i64 (n-rJ h)) (((mC h).length:Nat):Int)=true by grind [aB]) ?_;have ec:cut (mC h) (IntKind.wrap .i64 (n-rJ h)) (((mC h).length:Nat):Int)=(mC h).drop (n-rJ h).toNat:=by rw[ew];unfold cut;rw[show(n-rJ h).toNat=k by omega,List.take_of_length_le (by omega)];rfl
 exact congrArg (fun l:List (List bq)=>(some (((0:Int),()),((kc ((mC h).take (n-rJ h).toNat) (PS h),(n,(l,()))),())):Option ((Int×Unit)×(dL×Unit)))) ec
theorem aht(hG:HG G)(n:Int):FX G 47 KK ((n,()),())=some (([YE 1 (1,n)],()),()):=av (hG _ _ rfl) afh rfl
theorem ahu(hG:HG G)(A7:∀o,jw G o):FX G 20 KJ ((),())=some ((true,()),()):=by
 refine av (hG _ _ rfl) aff ?_;refine aa (aht hG 1) ?_;have hf:∀o∈[YE 1 (1,1)],Fit o:=fun o ho=>by grind [List.mem_singleton,Zs]
 have ha:Fy (zS,(0,([],()))) [YE 1 (1,1)]=((1,(0,())),(zS,(0,([[YE 1 (1,1)]],())))):=by rfl
 have h1:=aaQ hG (zS,(0,([],()))) Hz.zero (by decide) [YE 1 (1,1)] (by simp) hf;rw[ha]at h1;refine aa h1 ?_;have QZ:Hz 1 (zS,(0,([[YE 1 (1,1)]],()))):=by have:=Hz.zero.add (by decide) (e:=[YE 1 (1,1)]) (by simp) hf;simp_all
 have hc:∃t,A8 (zS,(0,([[YE 1 (1,1)]],()))) 1=(0,(t,(1,([],())))):=⟨_,if_pos (by decide)⟩;obtain⟨t,hc⟩:=hc;have h2:=aaR hG A7 _ QZ 1;rw[hc]at h2;refine aa h2 ?_;refine ae rfl (ae rfl (ae rfl (ae rfl ?_)));have ho2:=QZ.comp 1;rw[hc]at ho2;exact aa (PT hG _ ho2) rfl
end Go.Vs
set_option maxRecDepth 1000000
set_option maxHeartbeats 0
namespace Go.Vs
open Go.Proofs
theorem aaS{F:FT}{J:JT AS}{x:(((List Int)×((List Int)×Unit))×Unit)}:bF 46 AS Tryz.f46 F J x = some ((((strOf x.1.1)==(strOf x.1.2.1)),()),()):=by kernel_rfl
theorem ahv{F:FT}{J:JT kh}{x:((ak×Unit)×Unit)}:bF 42 kh Tryz.f42 F J x =(F 67 KQ ((x.1.1,()),())).bind fun(y1:Q2) =>cond (y1.1.1 != 0) (some ((([]:List Int),y1.1),())) (J uc (aK Tryz.prog 42 0) ((x.1.1.2,((lI x.1.1.2),((0:Int),()))),(((x.1.1,()),()),(([]:List ab),(((IntKind.wrap .u8 (lI x.1.1.2))::([]:List Int)),()))))):=by kernel_rfl
theorem PV{F:FT}{J:JT kh}{x:(((List ag)×(Int×(Int×Unit)))×(((ak×Unit)×Unit)×((List ab)×((List Int)×Unit))))}:eC 42 0 kh Tryz.f42 uc F J x = cond (decide (x.1.2.2.1<x.1.2.1)) (((aS x.1.1 x.1.2.2.1)).bind fun(y2:ag) =>(F 68 GL ((x.2.2.2.1,(y2,())),())).bind fun(y3:Xx) =>J uc (aK Tryz.prog 42 0) ((x.1.1,(x.1.2.1,((wI (x.1.2.2.1+1)),()))),(((x.2.1.1.1,()),()),((jK (.pair (.int .i64) (.int .i64)) y2.1 x.1.2.2.1 x.2.2.1),y3.1)))) (cond (aL (List.length x.2.2.2.1) (List.length ((IntKind.wrap .u8 (lI x.2.1.1.1.1))::([]:List Int)))) (J uf (aK Tryz.prog 42 1) ((x.2.1.1.1.1,((lI x.2.1.1.1.1),((0:Int),()))),((),(x.2.2.1,((x.2.2.2.1++((IntKind.wrap .u8 (lI x.2.1.1.1.1))::([]:List Int))),()))))) (none)):=by kernel_rfl
theorem PW{F:FT}{J:JT kh}{x:(((List ai)×(Int×(Int×Unit)))×(Unit×((List ab)×((List Int)×Unit))))}:eC 42 1 kh Tryz.f42 uf F J x = cond (decide (x.1.2.2.1<x.1.2.1)) (((aS x.1.1 x.1.2.2.1)).bind fun(y4:ai) =>(F 68 GL ((x.2.2.2.1,((y4.1,y4.2.2),())),())).bind fun(y5:Xx) =>cond (aL (List.length y5.1.1) (List.length ((IntKind.wrap .u8 (lI y4.2.1))::([]:List Int)))) (J xJ (aK Tryz.prog 42 2) ((x.1.1,(x.1.2.1,(x.1.2.2.1,(y4.2.1,((lI y4.2.1),((0:Int),())))))),((),(x.2.2.1,((y5.1.1++((IntKind.wrap .u8 (lI y4.2.1))::([]:List Int))),()))))) (none)) (some ((x.2.2.2.1,((0:Int),())),())):=by kernel_rfl
theorem PX{F:FT}{J:JT kh}{x:(((List ai)×(Int×(Int×((List ab)×(Int×(Int×Unit))))))×(Unit×((List ab)×((List Int)×Unit))))}:eC 42 2 kh Tryz.f42 xJ F J x = cond (decide (x.1.2.2.2.2.2.1<x.1.2.2.2.2.1)) (((aS x.1.2.2.2.1 x.1.2.2.2.2.2.1)).bind fun(y6:ab) =>cond (aL (List.length x.2.2.2.1) (List.length ((IntKind.wrap .u8 (wI ((Option.getD (fJ (.pair (.int .i64) (.int .i64)) y6.1 x.2.2.1) (0:Int))+(wI ((128:Int)*y6.2)))))::([]:List Int)))) (J xJ (aK Tryz.prog 42 2) ((x.1.1,(x.1.2.1,(x.1.2.2.1,(x.1.2.2.2.1,(x.1.2.2.2.2.1,((wI (x.1.2.2.2.2.2.1+1)),())))))),((),(x.2.2.1,((x.2.2.2.1++((IntKind.wrap .u8 (wI ((Option.getD (fJ (.pair (.int .i64) (.int .i64)) y6.1 x.2.2.1) (0:Int))+(wI ((128:Int)*y6.2)))))::([]:List Int))),()))))) (none)) (J uf (aK Tryz.prog 42 1) ((x.1.1,(x.1.2.1,((wI (x.1.2.2.1+1)),()))),((),x.2.2))):=by kernel_rfl
theorem ahw{F:FT}{J:JT KQ}{x:((ak×Unit)×Unit)}:bF 67 KQ Tryz.f67 F J x =(F 95 KR ((x.1.1,()),())).bind fun(y1:Q2) =>cond (y1.1.1 != 0) (some (y1.1,())) ((F 96 AK ((x.1.1,()),())).bind fun(y2:Q0) =>cond (not y2.1.1) (some (((11:Int),()),())) (some (((0:Int),()),()))):=by kernel_rfl
theorem ahx{F:FT}{J:JT GL}{x:(((List Int)×(ag×Unit))×Unit)}:bF 68 GL Tryz.f68 F J x =(F 43 Dq ((x.1.1,(x.1.2.1.1,())),())).bind fun(y1:Xx) =>(F 97 KS ((y1.1.1,(x.1.2.1.2.1,())),())).bind fun(y2:Xx) =>(F 49 rF ((y2.1.1,(x.1.2.1.2.2,())),())).bind fun(y3:Xx) =>some (y3.1,()):=by kernel_rfl
theorem ahy{F:FT}{J:JT KR}{x:((ak×Unit)×Unit)}:bF 95 KR Tryz.f95 F J x = cond (decide ((lI x.1.1.1)>24)) (some (((3:Int),()),())) (cond (decide ((lI x.1.1.2)>40)) (some (((3:Int),()),())) ((F 136134 lD ((x.1.1.1,()),())).bind fun(y1:(((List ID)×Unit)×Unit)) =>(F 133 xn (y1.1,())).bind fun(y2:Q0) =>cond (not y2.1.1) (some (((10:Int),()),())) ((F 138136 lE ((x.1.1.2,()),())).bind fun(y3:(((List ID)×Unit)×Unit)) =>(F 133 xn (y3.1,())).bind fun(y4:Q0) =>cond (not y4.1.1) (some (((10:Int),()),())) ((F 138 lZ ((x.1.1,()),())).bind fun(y5:Q0) =>cond (not y5.1.1) (some (((10:Int),()),())) ((F 141139 sR ((x.1.1,()),())).bind fun(y6:Q0) =>cond y6.1.1 (some (((4:Int),()),())) ((F 143139 sS ((x.1.1,()),())).bind fun(y7:Q0) =>cond y7.1.1 (some (((1:Int),()),())) (some (((0:Int),()),())))))))):=by kernel_rfl
theorem ahz{F:FT}{J:JT rF}{x:(((List Int)×(Int×Unit))×Unit)}:bF 49 rF Tryz.f49 F J x = cond ((decide ((0:Int)≤(wI ((lI x.1.1)+8))))&&((decide ((wI ((lI x.1.1)+8))≤1073741824))&&(decide ((wI ((lI x.1.1)+8))=(wI ((lI x.1.1)+8)))))) (cond (not (List.isEmpty (List.replicate (Int.toNat (wI ((lI x.1.1)+8))) (0:Int)))) (J qT (aK Tryz.prog 49 0) ((x.1.1,(x.1.2.1,((0:Int),()))),((),((nN x.1.1 (List.replicate (Int.toNat (wI ((lI x.1.1)+8))) (0:Int))),())))) (none)) (none):=by kernel_rfl
theorem PY{F:FT}{J:JT rF}{x:(((List Int)×(Int×(Int×Unit)))×(Unit×((List Int)×Unit)))}:eC 49 0 rF Tryz.f49 qT F J x = cond (decide (x.1.2.2.1<8)) (cond (decide ((wI ((8:Int)*(wI ((7:Int)-x.1.2.2.1))))<0)) (none) (cond ((decide ((0:Int)≤(wI ((lI x.1.1)+x.1.2.2.1))))&&(decide ((wI ((lI x.1.1)+x.1.2.2.1))<(lI x.2.2.1)))) (((x.2.2.1)[(Int.toNat (wI ((lI x.1.1)+x.1.2.2.1)))]?).bind fun(y1:Int) =>J qT (aK Tryz.prog 49 0) ((x.1.1,(x.1.2.1,((wI (x.1.2.2.1+1)),()))),((),((List.set x.2.2.1 (Int.toNat (wI ((lI x.1.1)+x.1.2.2.1))) (IntKind.wrap .u8 (ir .u64 (IntKind.wrap .u64 x.1.2.1) (wI ((8:Int)*(wI ((7:Int)-x.1.2.2.1))))))),())))) (none))) (some (x.2.2,())):=by kernel_rfl
theorem ahA{F:FT}{J:JT KS}{x:(((List Int)×(ByteArray×Unit))×Unit)}:bF 97 KS Tryz.f97 F J x = cond (aL (List.length x.1.1) (List.length ((IntKind.wrap .u8 (((ByteArray.size x.1.2.1):Nat):Int))::([]:List Int)))) (cond ((not (List.isEmpty (x.1.1++((IntKind.wrap .u8 (((ByteArray.size x.1.2.1):Nat):Int))::([]:List Int)))))&&(aL (List.length (x.1.1++((IntKind.wrap .u8 (((ByteArray.size x.1.2.1):Nat):Int))::([]:List Int)))) (ByteArray.size x.1.2.1))) (some (((sd (x.1.1++((IntKind.wrap .u8 (((ByteArray.size x.1.2.1):Nat):Int))::([]:List Int))) x.1.2.1),()),())) (none)) (none):=by kernel_rfl
theorem ahB{F:FT}{J:JT xn}{x:(((List ID)×Unit)×Unit)}:bF 133 xn Tryz.f133 F J x = J uh (aK Tryz.prog 133 0) ((x.1.1,(x.1.1,((lI x.1.1),((0:Int),())))),((),())):=by kernel_rfl
theorem PZ{F:FT}{J:JT xn}{x:(((List ID)×((List ID)×(Int×(Int×Unit))))×(Unit×Unit))}:eC 133 0 xn Tryz.f133 uh F J x = cond (decide (x.1.2.2.2.1<x.1.2.2.1)) (((aS x.1.2.1 x.1.2.2.2.1)).bind fun(y1:ID) =>(F 100 qQ ((y1,()),())).bind fun(y2:Q0) =>cond (not y2.1.1) (some ((false,()),())) (cond (decide (x.1.2.2.2.1>0)) (((aS x.1.1 (wI (x.1.2.2.2.1-1)))).bind fun(y3:ID) =>(F 102 AL ((y3,(y1,())),())).bind fun(y4:Q2) =>cond (decide (y4.1.1≥0)) (some ((false,()),())) (J uh (aK Tryz.prog 133 0) ((x.1.1,(x.1.2.1,(x.1.2.2.1,((wI (x.1.2.2.2.1+1)),())))),((),())))) (J uh (aK Tryz.prog 133 0) ((x.1.1,(x.1.2.1,(x.1.2.2.1,((wI (x.1.2.2.2.1+1)),())))),((),()))))) (some ((true,()),())):=by kernel_rfl
theorem ahC{F:FT}{J:JT lZ}{x:((ak×Unit)×Unit)}:bF 138 lZ Tryz.f138 F J x = J xK (aK Tryz.prog 138 0) ((x.1.1.2,((lI x.1.1.2),((0:Int),()))),(((x.1.1,()),()),(([]:List (ab×Bool)),()))):=by kernel_rfl
theorem P0{F:FT}{J:JT lZ}{x:(((List ag)×(Int×(Int×Unit)))×(((ak×Unit)×Unit)×((List (ab×Bool))×Unit)))}:eC 138 0 lZ Tryz.f138 xK F J x = cond (decide (x.1.2.2.1<x.1.2.1)) (((aS x.1.1 x.1.2.2.1)).bind fun(y1:ag) =>J xK (aK Tryz.prog 138 0) ((x.1.1,(x.1.2.1,((wI (x.1.2.2.1+1)),()))),(((x.2.1.1.1,()),()),((jK (.pair (.pair (.int .i64) (.int .i64)) (.int .i64)) (y1.1,(1:Int)) true (jK (.pair (.pair (.int .i64) (.int .i64)) (.int .i64)) (y1.1,(0:Int)) true x.2.2.1)),())))) (J uj (aK Tryz.prog 138 1) ((x.2.1.1.1.1,((lI x.2.1.1.1.1),((0:Int),()))),((),x.2.2))):=by kernel_rfl
theorem P1{F:FT}{J:JT lZ}{x:(((List ai)×(Int×(Int×Unit)))×(Unit×((List (ab×Bool))×Unit)))}:eC 138 1 lZ Tryz.f138 uj F J x = cond (decide (x.1.2.2.1<x.1.2.1)) (((aS x.1.1 x.1.2.2.1)).bind fun(y2:ai) =>(F 167 rE ((y2.2.1,()),())).bind fun(y3:Q6) =>(F 178 AT ((y2.2.1,y3.1),())).bind fun(y4:Q0) =>cond (not y4.1.1) (some ((false,()),())) (J uk (aK Tryz.prog 138 2) ((x.1.1,(x.1.2.1,(x.1.2.2.1,(y2.2.1,((lI y2.2.1),((0:Int),())))))),((),x.2.2)))) (some ((((lI x.2.2.1)==0),()),())):=by kernel_rfl
theorem P2{F:FT}{J:JT lZ}{x:(((List ai)×(Int×(Int×((List ab)×(Int×(Int×Unit))))))×(Unit×((List (ab×Bool))×Unit)))}:eC 138 2 lZ Tryz.f138 uk F J x = cond (decide (x.1.2.2.2.2.2.1<x.1.2.2.2.2.1)) (((aS x.1.2.2.2.1 x.1.2.2.2.2.2.1)).bind fun(y5:ab) =>cond (not (Option.getD (fJ (.pair (.pair (.int .i64) (.int .i64)) (.int .i64)) y5 x.2.2.1) false)) (some ((false,()),())) (J uk (aK Tryz.prog 138 2) ((x.1.1,(x.1.2.1,(x.1.2.2.1,(x.1.2.2.2.1,(x.1.2.2.2.2.1,((wI (x.1.2.2.2.2.2.1+1)),())))))),((),((HF (.pair (.pair (.int .i64) (.int .i64)) (.int .i64)) y5 x.2.2.1),()))))) (J uj (aK Tryz.prog 138 1) ((x.1.1,(x.1.2.1,((wI (x.1.2.2.1+1)),()))),((),x.2.2))):=by kernel_rfl
theorem ahD{F:FT}{J:JT AT}{x:(((List ab)×((List ab)×Unit))×Unit)}:bF 178 AT Tryz.f178 F J x = cond ((lI x.1.1) != (lI x.1.2.1)) (some ((false,()),())) (J xL (aK Tryz.prog 178 0) ((x.1.1,(x.1.2.1,((lI x.1.1),((0:Int),())))),((),()))):=by kernel_rfl
theorem P3{F:FT}{J:JT AT}{x:(((List ab)×((List ab)×(Int×(Int×Unit))))×(Unit×Unit))}:eC 178 0 AT Tryz.f178 xL F J x = cond (decide (x.1.2.2.2.1<x.1.2.2.1)) (((aS x.1.1 x.1.2.2.2.1)).bind fun(y1:ab) =>((aS x.1.2.1 x.1.2.2.2.1)).bind fun(y2:ab) =>cond (not (((y1.1.1==y2.1.1)&&(y1.1.2==y2.1.2))&&(y1.2==y2.2))) (some ((false,()),())) (J xL (aK Tryz.prog 178 0) ((x.1.1,(x.1.2.1,(x.1.2.2.1,((wI (x.1.2.2.2.1+1)),())))),((),())))) (some ((true,()),())):=by kernel_rfl
theorem ahE{F:FT}{J:JT Dq}{x:(((List Int)×(ID×Unit))×Unit)}:bF 43 Dq Tryz.f43 F J x = cond ((aB (List.length x.1.1) (0:Int) (lI x.1.1))&&(decide ((lI x.1.1)=(lI x.1.1)))) (cond (decide ((16:Int)<0)) (none) (cond (decide ((8:Int)<0)) (none) (cond (aL (List.length (cut x.1.1 (0:Int) (lI x.1.1))) (List.length ((IntKind.wrap .u8 x.1.2.1.1)::((IntKind.wrap .u8 (ir .i64 x.1.2.1.2 (16:Int)))::((IntKind.wrap .u8 (ir .i64 x.1.2.1.2 (8:Int)))::((IntKind.wrap .u8 x.1.2.1.2)::([]:List Int))))))) (some ((((cut x.1.1 (0:Int) (lI x.1.1))++((IntKind.wrap .u8 x.1.2.1.1)::((IntKind.wrap .u8 (ir .i64 x.1.2.1.2 (16:Int)))::((IntKind.wrap .u8 (ir .i64 x.1.2.1.2 (8:Int)))::((IntKind.wrap .u8 x.1.2.1.2)::([]:List Int)))))),()),())) (none)))) (none):=by kernel_rfl
theorem ahF{F:FT}{J:JT GM}{x:((ByteArray×(Int×Unit))×Unit)}:bF 140 GM Tryz.f140 F J x =(F 141 xh ((x.1.1,()),())).bind fun(y1:Q0) =>some (((not y1.1.1),()),()):=by kernel_rfl
theorem ahG{F:FT}{J:JT GN}{x:((ByteArray×(Int×Unit))×Unit)}:bF 142 GN Tryz.f142 F J x =(F 143 Ip (x.1.2,())).bind fun(y1:Q0) =>some (((not y1.1.1),()),()):=by kernel_rfl
theorem WV{F:FT}{J:JT lD}{x:(((List ai)×Unit)×Unit)}:bF 136134 lD Tryz.f134 F J x = J nm (aK Tryz.prog 134 0) ((x.1.1,((lI x.1.1),((0:Int),()))),((),(([]:List ID),()))):=by kernel_rfl
theorem EO{F:FT}{J:JT lD}{x:(((List ai)×(Int×(Int×Unit)))×(Unit×((List ID)×Unit)))}:eC 136134 0 lD Tryz.f134 nm F J x = cond (decide (x.1.2.2.1<x.1.2.1)) (((aS x.1.1 x.1.2.2.1)).bind fun(y1:ai) =>(F 135 Dk ((y1,()),())).bind fun(y2:((ID×Unit)×Unit)) =>cond (aL (List.length x.2.2.1) (List.length (y2.1.1::([]:List ID)))) (J nm (aK Tryz.prog 134 0) ((x.1.1,(x.1.2.1,((wI (x.1.2.2.1+1)),()))),((),((x.2.2.1++(y2.1.1::([]:List ID))),())))) (none)) (some (x.2.2,())):=by kernel_rfl
theorem WW{F:FT}{J:JT lE}{x:(((List ag)×Unit)×Unit)}:bF 138136 lE Tryz.f136 F J x = J np (aK Tryz.prog 136 0) ((x.1.1,((lI x.1.1),((0:Int),()))),((),(([]:List ID),()))):=by kernel_rfl
theorem EP{F:FT}{J:JT lE}{x:(((List ag)×(Int×(Int×Unit)))×(Unit×((List ID)×Unit)))}:eC 138136 0 lE Tryz.f136 np F J x = cond (decide (x.1.2.2.1<x.1.2.1)) (((aS x.1.1 x.1.2.2.1)).bind fun(y1:ag) =>(F 137 KP ((y1,()),())).bind fun(y2:((ID×Unit)×Unit)) =>cond (aL (List.length x.2.2.1) (List.length (y2.1.1::([]:List ID)))) (J np (aK Tryz.prog 136 0) ((x.1.1,(x.1.2.1,((wI (x.1.2.2.1+1)),()))),((),((x.2.2.1++(y2.1.1::([]:List ID))),())))) (none)) (some (x.2.2,())):=by kernel_rfl
theorem WX{F:FT}{J:JT sR}{x:((ak×Unit)×Unit)}:bF 141139 sR Tryz.f139 F J x =(F 14100181179 iE ((x.1.1.1,()),(((),()),()))).bind fun(y1:Q44) =>cond y1.1.1 (some ((true,()),())) ((F 14100183181 iG ((x.1.1.2,()),(((),()),()))).bind fun(y2:Q44) =>some (y2.1,())):=by kernel_rfl
theorem WY{F:FT}{J:JT sS}{x:((ak×Unit)×Unit)}:bF 143139 sS Tryz.f139 F J x =(F 14300181179 iF ((x.1.1.1,()),(((),()),()))).bind fun(y1:Q44) =>cond y1.1.1 (some ((true,()),())) ((F 14300183181 iH ((x.1.1.2,()),(((),()),()))).bind fun(y2:Q44) =>some (y2.1,())):=by kernel_rfl
theorem Fz{F:FT}{J:JT iE}{x:(((List ai)×Unit)×((Unit×Unit)×Unit))}:bF 14100181179 iE Tryz.f179 F J x =(F 14100181203 dM (x.1,(((),()),()))).bind fun(y1:Q46) =>some (((decide (y1.1.1≥0)),()),(((),()),())):=by kernel_rfl
theorem FA{F:FT}{J:JT iF}{x:(((List ai)×Unit)×((Unit×Unit)×Unit))}:bF 14300181179 iF Tryz.f179 F J x =(F 14300181203 dN (x.1,(((),()),()))).bind fun(y1:Q46) =>some (((decide (y1.1.1≥0)),()),(((),()),())):=by kernel_rfl
theorem FB{F:FT}{J:JT dM}{x:(((List ai)×Unit)×((Unit×Unit)×Unit))}:bF 14100181203 dM Tryz.f203 F J x = J fX (aK Tryz.prog 203 0) ((x.1.1,((lI x.1.1),((0:Int),()))),((((),()),()),())):=by kernel_rfl
theorem rK{F:FT}{J:JT dM}{x:(((List ai)×(Int×(Int×Unit)))×(((Unit×Unit)×Unit)×Unit))}:eC 14100181203 0 dM Tryz.f203 fX F J x = cond (decide (x.1.2.2.1<x.1.2.1)) (((aS x.1.1 x.1.2.2.1)).bind fun(y1:ai) =>(F 14100000180 iI ((y1,()),(((),()),()))).bind fun(y2:Q44) =>cond y2.1.1 (some (x.1.2.2,(((),()),()))) (J fX (aK Tryz.prog 203 0) ((x.1.1,(x.1.2.1,((wI (x.1.2.2.1+1)),()))),((((),()),()),())))) (some (((-1:Int),()),(((),()),()))):=by kernel_rfl
theorem FC{F:FT}{J:JT dN}{x:(((List ai)×Unit)×((Unit×Unit)×Unit))}:bF 14300181203 dN Tryz.f203 F J x = J fY (aK Tryz.prog 203 0) ((x.1.1,((lI x.1.1),((0:Int),()))),((((),()),()),())):=by kernel_rfl
theorem rL{F:FT}{J:JT dN}{x:(((List ai)×(Int×(Int×Unit)))×(((Unit×Unit)×Unit)×Unit))}:eC 14300181203 0 dN Tryz.f203 fY F J x = cond (decide (x.1.2.2.1<x.1.2.1)) (((aS x.1.1 x.1.2.2.1)).bind fun(y1:ai) =>(F 14300000180 iJ ((y1,()),(((),()),()))).bind fun(y2:Q44) =>cond y2.1.1 (some (x.1.2.2,(((),()),()))) (J fY (aK Tryz.prog 203 0) ((x.1.1,(x.1.2.1,((wI (x.1.2.2.1+1)),()))),((((),()),()),())))) (some (((-1:Int),()),(((),()),()))):=by kernel_rfl
theorem FD{F:FT}{J:JT iG}{x:(((List ag)×Unit)×((Unit×Unit)×Unit))}:bF 14100183181 iG Tryz.f181 F J x =(F 14100183204 dO (x.1,(((),()),()))).bind fun(y1:Q46) =>some (((decide (y1.1.1≥0)),()),(((),()),())):=by kernel_rfl
theorem FE{F:FT}{J:JT iH}{x:(((List ag)×Unit)×((Unit×Unit)×Unit))}:bF 14300183181 iH Tryz.f181 F J x =(F 14300183204 dP (x.1,(((),()),()))).bind fun(y1:Q46) =>some (((decide (y1.1.1≥0)),()),(((),()),())):=by kernel_rfl
theorem FF{F:FT}{J:JT dO}{x:(((List ag)×Unit)×((Unit×Unit)×Unit))}:bF 14100183204 dO Tryz.f204 F J x = J fZ (aK Tryz.prog 204 0) ((x.1.1,((lI x.1.1),((0:Int),()))),((((),()),()),())):=by kernel_rfl
theorem rM{F:FT}{J:JT dO}{x:(((List ag)×(Int×(Int×Unit)))×(((Unit×Unit)×Unit)×Unit))}:eC 14100183204 0 dO Tryz.f204 fZ F J x = cond (decide (x.1.2.2.1<x.1.2.1)) (((aS x.1.1 x.1.2.2.1)).bind fun(y1:ag) =>(F 14100000182 iK ((y1,()),(((),()),()))).bind fun(y2:Q44) =>cond y2.1.1 (some (x.1.2.2,(((),()),()))) (J fZ (aK Tryz.prog 204 0) ((x.1.1,(x.1.2.1,((wI (x.1.2.2.1+1)),()))),((((),()),()),())))) (some (((-1:Int),()),(((),()),()))):=by kernel_rfl
theorem FG{F:FT}{J:JT dP}{x:(((List ag)×Unit)×((Unit×Unit)×Unit))}:bF 14300183204 dP Tryz.f204 F J x = J gh (aK Tryz.prog 204 0) ((x.1.1,((lI x.1.1),((0:Int),()))),((((),()),()),())):=by kernel_rfl
theorem rN{F:FT}{J:JT dP}{x:(((List ag)×(Int×(Int×Unit)))×(((Unit×Unit)×Unit)×Unit))}:eC 14300183204 0 dP Tryz.f204 gh F J x = cond (decide (x.1.2.2.1<x.1.2.1)) (((aS x.1.1 x.1.2.2.1)).bind fun(y1:ag) =>(F 14300000182 iL ((y1,()),(((),()),()))).bind fun(y2:Q44) =>cond y2.1.1 (some (x.1.2.2,(((),()),()))) (J gh (aK Tryz.prog 204 0) ((x.1.1,(x.1.2.1,((wI (x.1.2.2.1+1)),()))),((((),()),()),())))) (some (((-1:Int),()),(((),()),()))):=by kernel_rfl
theorem FH{F:FT}{J:JT iI}{x:((ai×Unit)×((Unit×Unit)×Unit))}:bF 14100000180 iI Tryz.f180 F J x =(F 140 GM ((x.1.1.2.2.1,(x.1.1.2.2.2,())),())).bind fun(y1:Q0) =>some (y1.1,(((),()),())):=by kernel_rfl
theorem FI{F:FT}{J:JT iJ}{x:((ai×Unit)×((Unit×Unit)×Unit))}:bF 14300000180 iJ Tryz.f180 F J x =(F 142 GN ((x.1.1.2.2.1,(x.1.1.2.2.2,())),())).bind fun(y1:Q0) =>some (y1.1,(((),()),())):=by kernel_rfl
theorem FJ{F:FT}{J:JT iK}{x:((ag×Unit)×((Unit×Unit)×Unit))}:bF 14100000182 iK Tryz.f182 F J x =(F 140 GM ((x.1.1.2.1,(x.1.1.2.2,())),())).bind fun(y1:Q0) =>some (y1.1,(((),()),())):=by kernel_rfl
theorem FK{F:FT}{J:JT iL}{x:((ag×Unit)×((Unit×Unit)×Unit))}:bF 14300000182 iL Tryz.f182 F J x =(F 142 GN ((x.1.1.2.1,(x.1.1.2.2,())),())).bind fun(y1:Q0) =>some (y1.1,(((),()),())):=by kernel_rfl
theorem ahH{F:FT}{J:JT xp}{x:(((List (List bq))×(Int×Unit))×Unit)}:bF 8 xp Tryz.f8 F J x =(F 20 KJ ((),())).bind fun(y1:Q0) =>cond (not y1.1.1) (some ((false,()),())) (J um (aK Tryz.prog 8 0) ((x.1.1,(x.1.2.1,((0:Int),()))),(((OS,((0:Int),(([]:List (List bq)),()))),()),(([]:List (List bq)),())))):=by kernel_rfl
theorem P4{F:FT}{J:JT xp}{x:(((List (List bq))×(Int×(Int×Unit)))×((dL×Unit)×((List (List bq))×Unit)))}:eC 8 0 xp Tryz.f8 um F J x = cond (decide (x.1.2.2.1<(lI x.1.1))) (cond (decide (x.1.2.2.1<60)) (((aS x.1.1 x.1.2.2.1)).bind fun(y2:Q8) =>(F 27 GK ((y2,()),())).bind fun(y3:Q3) =>(F 29 GJ (y3.1,(x.2.1.1,()))).bind fun(y4:Q28) =>cond (y4.1.2.1==0) (((aS x.1.1 x.1.2.2.1)).bind fun(y5:Q8) =>(F 27 GK ((y5,()),())).bind fun(y6:Q3) =>cond (aL (List.length x.2.2.1) (List.length (y6.1.1::([]:List (List bq))))) (J um (aK Tryz.prog 8 0) ((x.1.1,(x.1.2.1,((wI (x.1.2.2.1+1)),()))),((y4.2.1,()),((x.2.2.1++(y6.1.1::([]:List (List bq)))),())))) (none)) (J um (aK Tryz.prog 8 0) ((x.1.1,(x.1.2.1,((wI (x.1.2.2.1+1)),()))),((y4.2.1,()),x.2.2)))) ((F 30 vn ((),(x.2.1.1,()))).bind fun(y7:Q42) =>(F 10 xm ((OS,x.2.2),())).bind fun(y8:Q4) =>(F 14 uP ((y7.1.1,(y8.1.1,())),())).bind fun(y9:Q0) =>(F 31 Dp ((x.1.2.1,()),(y7.2.1,()))).bind fun(nK:Q9) =>cond (decide (x.1.2.1≥0)) ((F 30 vn ((),(nK.2.1,()))).bind fun(lF:Q42) =>(F 14 uP ((y7.1.1,(lF.1.1,())),())).bind fun(qi:Q0) =>cond (not y9.1.1) (some ((false,()),())) (cond (not ((decide (x.1.2.1≤(lI x.2.2.1)))==(nK.1.1==0))) (some ((false,()),())) (cond (not qi.1.1) (some ((false,()),())) ((F 32 gH ((),(lF.2.1,()))).bind fun(lR:Q9) =>cond (lR.1.1 != (lI x.2.2.1)) (some ((false,()),())) (cond (decide (x.1.2.1≤(lI x.2.2.1))) (cond (lR.2.1.2.1 != x.1.2.1) (some ((false,()),())) ((F 32 gH ((),(lR.2.1,()))).bind fun(GR:Q9) =>(F 22 ki ((GR.1.1,(y7.1.1,())),())).bind fun(vY:SF) =>(F 24 nc ((vY.1.1,()),())).bind fun(SH:Q48) =>(F 14 uP ((SH.1.2.1,(y7.1.1,())),())).bind fun(Xz:Q0) =>cond (vY.1.2.1==0) (cond (SH.1.2.2.1==0) ((F 32 gH ((),(GR.2.1,()))).bind fun(y18:Q9) =>cond (SH.1.1==y18.1.1) (some (Xz.1,())) (some ((false,()),()))) (some ((false,()),()))) (some ((false,()),())))) ((F 32 gH ((),(lR.2.1,()))).bind fun(UO:Q9) =>(F 22 ki ((UO.1.1,(y7.1.1,())),())).bind fun(GS:SF) =>(F 24 nc ((GS.1.1,()),())).bind fun(y21:Q48) =>(F 14 uP ((y21.1.2.1,(y7.1.1,())),())).bind fun(y22:Q0) =>cond (GS.1.2.1==0) (cond (y21.1.2.2.1==0) ((F 32 gH ((),(UO.2.1,()))).bind fun(y23:Q9) =>cond (y21.1.1==y23.1.1) (some (y22.1,())) (some ((false,()),()))) (some ((false,()),()))) (some ((false,()),())))))))) ((F 30 vn ((),(nK.2.1,()))).bind fun(y24:Q42) =>(F 14 uP ((y7.1.1,(y24.1.1,())),())).bind fun(y25:Q0) =>cond (not y9.1.1) (some ((false,()),())) (cond (not (false==(nK.1.1==0))) (some ((false,()),())) (cond (not y25.1.1) (some ((false,()),())) ((F 32 gH ((),(y24.2.1,()))).bind fun(y26:Q9) =>cond (y26.1.1 != (lI x.2.2.1)) (some ((false,()),())) ((F 32 gH ((),(y26.2.1,()))).bind fun(y27:Q9) =>(F 22 ki ((y27.1.1,(y7.1.1,())),())).bind fun(y28:SF) =>(F 24 nc ((y28.1.1,()),())).bind fun(y29:Q48) =>(F 14 uP ((y29.1.2.1,(y7.1.1,())),())).bind fun(y30:Q0) =>cond (y28.1.2.1==0) (cond (y29.1.2.2.1==0) ((F 32 gH ((),(y27.2.1,()))).bind fun(y31:Q9) =>cond (y29.1.1==y31.1.1) (some (y30.1,())) (some ((false,()),()))) (some ((false,()),()))) (some ((false,()),()))))))))) ((F 30 vn ((),(x.2.1.1,()))).bind fun(XK:Q42) =>(F 10 xm ((OS,x.2.2),())).bind fun(y33:Q4) =>(F 14 uP ((XK.1.1,(y33.1.1,())),())).bind fun(y34:Q0) =>(F 31 Dp ((x.1.2.1,()),(XK.2.1,()))).bind fun(y35:Q9) =>cond (decide (x.1.2.1≥0)) ((F 30 vn ((),(y35.2.1,()))).bind fun(y36:Q42) =>(F 14 uP ((XK.1.1,(y36.1.1,())),())).bind fun(y37:Q0) =>cond (not y34.1.1) (some ((false,()),())) (cond (not ((decide (x.1.2.1≤(lI x.2.2.1)))==(y35.1.1==0))) (some ((false,()),())) (cond (not y37.1.1) (some ((false,()),())) ((F 32 gH ((),(y36.2.1,()))).bind fun(y38:Q9) =>cond (y38.1.1 != (lI x.2.2.1)) (some ((false,()),())) (cond (decide (x.1.2.1≤(lI x.2.2.1))) (cond (y38.2.1.2.1 != x.1.2.1) (some ((false,()),())) ((F 32 gH ((),(y38.2.1,()))).bind fun(y39:Q9) =>(F 22 ki ((y39.1.1,(XK.1.1,())),())).bind fun(y40:SF) =>(F 24 nc ((y40.1.1,()),())).bind fun(y41:Q48) =>(F 14 uP ((y41.1.2.1,(XK.1.1,())),())).bind fun(y42:Q0) =>cond (y40.1.2.1==0) (cond (y41.1.2.2.1==0) ((F 32 gH ((),(y39.2.1,()))).bind fun(y43:Q9) =>cond (y41.1.1==y43.1.1) (some (y42.1,())) (some ((false,()),()))) (some ((false,()),()))) (some ((false,()),())))) ((F 32 gH ((),(y38.2.1,()))).bind fun(y44:Q9) =>(F 22 ki ((y44.1.1,(XK.1.1,())),())).bind fun(y45:SF) =>(F 24 nc ((y45.1.1,()),())).bind fun(y46:Q48) =>(F 14 uP ((y46.1.2.1,(XK.1.1,())),())).bind fun(y47:Q0) =>cond (y45.1.2.1==0) (cond (y46.1.2.2.1==0) ((F 32 gH ((),(y44.2.1,()))).bind fun(y48:Q9) =>cond (y46.1.1==y48.1.1) (some (y47.1,())) (some ((false,()),()))) (some ((false,()),()))) (some ((false,()),())))))))) ((F 30 vn ((),(y35.2.1,()))).bind fun(y49:Q42) =>(F 14 uP ((XK.1.1,(y49.1.1,())),())).bind fun(y50:Q0) =>cond (not y34.1.1) (some ((false,()),())) (cond (not (false==(y35.1.1==0))) (some ((false,()),())) (cond (not y50.1.1) (some ((false,()),())) ((F 32 gH ((),(y49.2.1,()))).bind fun(y51:Q9) =>cond (y51.1.1 != (lI x.2.2.1)) (some ((false,()),())) ((F 32 gH ((),(y51.2.1,()))).bind fun(y52:Q9) =>(F 22 ki ((y52.1.1,(XK.1.1,())),())).bind fun(y53:SF) =>(F 24 nc ((y53.1.1,()),())).bind fun(y54:Q48) =>(F 14 uP ((y54.1.2.1,(XK.1.1,())),())).bind fun(y55:Q0) =>cond (y53.1.2.1==0) (cond (y54.1.2.2.1==0) ((F 32 gH ((),(y52.2.1,()))).bind fun(y56:Q9) =>cond (y54.1.1==y56.1.1) (some (y55.1,())) (some ((false,()),()))) (some ((false,()),()))) (some ((false,()),())))))))):=by kernel_rfl
theorem ahI{F:FT}{J:JT ki}{x:((Int×(StateT×Unit))×Unit)}:bF 22 ki Tryz.f22 F J x = cond (decide (x.1.1<0)) (some ((([]:List Int),((1:Int),())),())) (cond (decide (x.1.1>1073741824)) (some ((([]:List Int),((1:Int),())),())) ((F 48 xq ((x.1.2.1.2,()),())).bind fun(y1:Q0) =>cond (not y1.1.1) (some ((([]:List Int),((1:Int),())),())) ((F 42 kh ((x.1.2.1.1,()),())).bind fun(y2:SF) =>cond (y2.1.2.1 != 0) (some ((([]:List Int),y2.1.2),())) ((F 49 rF ((([]:List Int),(x.1.1,())),())).bind fun(y3:Xx) =>(F 49 rF ((y3.1.1,((lI y2.1.1),())),())).bind fun(y4:Xx) =>cond (aL (List.length y4.1.1) (List.length y2.1.1)) (J od (aK Tryz.prog 22 0) ((x.1.2.1.2,((lI x.1.2.1.2),((0:Int),()))),((),((y4.1.1++y2.1.1),())))) (none))))):=by kernel_rfl
theorem P5{F:FT}{J:JT ki}{x:(((List ax)×(Int×(Int×Unit)))×(Unit×((List Int)×Unit)))}:eC 22 0 ki Tryz.f22 od F J x = cond (decide (x.1.2.2.1<x.1.2.1)) (((aS x.1.1 x.1.2.2.1)).bind fun(y5:ax) =>(F 43 Dq ((x.2.2.1,(y5.1.1,())),())).bind fun(y6:Xx) =>cond (aL (List.length y6.1.1) (List.length ((IntKind.wrap .u8 y5.1.2)::([]:List Int)))) (cond (((y5.2.1.1==0)&&(y5.2.1.2==0))&&(y5.2.2==0)) (cond (aL (List.length (y6.1.1++((IntKind.wrap .u8 y5.1.2)::([]:List Int)))) (List.length ((0:Int)::([]:List Int)))) (J od (aK Tryz.prog 22 0) ((x.1.1,(x.1.2.1,((wI (x.1.2.2.1+1)),()))),((),(((y6.1.1++((IntKind.wrap .u8 y5.1.2)::([]:List Int)))++((0:Int)::([]:List Int))),())))) (none)) (cond (aL (List.length (y6.1.1++((IntKind.wrap .u8 y5.1.2)::([]:List Int)))) (List.length ((IntKind.wrap .u8 (wI (y5.2.2+1)))::([]:List Int)))) ((F 43 Dq ((((y6.1.1++((IntKind.wrap .u8 y5.1.2)::([]:List Int)))++((IntKind.wrap .u8 (wI (y5.2.2+1)))::([]:List Int))),(y5.2.1,())),())).bind fun(y7:Xx) =>J od (aK Tryz.prog 22 0) ((x.1.1,(x.1.2.1,((wI (x.1.2.2.1+1)),()))),((),y7.1))) (none))) (none)) (some ((x.2.2.1,((0:Int),())),())):=by kernel_rfl
theorem ahJ{F:FT}{J:JT nc}{x:(((List Int)×Unit)×Unit)}:bF 24 nc Tryz.f24 F J x =(F 53 pM (x.1,())).bind fun(y1:Q49) =>(F 53 pM ((y1.1.2.1,()),())).bind fun(y2:Q49) =>cond (not y2.1.2.2.1) (some (((0:Int),(OS,((2:Int),()))),())) (cond (decide (y2.1.1<0)) (some (((0:Int),(OS,((2:Int),()))),())) (cond (decide (y2.1.1>(lI y2.1.2.1))) (some (((0:Int),(OS,((2:Int),()))),())) (cond (aB (List.length y2.1.2.1) (0:Int) y2.1.1) ((F 54 jC (((cut y2.1.2.1 (0:Int) y2.1.1),()),())).bind fun(y3:((ak×(Int×Unit))×Unit)) =>cond (aB (List.length y2.1.2.1) y2.1.1 (lI y2.1.2.1)) (J og (aK Tryz.prog 24 0) ((x.1.1,(y1.1.1,((cut y2.1.2.1 y2.1.1 (lI y2.1.2.1)),y3.1.2))),((OW,((y3.1.1.1,(y3.1.1.2,(([]:List ax),()))),())),()))) (none)) (none)))):=by kernel_rfl
theorem P6{F:FT}{J:JT nc}{x:(((List Int)×(Int×((List Int)×(Int×Unit))))×((aW×(aW×Unit))×Unit))}:eC 24 0 nc Tryz.f24 og F J x = cond (x.1.2.2.2.1==0) (cond (decide ((lI x.1.2.2.1)>0)) (cond (decide ((lI x.2.1.2.1.2.2.1)≤400)) ((F 55 KT ((x.1.2.2.1,()),())).bind fun(y4:((ax×((List Int)×(Bool×Unit)))×Unit)) =>cond (not y4.1.2.2.1) (cond (aL (List.length x.2.1.2.1.2.2.1) (List.length (y4.1.1::([]:List ax)))) (J og (aK Tryz.prog 24 0) ((x.1.1,(x.1.2.1,(y4.1.2.1,((2:Int),())))),((x.2.1.1,((x.2.1.2.1.1,(x.2.1.2.1.2.1,((x.2.1.2.1.2.2.1++(y4.1.1::([]:List ax))),()))),())),()))) (none)) (cond (aL (List.length x.2.1.2.1.2.2.1) (List.length (y4.1.1::([]:List ax)))) (J og (aK Tryz.prog 24 0) ((x.1.1,(x.1.2.1,(y4.1.2.1,x.1.2.2.2))),((x.2.1.1,((x.2.1.2.1.1,(x.2.1.2.1.2.1,((x.2.1.2.1.2.2.1++(y4.1.1::([]:List ax))),()))),())),()))) (none))) (cond (x.1.2.2.2.1 != 0) (some (((0:Int),(OS,((2:Int),()))),())) ((F 22 ki ((x.1.2.1,(((x.2.1.2.1.1,x.2.1.2.1.2.1),x.2.1.2.1.2.2.1),())),())).bind fun(y5:SF) =>cond (y5.1.2.1 != 0) (some (((0:Int),(OS,((2:Int),()))),())) ((F 46 AS ((y5.1.1,(x.1.1,())),())).bind fun(y6:Q0) =>cond (not y6.1.1) (some (((0:Int),(OS,((2:Int),()))),())) (some ((x.1.2.1,(((x.2.1.2.1.1,x.2.1.2.1.2.1),x.2.1.2.1.2.2.1),((0:Int),()))),())))))) (cond (x.1.2.2.2.1 != 0) (some (((0:Int),(OS,((2:Int),()))),())) ((F 22 ki ((x.1.2.1,(((x.2.1.2.1.1,x.2.1.2.1.2.1),x.2.1.2.1.2.2.1),())),())).bind fun(y7:SF) =>cond (y7.1.2.1 != 0) (some (((0:Int),(OS,((2:Int),()))),())) ((F 46 AS ((y7.1.1,(x.1.1,())),())).bind fun(y8:Q0) =>cond (not y8.1.1) (some (((0:Int),(OS,((2:Int),()))),())) (some ((x.1.2.1,(((x.2.1.2.1.1,x.2.1.2.1.2.1),x.2.1.2.1.2.2.1),((0:Int),()))),())))))) (cond (x.1.2.2.2.1 != 0) (some (((0:Int),(OS,((2:Int),()))),())) ((F 22 ki ((x.1.2.1,(((x.2.1.2.1.1,x.2.1.2.1.2.1),x.2.1.2.1.2.2.1),())),())).bind fun(y9:SF) =>cond (y9.1.2.1 != 0) (some (((0:Int),(OS,((2:Int),()))),())) ((F 46 AS ((y9.1.1,(x.1.1,())),())).bind fun(nK:Q0) =>cond (not nK.1.1) (some (((0:Int),(OS,((2:Int),()))),())) (some ((x.1.2.1,(((x.2.1.2.1.1,x.2.1.2.1.2.1),x.2.1.2.1.2.2.1),((0:Int),()))),()))))):=by kernel_rfl
theorem ahK{F:FT}{J:JT xq}{x:(((List ax)×Unit)×Unit)}:bF 48 xq Tryz.f48 F J x = J mf (aK Tryz.prog 48 0) ((x.1.1,(x.1.1,((lI x.1.1),((0:Int),())))),((),())):=by kernel_rfl
theorem P7{F:FT}{J:JT xq}{x:(((List ax)×((List ax)×(Int×(Int×Unit))))×(Unit×Unit))}:eC 48 0 xq Tryz.f48 mf F J x = cond (decide (x.1.2.2.2.1<x.1.2.2.1)) (((aS x.1.2.1 x.1.2.2.2.1)).bind fun(y1:ax) =>(F 72 Dd ((y1.1,()),())).bind fun(y2:Q0) =>cond (not y2.1.1) (some ((false,()),())) (cond (not (((y1.2.1.1==0)&&(y1.2.1.2==0))&&(y1.2.2==0))) ((F 72 Dd ((y1.2,()),())).bind fun(y3:Q0) =>cond (not y3.1.1) (some ((false,()),())) (cond (decide (x.1.2.2.2.1>0)) (((aS x.1.1 (wI (x.1.2.2.2.1-1)))).bind fun(y4:ax) =>(F 73 AO ((y4.1,(y1.1,())),())).bind fun(y5:Q2) =>cond (decide (y5.1.1≥0)) (some ((false,()),())) (J mf (aK Tryz.prog 48 0) ((x.1.1,(x.1.2.1,(x.1.2.2.1,((wI (x.1.2.2.2.1+1)),())))),((),())))) (J mf (aK Tryz.prog 48 0) ((x.1.1,(x.1.2.1,(x.1.2.2.1,((wI (x.1.2.2.2.1+1)),())))),((),()))))) (cond (decide (x.1.2.2.2.1>0)) (((aS x.1.1 (wI (x.1.2.2.2.1-1)))).bind fun(y6:ax) =>(F 73 AO ((y6.1,(y1.1,())),())).bind fun(y7:Q2) =>cond (decide (y7.1.1≥0)) (some ((false,()),())) (J mf (aK Tryz.prog 48 0) ((x.1.1,(x.1.2.1,(x.1.2.2.1,((wI (x.1.2.2.2.1+1)),())))),((),())))) (J mf (aK Tryz.prog 48 0) ((x.1.1,(x.1.2.1,(x.1.2.2.1,((wI (x.1.2.2.2.1+1)),())))),((),())))))) (some (((decide ((lI x.1.1)≤400)),()),())):=by kernel_rfl
theorem ahL{F:FT}{J:JT pM}{x:(((List Int)×Unit)×Unit)}:bF 53 pM Tryz.f53 F J x = cond (decide ((lI x.1.1)<8)) (some (((0:Int),(x.1.1,(false,()))),())) (cond (aB (List.length x.1.1) (0:Int) (8:Int)) (J oi (aK Tryz.prog 53 0) ((x.1.1,((0:Int),((cut x.1.1 (0:Int) (8:Int)),((lI (cut x.1.1 (0:Int) (8:Int))),((0:Int),()))))),((),()))) (none)):=by kernel_rfl
theorem P8{F:FT}{J:JT pM}{x:(((List Int)×(Int×((List Int)×(Int×(Int×Unit)))))×(Unit×Unit))}:eC 53 0 pM Tryz.f53 oi F J x = cond (decide (x.1.2.2.2.2.1<x.1.2.2.2.1)) (((aS x.1.2.2.1 x.1.2.2.2.2.1)).bind fun(y1:Int) =>cond (decide ((8:Int)<0)) (none) (J oi (aK Tryz.prog 53 0) ((x.1.1,((dr .or .u64 (Bc .u64 x.1.2.1 (8:Int)) (IntKind.wrap .u64 y1)),(x.1.2.2.1,(x.1.2.2.2.1,((wI (x.1.2.2.2.2.1+1)),()))))),((),())))) (cond (aB (List.length x.1.1) (8:Int) (lI x.1.1)) (some (((wI x.1.2.1),((cut x.1.1 (8:Int) (lI x.1.1)),(true,()))),())) (none)):=by kernel_rfl
theorem ahM{F:FT}{J:JT jC}{x:(((List Int)×Unit)×Unit)}:bF 54 jC Tryz.f54 F J x =(F 76 AU ((),((x.1.1,(false,())),()))).bind fun(y1:Q50) =>J qU (aK Tryz.prog 54 0) ((x.1.1,y1.1),(((([]:List ai),(([]:List ag),())),(y1.2.1,((([]:List ai),(([]:List ag),())),()))),())):=by kernel_rfl
theorem P9{F:FT}{J:JT jC}{x:(((List Int)×(Int×Unit))×((((List ai)×((List ag)×Unit))×(((List Int)×(Bool×Unit))×(((List ai)×((List ag)×Unit))×Unit)))×Unit))}:eC 54 0 jC Tryz.f54 qU F J x = cond (decide (x.1.2.1>0)) (cond (not x.2.1.2.1.2.1) ((F 77 GO ((),(x.2.1.2.1,()))).bind fun(y2:((ag×Unit)×(((List Int)×(Bool×Unit))×Unit))) =>cond (aL (List.length x.2.1.2.2.1.2.1) (List.length (y2.1.1::([]:List ag)))) (J qU (aK Tryz.prog 54 0) ((x.1.1,((wI (x.1.2.1-1)),())),((x.2.1.1,(y2.2.1,((x.2.1.2.2.1.1,((x.2.1.2.2.1.2.1++(y2.1.1::([]:List ag))),())),()))),()))) (none)) ((F 76 AU ((),(x.2.1.2.1,()))).bind fun(y3:Q50) =>J oo (aK Tryz.prog 54 1) ((x.1.1,y3.1),((x.2.1.1,(y3.2.1,(x.2.1.2.2.1,()))),())))) ((F 76 AU ((),(x.2.1.2.1,()))).bind fun(y4:Q50) =>J oo (aK Tryz.prog 54 1) ((x.1.1,y4.1),((x.2.1.1,(y4.2.1,(x.2.1.2.2.1,()))),()))):=by kernel_rfl
theorem Qa{F:FT}{J:JT jC}{x:(((List Int)×(Int×Unit))×((((List ai)×((List ag)×Unit))×(((List Int)×(Bool×Unit))×(((List ai)×((List ag)×Unit))×Unit)))×Unit))}:eC 54 1 jC Tryz.f54 oo F J x = cond (decide (x.1.2.1>0)) (cond (not x.2.1.2.1.2.1) ((F 77 GO ((),(x.2.1.2.1,()))).bind fun(y5:((ag×Unit)×(((List Int)×(Bool×Unit))×Unit))) =>(F 78 GQ ((y5.2.1.1,()),())).bind fun(y6:(((List Int)×((List Int)×(Bool×Unit)))×Unit)) =>cond y5.2.1.2.1 (J qV (aK Tryz.prog 54 2) ((x.1.1,(x.1.2.1,(x.2.1.2.1.2.1,((not x.2.1.2.1.2.1),(y6.1.1,((lI y6.1.1),((0:Int),()))))))),((x.2.1.1,((y6.1.2.1,(true,())),(x.2.1.2.2.1,((y5.1.1.1.1,(y5.1.1.1.2,(([]:List ab),(y5.1.1.2.1,(y5.1.1.2.2,()))))),())))),()))) (J qV (aK Tryz.prog 54 2) ((x.1.1,(x.1.2.1,(x.2.1.2.1.2.1,((not x.2.1.2.1.2.1),(y6.1.1,((lI y6.1.1),((0:Int),()))))))),((x.2.1.1,((y6.1.2.1,((not y6.1.2.2.1),())),(x.2.1.2.2.1,((y5.1.1.1.1,(y5.1.1.1.2,(([]:List ab),(y5.1.1.2.1,(y5.1.1.2.2,()))))),())))),())))) ((F 42 kh (((x.2.1.2.2.1.1,x.2.1.2.2.1.2.1),()),())).bind fun(y7:SF) =>cond x.2.1.2.1.2.1 (some (((([]:List ai),([]:List ag)),((2:Int),())),())) (cond (y7.1.2.1 != 0) (some (((([]:List ai),([]:List ag)),((2:Int),())),())) ((F 46 AS ((y7.1.1,(x.1.1,())),())).bind fun(y8:Q0) =>cond (not y8.1.1) (some (((([]:List ai),([]:List ag)),((2:Int),())),())) (some (((x.2.1.2.2.1.1,x.2.1.2.2.1.2.1),((0:Int),())),())))))) ((F 42 kh (((x.2.1.2.2.1.1,x.2.1.2.2.1.2.1),()),())).bind fun(y9:SF) =>cond x.2.1.2.1.2.1 (some (((([]:List ai),([]:List ag)),((2:Int),())),())) (cond (y9.1.2.1 != 0) (some (((([]:List ai),([]:List ag)),((2:Int),())),())) ((F 46 AS ((y9.1.1,(x.1.1,())),())).bind fun(nK:Q0) =>cond (not nK.1.1) (some (((([]:List ai),([]:List ag)),((2:Int),())),())) (some (((x.2.1.2.2.1.1,x.2.1.2.2.1.2.1),((0:Int),())),()))))):=by kernel_rfl
theorem Qb{F:FT}{J:JT jC}{x:(((List Int)×(Int×(Bool×(Bool×((List Int)×(Int×(Int×Unit)))))))×((((List ai)×((List ag)×Unit))×(((List Int)×(Bool×Unit))×(((List ai)×((List ag)×Unit))×((Int×(Int×((List ab)×(ByteArray×(Int×Unit)))))×Unit))))×Unit))}:eC 54 2 jC Tryz.f54 qV F J x = cond (decide (x.1.2.2.2.2.2.2.1<x.1.2.2.2.2.2.1)) (((aS x.1.2.2.2.2.1 x.1.2.2.2.2.2.2.1)).bind fun(lF:Int) =>cond ((128:Int)==0) (none) (cond (decide ((Int.tmod (wI lF) (128:Int))≥(lI x.2.1.2.2.1.2.1))) (some (((([]:List ai),([]:List ag)),((2:Int),())),())) (cond ((decide ((0:Int)≤(Int.tmod (wI lF) (128:Int))))&&(decide ((Int.tmod (wI lF) (128:Int))<(lI x.2.1.2.2.1.2.1)))) (((x.2.1.2.2.1.2.1)[(Int.toNat (Int.tmod (wI lF) (128:Int)))]?).bind fun(qi:ag) =>cond ((128:Int)==0) (none) (cond (aL (List.length x.2.1.2.2.2.1.2.2.1) (List.length ((qi.1,(wI (Int.tdiv (wI lF) (128:Int))))::([]:List ab)))) (J qV (aK Tryz.prog 54 2) ((x.1.1,(x.1.2.1,(x.1.2.2.1,(x.1.2.2.2.1,(x.1.2.2.2.2.1,(x.1.2.2.2.2.2.1,((wI (x.1.2.2.2.2.2.2.1+1)),()))))))),((x.2.1.1,(x.2.1.2.1,(x.2.1.2.2.1,((x.2.1.2.2.2.1.1,(x.2.1.2.2.2.1.2.1,((x.2.1.2.2.2.1.2.2.1++((qi.1,(wI (Int.tdiv (wI lF) (128:Int))))::([]:List ab))),x.2.1.2.2.2.1.2.2.2))),())))),()))) (none))) (none)))) (cond (aL (List.length x.2.1.2.2.1.1) (List.length (((x.2.1.2.2.2.1.1,x.2.1.2.2.2.1.2.1),(x.2.1.2.2.2.1.2.2.1,(x.2.1.2.2.2.1.2.2.2.1,x.2.1.2.2.2.1.2.2.2.2.1)))::([]:List ai)))) (J oo (aK Tryz.prog 54 1) ((x.1.1,((wI (x.1.2.1-1)),())),((x.2.1.1,(x.2.1.2.1,(((x.2.1.2.2.1.1++(((x.2.1.2.2.2.1.1,x.2.1.2.2.2.1.2.1),(x.2.1.2.2.2.1.2.2.1,(x.2.1.2.2.2.1.2.2.2.1,x.2.1.2.2.2.1.2.2.2.2.1)))::([]:List ai))),x.2.1.2.2.1.2),()))),()))) (none)):=by kernel_rfl
theorem aaT{F:FT}{J:JT KT}{x:(((List Int)×Unit)×Unit)}:bF 55 KT Tryz.f55 F J x =(F 79 ng (x.1,())).bind fun(y1:Q51) =>cond (not y1.1.2.2.1) (some ((((y1.1.1,(0:Int)),OD),(([]:List Int),(false,()))),())) (cond (decide ((lI y1.1.2.1)<2)) (some ((((y1.1.1,(0:Int)),OD),(([]:List Int),(false,()))),())) (((aS y1.1.2.1 (1:Int))).bind fun(y2:Int) =>cond (decide (y2>2)) (some ((((y1.1.1,(0:Int)),OD),(([]:List Int),(false,()))),())) (((aS y1.1.2.1 (0:Int))).bind fun(y3:Int) =>((aS y1.1.2.1 (1:Int))).bind fun(y4:Int) =>cond (aB (List.length y1.1.2.1) (2:Int) (lI y1.1.2.1)) (cond (decide ((wI y4)>0)) ((F 79 ng (((cut y1.1.2.1 (2:Int) (lI y1.1.2.1)),()),())).bind fun(y5:Q51) =>some ((((y1.1.1,(wI y3)),(y5.1.1,(wI ((wI y4)-1)))),y5.1.2),())) (some ((((y1.1.1,(wI y3)),OD),((cut y1.1.2.1 (2:Int) (lI y1.1.2.1)),y1.1.2.2)),()))) (none)))):=by kernel_rfl
theorem ahN{F:FT}{J:JT AU}{x:(Unit×(((List Int)×(Bool×Unit))×Unit))}:bF 76 AU Tryz.f76 F J x = cond ((lI x.2.1.1)==0) (some (((0:Int),()),((x.2.1.1,(true,())),()))) (((aS x.2.1.1 (0:Int))).bind fun(y1:Int) =>cond (aB (List.length x.2.1.1) (1:Int) (lI x.2.1.1)) (some (((wI y1),()),(((cut x.2.1.1 (1:Int) (lI x.2.1.1)),x.2.1.2),()))) (none)):=by kernel_rfl
theorem ahO{F:FT}{J:JT GO}{x:(Unit×(((List Int)×(Bool×Unit))×Unit))}:bF 77 GO Tryz.f77 F J x =(F 79 ng ((x.2.1.1,()),())).bind fun(y1:Q51) =>(F 106 KU ((y1.1.2.1,()),())).bind fun(y2:((ByteArray×((List Int)×(Bool×Unit)))×Unit)) =>(F 53 pM ((y2.1.2.1,()),())).bind fun(y3:Q49) =>cond x.2.1.2.1 (some (((y1.1.1,(y2.1.1,y3.1.1)),()),((y3.1.2.1,(true,())),()))) (cond (not y1.1.2.2.1) (some (((y1.1.1,(y2.1.1,y3.1.1)),()),((y3.1.2.1,(true,())),()))) (cond (not y2.1.2.2.1) (some (((y1.1.1,(y2.1.1,y3.1.1)),()),((y3.1.2.1,(true,())),()))) (some (((y1.1.1,(y2.1.1,y3.1.1)),()),((y3.1.2.1,((not y3.1.2.2.1),())),()))))):=by kernel_rfl
theorem ahP{F:FT}{J:JT GQ}{x:(((List Int)×Unit)×Unit)}:bF 78 GQ Tryz.f78 F J x = cond ((lI x.1.1)==0) (some ((([]:List Int),(x.1.1,(false,()))),())) (((aS x.1.1 (0:Int))).bind fun(y1:Int) =>cond (decide ((wI ((lI x.1.1)-1))<(wI y1))) (some ((([]:List Int),(x.1.1,(false,()))),())) (((aS x.1.1 (0:Int))).bind fun(y2:Int) =>cond (aB (List.length x.1.1) (1:Int) (wI ((1:Int)+(wI y2)))) (cond (aB (List.length x.1.1) (wI ((1:Int)+(wI y2))) (lI x.1.1)) (some (((cut x.1.1 (1:Int) (wI ((1:Int)+(wI y2)))),((cut x.1.1 (wI ((1:Int)+(wI y2))) (lI x.1.1)),(true,()))),())) (none)) (none))):=by kernel_rfl
theorem ahQ{F:FT}{J:JT ng}{x:(((List Int)×Unit)×Unit)}:bF 79 ng Tryz.f79 F J x = cond (decide ((lI x.1.1)<4)) (some ((OI,(x.1.1,(false,()))),())) (((aS x.1.1 (0:Int))).bind fun(y1:Int) =>cond (aB (List.length x.1.1) (1:Int) (4:Int)) (J oq (aK Tryz.prog 79 0) ((x.1.1,((cut x.1.1 (1:Int) (4:Int)),((lI (cut x.1.1 (1:Int) (4:Int))),((0:Int),())))),(((OI,()),((((wI y1),(0:Int)),()),())),()))) (none)):=by kernel_rfl
theorem Qc{F:FT}{J:JT ng}{x:(((List Int)×((List Int)×(Int×(Int×Unit))))×(((ID×Unit)×((ID×Unit)×Unit))×Unit))}:eC 79 0 ng Tryz.f79 oq F J x = cond (decide (x.1.2.2.2.1<x.1.2.2.1)) (((aS x.1.2.1 x.1.2.2.2.1)).bind fun(y2:Int) =>cond (decide ((8:Int)<0)) (none) (J oq (aK Tryz.prog 79 0) ((x.1.1,(x.1.2.1,(x.1.2.2.1,((wI (x.1.2.2.2.1+1)),())))),(((x.2.1.1.1,()),(((x.2.1.2.1.1.1,(dr .or .i64 (Bc .i64 x.2.1.2.1.1.2 (8:Int)) (wI y2))),()),())),())))) ((F 100 qQ ((x.2.1.2.1.1,()),())).bind fun(y3:Q0) =>cond (not y3.1.1) (some ((OI,(x.1.1,(false,()))),())) (cond (aB (List.length x.1.1) (4:Int) (lI x.1.1)) (some ((x.2.1.2.1.1,((cut x.1.1 (4:Int) (lI x.1.1)),(true,()))),())) (none))):=by kernel_rfl
theorem ahR{F:FT}{J:JT KU}{x:(((List Int)×Unit)×Unit)}:bF 106 KU Tryz.f106 F J x =(F 78 GQ (x.1,())).bind fun(y1:(((List Int)×((List Int)×(Bool×Unit)))×Unit)) =>some (((strOf y1.1.1),y1.1.2),()):=by kernel_rfl
end Go.Vs
