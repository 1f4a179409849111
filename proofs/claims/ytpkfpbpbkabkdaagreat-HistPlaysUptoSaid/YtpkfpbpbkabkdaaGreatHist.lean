/- Rows of edits -/
import Derived.Test.YtpkfpbpbkabkdaaGreatPartsB
import Derived.Test.YtpkfpbpbkabkdaaGreatForm
import Derived.Test.YtpkfpbpbkabkdaaGreatNormalD
set_option linter.unusedVariables false
set_option linter.unusedSimpArgs false
namespace Go.Vs
open Go.Proofs
variable {G:(f:FuncId)→(g:aL)→Option (g.A→Option g.B)}
theorem KH{n:Int}(h:Lr (.int .i64) n):Nl n:=by
 have h1:IntKind.min .i64 = -9223372036854775808:=by decide
 have h2:IntKind.max .i64=9223372036854775807:=by decide
 have h:IntKind.min .i64≤n∧n≤IntKind.max .i64:=h;rw[h1,h2]at h;unfold Nl;omega
theorem X8{o:aY}(h:Lr qx o)(ht:tB o):Fit o:=by obtain⟨_,_,_,_,⟨_,_,h1⟩,⟨_,_,h2⟩,_,_,h3⟩:=h;exact⟨KH h1,KH h2,KH h3,ht⟩
theorem Wf.bd{d:aj}(h:Wf d):Bd 100 d:=⟨by have:=h.nv;omega,by have:=h.ne;omega,fun v hv=>by have:=h.tG v hv;omega⟩
end Go.Vs
namespace Go.Vs
def o8:List (List aY)→StateT→StateT
 |[],s=>s
 |e::r,s=>o8 r (je s e)
def Ci:List (List aY)→StateT→List Bool
 |[],_=>[]
 |e::r,s=>decide ((cP s e).2.1=0)::Ci r (je s e)
theorem UI(s:StateT):je s []=s:=by unfold je cP cg;simp
theorem fb.all:∀(l:List (List aY)) {s:StateT},fb s→fb (o8 l s)
 |[],_,h=>h
 |e::r,_,h=>fb.all r (h.try e)
theorem Bs.all:∀{l:List (List aY)} {n:Nat} {s:StateT},(∀e∈l,e.length≤8)→Bs n s→Bs (n+24*l.length) (o8 l s)
 |[],_,_,_,h=>h
 |e::r,n,s,hl,h=>by have h1:Bs (n+24) (je s e):=h.try.mono (by have:=hl e (by simp);omega);exact(Bs.all (fun e he=>hl e (by simp[he])) h1).mono (by simp;omega)
theorem IC{l:List ag}{x:ID}:(aR l x).isSome=true↔∃v∈l,v.1=x:=by unfold aR;rw[List.find?_isSome];simp
theorem IE{l:List ah}{x:ID}:(aV l x).isSome=true↔∃v∈l,v.1=x:=by unfold aV;rw[List.find?_isSome];simp
structure Gr(s t:StateT):Prop where
 v:∀x,(aR s.1.1 x).isSome=true→(aR t.1.1 x).isSome=true
 e:∀x,(aV s.1.2 x).isSome=true→(aV t.1.2 x).isSome=true
 nv:s.1.1.length≤t.1.1.length
 ne:s.1.2.length≤t.1.2.length
theorem Gr.rfl(s:StateT):Gr s s:=⟨fun _ h=>h,fun _ h=>h,adg _,adg _⟩
theorem Gr.trans{a b c:StateT}(h:Gr a b)(k:Gr b c):Gr a c:=⟨fun x p=>k.v x (h.v x p),fun x p=>k.e x (h.e x p),adk h.nv k.nv,adk h.ne k.ne⟩
def named(s:StateT)(o:aY):Prop:=if o.1=1 then(aR s.1.1 (aW o)).isSome=true else(aV s.1.2 (aW o)).isSome=true
theorem named.up{s t:StateT}{o:aY}(h:named s o)(k:Gr s t):named t o:=by
 unfold named at h ⊢
 split
 ·rename_i h1;rw[if_pos h1]at h;exact k.v _ h
 ·rename_i h1;rw[if_neg h1]at h;exact k.e _ h
theorem L3(d:aj)(c:pq)(x:ab):(bN d c x).1.length=d.1.length∧(bN d c x).2=d.2:=⟨eZ _ _ _,rfl⟩
theorem Sf{s:StateT}{o:aY}(hk:o.1=1∨o.1=3)(h:(kT s o).2.1=0):Gr s (kT s o).1∧named (kT s o).1 o:=by
 unfold kT at h ⊢;by_cases hm:cj o=0
 case neg=>rw[if_pos hm]at h;exact absurd h hm
 rw[if_neg (by simp[hm])]at h ⊢;rcases hk with h1|h3
 ·rw[if_pos h1]at h ⊢;unfold pG at h ⊢;by_cases h2:(bp s.1 (aW o)).isSome=true
  ·rw[if_pos h2]at h;cases h
  rw[if_neg h2]at h ⊢;by_cases h4:24≤s.1.1.length
  ·rw[if_pos h4]at h;cases h
  rw[if_neg h4];refine⟨⟨fun x hx=>?_,fun x hx=>hx,by show _≤(dW _ _).length;rw[fW];omega,adg _⟩,?_⟩
  ·rw[IC]at hx ⊢;obtain⟨v,hv,e⟩:=hx;exact⟨v,lU.2 (.inr hv),e⟩
  ·unfold named;rw[if_pos h1,IC];exact⟨_,lU.2 (.inl rfl),rfl⟩
 ·have n1:¬o.1=1:=by omega
  have n2:¬o.1=2:=by omega
  rw[if_neg n1,if_neg n2,if_pos h3]at h ⊢;unfold pC at h ⊢
  split at h
  ·cases h
  rename_i c1
  split at h
  ·cases h
  rename_i c2
  split at h
  ·cases h
  rename_i c3
  split at h
  ·cases h
  rename_i c4
  split at h
  ·cases h
  rename_i c5;rw[if_neg c1,if_neg c2,if_neg c3,if_neg c4,if_neg c5];have l1:(fX s o).1.length=s.1.1.length:=by unfold fX;rw[(L3 _ _ _).1,(L3 _ _ _).1]
  have l2:(fX s o).2=dq (aW o,(e0,0)) s.1.2:=rfl;refine⟨⟨fun x hx=>?_,fun x hx=>?_,by show _≤(fX s o).1.length;omega,by show _≤(fX s o).2.length;rw[l2,kf];omega⟩,?_⟩
  ·exact vt _ (vt _ hx)
  ·show(aV (fX s o).2 x).isSome=true;rw[l2];rw[IE]at hx ⊢;obtain⟨v,hv,e⟩:=hx;exact⟨v,nP.2 (.inr hv),e⟩
  ·unfold named;rw[if_neg n1];show(aV (fX s o).2 (aW o)).isSome=true;rw[l2,IE];exact⟨_,nP.2 (.inl rfl),rfl⟩
theorem NV{s:StateT}{o:aY}(hk:o.1=1∨o.1=3)(h:named s o):(kT s o).2.1≠0:=by
 unfold kT;by_cases hm:cj o=0
 case neg=>rw[if_pos hm];exact hm
 rw[if_neg (by simp[hm])];unfold named at h;rcases hk with h1|h3
 ·rw[if_pos h1]at h;rw[if_pos h1];unfold pG;rw[if_pos (show(bp s.1 (aW o)).isSome=true from h)];decide
 ·have n1:¬o.1=1:=by omega
  have n2:¬o.1=2:=by omega
  rw[if_neg n1]at h;rw[if_neg n1,if_neg n2,if_pos h3];unfold pC;rw[if_pos (show(gE s.1 (aW o)).isSome=true from h)];decide
structure UJ(e:List aY):Prop where
 k:∀o∈e,o.1=1∨o.1=3
 n:e≠[]
theorem FE:∀{e:List aY} {s:StateT},(∀o∈e,o.1=1∨o.1=3)→(Fj e s).2.1=0→Gr s (Fj e s).1∧∀o∈e,named (Fj e s).1 o
 |[],s,_,_=>⟨Gr.rfl s,fun o ho=>by cases ho⟩
 |o::r,s,hk,h=>by
  unfold Fj at h ⊢;by_cases h1:(kT s o).2.1=0
  case neg=>rw[if_pos h1]at h;exact absurd h h1
  rw[if_neg (by simp[h1])]at h ⊢;obtain⟨g1,n1⟩:=Sf (hk o (by simp)) h1;obtain⟨g2,n2⟩:=FE (fun o ho=>hk o (by simp[ho])) h;refine⟨g1.trans g2,fun p hp=>?_⟩;rcases acn.1 hp with rfl|hp
  ·exact n1.up g2
  ·exact n2 p hp
theorem qR{s:StateT}{e:List aY}(h:(cP s e).2.1=0):cP s e=Fj e s:=by
 unfold cP at h ⊢;by_cases hm:cg e=0
 ·rw[if_neg (by simp[hm])]
 ·rw[if_pos hm]at h;exact absurd h hm
theorem Sh{s:StateT}{e:List aY}(h:(cP s e).2.1=0):je s e=(cP s e).1:=by unfold je;rw[if_neg (by simp[h])]
theorem UK{s:StateT}{e:List aY}(h:(cP s e).2.1≠0):je s e=s:=by unfold je;rw[if_pos h]
theorem IF{s:StateT}{e:List aY}(ha:UJ e):Gr s (je s e):=by
 by_cases h:(cP s e).2.1=0
 ·rw[Sh h,qR h];rw[qR h]at h;exact(FE ha.k h).1
 ·rw[UK h];exact Gr.rfl s
theorem IG:∀{l:List (List aY)} {s:StateT},(∀e∈l,UJ e)→Gr s (o8 l s)
 |[],s,_=>Gr.rfl s
 |e::r,s,h=>(IF (h e (by simp))).trans (IG fun e he=>h e (by simp[he]))
theorem IH{s t:StateT}{e:List aY}(ha:UJ e)(h:(cP s e).2.1=0)(hg:Gr (je s e) t):(cP t e).2.1≠0:=fun h2=>by
 rw[Sh h,qR h]at hg;rw[qR h]at h;rw[qR h2]at h2;obtain⟨_,hn⟩:=FE ha.k h
 cases e with
 |nil=>exact ha.n rfl
 |cons o r =>have h3:=NV (ha.k o (by simp)) ((hn o (by simp)).up hg);unfold Fj at h2;rw[if_pos h3]at h2;exact h3 h2
theorem uz:∀{l:List (List aY)} {s t:StateT},(∀e∈l,UJ e)→Gr (o8 l s) t→∀i:Nat,(Ci l s)[i]? = some true→(Ci l t)[i]? = some true→False
 |[],_,_,_,_,i,h,_=>by simp[Ci]at h
 |e::r,s,t,ha,hg,0,h1,h2=>by simp[Ci]at h1 h2;exact IH (ha e (by simp)) h1 ((IG fun e he=>ha e (by simp[he])).trans hg) h2
 |e::r,s,t,ha,hg,i+1,h1,h2=>by have h1:(Ci r (je s e))[i]? = some true:=h1;have h2:(Ci r (je t e))[i]? = some true:=h2;exact uz (l:=r) (s:=je s e) (t:=je t e) (fun e he=>ha e (by simp[he])) (Gr.trans (show Gr (o8 r (je s e)) t from hg) (IF (ha e (by simp)))) i h1 h2
end Go.Vs
namespace Go.Vs
open Go.Proofs
variable {G:(f:FuncId)→(g:aL)→Option (g.A→Option g.B)}
structure kH(l:List (List aY)):Prop where
 n:l.length≤1073741824
 e:∀e∈l,e.length≤1073741824
 f:∀e∈l,∀o∈e,Fit o
theorem kH.mem{l m:List (List aY)}(h:kH l)(hs:∀e∈m,e∈l)(hn:m.length≤1073741824):kH m:=⟨hn,fun e he=>h.e e (hs e he),fun e he=>h.f e (hs e he)⟩
theorem X9(hG:HG G)(w5:∀o,il G o){l:List (List aY)}(h:kH l){e:List aY}(he:e∈l)(s:StateT)(hw:fb s):FX G 102 GQ ((s,e,()),())=some ((je s e,()),()) :=abN hG s e hw (h.e e he) (h.f e he) fun o _=>w5 o
theorem Ya(hG:HG G)(w5:∀o,il G o)(s:StateT)(hw:fb s):FX G 102 GQ ((s,[],()),())=some ((s,()),()):=by
 have:=abN hG s [] hw (by simp) (by simp) fun o _=>w5 o
 rwa [UI]at this
theorem acS(hG:HG G)(s:StateT)(e:List aY):FX G 61 Ho ((s,e,()),())=some ((),()):=aq (hG _ _ rfl) aaM rfl
theorem Si(hG:HG G)(w5:∀o,il G o)(l:List (List aY))(h:kH l):∀(n i:Nat) (s:StateT),i+n=l.length→fb s → LX G 62060 kc Tryz.f60 lQ (aN Tryz.prog 60 0) ((l,(((l.length:Nat):Int),((i:Int),()))),((zW,((s,()),())),()))=some ((o8 (l.drop i) s,()),()):=by
 intro n
 induction n with
 |zero =>intro i s hi hw;refine au Br (af (decide_eq_false (show ¬((i:Int)<((l.length:Nat):Int)) by omega)) ?_);rw[List.drop_eq_nil_of_le (by omega)];rfl
 |succ n ih =>
  intro i s hi hw;have aF:i<l.length:=by omega
  have hm:=adr aF;refine au Br (ae (aX aF) ?_);refine aa (aJ (aci aF)) ?_;refine aa (acS hG s l[i]) (aa (X9 hG w5 h hm s hw) ?_);rw[wI,aG aF h.n,List.drop_eq_getElem_cons aF,o8];exact ih (i+1) _ (by omega) (hw.try l[i])
theorem VZ(hG:HG G)(w5:∀o,il G o)(s:StateT)(l:List (List aY))(hw:fb s)(h:kH l):FX G 18 AT ((s,l,()),())=some ((o8 l s,()),()):=by
 refine aq (hG _ _ rfl) aav ?_;have h1:FX G 62060 kc ((s,l,()),())=some ((o8 l s,()),()):=by refine aq (hG _ _ rfl) QE ?_;refine aa (Ya hG w5 s hw) ?_;exact Si hG w5 l h l.length 0 s (by omega) hw
 exact aa h1 rfl
theorem L4(n:Int):Fit (FL 1 (1,n)):=⟨Xw,Xw,Xw,by show e0.size≤_;simp[e0,ByteArray.size]⟩
end Go.Vs
namespace Go.Vs
open Go.Proofs Go.Cy
variable {G:(f:FuncId)→(g:aL)→Option (g.A→Option g.B)}
structure Lone(d:aj)(v:ag):Prop where
 w:Wf d
 m:v∈d.1
 r:v.2.1=[]
theorem Lone.split{d:aj}{v:ag}(h:Lone d v):∃a b,d.1=a++v::b∧(aS d v.1 zI)=(a++b,d.2)∧ar (a++b) ⊆ ar d.1∧(ar d.1).Perm (ar (a++b)):=by
 obtain⟨a,b,h1,_,h2,_⟩:=qN h.w.sv h.m;have p:(ar d.1).Perm (ar (a++b)):=by have:=iB a b v;rw[←h1,h.r,List.nil_append]at this;exact this
 exact⟨a,b,h1,by unfold aS;rw[h2,vp h.w.ge],fun x hx=>p.mem_iff.2 hx,p⟩
theorem Lone.wf{d:aj}{v:ag}(h:Lone d v):Wf (aS d v.1 zI):=h.w.Rm h.m h.r
theorem Lone.mem{d:aj}{v:ag}(h:Lone d v){u:ag}:u∈(aS d v.1 zI).1↔u∈d.1∧u.1≠v.1:=by show u∈dv d.1 v.1↔_;unfold dv;rw[List.mem_filter];simp
theorem Lone.Sj{d:aj}{v:ag}(h:Lone d v):(ar (aS d v.1 zI).1).Perm (ar d.1):=by obtain⟨a,b,_,h2,_,h3⟩:=h.split;rw[h2];exact h3.symm
theorem Lone.Sk{d:aj}{v:ag}(h:Lone d v){u:ag}{z:ab}(hu:u∈d.1)(hz:z∈u.2.1):u∈(aS d v.1 zI).1:=by refine h.mem.2 ⟨hu,fun k=>?_⟩;rw[LC h.w.sv h.m hu k,h.r]at hz;simp at hz
theorem Lone.at{d:aj}{v:ag}(h:Lone d v){z:ab}(hz:z∈ar d.1):cm (aS d v.1 zI) z=cm d z:=by obtain⟨u,hu,Ke⟩:=br.1 hz;show Fb (aS d v.1 zI).1 z=Fb d.1 z;rw[jg h.w.rw hu Ke,jg h.wf.rw (h.Sk hu Ke) Ke]
theorem Lone.YA{d:aj}{v:ag}(h:Lone d v){a b:ID}:Ig (aS d v.1 zI) a b↔Ig d a b:=by
 constructor
 ·rintro⟨z,hz,h1,h2⟩;have hz:=h.Sj.mem_iff.1 hz;exact⟨z,hz,by rw[←h.at hz];exact h1,by rw[←h.at (h.w.other hz)];exact h2⟩
 ·rintro⟨z,hz,h1,h2⟩;exact⟨z,h.Sj.mem_iff.2 hz,by rw[h.at hz];exact h1,by rw[h.at (h.w.other hz)];exact h2⟩
theorem Lone.conn{d:aj}{v:ag}(h:Lone d v){a b:ID}:cJ (aS d v.1 zI) a b↔cJ d a b:=by
 constructor
 ·intro k
  induction k with
  |refl=>exact .refl _
  |tail _ j ih=>exact ih.tail (h.YA.1 j)
 ·intro k
  induction k with
  |refl=>exact .refl _
  |tail _ j ih=>exact ih.tail (h.YA.2 j)
theorem Lone.alone{d:aj}{v:ag}(h:Lone d v){b:ID}(k:cJ d v.1 b):b=v.1:=by
 have key:∀{a b:ID},cJ d a b→a=v.1→b=v.1:=fun {a b} k ha=>by
  induction k with
  |refl=>exact ha
  |tail _ j ih =>obtain⟨z,hz,h1,_⟩:=j;obtain⟨u,hu,Ke,xx⟩:=vx h.w hz;rw[xx,ih]at h1;have:=ada h1;rw[LC h.w.sv h.m hu this,h.r]at Ke;simp at Ke
 exact key k rfl
theorem Lone.Ug{d:aj}{v:ag}(h:Lone d v){R:List ID}(hr:vw d R):∃R2,vw (aS d v.1 zI) R2∧R2.length+1=R.length:=by
 obtain⟨r,BA,hvr⟩:=hr.c v h.m;have hv:v.1∈R:=by rw[←h.alone hvr];exact BA
 refine⟨R.erase v.1,⟨hr.n.erase _,fun s hs=>?_,fun s hs t ht k=>hr.i s (adY hs) t (adY ht) (h.conn.1 k),fun u hu=>?_⟩,?_⟩
 ·obtain⟨u,hu,he⟩:=hr.v s (adY hs);refine⟨u,h.mem.2 ⟨hu,fun k=>?_⟩,he⟩;have:s=v.1:=he.symm.trans k;subst this;exact absurd hs (List.Nodup.not_mem_erase hr.n)
 ·obtain⟨hu1,hu2⟩:=h.mem.1 hu;obtain⟨s,hs,S7⟩:=hr.c u hu1;refine⟨s,(ad0 fun k=>?_).2 hs,h.conn.2 S7⟩;subst k;exact hu2 (h.alone (S7.symm h.w))
 ·rw[List.length_erase_of_mem hv];have:=adN hv;omega
theorem Lone.ph{d:aj}{v:ag}(h:Lone d v){z:ab}(hz:z∈ar d.1):ph (aS d v.1 zI) z=ph d z:=by rw[mB hz,mB (h.Sj.mem_iff.2 hz)];obtain⟨u,hu,Ke⟩:=br.1 (h.w.other hz);rw[nX h.w.rw hu Ke,nX h.wf.rw (h.Sk hu Ke) Ke]
theorem Lone.cO{d:aj}{v:ag}(h:Lone d v):(Vs.cO (aS d v.1 zI)).length=(Vs.cO d).length:=by have a:=b5 h.wf;have b:=b5 h.w;refine FN.count h.w.rw.n ⟨fun c hc=>?_,a.p.trans h.Sj⟩ b;refine(a.c c hc).congr fun z hz=>?_;have:z∈ar (aS d v.1 zI).1:=a.p.mem_iff.1 (adB.2 ⟨c,hc,hz⟩);exact(h.ph (h.Sj.mem_iff.1 this)).symm
theorem Cj{d:aj}(hw:Wf d){R:List ID}(hr:vw d R):eF d=(R.length:Int):=by rw[rQ hw,(mD hw (fa hw)).len hw hr]
structure vE(d:aj)(v:ag)(y:ab):Prop where
 w:Wf d
 m:v∈d.1
 r:v.2.1=[y]
theorem vE.mem{d:aj}{v:ag}{y:ab}(h:vE d v y):y∈ar d.1:=br.2 ⟨v,h.m,by rw[h.r];simp⟩
theorem vE.cut{d:aj}{v:ag}{y:ab}(h:vE d v y):bT d y.1:=by obtain⟨e,he,h1,_⟩:=eJ.1 (h.w.pd.mem_iff.1 h.mem);exact⟨h.w,by unfold aV;rw[List.find?_isSome];exact⟨e,he,by simpa using h1⟩⟩
theorem vE.lone{d:aj}{v:ag}{y:ab}(h:vE d v y):∃u,Lone (de d y.1) u∧u.1=v.1:=by
 obtain⟨u,hu,bL⟩:=h.cut.Kg.2 ⟨v,h.m,rfl⟩;refine⟨u,⟨h.cut.w,hu,?_⟩,bL⟩
 cases hq:u.2.1 with
 |nil=>rfl
 |cons z r =>
  exfalso;have hz:z∈u.2.1:=by rw[hq];simp
  have hzd:z∈ar (de d y.1).1:=br.2 ⟨u,hu,hz⟩;have h1:cm (de d y.1) z=some u.1:=jg h.cut.w.rw hu hz;rw[h.cut.at hzd,bL]at h1;obtain⟨w,hw,FO,xx⟩:=vx h.w (h.cut.sub hzd);rw[xx]at h1;have hwv:=LC h.w.sv h.m hw (ada h1);rw[hwv,h.r]at FO;have hzy:z=y:=by simpa using FO
  have nd:=h.cut.p.nodup_iff.1 h.w.rw.n;have e:y=(y.1,y.2):=rfl;rcases h.w.side h.mem with k|k
  ·rw[k]at e;exact(adf.1 nd).1 (acm _ (e▸hzy▸hzd))
  ·rw[k]at e;exact(adf.1 (adf.1 nd).2).1 (e▸hzy▸hzd)
theorem vE.back{d:aj}{v:ag}{y:ab}(h:vE d v y):ph d (ao y)=y:=by
 rw[mB (h.w.other h.mem),kU (h.w.side h.mem)];have hy:y∈v.2.1:=by rw[h.r];simp
 rw[nX h.w.rw h.m hy];exact(D5 (h.w.rw.ring h.m) hy).2 (by rw[h.r];rfl)
theorem vE.one{d:aj}{v:ag}{y:ab}(h:vE d v y):RD d (y.1,0) (y.1,1):=by
 have hm:ao y∈(cO d).flatten:=(b5 h.w).p.mem_iff.2 (h.w.other h.mem);obtain⟨c,hc,h1⟩:=adB.1 hm;have h2:=((b5 h.w).c c hc).step h1;rw[h.back]at h2;have e:y=(y.1,y.2):=rfl;have eo:ao y=(y.1,(ao y).2):=rfl;obtain⟨_,k⟩:=iD (h.w.side h.mem);rcases k with⟨k1,k2⟩|⟨k1,k2⟩
 ·rw[k1]at e;rw[k2]at eo;exact⟨c,hc,e▸h2,eo▸h1⟩
 ·rw[k1]at e;rw[k2]at eo;exact⟨c,hc,eo▸h1,e▸h2⟩
theorem vE.cO{d:aj}{v:ag}{y:ab}(h:vE d v y):(Vs.cO (de d y.1)).length≤(Vs.cO d).length:=by
 have h1:=(h.cut.same h.one).2;have hb:=h.back;have e:y=(y.1,y.2):=rfl;have eo:ao y=(y.1,(ao y).2):=rfl;obtain⟨_,k⟩:=iD (h.w.side h.mem);rcases k with⟨k1,k2⟩|⟨k1,k2⟩
 ·rw[k1]at e;rw[k2]at eo;have:ph d (y.1,1)=(y.1,0):=by rw[←eo,hb];exact e
  rw[if_pos this]at h1
  split at h1<;>omega
 ·rw[k1]at e;rw[k2]at eo;have:ph d (y.1,0)=(y.1,1):=by rw[←eo,hb];exact e
  rw[if_pos this]at h1
  split at h1<;>omega
theorem vE.parts{d:aj}{v:ag}{y:ab}(h:vE d v y){u:ag}(hu:Lone (de d y.1) u)(bL:u.1=v.1):eF (aS (de d y.1) v.1 zI)=eF d:=by
 obtain⟨a,b,ha,hb,_,_⟩:=h.cut.LF;have hr:=mD h.w (fa h.w);have SO:cm d y=some v.1:=jg h.w.rw h.m (by rw[h.r];simp);have SJ:cm d (ao y)≠some v.1:=fun k=>by
  obtain⟨w,hw,FO,xx⟩:=vx h.w (h.w.other h.mem);rw[xx]at k;rw[LC h.w.sv h.m hw (Option.some.inj k),h.r]at FO;have FO:ao y=y:=by simpa using FO
  obtain⟨_,m⟩:=iD (h.w.side h.mem);rw[FO]at m;omega
 have bq:a≠b∧(a=v.1∨b=v.1):=by
  have e:y=(y.1,y.2):=rfl;have eo:ao y=(y.1,(ao y).2):=rfl;obtain⟨_,k⟩:=iD (h.w.side h.mem);rcases k with⟨k1,k2⟩|⟨k1,k2⟩
  ·rw[k1]at e;rw[k2]at eo;rw[e,ha]at SO;rw[eo,hb]at SJ;have:=ada SO;exact⟨fun k=>SJ (by rw[←k,this]),.inl this⟩
  ·rw[k1]at e;rw[k2]at eo;rw[e,hb]at SO;rw[eo,ha]at SJ;have:=ada SO;exact⟨fun k=>SJ (by rw[k,this]),.inr this⟩
 have xi:¬cJ (de d y.1) a b:=fun k=>by
  rcases bq.2 with m|m
  ·rw[m,←bL]at k;exact bq.1 (m.trans (bL▸hu.alone k).symm)
  ·rw[m,←bL]at k;exact bq.1 ((bL▸hu.alone (k.symm h.cut.w):a=v.1).trans m.symm)
 obtain⟨R2,h2,h3⟩:=h.cut.VO ha hb xi hr;obtain⟨R3,h4,h5⟩:=hu.Ug h2;rw[bL]at h4;have hwf:=hu.wf;rw[bL]at hwf;rw[Cj hwf h4,Cj h.w hr];omega
theorem UL{k:Int}{x:ID}(hk:k=1∨k=2∨k=4)(hx:cW x=true):cj (FL k x)=0:=by
 unfold cj;have e:vl (sK (FL k x)) Vz=true:=by rcases hk with rfl|rfl|rfl<;>exact(vm _ _).2 rfl
 have h1:(FL k x).1=k:=rfl;rw[if_neg (by rw[h1];omega),if_neg (by rw[h1];omega),if_neg (by simp[FL,hx]),if_neg (by rw[e];simp),if_neg (by rw[h1];omega),if_neg (by rw[h1];omega),if_neg (by rw[h1];omega),if_neg (by rw[h1];omega),if_neg (by rw[h1];omega)]
end Go.Vs
namespace Go.Vs
open Go.Proofs
variable {G:(f:FuncId)→(g:aL)→Option (g.A→Option g.B)}
theorem V5(hG:HG G)(l:List aY)(hl:l.length≤50000000):FX G 67 DF ((l,()),())=some ((l,()),()):=by
 refine aq (hG _ _ rfl) aaN ?_
 cases l with
 |nil=>exact ae rfl (kM (by omega) fun j hj=>by cases j<;>rfl)
 |cons x r=>exact af rfl (ae (fits (by simp at hl ⊢;omega)) rfl)
abbrev Ed(h:bS):StateT:=h.1
abbrev fZ(h:bS):Int:=h.2.1
abbrev c6(h:bS):List (List aY):=h.2.2.1
def Ck(h:bS):Int:=fZ h+((c6 h).length:Nat)
structure tL(m:Nat)(h:bS):Prop where
 b:fb (Ed h)
 f0:0≤fZ h
 f1:Ck h≤m
 m1:m≤1000000000
 n:(c6 h).length≤64
 r:kH (c6 h)
theorem tL.zero:tL 0 (zS,(0,([],()))):=⟨fb.zero,Int.le_refl _,by decide,by decide,adD _,⟨adD _,fun e he=>(by cases he),fun e he=>(by cases he)⟩⟩
theorem Cl(hG:HG G){m:Nat}(h:bS)(ho:tL m h):FX G 28 my ((),(h,()))=some ((Ck h,()),(h,())):=by refine aq (hG _ _ rfl) aaB ?_;have h1:=ho.f0;have h2:=ho.f1;have h3:=ho.n;have h4:=ho.m1;have hl:Ck h=fZ h+((c6 h).length:Nat):=rfl;have e:IntKind.wrap .i64 (fZ h+(((c6 h).length:Nat):Int))=Ck h:=wrap_small (by omega) (by omega);exact congrArg (fun n:Int=>some ((n,()),(h,()))) e
def qS(h:bS)(e:List aY):(Int×(Int×Unit))×bS :=if cg e≠0 then((0,(cg e,())),h) else if 64≤(c6 h).length then((0,(20,())),h) else((Ck h+1,(0,())),(Ed h,(fZ h,(c6 h++[e],()))))
theorem UM{α:Type}(l:List α):cut l 0 ((l.length:Nat):Int)=l:=by unfold cut;rw[show Int.toNat (0:Int)=0 from rfl,List.drop_zero];exact adV (by omega)
theorem tL.mono{m k:Nat}{h:bS}(ho:tL m h)(hk:m≤k)(h1:k≤1000000000):tL k h:=⟨ho.b,ho.f0,by have:=ho.f1;omega,h1,ho.n,ho.r⟩
theorem tL.add{m:Nat}{h:bS}(ho:tL m h)(hm:m<1000000000){e:List aY}(he:e.length≤1073741824)(hf:∀o∈e,Fit o):tL (m+1) (qS h e).2:=by
 unfold qS
 split
 ·exact ho.mono (by omega) (by omega)
 split
 ·exact ho.mono (by omega) (by omega)
 ·rename_i h1 h2;have h3:=ho.f1;have hl:Ck h=fZ h+((c6 h).length:Nat):=rfl;refine⟨ho.b,ho.f0,?_,by omega,?_,?_,fun p hp=>?_,fun p hp=>?_⟩
  ·show fZ h+(((c6 h++[e]).length:Nat):Int)≤_;simp;omega
  ·show(c6 h++[e]).length≤64;simp;omega
  ·show(c6 h++[e]).length≤_;simp;omega
  ·rcases adb.1 (show p∈c6 h++[e] from hp) with hp|hp
   ·exact ho.r.e p hp
   ·rw[List.mem_singleton.1 hp];exact he
  ·rcases adb.1 (show p∈c6 h++[e] from hp) with hp|hp
   ·exact ho.r.f p hp
   ·rw[List.mem_singleton.1 hp];exact hf
theorem Sn(hG:HG G){m:Nat}(h:bS)(ho:tL m h)(hm:m<1000000000)(e:List aY)(he:e.length≤50000000)(hf:∀o∈e,Fit o):FX G 25 xT ((e,()),(h,()))=some ((qS h e).1,((qS h e).2,())):=by
 refine aq (hG _ _ rfl) aay ?_;refine aa (abC hG e (by omega) hf) ?_;have ha:=ho.add hm (e:=e) (by omega) hf;unfold qS at ha ⊢;by_cases h0:cg e=0
 case neg=>rw[if_pos h0];exact ae (show(cg e != 0)=true by simp[h0]) rfl
 rw[if_neg (by simp[h0])]at ha ⊢;refine af (show(cg e != 0)=false by simp[h0]) ?_;by_cases Yb:64≤(c6 h).length
 ·rw[if_pos Yb];exact ae (decide_eq_true (show(((c6 h).length:Nat):Int)≥64 by omega)) rfl
 rw[if_neg Yb]at ha ⊢;refine af (decide_eq_false (show ¬(((c6 h).length:Nat):Int)≥64 by omega)) ?_;refine ae (db (show aH (c6 h).length 0 (((c6 h).length:Nat):Int)=true by simp[aH]) (decide_eq_true rfl)) ?_;refine aa (V5 hG e he) ?_;have ec:cut (c6 h) 0 (((c6 h).length:Nat):Int)=c6 h:=UM _;refine ae (fits (show(cut (c6 h) 0 (((c6 h).length:Nat):Int)).length+1≤_ by rw[ec];omega)) ?_;show Option.bind (FX G 28 my ((),((Ed h,(fZ h,(cut (c6 h) 0 (((c6 h).length:Nat):Int)++[e],()))),()))) _=_;rw[ec];refine aa (Cl hG _ ha) ?_;have:Ck (Ed h,(fZ h,(c6 h++[e],())))=Ck h+1:=by show fZ h+(((c6 h++[e]).length:Nat):Int)=fZ h+(((c6 h).length:Nat):Int)+1;rw[List.length_append];simp only[List.length_cons,List.length_nil];omega
 exact congrArg (fun n:Int=>(some ((n,((0:Int),())),((Ed h,(fZ h,(c6 h++[e],()))),())):Option ((Int×(Int×Unit))×(bS×Unit)))) this
def hIn(h:bS)(n:Int):Prop:=fZ h≤n∧n≤Ck h
instance (h:bS) (n:Int):Decidable (hIn h n):=by unfold hIn;infer_instance
def V6(h:bS)(n:Int):StateT×(Int×Unit):=if hIn h n then(o8 ((c6 h).take (n-fZ h).toNat) (Ed h),(0,())) else(zS,(26,()))
theorem kH.take{l:List (List aY)}(h:kH l)(n:Nat):kH (l.take n):=h.mem (fun e he=>adZ he) (by have:=h.n;simp;omega)
theorem kH.drop{l:List (List aY)}(h:kH l)(n:Nat):kH (l.drop n):=h.mem (fun e he=>adF he) (by have:=h.n;simp;omega)
theorem V7(hG:HG G)(w5:∀o,il G o){m:Nat}(h:bS)(ho:tL m h)(n:Int):FX G 31 AU ((n,()),(h,()))=some (V6 h n,(h,())):=by
 refine aq (hG _ _ rfl) aaD ?_;have h1:=ho.f0;have h2:=ho.f1;have h3:=ho.n;have h4:=ho.m1;have hl:Ck h=fZ h+((c6 h).length:Nat):=rfl;unfold V6;by_cases ha:n<fZ h
 ·rw[if_neg (show ¬hIn h n by unfold hIn;omega)];exact ae (decide_eq_true ha) rfl
 refine af (decide_eq_false ha) (aa (Cl hG h ho) ?_);by_cases hb:n>Ck h
 ·rw[if_neg (show ¬hIn h n by unfold hIn;omega)];exact ae (decide_eq_true hb) rfl
 refine af (decide_eq_false hb) ?_;rw[if_pos (show hIn h n by unfold hIn;omega)];obtain⟨k,hk⟩:∃k:Nat,n=fZ h+k:=⟨(n-fZ h).toNat,by omega⟩;have ew:IntKind.wrap .i64 (n-fZ h)=(k:Int):=by rw[wrap_small (by omega) (by omega)];omega
 refine ae (show aH (c6 h).length 0 (IntKind.wrap .i64 (n-fZ h))=true by rw[ew];simp[aH];omega) ?_;have ec:cut (c6 h) 0 (IntKind.wrap .i64 (n-fZ h))=(c6 h).take (n-fZ h).toNat:=by rw[ew];unfold cut;rw[show Int.toNat (0:Int)=0 from rfl,List.drop_zero,show(n-fZ h).toNat=k by omega];rfl
 exact aa ((congrArg (fun l:List (List aY)=>FX G 18 AT ((Ed h,l,()),())) ec).trans (VZ hG w5 (Ed h) _ ho.b (ho.r.take _))) rfl
def pJ(h:bS)(n:Int):Int×bS:=if hIn h n then(0,(o8 ((c6 h).take (n-fZ h).toNat) (Ed h),(n,((c6 h).drop (n-fZ h).toNat,())))) else(26,h)
theorem tL.comp{m:Nat}{h:bS}(ho:tL m h)(n:Int):tL m (pJ h n).2:=by
 unfold pJ;have h1:=ho.f0;have h2:=ho.f1;have h3:=ho.n;have hl:Ck h=fZ h+((c6 h).length:Nat):=rfl;by_cases hi:hIn h n
 ·rw[if_pos hi];unfold hIn at hi;refine⟨fb.all _ ho.b,by show 0≤n;omega,?_,ho.m1,?_,ho.r.drop _⟩
  ·show n+((((c6 h).drop (n-fZ h).toNat).length:Nat):Int)≤m;rw[List.length_drop];omega
  ·show((c6 h).drop (n-fZ h).toNat).length≤64;rw[List.length_drop];omega
 ·rw[if_neg hi];exact ho
theorem So(hG:HG G)(w5:∀o,il G o){m:Nat}(h:bS)(ho:tL m h)(n:Int):FX G 27 xU ((n,()),(h,()))=some (((pJ h n).1,()),((pJ h n).2,())):=by
 refine aq (hG _ _ rfl) aaA ?_;refine aa (V7 hG w5 h ho n) ?_;have h1:=ho.f0;have h2:=ho.f1;have h3:=ho.n;have h4:=ho.m1;have hl:Ck h=fZ h+((c6 h).length:Nat):=rfl;unfold V6 pJ;by_cases hi:hIn h n
 case neg=>rw[if_neg hi,if_neg hi];exact af rfl rfl
 rw[if_pos hi,if_pos hi];unfold hIn at hi;refine ae rfl ?_;obtain⟨k,hk⟩:∃k:Nat,n=fZ h+k:=⟨(n-fZ h).toNat,by omega⟩;have ew:IntKind.wrap .i64 (n-fZ h)=(k:Int):=by rw[wrap_small (by omega) (by omega)];omega
 refine ae (show aH (c6 h).length (IntKind.wrap .i64 (n-fZ h)) (((c6 h).length:Nat):Int)=true by rw[ew];simp[aH];omega) ?_;have ec:cut (c6 h) (IntKind.wrap .i64 (n-fZ h)) (((c6 h).length:Nat):Int)=(c6 h).drop (n-fZ h).toNat:=by rw[ew];unfold cut;rw[show(n-fZ h).toNat=k by omega,List.take_of_length_le (by omega)];rfl
 exact congrArg (fun l:List (List aY)=>(some (((0:Int),()),((o8 ((c6 h).take (n-fZ h).toNat) (Ed h),(n,(l,()))),())):Option ((Int×Unit)×(bS×Unit)))) ec
theorem V8(hG:HG G)(n:Int):FX G 26 Dz ((n,()),())=some (([FL 1 (1,n)],()),()):=aq (hG _ _ rfl) aaz rfl
theorem UN{n:Int}(h0:1≤n)(h1:n≤1048576):cg [FL 1 (1,n)]=0:=by have:cj (FL 1 (1,n))=0:=UL (.inl rfl) (by unfold cW;exact decide_eq_true ⟨show(1:Int)≤1 by decide,show(1:Int)≤8 by decide,h0,h1⟩);unfold cg gT gT;rw[this];rfl
theorem acT(hG:HG G)(w5:∀o,il G o):FX G 23 Hm ((),())=some ((true,()),()):=by
 refine aq (hG _ _ rfl) aax ?_;refine aa (V8 hG 1) ?_;have hf:∀o∈[FL 1 (1,1)],Fit o:=fun o ho=>by rw[List.mem_singleton.1 ho];exact L4 1
 have ha:qS (zS,(0,([],()))) [FL 1 (1,1)]=((1,(0,())),(zS,(0,([[FL 1 (1,1)]],())))):=by unfold qS;rw[if_neg (by rw[UN (by decide) (by decide)];simp),if_neg (by simp[c6])];rfl
 have h1:=Sn hG (zS,(0,([],()))) tL.zero (by decide) [FL 1 (1,1)] (by simp) hf;rw[ha]at h1;refine aa h1 ?_;have KX:tL 1 (zS,(0,([[FL 1 (1,1)]],()))):=by have:=tL.zero.add (by decide) (e:=[FL 1 (1,1)]) (by simp) hf;rwa [ha]at this
 have hc:∃t,pJ (zS,(0,([[FL 1 (1,1)]],()))) 1=(0,(t,(1,([],())))):=⟨_,if_pos (by decide)⟩;obtain⟨t,hc⟩:=hc;have h2:=So hG w5 _ KX 1;rw[hc]at h2;refine aa h2 ?_;refine ae rfl (ae rfl (ae rfl (ae rfl ?_)));have Lk:=KX.comp 1;rw[hc]at Lk;exact aa (Cl hG _ Lk) rfl
end Go.Vs
