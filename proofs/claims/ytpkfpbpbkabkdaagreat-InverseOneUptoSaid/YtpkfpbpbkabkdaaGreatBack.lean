/- What takes operations back -/
import Derived.Test.YtpkfpbpbkabkdaaGreatPartsB
import Derived.Test.YtpkfpbpbkabkdaaGreatForm
import Derived.Test.YtpkfpbpbkabkdaaGreatNormalD
set_option linter.unusedVariables false
set_option linter.unusedSimpArgs false
namespace Go.Vs
open Go.Proofs
variable {G:(f:FuncId)→(g:aS)→Option (g.A→Option g.B)}
theorem LS{n:Int}(h:K4 (.int .i64) n):OM n:=by
 have h1:IntKind.min .i64 = -9223372036854775808:=by decide
 have h2:IntKind.max .i64=9223372036854775807:=by decide
 have h:IntKind.min .i64≤n∧n≤IntKind.max .i64:=h;rw[h1,h2]at h;unfold OM;omega
theorem TY{o:aR}(h:K4 fD o)(ht:ux o):Fit o:=by obtain⟨_,_,_,_,⟨_,_,h1⟩,⟨_,_,h2⟩,_,_,h3⟩:=h;exact⟨LS h1,LS h2,LS h3,ht⟩
theorem Wf.bd{d:aj}(h:Wf d):Bd 100 d:=⟨by have:=h.nv;omega,by have:=h.ne;omega,fun v hv=>by have:=h.qh v hv;omega⟩
theorem Fa(v:ah):v.2.1.length+v.2.2.1.size+1≤b7 dp v:=by have h:b7 dp v=(1+1)+(((v.2.1.map (b7 br)).sum+1)+((v.2.2.1.size+1)+1)):=rfl;have h2:=vW (fun x:ae=>b7 br x) (fun x=>by show 1≤(1+1)+1;omega) v.2.1;have h3:(v.2.1.map fun x:ae=>b7 br x).sum=(v.2.1.map (b7 br)).sum:=rfl;rw[h];omega
theorem Fb(e:ai):e.2.1.size+1≤b7 dK e:=by have h:b7 dK e=(1+1)+((e.2.1.size+1)+1):=rfl;rw[h];omega
theorem JG{s:StateT}{m:Nat}(hb:b7 js s≤m):s.1.1.length≤m∧s.1.2.length≤m∧s.2.length≤m∧(∀v∈s.1.1,v.2.1.length≤m∧v.2.2.1.size≤m)∧∀e∈s.1.2,e.2.1.size≤m:=by
 have h:b7 js s=(((s.1.1.map (b7 dp)).sum+1)+((s.1.2.map (b7 dK)).sum+1))+((s.2.map (b7 cK)).sum+1):=rfl;rw[h]at hb;have l1:=vW (fun v:ah=>b7 dp v) (fun v=>by have:=Fa v;omega) s.1.1;have l2:=vW (fun e:ai=>b7 dK e) (fun e=>by have:=Fb e;omega) s.1.2;have l3:=vW (fun g:aB=>b7 cK g) (fun g=>by show 1≤((1+1)+1)+((1+1)+1);omega) s.2;have e1:(s.1.1.map fun v:ah=>b7 dp v).sum=(s.1.1.map (b7 dp)).sum:=rfl;have e2:(s.1.2.map fun v:ai=>b7 dK v).sum=(s.1.2.map (b7 dK)).sum:=rfl;have e3:(s.2.map fun v:aB=>b7 cK v).sum=(s.2.map (b7 cK)).sum:=rfl;refine⟨by omega,by omega,by omega,fun v hv=>?_,fun e he=>?_⟩
 ·have:=Al (fun v:ah=>b7 dp v) hv;have:=Fa v;omega
 ·have:=Al (fun v:ai=>b7 dK v) he;have:=Fb e;omega
end Go.Vs
namespace Go.Vs
def JH:List (List aR)→StateT→StateT
 |[],s=>s
 |e::r,s=>JH r (mO s e)
def Dd:List (List aR)→StateT→List Bool
 |[],_=>[]
 |e::r,s=>decide ((c6 s e).2.1=0)::Dd r (mO s e)
theorem eO.all:∀(l:List (List aR)) {s:StateT},eO s→eO (JH l s)
 |[],_,h=>h
 |e::r,_,h=>eO.all r (h.try e)
theorem Bs.all:∀{l:List (List aR)} {n:Nat} {s:StateT},(∀e∈l,e.length≤8)→Bs n s→Bs (n+24*l.length) (JH l s)
 |[],_,_,_,h=>h
 |e::r,n,s,hl,h=>by have h1:Bs (n+24) (mO s e):=h.try.mono (by have:=hl e (by simp);omega);exact(Bs.all (fun e he=>hl e (by simp[he])) h1).mono (by simp;omega)
theorem JI{l:List ah}{x:ID}:(bg l x).isSome=true↔∃v∈l,v.1=x:=by unfold bg;rw[List.find?_isSome];simp
theorem JJ{l:List ai}{x:ID}:(aX l x).isSome=true↔∃v∈l,v.1=x:=by unfold aX;rw[List.find?_isSome];simp
structure Gr(s t:StateT):Prop where
 v:∀x,(bg s.1.1 x).isSome=true→(bg t.1.1 x).isSome=true
 e:∀x,(aX s.1.2 x).isSome=true→(aX t.1.2 x).isSome=true
 nv:s.1.1.length≤t.1.1.length
 ne:s.1.2.length≤t.1.2.length
theorem Gr.rfl(s:StateT):Gr s s:=⟨fun _ h=>h,fun _ h=>h,adj _,adj _⟩
theorem Gr.trans{a b c:StateT}(h:Gr a b)(k:Gr b c):Gr a c:=⟨fun x p=>k.v x (h.v x p),fun x p=>k.e x (h.e x p),adC h.nv k.nv,adC h.ne k.ne⟩
def named(s:StateT)(o:aR):Prop:=if o.1=1 then(bg s.1.1 (aH o)).isSome=true else(aX s.1.2 (aH o)).isSome=true
theorem named.up{s t:StateT}{o:aR}(h:named s o)(k:Gr s t):named t o:=by
 unfold named at h ⊢
 split
 ·rename_i h1;rw[if_pos h1]at h;exact k.v _ h
 ·rename_i h1;rw[if_neg h1]at h;exact k.e _ h
theorem Nm(d:aj)(c:ng)(x:ae):(bV d c x).1.length=d.1.length∧(bV d c x).2=d.2:=⟨fG _ _ _,rfl⟩
theorem TZ{s:StateT}{o:aR}(hk:o.1=1∨o.1=3)(h:(c7 s o).2.1=0):Gr s (c7 s o).1∧named (c7 s o).1 o:=by
 unfold c7 at h ⊢;by_cases hm:bB o=0
 case neg=>rw[if_pos hm]at h;exact absurd h hm
 rw[if_neg (by simp[hm])]at h ⊢;rcases hk with h1|h3
 ·rw[if_pos h1]at h ⊢;unfold qt at h ⊢;by_cases h2:(aQ s.1 (aH o)).isSome=true
  ·rw[if_pos h2]at h;cases h
  rw[if_neg h2]at h ⊢;by_cases h4:24≤s.1.1.length
  ·rw[if_pos h4]at h;cases h
  rw[if_neg h4];refine⟨⟨fun x hx=>?_,fun x hx=>hx,by show _≤(eL _ _).length;rw[gD];omega,adj _⟩,?_⟩
  ·rw[JI]at hx ⊢;obtain⟨v,hv,e⟩:=hx;exact⟨v,mu.2 (.inr hv),e⟩
  ·unfold named;rw[if_pos h1,JI];exact⟨_,mu.2 (.inl rfl),rfl⟩
 ·have n1:¬o.1=1:=by omega
  have n2:¬o.1=2:=by omega
  rw[if_neg n1,if_neg n2,if_pos h3]at h ⊢;unfold oM at h ⊢
  split at h
  ·cases h
  rename_i c1
  split at h
  ·cases h
  rename_i c2
  split at h
  ·cases h
  rename_i c3
  split at h
  ·cases h
  rename_i c4
  split at h
  ·cases h
  rename_i c5;rw[if_neg c1,if_neg c2,if_neg c3,if_neg c4,if_neg c5];have l1:(gE s o).1.length=s.1.1.length:=by unfold gE;rw[(Nm _ _ _).1,(Nm _ _ _).1]
  have l2:(gE s o).2=dA (aH o,(e0,0)) s.1.2:=rfl;refine⟨⟨fun x hx=>?_,fun x hx=>?_,by show _≤(gE s o).1.length;omega,by show _≤(gE s o).2.length;rw[l2,kJ];omega⟩,?_⟩
  ·exact we _ (we _ hx)
  ·show(aX (gE s o).2 x).isSome=true;rw[l2];rw[JJ]at hx ⊢;obtain⟨v,hv,e⟩:=hx;exact⟨v,oL.2 (.inr hv),e⟩
  ·unfold named;rw[if_neg n1];show(aX (gE s o).2 (aH o)).isSome=true;rw[l2,JJ];exact⟨_,oL.2 (.inl rfl),rfl⟩
theorem Pq{s:StateT}{o:aR}(hk:o.1=1∨o.1=3)(h:named s o):(c7 s o).2.1≠0:=by
 unfold c7;by_cases hm:bB o=0
 case neg=>rw[if_pos hm];exact hm
 rw[if_neg (by simp[hm])];unfold named at h;rcases hk with h1|h3
 ·rw[if_pos h1]at h;rw[if_pos h1];unfold qt;rw[if_pos (show(aQ s.1 (aH o)).isSome=true from h)];decide
 ·have n1:¬o.1=1:=by omega
  have n2:¬o.1=2:=by omega
  rw[if_neg n1]at h;rw[if_neg n1,if_neg n2,if_pos h3];unfold oM;rw[if_pos (show(bZ s.1 (aH o)).isSome=true from h)];decide
structure Wo(e:List aR):Prop where
 k:∀o∈e,o.1=1∨o.1=3
 n:e≠[]
theorem GS:∀{e:List aR} {s:StateT},(∀o∈e,o.1=1∨o.1=3)→(p7 e s).2.1=0→Gr s (p7 e s).1∧∀o∈e,named (p7 e s).1 o
 |[],s,_,_=>⟨Gr.rfl s,fun o ho=>by cases ho⟩
 |o::r,s,hk,h=>by
  unfold p7 at h ⊢;by_cases h1:(c7 s o).2.1=0
  case neg=>rw[if_pos h1]at h;exact absurd h h1
  rw[if_neg (by simp[h1])]at h ⊢;obtain⟨g1,n1⟩:=TZ (hk o (by simp)) h1;obtain⟨g2,n2⟩:=GS (fun o ho=>hk o (by simp[ho])) h;refine⟨g1.trans g2,fun p hp=>?_⟩;rcases acp.1 hp with rfl|hp
  ·exact n1.up g2
  ·exact n2 p hp
theorem mD{s:StateT}{e:List aR}(h:(c6 s e).2.1=0):c6 s e=p7 e s:=by
 unfold c6 at h ⊢;by_cases hm:eE e=0
 ·rw[if_neg (by simp[hm])]
 ·rw[if_pos hm]at h;exact absurd h hm
theorem T0{s:StateT}{e:List aR}(h:(c6 s e).2.1=0):mO s e=(c6 s e).1:=by unfold mO;rw[if_neg (by simp[h])]
theorem Wp{s:StateT}{e:List aR}(h:(c6 s e).2.1≠0):mO s e=s:=by unfold mO;rw[if_pos h]
theorem JK{s:StateT}{e:List aR}(ha:Wo e):Gr s (mO s e):=by
 by_cases h:(c6 s e).2.1=0
 ·rw[T0 h,mD h];rw[mD h]at h;exact(GS ha.k h).1
 ·rw[Wp h];exact Gr.rfl s
theorem JM:∀{l:List (List aR)} {s:StateT},(∀e∈l,Wo e)→Gr s (JH l s)
 |[],s,_=>Gr.rfl s
 |e::r,s,h=>(JK (h e (by simp))).trans (JM fun e he=>h e (by simp[he]))
theorem JN{s t:StateT}{e:List aR}(ha:Wo e)(h:(c6 s e).2.1=0)(hg:Gr (mO s e) t):(c6 t e).2.1≠0:=fun h2=>by
 rw[T0 h,mD h]at hg;rw[mD h]at h;rw[mD h2]at h2;obtain⟨_,hn⟩:=GS ha.k h
 cases e with
 |nil=>exact ha.n rfl
 |cons o r =>have h3:=Pq (ha.k o (by simp)) ((hn o (by simp)).up hg);unfold p7 at h2;rw[if_pos h3]at h2;exact h3 h2
theorem vg:∀{l:List (List aR)} {s t:StateT},(∀e∈l,Wo e)→Gr (JH l s) t→∀i:Nat,(Dd l s)[i]? = some true→(Dd l t)[i]? = some true→False
 |[],_,_,_,_,i,h,_=>by simp[Dd]at h
 |e::r,s,t,ha,hg,0,h1,h2=>by simp[Dd]at h1 h2;exact JN (ha e (by simp)) h1 ((JM fun e he=>ha e (by simp[he])).trans hg) h2
 |e::r,s,t,ha,hg,i+1,h1,h2=>by have h1:(Dd r (mO s e))[i]? = some true:=h1;have h2:(Dd r (mO t e))[i]? = some true:=h2;exact vg (l:=r) (s:=mO s e) (t:=mO t e) (fun e he=>ha e (by simp[he])) (Gr.trans (show Gr (JH r (mO s e)) t from hg) (JK (ha e (by simp)))) i h1 h2
end Go.Vs
namespace Go.Vs
open Go.Proofs
variable {G:(f:FuncId)→(g:aS)→Option (g.A→Option g.B)}
structure tF(l:List (List aR)):Prop where
 n:l.length≤1073741824
 e:∀e∈l,e.length≤1073741824
 f:∀e∈l,∀o∈e,Fit o
theorem tF.mem{l m:List (List aR)}(h:tF l)(hs:∀e∈m,e∈l)(hn:m.length≤1073741824):tF m:=⟨hn,fun e he=>h.e e (hs e he),fun e he=>h.f e (hs e he)⟩
theorem Wq(n:Int):Fit (SI 1 (1,n)):=⟨YU,YU,YU,by show e0.size≤_;simp[e0,ByteArray.size]⟩
end Go.Vs
namespace Go.Vs
open Go.Proofs Go.Cy
variable {G:(f:FuncId)→(g:aS)→Option (g.A→Option g.B)}
structure Lone(d:aj)(v:ah):Prop where
 w:Wf d
 m:v∈d.1
 r:v.2.1=[]
theorem Lone.split{d:aj}{v:ah}(h:Lone d v):∃a b,d.1=a++v::b∧(bj d v.1 zI)=(a++b,d.2)∧ax (a++b) ⊆ ax d.1∧(ax d.1).Perm (ax (a++b)):=by
 obtain⟨a,b,h1,_,h2,_⟩:=rG h.w.sv h.m;have p:(ax d.1).Perm (ax (a++b)):=by have:=iS a b v;rw[←h1,h.r,List.nil_append]at this;exact this
 exact⟨a,b,h1,by unfold bj;rw[h2,wb h.w.ge],fun x hx=>p.mem_iff.2 hx,p⟩
theorem Lone.wf{d:aj}{v:ah}(h:Lone d v):Wf (bj d v.1 zI):=h.w.SX h.m h.r
theorem Lone.mem{d:aj}{v:ah}(h:Lone d v){u:ah}:u∈(bj d v.1 zI).1↔u∈d.1∧u.1≠v.1:=by show u∈dE d.1 v.1↔_;unfold dE;rw[List.mem_filter];simp
theorem Lone.T1{d:aj}{v:ah}(h:Lone d v):(ax (bj d v.1 zI).1).Perm (ax d.1):=by obtain⟨a,b,_,h2,_,h3⟩:=h.split;rw[h2];exact h3.symm
theorem Lone.T2{d:aj}{v:ah}(h:Lone d v){u:ah}{z:ae}(hu:u∈d.1)(hz:z∈u.2.1):u∈(bj d v.1 zI).1:=by refine h.mem.2 ⟨hu,fun k=>?_⟩;rw[MV h.w.sv h.m hu k,h.r]at hz;simp at hz
theorem Lone.at{d:aj}{v:ah}(h:Lone d v){z:ae}(hz:z∈ax d.1):bP (bj d v.1 zI) z=bP d z:=by obtain⟨u,hu,Ll⟩:=bh.1 hz;show Gn (bj d v.1 zI).1 z=Gn d.1 z;rw[iJ h.w.rw hu Ll,iJ h.wf.rw (h.T2 hu Ll) Ll]
theorem Lone.ZZ{d:aj}{v:ah}(h:Lone d v){a b:ID}:Jl (bj d v.1 zI) a b↔Jl d a b:=by
 constructor
 ·rintro⟨z,hz,h1,h2⟩;have hz:=h.T1.mem_iff.1 hz;exact⟨z,hz,by rw[←h.at hz];exact h1,by rw[←h.at (h.w.other hz)];exact h2⟩
 ·rintro⟨z,hz,h1,h2⟩;exact⟨z,h.T1.mem_iff.2 hz,by rw[h.at hz];exact h1,by rw[h.at (h.w.other hz)];exact h2⟩
theorem Lone.conn{d:aj}{v:ah}(h:Lone d v){a b:ID}:cU (bj d v.1 zI) a b↔cU d a b:=by
 constructor
 ·intro k
  induction k with
  |refl=>exact .refl _
  |tail _ j ih=>exact ih.tail (h.ZZ.1 j)
 ·intro k
  induction k with
  |refl=>exact .refl _
  |tail _ j ih=>exact ih.tail (h.ZZ.2 j)
theorem Lone.alone{d:aj}{v:ah}(h:Lone d v){b:ID}(k:cU d v.1 b):b=v.1:=by
 have key:∀{a b:ID},cU d a b→a=v.1→b=v.1:=fun {a b} k ha=>by
  induction k with
  |refl=>exact ha
  |tail _ j ih =>obtain⟨z,hz,h1,_⟩:=j;obtain⟨u,hu,Ll,yG⟩:=wj h.w hz;rw[yG,ih]at h1;have:=ac5 h1;rw[MV h.w.sv h.m hu this,h.r]at Ll;simp at Ll
 exact key k rfl
theorem Lone.VN{d:aj}{v:ah}(h:Lone d v){R:List ID}(hr:wi d R):∃R2,wi (bj d v.1 zI) R2∧R2.length+1=R.length:=by
 obtain⟨r,zK,hvr⟩:=hr.c v h.m;have hv:v.1∈R:=by rw[←h.alone hvr];exact zK
 refine⟨R.erase v.1,⟨hr.n.erase _,fun s hs=>?_,fun s hs t ht k=>hr.i s (aeY hs) t (aeY ht) (h.conn.1 k),fun u hu=>?_⟩,?_⟩
 ·obtain⟨u,hu,he⟩:=hr.v s (aeY hs);refine⟨u,h.mem.2 ⟨hu,fun k=>?_⟩,he⟩;have:s=v.1:=he.symm.trans k;subst this;exact absurd hs (List.Nodup.not_mem_erase hr.n)
 ·obtain⟨hu1,hu2⟩:=h.mem.1 hu;obtain⟨s,hs,UH⟩:=hr.c u hu1;refine⟨s,(aeZ fun k=>?_).2 hs,h.conn.2 UH⟩;subst k;exact hu2 (h.alone (UH.symm h.w))
 ·rw[List.length_erase_of_mem hv];have:=aeI hv;omega
theorem Lone.ph{d:aj}{v:ah}(h:Lone d v){z:ae}(hz:z∈ax d.1):ph (bj d v.1 zI) z=ph d z:=by rw[nj hz,nj (h.T1.mem_iff.2 hz)];obtain⟨u,hu,Ll⟩:=bh.1 (h.w.other hz);rw[oT h.w.rw hu Ll,oT h.wf.rw (h.T2 hu Ll) Ll]
theorem Lone.cZ{d:aj}{v:ah}(h:Lone d v):(Vs.cZ (bj d v.1 zI)).length=(Vs.cZ d).length:=by have a:=cg h.wf;have b:=cg h.w;refine G4.count h.w.rw.n ⟨fun c hc=>?_,a.p.trans h.T1⟩ b;refine(a.c c hc).congr fun z hz=>?_;have:z∈ax (bj d v.1 zI).1:=a.p.mem_iff.1 (aeD.2 ⟨c,hc,hz⟩);exact(h.ph (h.T1.mem_iff.1 this)).symm
theorem De{d:aj}(hw:Wf d){R:List ID}(hr:wi d R):fb d=(R.length:Int):=by rw[sM hw,(nm hw (fH hw)).len hw hr]
structure wA(d:aj)(v:ah)(y:ae):Prop where
 w:Wf d
 m:v∈d.1
 r:v.2.1=[y]
theorem wA.mem{d:aj}{v:ah}{y:ae}(h:wA d v y):y∈ax d.1:=bh.2 ⟨v,h.m,by rw[h.r];simp⟩
theorem wA.cut{d:aj}{v:ah}{y:ae}(h:wA d v y):b4 d y.1:=by obtain⟨e,he,h1,_⟩:=cG.1 (h.w.pd.mem_iff.1 h.mem);exact⟨h.w,by unfold aX;rw[List.find?_isSome];exact⟨e,he,by simpa using h1⟩⟩
theorem wA.lone{d:aj}{v:ah}{y:ae}(h:wA d v y):∃u,Lone (dv d y.1) u∧u.1=v.1:=by
 obtain⟨u,hu,bS⟩:=h.cut.Ln.2 ⟨v,h.m,rfl⟩;refine⟨u,⟨h.cut.w,hu,?_⟩,bS⟩
 cases hq:u.2.1 with
 |nil=>rfl
 |cons z r =>
  exfalso;have hz:z∈u.2.1:=by rw[hq];simp
  have hzd:z∈ax (dv d y.1).1:=bh.2 ⟨u,hu,hz⟩;have h1:bP (dv d y.1) z=some u.1:=iJ h.cut.w.rw hu hz;rw[h.cut.at hzd,bS]at h1;obtain⟨w,hw,G5,yG⟩:=wj h.w (h.cut.sub hzd);rw[yG]at h1;have hwv:=MV h.w.sv h.m hw (ac5 h1);rw[hwv,h.r]at G5;have hzy:z=y:=by simpa using G5
  have nd:=h.cut.p.nodup_iff.1 h.w.rw.n;have e:y=(y.1,y.2):=rfl;rcases h.w.side h.mem with k|k
  ·rw[k]at e;exact(adi.1 nd).1 (acm _ (e▸hzy▸hzd))
  ·rw[k]at e;exact(adi.1 (adi.1 nd).2).1 (e▸hzy▸hzd)
theorem wA.back{d:aj}{v:ah}{y:ae}(h:wA d v y):ph d (au y)=y:=by
 rw[nj (h.w.other h.mem),lq (h.w.side h.mem)];have hy:y∈v.2.1:=by rw[h.r];simp
 rw[oT h.w.rw h.m hy];exact(E2 (h.w.rw.ring h.m) hy).2 (by rw[h.r];rfl)
theorem wA.one{d:aj}{v:ah}{y:ae}(h:wA d v y):Ti d (y.1,0) (y.1,1):=by
 have hm:au y∈(cZ d).flatten:=(cg h.w).p.mem_iff.2 (h.w.other h.mem);obtain⟨c,hc,h1⟩:=aeD.1 hm;have h2:=((cg h.w).c c hc).step h1;rw[h.back]at h2;have e:y=(y.1,y.2):=rfl;have eo:au y=(y.1,(au y).2):=rfl;obtain⟨_,k⟩:=iW (h.w.side h.mem);rcases k with⟨k1,k2⟩|⟨k1,k2⟩
 ·rw[k1]at e;rw[k2]at eo;exact⟨c,hc,e▸h2,eo▸h1⟩
 ·rw[k1]at e;rw[k2]at eo;exact⟨c,hc,eo▸h1,e▸h2⟩
theorem wA.cZ{d:aj}{v:ah}{y:ae}(h:wA d v y):(Vs.cZ (dv d y.1)).length≤(Vs.cZ d).length:=by
 have h1:=(h.cut.same h.one).2;have hb:=h.back;have e:y=(y.1,y.2):=rfl;have eo:au y=(y.1,(au y).2):=rfl;obtain⟨_,k⟩:=iW (h.w.side h.mem);rcases k with⟨k1,k2⟩|⟨k1,k2⟩
 ·rw[k1]at e;rw[k2]at eo;have:ph d (y.1,1)=(y.1,0):=by rw[←eo,hb];exact e
  rw[if_pos this]at h1
  split at h1<;>omega
 ·rw[k1]at e;rw[k2]at eo;have:ph d (y.1,0)=(y.1,1):=by rw[←eo,hb];exact e
  rw[if_pos this]at h1
  split at h1<;>omega
theorem wA.parts{d:aj}{v:ah}{y:ae}(h:wA d v y){u:ah}(hu:Lone (dv d y.1) u)(bS:u.1=v.1):fb (bj (dv d y.1) v.1 zI)=fb d:=by
 obtain⟨a,b,ha,hb,_,_⟩:=h.cut.MX;have hr:=nm h.w (fH h.w);have Us:bP d y=some v.1:=iJ h.w.rw h.m (by rw[h.r];simp);have Up:bP d (au y)≠some v.1:=fun k=>by
  obtain⟨w,hw,G5,yG⟩:=wj h.w (h.w.other h.mem);rw[yG]at k;rw[MV h.w.sv h.m hw (Option.some.inj k),h.r]at G5;have G5:au y=y:=by simpa using G5
  obtain⟨_,m⟩:=iW (h.w.side h.mem);rw[G5]at m;omega
 have bw:a≠b∧(a=v.1∨b=v.1):=by
  have e:y=(y.1,y.2):=rfl;have eo:au y=(y.1,(au y).2):=rfl;obtain⟨_,k⟩:=iW (h.w.side h.mem);rcases k with⟨k1,k2⟩|⟨k1,k2⟩
  ·rw[k1]at e;rw[k2]at eo;rw[e,ha]at Us;rw[eo,hb]at Up;have:=ac5 Us;exact⟨fun k=>Up (by rw[←k,this]),.inl this⟩
  ·rw[k1]at e;rw[k2]at eo;rw[e,hb]at Us;rw[eo,ha]at Up;have:=ac5 Us;exact⟨fun k=>Up (by rw[k,this]),.inr this⟩
 have yr:¬cU (dv d y.1) a b:=fun k=>by
  rcases bw.2 with m|m
  ·rw[m,←bS]at k;exact bw.1 (m.trans (bS▸hu.alone k).symm)
  ·rw[m,←bS]at k;exact bw.1 ((bS▸hu.alone (k.symm h.cut.w):a=v.1).trans m.symm)
 obtain⟨R2,h2,h3⟩:=h.cut.Xy ha hb yr hr;obtain⟨R3,h4,h5⟩:=hu.VN h2;rw[bS]at h4;have hwf:=hu.wf;rw[bS]at hwf;rw[De hwf h4,De h.w hr];omega
theorem GU{k:Int}{x:ID}(hk:k=1∨k=2∨k=4)(hx:cd x=true):bB (SI k x)=0:=by
 unfold bB;have e:p6 (jK (SI k x)) J3=true:=by rcases hk with rfl|rfl|rfl<;>exact(ig _ _).2 rfl
 have h1:(SI k x).1=k:=rfl;rw[if_neg (by rw[h1];omega),if_neg (by rw[h1];omega),if_neg (by simp[SI,hx]),if_neg (by rw[e];simp),if_neg (by rw[h1];omega),if_neg (by rw[h1];omega),if_neg (by rw[h1];omega),if_neg (by rw[h1];omega),if_neg (by rw[h1];omega)]
end Go.Vs
namespace Go.Vs
open Go.Proofs
variable {G:(f:FuncId)→(g:aS)→Option (g.A→Option g.B)}
abbrev hiB(h:jx):StateT:=h.1
abbrev PR(h:jx):Int:=h.2.1
abbrev JO(h:jx):List (List aR):=h.2.2.1
def hiL(h:jx):Int:=PR h+((JO h).length:Nat)
structure T3(m:Nat)(h:jx):Prop where
 b:eO (hiB h)
 f0:0≤PR h
 f1:hiL h≤m
 m1:m≤1000000000
 n:(JO h).length≤64
 r:tF (JO h)
theorem T3.zero:T3 0 (zS,(0,([],()))):=⟨eO.zero,Int.le_refl _,by decide,by decide,aeG _,⟨aeG _,fun e he=>(by cases he),fun e he=>(by cases he)⟩⟩
def aef(h:jx)(e:List aR):(Int×(Int×Unit))×jx :=if eE e≠0 then((0,(eE e,())),h) else if 64≤(JO h).length then((0,(20,())),h) else((hiL h+1,(0,())),(hiB h,(PR h,(JO h++[e],()))))
theorem T3.mono{m k:Nat}{h:jx}(ho:T3 m h)(hk:m≤k)(h1:k≤1000000000):T3 k h:=⟨ho.b,ho.f0,by have:=ho.f1;omega,h1,ho.n,ho.r⟩
theorem T3.add{m:Nat}{h:jx}(ho:T3 m h)(hm:m<1000000000){e:List aR}(he:e.length≤1073741824)(hf:∀o∈e,Fit o):T3 (m+1) (aef h e).2:=by
 unfold aef
 split
 ·exact ho.mono (by omega) (by omega)
 split
 ·exact ho.mono (by omega) (by omega)
 ·rename_i h1 h2;have h3:=ho.f1;have hl:hiL h=PR h+((JO h).length:Nat):=rfl;refine⟨ho.b,ho.f0,?_,by omega,?_,?_,fun p hp=>?_,fun p hp=>?_⟩
  ·show PR h+(((JO h++[e]).length:Nat):Int)≤_;simp;omega
  ·show(JO h++[e]).length≤64;simp;omega
  ·show(JO h++[e]).length≤_;simp;omega
  ·rcases ac8.1 (show p∈JO h++[e] from hp) with hp|hp
   ·exact ho.r.e p hp
   ·rw[List.mem_singleton.1 hp];exact he
  ·rcases ac8.1 (show p∈JO h++[e] from hp) with hp|hp
   ·exact ho.r.f p hp
   ·rw[List.mem_singleton.1 hp];exact hf
def hIn(h:jx)(n:Int):Prop:=PR h≤n∧n≤hiL h
instance (h:jx) (n:Int):Decidable (hIn h n):=by unfold hIn;infer_instance
def atH(h:jx)(n:Int):StateT×(Int×Unit):=if hIn h n then(JH ((JO h).take (n-PR h).toNat) (hiB h),(0,())) else(zS,(26,()))
theorem tF.take{l:List (List aR)}(h:tF l)(n:Nat):tF (l.take n):=h.mem (fun e he=>List.mem_of_mem_take he) (by have:=h.n;simp;omega)
theorem tF.drop{l:List (List aR)}(h:tF l)(n:Nat):tF (l.drop n):=h.mem (fun e he=>aeS he) (by have:=h.n;simp;omega)
def XI(h:jx)(n:Int):Int×jx:=if hIn h n then(0,(JH ((JO h).take (n-PR h).toNat) (hiB h),(n,((JO h).drop (n-PR h).toNat,())))) else(26,h)
theorem T3.comp{m:Nat}{h:jx}(ho:T3 m h)(n:Int):T3 m (XI h n).2:=by
 unfold XI;have h1:=ho.f0;have h2:=ho.f1;have h3:=ho.n;have hl:hiL h=PR h+((JO h).length:Nat):=rfl;by_cases hi:hIn h n
 ·rw[if_pos hi];unfold hIn at hi;refine⟨eO.all _ ho.b,by show 0≤n;omega,?_,ho.m1,?_,ho.r.drop _⟩
  ·show n+((((JO h).drop (n-PR h).toNat).length:Nat):Int)≤m;rw[List.length_drop];omega
  ·show((JO h).drop (n-PR h).toNat).length≤64;rw[List.length_drop];omega
 ·rw[if_neg hi];exact ho
def Df(x:ID)(a b:ng):aR:=(3,(x,(zI,(zI,(a,(b,(false,(e0,0))))))))
def eW(x v w:ID)(n:Int):aR:=(5,(x,(v,(w,(zC,(zC,(false,(e0,n))))))))
def aeg(v w:ID):aR:=(6,(v,(zI,(w,(zC,(zC,(false,(e0,0))))))))
def bF(x:ID)(oe:Bool)(l:ByteArray)(n:Int):List aR:=(if l=e0 then[] else[O3 x oe l])++(if n=0 then[] else[PN x oe n])
theorem cF(x:ID)(oe:Bool)(l:ByteArray)(n:Int):(bF x oe l n).length≤2:=by unfold bF;split<;>split<;>simp
theorem Nn(hG:HG G)(x:ID)(oe:Bool)(l:ByteArray)(n:Int):FX G 75 tu ((x,oe,l,n,()),())=some ((bF x oe l n,()),()):=by
 refine az (hG _ _ rfl) ab4 ?_;unfold bF;by_cases h1:l=e0
 ·rw[if_pos h1];refine ag (show(!(l==e0))=false by rw[K7,decide_eq_true h1];rfl) ?_;by_cases h2:n=0
  ·rw[if_pos h2];exact ag (show(n != 0)=false by simp[h2]) rfl
  ·rw[if_neg h2];exact af (show(n != 0)=true by simp[h2]) (af rfl rfl)
 ·rw[if_neg h1];refine af (show(!(l==e0))=true by rw[K7,decide_eq_false h1];rfl) (af rfl ?_);by_cases h2:n=0
  ·rw[if_pos h2];exact ag (show(n != 0)=false by simp[h2]) rfl
  ·rw[if_neg h2];exact af (show(n != 0)=true by simp[h2]) (af rfl rfl)
theorem aeh(hG:HG G)(e:ai):FX G 138 IE ((e,()),())=some ((e.1,()),()):=az (hG _ _ rfl) acg rfl
theorem T4(hG:HG G)(d:aj)(x:ID)(hl:d.2.length≤1073741824):FX G 111 BT ((d,x,()),())=some (fQ zE (bZ d x),()):=by
 refine az (hG _ _ rfl) acb ?_;have h1:FX G 139137 kD ((d.2,x,()),())=some (fQ zE (aX d.2 x),()):=by
  refine az (hG _ _ rfl) Sd ?_;have loop:∀(n i:Nat),i+n=d.2.length→LX G 139137 kD Tryz.f137 ml (aO Tryz.prog 137 0) ((d.2,(((d.2.length:Nat):Int),((i:Int),()))),(((x,()),((zE,()),())),()))=some (fQ zE (aX (d.2.drop i) x),()):=by
   intro n
   induction n with
   |zero =>intro i hi;refine ao Cp (ag (decide_eq_false (show ¬((i:Int)<((d.2.length:Nat):Int)) by omega)) ?_);rw[List.drop_eq_nil_of_le (by omega)];rfl
   |succ n ih =>
    intro i hi;have aF:i<d.2.length:=by omega
    refine ao Cp (af (aY aF) (aa (aA (aaY aF)) (aa (aeh hG d.2[i]) ?_)));rw[List.drop_eq_getElem_cons aF];have hf:aX (d.2[i]::d.2.drop (i+1)) x=if d.2[i].1=x then some d.2[i] else aX (d.2.drop (i+1)) x:=by unfold aX;rw[List.find?_cons];by_cases h:d.2[i].1=x<;>simp[h]
    rw[hf];by_cases h:d.2[i].1=x
    ·rw[if_pos h];refine af ?_ rfl;exact(gM d.2[i].1 x).trans (decide_eq_true h)
    ·rw[if_neg h];refine ag ((gM d.2[i].1 x).trans (decide_eq_false h)) ?_;rw[wI,aD aF hl];exact ih (i+1) (by omega)
  exact loop d.2.length 0 (by omega)
 exact aa h1 rfl
def DT(d:aj)(x eR:ae):ng :=
 let y:=dF (cx (aW d ((bP d x).getD zI)) eR) x
 if y=x then((bP d x).getD zI,zD) else((bP d x).getD zI,y)
theorem XJ(hG:HG G)(d:aj)(x eR:ae)(hw:Wf d):FX G 112 EA ((d,x,eR,()),())=some ((DT d x eR,()),()):=by
 have hs:=hw.sm;refine az (hG _ _ rfl) acd ?_;refine aa (Tt hG d x hs) ?_;show Option.bind (FX G 74 tp ((d,(fQ zI (bP d x)).1,()),())) _=_;rw[dh];refine aa (Jq hG d _ hs) ?_;show Option.bind (FX G 141 BL (((fQ zV (aQ d ((bP d x).getD zI))).1.2.1,eR,()),())) _=_;rw[dh];have PE:=lB hs ((bP d x).getD zI);have Ec:(aW d ((bP d x).getD zI)).Nodup:=by
  unfold aW
  cases hv:aQ d ((bP d x).getD zI) with
  |none=>simp[zV]
  |some v=>exact hw.rw.ring (ady hv)
 refine aa (SS hG (aW d ((bP d x).getD zI)) eR Ec (by omega)) ?_;have WM:=rD (aW d ((bP d x).getD zI)) eR;refine aa (Xv hG (cx (aW d ((bP d x).getD zI)) eR) x (by omega)) ?_;unfold DT;have e1:(wF (cC (cx (aW d ((bP d x).getD zI)) eR) x ((cx (aW d ((bP d x).getD zI)) eR).length-1))).1=dF (cx (aW d ((bP d x).getD zI)) eR) x:=sD _;have hb:=jE (wF (cC (cx (aW d ((bP d x).getD zI)) eR) x ((cx (aW d ((bP d x).getD zI)) eR).length-1))).1 x;rw[e1]at hb;by_cases h:dF (cx (aW d ((bP d x).getD zI)) eR) x=x
 ·refine ag ?_ ?_
  ·show(!(((((wF (cC (cx (aW d ((bP d x).getD zI)) eR) x ((cx (aW d ((bP d x).getD zI)) eR).length-1))).1).1.1==x.1.1)&&(((wF (cC (cx (aW d ((bP d x).getD zI)) eR) x ((cx (aW d ((bP d x).getD zI)) eR).length-1))).1).1.2==x.1.2))&&(((wF (cC (cx (aW d ((bP d x).getD zI)) eR) x ((cx (aW d ((bP d x).getD zI)) eR).length-1))).1).2==x.2)))=false;rw[e1,hb,decide_eq_true h];rfl
  ·refine congrArg (fun c:ng=>some ((c,()),())) ?_;show((bP d x).getD zI,zD)=if dF (cx (aW d ((bP d x).getD zI)) eR) x=x then((bP d x).getD zI,zD) else((bP d x).getD zI,dF (cx (aW d ((bP d x).getD zI)) eR) x)
   rw[if_pos h]
 ·refine af ?_ ?_
  ·show(!(((((wF (cC (cx (aW d ((bP d x).getD zI)) eR) x ((cx (aW d ((bP d x).getD zI)) eR).length-1))).1).1.1==x.1.1)&&(((wF (cC (cx (aW d ((bP d x).getD zI)) eR) x ((cx (aW d ((bP d x).getD zI)) eR).length-1))).1).1.2==x.1.2))&&(((wF (cC (cx (aW d ((bP d x).getD zI)) eR) x ((cx (aW d ((bP d x).getD zI)) eR).length-1))).1).2==x.2)))=true;rw[e1,hb,decide_eq_false h];rfl
  ·refine congrArg (fun c:ng=>some ((c,()),())) ?_;show((bP d x).getD zI,(wF (cC (cx (aW d ((bP d x).getD zI)) eR) x ((cx (aW d ((bP d x).getD zI)) eR).length-1))).1)=if dF (cx (aW d ((bP d x).getD zI)) eR) x=x then((bP d x).getD zI,zD) else((bP d x).getD zI,dF (cx (aW d ((bP d x).getD zI)) eR) x)
   rw[if_neg h,e1]
def jD(d:aj)(x:ID):ByteArray×Int:=((aQ d x).getD zV).2.2
def j8(d:aj)(x:ID):ByteArray×Int:=((bZ d x).getD zE).2
def Dg(d:aj)(x:ID):List aR:=Df x (DT d (x,0) (x,1)) (DT d (x,1) zD)::bF x true (j8 d x).1 (j8 d x).2
theorem aei(hG:HG G)(d:aj)(o:aR)(hw:Wf d):FX G 76 IB ((d,o,()),())=some ((Dg d (aH o),()),()):=by have hs:=hw.sm;have he:=hs.e;refine az (hG _ _ rfl) ab5 ?_;refine aa (T4 hG d (aH o) (by omega)) ?_;refine aa (XJ hG d (aH o,0) (aH o,1) hw) (aa (XJ hG d (aH o,1) zD hw) ?_);show Option.bind (FX G 75 tu ((aH o,true,(fQ zE (bZ d (aH o))).1.2.1,(fQ zE (bZ d (aH o))).1.2.2,()),())) _=_;rw[dh];refine aa (Nn hG _ _ _ _) ?_;have hl:=cF (aH o) true (j8 d (aH o)).1 (j8 d (aH o)).2;exact af (fits (show 1+(bF (aH o) true (j8 d (aH o)).1 (j8 d (aH o)).2).length≤_ by omega)) rfl
def yf(d:aj)(o:aR):List aR :=
 let q:=if fE o=true then j8 d (aH o) else jD d (aH o)
 if o.1=7 then[(o.1,(aH o,(dQ o,(an o,(oA o,(oB o,(fE o,(q.1,oN o))))))))] else[(o.1,(aH o,(dQ o,(an o,(oA o,(oB o,(fE o,(k0 o,q.2))))))))]
theorem aej(hG:HG G)(d:aj)(o:aR)(hw:Wf d):FX G 78 IC ((d,o,()),())=some ((yf d o,()),()):=by
 have hs:=hw.sm;have he:=hs.e;refine az (hG _ _ rfl) ab7 ?_;refine aa (Jq hG d (aH o) hs) ?_;unfold yf
 cases ho:fE o with
 |true =>
  refine af ho (aa (T4 hG d (aH o) (by omega)) ?_);have e1:(fQ zE (bZ d (aH o))).1=(bZ d (aH o)).getD zE:=dh _ _;by_cases h7:o.1=7
  ·refine af (show(o.1==7)=true by simp[h7]) ?_;show some (([(o.1,(aH o,(dQ o,(an o,(oA o,(oB o,(fE o,((fQ zE (bZ d (aH o))).1.2.1,oN o))))))))],()),())=some (((if o.1=7 then _ else _),()),());rw[if_pos h7,e1,ho];rfl
  ·refine ag (show(o.1==7)=false by simp[h7]) ?_;show some (([(o.1,(aH o,(dQ o,(an o,(oA o,(oB o,(fE o,(k0 o,(fQ zE (bZ d (aH o))).1.2.2))))))))],()),())=some (((if o.1=7 then _ else _),()),());rw[if_neg h7,e1,ho];rfl
 |false =>
  refine ag ho ?_;have e1:(fQ zV (aQ d (aH o))).1=(aQ d (aH o)).getD zV:=dh _ _;by_cases h7:o.1=7
  ·refine af (show(o.1==7)=true by simp[h7]) ?_;show some (([(o.1,(aH o,(dQ o,(an o,(oA o,(oB o,(fE o,((fQ zV (aQ d (aH o))).1.2.2.1,oN o))))))))],()),())=some (((if o.1=7 then _ else _),()),());rw[if_pos h7,e1,ho];rfl
  ·refine ag (show(o.1==7)=false by simp[h7]) ?_;show some (([(o.1,(aH o,(dQ o,(an o,(oA o,(oB o,(fE o,(k0 o,(fQ zV (aQ d (aH o))).1.2.2.2))))))))],()),())=some (((if o.1=7 then _ else _),()),());rw[if_neg h7,e1,ho];rfl
theorem aek(hG:HG G)(a b c:List aR)(h:a.length+b.length+c.length≤1000):FX G 113 ni (([a,b,c],()),())=some ((a++b++c,()),()):=by
 refine az (hG _ _ rfl) ace ?_;have w1:∀(i:Nat),i<3→IntKind.wrap .i64 ((i:Int)+1)=((i+1:Nat):Int):=fun i hi=>aD hi (by omega);have fin:LX G 113 ni Tryz.f113 pX (aO Tryz.prog 113 1) (([a,b,c],((3:Int),((0:Int),()))),((),(([]:List aR),())))=some ((a++b++c,()),()):=by
  have step:∀(i:Nat) (p q:List aR),[a,b,c][i]? = some q→p.length+q.length≤1000→i<3 → LX G 113 ni Tryz.f113 pX (aO Tryz.prog 113 1) (([a,b,c],((3:Int),(((i+1:Nat):Int),()))),((),(p++q,())))=some ((a++b++c,()),()) → LX G 113 ni Tryz.f113 pX (aO Tryz.prog 113 1) (([a,b,c],((3:Int),((i:Int),()))),((),(p,())))=some ((a++b++c,()),()):=by intro i p q hq hl hi k;refine ao ME (af (decide_eq_true (show(i:Int)<3 by omega)) (aa (aA hq) (af (fits (show p.length+q.length≤_ by omega)) ?_)));rw[wI,w1 i hi];exact k
  refine step 0 [] a rfl (by simp;omega) (by omega) (step 1 ([]++a) b rfl (by simp;omega) (by omega) (step 2 ([]++a++b) c rfl (by simp;omega) (by omega) ?_));exact ao ME (ag (decide_eq_false (show ¬((3:Int)<3) by decide)) rfl)
 have cnt:∀(i m:Nat) (q:List aR),[a,b,c][i]? = some q→m+q.length≤1000→i<3 → LX G 113 ni Tryz.f113 sw (aO Tryz.prog 113 0) (([a,b,c],(((m+q.length:Nat):Int),([a,b,c],((3:Int),(((i+1:Nat):Int),()))))),((),()))=some ((a++b++c,()),()) → LX G 113 ni Tryz.f113 sw (aO Tryz.prog 113 0) (([a,b,c],((m:Int),([a,b,c],((3:Int),((i:Int),()))))),((),()))=some ((a++b++c,()),()):=by
  intro i m q hq hl hi k;have e:IntKind.wrap .i64 ((m:Int)+((q.length:Nat):Int))=((m+q.length:Nat):Int):=by rw[wrap_small (by omega) (by omega)];omega
  refine ao MD (af (decide_eq_true (show(i:Int)<3 by omega)) (aa (aA hq) ?_));rw[wI,e];refine ag (decide_eq_false (by omega)) ?_;rw[wI,w1 i hi];exact k
 refine cnt 0 0 a rfl (by omega) (by omega) (cnt 1 _ b rfl (by omega) (by omega) (cnt 2 _ c rfl (by omega) (by omega) ?_));refine ao MD (ag (decide_eq_false (show ¬((3:Int)<3) by decide)) ?_);refine af (show qJ ((0+a.length+b.length+c.length:Nat):Int)=true by unfold qJ;rw[Bool.and_eq_true,decide_eq_true_eq,decide_eq_true_eq];have:fj=1073741824:=rfl;omega) ?_;exact fin
def yg(r0 r1:ae)(w:ID):ae×ae:=if r0.1=w then(r1,r0) else(r0,r1)
def cW(d:aj)(o:aR)(r0 r1:ae):List aR :=[eW (yg r0 r1 (an o)).1.1 (aH o) (an o) (1-(yg r0 r1 (an o)).1.2+2*(yg r0 r1 (an o)).2.2)]++bF (aH o) false (jD d (aH o)).1 (jD d (aH o)).2++bF (an o) true (j8 d (an o)).1 (j8 d (an o)).2
theorem No{p q:Int}(hp:p=0∨p=1)(hq:q=0∨q=1) :
  cX .or .i64 (cX .or .i64 0 (IntKind.wrap .i64 (1-p))) (G8 .i64 q 1)=1-p+2*q∧cX .or .i64 (cX .or .i64 0 (G8 .i64 q 1)) (IntKind.wrap .i64 (1-p))=1-p+2*q:=by
 rcases hp with rfl|rfl<;>rcases hq with rfl|rfl<;>exact⟨by decide +kernel,by decide +kernel⟩
theorem ael(hG:HG G)(d:aj)(o:aR)(hw:Wf d){v:ah}{r0 r1:ae}(hv:aQ d (aH o)=some v)(hr:v.2.1=[r0,r1])(bw:r0.1≠r1.1)(ZB:r0.1=an o∨r1.1=an o)(h0:r0.2=0∨r0.2=1)(h1:r1.2=0∨r1.2=1) :
  FX G 77 oG ((d,o,()),())=some ((cW d o r0 r1,()),()):=by
 have hs:=hw.sm;have he:=hs.e;refine az (hG _ _ rfl) ab6 ?_;refine aa (Jq hG d (aH o) hs) (aa (T4 hG d (an o) (by omega)) ?_);have ev:(fQ zV (aQ d (aH o))).1=v:=by rw[hv];rfl
 have ee:(fQ zE (bZ d (an o))).1=(bZ d (an o)).getD zE:=dh _ _;show LX G 77 oG Tryz.f77 jy (aO Tryz.prog 77 0) (((fQ zV (aQ d (aH o))).1.2.1,((((fQ zV (aQ d (aH o))).1.2.1.length:Nat):Int),((0:Int),()))),(((o,()),(((fQ zV (aQ d (aH o))).1,()),(((fQ zE (bZ d (an o))).1,()),((eW zI (aH o) (an o) 0,()),())))),()))=_;rw[ev,ee,hr];have XK:∀(i:Nat) (r:ae) (p:ID) (n:Int),[r0,r1][i]? = some r→r.1=an o→i<2 → LX G 77 oG Tryz.f77 jy (aO Tryz.prog 77 0) (([r0,r1],((2:Int),(((i+1:Nat):Int),()))),(((o,()),((v,()),(((bZ d (an o)).getD zE,()),((eW p (aH o) (an o) (cX .or .i64 n (G8 .i64 r.2 1)),()),())))),()))=some ((cW d o r0 r1,()),()) → LX G 77 oG Tryz.f77 jy (aO Tryz.prog 77 0) (([r0,r1],((2:Int),((i:Int),()))),(((o,()),((v,()),(((bZ d (an o)).getD zE,()),((eW p (aH o) (an o) n,()),())))),()))=some ((cW d o r0 r1,()),()):=by intro i r p n hi hro h2 k;refine ao Ga (af (decide_eq_true (show(i:Int)<2 by omega)) (aa (aA hi) (af ((gM r.1 (an o)).trans (decide_eq_true hro)) (ag rfl ?_))));rw[wI,aD h2 (by omega)];exact k
 have XL:∀(i:Nat) (r:ae) (p:ID) (n:Int),[r0,r1][i]? = some r→r.1≠an o→i<2 → LX G 77 oG Tryz.f77 jy (aO Tryz.prog 77 0) (([r0,r1],((2:Int),(((i+1:Nat):Int),()))),(((o,()),((v,()),(((bZ d (an o)).getD zE,()),((eW r.1 (aH o) (an o) (cX .or .i64 n (IntKind.wrap .i64 (1-r.2))),()),())))),()))=some ((cW d o r0 r1,()),()) → LX G 77 oG Tryz.f77 jy (aO Tryz.prog 77 0) (([r0,r1],((2:Int),((i:Int),()))),(((o,()),((v,()),(((bZ d (an o)).getD zE,()),((eW p (aH o) (an o) n,()),())))),()))=some ((cW d o r0 r1,()),()):=by intro i r p n hi hro h2 k;refine ao Ga (af (decide_eq_true (show(i:Int)<2 by omega)) (aa (aA hi) (ag ((gM r.1 (an o)).trans (decide_eq_false hro)) ?_)));rw[wI,aD h2 (by omega)];exact k
 have fin:∀n:Int,n=1-(yg r0 r1 (an o)).1.2+2*(yg r0 r1 (an o)).2.2 → LX G 77 oG Tryz.f77 jy (aO Tryz.prog 77 0) (([r0,r1],((2:Int),(((2:Nat):Int),()))),(((o,()),((v,()),(((bZ d (an o)).getD zE,()),((eW (yg r0 r1 (an o)).1.1 (aH o) (an o) n,()),())))),()))=some ((cW d o r0 r1,()),()):=by intro n hn;refine ao Ga (ag (decide_eq_false (show ¬((2:Int)<2) by decide)) ?_);refine aa (Nn hG (aH o) false v.2.2.1 v.2.2.2) (aa (Nn hG (an o) true ((bZ d (an o)).getD zE).2.1 ((bZ d (an o)).getD zE).2.2) ?_);have l1:=cF (aH o) false v.2.2.1 v.2.2.2;have l2:=cF (an o) true ((bZ d (an o)).getD zE).2.1 ((bZ d (an o)).getD zE).2.2;refine aa (aek hG [eW (yg r0 r1 (an o)).1.1 (aH o) (an o) n] (bF (aH o) false v.2.2.1 v.2.2.2) (bF (an o) true ((bZ d (an o)).getD zE).2.1 ((bZ d (an o)).getD zE).2.2) (by show 1+(bF (aH o) false v.2.2.1 v.2.2.2).length+(bF (an o) true ((bZ d (an o)).getD zE).2.1 ((bZ d (an o)).getD zE).2.2).length≤_;omega)) ?_;unfold cW jD j8;rw[hv,←hn];rfl
 by_cases h:r0.1=an o
 ·have h':r1.1≠an o:=fun k=>bw (h.trans k.symm);have mH:yg r0 r1 (an o)=(r1,r0):=if_pos h;refine XK 0 r0 _ _ rfl h (by omega) (XL 1 r1 _ _ rfl h' (by omega) ?_);have:=fin (cX .or .i64 (cX .or .i64 0 (G8 .i64 r0.2 1)) (IntKind.wrap .i64 (1-r1.2))) (by rw[mH];exact(No h1 h0).2);rw[mH]at this;exact this
 ·have h':r1.1=an o:=ZB.resolve_left h;have mH:yg r0 r1 (an o)=(r0,r1):=if_neg h;refine XL 0 r0 _ _ rfl h (by omega) (XK 1 r1 _ _ rfl h' (by omega) ?_);have:=fin (cX .or .i64 (cX .or .i64 0 (IntKind.wrap .i64 (1-r0.2))) (G8 .i64 r1.2 1)) (by rw[mH];exact(No h0 h1).1);rw[mH]at this;exact this
def anJ(x v:ID)(n:Int):aR:=(5,(x,(v,(v,(zC,(zC,(false,(e0,n))))))))
def GW(v w:ID):aR:=(6,(v,(zI,(w,(zC,(zC,(false,(e0,0))))))))
theorem T5{v w:ID}(hv:cd v=true)(hw:cd w=true):bB (GW v w)=0:=by
 unfold bB;rw[if_neg (by simp[GW]),if_neg (by simp[GW]),if_neg (by simp[GW,hv]),if_neg,if_neg (by simp[GW]),if_neg (by simp[GW]),if_pos (show(GW v w).1=6 from rfl)]
 ·exact if_pos hw
 intro h;have:p6 (jK (GW v w)) J3=true:=(ig _ _).2 rfl;rw[this]at h;cases h
def LU(s:StateT)(o:aR):List aR :=if o.1=1 then[SI 2 (aH o)]
 else if o.1=2 then SI 1 (aH o)::bF (aH o) false (jD s.1 (aH o)).1 (jD s.1 (aH o)).2
 else if o.1=3 then[SI 4 (aH o)]
 else if o.1=4 then Dg s.1 (aH o)
 else if o.1=5 then[GW (dQ o) (an o)]
 else if o.1=6 then(match ((aQ s.1 (aH o)).getD zV).2.1 with | [r0,r1]=>cW s.1 o r0 r1|_=>[])
 else yf s.1 o
def uG(s:StateT)(o:aR):List aR:=if(c7 s o).2.1≠0 then[] else LU s o
theorem wB{s:StateT}{o:aR}(h:(c7 s o).2.1=0):bB o=0:=by
 unfold c7 at h;by_cases hm:bB o=0
 ·exact hm
 ·rw[if_pos hm]at h;exact absurd h hm
theorem yh{s:StateT}{o:aR}(h:(c7 s o).2.1=0)(hk:o.1=6):∃v r0 r1,aQ s.1 (aH o)=some v∧v.2.1=[r0,r1]∧r0.1≠r1.1∧(r0.1=an o∨r1.1=an o):=by
 unfold c7 at h;rw[if_neg (by simp[wB h]),if_neg (by omega),if_neg (by omega),if_neg (by omega),if_neg (by omega),if_neg (by omega),if_pos hk]at h;unfold kh at h
 split at h
 ·cases h
 ·rename_i v hv
  split at h
  ·rename_i r0 r1 hr;unfold jz at h
   split at h
   ·cases h
   rename_i h1
   split at h
   ·rename_i h2;exact⟨v,r0,r1,hv,hr,h1,.inl h2⟩
   split at h
   ·rename_i h2;exact⟨v,r0,r1,hv,hr,h1,.inr h2⟩
   ·cases h
  ·cases h
theorem T6(hG:HG G)(GQ:∀o,nQ G o)(s:StateT)(o:aR)(h:eO s)(hf:Fit o):FX G 44 BR ((s,o,()),())=some ((uG s o,()),()):=by
 refine az (hG _ _ rfl) abW ?_;refine aa (CO hG s o h hf fun hm h3=>GQ o s h hm h3) ?_;unfold uG;by_cases h0:(c7 s o).2.1=0
 case neg=>rw[if_pos h0];exact af (show((c7 s o).2.1 != 0)=true by simp[h0]) rfl
 rw[if_neg (by simp[h0])];refine ag (show((c7 s o).2.1 != 0)=false by simp[h0]) ?_;have hm:=wB h0;obtain⟨k1,k8⟩:=mA hm;have hs:=h.d.sm;unfold LU;have no:∀k:Int,¬o.1=k→(o.1==k)=false:=fun k hk=>by simp[hk]
 have ye:∀k:Int,o.1=k→(o.1==k)=true:=fun k hk=>by simp[hk]
 by_cases h1:o.1=1
 ·rw[if_pos h1];exact af (ye 1 h1) rfl
 rw[if_neg h1];refine ag (no 1 h1) ?_;by_cases h2:o.1=2
 ·rw[if_pos h2];refine af (ye 2 h2) (aa (Jq hG s.1 (aH o) hs) ?_);have e1:(fQ zV (aQ s.1 (aH o))).1=(aQ s.1 (aH o)).getD zV:=dh _ _;show Option.bind (FX G 75 tu ((aH o,false,(fQ zV (aQ s.1 (aH o))).1.2.2.1,(fQ zV (aQ s.1 (aH o))).1.2.2.2,()),())) _=_;rw[e1];refine aa (Nn hG _ _ _ _) ?_;have hl:=cF (aH o) false (jD s.1 (aH o)).1 (jD s.1 (aH o)).2;exact af (fits (show 1+(bF (aH o) false (jD s.1 (aH o)).1 (jD s.1 (aH o)).2).length≤_ by omega)) rfl
 rw[if_neg h2];refine ag (no 2 h2) ?_;by_cases h3:o.1=3
 ·rw[if_pos h3];exact af (ye 3 h3) rfl
 rw[if_neg h3];refine ag (no 3 h3) ?_;by_cases h4:o.1=4
 ·rw[if_pos h4];exact af (ye 4 h4) (aa (aei hG s.1 o h.d) rfl)
 rw[if_neg h4];refine ag (no 4 h4) ?_;by_cases h5:o.1=5
 ·rw[if_pos h5];exact af (ye 5 h5) rfl
 rw[if_neg h5];refine ag (no 5 h5) ?_;by_cases h6:o.1=6
 ·rw[if_pos h6];obtain⟨v,r0,r1,hv,hr,bw,ZB⟩:=yh h0 h6;have SV:v∈s.1.1:=ady hv;have side:∀r∈v.2.1,r.2=0∨r.2=1:=fun r hr=>h.d.side (bh.2 ⟨v,SV,hr⟩);have hg:((aQ s.1 (aH o)).getD zV).2.1=[r0,r1]:=by rw[hv];exact hr
  rw[hg];exact af (ye 6 h6) (aa (ael hG s.1 o h.d hv hr bw ZB (side r0 (by rw[hr];simp)) (side r1 (by rw[hr];simp))) rfl)
 rw[if_neg h6];exact ag (no 6 h6) (aa (aej hG s.1 o h.d) rfl)
theorem Pr{row:List ae}{x:ae}(h:x∈row):dF row x∈row:=by have hl:0<row.length:=aeI h;unfold dF cC;rw[if_pos h];have aF:((idx x row 0).toNat+(row.length-1))%row.length<row.length:=aeV _ hl;rw[List.getElem?_eq_getElem aF];exact adv aF
theorem T7{row:List ae}{x eR:ae}(h:x∈row)(bw:x≠eR):x∈cx row eR:=by unfold cx;exact(j0 _).mem_iff.2 (aeK.2 ⟨h,decide_eq_true bw⟩)
theorem T8{row:List ae}{x eR:ae}(h:x∈cx row eR):x∈row:=by unfold cx at h;exact(aeK.1 ((j0 _).mem_iff.1 h)).1
theorem GX{d:aj}(h:Wf d){x:ae}(hx:x∈ax d.1):∃v∈d.1,x∈v.2.1∧bP d x=some v.1∧aW d v.1=v.2.1:=by obtain⟨v,hv,jF⟩:=bh.1 hx;exact⟨v,hv,jF,iJ h.rw hv jF,iU h.sv hv⟩
theorem Np{d:aj}(h:Wf d){x eR:ae}(hx:x∈ax d.1)(bw:x≠eR):rC (DT d x eR)=true:=by
 obtain⟨v,hv,jF,ha,hr⟩:=GX h hx;have hi:=(h.gv v hv).i;unfold DT;rw[ha];simp only[Option.getD_some];rw[hr];have hm:=T8 (Pr (T7 jF bw))
 split
 ·unfold rC;simp[hi]
 ·obtain⟨e,he,h1,h2⟩:=cG.1 (h.pd.mem_iff.1 (bh.2 ⟨v,hv,hm⟩));unfold rC IS;rw[hi,←h1,(h.ge e he).i,decide_eq_true h2];rfl
theorem Ps{n:ID}{a b:ng}(hn:cd n=true)(ha:rC a=true)(hb:rC b=true):bB (Df n a b)=0:=by
 unfold bB;rw[if_neg (by simp[Df]),if_neg (by simp[Df]),if_neg (by simp[Df,hn]),if_neg,if_pos (show(Df n a b).1=3 from rfl)]
 ·exact if_pos ⟨ha,hb⟩
 intro h;have:p6 (jK (Df n a b)) J3=true:=(ig _ _).2 rfl;rw[this]at h;cases h
theorem zm{x v w:ID}{n:Int}(hx:cd x=true)(hv:cd v=true)(hw:cd w=true)(h0:0≤n)(h3:n≤3):bB (eW x v w n)=0:=by
 unfold bB;rw[if_neg (by simp[eW]),if_neg (by simp[eW]),if_neg (by simp[eW,hx]),if_neg,if_neg (by simp[eW]),if_pos (show(eW x v w n).1=5 from rfl)]
 ·exact if_pos ⟨hv,hw,h0,h3⟩
 intro h;have:p6 (jK (eW x v w n)) J3=true:=(ig _ _).2 rfl;rw[this]at h;cases h
theorem nr{x:ID}{oe:Bool}{l:ByteArray}{n:Int}(hx:cd x=true)(hl:mN l=true)(hn:kH n=true):∀p∈bF x oe l n,bB p=0:=fun p hp=>by
 unfold bF at hp;rcases ac8.1 hp with hp|hp
 ·split at hp
  ·cases hp
  ·rw[List.mem_singleton.1 hp];exact MT hx hl
 ·split at hp
  ·cases hp
  ·rw[List.mem_singleton.1 hp];exact MU hx hn
theorem T9{o:aR}(h:bB o=0):jK o=J3:=by
 unfold bB at h
 split at h;· cases h
 split at h;· cases h
 split at h;· cases h
 split at h;· cases h
 rename_i h4;exact(ig _ _).1 (by simpa using h4)
theorem Dh{d:aj}(h:Wf d)(x:ID):mN (jD d x).1=true∧kH (jD d x).2=true:=by
 unfold jD
 cases hv:aQ d x with
 |none=>exact⟨lE,lF⟩
 |some v=>have:=h.gv v (ady hv);exact⟨this.l,this.a⟩
theorem Di{d:aj}(h:Wf d)(x:ID):mN (j8 d x).1=true∧kH (j8 d x).2=true:=by
 unfold j8
 cases hv:bZ d x with
 |none=>exact⟨lE,lF⟩
 |some v=>have:=h.ge v (ady hv);exact⟨this.l,this.a⟩
theorem JP{o:aR}(hm:bB o=0)(hk:7≤o.1)(d:aj):yf d o=if o.1=7 then[O3 (aH o) (fE o) (if fE o=true then j8 d (aH o) else jD d (aH o)).1] else[PN (aH o) (fE o) (if fE o=true then j8 d (aH o) else jD d (aH o)).2]:=by
 have hr:=T9 hm;obtain⟨k1,k8⟩:=mA hm;obtain⟨k,x,nw,ot,a,b,oe,t,n⟩:=o;simp only at hk k8;unfold yf;by_cases h7:k=7
 ·subst h7;unfold jK at hr;simp only[show ¬(7:Int)=3 by decide,show ¬(7:Int)=5 by decide,show ¬(7:Int)=6 by decide,if_false,if_true,J3,Prod.mk.injEq,true_and]at hr;obtain⟨rfl,rfl,rfl,rfl,rfl⟩:=hr;rfl
 ·have h8:k=8:=by omega
  subst h8;unfold jK at hr;simp only[show ¬(8:Int)=3 by decide,show ¬(8:Int)=5 by decide,show ¬(8:Int)=6 by decide,show ¬(8:Int)=7 by decide,if_false,if_true,J3,Prod.mk.injEq,true_and,and_true]at hr;obtain⟨rfl,rfl,rfl,rfl,rfl⟩:=hr;rfl
theorem Fc{s:StateT}{o:aR}(h:(c7 s o).2.1=0)(hk:o.1=4):(bZ s.1 (aH o)).isSome=true:=by
 unfold c7 at h;rw[if_neg (by simp[wB h]),if_neg (by omega),if_neg (by omega),if_neg (by omega),if_pos hk]at h;unfold DQ at h
 split at h
 ·cases h
 ·rename_i h1;exact xR h1
theorem smN{p q:Int}(hp:p=0∨p=1)(hq:q=0∨q=1):0≤1-p+2*q∧1-p+2*q≤3:=by omega
theorem Wr{s:StateT}{o:aR}(hw:eO s)(h:(c7 s o).2.1=0):(∀p∈LU s o,bB p=0)∧1≤(LU s o).length∧(LU s o).length≤5:=by
 have hm:=wB h;obtain⟨k1,k8⟩:=mA hm;have hi:=Lf hm;have one:∀{p:aR} {l:List aR},l=[p]→bB p=0→(∀q∈l,bB q=0)∧1≤l.length∧l.length≤5:=fun {p l} e hp=>by subst e;exact⟨fun q hq=>by rw[List.mem_singleton.1 hq];exact hp,by simp,by simp⟩
 unfold LU;by_cases h1:o.1=1
 ·rw[if_pos h1];exact one rfl (GU (.inr (.inl rfl)) hi)
 rw[if_neg h1];by_cases h2:o.1=2
 ·rw[if_pos h2];have hl:=cF (aH o) false (jD s.1 (aH o)).1 (jD s.1 (aH o)).2;obtain⟨q1,q2⟩:=Dh hw.d (aH o);refine⟨fun p hp=>?_,by simp,by simp only[List.length_cons];omega⟩;rcases acp.1 hp with rfl|hp
  ·exact GU (.inl rfl) hi
  ·exact nr hi q1 q2 p hp
 rw[if_neg h2];by_cases h3:o.1=3
 ·rw[if_pos h3];exact one rfl (GU (.inr (.inr rfl)) hi)
 rw[if_neg h3];by_cases h4:o.1=4
 ·rw[if_pos h4];have he:=Fc h h4;have hx:=hw.d.jA he (s:=0) (.inl rfl);have hy:=hw.d.jA he (s:=1) (.inr rfl);obtain⟨q1,q2⟩:=Di hw.d (aH o);have hl:=cF (aH o) true (j8 s.1 (aH o)).1 (j8 s.1 (aH o)).2;unfold Dg;refine⟨fun p hp=>?_,by simp,by simp only[List.length_cons];omega⟩;rcases acp.1 hp with rfl|hp
  ·exact Ps hi (Np hw.d hx (fun e=>by have:=congrArg (·.2) e;simp at this)) (Np hw.d hy (fun e=>by have:=congrArg (·.1) e;have e2:aH o=zI:=this;rw[e2]at hi;cases hi))
  ·exact nr hi q1 q2 p hp
 rw[if_neg h4];by_cases h5:o.1=5
 ·rw[if_pos h5];obtain⟨a,b,_,_⟩:=xQ hm h5;exact one rfl (T5 a b)
 rw[if_neg h5];by_cases h6:o.1=6
 ·rw[if_pos h6];obtain⟨v,r0,r1,hv,hr,bw,ZB⟩:=yh h h6;have SV:v∈s.1.1:=ady hv;have hg:((aQ s.1 (aH o)).getD zV).2.1=[r0,r1]:=by rw[hv];exact hr
  rw[hg];have side:∀r∈v.2.1,(r.2=0∨r.2=1)∧cd r.1=true:=fun r hr=>by obtain⟨e,he,e1,e2⟩:=cG.1 (hw.d.pd.mem_iff.1 (bh.2 ⟨v,SV,hr⟩));exact⟨e2,by rw[←e1];exact(hw.d.ge e he).i⟩
  have s0:=side r0 (by rw[hr];simp);have s1:=side r1 (by rw[hr];simp);obtain⟨q1,q2⟩:=Dh hw.d (aH o);obtain⟨q3,q4⟩:=Di hw.d (an o);have ho:=Lg hm h6;have l1:=cF (aH o) false (jD s.1 (aH o)).1 (jD s.1 (aH o)).2;have l2:=cF (an o) true (j8 s.1 (an o)).1 (j8 s.1 (an o)).2;show(∀p∈cW s.1 o r0 r1,bB p=0)∧1≤(cW s.1 o r0 r1).length∧(cW s.1 o r0 r1).length≤5;unfold cW;refine⟨fun p hp=>?_,by simp only[List.length_append,List.length_cons,List.length_nil];omega,by simp only[List.length_append,List.length_cons,List.length_nil];omega⟩;rcases ac8.1 hp with hp|hp
  ·rcases ac8.1 hp with hp|hp
   ·rw[List.mem_singleton.1 hp];unfold yg
    split
    ·obtain⟨n0,n3⟩:=smN s1.1 s0.1;exact zm s1.2 hi ho n0 n3
    ·obtain⟨n0,n3⟩:=smN s0.1 s1.1;exact zm s0.2 hi ho n0 n3
   ·exact nr hi q1 q2 p hp
  ·exact nr ho q3 q4 p hp
 rw[if_neg h6];obtain⟨q1,q2⟩:=Dh hw.d (aH o);obtain⟨q3,q4⟩:=Di hw.d (aH o);have hq:mN (if fE o=true then j8 s.1 (aH o) else jD s.1 (aH o)).1=true∧kH (if fE o=true then j8 s.1 (aH o) else jD s.1 (aH o)).2=true:=by split;exact⟨q3,q4⟩;exact⟨q1,q2⟩
 rw[JP hm (by omega)]
 split
 ·exact one rfl (MT hi hq.1)
 ·exact one rfl (MU hi hq.2)
theorem wC{s:StateT}(hw:eO s)(o:aR):(uG s o).length≤5:=by
 unfold uG
 split
 ·simp
 ·rename_i h;exact(Wr hw (by simpa using h)).2.2
theorem aem(hG:HG G)(s:StateT)(hs:Sm s.1)(hl:s.2.length≤50000000)(tv:∀v∈s.1.1,v.2.2.1.size≤100000000)(te:∀e∈s.1.2,e.2.1.size≤100000000) :
  ∃b,FX G 43 mg ((s,()),())=some ((b,()),())∧(b=true→eO s∧fW s.1=0):=by
 obtain⟨r,q1,q2⟩:=ajQ hG s.1 hs tv te;have loop:∀(n i:Nat),i+n=s.2.length→0<i→(∀j x y,j+1<i→s.2[j]? = some x→s.2[j+1]? = some y→kF x.1 y.1=true) → ∃b,LX G 43 mg Tryz.f43 vL (aO Tryz.prog 43 0) (((i:Int),()),(((s,()),()),()))=some ((b,()),())∧(b=true→eO s∧fW s.1=0):=by
  intro n
  induction n with
  |zero =>
   intro i hi h0 ha;have e1:=@F9 (FX G) (LX G 43 mg Tryz.f43) (((i:Int),()),(((s,()),()),()));have e2:=e1.trans (ag (decide_eq_false (show ¬((i:Int)<((s.2.length:Nat):Int)) by omega)) rfl);by_cases h4:s.2.length≤400
   ·refine⟨r==0,ao (e2.trans (af (decide_eq_true (show((s.2.length:Nat):Int)≤400 by omega)) (aa q1 rfl))) rfl,fun hb=>?_⟩;obtain⟨hw,hg⟩:=q2.1 ((beq_iff_eq (α:=Int)).1 hb);exact⟨⟨hw,TU (R:=fun a b:aB=>kF a.1 b.1=true) (fun a b c=>fS) fun j x y h1 h2=>ha j x y (by have:=(aci.1 h2).1;omega) h1 h2,h4⟩,hg⟩
   ·exact⟨false,ao (e2.trans (ag (decide_eq_false (show ¬((s.2.length:Nat):Int)≤400 by omega)) rfl)) rfl,fun h=>by cases h⟩
  |succ n ih =>
   intro i hi h0 ha;have aF:i<s.2.length:=by omega
   have hx:s.2[i]? = some s.2[i]:=aaY aF;have hy:s.2[i-1]? = some s.2[i-1]:=aaY (by omega);have e1:=@F9 (FX G) (LX G 43 mg Tryz.f43) (((i:Int),()),(((s,()),()),()));have e2:aT s.2 (IntKind.wrap .i64 ((i:Int)-1))=some s.2[i-1]:=by rw[Nk h0 aF (by omega)];exact aA hy
   by_cases hc:kF s.2[i-1].1 s.2[i].1=true
   ·obtain⟨b,h1,h2⟩:=ih (i+1) (by omega) (by omega) (fun j x y hj k1 k2=>by
     by_cases Zz:j+1=i
     ·have ej:j=i-1:=by omega
      subst ej;rw[hy]at k1;rw[show i-1+1=i by omega,hx]at k2
      cases k1;cases k2;exact hc
     ·exact ha j x y (by omega) k1 k2)
    refine⟨b,ao (e1.trans (af (aY aF) (aa e2 (aa (aA hx) (aa (Vt hG _ _) (ag (decide_eq_false ?_) ?_)))))) rfl,h2⟩
    ·have:=(sH s.2[i-1].1 s.2[i].1).2 hc;show ¬(mo s.2[i-1].1 s.2[i].1≥0);omega
    ·rw[wI,aD aF (by omega)];exact h1
   ·refine⟨false,ao (e1.trans (af (aY aF) (aa e2 (aa (aA hx) (aa (Vt hG _ _) (af (decide_eq_true ?_) rfl)))))) rfl,fun h=>by cases h⟩;have:=mt (sH s.2[i-1].1 s.2[i].1).1 hc;show mo s.2[i-1].1 s.2[i].1≥0;omega
 have e0:=@abV (FX G) (LX G 43 mg Tryz.f43) ((s,()),());have fin:∀{y},bR 43 mg Tryz.f43 (FX G) (LX G 43 mg Tryz.f43) ((s,()),())=some y→FX G 43 mg ((s,()),())=some y:=fun {y} h=>az (hG _ _ rfl) h rfl;by_cases h0:s.2.length=0
 ·have e1:=@F9 (FX G) (LX G 43 mg Tryz.f43) (((1:Int),()),(((s,()),()),()));have e2:=e1.trans (ag (decide_eq_false (show ¬((1:Int)<((s.2.length:Nat):Int)) by omega)) rfl);refine⟨r==0,fin (e0.trans (ao (e2.trans (af (decide_eq_true (show((s.2.length:Nat):Int)≤400 by omega)) (aa q1 rfl))) rfl)),fun hb=>?_⟩;obtain⟨hw,hg⟩:=q2.1 ((beq_iff_eq (α:=Int)).1 hb);refine⟨⟨hw,?_,by omega⟩,hg⟩;rw[List.eq_nil_of_length_eq_zero h0];exact List.Pairwise.nil
 ·obtain⟨b,h1,h2⟩:=loop (s.2.length-1) 1 (by omega) (by omega) (fun j x y hj=>by omega);exact⟨b,fin (e0.trans h1),h2⟩
theorem aen(hG:HG G)(GQ:∀o,nQ G o):FX G 42 Iz ((),())=some ((true,()),()):=by refine az (hG _ _ rfl) abU ?_;have h1:=T6 hG GQ zS (SI 1 (1,1)) eO.zero (Wq 1);have e:uG zS (SI 1 (1,1))=[SI 2 (1,1)]:=rfl;rw[e]at h1;exact aa h1 (af rfl (af rfl rfl))
theorem aeo(hG:HG G)(l:List aR):FX G 47 IA ((l,()),())=some ((l.take 8,()),()):=by
 refine az (hG _ _ rfl) abX ?_;by_cases h:8<l.length
 ·have d1:decide (((l.length:Nat):Int)>8)=true:=decide_eq_true (by omega);have d2:bp l.length 0 8=true:=by simp[bp];omega
  simp only[d1,d2];rfl
 ·have d1:decide (((l.length:Nat):Int)>8)=false:=decide_eq_false (by omega);rw[List.take_of_length_le (by omega)];simp only[d1];rfl
def LV:List aR→StateT→List aR→List aR
 |[],_,acc=>acc
 |o::r,s,acc=>LV r (c7 s o).1 (uG s o++acc)
def Ws(s:StateT)(l:List aR):List aR×(Int×Unit):=if(c6 s l).2.1≠0 then([],((c6 s l).2.1,())) else(LV l s [],(0,()))
theorem go_step{s:StateT}{o:aR}{r:List aR}(h:(p7 (o::r) s).2.1=0):(c7 s o).2.1=0∧(p7 r (c7 s o).1).2.1=0∧p7 (o::r) s=p7 r (c7 s o).1:=by
 have e:p7 (o::r) s=if(c7 s o).2.1≠0 then(zS,(c7 s o).2) else p7 r (c7 s o).1:=rfl
 rw[e]at h ⊢;by_cases h1:(c7 s o).2.1=0
 ·rw[if_neg (by simp[h1])]at h ⊢;exact⟨h1,h,rfl⟩
 ·rw[if_pos h1]at h;exact absurd h h1
theorem aep(hG:HG G)(GQ:∀o,nQ G o)(s:StateT)(l:List aR)(hw:eO s)(hl:l.length≤8)(hf:∀o∈l,Fit o):FX G 48 yX ((s,l,()),())=some (Ws s l,()):=by
 refine az (hG _ _ rfl) abY ?_;refine aa (aiA hG s l hw (by omega) hf fun o _=>GQ o) ?_;unfold Ws;by_cases h0:(c6 s l).2.1=0
 case neg=>rw[if_pos h0];exact af (show((c6 s l).2.1 != 0)=true by simp[h0]) rfl
 rw[if_neg (by simp[h0])];refine ag (show((c6 s l).2.1 != 0)=false by simp[h0]) ?_;have MG:(p7 l s).2.1=0:=by rw[mD h0]at h0;exact h0
 have loop:∀(n i:Nat) (t:StateT) (acc:List aR),i+n=l.length→eO t→(p7 (l.drop i) t).2.1=0→acc.length≤5*i → LX G 48 yX Tryz.f48 vM (aO Tryz.prog 48 0) ((l,(((l.length:Nat):Int),((i:Int),()))),(((t,()),()),(acc,())))=some ((LV (l.drop i) t acc,((0:Int),())),()):=by
  intro n
  induction n with
  |zero =>intro i t acc hi ht hg ha;refine ao My (ag (decide_eq_false (show ¬((i:Int)<((l.length:Nat):Int)) by omega)) ?_);rw[List.drop_eq_nil_of_le (by omega)];rfl
  |succ n ih =>
   intro i t acc hi ht hg ha;have aF:i<l.length:=by omega
   have hm:=adv aF;rw[List.drop_eq_getElem_cons aF]at hg ⊢;obtain⟨g1,g2,_⟩:=go_step hg
   refine ao My (af (aY aF) (aa (aA (aaY aF)) ?_));refine aa (T6 hG GQ t l[i] ht (hf _ hm)) ?_;have hp:=wC ht l[i];refine af (fits (show(uG t l[i]).length+acc.length≤_ by omega)) ?_;refine aa (CO hG t l[i] ht (hf _ hm) fun hm h3=>GQ _ t ht hm h3) ?_;refine ag (show((c7 t l[i]).2.1 != 0)=false by simp[g1]) ?_;rw[wI,aD aF (by omega)];exact ih (i+1) _ (uG t l[i]++acc) (by omega) (ht.one l[i]) g2 (by rw[List.length_append];omega)
 exact loop l.length 0 s [] (by omega) hw MG (by simp)
theorem aeq(hG:HG G)(GQ:∀o,nQ G o)(s:StateT)(l:List aR)(hw:eO s)(hl:l.length≤1073741824)(hf:∀o∈l,Fit o):FX G 53 yZ ((s,l,()),())=some (p7 l s,()):=by
 have hn:=hw.n;refine az (hG _ _ rfl) ab2 ?_;refine aa (YM hG s.1 hw.d.sm) (aa (VA (hG _ _ rfl) s.2 (by omega)) ?_);have loop:∀(n i:Nat) (t:StateT),i+n=l.length→eO t → LX G 53 yZ Tryz.f53 vP (aO Tryz.prog 53 0) ((l,(((l.length:Nat):Int),((i:Int),()))),(((zS,()),((t,()),())),()))=some (p7 (l.drop i) t,()):=by
  intro n
  induction n with
  |zero =>intro i t hi ht;refine ao MB (ag (decide_eq_false (show ¬((i:Int)<((l.length:Nat):Int)) by omega)) ?_);rw[List.drop_eq_nil_of_le (by omega)];rfl
  |succ n ih =>
   intro i t hi ht;have aF:i<l.length:=by omega
   have hm:=adv aF;refine ao MB (af (aY aF) (aa (aA (aaY aF)) ?_));refine aa (CO hG t l[i] ht (hf _ hm) fun hm h3=>GQ _ t ht hm h3) ?_;rw[List.drop_eq_getElem_cons aF,p7];by_cases h1:(c7 t l[i]).2.1=0
   ·rw[if_neg (by simp[h1])];refine ag (show((c7 t l[i]).2.1 != 0)=false by simp[h1]) ?_;rw[wI,aD aF hl];exact ih (i+1) _ (by omega) (ht.one l[i])
   ·rw[if_pos h1];exact af (show((c7 t l[i]).2.1 != 0)=true by simp[h1]) rfl
 exact loop l.length 0 s (by omega) hw
end Go.Vs
