/- What takes operations back -/
import Derived.Test.YtpkfpbpbkabkdaaGreatPartsB
import Derived.Test.YtpkfpbpbkabkdaaGreatForm
import Derived.Test.YtpkfpbpbkabkdaaGreatNormalD
set_option linter.unusedVariables false
set_option linter.unusedSimpArgs false
namespace Go.Vs
open Go.Proofs
variable {G:(f:FuncId)→(g:aS)→Option (g.A→Option g.B)}
theorem LV{n:Int}(h:K7 (.int .i64) n):OP n:=by
 have h1:IntKind.min .i64 = -9223372036854775808:=by decide
 have h2:IntKind.max .i64=9223372036854775807:=by decide
 have h:IntKind.min .i64≤n∧n≤IntKind.max .i64:=h;rw[h1,h2]at h;unfold OP;omega
theorem T3{o:aR}(h:K7 fE o)(ht:uB o):Fit o:=by obtain⟨_,_,_,_,⟨_,_,h1⟩,⟨_,_,h2⟩,_,_,h3⟩:=h;exact⟨LV h1,LV h2,LV h3,ht⟩
theorem Wf.bd{d:aj}(h:Wf d):Bd 100 d:=⟨by have:=h.nv;omega,by have:=h.ne;omega,fun v hv=>by have:=h.qj v hv;omega⟩
theorem Ff(v:ah):v.2.1.length+v.2.2.1.size+1≤b8 dq v:=by have h:b8 dq v=(1+1)+(((v.2.1.map (b8 br)).sum+1)+((v.2.2.1.size+1)+1)):=rfl;have h2:=vY (fun x:ae=>b8 br x) (fun x=>by show 1≤(1+1)+1;omega) v.2.1;have h3:(v.2.1.map fun x:ae=>b8 br x).sum=(v.2.1.map (b8 br)).sum:=rfl;rw[h];omega
theorem Fg(e:ai):e.2.1.size+1≤b8 dM e:=by have h:b8 dM e=(1+1)+((e.2.1.size+1)+1):=rfl;rw[h];omega
theorem JK{s:StateT}{m:Nat}(hb:b8 ju s≤m):s.1.1.length≤m∧s.1.2.length≤m∧s.2.length≤m∧(∀v∈s.1.1,v.2.1.length≤m∧v.2.2.1.size≤m)∧∀e∈s.1.2,e.2.1.size≤m:=by
 have h:b8 ju s=(((s.1.1.map (b8 dq)).sum+1)+((s.1.2.map (b8 dM)).sum+1))+((s.2.map (b8 cM)).sum+1):=rfl;rw[h]at hb;have l1:=vY (fun v:ah=>b8 dq v) (fun v=>by have:=Ff v;omega) s.1.1;have l2:=vY (fun e:ai=>b8 dM e) (fun e=>by have:=Fg e;omega) s.1.2;have l3:=vY (fun g:aB=>b8 cM g) (fun g=>by show 1≤((1+1)+1)+((1+1)+1);omega) s.2;have e1:(s.1.1.map fun v:ah=>b8 dq v).sum=(s.1.1.map (b8 dq)).sum:=rfl;have e2:(s.1.2.map fun v:ai=>b8 dM v).sum=(s.1.2.map (b8 dM)).sum:=rfl;have e3:(s.2.map fun v:aB=>b8 cM v).sum=(s.2.map (b8 cM)).sum:=rfl;refine⟨by omega,by omega,by omega,fun v hv=>?_,fun e he=>?_⟩
 ·have:=Ar (fun v:ah=>b8 dq v) hv;have:=Ff v;omega
 ·have:=Ar (fun v:ai=>b8 dM v) he;have:=Fg e;omega
end Go.Vs
namespace Go.Vs
def JM:List (List aR)→StateT→StateT
 |[],s=>s
 |e::r,s=>JM r (mQ s e)
def Dk:List (List aR)→StateT→List Bool
 |[],_=>[]
 |e::r,s=>decide ((c7 s e).2.1=0)::Dk r (mQ s e)
theorem eP.all:∀(l:List (List aR)) {s:StateT},eP s→eP (JM l s)
 |[],_,h=>h
 |e::r,_,h=>eP.all r (h.try e)
theorem Bs.all:∀{l:List (List aR)} {n:Nat} {s:StateT},(∀e∈l,e.length≤8)→Bs n s→Bs (n+24*l.length) (JM l s)
 |[],_,_,_,h=>h
 |e::r,n,s,hl,h=>by have h1:Bs (n+24) (mQ s e):=h.try.mono (by have:=hl e (by simp);omega);exact(Bs.all (fun e he=>hl e (by simp[he])) h1).mono (by simp;omega)
theorem JN{l:List ah}{x:ID}:(bg l x).isSome=true↔∃v∈l,v.1=x:=by unfold bg;rw[List.find?_isSome];simp
theorem JO{l:List ai}{x:ID}:(aX l x).isSome=true↔∃v∈l,v.1=x:=by unfold aX;rw[List.find?_isSome];simp
structure Gr(s t:StateT):Prop where
 v:∀x,(bg s.1.1 x).isSome=true→(bg t.1.1 x).isSome=true
 e:∀x,(aX s.1.2 x).isSome=true→(aX t.1.2 x).isSome=true
 nv:s.1.1.length≤t.1.1.length
 ne:s.1.2.length≤t.1.2.length
theorem Gr.rfl(s:StateT):Gr s s:=⟨fun _ h=>h,fun _ h=>h,ada _,ada _⟩
theorem Gr.trans{a b c:StateT}(h:Gr a b)(k:Gr b c):Gr a c:=⟨fun x p=>k.v x (h.v x p),fun x p=>k.e x (h.e x p),adC h.nv k.nv,adC h.ne k.ne⟩
def named(s:StateT)(o:aR):Prop:=if o.1=1 then(bg s.1.1 (aH o)).isSome=true else(aX s.1.2 (aH o)).isSome=true
theorem named.up{s t:StateT}{o:aR}(h:named s o)(k:Gr s t):named t o:=by
 unfold named at h ⊢
 split
 ·rename_i h1;rw[if_pos h1]at h;exact k.v _ h
 ·rename_i h1;rw[if_neg h1]at h;exact k.e _ h
theorem No(d:aj)(c:ni)(x:ae):(bV d c x).1.length=d.1.length∧(bV d c x).2=d.2:=⟨fH _ _ _,rfl⟩
theorem T4{s:StateT}{o:aR}(hk:o.1=1∨o.1=3)(h:(c8 s o).2.1=0):Gr s (c8 s o).1∧named (c8 s o).1 o:=by
 unfold c8 at h ⊢;by_cases hm:bB o=0
 case neg=>rw[if_pos hm]at h;exact absurd h hm
 rw[if_neg (by simp[hm])]at h ⊢;rcases hk with h1|h3
 ·rw[if_pos h1]at h ⊢;unfold qw at h ⊢;by_cases h2:(aQ s.1 (aH o)).isSome=true
  ·rw[if_pos h2]at h;cases h
  rw[if_neg h2]at h ⊢;by_cases h4:24≤s.1.1.length
  ·rw[if_pos h4]at h;cases h
  rw[if_neg h4];refine⟨⟨fun x hx=>?_,fun x hx=>hx,by show _≤(eO _ _).length;rw[gE];omega,ada _⟩,?_⟩
  ·rw[JN]at hx ⊢;obtain⟨v,hv,e⟩:=hx;exact⟨v,mz.2 (.inr hv),e⟩
  ·unfold named;rw[if_pos h1,JN];exact⟨_,mz.2 (.inl rfl),rfl⟩
 ·have n1:¬o.1=1:=by omega
  have n2:¬o.1=2:=by omega
  rw[if_neg n1,if_neg n2,if_pos h3]at h ⊢;unfold oP at h ⊢
  split at h
  ·cases h
  rename_i c1
  split at h
  ·cases h
  rename_i c2
  split at h
  ·cases h
  rename_i c3
  split at h
  ·cases h
  rename_i c4
  split at h
  ·cases h
  rename_i c5;rw[if_neg c1,if_neg c2,if_neg c3,if_neg c4,if_neg c5];have l1:(gF s o).1.length=s.1.1.length:=by unfold gF;rw[(No _ _ _).1,(No _ _ _).1]
  have l2:(gF s o).2=dC (aH o,(e0,0)) s.1.2:=rfl;refine⟨⟨fun x hx=>?_,fun x hx=>?_,by show _≤(gF s o).1.length;omega,by show _≤(gF s o).2.length;rw[l2,kK];omega⟩,?_⟩
  ·exact wh _ (wh _ hx)
  ·show(aX (gF s o).2 x).isSome=true;rw[l2];rw[JO]at hx ⊢;obtain⟨v,hv,e⟩:=hx;exact⟨v,oO.2 (.inr hv),e⟩
  ·unfold named;rw[if_neg n1];show(aX (gF s o).2 (aH o)).isSome=true;rw[l2,JO];exact⟨_,oO.2 (.inl rfl),rfl⟩
theorem Pu{s:StateT}{o:aR}(hk:o.1=1∨o.1=3)(h:named s o):(c8 s o).2.1≠0:=by
 unfold c8;by_cases hm:bB o=0
 case neg=>rw[if_pos hm];exact hm
 rw[if_neg (by simp[hm])];unfold named at h;rcases hk with h1|h3
 ·rw[if_pos h1]at h;rw[if_pos h1];unfold qw;rw[if_pos (show(aQ s.1 (aH o)).isSome=true from h)];decide
 ·have n1:¬o.1=1:=by omega
  have n2:¬o.1=2:=by omega
  rw[if_neg n1]at h;rw[if_neg n1,if_neg n2,if_pos h3];unfold oP;rw[if_pos (show(bZ s.1 (aH o)).isSome=true from h)];decide
structure Ws(e:List aR):Prop where
 k:∀o∈e,o.1=1∨o.1=3
 n:e≠[]
theorem GY:∀{e:List aR} {s:StateT},(∀o∈e,o.1=1∨o.1=3)→(qb e s).2.1=0→Gr s (qb e s).1∧∀o∈e,named (qb e s).1 o
 |[],s,_,_=>⟨Gr.rfl s,fun o ho=>by cases ho⟩
 |o::r,s,hk,h=>by
  unfold qb at h ⊢;by_cases h1:(c8 s o).2.1=0
  case neg=>rw[if_pos h1]at h;exact absurd h h1
  rw[if_neg (by simp[h1])]at h ⊢;obtain⟨g1,n1⟩:=T4 (hk o (by simp)) h1;obtain⟨g2,n2⟩:=GY (fun o ho=>hk o (by simp[ho])) h;refine⟨g1.trans g2,fun p hp=>?_⟩;rcases aa1.1 hp with rfl|hp
  ·exact n1.up g2
  ·exact n2 p hp
theorem mG{s:StateT}{e:List aR}(h:(c7 s e).2.1=0):c7 s e=qb e s:=by
 unfold c7 at h ⊢;by_cases hm:eF e=0
 ·rw[if_neg (by simp[hm])]
 ·rw[if_pos hm]at h;exact absurd h hm
theorem T5{s:StateT}{e:List aR}(h:(c7 s e).2.1=0):mQ s e=(c7 s e).1:=by unfold mQ;rw[if_neg (by simp[h])]
theorem Wt{s:StateT}{e:List aR}(h:(c7 s e).2.1≠0):mQ s e=s:=by unfold mQ;rw[if_pos h]
theorem JP{s:StateT}{e:List aR}(ha:Ws e):Gr s (mQ s e):=by
 by_cases h:(c7 s e).2.1=0
 ·rw[T5 h,mG h];rw[mG h]at h;exact(GY ha.k h).1
 ·rw[Wt h];exact Gr.rfl s
theorem JQ:∀{l:List (List aR)} {s:StateT},(∀e∈l,Ws e)→Gr s (JM l s)
 |[],s,_=>Gr.rfl s
 |e::r,s,h=>(JP (h e (by simp))).trans (JQ fun e he=>h e (by simp[he]))
theorem JR{s t:StateT}{e:List aR}(ha:Ws e)(h:(c7 s e).2.1=0)(hg:Gr (mQ s e) t):(c7 t e).2.1≠0:=fun h2=>by
 rw[T5 h,mG h]at hg;rw[mG h]at h;rw[mG h2]at h2;obtain⟨_,hn⟩:=GY ha.k h
 cases e with
 |nil=>exact ha.n rfl
 |cons o r =>have h3:=Pu (ha.k o (by simp)) ((hn o (by simp)).up hg);unfold qb at h2;rw[if_pos h3]at h2;exact h3 h2
theorem vj:∀{l:List (List aR)} {s t:StateT},(∀e∈l,Ws e)→Gr (JM l s) t→∀i:Nat,(Dk l s)[i]? = some true→(Dk l t)[i]? = some true→False
 |[],_,_,_,_,i,h,_=>by simp[Dk]at h
 |e::r,s,t,ha,hg,0,h1,h2=>by simp[Dk]at h1 h2;exact JR (ha e (by simp)) h1 ((JQ fun e he=>ha e (by simp[he])).trans hg) h2
 |e::r,s,t,ha,hg,i+1,h1,h2=>by have h1:(Dk r (mQ s e))[i]? = some true:=h1;have h2:(Dk r (mQ t e))[i]? = some true:=h2;exact vj (l:=r) (s:=mQ s e) (t:=mQ t e) (fun e he=>ha e (by simp[he])) (Gr.trans (show Gr (JM r (mQ s e)) t from hg) (JP (ha e (by simp)))) i h1 h2
end Go.Vs
namespace Go.Vs
open Go.Proofs
variable {G:(f:FuncId)→(g:aS)→Option (g.A→Option g.B)}
structure tK(l:List (List aR)):Prop where
 n:l.length≤1073741824
 e:∀e∈l,e.length≤1073741824
 f:∀e∈l,∀o∈e,Fit o
theorem tK.mem{l m:List (List aR)}(h:tK l)(hs:∀e∈m,e∈l)(hn:m.length≤1073741824):tK m:=⟨hn,fun e he=>h.e e (hs e he),fun e he=>h.f e (hs e he)⟩
theorem Wu(n:Int):Fit (SO 1 (1,n)):=⟨YY,YY,YY,by show e0.size≤_;simp[e0,ByteArray.size]⟩
end Go.Vs
namespace Go.Vs
open Go.Proofs Go.Cy
variable {G:(f:FuncId)→(g:aS)→Option (g.A→Option g.B)}
structure Lone(d:aj)(v:ah):Prop where
 w:Wf d
 m:v∈d.1
 r:v.2.1=[]
theorem Lone.split{d:aj}{v:ah}(h:Lone d v):∃a b,d.1=a++v::b∧(bj d v.1 zI)=(a++b,d.2)∧ax (a++b) ⊆ ax d.1∧(ax d.1).Perm (ax (a++b)):=by
 obtain⟨a,b,h1,_,h2,_⟩:=rJ h.w.sv h.m;have p:(ax d.1).Perm (ax (a++b)):=by have:=iW a b v;rw[←h1,h.r,List.nil_append]at this;exact this
 exact⟨a,b,h1,by unfold bj;rw[h2,we h.w.ge],fun x hx=>p.mem_iff.2 hx,p⟩
theorem Lone.wf{d:aj}{v:ah}(h:Lone d v):Wf (bj d v.1 zI):=h.w.S6 h.m h.r
theorem Lone.mem{d:aj}{v:ah}(h:Lone d v){u:ah}:u∈(bj d v.1 zI).1↔u∈d.1∧u.1≠v.1:=by show u∈dG d.1 v.1↔_;unfold dG;rw[List.mem_filter];simp
theorem Lone.T6{d:aj}{v:ah}(h:Lone d v):(ax (bj d v.1 zI).1).Perm (ax d.1):=by obtain⟨a,b,_,h2,_,h3⟩:=h.split;rw[h2];exact h3.symm
theorem Lone.T7{d:aj}{v:ah}(h:Lone d v){u:ah}{z:ae}(hu:u∈d.1)(hz:z∈u.2.1):u∈(bj d v.1 zI).1:=by refine h.mem.2 ⟨hu,fun k=>?_⟩;rw[MX h.w.sv h.m hu k,h.r]at hz;simp at hz
theorem Lone.at{d:aj}{v:ah}(h:Lone d v){z:ae}(hz:z∈ax d.1):bP (bj d v.1 zI) z=bP d z:=by obtain⟨u,hu,Lo⟩:=bh.1 hz;show Gt (bj d v.1 zI).1 z=Gt d.1 z;rw[iM h.w.rw hu Lo,iM h.wf.rw (h.T7 hu Lo) Lo]
theorem Lone.adj{d:aj}{v:ah}(h:Lone d v){a b:ID}:Jp (bj d v.1 zI) a b↔Jp d a b:=by
 constructor
 ·rintro⟨z,hz,h1,h2⟩;have hz:=h.T6.mem_iff.1 hz;exact⟨z,hz,by rw[←h.at hz];exact h1,by rw[←h.at (h.w.other hz)];exact h2⟩
 ·rintro⟨z,hz,h1,h2⟩;exact⟨z,h.T6.mem_iff.2 hz,by rw[h.at hz];exact h1,by rw[h.at (h.w.other hz)];exact h2⟩
theorem Lone.conn{d:aj}{v:ah}(h:Lone d v){a b:ID}:cV (bj d v.1 zI) a b↔cV d a b:=by
 constructor
 ·intro k
  induction k with
  |refl=>exact .refl _
  |tail _ j ih=>exact ih.tail (h.adj.1 j)
 ·intro k
  induction k with
  |refl=>exact .refl _
  |tail _ j ih=>exact ih.tail (h.adj.2 j)
theorem Lone.alone{d:aj}{v:ah}(h:Lone d v){b:ID}(k:cV d v.1 b):b=v.1:=by
 have key:∀{a b:ID},cV d a b→a=v.1→b=v.1:=fun {a b} k ha=>by
  induction k with
  |refl=>exact ha
  |tail _ j ih =>obtain⟨z,hz,h1,_⟩:=j;obtain⟨u,hu,Lo,yK⟩:=wo h.w hz;rw[yK,ih]at h1;have:=acv h1;rw[MX h.w.sv h.m hu this,h.r]at Lo;simp at Lo
 exact key k rfl
theorem Lone.VR{d:aj}{v:ah}(h:Lone d v){R:List ID}(hr:wm d R):∃R2,wm (bj d v.1 zI) R2∧R2.length+1=R.length:=by
 obtain⟨r,zO,hvr⟩:=hr.c v h.m;have hv:v.1∈R:=by rw[←h.alone hvr];exact zO
 refine⟨R.erase v.1,⟨hr.n.erase _,fun s hs=>?_,fun s hs t ht k=>hr.i s (aeZ hs) t (aeZ ht) (h.conn.1 k),fun u hu=>?_⟩,?_⟩
 ·obtain⟨u,hu,he⟩:=hr.v s (aeZ hs);refine⟨u,h.mem.2 ⟨hu,fun k=>?_⟩,he⟩;have:s=v.1:=he.symm.trans k;subst this;exact absurd hs (List.Nodup.not_mem_erase hr.n)
 ·obtain⟨hu1,hu2⟩:=h.mem.1 hu;obtain⟨s,hs,UL⟩:=hr.c u hu1;refine⟨s,(ae0 fun k=>?_).2 hs,h.conn.2 UL⟩;subst k;exact hu2 (h.alone (UL.symm h.w))
 ·rw[List.length_erase_of_mem hv];have:=aeJ hv;omega
theorem Lone.ph{d:aj}{v:ah}(h:Lone d v){z:ae}(hz:z∈ax d.1):ph (bj d v.1 zI) z=ph d z:=by rw[nm hz,nm (h.T6.mem_iff.2 hz)];obtain⟨u,hu,Lo⟩:=bh.1 (h.w.other hz);rw[oV h.w.rw hu Lo,oV h.wf.rw (h.T7 hu Lo) Lo]
theorem Lone.c6{d:aj}{v:ah}(h:Lone d v):(Vs.c6 (bj d v.1 zI)).length=(Vs.c6 d).length:=by have a:=cj h.wf;have b:=cj h.w;refine G8.count h.w.rw.n ⟨fun c hc=>?_,a.p.trans h.T6⟩ b;refine(a.c c hc).congr fun z hz=>?_;have:z∈ax (bj d v.1 zI).1:=a.p.mem_iff.1 (aeE.2 ⟨c,hc,hz⟩);exact(h.ph (h.T6.mem_iff.1 this)).symm
theorem Dl{d:aj}(hw:Wf d){R:List ID}(hr:wm d R):fe d=(R.length:Int):=by rw[sR hw,(nq hw (fJ hw)).len hw hr]
structure wC(d:aj)(v:ah)(y:ae):Prop where
 w:Wf d
 m:v∈d.1
 r:v.2.1=[y]
theorem wC.mem{d:aj}{v:ah}{y:ae}(h:wC d v y):y∈ax d.1:=bh.2 ⟨v,h.m,by rw[h.r];simp⟩
theorem wC.cut{d:aj}{v:ah}{y:ae}(h:wC d v y):b5 d y.1:=by obtain⟨e,he,h1,_⟩:=cH.1 (h.w.pd.mem_iff.1 h.mem);exact⟨h.w,by unfold aX;rw[List.find?_isSome];exact⟨e,he,by simpa using h1⟩⟩
theorem wC.lone{d:aj}{v:ah}{y:ae}(h:wC d v y):∃u,Lone (dw d y.1) u∧u.1=v.1:=by
 obtain⟨u,hu,bR⟩:=h.cut.Lr.2 ⟨v,h.m,rfl⟩;refine⟨u,⟨h.cut.w,hu,?_⟩,bR⟩
 cases hq:u.2.1 with
 |nil=>rfl
 |cons z r =>
  exfalso;have hz:z∈u.2.1:=by rw[hq];simp
  have hzd:z∈ax (dw d y.1).1:=bh.2 ⟨u,hu,hz⟩;have h1:bP (dw d y.1) z=some u.1:=iM h.cut.w.rw hu hz;rw[h.cut.at hzd,bR]at h1;obtain⟨w,hw,G9,yK⟩:=wo h.w (h.cut.sub hzd);rw[yK]at h1;have hwv:=MX h.w.sv h.m hw (acv h1);rw[hwv,h.r]at G9;have hzy:z=y:=by simpa using G9
  have nd:=h.cut.p.nodup_iff.1 h.w.rw.n;have e:y=(y.1,y.2):=rfl;rcases h.w.side h.mem with k|k
  ·rw[k]at e;exact(ac9.1 nd).1 (aaY _ (e▸hzy▸hzd))
  ·rw[k]at e;exact(ac9.1 (ac9.1 nd).2).1 (e▸hzy▸hzd)
theorem wC.back{d:aj}{v:ah}{y:ae}(h:wC d v y):ph d (au y)=y:=by
 rw[nm (h.w.other h.mem),lu (h.w.side h.mem)];have hy:y∈v.2.1:=by rw[h.r];simp
 rw[oV h.w.rw h.m hy];exact(E6 (h.w.rw.ring h.m) hy).2 (by rw[h.r];rfl)
theorem wC.one{d:aj}{v:ah}{y:ae}(h:wC d v y):Tp d (y.1,0) (y.1,1):=by
 have hm:au y∈(c6 d).flatten:=(cj h.w).p.mem_iff.2 (h.w.other h.mem);obtain⟨c,hc,h1⟩:=aeE.1 hm;have h2:=((cj h.w).c c hc).step h1;rw[h.back]at h2;have e:y=(y.1,y.2):=rfl;have eo:au y=(y.1,(au y).2):=rfl;obtain⟨_,k⟩:=iZ (h.w.side h.mem);rcases k with⟨k1,k2⟩|⟨k1,k2⟩
 ·rw[k1]at e;rw[k2]at eo;exact⟨c,hc,e▸h2,eo▸h1⟩
 ·rw[k1]at e;rw[k2]at eo;exact⟨c,hc,eo▸h1,e▸h2⟩
theorem wC.c6{d:aj}{v:ah}{y:ae}(h:wC d v y):(Vs.c6 (dw d y.1)).length≤(Vs.c6 d).length:=by
 have h1:=(h.cut.same h.one).2;have hb:=h.back;have e:y=(y.1,y.2):=rfl;have eo:au y=(y.1,(au y).2):=rfl;obtain⟨_,k⟩:=iZ (h.w.side h.mem);rcases k with⟨k1,k2⟩|⟨k1,k2⟩
 ·rw[k1]at e;rw[k2]at eo;have:ph d (y.1,1)=(y.1,0):=by rw[←eo,hb];exact e
  rw[if_pos this]at h1
  split at h1<;>omega
 ·rw[k1]at e;rw[k2]at eo;have:ph d (y.1,0)=(y.1,1):=by rw[←eo,hb];exact e
  rw[if_pos this]at h1
  split at h1<;>omega
theorem wC.parts{d:aj}{v:ah}{y:ae}(h:wC d v y){u:ah}(hu:Lone (dw d y.1) u)(bR:u.1=v.1):fe (bj (dw d y.1) v.1 zI)=fe d:=by
 obtain⟨a,b,ha,hb,_,_⟩:=h.cut.MZ;have hr:=nq h.w (fJ h.w);have Uw:bP d y=some v.1:=iM h.w.rw h.m (by rw[h.r];simp);have Ut:bP d (au y)≠some v.1:=fun k=>by
  obtain⟨w,hw,G9,yK⟩:=wo h.w (h.w.other h.mem);rw[yK]at k;rw[MX h.w.sv h.m hw (Option.some.inj k),h.r]at G9;have G9:au y=y:=by simpa using G9
  obtain⟨_,m⟩:=iZ (h.w.side h.mem);rw[G9]at m;omega
 have bw:a≠b∧(a=v.1∨b=v.1):=by
  have e:y=(y.1,y.2):=rfl;have eo:au y=(y.1,(au y).2):=rfl;obtain⟨_,k⟩:=iZ (h.w.side h.mem);rcases k with⟨k1,k2⟩|⟨k1,k2⟩
  ·rw[k1]at e;rw[k2]at eo;rw[e,ha]at Uw;rw[eo,hb]at Ut;have:=acv Uw;exact⟨fun k=>Ut (by rw[←k,this]),.inl this⟩
  ·rw[k1]at e;rw[k2]at eo;rw[e,hb]at Uw;rw[eo,ha]at Ut;have:=acv Uw;exact⟨fun k=>Ut (by rw[k,this]),.inr this⟩
 have yx:¬cV (dw d y.1) a b:=fun k=>by
  rcases bw.2 with m|m
  ·rw[m,←bR]at k;exact bw.1 (m.trans (bR▸hu.alone k).symm)
  ·rw[m,←bR]at k;exact bw.1 ((bR▸hu.alone (k.symm h.cut.w):a=v.1).trans m.symm)
 obtain⟨R2,h2,h3⟩:=h.cut.XC ha hb yx hr;obtain⟨R3,h4,h5⟩:=hu.VR h2;rw[bR]at h4;have hwf:=hu.wf;rw[bR]at hwf;rw[Dl hwf h4,Dl h.w hr];omega
theorem GZ{k:Int}{x:ID}(hk:k=1∨k=2∨k=4)(hx:cf x=true):bB (SO k x)=0:=by
 unfold bB;have e:qa (jL (SO k x)) J7=true:=by rcases hk with rfl|rfl|rfl<;>exact(im _ _).2 rfl
 have h1:(SO k x).1=k:=rfl;rw[if_neg (by rw[h1];omega),if_neg (by rw[h1];omega),if_neg (by simp[SO,hx]),if_neg (by rw[e];simp),if_neg (by rw[h1];omega),if_neg (by rw[h1];omega),if_neg (by rw[h1];omega),if_neg (by rw[h1];omega),if_neg (by rw[h1];omega)]
end Go.Vs
namespace Go.Vs
open Go.Proofs
variable {G:(f:FuncId)→(g:aS)→Option (g.A→Option g.B)}
abbrev hiB(h:ij):StateT:=h.1
abbrev PV(h:ij):Int:=h.2.1
abbrev JS(h:ij):List (List aR):=h.2.2.1
def hiL(h:ij):Int:=PV h+((JS h).length:Nat)
structure T8(m:Nat)(h:ij):Prop where
 b:eP (hiB h)
 f0:0≤PV h
 f1:hiL h≤m
 m1:m≤1000000000
 n:(JS h).length≤64
 r:tK (JS h)
theorem T8.zero:T8 0 (zS,(0,([],()))):=⟨eP.zero,Int.le_refl _,by decide,by decide,aeH _,⟨aeH _,fun e he=>(by cases he),fun e he=>(by cases he)⟩⟩
def aek(h:ij)(e:List aR):(Int×(Int×Unit))×ij :=if eF e≠0 then((0,(eF e,())),h) else if 64≤(JS h).length then((0,(20,())),h) else((hiL h+1,(0,())),(hiB h,(PV h,(JS h++[e],()))))
theorem T8.mono{m k:Nat}{h:ij}(ho:T8 m h)(hk:m≤k)(h1:k≤1000000000):T8 k h:=⟨ho.b,ho.f0,by have:=ho.f1;omega,h1,ho.n,ho.r⟩
theorem T8.add{m:Nat}{h:ij}(ho:T8 m h)(hm:m<1000000000){e:List aR}(he:e.length≤1073741824)(hf:∀o∈e,Fit o):T8 (m+1) (aek h e).2:=by
 unfold aek
 split
 ·exact ho.mono (by omega) (by omega)
 split
 ·exact ho.mono (by omega) (by omega)
 ·rename_i h1 h2;have h3:=ho.f1;have hl:hiL h=PV h+((JS h).length:Nat):=rfl;refine⟨ho.b,ho.f0,?_,by omega,?_,?_,fun p hp=>?_,fun p hp=>?_⟩
  ·show PV h+(((JS h++[e]).length:Nat):Int)≤_;simp;omega
  ·show(JS h++[e]).length≤64;simp;omega
  ·show(JS h++[e]).length≤_;simp;omega
  ·rcases acw.1 (show p∈JS h++[e] from hp) with hp|hp
   ·exact ho.r.e p hp
   ·rw[List.mem_singleton.1 hp];exact he
  ·rcases acw.1 (show p∈JS h++[e] from hp) with hp|hp
   ·exact ho.r.f p hp
   ·rw[List.mem_singleton.1 hp];exact hf
def hIn(h:ij)(n:Int):Prop:=PV h≤n∧n≤hiL h
instance (h:ij) (n:Int):Decidable (hIn h n):=by unfold hIn;infer_instance
def atH(h:ij)(n:Int):StateT×(Int×Unit):=if hIn h n then(JM ((JS h).take (n-PV h).toNat) (hiB h),(0,())) else(zS,(26,()))
theorem tK.take{l:List (List aR)}(h:tK l)(n:Nat):tK (l.take n):=h.mem (fun e he=>List.mem_of_mem_take he) (by have:=h.n;simp;omega)
theorem tK.drop{l:List (List aR)}(h:tK l)(n:Nat):tK (l.drop n):=h.mem (fun e he=>aeT he) (by have:=h.n;simp;omega)
def XM(h:ij)(n:Int):Int×ij:=if hIn h n then(0,(JM ((JS h).take (n-PV h).toNat) (hiB h),(n,((JS h).drop (n-PV h).toNat,())))) else(26,h)
theorem T8.comp{m:Nat}{h:ij}(ho:T8 m h)(n:Int):T8 m (XM h n).2:=by
 unfold XM;have h1:=ho.f0;have h2:=ho.f1;have h3:=ho.n;have hl:hiL h=PV h+((JS h).length:Nat):=rfl;by_cases hi:hIn h n
 ·rw[if_pos hi];unfold hIn at hi;refine⟨eP.all _ ho.b,by show 0≤n;omega,?_,ho.m1,?_,ho.r.drop _⟩
  ·show n+((((JS h).drop (n-PV h).toNat).length:Nat):Int)≤m;rw[List.length_drop];omega
  ·show((JS h).drop (n-PV h).toNat).length≤64;rw[List.length_drop];omega
 ·rw[if_neg hi];exact ho
def Dm(x:ID)(a b:ni):aR:=(3,(x,(zI,(zI,(a,(b,(false,(e0,0))))))))
def eX(x v w:ID)(n:Int):aR:=(5,(x,(v,(w,(zC,(zC,(false,(e0,n))))))))
def ael(v w:ID):aR:=(6,(v,(zI,(w,(zC,(zC,(false,(e0,0))))))))
def bF(x:ID)(oe:Bool)(l:ByteArray)(n:Int):List aR:=(if l=e0 then[] else[O6 x oe l])++(if n=0 then[] else[PS x oe n])
theorem cG(x:ID)(oe:Bool)(l:ByteArray)(n:Int):(bF x oe l n).length≤2:=by unfold bF;split<;>split<;>simp
theorem Np(hG:HG G)(x:ID)(oe:Bool)(l:ByteArray)(n:Int):FX G 75 tC ((x,oe,l,n,()),())=some ((bF x oe l n,()),()):=by
 refine az (hG _ _ rfl) ab9 ?_;unfold bF;by_cases h1:l=e0
 ·rw[if_pos h1];refine ag (show(!(l==e0))=false by rw[La,decide_eq_true h1];rfl) ?_;by_cases h2:n=0
  ·rw[if_pos h2];exact ag (show(n != 0)=false by simp[h2]) rfl
  ·rw[if_neg h2];exact af (show(n != 0)=true by simp[h2]) (af rfl rfl)
 ·rw[if_neg h1];refine af (show(!(l==e0))=true by rw[La,decide_eq_false h1];rfl) (af rfl ?_);by_cases h2:n=0
  ·rw[if_pos h2];exact ag (show(n != 0)=false by simp[h2]) rfl
  ·rw[if_neg h2];exact af (show(n != 0)=true by simp[h2]) (af rfl rfl)
theorem aem(hG:HG G)(e:ai):FX G 138 II ((e,()),())=some ((e.1,()),()):=az (hG _ _ rfl) acm rfl
theorem T9(hG:HG G)(d:aj)(x:ID)(hl:d.2.length≤1073741824):FX G 111 BZ ((d,x,()),())=some (fR zE (bZ d x),()):=by
 refine az (hG _ _ rfl) ach ?_;have h1:FX G 139137 kE ((d.2,x,()),())=some (fR zE (aX d.2 x),()):=by
  refine az (hG _ _ rfl) Sj ?_;have loop:∀(n i:Nat),i+n=d.2.length→LX G 139137 kE Tryz.f137 mq (aO Tryz.prog 137 0) ((d.2,(((d.2.length:Nat):Int),((i:Int),()))),(((x,()),((zE,()),())),()))=some (fR zE (aX (d.2.drop i) x),()):=by
   intro n
   induction n with
   |zero =>intro i hi;refine ao Cv (ag (decide_eq_false (show ¬((i:Int)<((d.2.length:Nat):Int)) by omega)) ?_);rw[List.drop_eq_nil_of_le (by omega)];rfl
   |succ n ih =>
    intro i hi;have aF:i<d.2.length:=by omega
    refine ao Cv (af (aY aF) (aa (aA (aaV aF)) (aa (aem hG d.2[i]) ?_)));rw[List.drop_eq_getElem_cons aF];have hf:aX (d.2[i]::d.2.drop (i+1)) x=if d.2[i].1=x then some d.2[i] else aX (d.2.drop (i+1)) x:=by unfold aX;rw[List.find?_cons];by_cases h:d.2[i].1=x<;>simp[h]
    rw[hf];by_cases h:d.2[i].1=x
    ·rw[if_pos h];refine af ?_ rfl;exact(gN d.2[i].1 x).trans (decide_eq_true h)
    ·rw[if_neg h];refine ag ((gN d.2[i].1 x).trans (decide_eq_false h)) ?_;rw[wI,aD aF hl];exact ih (i+1) (by omega)
  exact loop d.2.length 0 (by omega)
 exact aa h1 rfl
def D0(d:aj)(x eT:ae):ni :=
 let y:=dH (cy (aW d ((bP d x).getD zI)) eT) x
 if y=x then((bP d x).getD zI,zD) else((bP d x).getD zI,y)
theorem XN(hG:HG G)(d:aj)(x eT:ae)(hw:Wf d):FX G 112 EE ((d,x,eT,()),())=some ((D0 d x eT,()),()):=by
 have hs:=hw.sm;refine az (hG _ _ rfl) aci ?_;refine aa (Ty hG d x hs) ?_;show Option.bind (FX G 74 tz ((d,(fR zI (bP d x)).1,()),())) _=_;rw[di];refine aa (Jv hG d _ hs) ?_;show Option.bind (FX G 141 BR (((fR zV (aQ d ((bP d x).getD zI))).1.2.1,eT,()),())) _=_;rw[di];have PJ:=lC hs ((bP d x).getD zI);have Ei:(aW d ((bP d x).getD zI)).Nodup:=by
  unfold aW
  cases hv:aQ d ((bP d x).getD zI) with
  |none=>simp[zV]
  |some v=>exact hw.rw.ring (ado hv)
 refine aa (SY hG (aW d ((bP d x).getD zI)) eT Ei (by omega)) ?_;have WR:=rG (aW d ((bP d x).getD zI)) eT;refine aa (Xz hG (cy (aW d ((bP d x).getD zI)) eT) x (by omega)) ?_;unfold D0;have e1:(wH (cE (cy (aW d ((bP d x).getD zI)) eT) x ((cy (aW d ((bP d x).getD zI)) eT).length-1))).1=dH (cy (aW d ((bP d x).getD zI)) eT) x:=sI _;have hb:=jF (wH (cE (cy (aW d ((bP d x).getD zI)) eT) x ((cy (aW d ((bP d x).getD zI)) eT).length-1))).1 x;rw[e1]at hb;by_cases h:dH (cy (aW d ((bP d x).getD zI)) eT) x=x
 ·refine ag ?_ ?_
  ·show(!(((((wH (cE (cy (aW d ((bP d x).getD zI)) eT) x ((cy (aW d ((bP d x).getD zI)) eT).length-1))).1).1.1==x.1.1)&&(((wH (cE (cy (aW d ((bP d x).getD zI)) eT) x ((cy (aW d ((bP d x).getD zI)) eT).length-1))).1).1.2==x.1.2))&&(((wH (cE (cy (aW d ((bP d x).getD zI)) eT) x ((cy (aW d ((bP d x).getD zI)) eT).length-1))).1).2==x.2)))=false;rw[e1,hb,decide_eq_true h];rfl
  ·refine congrArg (fun c:ni=>some ((c,()),())) ?_;show((bP d x).getD zI,zD)=if dH (cy (aW d ((bP d x).getD zI)) eT) x=x then((bP d x).getD zI,zD) else((bP d x).getD zI,dH (cy (aW d ((bP d x).getD zI)) eT) x)
   rw[if_pos h]
 ·refine af ?_ ?_
  ·show(!(((((wH (cE (cy (aW d ((bP d x).getD zI)) eT) x ((cy (aW d ((bP d x).getD zI)) eT).length-1))).1).1.1==x.1.1)&&(((wH (cE (cy (aW d ((bP d x).getD zI)) eT) x ((cy (aW d ((bP d x).getD zI)) eT).length-1))).1).1.2==x.1.2))&&(((wH (cE (cy (aW d ((bP d x).getD zI)) eT) x ((cy (aW d ((bP d x).getD zI)) eT).length-1))).1).2==x.2)))=true;rw[e1,hb,decide_eq_false h];rfl
  ·refine congrArg (fun c:ni=>some ((c,()),())) ?_;show((bP d x).getD zI,(wH (cE (cy (aW d ((bP d x).getD zI)) eT) x ((cy (aW d ((bP d x).getD zI)) eT).length-1))).1)=if dH (cy (aW d ((bP d x).getD zI)) eT) x=x then((bP d x).getD zI,zD) else((bP d x).getD zI,dH (cy (aW d ((bP d x).getD zI)) eT) x)
   rw[if_neg h,e1]
def jE(d:aj)(x:ID):ByteArray×Int:=((aQ d x).getD zV).2.2
def j9(d:aj)(x:ID):ByteArray×Int:=((bZ d x).getD zE).2
def Dn(d:aj)(x:ID):List aR:=Dm x (D0 d (x,0) (x,1)) (D0 d (x,1) zD)::bF x true (j9 d x).1 (j9 d x).2
theorem aen(hG:HG G)(d:aj)(o:aR)(hw:Wf d):FX G 76 IG ((d,o,()),())=some ((Dn d (aH o),()),()):=by have hs:=hw.sm;have he:=hs.e;refine az (hG _ _ rfl) aca ?_;refine aa (T9 hG d (aH o) (by omega)) ?_;refine aa (XN hG d (aH o,0) (aH o,1) hw) (aa (XN hG d (aH o,1) zD hw) ?_);show Option.bind (FX G 75 tC ((aH o,true,(fR zE (bZ d (aH o))).1.2.1,(fR zE (bZ d (aH o))).1.2.2,()),())) _=_;rw[di];refine aa (Np hG _ _ _ _) ?_;have hl:=cG (aH o) true (j9 d (aH o)).1 (j9 d (aH o)).2;exact af (fits (show 1+(bF (aH o) true (j9 d (aH o)).1 (j9 d (aH o)).2).length≤_ by omega)) rfl
def yj(d:aj)(o:aR):List aR :=
 let q:=if fF o=true then j9 d (aH o) else jE d (aH o)
 if o.1=7 then[(o.1,(aH o,(dR o,(an o,(oA o,(oB o,(fF o,(q.1,oN o))))))))] else[(o.1,(aH o,(dR o,(an o,(oA o,(oB o,(fF o,(k9 o,q.2))))))))]
theorem aeo(hG:HG G)(d:aj)(o:aR)(hw:Wf d):FX G 78 IH ((d,o,()),())=some ((yj d o,()),()):=by
 have hs:=hw.sm;have he:=hs.e;refine az (hG _ _ rfl) acd ?_;refine aa (Jv hG d (aH o) hs) ?_;unfold yj
 cases ho:fF o with
 |true =>
  refine af ho (aa (T9 hG d (aH o) (by omega)) ?_);have e1:(fR zE (bZ d (aH o))).1=(bZ d (aH o)).getD zE:=di _ _;by_cases h7:o.1=7
  ·refine af (show(o.1==7)=true by simp[h7]) ?_;show some (([(o.1,(aH o,(dR o,(an o,(oA o,(oB o,(fF o,((fR zE (bZ d (aH o))).1.2.1,oN o))))))))],()),())=some (((if o.1=7 then _ else _),()),());rw[if_pos h7,e1,ho];rfl
  ·refine ag (show(o.1==7)=false by simp[h7]) ?_;show some (([(o.1,(aH o,(dR o,(an o,(oA o,(oB o,(fF o,(k9 o,(fR zE (bZ d (aH o))).1.2.2))))))))],()),())=some (((if o.1=7 then _ else _),()),());rw[if_neg h7,e1,ho];rfl
 |false =>
  refine ag ho ?_;have e1:(fR zV (aQ d (aH o))).1=(aQ d (aH o)).getD zV:=di _ _;by_cases h7:o.1=7
  ·refine af (show(o.1==7)=true by simp[h7]) ?_;show some (([(o.1,(aH o,(dR o,(an o,(oA o,(oB o,(fF o,((fR zV (aQ d (aH o))).1.2.2.1,oN o))))))))],()),())=some (((if o.1=7 then _ else _),()),());rw[if_pos h7,e1,ho];rfl
  ·refine ag (show(o.1==7)=false by simp[h7]) ?_;show some (([(o.1,(aH o,(dR o,(an o,(oA o,(oB o,(fF o,(k9 o,(fR zV (aQ d (aH o))).1.2.2.2))))))))],()),())=some (((if o.1=7 then _ else _),()),());rw[if_neg h7,e1,ho];rfl
theorem aep(hG:HG G)(a b c:List aR)(h:a.length+b.length+c.length≤1000):FX G 113 nk (([a,b,c],()),())=some ((a++b++c,()),()):=by
 refine az (hG _ _ rfl) acj ?_;have w1:∀(i:Nat),i<3→IntKind.wrap .i64 ((i:Int)+1)=((i+1:Nat):Int):=fun i hi=>aD hi (by omega);have fin:LX G 113 nk Tryz.f113 pZ (aO Tryz.prog 113 1) (([a,b,c],((3:Int),((0:Int),()))),((),(([]:List aR),())))=some ((a++b++c,()),()):=by
  have step:∀(i:Nat) (p q:List aR),[a,b,c][i]? = some q→p.length+q.length≤1000→i<3 → LX G 113 nk Tryz.f113 pZ (aO Tryz.prog 113 1) (([a,b,c],((3:Int),(((i+1:Nat):Int),()))),((),(p++q,())))=some ((a++b++c,()),()) → LX G 113 nk Tryz.f113 pZ (aO Tryz.prog 113 1) (([a,b,c],((3:Int),((i:Int),()))),((),(p,())))=some ((a++b++c,()),()):=by intro i p q hq hl hi k;refine ao MG (af (decide_eq_true (show(i:Int)<3 by omega)) (aa (aA hq) (af (fits (show p.length+q.length≤_ by omega)) ?_)));rw[wI,w1 i hi];exact k
  refine step 0 [] a rfl (by simp;omega) (by omega) (step 1 ([]++a) b rfl (by simp;omega) (by omega) (step 2 ([]++a++b) c rfl (by simp;omega) (by omega) ?_));exact ao MG (ag (decide_eq_false (show ¬((3:Int)<3) by decide)) rfl)
 have cnt:∀(i m:Nat) (q:List aR),[a,b,c][i]? = some q→m+q.length≤1000→i<3 → LX G 113 nk Tryz.f113 sE (aO Tryz.prog 113 0) (([a,b,c],(((m+q.length:Nat):Int),([a,b,c],((3:Int),(((i+1:Nat):Int),()))))),((),()))=some ((a++b++c,()),()) → LX G 113 nk Tryz.f113 sE (aO Tryz.prog 113 0) (([a,b,c],((m:Int),([a,b,c],((3:Int),((i:Int),()))))),((),()))=some ((a++b++c,()),()):=by
  intro i m q hq hl hi k;have e:IntKind.wrap .i64 ((m:Int)+((q.length:Nat):Int))=((m+q.length:Nat):Int):=by rw[wrap_small (by omega) (by omega)];omega
  refine ao MF (af (decide_eq_true (show(i:Int)<3 by omega)) (aa (aA hq) ?_));rw[wI,e];refine ag (decide_eq_false (by omega)) ?_;rw[wI,w1 i hi];exact k
 refine cnt 0 0 a rfl (by omega) (by omega) (cnt 1 _ b rfl (by omega) (by omega) (cnt 2 _ c rfl (by omega) (by omega) ?_));refine ao MF (ag (decide_eq_false (show ¬((3:Int)<3) by decide)) ?_);refine af (show qM ((0+a.length+b.length+c.length:Nat):Int)=true by unfold qM;rw[Bool.and_eq_true,decide_eq_true_eq,decide_eq_true_eq];have:fk=1073741824:=rfl;omega) ?_;exact fin
def yk(r0 r1:ae)(w:ID):ae×ae:=if r0.1=w then(r1,r0) else(r0,r1)
def cX(d:aj)(o:aR)(r0 r1:ae):List aR :=[eX (yk r0 r1 (an o)).1.1 (aH o) (an o) (1-(yk r0 r1 (an o)).1.2+2*(yk r0 r1 (an o)).2.2)]++bF (aH o) false (jE d (aH o)).1 (jE d (aH o)).2++bF (an o) true (j9 d (an o)).1 (j9 d (an o)).2
theorem Nq{p q:Int}(hp:p=0∨p=1)(hq:q=0∨q=1) :
  cY .or .i64 (cY .or .i64 0 (IntKind.wrap .i64 (1-p))) (He .i64 q 1)=1-p+2*q∧cY .or .i64 (cY .or .i64 0 (He .i64 q 1)) (IntKind.wrap .i64 (1-p))=1-p+2*q:=by
 rcases hp with rfl|rfl<;>rcases hq with rfl|rfl<;>exact⟨by decide +kernel,by decide +kernel⟩
theorem aeq(hG:HG G)(d:aj)(o:aR)(hw:Wf d){v:ah}{r0 r1:ae}(hv:aQ d (aH o)=some v)(hr:v.2.1=[r0,r1])(bw:r0.1≠r1.1)(ZF:r0.1=an o∨r1.1=an o)(h0:r0.2=0∨r0.2=1)(h1:r1.2=0∨r1.2=1) :
  FX G 77 oI ((d,o,()),())=some ((cX d o r0 r1,()),()):=by
 have hs:=hw.sm;have he:=hs.e;refine az (hG _ _ rfl) acb ?_;refine aa (Jv hG d (aH o) hs) (aa (T9 hG d (an o) (by omega)) ?_);have ev:(fR zV (aQ d (aH o))).1=v:=by rw[hv];rfl
 have ee:(fR zE (bZ d (an o))).1=(bZ d (an o)).getD zE:=di _ _;show LX G 77 oI Tryz.f77 jz (aO Tryz.prog 77 0) (((fR zV (aQ d (aH o))).1.2.1,((((fR zV (aQ d (aH o))).1.2.1.length:Nat):Int),((0:Int),()))),(((o,()),(((fR zV (aQ d (aH o))).1,()),(((fR zE (bZ d (an o))).1,()),((eX zI (aH o) (an o) 0,()),())))),()))=_;rw[ev,ee,hr];have XO:∀(i:Nat) (r:ae) (p:ID) (n:Int),[r0,r1][i]? = some r→r.1=an o→i<2 → LX G 77 oI Tryz.f77 jz (aO Tryz.prog 77 0) (([r0,r1],((2:Int),(((i+1:Nat):Int),()))),(((o,()),((v,()),(((bZ d (an o)).getD zE,()),((eX p (aH o) (an o) (cY .or .i64 n (He .i64 r.2 1)),()),())))),()))=some ((cX d o r0 r1,()),()) → LX G 77 oI Tryz.f77 jz (aO Tryz.prog 77 0) (([r0,r1],((2:Int),((i:Int),()))),(((o,()),((v,()),(((bZ d (an o)).getD zE,()),((eX p (aH o) (an o) n,()),())))),()))=some ((cX d o r0 r1,()),()):=by intro i r p n hi hro h2 k;refine ao Ge (af (decide_eq_true (show(i:Int)<2 by omega)) (aa (aA hi) (af ((gN r.1 (an o)).trans (decide_eq_true hro)) (ag rfl ?_))));rw[wI,aD h2 (by omega)];exact k
 have XP:∀(i:Nat) (r:ae) (p:ID) (n:Int),[r0,r1][i]? = some r→r.1≠an o→i<2 → LX G 77 oI Tryz.f77 jz (aO Tryz.prog 77 0) (([r0,r1],((2:Int),(((i+1:Nat):Int),()))),(((o,()),((v,()),(((bZ d (an o)).getD zE,()),((eX r.1 (aH o) (an o) (cY .or .i64 n (IntKind.wrap .i64 (1-r.2))),()),())))),()))=some ((cX d o r0 r1,()),()) → LX G 77 oI Tryz.f77 jz (aO Tryz.prog 77 0) (([r0,r1],((2:Int),((i:Int),()))),(((o,()),((v,()),(((bZ d (an o)).getD zE,()),((eX p (aH o) (an o) n,()),())))),()))=some ((cX d o r0 r1,()),()):=by intro i r p n hi hro h2 k;refine ao Ge (af (decide_eq_true (show(i:Int)<2 by omega)) (aa (aA hi) (ag ((gN r.1 (an o)).trans (decide_eq_false hro)) ?_)));rw[wI,aD h2 (by omega)];exact k
 have fin:∀n:Int,n=1-(yk r0 r1 (an o)).1.2+2*(yk r0 r1 (an o)).2.2 → LX G 77 oI Tryz.f77 jz (aO Tryz.prog 77 0) (([r0,r1],((2:Int),(((2:Nat):Int),()))),(((o,()),((v,()),(((bZ d (an o)).getD zE,()),((eX (yk r0 r1 (an o)).1.1 (aH o) (an o) n,()),())))),()))=some ((cX d o r0 r1,()),()):=by intro n hn;refine ao Ge (ag (decide_eq_false (show ¬((2:Int)<2) by decide)) ?_);refine aa (Np hG (aH o) false v.2.2.1 v.2.2.2) (aa (Np hG (an o) true ((bZ d (an o)).getD zE).2.1 ((bZ d (an o)).getD zE).2.2) ?_);have l1:=cG (aH o) false v.2.2.1 v.2.2.2;have l2:=cG (an o) true ((bZ d (an o)).getD zE).2.1 ((bZ d (an o)).getD zE).2.2;refine aa (aep hG [eX (yk r0 r1 (an o)).1.1 (aH o) (an o) n] (bF (aH o) false v.2.2.1 v.2.2.2) (bF (an o) true ((bZ d (an o)).getD zE).2.1 ((bZ d (an o)).getD zE).2.2) (by show 1+(bF (aH o) false v.2.2.1 v.2.2.2).length+(bF (an o) true ((bZ d (an o)).getD zE).2.1 ((bZ d (an o)).getD zE).2.2).length≤_;omega)) ?_;unfold cX jE j9;rw[hv,←hn];rfl
 by_cases h:r0.1=an o
 ·have h':r1.1≠an o:=fun k=>bw (h.trans k.symm);have mJ:yk r0 r1 (an o)=(r1,r0):=if_pos h;refine XO 0 r0 _ _ rfl h (by omega) (XP 1 r1 _ _ rfl h' (by omega) ?_);have:=fin (cY .or .i64 (cY .or .i64 0 (He .i64 r0.2 1)) (IntKind.wrap .i64 (1-r1.2))) (by rw[mJ];exact(Nq h1 h0).2);rw[mJ]at this;exact this
 ·have h':r1.1=an o:=ZF.resolve_left h;have mJ:yk r0 r1 (an o)=(r0,r1):=if_neg h;refine XP 0 r0 _ _ rfl h (by omega) (XO 1 r1 _ _ rfl h' (by omega) ?_);have:=fin (cY .or .i64 (cY .or .i64 0 (IntKind.wrap .i64 (1-r0.2))) (He .i64 r1.2 1)) (by rw[mJ];exact(Nq h0 h1).1);rw[mJ]at this;exact this
def anO(x v:ID)(n:Int):aR:=(5,(x,(v,(v,(zC,(zC,(false,(e0,n))))))))
def G1(v w:ID):aR:=(6,(v,(zI,(w,(zC,(zC,(false,(e0,0))))))))
theorem Ua{v w:ID}(hv:cf v=true)(hw:cf w=true):bB (G1 v w)=0:=by
 unfold bB;rw[if_neg (by simp[G1]),if_neg (by simp[G1]),if_neg (by simp[G1,hv]),if_neg,if_neg (by simp[G1]),if_neg (by simp[G1]),if_pos (show(G1 v w).1=6 from rfl)]
 ·exact if_pos hw
 intro h;have:qa (jL (G1 v w)) J7=true:=(im _ _).2 rfl;rw[this]at h;cases h
def LW(s:StateT)(o:aR):List aR :=if o.1=1 then[SO 2 (aH o)]
 else if o.1=2 then SO 1 (aH o)::bF (aH o) false (jE s.1 (aH o)).1 (jE s.1 (aH o)).2
 else if o.1=3 then[SO 4 (aH o)]
 else if o.1=4 then Dn s.1 (aH o)
 else if o.1=5 then[G1 (dR o) (an o)]
 else if o.1=6 then(match ((aQ s.1 (aH o)).getD zV).2.1 with | [r0,r1]=>cX s.1 o r0 r1|_=>[])
 else yj s.1 o
def uK(s:StateT)(o:aR):List aR:=if(c8 s o).2.1≠0 then[] else LW s o
theorem wD{s:StateT}{o:aR}(h:(c8 s o).2.1=0):bB o=0:=by
 unfold c8 at h;by_cases hm:bB o=0
 ·exact hm
 ·rw[if_pos hm]at h;exact absurd h hm
theorem yl{s:StateT}{o:aR}(h:(c8 s o).2.1=0)(hk:o.1=6):∃v r0 r1,aQ s.1 (aH o)=some v∧v.2.1=[r0,r1]∧r0.1≠r1.1∧(r0.1=an o∨r1.1=an o):=by
 unfold c8 at h;rw[if_neg (by simp[wD h]),if_neg (by omega),if_neg (by omega),if_neg (by omega),if_neg (by omega),if_neg (by omega),if_pos hk]at h;unfold ki at h
 split at h
 ·cases h
 ·rename_i v hv
  split at h
  ·rename_i r0 r1 hr;unfold jA at h
   split at h
   ·cases h
   rename_i h1
   split at h
   ·rename_i h2;exact⟨v,r0,r1,hv,hr,h1,.inl h2⟩
   split at h
   ·rename_i h2;exact⟨v,r0,r1,hv,hr,h1,.inr h2⟩
   ·cases h
  ·cases h
theorem Ub(hG:HG G)(GW:∀o,nR G o)(s:StateT)(o:aR)(h:eP s)(hf:Fit o):FX G 44 BX ((s,o,()),())=some ((uK s o,()),()):=by
 refine az (hG _ _ rfl) ab1 ?_;refine aa (CU hG s o h hf fun hm h3=>GW o s h hm h3) ?_;unfold uK;by_cases h0:(c8 s o).2.1=0
 case neg=>rw[if_pos h0];exact af (show((c8 s o).2.1 != 0)=true by simp[h0]) rfl
 rw[if_neg (by simp[h0])];refine ag (show((c8 s o).2.1 != 0)=false by simp[h0]) ?_;have hm:=wD h0;obtain⟨k1,k8⟩:=mD hm;have hs:=h.d.sm;unfold LW;have no:∀k:Int,¬o.1=k→(o.1==k)=false:=fun k hk=>by simp[hk]
 have ye:∀k:Int,o.1=k→(o.1==k)=true:=fun k hk=>by simp[hk]
 by_cases h1:o.1=1
 ·rw[if_pos h1];exact af (ye 1 h1) rfl
 rw[if_neg h1];refine ag (no 1 h1) ?_;by_cases h2:o.1=2
 ·rw[if_pos h2];refine af (ye 2 h2) (aa (Jv hG s.1 (aH o) hs) ?_);have e1:(fR zV (aQ s.1 (aH o))).1=(aQ s.1 (aH o)).getD zV:=di _ _;show Option.bind (FX G 75 tC ((aH o,false,(fR zV (aQ s.1 (aH o))).1.2.2.1,(fR zV (aQ s.1 (aH o))).1.2.2.2,()),())) _=_;rw[e1];refine aa (Np hG _ _ _ _) ?_;have hl:=cG (aH o) false (jE s.1 (aH o)).1 (jE s.1 (aH o)).2;exact af (fits (show 1+(bF (aH o) false (jE s.1 (aH o)).1 (jE s.1 (aH o)).2).length≤_ by omega)) rfl
 rw[if_neg h2];refine ag (no 2 h2) ?_;by_cases h3:o.1=3
 ·rw[if_pos h3];exact af (ye 3 h3) rfl
 rw[if_neg h3];refine ag (no 3 h3) ?_;by_cases h4:o.1=4
 ·rw[if_pos h4];exact af (ye 4 h4) (aa (aen hG s.1 o h.d) rfl)
 rw[if_neg h4];refine ag (no 4 h4) ?_;by_cases h5:o.1=5
 ·rw[if_pos h5];exact af (ye 5 h5) rfl
 rw[if_neg h5];refine ag (no 5 h5) ?_;by_cases h6:o.1=6
 ·rw[if_pos h6];obtain⟨v,r0,r1,hv,hr,bw,ZF⟩:=yl h0 h6;have S4:v∈s.1.1:=ado hv;have side:∀r∈v.2.1,r.2=0∨r.2=1:=fun r hr=>h.d.side (bh.2 ⟨v,S4,hr⟩);have hg:((aQ s.1 (aH o)).getD zV).2.1=[r0,r1]:=by rw[hv];exact hr
  rw[hg];exact af (ye 6 h6) (aa (aeq hG s.1 o h.d hv hr bw ZF (side r0 (by rw[hr];simp)) (side r1 (by rw[hr];simp))) rfl)
 rw[if_neg h6];exact ag (no 6 h6) (aa (aeo hG s.1 o h.d) rfl)
theorem Pv{row:List ae}{x:ae}(h:x∈row):dH row x∈row:=by have hl:0<row.length:=aeJ h;unfold dH cE;rw[if_pos h];have aF:((idx x row 0).toNat+(row.length-1))%row.length<row.length:=aeW _ hl;rw[List.getElem?_eq_getElem aF];exact adg aF
theorem Uc{row:List ae}{x eT:ae}(h:x∈row)(bw:x≠eT):x∈cy row eT:=by unfold cy;exact(j4 _).mem_iff.2 (aeL.2 ⟨h,decide_eq_true bw⟩)
theorem Ud{row:List ae}{x eT:ae}(h:x∈cy row eT):x∈row:=by unfold cy at h;exact(aeL.1 ((j4 _).mem_iff.1 h)).1
theorem G2{d:aj}(h:Wf d){x:ae}(hx:x∈ax d.1):∃v∈d.1,x∈v.2.1∧bP d x=some v.1∧aW d v.1=v.2.1:=by obtain⟨v,hv,jG⟩:=bh.1 hx;exact⟨v,hv,jG,iM h.rw hv jG,iX h.sv hv⟩
theorem Nr{d:aj}(h:Wf d){x eT:ae}(hx:x∈ax d.1)(bw:x≠eT):rF (D0 d x eT)=true:=by
 obtain⟨v,hv,jG,ha,hr⟩:=G2 h hx;have hi:=(h.gv v hv).i;unfold D0;rw[ha];simp only[Option.getD_some];rw[hr];have hm:=Ud (Pv (Uc jG bw))
 split
 ·unfold rF;simp[hi]
 ·obtain⟨e,he,h1,h2⟩:=cH.1 (h.pd.mem_iff.1 (bh.2 ⟨v,hv,hm⟩));unfold rF IW;rw[hi,←h1,(h.ge e he).i,decide_eq_true h2];rfl
theorem Pw{n:ID}{a b:ni}(hn:cf n=true)(ha:rF a=true)(hb:rF b=true):bB (Dm n a b)=0:=by
 unfold bB;rw[if_neg (by simp[Dm]),if_neg (by simp[Dm]),if_neg (by simp[Dm,hn]),if_neg,if_pos (show(Dm n a b).1=3 from rfl)]
 ·exact if_pos ⟨ha,hb⟩
 intro h;have:qa (jL (Dm n a b)) J7=true:=(im _ _).2 rfl;rw[this]at h;cases h
theorem zq{x v w:ID}{n:Int}(hx:cf x=true)(hv:cf v=true)(hw:cf w=true)(h0:0≤n)(h3:n≤3):bB (eX x v w n)=0:=by
 unfold bB;rw[if_neg (by simp[eX]),if_neg (by simp[eX]),if_neg (by simp[eX,hx]),if_neg,if_neg (by simp[eX]),if_pos (show(eX x v w n).1=5 from rfl)]
 ·exact if_pos ⟨hv,hw,h0,h3⟩
 intro h;have:qa (jL (eX x v w n)) J7=true:=(im _ _).2 rfl;rw[this]at h;cases h
theorem nt{x:ID}{oe:Bool}{l:ByteArray}{n:Int}(hx:cf x=true)(hl:mP l=true)(hn:kI n=true):∀p∈bF x oe l n,bB p=0:=fun p hp=>by
 unfold bF at hp;rcases acw.1 hp with hp|hp
 ·split at hp
  ·cases hp
  ·rw[List.mem_singleton.1 hp];exact MV hx hl
 ·split at hp
  ·cases hp
  ·rw[List.mem_singleton.1 hp];exact MW hx hn
theorem Ue{o:aR}(h:bB o=0):jL o=J7:=by
 unfold bB at h
 split at h;· cases h
 split at h;· cases h
 split at h;· cases h
 split at h;· cases h
 rename_i h4;exact(im _ _).1 (by simpa using h4)
theorem Dp{d:aj}(h:Wf d)(x:ID):mP (jE d x).1=true∧kI (jE d x).2=true:=by
 unfold jE
 cases hv:aQ d x with
 |none=>exact⟨lF,lG⟩
 |some v=>have:=h.gv v (ado hv);exact⟨this.l,this.a⟩
theorem Dq{d:aj}(h:Wf d)(x:ID):mP (j9 d x).1=true∧kI (j9 d x).2=true:=by
 unfold j9
 cases hv:bZ d x with
 |none=>exact⟨lF,lG⟩
 |some v=>have:=h.ge v (ado hv);exact⟨this.l,this.a⟩
theorem JU{o:aR}(hm:bB o=0)(hk:7≤o.1)(d:aj):yj d o=if o.1=7 then[O6 (aH o) (fF o) (if fF o=true then j9 d (aH o) else jE d (aH o)).1] else[PS (aH o) (fF o) (if fF o=true then j9 d (aH o) else jE d (aH o)).2]:=by
 have hr:=Ue hm;obtain⟨k1,k8⟩:=mD hm;obtain⟨k,x,nw,ot,a,b,oe,t,n⟩:=o;simp only at hk k8;unfold yj;by_cases h7:k=7
 ·subst h7;unfold jL at hr;simp only[show ¬(7:Int)=3 by decide,show ¬(7:Int)=5 by decide,show ¬(7:Int)=6 by decide,if_false,if_true,J7,Prod.mk.injEq,true_and]at hr;obtain⟨rfl,rfl,rfl,rfl,rfl⟩:=hr;rfl
 ·have h8:k=8:=by omega
  subst h8;unfold jL at hr;simp only[show ¬(8:Int)=3 by decide,show ¬(8:Int)=5 by decide,show ¬(8:Int)=6 by decide,show ¬(8:Int)=7 by decide,if_false,if_true,J7,Prod.mk.injEq,true_and,and_true]at hr;obtain⟨rfl,rfl,rfl,rfl,rfl⟩:=hr;rfl
theorem Fh{s:StateT}{o:aR}(h:(c8 s o).2.1=0)(hk:o.1=4):(bZ s.1 (aH o)).isSome=true:=by
 unfold c8 at h;rw[if_neg (by simp[wD h]),if_neg (by omega),if_neg (by omega),if_neg (by omega),if_pos hk]at h;unfold DX at h
 split at h
 ·cases h
 ·rename_i h1;exact xV h1
theorem smN{p q:Int}(hp:p=0∨p=1)(hq:q=0∨q=1):0≤1-p+2*q∧1-p+2*q≤3:=by omega
theorem Wv{s:StateT}{o:aR}(hw:eP s)(h:(c8 s o).2.1=0):(∀p∈LW s o,bB p=0)∧1≤(LW s o).length∧(LW s o).length≤5:=by
 have hm:=wD h;obtain⟨k1,k8⟩:=mD hm;have hi:=Li hm;have one:∀{p:aR} {l:List aR},l=[p]→bB p=0→(∀q∈l,bB q=0)∧1≤l.length∧l.length≤5:=fun {p l} e hp=>by subst e;exact⟨fun q hq=>by rw[List.mem_singleton.1 hq];exact hp,by simp,by simp⟩
 unfold LW;by_cases h1:o.1=1
 ·rw[if_pos h1];exact one rfl (GZ (.inr (.inl rfl)) hi)
 rw[if_neg h1];by_cases h2:o.1=2
 ·rw[if_pos h2];have hl:=cG (aH o) false (jE s.1 (aH o)).1 (jE s.1 (aH o)).2;obtain⟨q1,q2⟩:=Dp hw.d (aH o);refine⟨fun p hp=>?_,by simp,by simp only[List.length_cons];omega⟩;rcases aa1.1 hp with rfl|hp
  ·exact GZ (.inl rfl) hi
  ·exact nt hi q1 q2 p hp
 rw[if_neg h2];by_cases h3:o.1=3
 ·rw[if_pos h3];exact one rfl (GZ (.inr (.inr rfl)) hi)
 rw[if_neg h3];by_cases h4:o.1=4
 ·rw[if_pos h4];have he:=Fh h h4;have hx:=hw.d.jB he (s:=0) (.inl rfl);have hy:=hw.d.jB he (s:=1) (.inr rfl);obtain⟨q1,q2⟩:=Dq hw.d (aH o);have hl:=cG (aH o) true (j9 s.1 (aH o)).1 (j9 s.1 (aH o)).2;unfold Dn;refine⟨fun p hp=>?_,by simp,by simp only[List.length_cons];omega⟩;rcases aa1.1 hp with rfl|hp
  ·exact Pw hi (Nr hw.d hx (fun e=>by have:=congrArg (·.2) e;simp at this)) (Nr hw.d hy (fun e=>by have:=congrArg (·.1) e;have e2:aH o=zI:=this;rw[e2]at hi;cases hi))
  ·exact nt hi q1 q2 p hp
 rw[if_neg h4];by_cases h5:o.1=5
 ·rw[if_pos h5];obtain⟨a,b,_,_⟩:=xU hm h5;exact one rfl (Ua a b)
 rw[if_neg h5];by_cases h6:o.1=6
 ·rw[if_pos h6];obtain⟨v,r0,r1,hv,hr,bw,ZF⟩:=yl h h6;have S4:v∈s.1.1:=ado hv;have hg:((aQ s.1 (aH o)).getD zV).2.1=[r0,r1]:=by rw[hv];exact hr
  rw[hg];have side:∀r∈v.2.1,(r.2=0∨r.2=1)∧cf r.1=true:=fun r hr=>by obtain⟨e,he,e1,e2⟩:=cH.1 (hw.d.pd.mem_iff.1 (bh.2 ⟨v,S4,hr⟩));exact⟨e2,by rw[←e1];exact(hw.d.ge e he).i⟩
  have s0:=side r0 (by rw[hr];simp);have s1:=side r1 (by rw[hr];simp);obtain⟨q1,q2⟩:=Dp hw.d (aH o);obtain⟨q3,q4⟩:=Dq hw.d (an o);have ho:=Lj hm h6;have l1:=cG (aH o) false (jE s.1 (aH o)).1 (jE s.1 (aH o)).2;have l2:=cG (an o) true (j9 s.1 (an o)).1 (j9 s.1 (an o)).2;show(∀p∈cX s.1 o r0 r1,bB p=0)∧1≤(cX s.1 o r0 r1).length∧(cX s.1 o r0 r1).length≤5;unfold cX;refine⟨fun p hp=>?_,by simp only[List.length_append,List.length_cons,List.length_nil];omega,by simp only[List.length_append,List.length_cons,List.length_nil];omega⟩;rcases acw.1 hp with hp|hp
  ·rcases acw.1 hp with hp|hp
   ·rw[List.mem_singleton.1 hp];unfold yk
    split
    ·obtain⟨n0,n3⟩:=smN s1.1 s0.1;exact zq s1.2 hi ho n0 n3
    ·obtain⟨n0,n3⟩:=smN s0.1 s1.1;exact zq s0.2 hi ho n0 n3
   ·exact nt hi q1 q2 p hp
  ·exact nt ho q3 q4 p hp
 rw[if_neg h6];obtain⟨q1,q2⟩:=Dp hw.d (aH o);obtain⟨q3,q4⟩:=Dq hw.d (aH o);have hq:mP (if fF o=true then j9 s.1 (aH o) else jE s.1 (aH o)).1=true∧kI (if fF o=true then j9 s.1 (aH o) else jE s.1 (aH o)).2=true:=by split;exact⟨q3,q4⟩;exact⟨q1,q2⟩
 rw[JU hm (by omega)]
 split
 ·exact one rfl (MV hi hq.1)
 ·exact one rfl (MW hi hq.2)
theorem wE{s:StateT}(hw:eP s)(o:aR):(uK s o).length≤5:=by
 unfold uK
 split
 ·simp
 ·rename_i h;exact(Wv hw (by simpa using h)).2.2
theorem aer(hG:HG G)(s:StateT)(hs:Sm s.1)(hl:s.2.length≤50000000)(tv:∀v∈s.1.1,v.2.2.1.size≤100000000)(te:∀e∈s.1.2,e.2.1.size≤100000000) :
  ∃b,FX G 43 mj ((s,()),())=some ((b,()),())∧(b=true→eP s∧fX s.1=0):=by
 obtain⟨r,q1,q2⟩:=ajV hG s.1 hs tv te;have loop:∀(n i:Nat),i+n=s.2.length→0<i→(∀j x y,j+1<i→s.2[j]? = some x→s.2[j+1]? = some y→kG x.1 y.1=true) → ∃b,LX G 43 mj Tryz.f43 vN (aO Tryz.prog 43 0) (((i:Int),()),(((s,()),()),()))=some ((b,()),())∧(b=true→eP s∧fX s.1=0):=by
  intro n
  induction n with
  |zero =>
   intro i hi h0 ha;have e1:=@Gd (FX G) (LX G 43 mj Tryz.f43) (((i:Int),()),(((s,()),()),()));have e2:=e1.trans (ag (decide_eq_false (show ¬((i:Int)<((s.2.length:Nat):Int)) by omega)) rfl);by_cases h4:s.2.length≤400
   ·refine⟨r==0,ao (e2.trans (af (decide_eq_true (show((s.2.length:Nat):Int)≤400 by omega)) (aa q1 rfl))) rfl,fun hb=>?_⟩;obtain⟨hw,hg⟩:=q2.1 ((beq_iff_eq (α:=Int)).1 hb);exact⟨⟨hw,TZ (R:=fun a b:aB=>kG a.1 b.1=true) (fun a b c=>fT) fun j x y h1 h2=>ha j x y (by have:=(aaW.1 h2).1;omega) h1 h2,h4⟩,hg⟩
   ·exact⟨false,ao (e2.trans (ag (decide_eq_false (show ¬((s.2.length:Nat):Int)≤400 by omega)) rfl)) rfl,fun h=>by cases h⟩
  |succ n ih =>
   intro i hi h0 ha;have aF:i<s.2.length:=by omega
   have hx:s.2[i]? = some s.2[i]:=aaV aF;have hy:s.2[i-1]? = some s.2[i-1]:=aaV (by omega);have e1:=@Gd (FX G) (LX G 43 mj Tryz.f43) (((i:Int),()),(((s,()),()),()));have e2:aT s.2 (IntKind.wrap .i64 ((i:Int)-1))=some s.2[i-1]:=by rw[Nm h0 aF (by omega)];exact aA hy
   by_cases hc:kG s.2[i-1].1 s.2[i].1=true
   ·obtain⟨b,h1,h2⟩:=ih (i+1) (by omega) (by omega) (fun j x y hj k1 k2=>by
     by_cases ZD:j+1=i
     ·have ej:j=i-1:=by omega
      subst ej;rw[hy]at k1;rw[show i-1+1=i by omega,hx]at k2
      cases k1;cases k2;exact hc
     ·exact ha j x y (by omega) k1 k2)
    refine⟨b,ao (e1.trans (af (aY aF) (aa e2 (aa (aA hx) (aa (Vx hG _ _) (ag (decide_eq_false ?_) ?_)))))) rfl,h2⟩
    ·have:=(sM s.2[i-1].1 s.2[i].1).2 hc;show ¬(mu s.2[i-1].1 s.2[i].1≥0);omega
    ·rw[wI,aD aF (by omega)];exact h1
   ·refine⟨false,ao (e1.trans (af (aY aF) (aa e2 (aa (aA hx) (aa (Vx hG _ _) (af (decide_eq_true ?_) rfl)))))) rfl,fun h=>by cases h⟩;have:=mt (sM s.2[i-1].1 s.2[i].1).1 hc;show mu s.2[i-1].1 s.2[i].1≥0;omega
 have e0:=@ab0 (FX G) (LX G 43 mj Tryz.f43) ((s,()),());have fin:∀{y},bS 43 mj Tryz.f43 (FX G) (LX G 43 mj Tryz.f43) ((s,()),())=some y→FX G 43 mj ((s,()),())=some y:=fun {y} h=>az (hG _ _ rfl) h rfl;by_cases h0:s.2.length=0
 ·have e1:=@Gd (FX G) (LX G 43 mj Tryz.f43) (((1:Int),()),(((s,()),()),()));have e2:=e1.trans (ag (decide_eq_false (show ¬((1:Int)<((s.2.length:Nat):Int)) by omega)) rfl);refine⟨r==0,fin (e0.trans (ao (e2.trans (af (decide_eq_true (show((s.2.length:Nat):Int)≤400 by omega)) (aa q1 rfl))) rfl)),fun hb=>?_⟩;obtain⟨hw,hg⟩:=q2.1 ((beq_iff_eq (α:=Int)).1 hb);refine⟨⟨hw,?_,by omega⟩,hg⟩;rw[List.eq_nil_of_length_eq_zero h0];exact List.Pairwise.nil
 ·obtain⟨b,h1,h2⟩:=loop (s.2.length-1) 1 (by omega) (by omega) (fun j x y hj=>by omega);exact⟨b,fin (e0.trans h1),h2⟩
theorem aes(hG:HG G)(GW:∀o,nR G o):FX G 42 IE ((),())=some ((true,()),()):=by refine az (hG _ _ rfl) abZ ?_;have h1:=Ub hG GW zS (SO 1 (1,1)) eP.zero (Wu 1);have e:uK zS (SO 1 (1,1))=[SO 2 (1,1)]:=rfl;rw[e]at h1;exact aa h1 (af rfl (af rfl rfl))
theorem aet(hG:HG G)(l:List aR):FX G 47 IF ((l,()),())=some ((l.take 8,()),()):=by
 refine az (hG _ _ rfl) ab2 ?_;by_cases h:8<l.length
 ·have d1:decide (((l.length:Nat):Int)>8)=true:=decide_eq_true (by omega);have d2:bp l.length 0 8=true:=by simp[bp];omega
  simp only[d1,d2];rfl
 ·have d1:decide (((l.length:Nat):Int)>8)=false:=decide_eq_false (by omega);rw[List.take_of_length_le (by omega)];simp only[d1];rfl
def LY:List aR→StateT→List aR→List aR
 |[],_,acc=>acc
 |o::r,s,acc=>LY r (c8 s o).1 (uK s o++acc)
def Ww(s:StateT)(l:List aR):List aR×(Int×Unit):=if(c7 s l).2.1≠0 then([],((c7 s l).2.1,())) else(LY l s [],(0,()))
theorem go_step{s:StateT}{o:aR}{r:List aR}(h:(qb (o::r) s).2.1=0):(c8 s o).2.1=0∧(qb r (c8 s o).1).2.1=0∧qb (o::r) s=qb r (c8 s o).1:=by
 have e:qb (o::r) s=if(c8 s o).2.1≠0 then(zS,(c8 s o).2) else qb r (c8 s o).1:=rfl
 rw[e]at h ⊢;by_cases h1:(c8 s o).2.1=0
 ·rw[if_neg (by simp[h1])]at h ⊢;exact⟨h1,h,rfl⟩
 ·rw[if_pos h1]at h;exact absurd h h1
theorem aeu(hG:HG G)(GW:∀o,nR G o)(s:StateT)(l:List aR)(hw:eP s)(hl:l.length≤8)(hf:∀o∈l,Fit o):FX G 48 zc ((s,l,()),())=some (Ww s l,()):=by
 refine az (hG _ _ rfl) ab3 ?_;refine aa (aiF hG s l hw (by omega) hf fun o _=>GW o) ?_;unfold Ww;by_cases h0:(c7 s l).2.1=0
 case neg=>rw[if_pos h0];exact af (show((c7 s l).2.1 != 0)=true by simp[h0]) rfl
 rw[if_neg (by simp[h0])];refine ag (show((c7 s l).2.1 != 0)=false by simp[h0]) ?_;have MI:(qb l s).2.1=0:=by rw[mG h0]at h0;exact h0
 have loop:∀(n i:Nat) (t:StateT) (acc:List aR),i+n=l.length→eP t→(qb (l.drop i) t).2.1=0→acc.length≤5*i → LX G 48 zc Tryz.f48 vO (aO Tryz.prog 48 0) ((l,(((l.length:Nat):Int),((i:Int),()))),(((t,()),()),(acc,())))=some ((LY (l.drop i) t acc,((0:Int),())),()):=by
  intro n
  induction n with
  |zero =>intro i t acc hi ht hg ha;refine ao MA (ag (decide_eq_false (show ¬((i:Int)<((l.length:Nat):Int)) by omega)) ?_);rw[List.drop_eq_nil_of_le (by omega)];rfl
  |succ n ih =>
   intro i t acc hi ht hg ha;have aF:i<l.length:=by omega
   have hm:=adg aF;rw[List.drop_eq_getElem_cons aF]at hg ⊢;obtain⟨g1,g2,_⟩:=go_step hg
   refine ao MA (af (aY aF) (aa (aA (aaV aF)) ?_));refine aa (Ub hG GW t l[i] ht (hf _ hm)) ?_;have hp:=wE ht l[i];refine af (fits (show(uK t l[i]).length+acc.length≤_ by omega)) ?_;refine aa (CU hG t l[i] ht (hf _ hm) fun hm h3=>GW _ t ht hm h3) ?_;refine ag (show((c8 t l[i]).2.1 != 0)=false by simp[g1]) ?_;rw[wI,aD aF (by omega)];exact ih (i+1) _ (uK t l[i]++acc) (by omega) (ht.one l[i]) g2 (by rw[List.length_append];omega)
 exact loop l.length 0 s [] (by omega) hw MI (by simp)
theorem aev(hG:HG G)(GW:∀o,nR G o)(s:StateT)(l:List aR)(hw:eP s)(hl:l.length≤1073741824)(hf:∀o∈l,Fit o):FX G 53 ze ((s,l,()),())=some (qb l s,()):=by
 have hn:=hw.n;refine az (hG _ _ rfl) ab7 ?_;refine aa (YQ hG s.1 hw.d.sm) (aa (VF (hG _ _ rfl) s.2 (by omega)) ?_);have loop:∀(n i:Nat) (t:StateT),i+n=l.length→eP t → LX G 53 ze Tryz.f53 vR (aO Tryz.prog 53 0) ((l,(((l.length:Nat):Int),((i:Int),()))),(((zS,()),((t,()),())),()))=some (qb (l.drop i) t,()):=by
  intro n
  induction n with
  |zero =>intro i t hi ht;refine ao MD (ag (decide_eq_false (show ¬((i:Int)<((l.length:Nat):Int)) by omega)) ?_);rw[List.drop_eq_nil_of_le (by omega)];rfl
  |succ n ih =>
   intro i t hi ht;have aF:i<l.length:=by omega
   have hm:=adg aF;refine ao MD (af (aY aF) (aa (aA (aaV aF)) ?_));refine aa (CU hG t l[i] ht (hf _ hm) fun hm h3=>GW _ t ht hm h3) ?_;rw[List.drop_eq_getElem_cons aF,qb];by_cases h1:(c8 t l[i]).2.1=0
   ·rw[if_neg (by simp[h1])];refine ag (show((c8 t l[i]).2.1 != 0)=false by simp[h1]) ?_;rw[wI,aD aF hl];exact ih (i+1) _ (by omega) (ht.one l[i])
   ·rw[if_pos h1];exact af (show((c8 t l[i]).2.1 != 0)=true by simp[h1]) rfl
 exact loop l.length 0 s (by omega) hw
end Go.Vs
