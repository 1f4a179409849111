/- What takes operations back: what the program computes. -/
import Derived.Test.YtpkfpbpbkabkdaaGreatPartsB
import Derived.Test.YtpkfpbpbkabkdaaGreatFormed
import Derived.Test.YtpkfpbpbkabkdaaGreatTop
import Derived.Test.YtpkfpbpbkabkdaaGreatForm
import Derived.Test.YtpkfpbpbkabkdaaGreatSplits
import Derived.Test.YtpkfpbpbkabkdaaGreatNormalD
import Derived.Test.YtpkfpbpbkabkdaaGreatEuler
import Derived.Test.YtpkfpbpbkabkdaaGreatPlanar
set_option linter.unusedVariables false
set_option linter.unusedSimpArgs false
namespace Go.Vs
open Go.Proofs
variable {G:(f:FuncId)→(g:aM)→Option (g.A→Option g.B)}
theorem KS{n:Int}(h:LC (.int .i64) n):BW n:=by
 have h1:IntKind.min .i64 = -9223372036854775808:=by decide
 have h2:IntKind.max .i64=9223372036854775807:=by decide
 have h:IntKind.min .i64≤n∧n≤IntKind.max .i64:=h
 rw[h1,h2]at h
 unfold BW;omega
theorem Yy{o:bj}(h:LC jE o)(ht:FF o):Fit o:=by
 obtain⟨_,_,_,_,⟨_,_,h1⟩,⟨_,_,h2⟩,_,_,h3⟩:=h
 exact⟨KS h1,KS h2,KS h3,ht⟩
end Go.Vs
namespace Go.Vs
open Go.Proofs
variable {G:(f:FuncId)→(g:aM)→Option (g.A→Option g.B)}
end Go.Vs
namespace Go.Vs
open Go.Proofs
variable {G:(f:FuncId)→(g:aM)→Option (g.A→Option g.B)}
theorem Wf.bd{d:aj}(h:Wf d):Bd 100 d:=⟨by have:=h.nv;omega,by have:=h.ne;omega,fun v hv=>by have:=h.um v hv;omega⟩
theorem Ev(v:ah):v.2.1.length+v.2.2.1.size+1≤cq dn v:=by
 have h:cq dn v=(1+1)+(((v.2.1.map (cq bm)).sum+1)+((v.2.2.1.size+1)+1)):=rfl
 have h2:=vG (fun x:ae=>cq bm x) (fun x=>by show 1≤(1+1)+1;omega) v.2.1
 have h3:(v.2.1.map fun x:ae=>cq bm x).sum=(v.2.1.map (cq bm)).sum:=rfl
 rw[h];omega
theorem Ew(e:ai):e.2.1.size+1≤cq dR e:=by
 have h:cq dR e=(1+1)+((e.2.1.size+1)+1):=rfl
 rw[h];omega
theorem IP{s:StateT}{m:Nat}(hb:cq qg s≤m):s.1.1.length≤m∧s.1.2.length≤m∧s.2.length≤m∧(∀v∈s.1.1,v.2.1.length≤m∧v.2.2.1.size≤m)∧∀e∈s.1.2,e.2.1.size≤m:=by
 have h:cq qg s=(((s.1.1.map (cq dn)).sum+1)+((s.1.2.map (cq dR)).sum+1))+((s.2.map (cq cX)).sum+1):=rfl
 rw[h]at hb
 have l1:=vG (fun v:ah=>cq dn v) (fun v=>by have:=Ev v;omega) s.1.1
 have l2:=vG (fun e:ai=>cq dR e) (fun e=>by have:=Ew e;omega) s.1.2
 have l3:=vG (fun g:az=>cq cX g) (fun g=>by show 1≤((1+1)+1)+((1+1)+1);omega) s.2
 have e1:(s.1.1.map fun v:ah=>cq dn v).sum=(s.1.1.map (cq dn)).sum:=rfl
 have e2:(s.1.2.map fun v:ai=>cq dR v).sum=(s.1.2.map (cq dR)).sum:=rfl
 have e3:(s.2.map fun v:az=>cq cX v).sum=(s.2.map (cq cX)).sum:=rfl
 refine⟨by omega,by omega,by omega,fun v hv=>?_,fun e he=>?_⟩
 ·have:=Fw (fun v:ah=>cq dn v) hv
  have:=Ev v
  omega
 ·have:=Fw (fun v:ai=>cq dR v) he
  have:=Ew e
  omega
end Go.Vs
namespace Go.Vs
def IQ:List (List bj)→StateT→StateT
 |[],s=>s
 |e::r,s=>IQ r (mI s e)
def CC:List (List bj)→StateT→List Bool
 |[],_=>[]
 |e::r,s=>decide ((fT s e).2.1=0)::CC r (mI s e)
theorem fX.all:∀(l:List (List bj)) {s:StateT},fX s→fX (IQ l s)
 |[],_,h=>h
 |e::r,_,h=>fX.all r (h.try e)
theorem Bs.all:∀{l:List (List bj)} {n:Nat} {s:StateT},(∀e∈l,e.length≤8)→Bs n s→Bs (n+24*l.length) (IQ l s)
 |[],_,_,_,h=>h
 |e::r,n,s,hl,h=>by
  have h1:Bs (n+24) (mI s e):=h.try.mono (by have:=hl e (by simp);omega)
  exact(Bs.all (fun e he=>hl e (by simp[he])) h1).mono (by simp;omega)
theorem IS{l:List ah}{x:ID}:(aX l x).isSome=true↔∃v∈l,v.1=x:=by
 unfold aX;rw[List.find?_isSome];simp
theorem IT{l:List ai}{x:ID}:(aT l x).isSome=true↔∃v∈l,v.1=x:=by
 unfold aT;rw[List.find?_isSome];simp
structure Gr(s t:StateT):Prop where
 v:∀x,(aX s.1.1 x).isSome=true→(aX t.1.1 x).isSome=true
 e:∀x,(aT s.1.2 x).isSome=true→(aT t.1.2 x).isSome=true
 nv:s.1.1.length≤t.1.1.length
 ne:s.1.2.length≤t.1.2.length
theorem Gr.rfl(s:StateT):Gr s s:=⟨fun _ h=>h,fun _ h=>h,Nat.le_refl _,Nat.le_refl _⟩
theorem Gr.trans{a b c:StateT}(h:Gr a b)(k:Gr b c):Gr a c:=⟨fun x p=>k.v x (h.v x p),fun x p=>k.e x (h.e x p),Nat.le_trans h.nv k.nv,Nat.le_trans h.ne k.ne⟩
def named(s:StateT)(o:bj):Prop:=if o.1=1 then(aX s.1.1 (aK o)).isSome=true else(aT s.1.2 (aK o)).isSome=true
theorem named.up{s t:StateT}{o:bj}(h:named s o)(k:Gr s t):named t o:=by
 unfold named at h ⊢
 split
 ·rename_i h1;rw[if_pos h1]at h;exact k.v _ h
 ·rename_i h1;rw[if_neg h1]at h;exact k.e _ h
theorem Mi(d:aj)(c:mF)(x:ae):(bQ d c x).1.length=d.1.length∧(bQ d c x).2=d.2:=⟨fB _ _ _,rfl⟩
theorem SQ{s:StateT}{o:bj}(hk:o.1=1∨o.1=3)(h:(fS s o).2.1=0):Gr s (fS s o).1∧named (fS s o).1 o:=by
 unfold fS at h ⊢
 by_cases hm:bC o=0
 case neg=>rw[if_pos hm]at h;exact absurd h hm
 rw[if_neg (by simp[hm])]at h ⊢
 rcases hk with h1|h3
 ·rw[if_pos h1]at h ⊢
  unfold qk at h ⊢
  by_cases h2:(aR s.1 (aK o)).isSome=true
  ·rw[if_pos h2]at h;cases h
  rw[if_neg h2]at h ⊢
  by_cases h4:24≤s.1.1.length
  ·rw[if_pos h4]at h;cases h
  rw[if_neg h4]
  refine⟨⟨fun x hx=>?_,fun x hx=>hx,by show _≤(eI _ _).length;rw[gE];omega,Nat.le_refl _⟩,?_⟩
  ·rw[IS]at hx ⊢
   obtain⟨v,hv,e⟩:=hx
   exact⟨v,mn.2 (.inr hv),e⟩
  ·unfold named
   rw[if_pos h1,IS]
   exact⟨_,mn.2 (.inl rfl),rfl⟩
 ·have n1:¬o.1=1:=by omega
  have n2:¬o.1=2:=by omega
  rw[if_neg n1,if_neg n2,if_pos h3]at h ⊢
  unfold oH at h ⊢
  split at h
  ·cases h
  rename_i c1
  split at h
  ·cases h
  rename_i c2
  split at h
  ·cases h
  rename_i c3
  split at h
  ·cases h
  rename_i c4
  split at h
  ·cases h
  rename_i c5
  rw[if_neg c1,if_neg c2,if_neg c3,if_neg c4,if_neg c5]
  have l1:(gF s o).1.length=s.1.1.length:=by unfold gF;rw[(Mi _ _ _).1,(Mi _ _ _).1]
  have l2:(gF s o).2=dy (aK o,(e0,0)) s.1.2:=rfl
  refine⟨⟨fun x hx=>?_,fun x hx=>?_,by show _≤(gF s o).1.length;omega,by show _≤(gF s o).2.length;rw[l2,kG];omega⟩,?_⟩
  ·exact vP _ (vP _ hx)
  ·show(aT (gF s o).2 x).isSome=true
   rw[l2]
   rw[IT]at hx ⊢
   obtain⟨v,hv,e⟩:=hx
   exact⟨v,oG.2 (.inr hv),e⟩
  ·unfold named
   rw[if_neg n1]
   show(aT (gF s o).2 (aK o)).isSome=true
   rw[l2,IT]
   exact⟨_,oG.2 (.inl rfl),rfl⟩
theorem N7{s:StateT}{o:bj}(hk:o.1=1∨o.1=3)(h:named s o):(fS s o).2.1≠0:=by
 unfold fS
 by_cases hm:bC o=0
 case neg=>rw[if_pos hm];exact hm
 rw[if_neg (by simp[hm])]
 unfold named at h
 rcases hk with h1|h3
 ·rw[if_pos h1]at h
  rw[if_pos h1]
  unfold qk
  rw[if_pos (show(aR s.1 (aK o)).isSome=true from h)]
  decide
 ·have n1:¬o.1=1:=by omega
  have n2:¬o.1=2:=by omega
  rw[if_neg n1]at h
  rw[if_neg n1,if_neg n2,if_pos h3]
  unfold oH
  rw[if_pos (show(cI s.1 (aK o)).isSome=true from h)]
  decide
structure Vj(e:List bj):Prop where
 k:∀o∈e,o.1=1∨o.1=3
 n:e≠[]
theorem F5:∀{e:List bj} {s:StateT},(∀o∈e,o.1=1∨o.1=3)→(LH e s).2.1=0→Gr s (LH e s).1∧∀o∈e,named (LH e s).1 o
 |[],s,_,_=>⟨Gr.rfl s,fun o ho=>by cases ho⟩
 |o::r,s,hk,h=>by
  unfold LH at h ⊢
  by_cases h1:(fS s o).2.1=0
  case neg=>rw[if_pos h1]at h;exact absurd h h1
  rw[if_neg (by simp[h1])]at h ⊢
  obtain⟨g1,n1⟩:=SQ (hk o (by simp)) h1
  obtain⟨g2,n2⟩:=F5 (fun o ho=>hk o (by simp[ho])) h
  refine⟨g1.trans g2,fun p hp=>?_⟩
  rcases List.mem_cons.1 hp with rfl|hp
  ·exact n1.up g2
  ·exact n2 p hp
theorem rF{s:StateT}{e:List bj}(h:(fT s e).2.1=0):fT s e=LH e s:=by
 unfold fT at h ⊢
 by_cases hm:vL e=0
 ·rw[if_neg (by simp[hm])]
 ·rw[if_pos hm]at h;exact absurd h hm
theorem SR{s:StateT}{e:List bj}(h:(fT s e).2.1=0):mI s e=(fT s e).1:=by unfold mI;rw[if_neg (by simp[h])]
theorem Vk{s:StateT}{e:List bj}(h:(fT s e).2.1≠0):mI s e=s:=by unfold mI;rw[if_pos h]
theorem IU{s:StateT}{e:List bj}(ha:Vj e):Gr s (mI s e):=by
 by_cases h:(fT s e).2.1=0
 ·rw[SR h,rF h]
  rw[rF h]at h
  exact(F5 ha.k h).1
 ·rw[Vk h];exact Gr.rfl s
theorem IV:∀{l:List (List bj)} {s:StateT},(∀e∈l,Vj e)→Gr s (IQ l s)
 |[],s,_=>Gr.rfl s
 |e::r,s,h=>(IU (h e (by simp))).trans (IV fun e he=>h e (by simp[he]))
theorem IW{s t:StateT}{e:List bj}(ha:Vj e)(h:(fT s e).2.1=0)(hg:Gr (mI s e) t):(fT t e).2.1≠0:=fun h2=>by
 rw[SR h,rF h]at hg
 rw[rF h]at h
 rw[rF h2]at h2
 obtain⟨_,hn⟩:=F5 ha.k h
 cases e with
 |nil=>exact ha.n rfl
 |cons o r =>
  have h3:=N7 (ha.k o (by simp)) ((hn o (by simp)).up hg)
  unfold LH at h2
  rw[if_pos h3]at h2
  exact h3 h2
theorem u4:∀{l:List (List bj)} {s t:StateT},(∀e∈l,Vj e)→Gr (IQ l s) t→∀i:Nat,(CC l s)[i]? = some true→(CC l t)[i]? = some true→False
 |[],_,_,_,_,i,h,_=>by simp[CC]at h
 |e::r,s,t,ha,hg,0,h1,h2=>by
  simp[CC]at h1 h2
  exact IW (ha e (by simp)) h1 ((IV fun e he=>ha e (by simp[he])).trans hg) h2
 |e::r,s,t,ha,hg,i+1,h1,h2=>by
  have h1:(CC r (mI s e))[i]? = some true:=h1
  have h2:(CC r (mI t e))[i]? = some true:=h2
  exact u4 (l:=r) (s:=mI s e) (t:=mI t e) (fun e he=>ha e (by simp[he])) (Gr.trans (show Gr (IQ r (mI s e)) t from hg) (IU (ha e (by simp)))) i h1 h2
end Go.Vs
namespace Go.Vs
open Go.Proofs
variable {G:(f:FuncId)→(g:aM)→Option (g.A→Option g.B)}
structure tB(l:List (List bj)):Prop where
 n:l.length≤1073741824
 e:∀e∈l,e.length≤1073741824
 f:∀e∈l,∀o∈e,Fit o
theorem tB.mem{l m:List (List bj)}(h:tB l)(hs:∀e∈m,e∈l)(hn:m.length≤1073741824):tB m:=⟨hn,fun e he=>h.e e (hs e he),fun e he=>h.f e (hs e he)⟩
theorem Vl(n:Int):Fit (Rv 1 (1,n)):=⟨qy,qy,qy,by show e0.size≤_;simp[e0,ByteArray.size]⟩
end Go.Vs
namespace Go.Vs
open Go.Proofs Go.Cy
variable {G:(f:FuncId)→(g:aM)→Option (g.A→Option g.B)}
structure Lone(d:aj)(v:ah):Prop where
 w:Wf d
 m:v∈d.1
 r:v.2.1=[]
theorem Lone.split{d:aj}{v:ah}(h:Lone d v):∃a b,d.1=a++v::b∧(aY d v.1 zI)=(a++b,d.2)∧au (a++b) ⊆ au d.1∧(au d.1).Perm (au (a++b)):=by
 obtain⟨a,b,h1,_,h2,_⟩:=rB h.w.sv h.m
 have p:(au d.1).Perm (au (a++b)):=by
  have:=iS a b v
  rw[←h1,h.r,List.nil_append]at this;exact this
 exact⟨a,b,h1,by unfold aY;rw[h2,vN h.w.ge],fun x hx=>p.mem_iff.2 hx,p⟩
theorem Lone.wf{d:aj}{v:ah}(h:Lone d v):Wf (aY d v.1 zI):=h.w.RI h.m h.r
theorem Lone.mem{d:aj}{v:ah}(h:Lone d v){u:ah}:u∈(aY d v.1 zI).1↔u∈d.1∧u.1≠v.1:=by
 show u∈dC d.1 v.1↔_
 unfold dC
 rw[List.mem_filter];simp
theorem Lone.SS{d:aj}{v:ah}(h:Lone d v):(au (aY d v.1 zI).1).Perm (au d.1):=by
 obtain⟨a,b,_,h2,_,h3⟩:=h.split
 rw[h2];exact h3.symm
theorem Lone.SU{d:aj}{v:ah}(h:Lone d v){u:ah}{z:ae}(hu:u∈d.1)(hz:z∈u.2.1):u∈(aY d v.1 zI).1:=by
 refine h.mem.2 ⟨hu,fun k=>?_⟩
 rw[LR h.w.sv h.m hu k,h.r]at hz;simp at hz
theorem Lone.at{d:aj}{v:ah}(h:Lone d v){z:ae}(hz:z∈au d.1):bM (aY d v.1 zI) z=bM d z:=by
 obtain⟨u,hu,Kn⟩:=bg.1 hz
 show FB (aY d v.1 zI).1 z=FB d.1 z
 rw[iH h.w.rw hu Kn,iH h.wf.rw (h.SU hu Kn) Kn]
theorem Lone.YV{d:aj}{v:ah}(h:Lone d v){a b:ID}:Ir (aY d v.1 zI) a b↔Ir d a b:=by
 constructor
 ·rintro⟨z,hz,h1,h2⟩
  have hz:=h.SS.mem_iff.1 hz
  exact⟨z,hz,by rw[←h.at hz];exact h1,by rw[←h.at (h.w.other hz)];exact h2⟩
 ·rintro⟨z,hz,h1,h2⟩
  exact⟨z,h.SS.mem_iff.2 hz,by rw[h.at hz];exact h1,by rw[h.at (h.w.other hz)];exact h2⟩
theorem Lone.conn{d:aj}{v:ah}(h:Lone d v){a b:ID}:cQ (aY d v.1 zI) a b↔cQ d a b:=by
 constructor
 ·intro k
  induction k with
  |refl=>exact .refl _
  |tail _ j ih=>exact ih.tail (h.YV.1 j)
 ·intro k
  induction k with
  |refl=>exact .refl _
  |tail _ j ih=>exact ih.tail (h.YV.2 j)
theorem Lone.alone{d:aj}{v:ah}(h:Lone d v){b:ID}(k:cQ d v.1 b):b=v.1:=by
 have key:∀{a b:ID},cQ d a b→a=v.1→b=v.1:=fun {a b} k ha=>by
  induction k with
  |refl=>exact ha
  |tail _ j ih =>
   obtain⟨z,hz,h1,_⟩:=j
   obtain⟨u,hu,Kn,yf⟩:=vT h.w hz
   rw[yf,ih]at h1
   have:=Option.some.inj h1
   rw[LR h.w.sv h.m hu this,h.r]at Kn;simp at Kn
 exact key k rfl
theorem Lone.UM{d:aj}{v:ah}(h:Lone d v){R:List ID}(hr:vS d R):∃R2,vS (aY d v.1 zI) R2∧R2.length+1=R.length:=by
 obtain⟨r,BT,hvr⟩:=hr.c v h.m
 have hv:v.1∈R:=by rw[←h.alone hvr];exact BT
 refine⟨R.erase v.1,⟨hr.n.erase _,fun s hs=>?_,fun s hs t ht k=>hr.i s (List.mem_of_mem_erase hs) t (List.mem_of_mem_erase ht) (h.conn.1 k),fun u hu=>?_⟩,?_⟩
 ·obtain⟨u,hu,he⟩:=hr.v s (List.mem_of_mem_erase hs)
  refine⟨u,h.mem.2 ⟨hu,fun k=>?_⟩,he⟩
  have:s=v.1:=he.symm.trans k
  subst this
  exact absurd hs (List.Nodup.not_mem_erase hr.n)
 ·obtain⟨hu1,hu2⟩:=h.mem.1 hu
  obtain⟨s,hs,TL⟩:=hr.c u hu1
  refine⟨s,(List.mem_erase_of_ne fun k=>?_).2 hs,h.conn.2 TL⟩
  subst k
  exact hu2 (h.alone (TL.symm h.w))
 ·rw[List.length_erase_of_mem hv]
  have:=List.length_pos_of_mem hv;omega
theorem Lone.ph{d:aj}{v:ah}(h:Lone d v){z:ae}(hz:z∈au d.1):ph (aY d v.1 zI) z=ph d z:=by
 rw[m0 hz,m0 (h.SS.mem_iff.2 hz)]
 obtain⟨u,hu,Kn⟩:=bg.1 (h.w.other hz)
 rw[oO h.w.rw hu Kn,oO h.wf.rw (h.SU hu Kn) Kn]
theorem Lone.cV{d:aj}{v:ah}(h:Lone d v):(Vs.cV (aY d v.1 zI)).length=(Vs.cV d).length:=by
 have a:=b6 h.wf
 have b:=b6 h.w
 refine Gd.count h.w.rw.n ⟨fun c hc=>?_,a.p.trans h.SS⟩ b
 refine(a.c c hc).congr fun z hz=>?_
 have:z∈au (aY d v.1 zI).1:=a.p.mem_iff.1 (List.mem_flatten.2 ⟨c,hc,hz⟩)
 exact(h.ph (h.SS.mem_iff.1 this)).symm
theorem CD{d:aj}(hw:Wf d){R:List ID}(hr:vS d R):eY d=(R.length:Int):=by
 rw[sJ hw,(m8 hw (fC hw)).len hw hr]
structure v7(d:aj)(v:ah)(y:ae):Prop where
 w:Wf d
 m:v∈d.1
 r:v.2.1=[y]
theorem v7.mem{d:aj}{v:ah}{y:ae}(h:v7 d v y):y∈au d.1:=bg.2 ⟨v,h.m,by rw[h.r];simp⟩
theorem v7.cut{d:aj}{v:ah}{y:ae}(h:v7 d v y):bU d y.1:=by
 obtain⟨e,he,h1,_⟩:=cP.1 (h.w.pd.mem_iff.1 h.mem)
 exact⟨h.w,by unfold aT;rw[List.find?_isSome];exact⟨e,he,by simpa using h1⟩⟩
theorem v7.lone{d:aj}{v:ah}{y:ae}(h:v7 d v y):∃u,Lone (dr d y.1) u∧u.1=v.1:=by
 obtain⟨u,hu,bO⟩:=h.cut.Kp.2 ⟨v,h.m,rfl⟩
 refine⟨u,⟨h.cut.w,hu,?_⟩,bO⟩
 cases hq:u.2.1 with
 |nil=>rfl
 |cons z r =>
  exfalso
  have hz:z∈u.2.1:=by rw[hq];simp
  have hzd:z∈au (dr d y.1).1:=bg.2 ⟨u,hu,hz⟩
  have h1:bM (dr d y.1) z=some u.1:=iH h.cut.w.rw hu hz
  rw[h.cut.at hzd,bO]at h1
  obtain⟨w,hw,Ge,yf⟩:=vT h.w (h.cut.sub hzd)
  rw[yf]at h1
  have hwv:=LR h.w.sv h.m hw (Option.some.inj h1)
  rw[hwv,h.r]at Ge
  have hzy:z=y:=by simpa using Ge
  have nd:=h.cut.p.nodup_iff.1 h.w.rw.n
  have e:y=(y.1,y.2):=rfl
  rcases h.w.side h.mem with k|k
  ·rw[k]at e
   exact(List.nodup_cons.1 nd).1 (List.mem_cons_of_mem _ (e▸hzy▸hzd))
  ·rw[k]at e
   exact(List.nodup_cons.1 (List.nodup_cons.1 nd).2).1 (e▸hzy▸hzd)
theorem v7.back{d:aj}{v:ah}{y:ae}(h:v7 d v y):ph d (aq y)=y:=by
 rw[m0 (h.w.other h.mem),ln (h.w.side h.mem)]
 have hy:y∈v.2.1:=by rw[h.r];simp
 rw[oO h.w.rw h.m hy]
 exact(Em (h.w.rw.ring h.m) hy).2 (by rw[h.r];rfl)
theorem v7.one{d:aj}{v:ah}{y:ae}(h:v7 d v y):R4 d (y.1,0) (y.1,1):=by
 have hm:aq y∈(cV d).flatten:=(b6 h.w).p.mem_iff.2 (h.w.other h.mem)
 obtain⟨c,hc,h1⟩:=List.mem_flatten.1 hm
 have h2:=((b6 h.w).c c hc).step h1
 rw[h.back]at h2
 have e:y=(y.1,y.2):=rfl
 have eo:aq y=(y.1,(aq y).2):=rfl
 obtain⟨_,k⟩:=iW (h.w.side h.mem)
 rcases k with⟨k1,k2⟩|⟨k1,k2⟩
 ·rw[k1]at e;rw[k2]at eo
  exact⟨c,hc,e▸h2,eo▸h1⟩
 ·rw[k1]at e;rw[k2]at eo
  exact⟨c,hc,eo▸h1,e▸h2⟩
theorem v7.cV{d:aj}{v:ah}{y:ae}(h:v7 d v y):(Vs.cV (dr d y.1)).length≤(Vs.cV d).length:=by
 have h1:=(h.cut.same h.one).2
 have hb:=h.back
 have e:y=(y.1,y.2):=rfl
 have eo:aq y=(y.1,(aq y).2):=rfl
 obtain⟨_,k⟩:=iW (h.w.side h.mem)
 rcases k with⟨k1,k2⟩|⟨k1,k2⟩
 ·rw[k1]at e;rw[k2]at eo
  have:ph d (y.1,1)=(y.1,0):=by rw[←eo,hb];exact e
  rw[if_pos this]at h1
  split at h1<;>omega
 ·rw[k1]at e;rw[k2]at eo
  have:ph d (y.1,0)=(y.1,1):=by rw[←eo,hb];exact e
  rw[if_pos this]at h1
  split at h1<;>omega
theorem v7.parts{d:aj}{v:ah}{y:ae}(h:v7 d v y){u:ah}(hu:Lone (dr d y.1) u)(bO:u.1=v.1):eY (aY (dr d y.1) v.1 zI)=eY d:=by
 obtain⟨a,b,ha,hb,_,_⟩:=h.cut.LS
 have hr:=m8 h.w (fC h.w)
 have Tx:bM d y=some v.1:=iH h.w.rw h.m (by rw[h.r];simp)
 have Tq:bM d (aq y)≠some v.1:=fun k=>by
  obtain⟨w,hw,Ge,yf⟩:=vT h.w (h.w.other h.mem)
  rw[yf]at k
  rw[LR h.w.sv h.m hw (Option.some.inj k),h.r]at Ge
  have Ge:aq y=y:=by simpa using Ge
  obtain⟨_,m⟩:=iW (h.w.side h.mem)
  rw[Ge]at m;omega
 have br:a≠b∧(a=v.1∨b=v.1):=by
  have e:y=(y.1,y.2):=rfl
  have eo:aq y=(y.1,(aq y).2):=rfl
  obtain⟨_,k⟩:=iW (h.w.side h.mem)
  rcases k with⟨k1,k2⟩|⟨k1,k2⟩
  ·rw[k1]at e;rw[k2]at eo
   rw[e,ha]at Tx
   rw[eo,hb]at Tq
   have:=Option.some.inj Tx
   exact⟨fun k=>Tq (by rw[←k,this]),.inl this⟩
  ·rw[k1]at e;rw[k2]at eo
   rw[e,hb]at Tx
   rw[eo,ha]at Tq
   have:=Option.some.inj Tx
   exact⟨fun k=>Tq (by rw[k,this]),.inr this⟩
 have CS:¬cQ (dr d y.1) a b:=fun k=>by
  rcases br.2 with m|m
  ·rw[m,←bO]at k
   exact br.1 (m.trans (bO▸hu.alone k).symm)
  ·rw[m,←bO]at k
   exact br.1 ((bO▸hu.alone (k.symm h.cut.w):a=v.1).trans m.symm)
 obtain⟨R2,h2,h3⟩:=h.cut.Wr ha hb CS hr
 obtain⟨R3,h4,h5⟩:=hu.UM h2
 rw[bO]at h4
 have hwf:=hu.wf
 rw[bO]at hwf
 rw[CD hwf h4,CD h.w hr]
 omega
theorem F6{k:Int}{x:ID}(hk:k=1∨k=2∨k=4)(hx:b4 x=true):bC (Rv k x)=0:=by
 unfold bC
 have e:qw (jz (Rv k x)) CN=true:=by
  rcases hk with rfl|rfl|rfl<;>exact(jA _ _).2 rfl
 have h1:(Rv k x).1=k:=rfl
 rw[if_neg (by rw[h1];omega),if_neg (by rw[h1];omega),if_neg (by simp[Rv,hx]),if_neg (by rw[e];simp),if_neg (by rw[h1];omega),if_neg (by rw[h1];omega),if_neg (by rw[h1];omega),if_neg (by rw[h1];omega),if_neg (by rw[h1];omega)]
end Go.Vs
namespace Go.Vs
open Go.Proofs
variable {G:(f:FuncId)→(g:aM)→Option (g.A→Option g.B)}
abbrev hiB(h:jx):StateT:=h.1
abbrev OF(h:jx):Int:=h.2.1
abbrev IX(h:jx):List (List bj):=h.2.2.1
def hiL(h:jx):Int:=OF h+((IX h).length:Nat)
structure SV(m:Nat)(h:jx):Prop where
 b:fX (hiB h)
 f0:0≤OF h
 f1:hiL h≤m
 m1:m≤1000000000
 n:(IX h).length≤64
 r:tB (IX h)
theorem SV.zero:SV 0 (zS,(0,([],()))):=⟨fX.zero,Int.le_refl _,by decide,by decide,Nat.zero_le _,⟨Nat.zero_le _,fun e he=>(by cases he),fun e he=>(by cases he)⟩⟩
def acZ(h:jx)(e:List bj):(Int×(Int×Unit))×jx :=
 if vL e≠0 then((0,(vL e,())),h) else if 64≤(IX h).length then((0,(20,())),h) else((hiL h+1,(0,())),(hiB h,(OF h,(IX h++[e],()))))
theorem SV.mono{m k:Nat}{h:jx}(ho:SV m h)(hk:m≤k)(h1:k≤1000000000):SV k h:=⟨ho.b,ho.f0,by have:=ho.f1;omega,h1,ho.n,ho.r⟩
theorem SV.add{m:Nat}{h:jx}(ho:SV m h)(hm:m<1000000000){e:List bj}(he:e.length≤1073741824)(hf:∀o∈e,Fit o):SV (m+1) (acZ h e).2:=by
 unfold acZ
 split
 ·exact ho.mono (by omega) (by omega)
 split
 ·exact ho.mono (by omega) (by omega)
 ·rename_i h1 h2
  have h3:=ho.f1
  have hl:hiL h=OF h+((IX h).length:Nat):=rfl
  refine⟨ho.b,ho.f0,?_,by omega,?_,?_,fun p hp=>?_,fun p hp=>?_⟩
  ·show OF h+(((IX h++[e]).length:Nat):Int)≤_;simp;omega
  ·show(IX h++[e]).length≤64;simp;omega
  ·show(IX h++[e]).length≤_;simp;omega
  ·rcases List.mem_append.1 (show p∈IX h++[e] from hp) with hp|hp
   ·exact ho.r.e p hp
   ·rw[List.mem_singleton.1 hp];exact he
  ·rcases List.mem_append.1 (show p∈IX h++[e] from hp) with hp|hp
   ·exact ho.r.f p hp
   ·rw[List.mem_singleton.1 hp];exact hf
def hIn(h:jx)(n:Int):Prop:=OF h≤n∧n≤hiL h
instance (h:jx) (n:Int):Decidable (hIn h n):=by unfold hIn;infer_instance
def atH(h:jx)(n:Int):StateT×(Int×Unit):=if hIn h n then(IQ ((IX h).take (n-OF h).toNat) (hiB h),(0,())) else(zS,(26,()))
theorem tB.take{l:List (List bj)}(h:tB l)(n:Nat):tB (l.take n):=h.mem (fun e he=>List.mem_of_mem_take he) (by have:=h.n;simp;omega)
theorem tB.drop{l:List (List bj)}(h:tB l)(n:Nat):tB (l.drop n):=h.mem (fun e he=>List.mem_of_mem_drop he) (by have:=h.n;simp;omega)
def WB(h:jx)(n:Int):Int×jx:=if hIn h n then(0,(IQ ((IX h).take (n-OF h).toNat) (hiB h),(n,((IX h).drop (n-OF h).toNat,())))) else(26,h)
theorem SV.comp{m:Nat}{h:jx}(ho:SV m h)(n:Int):SV m (WB h n).2:=by
 unfold WB
 have h1:=ho.f0;have h2:=ho.f1;have h3:=ho.n
 have hl:hiL h=OF h+((IX h).length:Nat):=rfl
 by_cases hi:hIn h n
 ·rw[if_pos hi]
  unfold hIn at hi
  refine⟨fX.all _ ho.b,by show 0≤n;omega,?_,ho.m1,?_,ho.r.drop _⟩
  ·show n+((((IX h).drop (n-OF h).toNat).length:Nat):Int)≤m
   rw[List.length_drop];omega
  ·show((IX h).drop (n-OF h).toNat).length≤64
   rw[List.length_drop];omega
 ·rw[if_neg hi];exact ho
end Go.Vs
namespace Go.Vs
open Go.Proofs
variable {G:(f:FuncId)→(g:aM)→Option (g.A→Option g.B)}
def CE(x:ID)(a b:mF):bj:=(3,(x,(zI,(zI,(a,(b,(false,(e0,0))))))))
def fD(x v w:ID)(n:Int):bj:=(5,(x,(v,(w,(zC,(zC,(false,(e0,n))))))))
def ac0(v w:ID):bj:=(6,(v,(zI,(w,(zC,(zC,(false,(e0,0))))))))
def du(x:ID)(oe:Bool)(l:ByteArray)(n:Int):List bj:=(if l=e0 then[] else[Oy x oe l])++(if n=0 then[] else[RP x oe n])
theorem eu(x:ID)(oe:Bool)(l:ByteArray)(n:Int):(du x oe l n).length≤2:=by
 unfold du;split<;>split<;>simp
theorem Mj(hG:HG G)(x:ID)(oe:Bool)(l:ByteArray)(n:Int):FX G 75 tk ((x,oe,l,n,()),())=some ((du x oe l n,()),()):=by
 refine ax (fn:=Tryz.f75) (hG _ _ rfl) (by kernel_rfl) (by kernel_rfl) ((aaT _ _ _).trans ?_)
 unfold du
 by_cases h1:l=e0
 ·rw[if_pos h1]
  refine ag (show(!(l==e0))=false by rw[XC,decide_eq_true h1];rfl) ?_
  by_cases h2:n=0
  ·rw[if_pos h2];exact ag (show(n != 0)=false by simp[h2]) rfl
  ·rw[if_neg h2];exact af (show(n != 0)=true by simp[h2]) (af rfl rfl)
 ·rw[if_neg h1]
  refine af (show(!(l==e0))=true by rw[XC,decide_eq_false h1];rfl) (af rfl ?_)
  by_cases h2:n=0
  ·rw[if_pos h2];exact ag (show(n != 0)=false by simp[h2]) rfl
  ·rw[if_neg h2];exact af (show(n != 0)=true by simp[h2]) (af rfl rfl)
theorem ac1(hG:HG G)(e:ai):FX G 138 HF ((e,()),())=some ((e.1,()),()):=ax (fn:=Tryz.f138) (hG _ _ rfl) (by kernel_rfl) (by kernel_rfl) (aa0 _ _ _)
theorem SW(hG:HG G)(d:aj)(x:ID)(hl:d.2.length≤1073741824):FX G 111 Bm ((d,x,()),())=some (je zE (cI d x),()):=by
 refine ax (fn:=Tryz.f111) (hG _ _ rfl) (by kernel_rfl) (by kernel_rfl) ((aaX _ _ _).trans ?_)
 have h1:FX G 139137 kB ((d.2,x,()),())=some (je zE (aT d.2 x),()):=by
  refine ax (fn:=Tryz.f137) (hG _ _ rfl) (by kernel_rfl) (by kernel_rfl) ((QU _ _ _).trans ?_)
  have loop:∀(n i:Nat),i+n=d.2.length→LX G 139137 kB Tryz.f137 mh (aN Tryz.prog 137 0) ((d.2,(((d.2.length:Nat):Int),((i:Int),()))),(((x,()),((zE,()),())),()))=some (je zE (aT (d.2.drop i) x),()):=by
   intro n
   induction n with
   |zero =>
    intro i hi
    refine ar (j:=0) (by kernel_rfl) ((BM _ _ _).trans (ag (decide_eq_false (show ¬((i:Int)<((d.2.length:Nat):Int)) by omega)) ?_))
    rw[List.drop_eq_nil_of_le (by omega)];rfl
   |succ n ih =>
    intro i hi
    have aF:i<d.2.length:=by omega
    refine ar (j:=0) (by kernel_rfl) ((BM _ _ _).trans (af (aZ aF) (aa (aB (List.getElem?_eq_getElem aF)) (aa (ac1 hG d.2[i]) ?_))))
    rw[List.drop_eq_getElem_cons aF]
    have hf:aT (d.2[i]::d.2.drop (i+1)) x=if d.2[i].1=x then some d.2[i] else aT (d.2.drop (i+1)) x:=by
     unfold aT;rw[List.find?_cons];by_cases h:d.2[i].1=x<;>simp[h]
    rw[hf]
    by_cases h:d.2[i].1=x
    ·rw[if_pos h]
     refine af ?_ rfl
     exact(jc d.2[i].1 x).trans (decide_eq_true h)
    ·rw[if_neg h]
     refine ag ((jc d.2[i].1 x).trans (decide_eq_false h)) ?_
     rw[wI,aG aF hl]
     exact ih (i+1) (by omega)
  exact loop d.2.length 0 (by omega)
 exact aa h1 rfl
def N8(d:aj)(x eP:ae):mF :=
 let y:=eO (cC (aS d ((bM d x).getD zI)) eP) x
 if y=x then((bM d x).getD zI,zD) else((bM d x).getD zI,y)
theorem WC(hG:HG G)(d:aj)(x eP:ae)(hw:Wf d):FX G 112 DZ ((d,x,eP,()),())=some ((N8 d x eP,()),()):=by
 have hs:=hw.sm
 refine ax (fn:=Tryz.f112) (hG _ _ rfl) (by kernel_rfl) (by kernel_rfl) ((aaY _ _ _).trans ?_)
 refine aa (Sc hG d x hs) ?_
 show Option.bind (FX G 74 ti ((d,(je zI (bM d x)).1,()),())) _=_
 rw[ep]
 refine aa (Iy hG d _ hs) ?_
 show Option.bind (FX G 141 Bg (((je zV (aR d ((bM d x).getD zI))).1.2.1,eP,()),())) _=_
 rw[ep]
 have On:=lz hs ((bM d x).getD zI)
 have DE:(aS d ((bM d x).getD zI)).Nodup:=by
  unfold aS
  cases hv:aR d ((bM d x).getD zI) with
  |none=>simp[zV]
  |some v=>exact hw.rw.ring (List.mem_of_find?_eq_some hv)
 refine aa (RF hG (aS d ((bM d x).getD zI)) eP DE (by omega)) ?_
 have VG:=yH (aS d ((bM d x).getD zI)) eP
 refine aa (Wo hG (cC (aS d ((bM d x).getD zI)) eP) x (by omega)) ?_
 unfold N8
 have e1:(yE (cz (cC (aS d ((bM d x).getD zI)) eP) x ((cC (aS d ((bM d x).getD zI)) eP).length-1))).1=eO (cC (aS d ((bM d x).getD zI)) eP) x:=vI _
 have hb:=kD (yE (cz (cC (aS d ((bM d x).getD zI)) eP) x ((cC (aS d ((bM d x).getD zI)) eP).length-1))).1 x
 rw[e1]at hb
 by_cases h:eO (cC (aS d ((bM d x).getD zI)) eP) x=x
 ·refine ag ?_ ?_
  ·show(!(((((yE (cz (cC (aS d ((bM d x).getD zI)) eP) x ((cC (aS d ((bM d x).getD zI)) eP).length-1))).1).1.1==x.1.1)&&(((yE (cz (cC (aS d ((bM d x).getD zI)) eP) x ((cC (aS d ((bM d x).getD zI)) eP).length-1))).1).1.2==x.1.2))&&(((yE (cz (cC (aS d ((bM d x).getD zI)) eP) x ((cC (aS d ((bM d x).getD zI)) eP).length-1))).1).2==x.2)))=false
   rw[e1,hb,decide_eq_true h];rfl
  ·refine congrArg (fun c:mF=>some ((c,()),())) ?_
   show((bM d x).getD zI,zD)=if eO (cC (aS d ((bM d x).getD zI)) eP) x=x then((bM d x).getD zI,zD) else((bM d x).getD zI,eO (cC (aS d ((bM d x).getD zI)) eP) x)
   rw[if_pos h]
 ·refine af ?_ ?_
  ·show(!(((((yE (cz (cC (aS d ((bM d x).getD zI)) eP) x ((cC (aS d ((bM d x).getD zI)) eP).length-1))).1).1.1==x.1.1)&&(((yE (cz (cC (aS d ((bM d x).getD zI)) eP) x ((cC (aS d ((bM d x).getD zI)) eP).length-1))).1).1.2==x.1.2))&&(((yE (cz (cC (aS d ((bM d x).getD zI)) eP) x ((cC (aS d ((bM d x).getD zI)) eP).length-1))).1).2==x.2)))=true
   rw[e1,hb,decide_eq_false h];rfl
  ·refine congrArg (fun c:mF=>some ((c,()),())) ?_
   show((bM d x).getD zI,(yE (cz (cC (aS d ((bM d x).getD zI)) eP) x ((cC (aS d ((bM d x).getD zI)) eP).length-1))).1)=if eO (cC (aS d ((bM d x).getD zI)) eP) x=x then((bM d x).getD zI,zD) else((bM d x).getD zI,eO (cC (aS d ((bM d x).getD zI)) eP) x)
   rw[if_neg h,e1]
def nK(d:aj)(x:ID):ByteArray×Int:=((aR d x).getD zV).2.2
def nL(d:aj)(x:ID):ByteArray×Int:=((cI d x).getD zE).2
def KT(d:aj)(x:ID):List bj:=CE x (N8 d (x,0) (x,1)) (N8 d (x,1) zD)::du x true (nL d x).1 (nL d x).2
theorem ac2(hG:HG G)(d:aj)(o:bj)(hw:Wf d):FX G 76 HD ((d,o,()),())=some ((KT d (aK o),()),()):=by
 have hs:=hw.sm
 have he:=hs.e
 refine ax (fn:=Tryz.f76) (hG _ _ rfl) (by kernel_rfl) (by kernel_rfl) ((aaU _ _ _).trans ?_)
 refine aa (SW hG d (aK o) (by omega)) ?_
 refine aa (WC hG d (aK o,0) (aK o,1) hw) (aa (WC hG d (aK o,1) zD hw) ?_)
 show Option.bind (FX G 75 tk ((aK o,true,(je zE (cI d (aK o))).1.2.1,(je zE (cI d (aK o))).1.2.2,()),())) _=_
 rw[ep]
 refine aa (Mj hG _ _ _ _) ?_
 have hl:=eu (aK o) true (nL d (aK o)).1 (nL d (aK o)).2
 exact af (fits (show 1+(du (aK o) true (nL d (aK o)).1 (nL d (aK o)).2).length≤_ by omega)) rfl
def CF(d:aj)(o:bj):List bj :=
 let q:=if gD o=true then nL d (aK o) else nK d (aK o)
 if o.1=7 then[(o.1,(aK o,(dM o,(av o,(oA o,(oB o,(gD o,(q.1,oN o))))))))] else[(o.1,(aK o,(dM o,(av o,(oA o,(oB o,(gD o,(kW o,q.2))))))))]
theorem ac3(hG:HG G)(d:aj)(o:bj)(hw:Wf d):FX G 78 HE ((d,o,()),())=some ((CF d o,()),()):=by
 have hs:=hw.sm
 have he:=hs.e
 refine ax (fn:=Tryz.f78) (hG _ _ rfl) (by kernel_rfl) (by kernel_rfl) ((aaW _ _ _).trans ?_)
 refine aa (Iy hG d (aK o) hs) ?_
 unfold CF
 cases ho:gD o with
 |true =>
  refine af ho (aa (SW hG d (aK o) (by omega)) ?_)
  have e1:(je zE (cI d (aK o))).1=(cI d (aK o)).getD zE:=ep _ _
  by_cases h7:o.1=7
  ·refine af (show(o.1==7)=true by simp[h7]) ?_
   show some (([(o.1,(aK o,(dM o,(av o,(oA o,(oB o,(gD o,((je zE (cI d (aK o))).1.2.1,oN o))))))))],()),())=some (((if o.1=7 then _ else _),()),())
   rw[if_pos h7,e1,ho];rfl
  ·refine ag (show(o.1==7)=false by simp[h7]) ?_
   show some (([(o.1,(aK o,(dM o,(av o,(oA o,(oB o,(gD o,(kW o,(je zE (cI d (aK o))).1.2.2))))))))],()),())=some (((if o.1=7 then _ else _),()),())
   rw[if_neg h7,e1,ho];rfl
 |false =>
  refine ag ho ?_
  have e1:(je zV (aR d (aK o))).1=(aR d (aK o)).getD zV:=ep _ _
  by_cases h7:o.1=7
  ·refine af (show(o.1==7)=true by simp[h7]) ?_
   show some (([(o.1,(aK o,(dM o,(av o,(oA o,(oB o,(gD o,((je zV (aR d (aK o))).1.2.2.1,oN o))))))))],()),())=some (((if o.1=7 then _ else _),()),())
   rw[if_pos h7,e1,ho];rfl
  ·refine ag (show(o.1==7)=false by simp[h7]) ?_
   show some (([(o.1,(aK o,(dM o,(av o,(oA o,(oB o,(gD o,(kW o,(je zV (aR d (aK o))).1.2.2.2))))))))],()),())=some (((if o.1=7 then _ else _),()),())
   rw[if_neg h7,e1,ho];rfl
theorem ac4(hG:HG G)(a b c:List bj)(h:a.length+b.length+c.length≤1000):FX G 113 mW (([a,b,c],()),())=some ((a++b++c,()),()):=by
 refine ax (fn:=Tryz.f113) (hG _ _ rfl) (by kernel_rfl) (by kernel_rfl) ((aaZ _ _ _).trans ?_)
 have w1:∀(i:Nat),i<3→IntKind.wrap .i64 ((i:Int)+1)=((i+1:Nat):Int):=fun i hi=>aG hi (by omega)
 have fin:LX G 113 mW Tryz.f113 pQ (aN Tryz.prog 113 1) (([a,b,c],((3:Int),((0:Int),()))),((),(([]:List bj),())))=some ((a++b++c,()),()):=by
  have step:∀(i:Nat) (p q:List bj),[a,b,c][i]? = some q→p.length+q.length≤1000→i<3 →
    LX G 113 mW Tryz.f113 pQ (aN Tryz.prog 113 1) (([a,b,c],((3:Int),(((i+1:Nat):Int),()))),((),(p++q,())))=some ((a++b++c,()),()) →
    LX G 113 mW Tryz.f113 pQ (aN Tryz.prog 113 1) (([a,b,c],((3:Int),((i:Int),()))),((),(p,())))=some ((a++b++c,()),()):=by
   intro i p q hq hl hi k
   refine ar (j:=1) (by kernel_rfl) ((Lw _ _ _).trans (af (decide_eq_true (show(i:Int)<3 by omega)) (aa (aB hq) (af (fits (show p.length+q.length≤_ by omega)) ?_))))
   rw[wI,w1 i hi];exact k
  refine step 0 [] a rfl (by simp;omega) (by omega) (step 1 ([]++a) b rfl (by simp;omega) (by omega) (step 2 ([]++a++b) c rfl (by simp;omega) (by omega) ?_))
  exact ar (j:=1) (by kernel_rfl) ((Lw _ _ _).trans (ag (decide_eq_false (show ¬((3:Int)<3) by decide)) rfl))
 have cnt:∀(i m:Nat) (q:List bj),[a,b,c][i]? = some q→m+q.length≤1000→i<3 →
   LX G 113 mW Tryz.f113 sr (aN Tryz.prog 113 0) (([a,b,c],(((m+q.length:Nat):Int),([a,b,c],((3:Int),(((i+1:Nat):Int),()))))),((),()))=some ((a++b++c,()),()) →
   LX G 113 mW Tryz.f113 sr (aN Tryz.prog 113 0) (([a,b,c],((m:Int),([a,b,c],((3:Int),((i:Int),()))))),((),()))=some ((a++b++c,()),()):=by
  intro i m q hq hl hi k
  have e:IntKind.wrap .i64 ((m:Int)+((q.length:Nat):Int))=((m+q.length:Nat):Int):=by rw[wrap_small (by omega) (by omega)];omega
  refine ar (j:=0) (by kernel_rfl) ((Lv _ _ _).trans (af (decide_eq_true (show(i:Int)<3 by omega)) (aa (aB hq) ?_)))
  rw[wI,e]
  refine ag (decide_eq_false (by omega)) ?_
  rw[wI,w1 i hi];exact k
 refine cnt 0 0 a rfl (by omega) (by omega) (cnt 1 _ b rfl (by omega) (by omega) (cnt 2 _ c rfl (by omega) (by omega) ?_))
 refine ar (j:=0) (by kernel_rfl) ((Lv _ _ _).trans (ag (decide_eq_false (show ¬((3:Int)<3) by decide)) ?_))
 refine af (show qH ((0+a.length+b.length+c.length:Nat):Int)=true by unfold qH;rw[Bool.and_eq_true,decide_eq_true_eq,decide_eq_true_eq];have:fh=1073741824:=rfl;omega) ?_
 exact fin
def Dg(r0 r1:ae)(w:ID):ae×ae:=if r0.1=w then(r1,r0) else(r0,r1)
def eg(d:aj)(o:bj)(r0 r1:ae):List bj :=
 [fD (Dg r0 r1 (av o)).1.1 (aK o) (av o) (1-(Dg r0 r1 (av o)).1.2+2*(Dg r0 r1 (av o)).2.2)]++du (aK o) false (nK d (aK o)).1 (nK d (aK o)).2++du (av o) true (nL d (av o)).1 (nL d (av o)).2
theorem Mk{p q:Int}(hp:p=0∨p=1)(hq:q=0∨q=1) :
  cT .or .i64 (cT .or .i64 0 (IntKind.wrap .i64 (1-p))) (Gh .i64 q 1)=1-p+2*q∧cT .or .i64 (cT .or .i64 0 (Gh .i64 q 1)) (IntKind.wrap .i64 (1-p))=1-p+2*q:=by
 rcases hp with rfl|rfl<;>rcases hq with rfl|rfl<;>exact⟨by decide +kernel,by decide +kernel⟩
theorem ac5(hG:HG G)(d:aj)(o:bj)(hw:Wf d){v:ah}{r0 r1:ae}(hv:aR d (aK o)=some v)(hr:v.2.1=[r0,r1])(br:r0.1≠r1.1)(hor:r0.1=av o∨r1.1=av o)(h0:r0.2=0∨r0.2=1)(h1:r1.2=0∨r1.2=1) :
  FX G 77 oz ((d,o,()),())=some ((eg d o r0 r1,()),()):=by
 have hs:=hw.sm
 have he:=hs.e
 refine ax (fn:=Tryz.f77) (hG _ _ rfl) (by kernel_rfl) (by kernel_rfl) ((aaV _ _ _).trans ?_)
 refine aa (Iy hG d (aK o) hs) (aa (SW hG d (av o) (by omega)) ?_)
 have ev:(je zV (aR d (aK o))).1=v:=by rw[hv];rfl
 have ee:(je zE (cI d (av o))).1=(cI d (av o)).getD zE:=ep _ _
 show LX G 77 oz Tryz.f77 jy (aN Tryz.prog 77 0) (((je zV (aR d (aK o))).1.2.1,((((je zV (aR d (aK o))).1.2.1.length:Nat):Int),((0:Int),()))),(((o,()),(((je zV (aR d (aK o))).1,()),(((je zE (cI d (av o))).1,()),((fD zI (aK o) (av o) 0,()),())))),()))=_
 rw[ev,ee,hr]
 have WD:∀(i:Nat) (r:ae) (p:ID) (n:Int),[r0,r1][i]? = some r→r.1=av o→i<2 →
   LX G 77 oz Tryz.f77 jy (aN Tryz.prog 77 0) (([r0,r1],((2:Int),(((i+1:Nat):Int),()))),(((o,()),((v,()),(((cI d (av o)).getD zE,()),((fD p (aK o) (av o) (cT .or .i64 n (Gh .i64 r.2 1)),()),())))),()))=some ((eg d o r0 r1,()),()) →
   LX G 77 oz Tryz.f77 jy (aN Tryz.prog 77 0) (([r0,r1],((2:Int),((i:Int),()))),(((o,()),((v,()),(((cI d (av o)).getD zE,()),((fD p (aK o) (av o) n,()),())))),()))=some ((eg d o r0 r1,()),()):=by
  intro i r p n hi hro h2 k
  refine ar (j:=0) (by kernel_rfl) ((Fj _ _ _).trans (af (decide_eq_true (show(i:Int)<2 by omega)) (aa (aB hi) (af ((jc r.1 (av o)).trans (decide_eq_true hro)) (ag rfl ?_)))))
  rw[wI,aG h2 (by omega)];exact k
 have WE:∀(i:Nat) (r:ae) (p:ID) (n:Int),[r0,r1][i]? = some r→r.1≠av o→i<2 →
   LX G 77 oz Tryz.f77 jy (aN Tryz.prog 77 0) (([r0,r1],((2:Int),(((i+1:Nat):Int),()))),(((o,()),((v,()),(((cI d (av o)).getD zE,()),((fD r.1 (aK o) (av o) (cT .or .i64 n (IntKind.wrap .i64 (1-r.2))),()),())))),()))=some ((eg d o r0 r1,()),()) →
   LX G 77 oz Tryz.f77 jy (aN Tryz.prog 77 0) (([r0,r1],((2:Int),((i:Int),()))),(((o,()),((v,()),(((cI d (av o)).getD zE,()),((fD p (aK o) (av o) n,()),())))),()))=some ((eg d o r0 r1,()),()):=by
  intro i r p n hi hro h2 k
  refine ar (j:=0) (by kernel_rfl) ((Fj _ _ _).trans (af (decide_eq_true (show(i:Int)<2 by omega)) (aa (aB hi) (ag ((jc r.1 (av o)).trans (decide_eq_false hro)) ?_))))
  rw[wI,aG h2 (by omega)];exact k
 have fin:∀n:Int,n=1-(Dg r0 r1 (av o)).1.2+2*(Dg r0 r1 (av o)).2.2 →
   LX G 77 oz Tryz.f77 jy (aN Tryz.prog 77 0) (([r0,r1],((2:Int),(((2:Nat):Int),()))),(((o,()),((v,()),(((cI d (av o)).getD zE,()),((fD (Dg r0 r1 (av o)).1.1 (aK o) (av o) n,()),())))),()))=some ((eg d o r0 r1,()),()):=by
  intro n hn
  refine ar (j:=0) (by kernel_rfl) ((Fj _ _ _).trans (ag (decide_eq_false (show ¬((2:Int)<2) by decide)) ?_))
  refine aa (Mj hG (aK o) false v.2.2.1 v.2.2.2) (aa (Mj hG (av o) true ((cI d (av o)).getD zE).2.1 ((cI d (av o)).getD zE).2.2) ?_)
  have l1:=eu (aK o) false v.2.2.1 v.2.2.2
  have l2:=eu (av o) true ((cI d (av o)).getD zE).2.1 ((cI d (av o)).getD zE).2.2
  refine aa (ac4 hG [fD (Dg r0 r1 (av o)).1.1 (aK o) (av o) n] (du (aK o) false v.2.2.1 v.2.2.2) (du (av o) true ((cI d (av o)).getD zE).2.1 ((cI d (av o)).getD zE).2.2) (by show 1+(du (aK o) false v.2.2.1 v.2.2.2).length+(du (av o) true ((cI d (av o)).getD zE).2.1 ((cI d (av o)).getD zE).2.2).length≤_;omega)) ?_
  unfold eg nK nL
  rw[hv,←hn];rfl
 by_cases h:r0.1=av o
 ·have h':r1.1≠av o:=fun k=>br (h.trans k.symm)
  have nP:Dg r0 r1 (av o)=(r1,r0):=if_pos h
  refine WD 0 r0 _ _ rfl h (by omega) (WE 1 r1 _ _ rfl h' (by omega) ?_)
  have:=fin (cT .or .i64 (cT .or .i64 0 (Gh .i64 r0.2 1)) (IntKind.wrap .i64 (1-r1.2))) (by rw[nP];exact(Mk h1 h0).2)
  rw[nP]at this;exact this
 ·have h':r1.1=av o:=hor.resolve_left h
  have nP:Dg r0 r1 (av o)=(r0,r1):=if_neg h
  refine WE 0 r0 _ _ rfl h (by omega) (WD 1 r1 _ _ rfl h' (by omega) ?_)
  have:=fin (cT .or .i64 (cT .or .i64 0 (IntKind.wrap .i64 (1-r0.2))) (Gh .i64 r1.2 1)) (by rw[nP];exact(Mk h0 h1).1)
  rw[nP]at this;exact this
end Go.Vs
namespace Go.Vs
open Go.Proofs
variable {G:(f:FuncId)→(g:aM)→Option (g.A→Option g.B)}
def al1(x v:ID)(n:Int):bj:=(5,(x,(v,(v,(zC,(zC,(false,(e0,n))))))))
def F7(v w:ID):bj:=(6,(v,(zI,(w,(zC,(zC,(false,(e0,0))))))))
theorem SX{v w:ID}(hv:b4 v=true)(hw:b4 w=true):bC (F7 v w)=0:=by
 unfold bC
 rw[if_neg (by simp[F7]),if_neg (by simp[F7]),if_neg (by simp[F7,hv]),if_neg,if_neg (by simp[F7]),if_neg (by simp[F7]),if_pos (show(F7 v w).1=6 from rfl)]
 ·exact if_pos hw
 intro h
 have:qw (jz (F7 v w)) CN=true:=(jA _ _).2 rfl
 rw[this]at h;cases h
end Go.Vs
namespace Go.Vs
open Go.Proofs
variable {G:(f:FuncId)→(g:aM)→Option (g.A→Option g.B)}
def N9(s:StateT)(o:bj):List bj :=
 if o.1=1 then[Rv 2 (aK o)]
 else if o.1=2 then Rv 1 (aK o)::du (aK o) false (nK s.1 (aK o)).1 (nK s.1 (aK o)).2
 else if o.1=3 then[Rv 4 (aK o)]
 else if o.1=4 then KT s.1 (aK o)
 else if o.1=5 then[F7 (dM o) (av o)]
 else if o.1=6 then(match ((aR s.1 (aK o)).getD zV).2.1 with | [r0,r1]=>eg s.1 o r0 r1|_=>[])
 else CF s.1 o
def CG(s:StateT)(o:bj):List bj:=if(fS s o).2.1≠0 then[] else N9 s o
theorem z5{s:StateT}{o:bj}(h:(fS s o).2.1=0):bC o=0:=by
 unfold fS at h
 by_cases hm:bC o=0
 ·exact hm
 ·rw[if_pos hm]at h;exact absurd h hm
theorem Ex{s:StateT}{o:bj}(h:(fS s o).2.1=0)(hk:o.1=6):∃v r0 r1,aR s.1 (aK o)=some v∧v.2.1=[r0,r1]∧r0.1≠r1.1∧(r0.1=av o∨r1.1=av o):=by
 unfold fS at h
 rw[if_neg (by simp[z5 h]),if_neg (by omega),if_neg (by omega),if_neg (by omega),if_neg (by omega),if_neg (by omega),if_pos hk]at h
 unfold kf at h
 split at h
 ·cases h
 ·rename_i v hv
  split at h
  ·rename_i r0 r1 hr
   unfold jB at h
   split at h
   ·cases h
   rename_i h1
   split at h
   ·rename_i h2;exact⟨v,r0,r1,hv,hr,h1,.inl h2⟩
   split at h
   ·rename_i h2;exact⟨v,r0,r1,hv,hr,h1,.inr h2⟩
   ·cases h
  ·cases h
theorem WG(hG:HG G)(SC:∀o,Cc G o)(s:StateT)(o:bj)(h:fX s)(hf:Fit o):FX G 44 DY ((s,o,()),())=some ((CG s o,()),()):=by
 refine ax (fn:=Tryz.f44) (hG _ _ rfl) (by kernel_rfl) (by kernel_rfl) ((aaS _ _ _).trans ?_)
 refine aa (RS hG s o h hf fun hm h3=>SC o s h hm h3) ?_
 unfold CG
 by_cases h0:(fS s o).2.1=0
 case neg=>rw[if_pos h0];exact af (show((fS s o).2.1 != 0)=true by simp[h0]) rfl
 rw[if_neg (by simp[h0])]
 refine ag (show((fS s o).2.1 != 0)=false by simp[h0]) ?_
 have hm:=z5 h0
 obtain⟨k1,k8⟩:=mu hm
 have hs:=h.d.sm
 unfold N9
 have no:∀k:Int,¬o.1=k→(o.1==k)=false:=fun k hk=>by simp[hk]
 have ye:∀k:Int,o.1=k→(o.1==k)=true:=fun k hk=>by simp[hk]
 by_cases h1:o.1=1
 ·rw[if_pos h1];exact af (ye 1 h1) rfl
 rw[if_neg h1];refine ag (no 1 h1) ?_
 by_cases h2:o.1=2
 ·rw[if_pos h2]
  refine af (ye 2 h2) (aa (Iy hG s.1 (aK o) hs) ?_)
  have e1:(je zV (aR s.1 (aK o))).1=(aR s.1 (aK o)).getD zV:=ep _ _
  show Option.bind (FX G 75 tk ((aK o,false,(je zV (aR s.1 (aK o))).1.2.2.1,(je zV (aR s.1 (aK o))).1.2.2.2,()),())) _=_
  rw[e1]
  refine aa (Mj hG _ _ _ _) ?_
  have hl:=eu (aK o) false (nK s.1 (aK o)).1 (nK s.1 (aK o)).2
  exact af (fits (show 1+(du (aK o) false (nK s.1 (aK o)).1 (nK s.1 (aK o)).2).length≤_ by omega)) rfl
 rw[if_neg h2];refine ag (no 2 h2) ?_
 by_cases h3:o.1=3
 ·rw[if_pos h3];exact af (ye 3 h3) rfl
 rw[if_neg h3];refine ag (no 3 h3) ?_
 by_cases h4:o.1=4
 ·rw[if_pos h4];exact af (ye 4 h4) (aa (ac2 hG s.1 o h.d) rfl)
 rw[if_neg h4];refine ag (no 4 h4) ?_
 by_cases h5:o.1=5
 ·rw[if_pos h5];exact af (ye 5 h5) rfl
 rw[if_neg h5];refine ag (no 5 h5) ?_
 by_cases h6:o.1=6
 ·rw[if_pos h6]
  obtain⟨v,r0,r1,hv,hr,br,hor⟩:=Ex h0 h6
  have UD:v∈s.1.1:=List.mem_of_find?_eq_some hv
  have side:∀r∈v.2.1,r.2=0∨r.2=1:=fun r hr=>h.d.side (bg.2 ⟨v,UD,hr⟩)
  have hg:((aR s.1 (aK o)).getD zV).2.1=[r0,r1]:=by rw[hv];exact hr
  rw[hg]
  exact af (ye 6 h6) (aa (ac5 hG s.1 o h.d hv hr br hor (side r0 (by rw[hr];simp)) (side r1 (by rw[hr];simp))) rfl)
 rw[if_neg h6]
 exact ag (no 6 h6) (aa (ac3 hG s.1 o h.d) rfl)
theorem Oa{row:List ae}{x:ae}(h:x∈row):eO row x∈row:=by
 have hl:0<row.length:=List.length_pos_of_mem h
 unfold eO cz
 rw[if_pos h]
 have aF:((idx x row 0).toNat+(row.length-1))%row.length<row.length:=Nat.mod_lt _ hl
 rw[List.getElem?_eq_getElem aF]
 exact List.getElem_mem aF
theorem SY{row:List ae}{x eP:ae}(h:x∈row)(br:x≠eP):x∈cC row eP:=by
 unfold cC
 exact(j4 _).mem_iff.2 (List.mem_filter.2 ⟨h,decide_eq_true br⟩)
theorem SZ{row:List ae}{x eP:ae}(h:x∈cC row eP):x∈row:=by
 unfold cC at h
 exact(List.mem_filter.1 ((j4 _).mem_iff.1 h)).1
theorem Vm{d:aj}(h:Wf d){x:ae}(hx:x∈au d.1):∃v∈d.1,x∈v.2.1∧bM d x=some v.1∧aS d v.1=v.2.1:=by
 obtain⟨v,hv,jL⟩:=bg.1 hx
 exact⟨v,hv,jL,iH h.rw hv jL,iU h.sv hv⟩
theorem Ml{d:aj}(h:Wf d){x eP:ae}(hx:x∈au d.1)(br:x≠eP):nI (N8 d x eP)=true:=by
 obtain⟨v,hv,jL,ha,hr⟩:=Vm h hx
 have hi:=(h.gv v hv).i
 unfold N8
 rw[ha]
 simp only[Option.getD_some]
 rw[hr]
 have hm:=SZ (Oa (SY jL br))
 split
 ·unfold nI;simp[hi]
 ·obtain⟨e,he,h1,h2⟩:=cP.1 (h.pd.mem_iff.1 (bg.2 ⟨v,hv,hm⟩))
  unfold nI Fx
  rw[hi,←h1,(h.ge e he).i,decide_eq_true h2];rfl
theorem Oc{n:ID}{a b:mF}(hn:b4 n=true)(ha:nI a=true)(hb:nI b=true):bC (CE n a b)=0:=by
 unfold bC
 rw[if_neg (by simp[CE]),if_neg (by simp[CE]),if_neg (by simp[CE,hn]),if_neg,if_pos (show(CE n a b).1=3 from rfl)]
 ·exact if_pos ⟨ha,hb⟩
 intro h
 have:qw (jz (CE n a b)) CN=true:=(jA _ _).2 rfl
 rw[this]at h;cases h
theorem yN{x v w:ID}{n:Int}(hx:b4 x=true)(hv:b4 v=true)(hw:b4 w=true)(h0:0≤n)(h3:n≤3):bC (fD x v w n)=0:=by
 unfold bC
 rw[if_neg (by simp[fD]),if_neg (by simp[fD]),if_neg (by simp[fD,hx]),if_neg,if_neg (by simp[fD]),if_pos (show(fD x v w n).1=5 from rfl)]
 ·exact if_pos ⟨hv,hw,h0,h3⟩
 intro h
 have:qw (jz (fD x v w n)) CN=true:=(jA _ _).2 rfl
 rw[this]at h;cases h
theorem nh{x:ID}{oe:Bool}{l:ByteArray}{n:Int}(hx:b4 x=true)(hl:ll l=true)(hn:jF n=true):∀p∈du x oe l n,bC p=0:=fun p hp=>by
 unfold du at hp
 rcases List.mem_append.1 hp with hp|hp
 ·split at hp
  ·cases hp
  ·rw[List.mem_singleton.1 hp];exact LP hx hl
 ·split at hp
  ·cases hp
  ·rw[List.mem_singleton.1 hp];exact LQ hx hn
theorem IY{o:bj}(h:bC o=0):jz o=CN:=by
 unfold bC at h
 split at h;· cases h
 split at h;· cases h
 split at h;· cases h
 split at h;· cases h
 rename_i h4
 exact(jA _ _).1 (by simpa using h4)
theorem CH{d:aj}(h:Wf d)(x:ID):ll (nK d x).1=true∧jF (nK d x).2=true:=by
 unfold nK
 cases hv:aR d x with
 |none=>exact⟨lC,lD⟩
 |some v=>have:=h.gv v (List.mem_of_find?_eq_some hv);exact⟨this.l,this.a⟩
theorem CI{d:aj}(h:Wf d)(x:ID):ll (nL d x).1=true∧jF (nL d x).2=true:=by
 unfold nL
 cases hv:cI d x with
 |none=>exact⟨lC,lD⟩
 |some v=>have:=h.ge v (List.mem_of_find?_eq_some hv);exact⟨this.l,this.a⟩
theorem S4{o:bj}(hm:bC o=0)(hk:7≤o.1)(d:aj):CF d o=if o.1=7 then[Oy (aK o) (gD o) (if gD o=true then nL d (aK o) else nK d (aK o)).1] else[RP (aK o) (gD o) (if gD o=true then nL d (aK o) else nK d (aK o)).2]:=by
 have hr:=IY hm
 obtain⟨k1,k8⟩:=mu hm
 obtain⟨k,x,nw,ot,a,b,oe,t,n⟩:=o
 simp only at hk k8
 unfold CF
 by_cases h7:k=7
 ·subst h7
  unfold jz at hr
  simp only[show ¬(7:Int)=3 by decide,show ¬(7:Int)=5 by decide,show ¬(7:Int)=6 by decide,if_false,if_true,CN,Prod.mk.injEq,true_and]at hr
  obtain⟨rfl,rfl,rfl,rfl,rfl⟩:=hr
  rfl
 ·have h8:k=8:=by omega
  subst h8
  unfold jz at hr
  simp only[show ¬(8:Int)=3 by decide,show ¬(8:Int)=5 by decide,show ¬(8:Int)=6 by decide,show ¬(8:Int)=7 by decide,if_false,if_true,CN,Prod.mk.injEq,true_and,and_true]at hr
  obtain⟨rfl,rfl,rfl,rfl,rfl⟩:=hr
  rfl
theorem Od{s:StateT}{o:bj}(h:(fS s o).2.1=0)(hk:o.1=4):(cI s.1 (aK o)).isSome=true:=by
 unfold fS at h
 rw[if_neg (by simp[z5 h]),if_neg (by omega),if_neg (by omega),if_neg (by omega),if_pos hk]at h
 unfold Dd at h
 split at h
 ·cases h
 ·rename_i h1;exact xw h1
theorem smN{p q:Int}(hp:p=0∨p=1)(hq:q=0∨q=1):0≤1-p+2*q∧1-p+2*q≤3:=by omega
theorem F8{s:StateT}{o:bj}(hw:fX s)(h:(fS s o).2.1=0):(∀p∈N9 s o,bC p=0)∧1≤(N9 s o).length∧(N9 s o).length≤5:=by
 have hm:=z5 h
 obtain⟨k1,k8⟩:=mu hm
 have hi:=Ki hm
 have one:∀{p:bj} {l:List bj},l=[p]→bC p=0→(∀q∈l,bC q=0)∧1≤l.length∧l.length≤5:=fun {p l} e hp=>by
  subst e;exact⟨fun q hq=>by rw[List.mem_singleton.1 hq];exact hp,by simp,by simp⟩
 unfold N9
 by_cases h1:o.1=1
 ·rw[if_pos h1];exact one rfl (F6 (.inr (.inl rfl)) hi)
 rw[if_neg h1]
 by_cases h2:o.1=2
 ·rw[if_pos h2]
  have hl:=eu (aK o) false (nK s.1 (aK o)).1 (nK s.1 (aK o)).2
  obtain⟨q1,q2⟩:=CH hw.d (aK o)
  refine⟨fun p hp=>?_,by simp,by simp only[List.length_cons];omega⟩
  rcases List.mem_cons.1 hp with rfl|hp
  ·exact F6 (.inl rfl) hi
  ·exact nh hi q1 q2 p hp
 rw[if_neg h2]
 by_cases h3:o.1=3
 ·rw[if_pos h3];exact one rfl (F6 (.inr (.inr rfl)) hi)
 rw[if_neg h3]
 by_cases h4:o.1=4
 ·rw[if_pos h4]
  have he:=Od h h4
  have hx:=hw.d.kS he (s:=0) (.inl rfl)
  have hy:=hw.d.kS he (s:=1) (.inr rfl)
  obtain⟨q1,q2⟩:=CI hw.d (aK o)
  have hl:=eu (aK o) true (nL s.1 (aK o)).1 (nL s.1 (aK o)).2
  unfold KT
  refine⟨fun p hp=>?_,by simp,by simp only[List.length_cons];omega⟩
  rcases List.mem_cons.1 hp with rfl|hp
  ·exact Oc hi (Ml hw.d hx (fun e=>by have:=congrArg (·.2) e;simp at this)) (Ml hw.d hy (fun e=>by
    have:=congrArg (·.1) e
    have e2:aK o=zI:=this
    rw[e2]at hi;cases hi))
  ·exact nh hi q1 q2 p hp
 rw[if_neg h4]
 by_cases h5:o.1=5
 ·rw[if_pos h5]
  obtain⟨a,b,_,_⟩:=sH hm h5
  exact one rfl (SX a b)
 rw[if_neg h5]
 by_cases h6:o.1=6
 ·rw[if_pos h6]
  obtain⟨v,r0,r1,hv,hr,br,hor⟩:=Ex h h6
  have UD:v∈s.1.1:=List.mem_of_find?_eq_some hv
  have hg:((aR s.1 (aK o)).getD zV).2.1=[r0,r1]:=by rw[hv];exact hr
  rw[hg]
  have side:∀r∈v.2.1,(r.2=0∨r.2=1)∧b4 r.1=true:=fun r hr=>by
   obtain⟨e,he,e1,e2⟩:=cP.1 (hw.d.pd.mem_iff.1 (bg.2 ⟨v,UD,hr⟩))
   exact⟨e2,by rw[←e1];exact(hw.d.ge e he).i⟩
  have s0:=side r0 (by rw[hr];simp)
  have s1:=side r1 (by rw[hr];simp)
  obtain⟨q1,q2⟩:=CH hw.d (aK o)
  obtain⟨q3,q4⟩:=CI hw.d (av o)
  have ho:=Kj hm h6
  have l1:=eu (aK o) false (nK s.1 (aK o)).1 (nK s.1 (aK o)).2
  have l2:=eu (av o) true (nL s.1 (av o)).1 (nL s.1 (av o)).2
  show(∀p∈eg s.1 o r0 r1,bC p=0)∧1≤(eg s.1 o r0 r1).length∧(eg s.1 o r0 r1).length≤5
  unfold eg
  refine⟨fun p hp=>?_,by simp only[List.length_append,List.length_cons,List.length_nil];omega,by simp only[List.length_append,List.length_cons,List.length_nil];omega⟩
  rcases List.mem_append.1 hp with hp|hp
  ·rcases List.mem_append.1 hp with hp|hp
   ·rw[List.mem_singleton.1 hp]
    unfold Dg
    split
    ·obtain⟨n0,n3⟩:=smN s1.1 s0.1
     exact yN s1.2 hi ho n0 n3
    ·obtain⟨n0,n3⟩:=smN s0.1 s1.1
     exact yN s0.2 hi ho n0 n3
   ·exact nh hi q1 q2 p hp
  ·exact nh ho q3 q4 p hp
 rw[if_neg h6]
 obtain⟨q1,q2⟩:=CH hw.d (aK o)
 obtain⟨q3,q4⟩:=CI hw.d (aK o)
 have hq:ll (if gD o=true then nL s.1 (aK o) else nK s.1 (aK o)).1=true∧jF (if gD o=true then nL s.1 (aK o) else nK s.1 (aK o)).2=true:=by split;exact⟨q3,q4⟩;exact⟨q1,q2⟩
 rw[S4 hm (by omega)]
 split
 ·exact one rfl (LP hi hq.1)
 ·exact one rfl (LQ hi hq.2)
theorem S5{s:StateT}(hw:fX s)(o:bj):(CG s o).length≤5:=by
 unfold CG
 split
 ·simp
 ·rename_i h;exact(F8 hw (by simpa using h)).2.2
end Go.Vs
namespace Go.Vs
open Go.Proofs
variable {G:(f:FuncId)→(g:aM)→Option (g.A→Option g.B)}
theorem ac6(hG:HG G)(s:StateT)(hs:Sm s.1)(hl:s.2.length≤50000000)(tv:∀v∈s.1.1,v.2.2.1.size≤100000000)(te:∀e∈s.1.2,e.2.1.size≤100000000) :
  ∃b,FX G 43 ma ((s,()),())=some ((b,()),())∧(b=true→fX s∧fR s.1=0):=by
 obtain⟨r,q1,q2⟩:=aif hG s.1 hs tv te
 have loop:∀(n i:Nat),i+n=s.2.length→0<i→(∀j x y,j+1<i→s.2[j]? = some x→s.2[j+1]? = some y→kE x.1 y.1=true) →
   ∃b,LX G 43 ma Tryz.f43 vC (aN Tryz.prog 43 0) (((i:Int),()),(((s,()),()),()))=some ((b,()),())∧(b=true→fX s∧fR s.1=0):=by
  intro n
  induction n with
  |zero =>
   intro i hi h0 ha
   have e1:=Fi (FX G) (LX G 43 ma Tryz.f43) (((i:Int),()),(((s,()),()),()))
   have e2:=e1.trans (ag (decide_eq_false (show ¬((i:Int)<((s.2.length:Nat):Int)) by omega)) rfl)
   by_cases h4:s.2.length≤400
   ·refine⟨r==0,ar (j:=0) (by kernel_rfl) (e2.trans (af (decide_eq_true (show((s.2.length:Nat):Int)≤400 by omega)) (aa q1 rfl))),fun hb=>?_⟩
    obtain⟨hw,hg⟩:=q2.1 ((beq_iff_eq (α:=Int)).1 hb)
    exact⟨⟨hw,SL (R:=fun a b:az=>kE a.1 b.1=true) (fun a b c=>fN) fun j x y h1 h2=>ha j x y (by have:=(List.getElem?_eq_some_iff.1 h2).1;omega) h1 h2,h4⟩,hg⟩
   ·exact⟨false,ar (j:=0) (by kernel_rfl) (e2.trans (ag (decide_eq_false (show ¬((s.2.length:Nat):Int)≤400 by omega)) rfl)),fun h=>by cases h⟩
  |succ n ih =>
   intro i hi h0 ha
   have aF:i<s.2.length:=by omega
   have hx:s.2[i]? = some s.2[i]:=List.getElem?_eq_getElem aF
   have hy:s.2[i-1]? = some s.2[i-1]:=List.getElem?_eq_getElem (by omega)
   have e1:=Fi (FX G) (LX G 43 ma Tryz.f43) (((i:Int),()),(((s,()),()),()))
   have e2:ba s.2 (IntKind.wrap .i64 ((i:Int)-1))=some s.2[i-1]:=by rw[Mg h0 aF (by omega)];exact aB hy
   by_cases hc:kE s.2[i-1].1 s.2[i].1=true
   ·obtain⟨b,h1,h2⟩:=ih (i+1) (by omega) (by omega) (fun j x y hj k1 k2=>by
     by_cases Yw:j+1=i
     ·have ej:j=i-1:=by omega
      subst ej
      rw[hy]at k1;rw[show i-1+1=i by omega,hx]at k2
      cases k1;cases k2;exact hc
     ·exact ha j x y (by omega) k1 k2)
    refine⟨b,ar (j:=0) (by kernel_rfl) (e1.trans (af (aZ aF) (aa e2 (aa (aB hx) (aa (Ut hG _ _) (ag (decide_eq_false ?_) ?_)))))),h2⟩
    ·have:=(sD s.2[i-1].1 s.2[i].1).2 hc
     show ¬(mi s.2[i-1].1 s.2[i].1≥0)
     omega
    ·rw[wI,aG aF (by omega)];exact h1
   ·refine⟨false,ar (j:=0) (by kernel_rfl) (e1.trans (af (aZ aF) (aa e2 (aa (aB hx) (aa (Ut hG _ _) (af (decide_eq_true ?_) rfl)))))),fun h=>by cases h⟩
    have:=mt (sD s.2[i-1].1 s.2[i].1).1 hc
    show mi s.2[i-1].1 s.2[i].1≥0
    omega
 have e0:=aaR (FX G) (LX G 43 ma Tryz.f43) ((s,()),())
 have fin:∀{y},bX 43 ma Tryz.f43 (FX G) (LX G 43 ma Tryz.f43) ((s,()),())=some y→FX G 43 ma ((s,()),())=some y:=fun {y} h=>ax (fn:=Tryz.f43) (hG _ _ rfl) (by kernel_rfl) (by kernel_rfl) h
 by_cases h0:s.2.length=0
 ·have e1:=Fi (FX G) (LX G 43 ma Tryz.f43) (((1:Int),()),(((s,()),()),()))
  have e2:=e1.trans (ag (decide_eq_false (show ¬((1:Int)<((s.2.length:Nat):Int)) by omega)) rfl)
  refine⟨r==0,fin (e0.trans (ar (j:=0) (by kernel_rfl) (e2.trans (af (decide_eq_true (show((s.2.length:Nat):Int)≤400 by omega)) (aa q1 rfl))))),fun hb=>?_⟩
  obtain⟨hw,hg⟩:=q2.1 ((beq_iff_eq (α:=Int)).1 hb)
  refine⟨⟨hw,?_,by omega⟩,hg⟩
  rw[List.eq_nil_of_length_eq_zero h0];exact List.Pairwise.nil
 ·obtain⟨b,h1,h2⟩:=loop (s.2.length-1) 1 (by omega) (by omega) (fun j x y hj=>by omega)
  exact⟨b,fin (e0.trans h1),h2⟩
theorem ac7(hG:HG G)(SC:∀o,Cc G o):FX G 42 HC ((),())=some ((true,()),()):=by
 refine ax (fn:=Tryz.f42) (hG _ _ rfl) (by kernel_rfl) (by kernel_rfl) ((aaQ _ _ _).trans ?_)
 have h1:=WG hG SC zS (Rv 1 (1,1)) fX.zero (Vl 1)
 have e:CG zS (Rv 1 (1,1))=[Rv 2 (1,1)]:=rfl
 rw[e]at h1
 exact aa h1 (af rfl (af rfl rfl))
def ac8:List bj→StateT→List bj→List bj
 |[],_,acc=>acc
 |o::r,s,acc=>ac8 r (fS s o).1 (CG s o++acc)
def ofR(s:StateT)(l:List bj):List bj×(Int×Unit):=if(fT s l).2.1≠0 then([],((fT s l).2.1,())) else(ac8 l s [],(0,()))
end Go.Vs
