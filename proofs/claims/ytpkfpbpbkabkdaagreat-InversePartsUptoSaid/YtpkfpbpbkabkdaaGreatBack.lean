/- What takes operations back: what the program computes. -/
import Derived.Test.YtpkfpbpbkabkdaaGreatPartsB
import Derived.Test.YtpkfpbpbkabkdaaGreatFormed
import Derived.Test.YtpkfpbpbkabkdaaGreatTop
import Derived.Test.YtpkfpbpbkabkdaaGreatForm
import Derived.Test.YtpkfpbpbkabkdaaGreatSplits
import Derived.Test.YtpkfpbpbkabkdaaGreatNormalD
import Derived.Test.YtpkfpbpbkabkdaaGreatEuler
import Derived.Test.YtpkfpbpbkabkdaaGreatPlanar
set_option linter.unusedVariables false
set_option linter.unusedSimpArgs false
namespace Go.Vs
open Go.Proofs
variable {G:(f:FuncId)→(g:aN)→Option (g.A→Option g.B)}
theorem Lb{n:Int}(h:L4 (.int .i64) n):NV n:=by
 have h1:IntKind.min .i64 = -9223372036854775808:=by decide
 have h2:IntKind.max .i64=9223372036854775807:=by decide
 have h:IntKind.min .i64≤n∧n≤IntKind.max .i64:=h
 rw[h1,h2]at h
 unfold NV;omega
theorem YQ{o:aZ}(h:L4 iZ o)(ht:xh o):Fit o:=by
 obtain⟨_,_,_,_,⟨_,_,h1⟩,⟨_,_,h2⟩,_,_,h3⟩:=h
 exact⟨Lb h1,Lb h2,Lb h3,ht⟩
end Go.Vs
namespace Go.Vs
open Go.Proofs
variable {G:(f:FuncId)→(g:aN)→Option (g.A→Option g.B)}
end Go.Vs
namespace Go.Vs
open Go.Proofs
variable {G:(f:FuncId)→(g:aN)→Option (g.A→Option g.B)}
theorem Wf.bd{d:aj}(h:Wf d):Bd 100 d:=⟨by have:=h.nv;omega,by have:=h.ne;omega,fun v hv=>by have:=h.uj v hv;omega⟩
theorem EE(v:ah):v.2.1.length+v.2.2.1.size+1≤b6 dh v:=by
 have h:b6 dh v=(1+1)+(((v.2.1.map (b6 bp)).sum+1)+((v.2.2.1.size+1)+1)):=rfl
 have h2:=vH (fun x:ae=>b6 bp x) (fun x=>by show 1≤(1+1)+1;omega) v.2.1
 have h3:(v.2.1.map fun x:ae=>b6 bp x).sum=(v.2.1.map (b6 bp)).sum:=rfl
 rw[h];omega
theorem EF(e:ai):e.2.1.size+1≤b6 dK e:=by
 have h:b6 dK e=(1+1)+((e.2.1.size+1)+1):=rfl
 rw[h];omega
theorem I7{s:StateT}{m:Nat}(hb:b6 mA s≤m):s.1.1.length≤m∧s.1.2.length≤m∧s.2.length≤m∧(∀v∈s.1.1,v.2.1.length≤m∧v.2.2.1.size≤m)∧∀e∈s.1.2,e.2.1.size≤m:=by
 have h:b6 mA s=(((s.1.1.map (b6 dh)).sum+1)+((s.1.2.map (b6 dK)).sum+1))+((s.2.map (b6 cX)).sum+1):=rfl
 rw[h]at hb
 have l1:=vH (fun v:ah=>b6 dh v) (fun v=>by have:=EE v;omega) s.1.1
 have l2:=vH (fun e:ai=>b6 dK e) (fun e=>by have:=EF e;omega) s.1.2
 have l3:=vH (fun g:aA=>b6 cX g) (fun g=>by show 1≤((1+1)+1)+((1+1)+1);omega) s.2
 have e1:(s.1.1.map fun v:ah=>b6 dh v).sum=(s.1.1.map (b6 dh)).sum:=rfl
 have e2:(s.1.2.map fun v:ai=>b6 dK v).sum=(s.1.2.map (b6 dK)).sum:=rfl
 have e3:(s.2.map fun v:aA=>b6 cX v).sum=(s.2.map (b6 cX)).sum:=rfl
 refine⟨by omega,by omega,by omega,fun v hv=>?_,fun e he=>?_⟩
 ·have:=zT (fun v:ah=>b6 dh v) hv
  have:=EE v
  omega
 ·have:=zT (fun v:ai=>b6 dK v) he
  have:=EF e
  omega
end Go.Vs
namespace Go.Vs
def I8:List (List aZ)→StateT→StateT
 |[],s=>s
 |e::r,s=>I8 r (mH s e)
def CL:List (List aZ)→StateT→List Bool
 |[],_=>[]
 |e::r,s=>decide ((cH s e).2.1=0)::CL r (mH s e)
theorem fH.all:∀(l:List (List aZ)) {s:StateT},fH s→fH (I8 l s)
 |[],_,h=>h
 |e::r,_,h=>fH.all r (h.try e)
theorem Bs.all:∀{l:List (List aZ)} {n:Nat} {s:StateT},(∀e∈l,e.length≤8)→Bs n s→Bs (n+24*l.length) (I8 l s)
 |[],_,_,_,h=>h
 |e::r,n,s,hl,h=>by
  have h1:Bs (n+24) (mH s e):=h.try.mono (by have:=hl e (by simp);omega)
  exact(Bs.all (fun e he=>hl e (by simp[he])) h1).mono (by simp;omega)
theorem I9{l:List ah}{x:ID}:(ba l x).isSome=true↔∃v∈l,v.1=x:=by
 unfold ba;rw[List.find?_isSome];simp
theorem Ja{l:List ai}{x:ID}:(aT l x).isSome=true↔∃v∈l,v.1=x:=by
 unfold aT;rw[List.find?_isSome];simp
structure Gr(s t:StateT):Prop where
 v:∀x,(ba s.1.1 x).isSome=true→(ba t.1.1 x).isSome=true
 e:∀x,(aT s.1.2 x).isSome=true→(aT t.1.2 x).isSome=true
 nv:s.1.1.length≤t.1.1.length
 ne:s.1.2.length≤t.1.2.length
theorem Gr.rfl(s:StateT):Gr s s:=⟨fun _ h=>h,fun _ h=>h,Nat.le_refl _,Nat.le_refl _⟩
theorem Gr.trans{a b c:StateT}(h:Gr a b)(k:Gr b c):Gr a c:=⟨fun x p=>k.v x (h.v x p),fun x p=>k.e x (h.e x p),Nat.le_trans h.nv k.nv,Nat.le_trans h.ne k.ne⟩
def named(s:StateT)(o:aZ):Prop:=if o.1=1 then(ba s.1.1 (aK o)).isSome=true else(aT s.1.2 (aK o)).isSome=true
theorem named.up{s t:StateT}{o:aZ}(h:named s o)(k:Gr s t):named t o:=by
 unfold named at h ⊢
 split
 ·rename_i h1;rw[if_pos h1]at h;exact k.v _ h
 ·rename_i h1;rw[if_neg h1]at h;exact k.e _ h
theorem MF(d:aj)(c:nF)(x:ae):(bQ d c x).1.length=d.1.length∧(bQ d c x).2=d.2:=⟨fB _ _ _,rfl⟩
theorem Tg{s:StateT}{o:aZ}(hk:o.1=1∨o.1=3)(h:(dX s o).2.1=0):Gr s (dX s o).1∧named (dX s o).1 o:=by
 unfold dX at h ⊢
 by_cases hm:bz o=0
 case neg=>rw[if_pos hm]at h;exact absurd h hm
 rw[if_neg (by simp[hm])]at h ⊢
 rcases hk with h1|h3
 ·rw[if_pos h1]at h ⊢
  unfold ql at h ⊢
  by_cases h2:(aR s.1 (aK o)).isSome=true
  ·rw[if_pos h2]at h;cases h
  rw[if_neg h2]at h ⊢
  by_cases h4:24≤s.1.1.length
  ·rw[if_pos h4]at h;cases h
  rw[if_neg h4]
  refine⟨⟨fun x hx=>?_,fun x hx=>hx,by show _≤(eI _ _).length;rw[gy];omega,Nat.le_refl _⟩,?_⟩
  ·rw[I9]at hx ⊢
   obtain⟨v,hv,e⟩:=hx
   exact⟨v,mj.2 (.inr hv),e⟩
  ·unfold named
   rw[if_pos h1,I9]
   exact⟨_,mj.2 (.inl rfl),rfl⟩
 ·have n1:¬o.1=1:=by omega
  have n2:¬o.1=2:=by omega
  rw[if_neg n1,if_neg n2,if_pos h3]at h ⊢
  unfold oG at h ⊢
  split at h
  ·cases h
  rename_i c1
  split at h
  ·cases h
  rename_i c2
  split at h
  ·cases h
  rename_i c3
  split at h
  ·cases h
  rename_i c4
  split at h
  ·cases h
  rename_i c5
  rw[if_neg c1,if_neg c2,if_neg c3,if_neg c4,if_neg c5]
  have l1:(gD s o).1.length=s.1.1.length:=by unfold gD;rw[(MF _ _ _).1,(MF _ _ _).1]
  have l2:(gD s o).2=dw (aK o,(e0,0)) s.1.2:=rfl
  refine⟨⟨fun x hx=>?_,fun x hx=>?_,by show _≤(gD s o).1.length;omega,by show _≤(gD s o).2.length;rw[l2,kF];omega⟩,?_⟩
  ·exact vQ _ (vQ _ hx)
  ·show(aT (gD s o).2 x).isSome=true
   rw[l2]
   rw[Ja]at hx ⊢
   obtain⟨v,hv,e⟩:=hx
   exact⟨v,oF.2 (.inr hv),e⟩
  ·unfold named
   rw[if_neg n1]
   show(aT (gD s o).2 (aK o)).isSome=true
   rw[l2,Ja]
   exact⟨_,oF.2 (.inl rfl),rfl⟩
theorem Ox{s:StateT}{o:aZ}(hk:o.1=1∨o.1=3)(h:named s o):(dX s o).2.1≠0:=by
 unfold dX
 by_cases hm:bz o=0
 case neg=>rw[if_pos hm];exact hm
 rw[if_neg (by simp[hm])]
 unfold named at h
 rcases hk with h1|h3
 ·rw[if_pos h1]at h
  rw[if_pos h1]
  unfold ql
  rw[if_pos (show(aR s.1 (aK o)).isSome=true from h)]
  decide
 ·have n1:¬o.1=1:=by omega
  have n2:¬o.1=2:=by omega
  rw[if_neg n1]at h
  rw[if_neg n1,if_neg n2,if_pos h3]
  unfold oG
  rw[if_pos (show(cJ s.1 (aK o)).isSome=true from h)]
  decide
structure Vz(e:List aZ):Prop where
 k:∀o∈e,o.1=1∨o.1=3
 n:e≠[]
theorem Gc:∀{e:List aZ} {s:StateT},(∀o∈e,o.1=1∨o.1=3)→(vM e s).2.1=0→Gr s (vM e s).1∧∀o∈e,named (vM e s).1 o
 |[],s,_,_=>⟨Gr.rfl s,fun o ho=>by cases ho⟩
 |o::r,s,hk,h=>by
  unfold vM at h ⊢
  by_cases h1:(dX s o).2.1=0
  case neg=>rw[if_pos h1]at h;exact absurd h h1
  rw[if_neg (by simp[h1])]at h ⊢
  obtain⟨g1,n1⟩:=Tg (hk o (by simp)) h1
  obtain⟨g2,n2⟩:=Gc (fun o ho=>hk o (by simp[ho])) h
  refine⟨g1.trans g2,fun p hp=>?_⟩
  rcases List.mem_cons.1 hp with rfl|hp
  ·exact n1.up g2
  ·exact n2 p hp
theorem mu{s:StateT}{e:List aZ}(h:(cH s e).2.1=0):cH s e=vM e s:=by
 unfold cH at h ⊢
 by_cases hm:eu e=0
 ·rw[if_neg (by simp[hm])]
 ·rw[if_pos hm]at h;exact absurd h hm
theorem Th{s:StateT}{e:List aZ}(h:(cH s e).2.1=0):mH s e=(cH s e).1:=by unfold mH;rw[if_neg (by simp[h])]
theorem VA{s:StateT}{e:List aZ}(h:(cH s e).2.1≠0):mH s e=s:=by unfold mH;rw[if_pos h]
theorem Jb{s:StateT}{e:List aZ}(ha:Vz e):Gr s (mH s e):=by
 by_cases h:(cH s e).2.1=0
 ·rw[Th h,mu h]
  rw[mu h]at h
  exact(Gc ha.k h).1
 ·rw[VA h];exact Gr.rfl s
theorem Jc:∀{l:List (List aZ)} {s:StateT},(∀e∈l,Vz e)→Gr s (I8 l s)
 |[],s,_=>Gr.rfl s
 |e::r,s,h=>(Jb (h e (by simp))).trans (Jc fun e he=>h e (by simp[he]))
theorem Jd{s t:StateT}{e:List aZ}(ha:Vz e)(h:(cH s e).2.1=0)(hg:Gr (mH s e) t):(cH t e).2.1≠0:=fun h2=>by
 rw[Th h,mu h]at hg
 rw[mu h]at h
 rw[mu h2]at h2
 obtain⟨_,hn⟩:=Gc ha.k h
 cases e with
 |nil=>exact ha.n rfl
 |cons o r =>
  have h3:=Ox (ha.k o (by simp)) ((hn o (by simp)).up hg)
  unfold vM at h2
  rw[if_pos h3]at h2
  exact h3 h2
theorem uZ:∀{l:List (List aZ)} {s t:StateT},(∀e∈l,Vz e)→Gr (I8 l s) t→∀i:Nat,(CL l s)[i]? = some true→(CL l t)[i]? = some true→False
 |[],_,_,_,_,i,h,_=>by simp[CL]at h
 |e::r,s,t,ha,hg,0,h1,h2=>by
  simp[CL]at h1 h2
  exact Jd (ha e (by simp)) h1 ((Jc fun e he=>ha e (by simp[he])).trans hg) h2
 |e::r,s,t,ha,hg,i+1,h1,h2=>by
  have h1:(CL r (mH s e))[i]? = some true:=h1
  have h2:(CL r (mH t e))[i]? = some true:=h2
  exact uZ (l:=r) (s:=mH s e) (t:=mH t e) (fun e he=>ha e (by simp[he])) (Gr.trans (show Gr (I8 r (mH s e)) t from hg) (Jb (ha e (by simp)))) i h1 h2
end Go.Vs
namespace Go.Vs
open Go.Proofs
variable {G:(f:FuncId)→(g:aN)→Option (g.A→Option g.B)}
structure tx(l:List (List aZ)):Prop where
 n:l.length≤1073741824
 e:∀e∈l,e.length≤1073741824
 f:∀e∈l,∀o∈e,Fit o
theorem tx.mem{l m:List (List aZ)}(h:tx l)(hs:∀e∈m,e∈l)(hn:m.length≤1073741824):tx m:=⟨hn,fun e he=>h.e e (hs e he),fun e he=>h.f e (hs e he)⟩
theorem VB(n:Int):Fit (RT 1 (1,n)):=⟨Yb,Yb,Yb,by show e0.size≤_;simp[e0,ByteArray.size]⟩
end Go.Vs
namespace Go.Vs
open Go.Proofs Go.Cy
variable {G:(f:FuncId)→(g:aN)→Option (g.A→Option g.B)}
structure Lone(d:aj)(v:ah):Prop where
 w:Wf d
 m:v∈d.1
 r:v.2.1=[]
theorem Lone.split{d:aj}{v:ah}(h:Lone d v):∃a b,d.1=a++v::b∧(bf d v.1 zI)=(a++b,d.2)∧au (a++b) ⊆ au d.1∧(au d.1).Perm (au (a++b)):=by
 obtain⟨a,b,h1,_,h2,_⟩:=rB h.w.sv h.m
 have p:(au d.1).Perm (au (a++b)):=by
  have:=iR a b v
  rw[←h1,h.r,List.nil_append]at this;exact this
 exact⟨a,b,h1,by unfold bf;rw[h2,vO h.w.ge],fun x hx=>p.mem_iff.2 hx,p⟩
theorem Lone.wf{d:aj}{v:ah}(h:Lone d v):Wf (bf d v.1 zI):=h.w.R8 h.m h.r
theorem Lone.mem{d:aj}{v:ah}(h:Lone d v){u:ah}:u∈(bf d v.1 zI).1↔u∈d.1∧u.1≠v.1:=by
 show u∈dA d.1 v.1↔_
 unfold dA
 rw[List.mem_filter];simp
theorem Lone.Ti{d:aj}{v:ah}(h:Lone d v):(au (bf d v.1 zI).1).Perm (au d.1):=by
 obtain⟨a,b,_,h2,_,h3⟩:=h.split
 rw[h2];exact h3.symm
theorem Lone.Tj{d:aj}{v:ah}(h:Lone d v){u:ah}{z:ae}(hu:u∈d.1)(hz:z∈u.2.1):u∈(bf d v.1 zI).1:=by
 refine h.mem.2 ⟨hu,fun k=>?_⟩
 rw[Mg h.w.sv h.m hu k,h.r]at hz;simp at hz
theorem Lone.at{d:aj}{v:ah}(h:Lone d v){z:ae}(hz:z∈au d.1):bM (bf d v.1 zI) z=bM d z:=by
 obtain⟨u,hu,KG⟩:=bh.1 hz
 show FJ (bf d v.1 zI).1 z=FJ d.1 z
 rw[iG h.w.rw hu KG,iG h.wf.rw (h.Tj hu KG) KG]
theorem Lone.Ze{d:aj}{v:ah}(h:Lone d v){a b:ID}:IK (bf d v.1 zI) a b↔IK d a b:=by
 constructor
 ·rintro⟨z,hz,h1,h2⟩
  have hz:=h.Ti.mem_iff.1 hz
  exact⟨z,hz,by rw[←h.at hz];exact h1,by rw[←h.at (h.w.other hz)];exact h2⟩
 ·rintro⟨z,hz,h1,h2⟩
  exact⟨z,h.Ti.mem_iff.2 hz,by rw[h.at hz];exact h1,by rw[h.at (h.w.other hz)];exact h2⟩
theorem Lone.conn{d:aj}{v:ah}(h:Lone d v){a b:ID}:cS (bf d v.1 zI) a b↔cS d a b:=by
 constructor
 ·intro k
  induction k with
  |refl=>exact .refl _
  |tail _ j ih=>exact ih.tail (h.Ze.1 j)
 ·intro k
  induction k with
  |refl=>exact .refl _
  |tail _ j ih=>exact ih.tail (h.Ze.2 j)
theorem Lone.alone{d:aj}{v:ah}(h:Lone d v){b:ID}(k:cS d v.1 b):b=v.1:=by
 have key:∀{a b:ID},cS d a b→a=v.1→b=v.1:=fun {a b} k ha=>by
  induction k with
  |refl=>exact ha
  |tail _ j ih =>
   obtain⟨z,hz,h1,_⟩:=j
   obtain⟨u,hu,KG,yh⟩:=vU h.w hz
   rw[yh,ih]at h1
   have:=Option.some.inj h1
   rw[Mg h.w.sv h.m hu this,h.r]at KG;simp at KG
 exact key k rfl
theorem Lone.U5{d:aj}{v:ah}(h:Lone d v){R:List ID}(hr:vT d R):∃R2,vT (bf d v.1 zI) R2∧R2.length+1=R.length:=by
 obtain⟨r,zj,hvr⟩:=hr.c v h.m
 have hv:v.1∈R:=by rw[←h.alone hvr];exact zj
 refine⟨R.erase v.1,⟨hr.n.erase _,fun s hs=>?_,fun s hs t ht k=>hr.i s (List.mem_of_mem_erase hs) t (List.mem_of_mem_erase ht) (h.conn.1 k),fun u hu=>?_⟩,?_⟩
 ·obtain⟨u,hu,he⟩:=hr.v s (List.mem_of_mem_erase hs)
  refine⟨u,h.mem.2 ⟨hu,fun k=>?_⟩,he⟩
  have:s=v.1:=he.symm.trans k
  subst this
  exact absurd hs (List.Nodup.not_mem_erase hr.n)
 ·obtain⟨hu1,hu2⟩:=h.mem.1 hu
  obtain⟨s,hs,T2⟩:=hr.c u hu1
  refine⟨s,(List.mem_erase_of_ne fun k=>?_).2 hs,h.conn.2 T2⟩
  subst k
  exact hu2 (h.alone (T2.symm h.w))
 ·rw[List.length_erase_of_mem hv]
  have:=List.length_pos_of_mem hv;omega
theorem Lone.ph{d:aj}{v:ah}(h:Lone d v){z:ae}(hz:z∈au d.1):ph (bf d v.1 zI) z=ph d z:=by
 rw[mZ hz,mZ (h.Ti.mem_iff.2 hz)]
 obtain⟨u,hu,KG⟩:=bh.1 (h.w.other hz)
 rw[oO h.w.rw hu KG,oO h.wf.rw (h.Tj hu KG) KG]
theorem Lone.cW{d:aj}{v:ah}(h:Lone d v):(Vs.cW (bf d v.1 zI)).length=(Vs.cW d).length:=by
 have a:=b8 h.wf
 have b:=b8 h.w
 refine Gl.count h.w.rw.n ⟨fun c hc=>?_,a.p.trans h.Ti⟩ b
 refine(a.c c hc).congr fun z hz=>?_
 have:z∈au (bf d v.1 zI).1:=a.p.mem_iff.1 (List.mem_flatten.2 ⟨c,hc,hz⟩)
 exact(h.ph (h.Ti.mem_iff.1 this)).symm
theorem CM{d:aj}(hw:Wf d){R:List ID}(hr:vT d R):eZ d=(R.length:Int):=by
 rw[sH hw,(m6 hw (fC hw)).len hw hr]
structure wa(d:aj)(v:ah)(y:ae):Prop where
 w:Wf d
 m:v∈d.1
 r:v.2.1=[y]
theorem wa.mem{d:aj}{v:ah}{y:ae}(h:wa d v y):y∈au d.1:=bh.2 ⟨v,h.m,by rw[h.r];simp⟩
theorem wa.cut{d:aj}{v:ah}{y:ae}(h:wa d v y):bV d y.1:=by
 obtain⟨e,he,h1,_⟩:=cQ.1 (h.w.pd.mem_iff.1 h.mem)
 exact⟨h.w,by unfold aT;rw[List.find?_isSome];exact⟨e,he,by simpa using h1⟩⟩
theorem wa.lone{d:aj}{v:ah}{y:ae}(h:wa d v y):∃u,Lone (dp d y.1) u∧u.1=v.1:=by
 obtain⟨u,hu,bO⟩:=h.cut.KI.2 ⟨v,h.m,rfl⟩
 refine⟨u,⟨h.cut.w,hu,?_⟩,bO⟩
 cases hq:u.2.1 with
 |nil=>rfl
 |cons z r =>
  exfalso
  have hz:z∈u.2.1:=by rw[hq];simp
  have hzd:z∈au (dp d y.1).1:=bh.2 ⟨u,hu,hz⟩
  have h1:bM (dp d y.1) z=some u.1:=iG h.cut.w.rw hu hz
  rw[h.cut.at hzd,bO]at h1
  obtain⟨w,hw,Gm,yh⟩:=vU h.w (h.cut.sub hzd)
  rw[yh]at h1
  have hwv:=Mg h.w.sv h.m hw (Option.some.inj h1)
  rw[hwv,h.r]at Gm
  have hzy:z=y:=by simpa using Gm
  have nd:=h.cut.p.nodup_iff.1 h.w.rw.n
  have e:y=(y.1,y.2):=rfl
  rcases h.w.side h.mem with k|k
  ·rw[k]at e
   exact(List.nodup_cons.1 nd).1 (List.mem_cons_of_mem _ (e▸hzy▸hzd))
  ·rw[k]at e
   exact(List.nodup_cons.1 (List.nodup_cons.1 nd).2).1 (e▸hzy▸hzd)
theorem wa.back{d:aj}{v:ah}{y:ae}(h:wa d v y):ph d (ar y)=y:=by
 rw[mZ (h.w.other h.mem),lk (h.w.side h.mem)]
 have hy:y∈v.2.1:=by rw[h.r];simp
 rw[oO h.w.rw h.m hy]
 exact(Ew (h.w.rw.ring h.m) hy).2 (by rw[h.r];rfl)
theorem wa.one{d:aj}{v:ah}{y:ae}(h:wa d v y):Sr d (y.1,0) (y.1,1):=by
 have hm:ar y∈(cW d).flatten:=(b8 h.w).p.mem_iff.2 (h.w.other h.mem)
 obtain⟨c,hc,h1⟩:=List.mem_flatten.1 hm
 have h2:=((b8 h.w).c c hc).step h1
 rw[h.back]at h2
 have e:y=(y.1,y.2):=rfl
 have eo:ar y=(y.1,(ar y).2):=rfl
 obtain⟨_,k⟩:=iV (h.w.side h.mem)
 rcases k with⟨k1,k2⟩|⟨k1,k2⟩
 ·rw[k1]at e;rw[k2]at eo
  exact⟨c,hc,e▸h2,eo▸h1⟩
 ·rw[k1]at e;rw[k2]at eo
  exact⟨c,hc,eo▸h1,e▸h2⟩
theorem wa.cW{d:aj}{v:ah}{y:ae}(h:wa d v y):(Vs.cW (dp d y.1)).length≤(Vs.cW d).length:=by
 have h1:=(h.cut.same h.one).2
 have hb:=h.back
 have e:y=(y.1,y.2):=rfl
 have eo:ar y=(y.1,(ar y).2):=rfl
 obtain⟨_,k⟩:=iV (h.w.side h.mem)
 rcases k with⟨k1,k2⟩|⟨k1,k2⟩
 ·rw[k1]at e;rw[k2]at eo
  have:ph d (y.1,1)=(y.1,0):=by rw[←eo,hb];exact e
  rw[if_pos this]at h1
  split at h1<;>omega
 ·rw[k1]at e;rw[k2]at eo
  have:ph d (y.1,0)=(y.1,1):=by rw[←eo,hb];exact e
  rw[if_pos this]at h1
  split at h1<;>omega
theorem wa.parts{d:aj}{v:ah}{y:ae}(h:wa d v y){u:ah}(hu:Lone (dp d y.1) u)(bO:u.1=v.1):eZ (bf (dp d y.1) v.1 zI)=eZ d:=by
 obtain⟨a,b,ha,hb,_,_⟩:=h.cut.Mi
 have hr:=m6 h.w (fC h.w)
 have TO:bM d y=some v.1:=iG h.w.rw h.m (by rw[h.r];simp)
 have TJ:bM d (ar y)≠some v.1:=fun k=>by
  obtain⟨w,hw,Gm,yh⟩:=vU h.w (h.w.other h.mem)
  rw[yh]at k
  rw[Mg h.w.sv h.m hw (Option.some.inj k),h.r]at Gm
  have Gm:ar y=y:=by simpa using Gm
  obtain⟨_,m⟩:=iV (h.w.side h.mem)
  rw[Gm]at m;omega
 have br:a≠b∧(a=v.1∨b=v.1):=by
  have e:y=(y.1,y.2):=rfl
  have eo:ar y=(y.1,(ar y).2):=rfl
  obtain⟨_,k⟩:=iV (h.w.side h.mem)
  rcases k with⟨k1,k2⟩|⟨k1,k2⟩
  ·rw[k1]at e;rw[k2]at eo
   rw[e,ha]at TO
   rw[eo,hb]at TJ
   have:=Option.some.inj TO
   exact⟨fun k=>TJ (by rw[←k,this]),.inl this⟩
  ·rw[k1]at e;rw[k2]at eo
   rw[e,hb]at TO
   rw[eo,ha]at TJ
   have:=Option.some.inj TO
   exact⟨fun k=>TJ (by rw[k,this]),.inr this⟩
 have CY:¬cS (dp d y.1) a b:=fun k=>by
  rcases br.2 with m|m
  ·rw[m,←bO]at k
   exact br.1 (m.trans (bO▸hu.alone k).symm)
  ·rw[m,←bO]at k
   exact br.1 ((bO▸hu.alone (k.symm h.cut.w):a=v.1).trans m.symm)
 obtain⟨R2,h2,h3⟩:=h.cut.WH ha hb CY hr
 obtain⟨R3,h4,h5⟩:=hu.U5 h2
 rw[bO]at h4
 have hwf:=hu.wf
 rw[bO]at hwf
 rw[CM hwf h4,CM h.w hr]
 omega
theorem Gd{k:Int}{x:ID}(hk:k=1∨k=2∨k=4)(hx:b4 x=true):bz (RT k x)=0:=by
 unfold bz
 have e:pV (jH (RT k x)) Jp=true:=by
  rcases hk with rfl|rfl|rfl<;>exact(ia _ _).2 rfl
 have h1:(RT k x).1=k:=rfl
 rw[if_neg (by rw[h1];omega),if_neg (by rw[h1];omega),if_neg (by simp[RT,hx]),if_neg (by rw[e];simp),if_neg (by rw[h1];omega),if_neg (by rw[h1];omega),if_neg (by rw[h1];omega),if_neg (by rw[h1];omega),if_neg (by rw[h1];omega)]
end Go.Vs
namespace Go.Vs
open Go.Proofs
variable {G:(f:FuncId)→(g:aN)→Option (g.A→Option g.B)}
abbrev hiB(h:jx):StateT:=h.1
abbrev O4(h:jx):Int:=h.2.1
abbrev Je(h:jx):List (List aZ):=h.2.2.1
def hiL(h:jx):Int:=O4 h+((Je h).length:Nat)
structure Tk(m:Nat)(h:jx):Prop where
 b:fH (hiB h)
 f0:0≤O4 h
 f1:hiL h≤m
 m1:m≤1000000000
 n:(Je h).length≤64
 r:tx (Je h)
theorem Tk.zero:Tk 0 (zS,(0,([],()))):=⟨fH.zero,Int.le_refl _,by decide,by decide,Nat.zero_le _,⟨Nat.zero_le _,fun e he=>(by cases he),fun e he=>(by cases he)⟩⟩
def adp(h:jx)(e:List aZ):(Int×(Int×Unit))×jx :=
 if eu e≠0 then((0,(eu e,())),h) else if 64≤(Je h).length then((0,(20,())),h) else((hiL h+1,(0,())),(hiB h,(O4 h,(Je h++[e],()))))
theorem Tk.mono{m k:Nat}{h:jx}(ho:Tk m h)(hk:m≤k)(h1:k≤1000000000):Tk k h:=⟨ho.b,ho.f0,by have:=ho.f1;omega,h1,ho.n,ho.r⟩
theorem Tk.add{m:Nat}{h:jx}(ho:Tk m h)(hm:m<1000000000){e:List aZ}(he:e.length≤1073741824)(hf:∀o∈e,Fit o):Tk (m+1) (adp h e).2:=by
 unfold adp
 split
 ·exact ho.mono (by omega) (by omega)
 split
 ·exact ho.mono (by omega) (by omega)
 ·rename_i h1 h2
  have h3:=ho.f1
  have hl:hiL h=O4 h+((Je h).length:Nat):=rfl
  refine⟨ho.b,ho.f0,?_,by omega,?_,?_,fun p hp=>?_,fun p hp=>?_⟩
  ·show O4 h+(((Je h++[e]).length:Nat):Int)≤_;simp;omega
  ·show(Je h++[e]).length≤64;simp;omega
  ·show(Je h++[e]).length≤_;simp;omega
  ·rcases List.mem_append.1 (show p∈Je h++[e] from hp) with hp|hp
   ·exact ho.r.e p hp
   ·rw[List.mem_singleton.1 hp];exact he
  ·rcases List.mem_append.1 (show p∈Je h++[e] from hp) with hp|hp
   ·exact ho.r.f p hp
   ·rw[List.mem_singleton.1 hp];exact hf
def hIn(h:jx)(n:Int):Prop:=O4 h≤n∧n≤hiL h
instance (h:jx) (n:Int):Decidable (hIn h n):=by unfold hIn;infer_instance
def atH(h:jx)(n:Int):StateT×(Int×Unit):=if hIn h n then(I8 ((Je h).take (n-O4 h).toNat) (hiB h),(0,())) else(zS,(26,()))
theorem tx.take{l:List (List aZ)}(h:tx l)(n:Nat):tx (l.take n):=h.mem (fun e he=>List.mem_of_mem_take he) (by have:=h.n;simp;omega)
theorem tx.drop{l:List (List aZ)}(h:tx l)(n:Nat):tx (l.drop n):=h.mem (fun e he=>List.mem_of_mem_drop he) (by have:=h.n;simp;omega)
def WS(h:jx)(n:Int):Int×jx:=if hIn h n then(0,(I8 ((Je h).take (n-O4 h).toNat) (hiB h),(n,((Je h).drop (n-O4 h).toNat,())))) else(26,h)
theorem Tk.comp{m:Nat}{h:jx}(ho:Tk m h)(n:Int):Tk m (WS h n).2:=by
 unfold WS
 have h1:=ho.f0;have h2:=ho.f1;have h3:=ho.n
 have hl:hiL h=O4 h+((Je h).length:Nat):=rfl
 by_cases hi:hIn h n
 ·rw[if_pos hi]
  unfold hIn at hi
  refine⟨fH.all _ ho.b,by show 0≤n;omega,?_,ho.m1,?_,ho.r.drop _⟩
  ·show n+((((Je h).drop (n-O4 h).toNat).length:Nat):Int)≤m
   rw[List.length_drop];omega
  ·show((Je h).drop (n-O4 h).toNat).length≤64
   rw[List.length_drop];omega
 ·rw[if_neg hi];exact ho
end Go.Vs
namespace Go.Vs
open Go.Proofs
variable {G:(f:FuncId)→(g:aN)→Option (g.A→Option g.B)}
def CN(x:ID)(a b:nF):aZ:=(3,(x,(zI,(zI,(a,(b,(false,(e0,0))))))))
def fD(x v w:ID)(n:Int):aZ:=(5,(x,(v,(w,(zC,(zC,(false,(e0,n))))))))
def adq(v w:ID):aZ:=(6,(v,(zI,(w,(zC,(zC,(false,(e0,0))))))))
def dr(x:ID)(oe:Bool)(l:ByteArray)(n:Int):List aZ:=(if l=e0 then[] else[O0 x oe l])++(if n=0 then[] else[Se x oe n])
theorem eC(x:ID)(oe:Bool)(l:ByteArray)(n:Int):(dr x oe l n).length≤2:=by
 unfold dr;split<;>split<;>simp
theorem MG(hG:HG G)(x:ID)(oe:Bool)(l:ByteArray)(n:Int):FX G 75 ti ((x,oe,l,n,()),())=some ((dr x oe l n,()),()):=by
 refine aw (fn:=Tryz.f75) (hG _ _ rfl) (by kernel_rfl) (by kernel_rfl) ((abg _ _ _).trans ?_)
 unfold dr
 by_cases h1:l=e0
 ·rw[if_pos h1]
  refine ag (show(!(l==e0))=false by rw[XQ,decide_eq_true h1];rfl) ?_
  by_cases h2:n=0
  ·rw[if_pos h2];exact ag (show(n != 0)=false by simp[h2]) rfl
  ·rw[if_neg h2];exact af (show(n != 0)=true by simp[h2]) (af rfl rfl)
 ·rw[if_neg h1]
  refine af (show(!(l==e0))=true by rw[XQ,decide_eq_false h1];rfl) (af rfl ?_)
  by_cases h2:n=0
  ·rw[if_pos h2];exact ag (show(n != 0)=false by simp[h2]) rfl
  ·rw[if_neg h2];exact af (show(n != 0)=true by simp[h2]) (af rfl rfl)
theorem adr(hG:HG G)(e:ai):FX G 138 HS ((e,()),())=some ((e.1,()),()):=aw (fn:=Tryz.f138) (hG _ _ rfl) (by kernel_rfl) (by kernel_rfl) (abn _ _ _)
theorem Tl(hG:HG G)(d:aj)(x:ID)(hl:d.2.length≤1073741824):FX G 111 Bw ((d,x,()),())=some (je zE (cJ d x),()):=by
 refine aw (fn:=Tryz.f111) (hG _ _ rfl) (by kernel_rfl) (by kernel_rfl) ((abk _ _ _).trans ?_)
 have h1:FX G 139137 ky ((d.2,x,()),())=some (je zE (aT d.2 x),()):=by
  refine aw (fn:=Tryz.f137) (hG _ _ rfl) (by kernel_rfl) (by kernel_rfl) ((Rq _ _ _).trans ?_)
  have loop:∀(n i:Nat),i+n=d.2.length→LX G 139137 ky Tryz.f137 mf (aM Tryz.prog 137 0) ((d.2,(((d.2.length:Nat):Int),((i:Int),()))),(((x,()),((zE,()),())),()))=some (je zE (aT (d.2.drop i) x),()):=by
   intro n
   induction n with
   |zero =>
    intro i hi
    refine ao (j:=0) (by kernel_rfl) ((BY _ _ _).trans (ag (decide_eq_false (show ¬((i:Int)<((d.2.length:Nat):Int)) by omega)) ?_))
    rw[List.drop_eq_nil_of_le (by omega)];rfl
   |succ n ih =>
    intro i hi
    have aF:i<d.2.length:=by omega
    refine ao (j:=0) (by kernel_rfl) ((BY _ _ _).trans (af (aX aF) (aa (ax (List.getElem?_eq_getElem aF)) (aa (adr hG d.2[i]) ?_))))
    rw[List.drop_eq_getElem_cons aF]
    have hf:aT (d.2[i]::d.2.drop (i+1)) x=if d.2[i].1=x then some d.2[i] else aT (d.2.drop (i+1)) x:=by
     unfold aT;rw[List.find?_cons];by_cases h:d.2[i].1=x<;>simp[h]
    rw[hf]
    by_cases h:d.2[i].1=x
    ·rw[if_pos h]
     refine af ?_ rfl
     exact(jc d.2[i].1 x).trans (decide_eq_true h)
    ·rw[if_neg h]
     refine ag ((jc d.2[i].1 x).trans (decide_eq_false h)) ?_
     rw[wI,aE aF hl]
     exact ih (i+1) (by omega)
  exact loop d.2.length 0 (by omega)
 exact aa h1 rfl
def Oy(d:aj)(x eP:ae):nF :=
 let y:=eO (cC (aS d ((bM d x).getD zI)) eP) x
 if y=x then((bM d x).getD zI,zD) else((bM d x).getD zI,y)
theorem WT(hG:HG G)(d:aj)(x eP:ae)(hw:Wf d):FX G 112 D6 ((d,x,eP,()),())=some ((Oy d x eP,()),()):=by
 have hs:=hw.sm
 refine aw (fn:=Tryz.f112) (hG _ _ rfl) (by kernel_rfl) (by kernel_rfl) ((abl _ _ _).trans ?_)
 refine aa (SB hG d x hs) ?_
 show Option.bind (FX G 74 tg ((d,(je zI (bM d x)).1,()),())) _=_
 rw[ep]
 refine aa (IQ hG d _ hs) ?_
 show Option.bind (FX G 141 Bn (((je zV (aR d ((bM d x).getD zI))).1.2.1,eP,()),())) _=_
 rw[ep]
 have OR:=lx hs ((bM d x).getD zI)
 have DM:(aS d ((bM d x).getD zI)).Nodup:=by
  unfold aS
  cases hv:aR d ((bM d x).getD zI) with
  |none=>simp[zV]
  |some v=>exact hw.rw.ring (List.mem_of_find?_eq_some hv)
 refine aa (R5 hG (aS d ((bM d x).getD zI)) eP DM (by omega)) ?_
 have VV:=yL (aS d ((bM d x).getD zI)) eP
 refine aa (WD hG (cC (aS d ((bM d x).getD zI)) eP) x (by omega)) ?_
 unfold Oy
 have e1:(yI (cz (cC (aS d ((bM d x).getD zI)) eP) x ((cC (aS d ((bM d x).getD zI)) eP).length-1))).1=eO (cC (aS d ((bM d x).getD zI)) eP) x:=vJ _
 have hb:=kA (yI (cz (cC (aS d ((bM d x).getD zI)) eP) x ((cC (aS d ((bM d x).getD zI)) eP).length-1))).1 x
 rw[e1]at hb
 by_cases h:eO (cC (aS d ((bM d x).getD zI)) eP) x=x
 ·refine ag ?_ ?_
  ·show(!(((((yI (cz (cC (aS d ((bM d x).getD zI)) eP) x ((cC (aS d ((bM d x).getD zI)) eP).length-1))).1).1.1==x.1.1)&&(((yI (cz (cC (aS d ((bM d x).getD zI)) eP) x ((cC (aS d ((bM d x).getD zI)) eP).length-1))).1).1.2==x.1.2))&&(((yI (cz (cC (aS d ((bM d x).getD zI)) eP) x ((cC (aS d ((bM d x).getD zI)) eP).length-1))).1).2==x.2)))=false
   rw[e1,hb,decide_eq_true h];rfl
  ·refine congrArg (fun c:nF=>some ((c,()),())) ?_
   show((bM d x).getD zI,zD)=if eO (cC (aS d ((bM d x).getD zI)) eP) x=x then((bM d x).getD zI,zD) else((bM d x).getD zI,eO (cC (aS d ((bM d x).getD zI)) eP) x)
   rw[if_pos h]
 ·refine af ?_ ?_
  ·show(!(((((yI (cz (cC (aS d ((bM d x).getD zI)) eP) x ((cC (aS d ((bM d x).getD zI)) eP).length-1))).1).1.1==x.1.1)&&(((yI (cz (cC (aS d ((bM d x).getD zI)) eP) x ((cC (aS d ((bM d x).getD zI)) eP).length-1))).1).1.2==x.1.2))&&(((yI (cz (cC (aS d ((bM d x).getD zI)) eP) x ((cC (aS d ((bM d x).getD zI)) eP).length-1))).1).2==x.2)))=true
   rw[e1,hb,decide_eq_false h];rfl
  ·refine congrArg (fun c:nF=>some ((c,()),())) ?_
   show((bM d x).getD zI,(yI (cz (cC (aS d ((bM d x).getD zI)) eP) x ((cC (aS d ((bM d x).getD zI)) eP).length-1))).1)=if eO (cC (aS d ((bM d x).getD zI)) eP) x=x then((bM d x).getD zI,zD) else((bM d x).getD zI,eO (cC (aS d ((bM d x).getD zI)) eP) x)
   rw[if_neg h,e1]
def nJ(d:aj)(x:ID):ByteArray×Int:=((aR d x).getD zV).2.2
def nK(d:aj)(x:ID):ByteArray×Int:=((cJ d x).getD zE).2
def Lc(d:aj)(x:ID):List aZ:=CN x (Oy d (x,0) (x,1)) (Oy d (x,1) zD)::dr x true (nK d x).1 (nK d x).2
theorem ads(hG:HG G)(d:aj)(o:aZ)(hw:Wf d):FX G 76 HQ ((d,o,()),())=some ((Lc d (aK o),()),()):=by
 have hs:=hw.sm
 have he:=hs.e
 refine aw (fn:=Tryz.f76) (hG _ _ rfl) (by kernel_rfl) (by kernel_rfl) ((abh _ _ _).trans ?_)
 refine aa (Tl hG d (aK o) (by omega)) ?_
 refine aa (WT hG d (aK o,0) (aK o,1) hw) (aa (WT hG d (aK o,1) zD hw) ?_)
 show Option.bind (FX G 75 ti ((aK o,true,(je zE (cJ d (aK o))).1.2.1,(je zE (cJ d (aK o))).1.2.2,()),())) _=_
 rw[ep]
 refine aa (MG hG _ _ _ _) ?_
 have hl:=eC (aK o) true (nK d (aK o)).1 (nK d (aK o)).2
 exact af (fits (show 1+(dr (aK o) true (nK d (aK o)).1 (nK d (aK o)).2).length≤_ by omega)) rfl
def CO(d:aj)(o:aZ):List aZ :=
 let q:=if gx o=true then nK d (aK o) else nJ d (aK o)
 if o.1=7 then[(o.1,(aK o,(dM o,(av o,(oA o,(oB o,(gx o,(q.1,oN o))))))))] else[(o.1,(aK o,(dM o,(av o,(oA o,(oB o,(gx o,(kV o,q.2))))))))]
theorem adt(hG:HG G)(d:aj)(o:aZ)(hw:Wf d):FX G 78 HR ((d,o,()),())=some ((CO d o,()),()):=by
 have hs:=hw.sm
 have he:=hs.e
 refine aw (fn:=Tryz.f78) (hG _ _ rfl) (by kernel_rfl) (by kernel_rfl) ((abj _ _ _).trans ?_)
 refine aa (IQ hG d (aK o) hs) ?_
 unfold CO
 cases ho:gx o with
 |true =>
  refine af ho (aa (Tl hG d (aK o) (by omega)) ?_)
  have e1:(je zE (cJ d (aK o))).1=(cJ d (aK o)).getD zE:=ep _ _
  by_cases h7:o.1=7
  ·refine af (show(o.1==7)=true by simp[h7]) ?_
   show some (([(o.1,(aK o,(dM o,(av o,(oA o,(oB o,(gx o,((je zE (cJ d (aK o))).1.2.1,oN o))))))))],()),())=some (((if o.1=7 then _ else _),()),())
   rw[if_pos h7,e1,ho];rfl
  ·refine ag (show(o.1==7)=false by simp[h7]) ?_
   show some (([(o.1,(aK o,(dM o,(av o,(oA o,(oB o,(gx o,(kV o,(je zE (cJ d (aK o))).1.2.2))))))))],()),())=some (((if o.1=7 then _ else _),()),())
   rw[if_neg h7,e1,ho];rfl
 |false =>
  refine ag ho ?_
  have e1:(je zV (aR d (aK o))).1=(aR d (aK o)).getD zV:=ep _ _
  by_cases h7:o.1=7
  ·refine af (show(o.1==7)=true by simp[h7]) ?_
   show some (([(o.1,(aK o,(dM o,(av o,(oA o,(oB o,(gx o,((je zV (aR d (aK o))).1.2.2.1,oN o))))))))],()),())=some (((if o.1=7 then _ else _),()),())
   rw[if_pos h7,e1,ho];rfl
  ·refine ag (show(o.1==7)=false by simp[h7]) ?_
   show some (([(o.1,(aK o,(dM o,(av o,(oA o,(oB o,(gx o,(kV o,(je zV (aR d (aK o))).1.2.2.2))))))))],()),())=some (((if o.1=7 then _ else _),()),())
   rw[if_neg h7,e1,ho];rfl
theorem adu(hG:HG G)(a b c:List aZ)(h:a.length+b.length+c.length≤1000):FX G 113 mV (([a,b,c],()),())=some ((a++b++c,()),()):=by
 refine aw (fn:=Tryz.f113) (hG _ _ rfl) (by kernel_rfl) (by kernel_rfl) ((abm _ _ _).trans ?_)
 have w1:∀(i:Nat),i<3→IntKind.wrap .i64 ((i:Int)+1)=((i+1:Nat):Int):=fun i hi=>aE hi (by omega)
 have fin:LX G 113 mV Tryz.f113 pR (aM Tryz.prog 113 1) (([a,b,c],((3:Int),((0:Int),()))),((),(([]:List aZ),())))=some ((a++b++c,()),()):=by
  have step:∀(i:Nat) (p q:List aZ),[a,b,c][i]? = some q→p.length+q.length≤1000→i<3 →
    LX G 113 mV Tryz.f113 pR (aM Tryz.prog 113 1) (([a,b,c],((3:Int),(((i+1:Nat):Int),()))),((),(p++q,())))=some ((a++b++c,()),()) →
    LX G 113 mV Tryz.f113 pR (aM Tryz.prog 113 1) (([a,b,c],((3:Int),((i:Int),()))),((),(p,())))=some ((a++b++c,()),()):=by
   intro i p q hq hl hi k
   refine ao (j:=1) (by kernel_rfl) ((LV _ _ _).trans (af (decide_eq_true (show(i:Int)<3 by omega)) (aa (ax hq) (af (fits (show p.length+q.length≤_ by omega)) ?_))))
   rw[wI,w1 i hi];exact k
  refine step 0 [] a rfl (by simp;omega) (by omega) (step 1 ([]++a) b rfl (by simp;omega) (by omega) (step 2 ([]++a++b) c rfl (by simp;omega) (by omega) ?_))
  exact ao (j:=1) (by kernel_rfl) ((LV _ _ _).trans (ag (decide_eq_false (show ¬((3:Int)<3) by decide)) rfl))
 have cnt:∀(i m:Nat) (q:List aZ),[a,b,c][i]? = some q→m+q.length≤1000→i<3 →
   LX G 113 mV Tryz.f113 sq (aM Tryz.prog 113 0) (([a,b,c],(((m+q.length:Nat):Int),([a,b,c],((3:Int),(((i+1:Nat):Int),()))))),((),()))=some ((a++b++c,()),()) →
   LX G 113 mV Tryz.f113 sq (aM Tryz.prog 113 0) (([a,b,c],((m:Int),([a,b,c],((3:Int),((i:Int),()))))),((),()))=some ((a++b++c,()),()):=by
  intro i m q hq hl hi k
  have e:IntKind.wrap .i64 ((m:Int)+((q.length:Nat):Int))=((m+q.length:Nat):Int):=by rw[wrap_small (by omega) (by omega)];omega
  refine ao (j:=0) (by kernel_rfl) ((LU _ _ _).trans (af (decide_eq_true (show(i:Int)<3 by omega)) (aa (ax hq) ?_)))
  rw[wI,e]
  refine ag (decide_eq_false (by omega)) ?_
  rw[wI,w1 i hi];exact k
 refine cnt 0 0 a rfl (by omega) (by omega) (cnt 1 _ b rfl (by omega) (by omega) (cnt 2 _ c rfl (by omega) (by omega) ?_))
 refine ao (j:=0) (by kernel_rfl) ((LU _ _ _).trans (ag (decide_eq_false (show ¬((3:Int)<3) by decide)) ?_))
 refine af (show qG ((0+a.length+b.length+c.length:Nat):Int)=true by unfold qG;rw[Bool.and_eq_true,decide_eq_true_eq,decide_eq_true_eq];have:fi=1073741824:=rfl;omega) ?_
 exact fin
def Dq(r0 r1:ae)(w:ID):ae×ae:=if r0.1=w then(r1,r0) else(r0,r1)
def eg(d:aj)(o:aZ)(r0 r1:ae):List aZ :=
 [fD (Dq r0 r1 (av o)).1.1 (aK o) (av o) (1-(Dq r0 r1 (av o)).1.2+2*(Dq r0 r1 (av o)).2.2)]++dr (aK o) false (nJ d (aK o)).1 (nJ d (aK o)).2++dr (av o) true (nK d (av o)).1 (nK d (av o)).2
theorem MH{p q:Int}(hp:p=0∨p=1)(hq:q=0∨q=1) :
  cU .or .i64 (cU .or .i64 0 (IntKind.wrap .i64 (1-p))) (Gq .i64 q 1)=1-p+2*q∧cU .or .i64 (cU .or .i64 0 (Gq .i64 q 1)) (IntKind.wrap .i64 (1-p))=1-p+2*q:=by
 rcases hp with rfl|rfl<;>rcases hq with rfl|rfl<;>exact⟨by decide +kernel,by decide +kernel⟩
theorem adv(hG:HG G)(d:aj)(o:aZ)(hw:Wf d){v:ah}{r0 r1:ae}(hv:aR d (aK o)=some v)(hr:v.2.1=[r0,r1])(br:r0.1≠r1.1)(hor:r0.1=av o∨r1.1=av o)(h0:r0.2=0∨r0.2=1)(h1:r1.2=0∨r1.2=1) :
  FX G 77 oy ((d,o,()),())=some ((eg d o r0 r1,()),()):=by
 have hs:=hw.sm
 have he:=hs.e
 refine aw (fn:=Tryz.f77) (hG _ _ rfl) (by kernel_rfl) (by kernel_rfl) ((abi _ _ _).trans ?_)
 refine aa (IQ hG d (aK o) hs) (aa (Tl hG d (av o) (by omega)) ?_)
 have ev:(je zV (aR d (aK o))).1=v:=by rw[hv];rfl
 have ee:(je zE (cJ d (av o))).1=(cJ d (av o)).getD zE:=ep _ _
 show LX G 77 oy Tryz.f77 jy (aM Tryz.prog 77 0) (((je zV (aR d (aK o))).1.2.1,((((je zV (aR d (aK o))).1.2.1.length:Nat):Int),((0:Int),()))),(((o,()),(((je zV (aR d (aK o))).1,()),(((je zE (cJ d (av o))).1,()),((fD zI (aK o) (av o) 0,()),())))),()))=_
 rw[ev,ee,hr]
 have WU:∀(i:Nat) (r:ae) (p:ID) (n:Int),[r0,r1][i]? = some r→r.1=av o→i<2 →
   LX G 77 oy Tryz.f77 jy (aM Tryz.prog 77 0) (([r0,r1],((2:Int),(((i+1:Nat):Int),()))),(((o,()),((v,()),(((cJ d (av o)).getD zE,()),((fD p (aK o) (av o) (cU .or .i64 n (Gq .i64 r.2 1)),()),())))),()))=some ((eg d o r0 r1,()),()) →
   LX G 77 oy Tryz.f77 jy (aM Tryz.prog 77 0) (([r0,r1],((2:Int),((i:Int),()))),(((o,()),((v,()),(((cJ d (av o)).getD zE,()),((fD p (aK o) (av o) n,()),())))),()))=some ((eg d o r0 r1,()),()):=by
  intro i r p n hi hro h2 k
  refine ao (j:=0) (by kernel_rfl) ((Fw _ _ _).trans (af (decide_eq_true (show(i:Int)<2 by omega)) (aa (ax hi) (af ((jc r.1 (av o)).trans (decide_eq_true hro)) (ag rfl ?_)))))
  rw[wI,aE h2 (by omega)];exact k
 have WV:∀(i:Nat) (r:ae) (p:ID) (n:Int),[r0,r1][i]? = some r→r.1≠av o→i<2 →
   LX G 77 oy Tryz.f77 jy (aM Tryz.prog 77 0) (([r0,r1],((2:Int),(((i+1:Nat):Int),()))),(((o,()),((v,()),(((cJ d (av o)).getD zE,()),((fD r.1 (aK o) (av o) (cU .or .i64 n (IntKind.wrap .i64 (1-r.2))),()),())))),()))=some ((eg d o r0 r1,()),()) →
   LX G 77 oy Tryz.f77 jy (aM Tryz.prog 77 0) (([r0,r1],((2:Int),((i:Int),()))),(((o,()),((v,()),(((cJ d (av o)).getD zE,()),((fD p (aK o) (av o) n,()),())))),()))=some ((eg d o r0 r1,()),()):=by
  intro i r p n hi hro h2 k
  refine ao (j:=0) (by kernel_rfl) ((Fw _ _ _).trans (af (decide_eq_true (show(i:Int)<2 by omega)) (aa (ax hi) (ag ((jc r.1 (av o)).trans (decide_eq_false hro)) ?_))))
  rw[wI,aE h2 (by omega)];exact k
 have fin:∀n:Int,n=1-(Dq r0 r1 (av o)).1.2+2*(Dq r0 r1 (av o)).2.2 →
   LX G 77 oy Tryz.f77 jy (aM Tryz.prog 77 0) (([r0,r1],((2:Int),(((2:Nat):Int),()))),(((o,()),((v,()),(((cJ d (av o)).getD zE,()),((fD (Dq r0 r1 (av o)).1.1 (aK o) (av o) n,()),())))),()))=some ((eg d o r0 r1,()),()):=by
  intro n hn
  refine ao (j:=0) (by kernel_rfl) ((Fw _ _ _).trans (ag (decide_eq_false (show ¬((2:Int)<2) by decide)) ?_))
  refine aa (MG hG (aK o) false v.2.2.1 v.2.2.2) (aa (MG hG (av o) true ((cJ d (av o)).getD zE).2.1 ((cJ d (av o)).getD zE).2.2) ?_)
  have l1:=eC (aK o) false v.2.2.1 v.2.2.2
  have l2:=eC (av o) true ((cJ d (av o)).getD zE).2.1 ((cJ d (av o)).getD zE).2.2
  refine aa (adu hG [fD (Dq r0 r1 (av o)).1.1 (aK o) (av o) n] (dr (aK o) false v.2.2.1 v.2.2.2) (dr (av o) true ((cJ d (av o)).getD zE).2.1 ((cJ d (av o)).getD zE).2.2) (by show 1+(dr (aK o) false v.2.2.1 v.2.2.2).length+(dr (av o) true ((cJ d (av o)).getD zE).2.1 ((cJ d (av o)).getD zE).2.2).length≤_;omega)) ?_
  unfold eg nJ nK
  rw[hv,←hn];rfl
 by_cases h:r0.1=av o
 ·have h':r1.1≠av o:=fun k=>br (h.trans k.symm)
  have nO:Dq r0 r1 (av o)=(r1,r0):=if_pos h
  refine WU 0 r0 _ _ rfl h (by omega) (WV 1 r1 _ _ rfl h' (by omega) ?_)
  have:=fin (cU .or .i64 (cU .or .i64 0 (Gq .i64 r0.2 1)) (IntKind.wrap .i64 (1-r1.2))) (by rw[nO];exact(MH h1 h0).2)
  rw[nO]at this;exact this
 ·have h':r1.1=av o:=hor.resolve_left h
  have nO:Dq r0 r1 (av o)=(r0,r1):=if_neg h
  refine WV 0 r0 _ _ rfl h (by omega) (WU 1 r1 _ _ rfl h' (by omega) ?_)
  have:=fin (cU .or .i64 (cU .or .i64 0 (IntKind.wrap .i64 (1-r0.2))) (Gq .i64 r1.2 1)) (by rw[nO];exact(MH h0 h1).1)
  rw[nO]at this;exact this
end Go.Vs
namespace Go.Vs
open Go.Proofs
variable {G:(f:FuncId)→(g:aN)→Option (g.A→Option g.B)}
def amy(x v:ID)(n:Int):aZ:=(5,(x,(v,(v,(zC,(zC,(false,(e0,n))))))))
def Ge(v w:ID):aZ:=(6,(v,(zI,(w,(zC,(zC,(false,(e0,0))))))))
theorem Tn{v w:ID}(hv:b4 v=true)(hw:b4 w=true):bz (Ge v w)=0:=by
 unfold bz
 rw[if_neg (by simp[Ge]),if_neg (by simp[Ge]),if_neg (by simp[Ge,hv]),if_neg,if_neg (by simp[Ge]),if_neg (by simp[Ge]),if_pos (show(Ge v w).1=6 from rfl)]
 ·exact if_pos hw
 intro h
 have:pV (jH (Ge v w)) Jp=true:=(ia _ _).2 rfl
 rw[this]at h;cases h
end Go.Vs
namespace Go.Vs
open Go.Proofs
variable {G:(f:FuncId)→(g:aN)→Option (g.A→Option g.B)}
def Oz(s:StateT)(o:aZ):List aZ :=
 if o.1=1 then[RT 2 (aK o)]
 else if o.1=2 then RT 1 (aK o)::dr (aK o) false (nJ s.1 (aK o)).1 (nJ s.1 (aK o)).2
 else if o.1=3 then[RT 4 (aK o)]
 else if o.1=4 then Lc s.1 (aK o)
 else if o.1=5 then[Ge (dM o) (av o)]
 else if o.1=6 then(match ((aR s.1 (aK o)).getD zV).2.1 with | [r0,r1]=>eg s.1 o r0 r1|_=>[])
 else CO s.1 o
def uu(s:StateT)(o:aZ):List aZ:=if(dX s o).2.1≠0 then[] else Oz s o
theorem Ad{s:StateT}{o:aZ}(h:(dX s o).2.1=0):bz o=0:=by
 unfold dX at h
 by_cases hm:bz o=0
 ·exact hm
 ·rw[if_pos hm]at h;exact absurd h hm
theorem EG{s:StateT}{o:aZ}(h:(dX s o).2.1=0)(hk:o.1=6):∃v r0 r1,aR s.1 (aK o)=some v∧v.2.1=[r0,r1]∧r0.1≠r1.1∧(r0.1=av o∨r1.1=av o):=by
 unfold dX at h
 rw[if_neg (by simp[Ad h]),if_neg (by omega),if_neg (by omega),if_neg (by omega),if_neg (by omega),if_neg (by omega),if_pos hk]at h
 unfold kc at h
 split at h
 ·cases h
 ·rename_i v hv
  split at h
  ·rename_i r0 r1 hr
   unfold jz at h
   split at h
   ·cases h
   rename_i h1
   split at h
   ·rename_i h2;exact⟨v,r0,r1,hv,hr,h1,.inl h2⟩
   split at h
   ·rename_i h2;exact⟨v,r0,r1,hv,hr,h1,.inr h2⟩
   ·cases h
  ·cases h
theorem Tp(hG:HG G)(Js:∀o,qa G o)(s:StateT)(o:aZ)(h:fH s)(hf:Fit o):FX G 44 Bv ((s,o,()),())=some ((uu s o,()),()):=by
 refine aw (fn:=Tryz.f44) (hG _ _ rfl) (by kernel_rfl) (by kernel_rfl) ((abc _ _ _).trans ?_)
 refine aa (IC hG s o h hf fun hm h3=>Js o s h hm h3) ?_
 unfold uu
 by_cases h0:(dX s o).2.1=0
 case neg=>rw[if_pos h0];exact af (show((dX s o).2.1 != 0)=true by simp[h0]) rfl
 rw[if_neg (by simp[h0])]
 refine ag (show((dX s o).2.1 != 0)=false by simp[h0]) ?_
 have hm:=Ad h0
 obtain⟨k1,k8⟩:=oL hm
 have hs:=h.d.sm
 unfold Oz
 have no:∀k:Int,¬o.1=k→(o.1==k)=false:=fun k hk=>by simp[hk]
 have ye:∀k:Int,o.1=k→(o.1==k)=true:=fun k hk=>by simp[hk]
 by_cases h1:o.1=1
 ·rw[if_pos h1];exact af (ye 1 h1) rfl
 rw[if_neg h1];refine ag (no 1 h1) ?_
 by_cases h2:o.1=2
 ·rw[if_pos h2]
  refine af (ye 2 h2) (aa (IQ hG s.1 (aK o) hs) ?_)
  have e1:(je zV (aR s.1 (aK o))).1=(aR s.1 (aK o)).getD zV:=ep _ _
  show Option.bind (FX G 75 ti ((aK o,false,(je zV (aR s.1 (aK o))).1.2.2.1,(je zV (aR s.1 (aK o))).1.2.2.2,()),())) _=_
  rw[e1]
  refine aa (MG hG _ _ _ _) ?_
  have hl:=eC (aK o) false (nJ s.1 (aK o)).1 (nJ s.1 (aK o)).2
  exact af (fits (show 1+(dr (aK o) false (nJ s.1 (aK o)).1 (nJ s.1 (aK o)).2).length≤_ by omega)) rfl
 rw[if_neg h2];refine ag (no 2 h2) ?_
 by_cases h3:o.1=3
 ·rw[if_pos h3];exact af (ye 3 h3) rfl
 rw[if_neg h3];refine ag (no 3 h3) ?_
 by_cases h4:o.1=4
 ·rw[if_pos h4];exact af (ye 4 h4) (aa (ads hG s.1 o h.d) rfl)
 rw[if_neg h4];refine ag (no 4 h4) ?_
 by_cases h5:o.1=5
 ·rw[if_pos h5];exact af (ye 5 h5) rfl
 rw[if_neg h5];refine ag (no 5 h5) ?_
 by_cases h6:o.1=6
 ·rw[if_pos h6]
  obtain⟨v,r0,r1,hv,hr,br,hor⟩:=EG h0 h6
  have UT:v∈s.1.1:=List.mem_of_find?_eq_some hv
  have side:∀r∈v.2.1,r.2=0∨r.2=1:=fun r hr=>h.d.side (bh.2 ⟨v,UT,hr⟩)
  have hg:((aR s.1 (aK o)).getD zV).2.1=[r0,r1]:=by rw[hv];exact hr
  rw[hg]
  exact af (ye 6 h6) (aa (adv hG s.1 o h.d hv hr br hor (side r0 (by rw[hr];simp)) (side r1 (by rw[hr];simp))) rfl)
 rw[if_neg h6]
 exact ag (no 6 h6) (aa (adt hG s.1 o h.d) rfl)
theorem OE{row:List ae}{x:ae}(h:x∈row):eO row x∈row:=by
 have hl:0<row.length:=List.length_pos_of_mem h
 unfold eO cz
 rw[if_pos h]
 have aF:((idx x row 0).toNat+(row.length-1))%row.length<row.length:=Nat.mod_lt _ hl
 rw[List.getElem?_eq_getElem aF]
 exact List.getElem_mem aF
theorem Tq{row:List ae}{x eP:ae}(h:x∈row)(br:x≠eP):x∈cC row eP:=by
 unfold cC
 exact(jY _).mem_iff.2 (List.mem_filter.2 ⟨h,decide_eq_true br⟩)
theorem Ts{row:List ae}{x eP:ae}(h:x∈cC row eP):x∈row:=by
 unfold cC at h
 exact(List.mem_filter.1 ((jY _).mem_iff.1 h)).1
theorem VC{d:aj}(h:Wf d){x:ae}(hx:x∈au d.1):∃v∈d.1,x∈v.2.1∧bM d x=some v.1∧aS d v.1=v.2.1:=by
 obtain⟨v,hv,jI⟩:=bh.1 hx
 exact⟨v,hv,jI,iG h.rw hv jI,iS h.sv hv⟩
theorem MI{d:aj}(h:Wf d){x eP:ae}(hx:x∈au d.1)(br:x≠eP):rv (Oy d x eP)=true:=by
 obtain⟨v,hv,jI,ha,hr⟩:=VC h hx
 have hi:=(h.gv v hv).i
 unfold Oy
 rw[ha]
 simp only[Option.getD_some]
 rw[hr]
 have hm:=Ts (OE (Tq jI br))
 split
 ·unfold rv;simp[hi]
 ·obtain⟨e,he,h1,h2⟩:=cQ.1 (h.pd.mem_iff.1 (bh.2 ⟨v,hv,hm⟩))
  unfold rv Ia
  rw[hi,←h1,(h.ge e he).i,decide_eq_true h2];rfl
theorem OF{n:ID}{a b:nF}(hn:b4 n=true)(ha:rv a=true)(hb:rv b=true):bz (CN n a b)=0:=by
 unfold bz
 rw[if_neg (by simp[CN]),if_neg (by simp[CN]),if_neg (by simp[CN,hn]),if_neg,if_pos (show(CN n a b).1=3 from rfl)]
 ·exact if_pos ⟨ha,hb⟩
 intro h
 have:pV (jH (CN n a b)) Jp=true:=(ia _ _).2 rfl
 rw[this]at h;cases h
theorem yR{x v w:ID}{n:Int}(hx:b4 x=true)(hv:b4 v=true)(hw:b4 w=true)(h0:0≤n)(h3:n≤3):bz (fD x v w n)=0:=by
 unfold bz
 rw[if_neg (by simp[fD]),if_neg (by simp[fD]),if_neg (by simp[fD,hx]),if_neg,if_neg (by simp[fD]),if_pos (show(fD x v w n).1=5 from rfl)]
 ·exact if_pos ⟨hv,hw,h0,h3⟩
 intro h
 have:pV (jH (fD x v w n)) Jp=true:=(ia _ _).2 rfl
 rw[this]at h;cases h
theorem ng{x:ID}{oe:Bool}{l:ByteArray}{n:Int}(hx:b4 x=true)(hl:mG l=true)(hn:kD n=true):∀p∈dr x oe l n,bz p=0:=fun p hp=>by
 unfold dr at hp
 rcases List.mem_append.1 hp with hp|hp
 ·split at hp
  ·cases hp
  ·rw[List.mem_singleton.1 hp];exact Me hx hl
 ·split at hp
  ·cases hp
  ·rw[List.mem_singleton.1 hp];exact Mf hx hn
theorem Tt{o:aZ}(h:bz o=0):jH o=Jp:=by
 unfold bz at h
 split at h;· cases h
 split at h;· cases h
 split at h;· cases h
 split at h;· cases h
 rename_i h4
 exact(ia _ _).1 (by simpa using h4)
theorem CP{d:aj}(h:Wf d)(x:ID):mG (nJ d x).1=true∧kD (nJ d x).2=true:=by
 unfold nJ
 cases hv:aR d x with
 |none=>exact⟨lA,lB⟩
 |some v=>have:=h.gv v (List.mem_of_find?_eq_some hv);exact⟨this.l,this.a⟩
theorem CQ{d:aj}(h:Wf d)(x:ID):mG (nK d x).1=true∧kD (nK d x).2=true:=by
 unfold nK
 cases hv:cJ d x with
 |none=>exact⟨lA,lB⟩
 |some v=>have:=h.ge v (List.mem_of_find?_eq_some hv);exact⟨this.l,this.a⟩
theorem Tu{o:aZ}(hm:bz o=0)(hk:7≤o.1)(d:aj):CO d o=if o.1=7 then[O0 (aK o) (gx o) (if gx o=true then nK d (aK o) else nJ d (aK o)).1] else[Se (aK o) (gx o) (if gx o=true then nK d (aK o) else nJ d (aK o)).2]:=by
 have hr:=Tt hm
 obtain⟨k1,k8⟩:=oL hm
 obtain⟨k,x,nw,ot,a,b,oe,t,n⟩:=o
 simp only at hk k8
 unfold CO
 by_cases h7:k=7
 ·subst h7
  unfold jH at hr
  simp only[show ¬(7:Int)=3 by decide,show ¬(7:Int)=5 by decide,show ¬(7:Int)=6 by decide,if_false,if_true,Jp,Prod.mk.injEq,true_and]at hr
  obtain⟨rfl,rfl,rfl,rfl,rfl⟩:=hr
  rfl
 ·have h8:k=8:=by omega
  subst h8
  unfold jH at hr
  simp only[show ¬(8:Int)=3 by decide,show ¬(8:Int)=5 by decide,show ¬(8:Int)=6 by decide,show ¬(8:Int)=7 by decide,if_false,if_true,Jp,Prod.mk.injEq,true_and,and_true]at hr
  obtain⟨rfl,rfl,rfl,rfl,rfl⟩:=hr
  rfl
theorem OG{s:StateT}{o:aZ}(h:(dX s o).2.1=0)(hk:o.1=4):(cJ s.1 (aK o)).isSome=true:=by
 unfold dX at h
 rw[if_neg (by simp[Ad h]),if_neg (by omega),if_neg (by omega),if_neg (by omega),if_pos hk]at h
 unfold Dm at h
 split at h
 ·cases h
 ·rename_i h1;exact xy h1
theorem smN{p q:Int}(hp:p=0∨p=1)(hq:q=0∨q=1):0≤1-p+2*q∧1-p+2*q≤3:=by omega
theorem MJ{s:StateT}{o:aZ}(hw:fH s)(h:(dX s o).2.1=0):(∀p∈Oz s o,bz p=0)∧1≤(Oz s o).length∧(Oz s o).length≤5:=by
 have hm:=Ad h
 obtain⟨k1,k8⟩:=oL hm
 have hi:=KA hm
 have one:∀{p:aZ} {l:List aZ},l=[p]→bz p=0→(∀q∈l,bz q=0)∧1≤l.length∧l.length≤5:=fun {p l} e hp=>by
  subst e;exact⟨fun q hq=>by rw[List.mem_singleton.1 hq];exact hp,by simp,by simp⟩
 unfold Oz
 by_cases h1:o.1=1
 ·rw[if_pos h1];exact one rfl (Gd (.inr (.inl rfl)) hi)
 rw[if_neg h1]
 by_cases h2:o.1=2
 ·rw[if_pos h2]
  have hl:=eC (aK o) false (nJ s.1 (aK o)).1 (nJ s.1 (aK o)).2
  obtain⟨q1,q2⟩:=CP hw.d (aK o)
  refine⟨fun p hp=>?_,by simp,by simp only[List.length_cons];omega⟩
  rcases List.mem_cons.1 hp with rfl|hp
  ·exact Gd (.inl rfl) hi
  ·exact ng hi q1 q2 p hp
 rw[if_neg h2]
 by_cases h3:o.1=3
 ·rw[if_pos h3];exact one rfl (Gd (.inr (.inr rfl)) hi)
 rw[if_neg h3]
 by_cases h4:o.1=4
 ·rw[if_pos h4]
  have he:=OG h h4
  have hx:=hw.d.kR he (s:=0) (.inl rfl)
  have hy:=hw.d.kR he (s:=1) (.inr rfl)
  obtain⟨q1,q2⟩:=CQ hw.d (aK o)
  have hl:=eC (aK o) true (nK s.1 (aK o)).1 (nK s.1 (aK o)).2
  unfold Lc
  refine⟨fun p hp=>?_,by simp,by simp only[List.length_cons];omega⟩
  rcases List.mem_cons.1 hp with rfl|hp
  ·exact OF hi (MI hw.d hx (fun e=>by have:=congrArg (·.2) e;simp at this)) (MI hw.d hy (fun e=>by
    have:=congrArg (·.1) e
    have e2:aK o=zI:=this
    rw[e2]at hi;cases hi))
  ·exact ng hi q1 q2 p hp
 rw[if_neg h4]
 by_cases h5:o.1=5
 ·rw[if_pos h5]
  obtain⟨a,b,_,_⟩:=xx hm h5
  exact one rfl (Tn a b)
 rw[if_neg h5]
 by_cases h6:o.1=6
 ·rw[if_pos h6]
  obtain⟨v,r0,r1,hv,hr,br,hor⟩:=EG h h6
  have UT:v∈s.1.1:=List.mem_of_find?_eq_some hv
  have hg:((aR s.1 (aK o)).getD zV).2.1=[r0,r1]:=by rw[hv];exact hr
  rw[hg]
  have side:∀r∈v.2.1,(r.2=0∨r.2=1)∧b4 r.1=true:=fun r hr=>by
   obtain⟨e,he,e1,e2⟩:=cQ.1 (hw.d.pd.mem_iff.1 (bh.2 ⟨v,UT,hr⟩))
   exact⟨e2,by rw[←e1];exact(hw.d.ge e he).i⟩
  have s0:=side r0 (by rw[hr];simp)
  have s1:=side r1 (by rw[hr];simp)
  obtain⟨q1,q2⟩:=CP hw.d (aK o)
  obtain⟨q3,q4⟩:=CQ hw.d (av o)
  have ho:=KB hm h6
  have l1:=eC (aK o) false (nJ s.1 (aK o)).1 (nJ s.1 (aK o)).2
  have l2:=eC (av o) true (nK s.1 (av o)).1 (nK s.1 (av o)).2
  show(∀p∈eg s.1 o r0 r1,bz p=0)∧1≤(eg s.1 o r0 r1).length∧(eg s.1 o r0 r1).length≤5
  unfold eg
  refine⟨fun p hp=>?_,by simp only[List.length_append,List.length_cons,List.length_nil];omega,by simp only[List.length_append,List.length_cons,List.length_nil];omega⟩
  rcases List.mem_append.1 hp with hp|hp
  ·rcases List.mem_append.1 hp with hp|hp
   ·rw[List.mem_singleton.1 hp]
    unfold Dq
    split
    ·obtain⟨n0,n3⟩:=smN s1.1 s0.1
     exact yR s1.2 hi ho n0 n3
    ·obtain⟨n0,n3⟩:=smN s0.1 s1.1
     exact yR s0.2 hi ho n0 n3
   ·exact ng hi q1 q2 p hp
  ·exact ng ho q3 q4 p hp
 rw[if_neg h6]
 obtain⟨q1,q2⟩:=CP hw.d (aK o)
 obtain⟨q3,q4⟩:=CQ hw.d (aK o)
 have hq:mG (if gx o=true then nK s.1 (aK o) else nJ s.1 (aK o)).1=true∧kD (if gx o=true then nK s.1 (aK o) else nJ s.1 (aK o)).2=true:=by split;exact⟨q3,q4⟩;exact⟨q1,q2⟩
 rw[Tu hm (by omega)]
 split
 ·exact one rfl (Me hi hq.1)
 ·exact one rfl (Mf hi hq.2)
theorem Jf{s:StateT}(hw:fH s)(o:aZ):(uu s o).length≤5:=by
 unfold uu
 split
 ·simp
 ·rename_i h;exact(MJ hw (by simpa using h)).2.2
end Go.Vs
namespace Go.Vs
open Go.Proofs
variable {G:(f:FuncId)→(g:aN)→Option (g.A→Option g.B)}
theorem adw(hG:HG G)(s:StateT)(hs:Sm s.1)(hl:s.2.length≤50000000)(tv:∀v∈s.1.1,v.2.2.1.size≤100000000)(te:∀e∈s.1.2,e.2.1.size≤100000000) :
  ∃b,FX G 43 l8 ((s,()),())=some ((b,()),())∧(b=true→fH s∧fS s.1=0):=by
 obtain⟨r,q1,q2⟩:=aiN hG s.1 hs tv te
 have loop:∀(n i:Nat),i+n=s.2.length→0<i→(∀j x y,j+1<i→s.2[j]? = some x→s.2[j+1]? = some y→kB x.1 y.1=true) →
   ∃b,LX G 43 l8 Tryz.f43 vB (aM Tryz.prog 43 0) (((i:Int),()),(((s,()),()),()))=some ((b,()),())∧(b=true→fH s∧fS s.1=0):=by
  intro n
  induction n with
  |zero =>
   intro i hi h0 ha
   have e1:=Fv (FX G) (LX G 43 l8 Tryz.f43) (((i:Int),()),(((s,()),()),()))
   have e2:=e1.trans (ag (decide_eq_false (show ¬((i:Int)<((s.2.length:Nat):Int)) by omega)) rfl)
   by_cases h4:s.2.length≤400
   ·refine⟨r==0,ao (j:=0) (by kernel_rfl) (e2.trans (af (decide_eq_true (show((s.2.length:Nat):Int)≤400 by omega)) (aa q1 rfl))),fun hb=>?_⟩
    obtain⟨hw,hg⟩:=q2.1 ((beq_iff_eq (α:=Int)).1 hb)
    exact⟨⟨hw,Tb (R:=fun a b:aA=>kB a.1 b.1=true) (fun a b c=>fO) fun j x y h1 h2=>ha j x y (by have:=(List.getElem?_eq_some_iff.1 h2).1;omega) h1 h2,h4⟩,hg⟩
   ·exact⟨false,ao (j:=0) (by kernel_rfl) (e2.trans (ag (decide_eq_false (show ¬((s.2.length:Nat):Int)≤400 by omega)) rfl)),fun h=>by cases h⟩
  |succ n ih =>
   intro i hi h0 ha
   have aF:i<s.2.length:=by omega
   have hx:s.2[i]? = some s.2[i]:=List.getElem?_eq_getElem aF
   have hy:s.2[i-1]? = some s.2[i-1]:=List.getElem?_eq_getElem (by omega)
   have e1:=Fv (FX G) (LX G 43 l8 Tryz.f43) (((i:Int),()),(((s,()),()),()))
   have e2:aY s.2 (IntKind.wrap .i64 ((i:Int)-1))=some s.2[i-1]:=by rw[MD h0 aF (by omega)];exact ax hy
   by_cases hc:kB s.2[i-1].1 s.2[i].1=true
   ·obtain⟨b,h1,h2⟩:=ih (i+1) (by omega) (by omega) (fun j x y hj k1 k2=>by
     by_cases YO:j+1=i
     ·have ej:j=i-1:=by omega
      subst ej
      rw[hy]at k1;rw[show i-1+1=i by omega,hx]at k2
      cases k1;cases k2;exact hc
     ·exact ha j x y (by omega) k1 k2)
    refine⟨b,ao (j:=0) (by kernel_rfl) (e1.trans (af (aX aF) (aa e2 (aa (ax hx) (aa (UJ hG _ _) (ag (decide_eq_false ?_) ?_)))))),h2⟩
    ·have:=(sB s.2[i-1].1 s.2[i].1).2 hc
     show ¬(mg s.2[i-1].1 s.2[i].1≥0)
     omega
    ·rw[wI,aE aF (by omega)];exact h1
   ·refine⟨false,ao (j:=0) (by kernel_rfl) (e1.trans (af (aX aF) (aa e2 (aa (ax hx) (aa (UJ hG _ _) (af (decide_eq_true ?_) rfl)))))),fun h=>by cases h⟩
    have:=mt (sB s.2[i-1].1 s.2[i].1).1 hc
    show mg s.2[i-1].1 s.2[i].1≥0
    omega
 have e0:=abb (FX G) (LX G 43 l8 Tryz.f43) ((s,()),())
 have fin:∀{y},bU 43 l8 Tryz.f43 (FX G) (LX G 43 l8 Tryz.f43) ((s,()),())=some y→FX G 43 l8 ((s,()),())=some y:=fun {y} h=>aw (fn:=Tryz.f43) (hG _ _ rfl) (by kernel_rfl) (by kernel_rfl) h
 by_cases h0:s.2.length=0
 ·have e1:=Fv (FX G) (LX G 43 l8 Tryz.f43) (((1:Int),()),(((s,()),()),()))
  have e2:=e1.trans (ag (decide_eq_false (show ¬((1:Int)<((s.2.length:Nat):Int)) by omega)) rfl)
  refine⟨r==0,fin (e0.trans (ao (j:=0) (by kernel_rfl) (e2.trans (af (decide_eq_true (show((s.2.length:Nat):Int)≤400 by omega)) (aa q1 rfl))))),fun hb=>?_⟩
  obtain⟨hw,hg⟩:=q2.1 ((beq_iff_eq (α:=Int)).1 hb)
  refine⟨⟨hw,?_,by omega⟩,hg⟩
  rw[List.eq_nil_of_length_eq_zero h0];exact List.Pairwise.nil
 ·obtain⟨b,h1,h2⟩:=loop (s.2.length-1) 1 (by omega) (by omega) (fun j x y hj=>by omega)
  exact⟨b,fin (e0.trans h1),h2⟩
theorem adx(hG:HG G)(Js:∀o,qa G o):FX G 42 HO ((),())=some ((true,()),()):=by
 refine aw (fn:=Tryz.f42) (hG _ _ rfl) (by kernel_rfl) (by kernel_rfl) ((aba _ _ _).trans ?_)
 have h1:=Tp hG Js zS (RT 1 (1,1)) fH.zero (VB 1)
 have e:uu zS (RT 1 (1,1))=[RT 2 (1,1)]:=rfl
 rw[e]at h1
 exact aa h1 (af rfl (af rfl rfl))
theorem ady(hG:HG G)(l:List aZ):FX G 47 HP ((l,()),())=some ((l.take 8,()),()):=by
 refine aw (fn:=Tryz.f47) (hG _ _ rfl) (by kernel_rfl) (by kernel_rfl) ((abd _ _ _).trans ?_)
 by_cases h:8<l.length
 ·have d1:decide (((l.length:Nat):Int)>8)=true:=decide_eq_true (by omega)
  have d2:bj l.length 0 8=true:=by simp[bj];omega
  simp only[d1,d2];rfl
 ·have d1:decide (((l.length:Nat):Int)>8)=false:=decide_eq_false (by omega)
  rw[List.take_of_length_le (by omega)]
  simp only[d1];rfl
def Ld:List aZ→StateT→List aZ→List aZ
 |[],_,acc=>acc
 |o::r,s,acc=>Ld r (dX s o).1 (uu s o++acc)
def ofR(s:StateT)(l:List aZ):List aZ×(Int×Unit):=if(cH s l).2.1≠0 then([],((cH s l).2.1,())) else(Ld l s [],(0,()))
theorem go_step{s:StateT}{o:aZ}{r:List aZ}(h:(vM (o::r) s).2.1=0):(dX s o).2.1=0∧(vM r (dX s o).1).2.1=0∧vM (o::r) s=vM r (dX s o).1:=by
 have e:vM (o::r) s=if(dX s o).2.1≠0 then(zS,(dX s o).2) else vM r (dX s o).1:=rfl
 rw[e]at h ⊢
 by_cases h1:(dX s o).2.1=0
 ·rw[if_neg (by simp[h1])]at h ⊢;exact⟨h1,h,rfl⟩
 ·rw[if_pos h1]at h;exact absurd h h1
theorem adz(hG:HG G)(Js:∀o,qa G o)(s:StateT)(l:List aZ)(hw:fH s)(hl:l.length≤8)(hf:∀o∈l,Fit o):FX G 48 yE ((s,l,()),())=some (ofR s l,()):=by
 refine aw (fn:=Tryz.f48) (hG _ _ rfl) (by kernel_rfl) (by kernel_rfl) ((abe _ _ _).trans ?_)
 refine aa (ahv hG s l hw (by omega) hf fun o _=>Js o) ?_
 unfold ofR
 by_cases h0:(cH s l).2.1=0
 case neg=>rw[if_pos h0];exact af (show((cH s l).2.1 != 0)=true by simp[h0]) rfl
 rw[if_neg (by simp[h0])]
 refine ag (show((cH s l).2.1 != 0)=false by simp[h0]) ?_
 have LW:(vM l s).2.1=0:=by rw[mu h0]at h0;exact h0
 have loop:∀(n i:Nat) (t:StateT) (acc:List aZ),i+n=l.length→fH t→(vM (l.drop i) t).2.1=0→acc.length≤5*i →
   LX G 48 yE Tryz.f48 vC (aM Tryz.prog 48 0) ((l,(((l.length:Nat):Int),((i:Int),()))),(((t,()),()),(acc,())))=some ((Ld (l.drop i) t acc,((0:Int),())),()):=by
  intro n
  induction n with
  |zero =>
   intro i t acc hi ht hg ha
   refine ao (j:=0) (by kernel_rfl) ((LR _ _ _).trans (ag (decide_eq_false (show ¬((i:Int)<((l.length:Nat):Int)) by omega)) ?_))
   rw[List.drop_eq_nil_of_le (by omega)];rfl
  |succ n ih =>
   intro i t acc hi ht hg ha
   have aF:i<l.length:=by omega
   have hm:=List.getElem_mem aF
   rw[List.drop_eq_getElem_cons aF]at hg ⊢
   obtain⟨g1,g2,_⟩:=go_step hg
   refine ao (j:=0) (by kernel_rfl) ((LR _ _ _).trans (af (aX aF) (aa (ax (List.getElem?_eq_getElem aF)) ?_)))
   refine aa (Tp hG Js t l[i] ht (hf _ hm)) ?_
   have hp:=Jf ht l[i]
   refine af (fits (show(uu t l[i]).length+acc.length≤_ by omega)) ?_
   refine aa (IC hG t l[i] ht (hf _ hm) fun hm h3=>Js _ t ht hm h3) ?_
   refine ag (show((dX t l[i]).2.1 != 0)=false by simp[g1]) ?_
   rw[wI,aE aF (by omega)]
   exact ih (i+1) _ (uu t l[i]++acc) (by omega) (ht.one l[i]) g2 (by rw[List.length_append];omega)
 exact loop l.length 0 s [] (by omega) hw LW (by simp)
end Go.Vs
