/- Rows of edits, and histories: what the program computes. -/
import Derived.Test.YtpkfpbpbkabkdaaGreatPartsB
import Derived.Test.YtpkfpbpbkabkdaaGreatFormed
import Derived.Test.YtpkfpbpbkabkdaaGreatTop
import Derived.Test.YtpkfpbpbkabkdaaGreatForm
import Derived.Test.YtpkfpbpbkabkdaaGreatSplits
import Derived.Test.YtpkfpbpbkabkdaaGreatNormalD
import Derived.Test.YtpkfpbpbkabkdaaGreatEuler
set_option linter.unusedVariables false
set_option linter.unusedSimpArgs false
namespace Go.Vs
open Go.Proofs
variable {G:(f:FuncId)→(g:aJ)→Option (g.A→Option g.B)}
theorem BY{n:Int}(h:JB (.int .i64) n):JK n:=by
 have h1:IntKind.min .i64 = -9223372036854775808:=by decide
 have h2:IntKind.max .i64=9223372036854775807:=by decide
 have h:IntKind.min .i64≤n∧n≤IntKind.max .i64:=h
 rw[h1,h2]at h
 unfold JK;omega
theorem Xw{o:ba}(h:JB qq o)(ht:tw o):Fit o:=by
 obtain⟨_,_,_,_,⟨_,_,h1⟩,⟨_,_,h2⟩,_,_,h3⟩:=h
 exact⟨BY h1,BY h2,BY h3,ht⟩
end Go.Vs
namespace Go.Vs
open Go.Proofs
variable {G:(f:FuncId)→(g:aJ)→Option (g.A→Option g.B)}
end Go.Vs
namespace Go.Vs
open Go.Proofs
variable {G:(f:FuncId)→(g:aJ)→Option (g.A→Option g.B)}
theorem Wf.bd{d:aj}(h:Wf d):Bd 100 d:=⟨by have:=h.nv;omega,by have:=h.ne;omega,fun v hv=>by have:=h.tD v hv;omega⟩
end Go.Vs
namespace Go.Vs
def dd:List (List ba)→StateT→StateT
 |[],s=>s
 |e::r,s=>dd r (iI s e)
def BZ:List (List ba)→StateT→List Bool
 |[],_=>[]
 |e::r,s=>decide ((cP s e).2.1=0)::BZ r (iI s e)
theorem T8(s:StateT):iI s []=s:=by
 unfold iI cP ck
 simp
theorem vt:∀(a b:List (List ba)) (s:StateT),dd (a++b) s=dd b (dd a s)
 |[],_,_=>rfl
 |e::r,b,s=>vt r b (iI s e)
theorem eU.all:∀(l:List (List ba)) {s:StateT},eU s→eU (dd l s)
 |[],_,h=>h
 |e::r,_,h=>eU.all r (h.try e)
theorem Bs.all:∀{l:List (List ba)} {n:Nat} {s:StateT},(∀e∈l,e.length≤8)→Bs n s→Bs (n+24*l.length) (dd l s)
 |[],_,_,_,h=>h
 |e::r,n,s,hl,h=>by
  have h1:Bs (n+24) (iI s e):=h.try.mono (by have:=hl e (by simp);omega)
  exact(Bs.all (fun e he=>hl e (by simp[he])) h1).mono (by simp;omega)
theorem Ij{l:List ag}{x:ID}:(aR l x).isSome=true↔∃v∈l,v.1=x:=by
 unfold aR;rw[List.find?_isSome];simp
theorem Ik{l:List ah}{x:ID}:(aU l x).isSome=true↔∃v∈l,v.1=x:=by
 unfold aU;rw[List.find?_isSome];simp
structure Gr(s t:StateT):Prop where
 v:∀x,(aR s.1.1 x).isSome=true→(aR t.1.1 x).isSome=true
 e:∀x,(aU s.1.2 x).isSome=true→(aU t.1.2 x).isSome=true
 nv:s.1.1.length≤t.1.1.length
 ne:s.1.2.length≤t.1.2.length
theorem Gr.rfl(s:StateT):Gr s s:=⟨fun _ h=>h,fun _ h=>h,Nat.le_refl _,Nat.le_refl _⟩
theorem Gr.trans{a b c:StateT}(h:Gr a b)(k:Gr b c):Gr a c:=⟨fun x p=>k.v x (h.v x p),fun x p=>k.e x (h.e x p),Nat.le_trans h.nv k.nv,Nat.le_trans h.ne k.ne⟩
def named(s:StateT)(o:ba):Prop:=if o.1=1 then(aR s.1.1 (aV o)).isSome=true else(aU s.1.2 (aV o)).isSome=true
theorem named.up{s t:StateT}{o:ba}(h:named s o)(k:Gr s t):named t o:=by
 unfold named at h ⊢
 split
 ·rename_i h1;rw[if_pos h1]at h;exact k.v _ h
 ·rename_i h1;rw[if_neg h1]at h;exact k.e _ h
theorem LC(d:aj)(c:pn)(x:ab):(bN d c x).1.length=d.1.length∧(bN d c x).2=d.2:=⟨fb _ _ _,rfl⟩
theorem RG{s:StateT}{o:ba}(hk:o.1=1∨o.1=3)(h:(kX s o).2.1=0):Gr s (kX s o).1∧named (kX s o).1 o:=by
 unfold kX at h ⊢
 by_cases hm:cf o=0
 case neg=>rw[if_pos hm]at h;exact absurd h hm
 rw[if_neg (by simp[hm])]at h ⊢
 rcases hk with h1|h3
 ·rw[if_pos h1]at h ⊢
  unfold pz at h ⊢
  by_cases h2:(bp s.1 (aV o)).isSome=true
  ·rw[if_pos h2]at h;cases h
  rw[if_neg h2]at h ⊢
  by_cases h4:24≤s.1.1.length
  ·rw[if_pos h4]at h;cases h
  rw[if_neg h4]
  refine⟨⟨fun x hx=>?_,fun x hx=>hx,by show _≤(dW _ _).length;rw[fW];omega,Nat.le_refl _⟩,?_⟩
  ·rw[Ij]at hx ⊢
   obtain⟨v,hv,e⟩:=hx
   exact⟨v,lV.2 (.inr hv),e⟩
  ·unfold named
   rw[if_pos h1,Ij]
   exact⟨_,lV.2 (.inl rfl),rfl⟩
 ·have n1:¬o.1=1:=by omega
  have n2:¬o.1=2:=by omega
  rw[if_neg n1,if_neg n2,if_pos h3]at h ⊢
  unfold py at h ⊢
  split at h
  ·cases h
  rename_i c1
  split at h
  ·cases h
  rename_i c2
  split at h
  ·cases h
  rename_i c3
  split at h
  ·cases h
  rename_i c4
  split at h
  ·cases h
  rename_i c5
  rw[if_neg c1,if_neg c2,if_neg c3,if_neg c4,if_neg c5]
  have l1:(fX s o).1.length=s.1.1.length:=by unfold fX;rw[(LC _ _ _).1,(LC _ _ _).1]
  have l2:(fX s o).2=dp (aV o,(e0,0)) s.1.2:=rfl
  refine⟨⟨fun x hx=>?_,fun x hx=>?_,by show _≤(fX s o).1.length;omega,by show _≤(fX s o).2.length;rw[l2,kl];omega⟩,?_⟩
  ·exact vf _ (vf _ hx)
  ·show(aU (fX s o).2 x).isSome=true
   rw[l2]
   rw[Ik]at hx ⊢
   obtain⟨v,hv,e⟩:=hx
   exact⟨v,nN.2 (.inr hv),e⟩
  ·unfold named
   rw[if_neg n1]
   show(aU (fX s o).2 (aV o)).isSome=true
   rw[l2,Ik]
   exact⟨_,nN.2 (.inl rfl),rfl⟩
theorem Nq{s:StateT}{o:ba}(hk:o.1=1∨o.1=3)(h:named s o):(kX s o).2.1≠0:=by
 unfold kX
 by_cases hm:cf o=0
 case neg=>rw[if_pos hm];exact hm
 rw[if_neg (by simp[hm])]
 unfold named at h
 rcases hk with h1|h3
 ·rw[if_pos h1]at h
  rw[if_pos h1]
  unfold pz
  rw[if_pos (show(bp s.1 (aV o)).isSome=true from h)]
  decide
 ·have n1:¬o.1=1:=by omega
  have n2:¬o.1=2:=by omega
  rw[if_neg n1]at h
  rw[if_neg n1,if_neg n2,if_pos h3]
  unfold py
  rw[if_pos (show(gD s.1 (aV o)).isSome=true from h)]
  decide
structure T9(e:List ba):Prop where
 k:∀o∈e,o.1=1∨o.1=3
 n:e≠[]
theorem Fk:∀{e:List ba} {s:StateT},(∀o∈e,o.1=1∨o.1=3)→(E1 e s).2.1=0→Gr s (E1 e s).1∧∀o∈e,named (E1 e s).1 o
 |[],s,_,_=>⟨Gr.rfl s,fun o ho=>by cases ho⟩
 |o::r,s,hk,h=>by
  unfold E1 at h ⊢
  by_cases h1:(kX s o).2.1=0
  case neg=>rw[if_pos h1]at h;exact absurd h h1
  rw[if_neg (by simp[h1])]at h ⊢
  obtain⟨g1,n1⟩:=RG (hk o (by simp)) h1
  obtain⟨g2,n2⟩:=Fk (fun o ho=>hk o (by simp[ho])) h
  refine⟨g1.trans g2,fun p hp=>?_⟩
  rcases List.mem_cons.1 hp with rfl|hp
  ·exact n1.up g2
  ·exact n2 p hp
theorem qN{s:StateT}{e:List ba}(h:(cP s e).2.1=0):cP s e=E1 e s:=by
 unfold cP at h ⊢
 by_cases hm:ck e=0
 ·rw[if_neg (by simp[hm])]
 ·rw[if_pos hm]at h;exact absurd h hm
theorem RH{s:StateT}{e:List ba}(h:(cP s e).2.1=0):iI s e=(cP s e).1:=by unfold iI;rw[if_neg (by simp[h])]
theorem Ua{s:StateT}{e:List ba}(h:(cP s e).2.1≠0):iI s e=s:=by unfold iI;rw[if_pos h]
theorem Il{s:StateT}{e:List ba}(ha:T9 e):Gr s (iI s e):=by
 by_cases h:(cP s e).2.1=0
 ·rw[RH h,qN h]
  rw[qN h]at h
  exact(Fk ha.k h).1
 ·rw[Ua h];exact Gr.rfl s
theorem Im:∀{l:List (List ba)} {s:StateT},(∀e∈l,T9 e)→Gr s (dd l s)
 |[],s,_=>Gr.rfl s
 |e::r,s,h=>(Il (h e (by simp))).trans (Im fun e he=>h e (by simp[he]))
theorem Io{s t:StateT}{e:List ba}(ha:T9 e)(h:(cP s e).2.1=0)(hg:Gr (iI s e) t):(cP t e).2.1≠0:=fun h2=>by
 rw[RH h,qN h]at hg
 rw[qN h]at h
 rw[qN h2]at h2
 obtain⟨_,hn⟩:=Fk ha.k h
 cases e with
 |nil=>exact ha.n rfl
 |cons o r =>
  have h3:=Nq (ha.k o (by simp)) ((hn o (by simp)).up hg)
  unfold E1 at h2
  rw[if_pos h3]at h2
  exact h3 h2
theorem um:∀{l:List (List ba)} {s t:StateT},(∀e∈l,T9 e)→Gr (dd l s) t→∀i:Nat,(BZ l s)[i]? = some true→(BZ l t)[i]? = some true→False
 |[],_,_,_,_,i,h,_=>by simp[BZ]at h
 |e::r,s,t,ha,hg,0,h1,h2=>by
  simp[BZ]at h1 h2
  exact Io (ha e (by simp)) h1 ((Im fun e he=>ha e (by simp[he])).trans hg) h2
 |e::r,s,t,ha,hg,i+1,h1,h2=>by
  have h1:(BZ r (iI s e))[i]? = some true:=h1
  have h2:(BZ r (iI t e))[i]? = some true:=h2
  exact um (l:=r) (s:=iI s e) (t:=iI t e) (fun e he=>ha e (by simp[he])) (Gr.trans (show Gr (dd r (iI s e)) t from hg) (Il (ha e (by simp)))) i h1 h2
end Go.Vs
namespace Go.Vs
open Go.Proofs
variable {G:(f:FuncId)→(g:aJ)→Option (g.A→Option g.B)}
structure kM(l:List (List ba)):Prop where
 n:l.length≤1073741824
 e:∀e∈l,e.length≤1073741824
 f:∀e∈l,∀o∈e,Fit o
theorem kM.mem{l m:List (List ba)}(h:kM l)(hs:∀e∈m,e∈l)(hn:m.length≤1073741824):kM m:=⟨hn,fun e he=>h.e e (hs e he),fun e he=>h.f e (hs e he)⟩
theorem Xx(hG:HG G)(xM:∀o,ig G o){l:List (List ba)}(h:kM l){e:List ba}(he:e∈l)(s:StateT)(hw:eU s):FX G 102 Gv ((s,e,()),())=some ((iI s e,()),()) :=
 aa1 hG s e hw (h.e e he) (h.f e he) fun o _=>xM o
theorem Xy(hG:HG G)(xM:∀o,ig G o)(s:StateT)(hw:eU s):FX G 102 Gv ((s,[],()),())=some ((s,()),()):=by
 have:=aa1 hG s [] hw (by simp) (by simp) fun o _=>xM o
 rwa [T8]at this
theorem ab4(hG:HG G)(s:StateT)(e:List ba):FX G 61 G5 ((s,e,()),())=some ((),()):=au (fn:=Tryz.f61) (hG _ _ rfl) (by kernel_rfl) (by kernel_rfl) (ZU _ _ _)
theorem RI(hG:HG G)(xM:∀o,ig G o)(l:List (List ba))(h:kM l):∀(n i:Nat) (s:StateT),i+n=l.length→eU s →
  LX G 62060 kh Tryz.f60 lS (aN Tryz.prog 60 0) ((l,(((l.length:Nat):Int),((i:Int),()))),((zW,((s,()),())),()))=some ((dd (l.drop i) s,()),()):=by
 intro n
 induction n with
 |zero =>
  intro i s hi hw
  refine ar (j:=0) (by kernel_rfl) ((A8 _ _ _).trans (af (decide_eq_false (show ¬((i:Int)<((l.length:Nat):Int)) by omega)) ?_))
  rw[List.drop_eq_nil_of_le (by omega)];rfl
 |succ n ih =>
  intro i s hi hw
  have aF:i<l.length:=by omega
  have hm:=List.getElem_mem aF
  refine ar (j:=0) (by kernel_rfl) ((A8 _ _ _).trans (ae (aW aF) ?_))
  refine aa (aI (List.getElem?_eq_getElem aF)) ?_
  refine aa (ab4 hG s l[i]) (aa (Xx hG xM h hm s hw) ?_)
  rw[wI,aG aF h.n,List.drop_eq_getElem_cons aF,dd]
  exact ih (i+1) _ (by omega) (hw.try l[i])
theorem Vm(hG:HG G)(xM:∀o,ig G o)(s:StateT)(l:List (List ba))(hw:eU s)(h:kM l):FX G 18 Ay ((s,l,()),())=some ((dd l s,()),()):=by
 refine au (fn:=Tryz.f18) (hG _ _ rfl) (by kernel_rfl) (by kernel_rfl) ((ZH _ _ _).trans ?_)
 have h1:FX G 62060 kh ((s,l,()),())=some ((dd l s,()),()):=by
  refine au (fn:=Tryz.f60) (hG _ _ rfl) (by kernel_rfl) (by kernel_rfl) ((P6 _ _ _).trans ?_)
  refine aa (Xy hG xM s hw) ?_
  exact RI hG xM l h l.length 0 s (by omega) hw
 exact aa h1 rfl
theorem Ub(n:Int):Fit (JJ 1 (1,n)):=⟨WK,WK,WK,by show e0.size≤_;simp[e0,ByteArray.size]⟩
end Go.Vs
namespace Go.Vs
open Go.Proofs Go.Cy
variable {G:(f:FuncId)→(g:aJ)→Option (g.A→Option g.B)}
structure Lone(d:aj)(v:ag):Prop where
 w:Wf d
 m:v∈d.1
 r:v.2.1=[]
theorem Lone.split{d:aj}{v:ag}(h:Lone d v):∃a b,d.1=a++v::b∧(aS d v.1 zI)=(a++b,d.2)∧aq (a++b) ⊆ aq d.1∧(aq d.1).Perm (aq (a++b)):=by
 obtain⟨a,b,h1,_,h2,_⟩:=qJ h.w.sv h.m
 have p:(aq d.1).Perm (aq (a++b)):=by
  have:=iB a b v
  rw[←h1,h.r,List.nil_append]at this;exact this
 exact⟨a,b,h1,by unfold aS;rw[h2,vd h.w.ge],fun x hx=>p.mem_iff.2 hx,p⟩
theorem Lone.wf{d:aj}{v:ag}(h:Lone d v):Wf (aS d v.1 zI):=h.w.QH h.m h.r
theorem Lone.mem{d:aj}{v:ag}(h:Lone d v){u:ag}:u∈(aS d v.1 zI).1↔u∈d.1∧u.1≠v.1:=by
 show u∈dv d.1 v.1↔_
 unfold dv
 rw[List.mem_filter];simp
theorem Lone.RJ{d:aj}{v:ag}(h:Lone d v):(aq (aS d v.1 zI).1).Perm (aq d.1):=by
 obtain⟨a,b,_,h2,_,h3⟩:=h.split
 rw[h2];exact h3.symm
theorem Lone.RL{d:aj}{v:ag}(h:Lone d v){u:ag}{z:ab}(hu:u∈d.1)(hz:z∈u.2.1):u∈(aS d v.1 zI).1:=by
 refine h.mem.2 ⟨hu,fun k=>?_⟩
 rw[Le h.w.sv h.m hu k,h.r]at hz;simp at hz
theorem Lone.at{d:aj}{v:ag}(h:Lone d v){z:ab}(hz:z∈aq d.1):cm (aS d v.1 zI) z=cm d z:=by
 obtain⟨u,hu,JU⟩:=br.1 hz
 show EU (aS d v.1 zI).1 z=EU d.1 z
 rw[ji h.w.rw hu JU,ji h.wf.rw (h.RL hu JU) JU]
theorem Lone.XW{d:aj}{v:ag}(h:Lone d v){a b:ID}:HV (aS d v.1 zI) a b↔HV d a b:=by
 constructor
 ·rintro⟨z,hz,h1,h2⟩
  have hz:=h.RJ.mem_iff.1 hz
  exact⟨z,hz,by rw[←h.at hz];exact h1,by rw[←h.at (h.w.other hz)];exact h2⟩
 ·rintro⟨z,hz,h1,h2⟩
  exact⟨z,h.RJ.mem_iff.2 hz,by rw[h.at hz];exact h1,by rw[h.at (h.w.other hz)];exact h2⟩
theorem Lone.conn{d:aj}{v:ag}(h:Lone d v){a b:ID}:cJ (aS d v.1 zI) a b↔cJ d a b:=by
 constructor
 ·intro k
  induction k with
  |refl=>exact .refl _
  |tail _ j ih=>exact ih.tail (h.XW.1 j)
 ·intro k
  induction k with
  |refl=>exact .refl _
  |tail _ j ih=>exact ih.tail (h.XW.2 j)
theorem Lone.alone{d:aj}{v:ag}(h:Lone d v){b:ID}(k:cJ d v.1 b):b=v.1:=by
 have key:∀{a b:ID},cJ d a b→a=v.1→b=v.1:=fun {a b} k ha=>by
  induction k with
  |refl=>exact ha
  |tail _ j ih =>
   obtain⟨z,hz,h1,_⟩:=j
   obtain⟨u,hu,JU,xe⟩:=vl h.w hz
   rw[xe,ih]at h1
   have:=Option.some.inj h1
   rw[Le h.w.sv h.m hu this,h.r]at JU;simp at JU
 exact key k rfl
theorem Lone.TG{d:aj}{v:ag}(h:Lone d v){R:List ID}(hr:vj d R):∃R2,vj (aS d v.1 zI) R2∧R2.length+1=R.length:=by
 obtain⟨r,Bg,hvr⟩:=hr.c v h.m
 have hv:v.1∈R:=by rw[←h.alone hvr];exact Bg
 refine⟨R.erase v.1,⟨hr.n.erase _,fun s hs=>?_,fun s hs t ht k=>hr.i s (List.mem_of_mem_erase hs) t (List.mem_of_mem_erase ht) (h.conn.1 k),fun u hu=>?_⟩,?_⟩
 ·obtain⟨u,hu,he⟩:=hr.v s (List.mem_of_mem_erase hs)
  refine⟨u,h.mem.2 ⟨hu,fun k=>?_⟩,he⟩
  have:s=v.1:=he.symm.trans k
  subst this
  exact absurd hs (List.Nodup.not_mem_erase hr.n)
 ·obtain⟨hu1,hu2⟩:=h.mem.1 hu
  obtain⟨s,hs,Ss⟩:=hr.c u hu1
  refine⟨s,(List.mem_erase_of_ne fun k=>?_).2 hs,h.conn.2 Ss⟩
  subst k
  exact hu2 (h.alone (Ss.symm h.w))
 ·rw[List.length_erase_of_mem hv]
  have:=List.length_pos_of_mem hv;omega
theorem Lone.ph{d:aj}{v:ag}(h:Lone d v){z:ab}(hz:z∈aq d.1):ph (aS d v.1 zI) z=ph d z:=by
 rw[mD hz,mD (h.RJ.mem_iff.2 hz)]
 obtain⟨u,hu,JU⟩:=br.1 (h.w.other hz)
 rw[nV h.w.rw hu JU,nV h.wf.rw (h.RL hu JU) JU]
theorem Lone.cO{d:aj}{v:ag}(h:Lone d v):(Vs.cO (aS d v.1 zI)).length=(Vs.cO d).length:=by
 have a:=bZ h.wf
 have b:=bZ h.w
 refine Fv.count h.w.rw.n ⟨fun c hc=>?_,a.p.trans h.RJ⟩ b
 refine(a.c c hc).congr fun z hz=>?_
 have:z∈aq (aS d v.1 zI).1:=a.p.mem_iff.1 (List.mem_flatten.2 ⟨c,hc,hz⟩)
 exact(h.ph (h.RJ.mem_iff.1 this)).symm
theorem B2{d:aj}(hw:Wf d){R:List ID}(hr:vj d R):eI d=(R.length:Int):=by
 rw[rM hw,(mF hw (fe hw)).len hw hr]
structure vu(d:aj)(v:ag)(y:ab):Prop where
 w:Wf d
 m:v∈d.1
 r:v.2.1=[y]
theorem vu.mem{d:aj}{v:ag}{y:ab}(h:vu d v y):y∈aq d.1:=br.2 ⟨v,h.m,by rw[h.r];simp⟩
theorem vu.cut{d:aj}{v:ag}{y:ab}(h:vu d v y):bR d y.1:=by
 obtain⟨e,he,h1,_⟩:=eL.1 (h.w.pd.mem_iff.1 h.mem)
 exact⟨h.w,by unfold aU;rw[List.find?_isSome];exact⟨e,he,by simpa using h1⟩⟩
theorem vu.lone{d:aj}{v:ag}{y:ab}(h:vu d v y):∃u,Lone (db d y.1) u∧u.1=v.1:=by
 obtain⟨u,hu,bL⟩:=h.cut.JW.2 ⟨v,h.m,rfl⟩
 refine⟨u,⟨h.cut.w,hu,?_⟩,bL⟩
 cases hq:u.2.1 with
 |nil=>rfl
 |cons z r =>
  exfalso
  have hz:z∈u.2.1:=by rw[hq];simp
  have hzd:z∈aq (db d y.1).1:=br.2 ⟨u,hu,hz⟩
  have h1:cm (db d y.1) z=some u.1:=ji h.cut.w.rw hu hz
  rw[h.cut.at hzd,bL]at h1
  obtain⟨w,hw,Fw,xe⟩:=vl h.w (h.cut.sub hzd)
  rw[xe]at h1
  have hwv:=Le h.w.sv h.m hw (Option.some.inj h1)
  rw[hwv,h.r]at Fw
  have hzy:z=y:=by simpa using Fw
  have nd:=h.cut.p.nodup_iff.1 h.w.rw.n
  have e:y=(y.1,y.2):=rfl
  rcases h.w.side h.mem with k|k
  ·rw[k]at e
   exact(List.nodup_cons.1 nd).1 (List.mem_cons_of_mem _ (e▸hzy▸hzd))
  ·rw[k]at e
   exact(List.nodup_cons.1 (List.nodup_cons.1 nd).2).1 (e▸hzy▸hzd)
theorem vu.back{d:aj}{v:ag}{y:ab}(h:vu d v y):ph d (ao y)=y:=by
 rw[mD (h.w.other h.mem),kY (h.w.side h.mem)]
 have hy:y∈v.2.1:=by rw[h.r];simp
 rw[nV h.w.rw h.m hy]
 exact(DQ (h.w.rw.ring h.m) hy).2 (by rw[h.r];rfl)
theorem vu.one{d:aj}{v:ag}{y:ab}(h:vu d v y):QX d (y.1,0) (y.1,1):=by
 have hm:ao y∈(cO d).flatten:=(bZ h.w).p.mem_iff.2 (h.w.other h.mem)
 obtain⟨c,hc,h1⟩:=List.mem_flatten.1 hm
 have h2:=((bZ h.w).c c hc).step h1
 rw[h.back]at h2
 have e:y=(y.1,y.2):=rfl
 have eo:ao y=(y.1,(ao y).2):=rfl
 obtain⟨_,k⟩:=iD (h.w.side h.mem)
 rcases k with⟨k1,k2⟩|⟨k1,k2⟩
 ·rw[k1]at e;rw[k2]at eo
  exact⟨c,hc,e▸h2,eo▸h1⟩
 ·rw[k1]at e;rw[k2]at eo
  exact⟨c,hc,eo▸h1,e▸h2⟩
theorem vu.cO{d:aj}{v:ag}{y:ab}(h:vu d v y):(Vs.cO (db d y.1)).length≤(Vs.cO d).length:=by
 have h1:=(h.cut.same h.one).2
 have hb:=h.back
 have e:y=(y.1,y.2):=rfl
 have eo:ao y=(y.1,(ao y).2):=rfl
 obtain⟨_,k⟩:=iD (h.w.side h.mem)
 rcases k with⟨k1,k2⟩|⟨k1,k2⟩
 ·rw[k1]at e;rw[k2]at eo
  have:ph d (y.1,1)=(y.1,0):=by rw[←eo,hb];exact e
  rw[if_pos this]at h1
  split at h1<;>omega
 ·rw[k1]at e;rw[k2]at eo
  have:ph d (y.1,0)=(y.1,1):=by rw[←eo,hb];exact e
  rw[if_pos this]at h1
  split at h1<;>omega
theorem vu.parts{d:aj}{v:ag}{y:ab}(h:vu d v y){u:ag}(hu:Lone (db d y.1) u)(bL:u.1=v.1):eI (aS (db d y.1) v.1 zI)=eI d:=by
 obtain⟨a,b,ha,hb,_,_⟩:=h.cut.Lg
 have hr:=mF h.w (fe h.w)
 have Sc:cm d y=some v.1:=ji h.w.rw h.m (by rw[h.r];simp)
 have R5:cm d (ao y)≠some v.1:=fun k=>by
  obtain⟨w,hw,Fw,xe⟩:=vl h.w (h.w.other h.mem)
  rw[xe]at k
  rw[Le h.w.sv h.m hw (Option.some.inj k),h.r]at Fw
  have Fw:ao y=y:=by simpa using Fw
  obtain⟨_,m⟩:=iD (h.w.side h.mem)
  rw[Fw]at m;omega
 have bq:a≠b∧(a=v.1∨b=v.1):=by
  have e:y=(y.1,y.2):=rfl
  have eo:ao y=(y.1,(ao y).2):=rfl
  obtain⟨_,k⟩:=iD (h.w.side h.mem)
  rcases k with⟨k1,k2⟩|⟨k1,k2⟩
  ·rw[k1]at e;rw[k2]at eo
   rw[e,ha]at Sc
   rw[eo,hb]at R5
   have:=Option.some.inj Sc
   exact⟨fun k=>R5 (by rw[←k,this]),.inl this⟩
  ·rw[k1]at e;rw[k2]at eo
   rw[e,hb]at Sc
   rw[eo,ha]at R5
   have:=Option.some.inj Sc
   exact⟨fun k=>R5 (by rw[k,this]),.inr this⟩
 have Cd:¬cJ (db d y.1) a b:=fun k=>by
  rcases bq.2 with m|m
  ·rw[m,←bL]at k
   exact bq.1 (m.trans (bL▸hu.alone k).symm)
  ·rw[m,←bL]at k
   exact bq.1 ((bL▸hu.alone (k.symm h.cut.w):a=v.1).trans m.symm)
 obtain⟨R2,h2,h3⟩:=h.cut.Vb ha hb Cd hr
 obtain⟨R3,h4,h5⟩:=hu.TG h2
 rw[bL]at h4
 have hwf:=hu.wf
 rw[bL]at hwf
 rw[B2 hwf h4,B2 h.w hr]
 omega
theorem Uc{k:Int}{x:ID}(hk:k=1∨k=2∨k=4)(hx:cY x=true):cf (JJ k x)=0:=by
 unfold cf
 have e:u6 (sJ (JJ k x)) UU=true:=by
  rcases hk with rfl|rfl|rfl<;>exact(u7 _ _).2 rfl
 have h1:(JJ k x).1=k:=rfl
 rw[if_neg (by rw[h1];omega),if_neg (by rw[h1];omega),if_neg (by simp[JJ,hx]),if_neg (by rw[e];simp),if_neg (by rw[h1];omega),if_neg (by rw[h1];omega),if_neg (by rw[h1];omega),if_neg (by rw[h1];omega),if_neg (by rw[h1];omega)]
end Go.Vs
namespace Go.Vs
open Go.Proofs
variable {G:(f:FuncId)→(g:aJ)→Option (g.A→Option g.B)}
theorem Vn(hG:HG G)(l:List ba)(hl:l.length≤50000000):FX G 67 Dm ((l,()),())=some ((l,()),()):=by
 refine au (fn:=Tryz.f67) (hG _ _ rfl) (by kernel_rfl) (by kernel_rfl) ((ZV _ _ _).trans ?_)
 cases l with
 |nil=>exact ae rfl (kR (by omega) fun j hj=>by cases j<;>rfl)
 |cons x r=>exact af rfl (ae (fits (by simp at hl ⊢;omega)) rfl)
abbrev NF(h:cS):StateT:=h.1
abbrev l8(h:cS):Int:=h.2.1
abbrev iK(h:cS):List (List ba):=h.2.2.1
def Ip(h:cS):Int:=l8 h+((iK h).length:Nat)
structure CC(m:Nat)(h:cS):Prop where
 b:eU (NF h)
 f0:0≤l8 h
 f1:Ip h≤m
 m1:m≤1000000000
 n:(iK h).length≤64
 r:kM (iK h)
theorem CC.zero:CC 0 (zS,(0,([],()))):=⟨eU.zero,Int.le_refl _,by decide,by decide,Nat.zero_le _,⟨Nat.zero_le _,fun e he=>(by cases he),fun e he=>(by cases he)⟩⟩
theorem LD(hG:HG G){m:Nat}(h:cS)(ho:CC m h):FX G 28 uH ((),(h,()))=some ((Ip h,()),(h,())):=by
 refine au (fn:=Tryz.f28) (hG _ _ rfl) (by kernel_rfl) (by kernel_rfl) ((ZN _ _ _).trans ?_)
 have h1:=ho.f0;have h2:=ho.f1;have h3:=ho.n;have h4:=ho.m1
 have hl:Ip h=l8 h+((iK h).length:Nat):=rfl
 have e:IntKind.wrap .i64 (l8 h+(((iK h).length:Nat):Int))=Ip h:=wrap_small (by omega) (by omega)
 exact congrArg (fun n:Int=>some ((n,()),(h,()))) e
theorem Vo(hG:HG G)(h:cS):FX G 29 AA ((),(h,()))=some ((l8 h,()),(h,())):=au (fn:=Tryz.f29) (hG _ _ rfl) (by kernel_rfl) (by kernel_rfl) (ZO _ _ _)
def B3(h:cS)(e:List ba):(Int×(Int×Unit))×cS :=
 if ck e≠0 then((0,(ck e,())),h) else if 64≤(iK h).length then((0,(20,())),h) else((Ip h+1,(0,())),(NF h,(l8 h,(iK h++[e],()))))
theorem Ud{α:Type}(l:List α):cut l 0 ((l.length:Nat):Int)=l:=by
 unfold cut;rw[show Int.toNat (0:Int)=0 from rfl,List.drop_zero];exact List.take_of_length_le (by omega)
theorem CC.mono{m k:Nat}{h:cS}(ho:CC m h)(hk:m≤k)(h1:k≤1000000000):CC k h:=⟨ho.b,ho.f0,by have:=ho.f1;omega,h1,ho.n,ho.r⟩
theorem CC.add{m:Nat}{h:cS}(ho:CC m h)(hm:m<1000000000){e:List ba}(he:e.length≤1073741824)(hf:∀o∈e,Fit o):CC (m+1) (B3 h e).2:=by
 unfold B3
 split
 ·exact ho.mono (by omega) (by omega)
 split
 ·exact ho.mono (by omega) (by omega)
 ·rename_i h1 h2
  have h3:=ho.f1
  have hl:Ip h=l8 h+((iK h).length:Nat):=rfl
  refine⟨ho.b,ho.f0,?_,by omega,?_,?_,fun p hp=>?_,fun p hp=>?_⟩
  ·show l8 h+(((iK h++[e]).length:Nat):Int)≤_;simp;omega
  ·show(iK h++[e]).length≤64;simp;omega
  ·show(iK h++[e]).length≤_;simp;omega
  ·rcases List.mem_append.1 (show p∈iK h++[e] from hp) with hp|hp
   ·exact ho.r.e p hp
   ·rw[List.mem_singleton.1 hp];exact he
  ·rcases List.mem_append.1 (show p∈iK h++[e] from hp) with hp|hp
   ·exact ho.r.f p hp
   ·rw[List.mem_singleton.1 hp];exact hf
theorem Vp(hG:HG G){m:Nat}(h:cS)(ho:CC m h)(hm:m<1000000000)(e:List ba)(he:e.length≤50000000)(hf:∀o∈e,Fit o):FX G 25 Di ((e,()),(h,()))=some ((B3 h e).1,((B3 h e).2,())):=by
 refine au (fn:=Tryz.f25) (hG _ _ rfl) (by kernel_rfl) (by kernel_rfl) ((ZK _ _ _).trans ?_)
 refine aa (aaQ hG e (by omega) hf) ?_
 have ha:=ho.add hm (e:=e) (by omega) hf
 unfold B3 at ha ⊢
 by_cases h0:ck e=0
 case neg=>rw[if_pos h0];exact ae (show(ck e != 0)=true by simp[h0]) rfl
 rw[if_neg (by simp[h0])]at ha ⊢
 refine af (show(ck e != 0)=false by simp[h0]) ?_
 by_cases h64:64≤(iK h).length
 ·rw[if_pos h64];exact ae (decide_eq_true (show(((iK h).length:Nat):Int)≥64 by omega)) rfl
 rw[if_neg h64]at ha ⊢
 refine af (decide_eq_false (show ¬(((iK h).length:Nat):Int)≥64 by omega)) ?_
 refine ae (dq (show aK (iK h).length 0 (((iK h).length:Nat):Int)=true by simp[aK]) (decide_eq_true rfl)) ?_
 refine aa (Vn hG e he) ?_
 have ec:cut (iK h) 0 (((iK h).length:Nat):Int)=iK h:=Ud _
 refine ae (fits (show(cut (iK h) 0 (((iK h).length:Nat):Int)).length+1≤_ by rw[ec];omega)) ?_
 show Option.bind (FX G 28 uH ((),((NF h,(l8 h,(cut (iK h) 0 (((iK h).length:Nat):Int)++[e],()))),()))) _=_
 rw[ec]
 refine aa (LD hG _ ha) ?_
 have:Ip (NF h,(l8 h,(iK h++[e],())))=Ip h+1:=by
  show l8 h+(((iK h++[e]).length:Nat):Int)=l8 h+(((iK h).length:Nat):Int)+1
  rw[List.length_append];simp only[List.length_cons,List.length_nil];omega
 exact congrArg (fun n:Int=>(some ((n,((0:Int),())),((NF h,(l8 h,(iK h++[e],()))),())):Option ((Int×(Int×Unit))×(cS×Unit)))) this
def hIn(h:cS)(n:Int):Prop:=l8 h≤n∧n≤Ip h
instance (h:cS) (n:Int):Decidable (hIn h n):=by unfold hIn;infer_instance
def X2(h:cS)(n:Int):StateT×(Int×Unit):=if hIn h n then(dd ((iK h).take (n-l8 h).toNat) (NF h),(0,())) else(zS,(26,()))
theorem kM.take{l:List (List ba)}(h:kM l)(n:Nat):kM (l.take n):=h.mem (fun e he=>List.mem_of_mem_take he) (by have:=h.n;simp;omega)
theorem kM.drop{l:List (List ba)}(h:kM l)(n:Nat):kM (l.drop n):=h.mem (fun e he=>List.mem_of_mem_drop he) (by have:=h.n;simp;omega)
theorem Vq(hG:HG G)(xM:∀o,ig G o){m:Nat}(h:cS)(ho:CC m h)(n:Int):FX G 31 AB ((n,()),(h,()))=some (X2 h n,(h,())):=by
 refine au (fn:=Tryz.f31) (hG _ _ rfl) (by kernel_rfl) (by kernel_rfl) ((ZQ _ _ _).trans ?_)
 have h1:=ho.f0;have h2:=ho.f1;have h3:=ho.n;have h4:=ho.m1
 have hl:Ip h=l8 h+((iK h).length:Nat):=rfl
 unfold X2
 by_cases ha:n<l8 h
 ·rw[if_neg (show ¬hIn h n by unfold hIn;omega)];exact ae (decide_eq_true ha) rfl
 refine af (decide_eq_false ha) (aa (LD hG h ho) ?_)
 by_cases hb:n>Ip h
 ·rw[if_neg (show ¬hIn h n by unfold hIn;omega)];exact ae (decide_eq_true hb) rfl
 refine af (decide_eq_false hb) ?_
 rw[if_pos (show hIn h n by unfold hIn;omega)]
 obtain⟨k,hk⟩:∃k:Nat,n=l8 h+k:=⟨(n-l8 h).toNat,by omega⟩
 have ew:IntKind.wrap .i64 (n-l8 h)=(k:Int):=by rw[wrap_small (by omega) (by omega)];omega
 refine ae (show aK (iK h).length 0 (IntKind.wrap .i64 (n-l8 h))=true by rw[ew];simp[aK];omega) ?_
 have ec:cut (iK h) 0 (IntKind.wrap .i64 (n-l8 h))=(iK h).take (n-l8 h).toNat:=by
  rw[ew];unfold cut;rw[show Int.toNat (0:Int)=0 from rfl,List.drop_zero,show(n-l8 h).toNat=k by omega];rfl
 exact aa ((congrArg (fun l:List (List ba)=>FX G 18 Ay ((NF h,l,()),())) ec).trans (Vm hG xM (NF h) _ ho.b (ho.r.take _))) rfl
def xN(h:cS)(n:Int):Int×cS:=if hIn h n then(0,(dd ((iK h).take (n-l8 h).toNat) (NF h),(n,((iK h).drop (n-l8 h).toNat,())))) else(26,h)
theorem CC.comp{m:Nat}{h:cS}(ho:CC m h)(n:Int):CC m (xN h n).2:=by
 unfold xN
 have h1:=ho.f0;have h2:=ho.f1;have h3:=ho.n
 have hl:Ip h=l8 h+((iK h).length:Nat):=rfl
 by_cases hi:hIn h n
 ·rw[if_pos hi]
  unfold hIn at hi
  refine⟨eU.all _ ho.b,by show 0≤n;omega,?_,ho.m1,?_,ho.r.drop _⟩
  ·show n+((((iK h).drop (n-l8 h).toNat).length:Nat):Int)≤m
   rw[List.length_drop];omega
  ·show((iK h).drop (n-l8 h).toNat).length≤64
   rw[List.length_drop];omega
 ·rw[if_neg hi];exact ho
theorem Vr(hG:HG G)(xM:∀o,ig G o){m:Nat}(h:cS)(ho:CC m h)(n:Int):FX G 27 Az ((n,()),(h,()))=some (((xN h n).1,()),((xN h n).2,())):=by
 refine au (fn:=Tryz.f27) (hG _ _ rfl) (by kernel_rfl) (by kernel_rfl) ((ZM _ _ _).trans ?_)
 refine aa (Vq hG xM h ho n) ?_
 have h1:=ho.f0;have h2:=ho.f1;have h3:=ho.n;have h4:=ho.m1
 have hl:Ip h=l8 h+((iK h).length:Nat):=rfl
 unfold X2 xN
 by_cases hi:hIn h n
 case neg=>rw[if_neg hi,if_neg hi];exact af rfl rfl
 rw[if_pos hi,if_pos hi]
 unfold hIn at hi
 refine ae rfl ?_
 obtain⟨k,hk⟩:∃k:Nat,n=l8 h+k:=⟨(n-l8 h).toNat,by omega⟩
 have ew:IntKind.wrap .i64 (n-l8 h)=(k:Int):=by rw[wrap_small (by omega) (by omega)];omega
 refine ae (show aK (iK h).length (IntKind.wrap .i64 (n-l8 h)) (((iK h).length:Nat):Int)=true by rw[ew];simp[aK];omega) ?_
 have ec:cut (iK h) (IntKind.wrap .i64 (n-l8 h)) (((iK h).length:Nat):Int)=(iK h).drop (n-l8 h).toNat:=by
  rw[ew];unfold cut;rw[show(n-l8 h).toNat=k by omega,List.take_of_length_le (by omega)];rfl
 exact congrArg (fun l:List (List ba)=>(some (((0:Int),()),((dd ((iK h).take (n-l8 h).toNat) (NF h),(n,(l,()))),())):Option ((Int×Unit)×(cS×Unit)))) ec
theorem ab5(hG:HG G)(n:Int):FX G 26 G4 ((n,()),())=some (([JJ 1 (1,n)],()),()):=au (fn:=Tryz.f26) (hG _ _ rfl) (by kernel_rfl) (by kernel_rfl) (ZL _ _ _)
theorem Ue{n:Int}(h0:1≤n)(h1:n≤1048576):ck [JJ 1 (1,n)]=0:=by
 have:cf (JJ 1 (1,n))=0:=Uc (.inl rfl) (by unfold cY;exact decide_eq_true ⟨show(1:Int)≤1 by decide,show(1:Int)≤8 by decide,h0,h1⟩)
 unfold ck gS gS
 rw[this];rfl
theorem ab6(hG:HG G)(xM:∀o,ig G o):FX G 23 G3 ((),())=some ((true,()),()):=by
 refine au (fn:=Tryz.f23) (hG _ _ rfl) (by kernel_rfl) (by kernel_rfl) ((ZJ _ _ _).trans ?_)
 refine aa (ab5 hG 1) ?_
 have hf:∀o∈[JJ 1 (1,1)],Fit o:=fun o ho=>by rw[List.mem_singleton.1 ho];exact Ub 1
 have ha:B3 (zS,(0,([],()))) [JJ 1 (1,1)]=((1,(0,())),(zS,(0,([[JJ 1 (1,1)]],())))):=by
  unfold B3
  rw[if_neg (by rw[Ue (by decide) (by decide)];simp),if_neg (by simp[iK])];rfl
 have h1:=Vp hG (zS,(0,([],()))) CC.zero (by decide) [JJ 1 (1,1)] (by simp) hf
 rw[ha]at h1
 refine aa h1 ?_
 have C9:CC 1 (zS,(0,([[JJ 1 (1,1)]],()))):=by have:=CC.zero.add (by decide) (e:=[JJ 1 (1,1)]) (by simp) hf;rwa [ha]at this
 have hc:∃t,xN (zS,(0,([[JJ 1 (1,1)]],()))) 1=(0,(t,(1,([],())))):=⟨_,if_pos (by decide)⟩
 obtain⟨t,hc⟩:=hc
 have h2:=Vr hG xM _ C9 1
 rw[hc]at h2
 refine aa h2 ?_
 refine ae rfl (ae rfl (ae rfl (aa (Vo hG _) (ae rfl ?_))))
 have Wj:=C9.comp 1
 rw[hc]at Wj
 exact aa (LD hG _ Wj) rfl
end Go.Vs
