/- Rows of edits, and histories: what the program computes. -/
import Derived.Test.YtpkfpbpbkabkdaaGreatPartsB
import Derived.Test.YtpkfpbpbkabkdaaGreatFormed
import Derived.Test.YtpkfpbpbkabkdaaGreatTop
import Derived.Test.YtpkfpbpbkabkdaaGreatSplits
import Derived.Test.YtpkfpbpbkabkdaaGreatNormalD
import Derived.Test.YtpkfpbpbkabkdaaGreatEuler
set_option linter.unusedVariables false
set_option linter.unusedSimpArgs false
namespace Go.Vs
open Go.Proofs
variable {G:(f:FuncId)→(g:aK)→Option (g.A→Option g.B)}
theorem Tj{n:Int}(h:J7 (.int .i64) n):IH n:=by
 have h1:IntKind.min .i64 = -9223372036854775808:=by decide
 have h2:IntKind.max .i64=9223372036854775807:=by decide
 have h:IntKind.min .i64≤n∧n≤IntKind.max .i64:=h
 rw[h1,h2]at h
 unfold IH;omega
end Go.Vs
namespace Go.Vs
def vr:List (List bh)→StateT→StateT
 |[],s=>s
 |e::r,s=>vr r (ji s e)
def Ad:List (List bh)→StateT→List Bool
 |[],_=>[]
 |e::r,s=>decide ((dC s e).2.1=0)::Ad r (ji s e)
theorem Qf(s:StateT):ji s []=s:=by
 unfold ji dC du
 simp
theorem fb.all:∀(l:List (List bh)) {s:StateT},fb s→fb (vr l s)
 |[],_,h=>h
 |e::r,_,h=>fb.all r (h.try e)
theorem Bs.all:∀{l:List (List bh)} {n:Nat} {s:StateT},(∀e∈l,e.length≤8)→Bs n s→Bs (n+24*l.length) (vr l s)
 |[],_,_,_,h=>h
 |e::r,n,s,hl,h=>by
  have h1:Bs (n+24) (ji s e):=h.try.mono (by have:=hl e (by simp);omega)
  exact(Bs.all (fun e he=>hl e (by simp[he])) h1).mono (by simp;omega)
theorem FG{l:List ah}{x:ID}:(aM l x).isSome=true↔∃v∈l,v.1=x:=by
 unfold aM;rw[List.find?_isSome];simp
theorem FH{l:List aq}{x:ID}:(aO l x).isSome=true↔∃v∈l,v.1=x:=by
 unfold aO;rw[List.find?_isSome];simp
structure Gr(s t:StateT):Prop where
 v:∀x,(aM s.1.1 x).isSome=true→(aM t.1.1 x).isSome=true
 e:∀x,(aO s.1.2 x).isSome=true→(aO t.1.2 x).isSome=true
 nv:s.1.1.length≤t.1.1.length
 ne:s.1.2.length≤t.1.2.length
theorem Gr.rfl(s:StateT):Gr s s:=⟨fun _ h=>h,fun _ h=>h,Nat.le_refl _,Nat.le_refl _⟩
theorem Gr.trans{a b c:StateT}(h:Gr a b)(k:Gr b c):Gr a c:=⟨fun x p=>k.v x (h.v x p),fun x p=>k.e x (h.e x p),Nat.le_trans h.nv k.nv,Nat.le_trans h.ne k.ne⟩
def named(s:StateT)(o:bh):Prop:=if o.1=1 then(aM s.1.1 (bc o)).isSome=true else(aO s.1.2 (bc o)).isSome=true
theorem named.up{s t:StateT}{o:bh}(h:named s o)(k:Gr s t):named t o:=by
 unfold named at h ⊢
 split
 ·rename_i h1;rw[if_pos h1]at h;exact k.v _ h
 ·rename_i h1;rw[if_neg h1]at h;exact k.e _ h
theorem Jb(d:ak)(c:tn)(x:ab):(b7 d c x).1.length=d.1.length∧(b7 d c x).2=d.2:=⟨eg _ _ _,rfl⟩
theorem NV{s:StateT}{o:bh}(hk:o.1=1∨o.1=3)(h:(oK s o).2.1=0):Gr s (oK s o).1∧named (oK s o).1 o:=by
 unfold oK at h ⊢
 by_cases hm:cz o=0
 case neg=>rw[if_pos hm]at h;exact absurd h hm
 rw[if_neg (by simp[hm])]at h ⊢
 rcases hk with h1|h3
 ·rw[if_pos h1]at h ⊢
  unfold pR at h ⊢
  by_cases h2:(cp s.1 (bc o)).isSome=true
  ·rw[if_pos h2]at h;cases h
  rw[if_neg h2]at h ⊢
  by_cases h4:24≤s.1.1.length
  ·rw[if_pos h4]at h;cases h
  rw[if_neg h4]
  refine⟨⟨fun x hx=>?_,fun x hx=>hx,by show _≤(eZ _ _).length;rw[fD];omega,Nat.le_refl _⟩,?_⟩
  ·rw[FG]at hx ⊢
   obtain⟨v,hv,e⟩:=hx
   exact⟨v,lh.2 (.inr hv),e⟩
  ·unfold named
   rw[if_pos h1,FG]
   exact⟨_,lh.2 (.inl rfl),rfl⟩
 ·have n1:¬o.1=1:=by omega
  have n2:¬o.1=2:=by omega
  rw[if_neg n1,if_neg n2,if_pos h3]at h ⊢
  unfold rB at h ⊢
  split at h
  ·cases h
  rename_i c1
  split at h
  ·cases h
  rename_i c2
  split at h
  ·cases h
  rename_i c3
  split at h
  ·cases h
  rename_i c4
  split at h
  ·cases h
  rename_i c5
  rw[if_neg c1,if_neg c2,if_neg c3,if_neg c4,if_neg c5]
  have l1:(mQ s o).1.length=s.1.1.length:=by unfold mQ;rw[(Jb _ _ _).1,(Jb _ _ _).1]
  have l2:(mQ s o).2=eU (bc o,(e0,0)) s.1.2:=rfl
  refine⟨⟨fun x hx=>?_,fun x hx=>?_,by show _≤(mQ s o).1.length;omega,by show _≤(mQ s o).2.length;rw[l2,jP];omega⟩,?_⟩
  ·exact tS _ (tS _ hx)
  ·show(aO (mQ s o).2 x).isSome=true
   rw[l2]
   rw[FH]at hx ⊢
   obtain⟨v,hv,e⟩:=hx
   exact⟨v,mP.2 (.inr hv),e⟩
  ·unfold named
   rw[if_neg n1]
   show(aO (mQ s o).2 (bc o)).isSome=true
   rw[l2,FH]
   exact⟨_,mP.2 (.inl rfl),rfl⟩
theorem KO{s:StateT}{o:bh}(hk:o.1=1∨o.1=3)(h:named s o):(oK s o).2.1≠0:=by
 unfold oK
 by_cases hm:cz o=0
 case neg=>rw[if_pos hm];exact hm
 rw[if_neg (by simp[hm])]
 unfold named at h
 rcases hk with h1|h3
 ·rw[if_pos h1]at h
  rw[if_pos h1]
  unfold pR
  rw[if_pos (show(cp s.1 (bc o)).isSome=true from h)]
  decide
 ·have n1:¬o.1=1:=by omega
  have n2:¬o.1=2:=by omega
  rw[if_neg n1]at h
  rw[if_neg n1,if_neg n2,if_pos h3]
  unfold rB
  rw[if_pos (show(mO s.1 (bc o)).isSome=true from h)]
  decide
structure Qg(e:List bh):Prop where
 k:∀o∈e,o.1=1∨o.1=3
 n:e≠[]
theorem Dd:∀{e:List bh} {s:StateT},(∀o∈e,o.1=1∨o.1=3)→(EY e s).2.1=0→Gr s (EY e s).1∧∀o∈e,named (EY e s).1 o
 |[],s,_,_=>⟨Gr.rfl s,fun o ho=>by cases ho⟩
 |o::r,s,hk,h=>by
  unfold EY at h ⊢
  by_cases h1:(oK s o).2.1=0
  case neg=>rw[if_pos h1]at h;exact absurd h h1
  rw[if_neg (by simp[h1])]at h ⊢
  obtain⟨g1,n1⟩:=NV (hk o (by simp)) h1
  obtain⟨g2,n2⟩:=Dd (fun o ho=>hk o (by simp[ho])) h
  refine⟨g1.trans g2,fun p hp=>?_⟩
  rcases List.mem_cons.1 hp with rfl|hp
  ·exact n1.up g2
  ·exact n2 p hp
theorem pX{s:StateT}{e:List bh}(h:(dC s e).2.1=0):dC s e=EY e s:=by
 unfold dC at h ⊢
 by_cases hm:du e=0
 ·rw[if_neg (by simp[hm])]
 ·rw[if_pos hm]at h;exact absurd h hm
theorem NW{s:StateT}{e:List bh}(h:(dC s e).2.1=0):ji s e=(dC s e).1:=by unfold ji;rw[if_neg (by simp[h])]
theorem Qh{s:StateT}{e:List bh}(h:(dC s e).2.1≠0):ji s e=s:=by unfold ji;rw[if_pos h]
theorem FI{s:StateT}{e:List bh}(ha:Qg e):Gr s (ji s e):=by
 by_cases h:(dC s e).2.1=0
 ·rw[NW h,pX h]
  rw[pX h]at h
  exact(Dd ha.k h).1
 ·rw[Qh h];exact Gr.rfl s
theorem FJ:∀{l:List (List bh)} {s:StateT},(∀e∈l,Qg e)→Gr s (vr l s)
 |[],s,_=>Gr.rfl s
 |e::r,s,h=>(FI (h e (by simp))).trans (FJ fun e he=>h e (by simp[he]))
theorem FK{s t:StateT}{e:List bh}(ha:Qg e)(h:(dC s e).2.1=0)(hg:Gr (ji s e) t):(dC t e).2.1≠0:=fun h2=>by
 rw[NW h,pX h]at hg
 rw[pX h]at h
 rw[pX h2]at h2
 obtain⟨_,hn⟩:=Dd ha.k h
 cases e with
 |nil=>exact ha.n rfl
 |cons o r =>
  have h3:=KO (ha.k o (by simp)) ((hn o (by simp)).up hg)
  unfold EY at h2
  rw[if_pos h3]at h2
  exact h3 h2
theorem te:∀{l:List (List bh)} {s t:StateT},(∀e∈l,Qg e)→Gr (vr l s) t→∀i:Nat,(Ad l s)[i]? = some true→(Ad l t)[i]? = some true→False
 |[],_,_,_,_,i,h,_=>by simp[Ad]at h
 |e::r,s,t,ha,hg,0,h1,h2=>by
  simp[Ad]at h1 h2
  exact FK (ha e (by simp)) h1 ((FJ fun e he=>ha e (by simp[he])).trans hg) h2
 |e::r,s,t,ha,hg,i+1,h1,h2=>by
  have h1:(Ad r (ji s e))[i]? = some true:=h1
  have h2:(Ad r (ji t e))[i]? = some true:=h2
  exact te (l:=r) (s:=ji s e) (t:=ji t e) (fun e he=>ha e (by simp[he])) (Gr.trans (show Gr (vr r (ji s e)) t from hg) (FI (ha e (by simp)))) i h1 h2
end Go.Vs
namespace Go.Vs
open Go.Proofs
variable {G:(f:FuncId)→(g:aK)→Option (g.A→Option g.B)}
structure m8(l:List (List bh)):Prop where
 n:l.length≤1073741824
 e:∀e∈l,e.length≤1073741824
 f:∀e∈l,∀o∈e,Fit o
theorem m8.mem{l m:List (List bh)}(h:m8 l)(hs:∀e∈m,e∈l)(hn:m.length≤1073741824):m8 m:=⟨hn,fun e he=>h.e e (hs e he),fun e he=>h.f e (hs e he)⟩
theorem Tk(hG:HG G)(Am:∀o,iI G o){l:List (List bh)}(h:m8 l){e:List bh}(he:e∈l)(s:StateT)(hw:fb s):FX G 102 Ec ((s,e,()),())=some ((ji s e,()),()) :=
 Wo hG s e hw (h.e e he) (h.f e he) fun o _=>Am o
theorem Tl(hG:HG G)(Am:∀o,iI G o)(s:StateT)(hw:fb s):FX G 102 Ec ((s,[],()),())=some ((s,()),()):=by
 have:=Wo hG s [] hw (by simp) (by simp) fun o _=>Am o
 rwa [Qf]at this
theorem XB(hG:HG G)(s:StateT)(e:List bh):FX G 61 Ez ((s,e,()),())=some ((),()):=aI (fn:=Tryz.f61) (hG _ _ rfl) (by kernel_rfl) (by kernel_rfl) (VC _ _ _)
theorem NX(hG:HG G)(Am:∀o,iI G o)(l:List (List bh))(h:m8 l):∀(n i:Nat) (s:StateT),i+n=l.length→fb s →
  LX G 62060 jL Tryz.f60 kZ (bY Tryz.prog 60 0) ((l,(((l.length:Nat):Int),((i:Int),()))),((zW,((s,()),())),()))=some ((vr (l.drop i) s,()),()):=by
 intro n
 induction n with
 |zero =>
  intro i s hi hw
  refine aQ (j:=0) (by kernel_rfl) ((yX _ _ _).trans (af (decide_eq_false (show ¬((i:Int)<((l.length:Nat):Int)) by omega)) ?_))
  rw[List.drop_eq_nil_of_le (by omega)];rfl
 |succ n ih =>
  intro i s hi hw
  have aG:i<l.length:=by omega
  have hm:=List.getElem_mem aG
  refine aQ (j:=0) (by kernel_rfl) ((yX _ _ _).trans (ae (cg aG) ?_))
  refine aa (bZ (List.getElem?_eq_getElem aG)) ?_
  refine aa (XB hG s l[i]) (aa (Tk hG Am h hm s hw) ?_)
  rw[bz aG h.n,List.drop_eq_getElem_cons aG,vr]
  exact ih (i+1) _ (by omega) (hw.try l[i])
theorem XC(hG:HG G)(Am:∀o,iI G o)(s:StateT)(l:List (List bh))(hw:fb s)(h:m8 l):FX G 18 Bv ((s,l,()),())=some ((vr l s,()),()):=by
 refine aI (fn:=Tryz.f18) (hG _ _ rfl) (by kernel_rfl) (by kernel_rfl) ((Vu _ _ _).trans ?_)
 have h1:FX G 62060 jL ((s,l,()),())=some ((vr l s,()),()):=by
  refine aI (fn:=Tryz.f60) (hG _ _ rfl) (by kernel_rfl) (by kernel_rfl) ((Mt _ _ _).trans ?_)
  refine aa (Tl hG Am s hw) ?_
  exact NX hG Am l h l.length 0 s (by omega) hw
 exact aa h1 rfl
theorem Jc(n:Int):Fit (Aj 1 (1,n)):=⟨Sx,Sx,Sx,by show e0.size≤_;simp[e0,ByteArray.size]⟩
end Go.Vs
namespace Go.Vs
open Go.Proofs Go.Cy
variable {G:(f:FuncId)→(g:aK)→Option (g.A→Option g.B)}
structure Lone(d:ak)(v:ah):Prop where
 w:Wf d
 m:v∈d.1
 r:v.2.1=[]
theorem Lone.split{d:ak}{v:ah}(h:Lone d v):∃a b,d.1=a++v::b∧(aP d v.1 zI)=(a++b,d.2)∧an (a++b) ⊆ an d.1∧(an d.1).Perm (an (a++b)):=by
 obtain⟨a,b,h1,_,h2,_⟩:=pT h.w.sv h.m
 have p:(an d.1).Perm (an (a++b)):=by
  have:=gZ a b v
  rw[←h1,h.r,List.nil_append]at this;exact this
 exact⟨a,b,h1,by unfold aP;rw[h2,tQ h.w.ge],fun x hx=>p.mem_iff.2 hx,p⟩
theorem Lone.wf{d:ak}{v:ah}(h:Lone d v):Wf (aP d v.1 zI):=h.w.M3 h.m h.r
theorem Lone.mem{d:ak}{v:ah}(h:Lone d v){u:ah}:u∈(aP d v.1 zI).1↔u∈d.1∧u.1≠v.1:=by
 show u∈eE d.1 v.1↔_
 unfold eE
 rw[List.mem_filter];simp
theorem Lone.NY{d:ak}{v:ah}(h:Lone d v):(an (aP d v.1 zI).1).Perm (an d.1):=by
 obtain⟨a,b,_,h2,_,h3⟩:=h.split
 rw[h2];exact h3.symm
theorem Lone.NZ{d:ak}{v:ah}(h:Lone d v){u:ah}{z:ab}(hu:u∈d.1)(hz:z∈u.2.1):u∈(aP d v.1 zI).1:=by
 refine h.mem.2 ⟨hu,fun k=>?_⟩
 rw[IM h.w.sv h.m hu k,h.r]at hz;simp at hz
theorem Lone.at{d:ak}{v:ah}(h:Lone d v){z:ab}(hz:z∈an d.1):fa (aP d v.1 zI) z=fa d z:=by
 obtain⟨u,hu,Hm⟩:=aV.1 hz
 show F2 (aP d v.1 zI).1 z=F2 d.1 z
 rw[iH h.w.rw hu Hm,iH h.wf.rw (h.NZ hu Hm) Hm]
theorem Lone.TN{d:ak}{v:ah}(h:Lone d v){a b:ID}:Fk (aP d v.1 zI) a b↔Fk d a b:=by
 constructor
 ·rintro⟨z,hz,h1,h2⟩
  have hz:=h.NY.mem_iff.1 hz
  exact⟨z,hz,by rw[←h.at hz];exact h1,by rw[←h.at (h.w.other hz)];exact h2⟩
 ·rintro⟨z,hz,h1,h2⟩
  exact⟨z,h.NY.mem_iff.2 hz,by rw[h.at hz];exact h1,by rw[h.at (h.w.other hz)];exact h2⟩
theorem Lone.conn{d:ak}{v:ah}(h:Lone d v){a b:ID}:cx (aP d v.1 zI) a b↔cx d a b:=by
 constructor
 ·intro k
  induction k with
  |refl=>exact .refl _
  |tail _ j ih=>exact ih.tail (h.TN.1 j)
 ·intro k
  induction k with
  |refl=>exact .refl _
  |tail _ j ih=>exact ih.tail (h.TN.2 j)
theorem Lone.alone{d:ak}{v:ah}(h:Lone d v){b:ID}(k:cx d v.1 b):b=v.1:=by
 have key:∀{a b:ID},cx d a b→a=v.1→b=v.1:=fun {a b} k ha=>by
  induction k with
  |refl=>exact ha
  |tail _ j ih =>
   obtain⟨z,hz,h1,_⟩:=j
   obtain⟨u,hu,Hm,vM⟩:=tW h.w hz
   rw[vM,ih]at h1
   have:=Option.some.inj h1
   rw[IM h.w.sv h.m hu this,h.r]at Hm;simp at Hm
 exact key k rfl
theorem Lone.PM{d:ak}{v:ah}(h:Lone d v){R:List ID}(hr:tV d R):∃R2,tV (aP d v.1 zI) R2∧R2.length+1=R.length:=by
 obtain⟨r,Oq,hvr⟩:=hr.c v h.m
 have hv:v.1∈R:=by rw[←h.alone hvr];exact Oq
 refine⟨R.erase v.1,⟨hr.n.erase _,fun s hs=>?_,fun s hs t ht k=>hr.i s (List.mem_of_mem_erase hs) t (List.mem_of_mem_erase ht) (h.conn.1 k),fun u hu=>?_⟩,?_⟩
 ·obtain⟨u,hu,he⟩:=hr.v s (List.mem_of_mem_erase hs)
  refine⟨u,h.mem.2 ⟨hu,fun k=>?_⟩,he⟩
  have:s=v.1:=he.symm.trans k
  subst this
  exact absurd hs (List.Nodup.not_mem_erase hr.n)
 ·obtain⟨hu1,hu2⟩:=h.mem.1 hu
  obtain⟨s,hs,OH⟩:=hr.c u hu1
  refine⟨s,(List.mem_erase_of_ne fun k=>?_).2 hs,h.conn.2 OH⟩
  subst k
  exact hu2 (h.alone (OH.symm h.w))
 ·rw[List.length_erase_of_mem hv]
  have:=List.length_pos_of_mem hv;omega
theorem Lone.ph{d:ak}{v:ah}(h:Lone d v){z:ab}(hz:z∈an d.1):ph (aP d v.1 zI) z=ph d z:=by
 rw[lR hz,lR (h.NY.mem_iff.2 hz)]
 obtain⟨u,hu,Hm⟩:=aV.1 (h.w.other hz)
 rw[mX h.w.rw hu Hm,mX h.wf.rw (h.NZ hu Hm) Hm]
theorem Lone.cQ{d:ak}{v:ah}(h:Lone d v):(Vs.cQ (aP d v.1 zI)).length=(Vs.cQ d).length:=by
 have a:=bO h.wf
 have b:=bO h.w
 refine Dl.count h.w.rw.n ⟨fun c hc=>?_,a.p.trans h.NY⟩ b
 refine(a.c c hc).congr fun z hz=>?_
 have:z∈an (aP d v.1 zI).1:=a.p.mem_iff.1 (List.mem_flatten.2 ⟨c,hc,hz⟩)
 exact(h.ph (h.NY.mem_iff.1 this)).symm
theorem Ae{d:ak}(hw:Wf d){R:List ID}(hr:tV d R):fS d=(R.length:Int):=by
 rw[qJ hw,(lT hw (ep hw)).len hw hr]
structure uc(d:ak)(v:ah)(y:ab):Prop where
 w:Wf d
 m:v∈d.1
 r:v.2.1=[y]
theorem uc.mem{d:ak}{v:ah}{y:ab}(h:uc d v y):y∈an d.1:=aV.2 ⟨v,h.m,by rw[h.r];simp⟩
theorem uc.cut{d:ak}{v:ah}{y:ab}(h:uc d v y):bF d y.1:=by
 obtain⟨e,he,h1,_⟩:=dP.1 (h.w.pd.mem_iff.1 h.mem)
 exact⟨h.w,by unfold aO;rw[List.find?_isSome];exact⟨e,he,by simpa using h1⟩⟩
theorem uc.lone{d:ak}{v:ah}{y:ab}(h:uc d v y):∃u,Lone (cT d y.1) u∧u.1=v.1:=by
 obtain⟨u,hu,bw⟩:=h.cut.Hq.2 ⟨v,h.m,rfl⟩
 refine⟨u,⟨h.cut.w,hu,?_⟩,bw⟩
 cases hq:u.2.1 with
 |nil=>rfl
 |cons z r =>
  exfalso
  have hz:z∈u.2.1:=by rw[hq];simp
  have Ws:z∈an (cT d y.1).1:=aV.2 ⟨u,hu,hz⟩
  have h1:fa (cT d y.1) z=some u.1:=iH h.cut.w.rw hu hz
  rw[h.cut.at Ws,bw]at h1
  obtain⟨w,hw,Dm,vM⟩:=tW h.w (h.cut.sub Ws)
  rw[vM]at h1
  have hwv:=IM h.w.sv h.m hw (Option.some.inj h1)
  rw[hwv,h.r]at Dm
  have hzy:z=y:=by simpa using Dm
  have nd:=h.cut.p.nodup_iff.1 h.w.rw.n
  have e:y=(y.1,y.2):=rfl
  rcases h.w.side h.mem with k|k
  ·rw[k]at e
   exact(List.nodup_cons.1 nd).1 (List.mem_cons_of_mem _ (e▸hzy▸Ws))
  ·rw[k]at e
   exact(List.nodup_cons.1 (List.nodup_cons.1 nd).2).1 (e▸hzy▸Ws)
theorem uc.back{d:ak}{v:ah}{y:ab}(h:uc d v y):ph d (ao y)=y:=by
 rw[lR (h.w.other h.mem),kl (h.w.side h.mem)]
 have hy:y∈v.2.1:=by rw[h.r];simp
 rw[mX h.w.rw h.m hy]
 exact(BW (h.w.rw.ring h.m) hy).2 (by rw[h.r];rfl)
theorem uc.one{d:ak}{v:ah}{y:ab}(h:uc d v y):Nl d (y.1,0) (y.1,1):=by
 have hm:ao y∈(cQ d).flatten:=(bO h.w).p.mem_iff.2 (h.w.other h.mem)
 obtain⟨c,hc,h1⟩:=List.mem_flatten.1 hm
 have h2:=((bO h.w).c c hc).step h1
 rw[h.back]at h2
 have e:y=(y.1,y.2):=rfl
 have eo:ao y=(y.1,(ao y).2):=rfl
 obtain⟨_,k⟩:=g8 (h.w.side h.mem)
 rcases k with⟨k1,k2⟩|⟨k1,k2⟩
 ·rw[k1]at e;rw[k2]at eo
  exact⟨c,hc,e▸h2,eo▸h1⟩
 ·rw[k1]at e;rw[k2]at eo
  exact⟨c,hc,eo▸h1,e▸h2⟩
theorem uc.cQ{d:ak}{v:ah}{y:ab}(h:uc d v y):(Vs.cQ (cT d y.1)).length≤(Vs.cQ d).length:=by
 have h1:=(h.cut.same h.one).2
 have hb:=h.back
 have e:y=(y.1,y.2):=rfl
 have eo:ao y=(y.1,(ao y).2):=rfl
 obtain⟨_,k⟩:=g8 (h.w.side h.mem)
 rcases k with⟨k1,k2⟩|⟨k1,k2⟩
 ·rw[k1]at e;rw[k2]at eo
  have:ph d (y.1,1)=(y.1,0):=by rw[←eo,hb];exact e
  rw[if_pos this]at h1
  split at h1<;>omega
 ·rw[k1]at e;rw[k2]at eo
  have:ph d (y.1,0)=(y.1,1):=by rw[←eo,hb];exact e
  rw[if_pos this]at h1
  split at h1<;>omega
theorem uc.parts{d:ak}{v:ah}{y:ab}(h:uc d v y){u:ah}(hu:Lone (cT d y.1) u)(bw:u.1=v.1):fS (aP (cT d y.1) v.1 zI)=fS d:=by
 obtain⟨a,b,ha,hb,_,_⟩:=h.cut.IP
 have hr:=lT h.w (ep h.w)
 have On:fa d y=some v.1:=iH h.w.rw h.m (by rw[h.r];simp)
 have Oa:fa d (ao y)≠some v.1:=fun k=>by
  obtain⟨w,hw,Dm,vM⟩:=tW h.w (h.w.other h.mem)
  rw[vM]at k
  rw[IM h.w.sv h.m hw (Option.some.inj k),h.r]at Dm
  have Dm:ao y=y:=by simpa using Dm
  obtain⟨_,m⟩:=g8 (h.w.side h.mem)
  rw[Dm]at m;omega
 have aU:a≠b∧(a=v.1∨b=v.1):=by
  have e:y=(y.1,y.2):=rfl
  have eo:ao y=(y.1,(ao y).2):=rfl
  obtain⟨_,k⟩:=g8 (h.w.side h.mem)
  rcases k with⟨k1,k2⟩|⟨k1,k2⟩
  ·rw[k1]at e;rw[k2]at eo
   rw[e,ha]at On
   rw[eo,hb]at Oa
   have:=Option.some.inj On
   exact⟨fun k=>Oa (by rw[←k,this]),.inl this⟩
  ·rw[k1]at e;rw[k2]at eo
   rw[e,hb]at On
   rw[eo,ha]at Oa
   have:=Option.some.inj On
   exact⟨fun k=>Oa (by rw[k,this]),.inr this⟩
 have Ar:¬cx (cT d y.1) a b:=fun k=>by
  rcases aU.2 with m|m
  ·rw[m,←bw]at k
   exact aU.1 (m.trans (bw▸hu.alone k).symm)
  ·rw[m,←bw]at k
   exact aU.1 ((bw▸hu.alone (k.symm h.cut.w):a=v.1).trans m.symm)
 obtain⟨R2,h2,h3⟩:=h.cut.Q7 ha hb Ar hr
 obtain⟨R3,h4,h5⟩:=hu.PM h2
 rw[bw]at h4
 have Ya:=hu.wf
 rw[bw]at Ya
 rw[Ae Ya h4,Ae h.w hr]
 omega
theorem Qi{k:Int}{x:ID}(hk:k=1∨k=2∨k=4)(hx:dF x=true):cz (Aj k x)=0:=by
 unfold cz
 have e:zg (BB (Aj k x)) TH=true:=by
  rcases hk with rfl|rfl|rfl<;>exact(zh _ _).2 rfl
 have h1:(Aj k x).1=k:=rfl
 rw[if_neg (by rw[h1];omega),if_neg (by rw[h1];omega),if_neg (by simp[Aj,hx]),if_neg (by rw[e];simp),if_neg (by rw[h1];omega),if_neg (by rw[h1];omega),if_neg (by rw[h1];omega),if_neg (by rw[h1];omega),if_neg (by rw[h1];omega)]
end Go.Vs
namespace Go.Vs
open Go.Proofs
variable {G:(f:FuncId)→(g:aK)→Option (g.A→Option g.B)}
theorem XD(hG:HG G)(l:List bh)(hl:l.length≤50000000):FX G 67 EA ((l,()),())=some ((l,()),()):=by
 refine aI (fn:=Tryz.f67) (hG _ _ rfl) (by kernel_rfl) (by kernel_rfl) ((VD _ _ _).trans ?_)
 cases l with
 |nil=>exact ae rfl (kf (by omega) fun j hj=>by cases j<;>rfl)
 |cons x r=>exact af rfl (ae (fits (by simp at hl ⊢;omega)) rfl)
abbrev Ou(h:bJ):StateT:=h.1
abbrev j5(h:bJ):Int:=h.2.1
abbrev hZ(h:bJ):List (List bh):=h.2.2.1
def ue(h:bJ):Int:=j5 h+((hZ h).length:Nat)
structure Ao(m:Nat)(h:bJ):Prop where
 b:fb (Ou h)
 f0:0≤j5 h
 f1:ue h≤m
 m1:m≤1000000000
 n:(hZ h).length≤64
 r:m8 (hZ h)
theorem Ao.zero:Ao 0 (zS,(0,([],()))):=⟨fb.zero,Int.le_refl _,by decide,by decide,Nat.zero_le _,⟨Nat.zero_le _,fun e he=>(by cases he),fun e he=>(by cases he)⟩⟩
theorem B6(hG:HG G){m:Nat}(h:bJ)(ho:Ao m h):FX G 28 rr ((),(h,()))=some ((ue h,()),(h,())):=by
 refine aI (fn:=Tryz.f28) (hG _ _ rfl) (by kernel_rfl) (by kernel_rfl) ((Vz _ _ _).trans ?_)
 have h1:=ho.f0;have h2:=ho.f1;have h3:=ho.n;have h4:=ho.m1
 have hl:ue h=j5 h+((hZ h).length:Nat):=rfl
 have e:IntKind.wrap .i64 (j5 h+(((hZ h).length:Nat):Int))=ue h:=wrap_small (by omega) (by omega)
 exact congrArg (fun n:Int=>some ((n,()),(h,()))) e
theorem Jd(hG:HG G)(h:bJ):FX G 29 wa ((),(h,()))=some ((j5 h,()),(h,())):=aI (fn:=Tryz.f29) (hG _ _ rfl) (by kernel_rfl) (by kernel_rfl) (VA _ _ _)
def vt(h:bJ)(e:List bh):(Int×(Int×Unit))×bJ :=
 if du e≠0 then((0,(du e,())),h) else if 64≤(hZ h).length then((0,(20,())),h) else((ue h+1,(0,())),(Ou h,(j5 h,(hZ h++[e],()))))
theorem Qj{α:Type}(l:List α):cut l 0 ((l.length:Nat):Int)=l:=by
 unfold cut;rw[show Int.toNat (0:Int)=0 from rfl,List.drop_zero];exact List.take_of_length_le (by omega)
theorem Ao.mono{m k:Nat}{h:bJ}(ho:Ao m h)(hk:m≤k)(h1:k≤1000000000):Ao k h:=⟨ho.b,ho.f0,by have:=ho.f1;omega,h1,ho.n,ho.r⟩
theorem Ao.add{m:Nat}{h:bJ}(ho:Ao m h)(hm:m<1000000000){e:List bh}(he:e.length≤1073741824)(hf:∀o∈e,Fit o):Ao (m+1) (vt h e).2:=by
 unfold vt
 split
 ·exact ho.mono (by omega) (by omega)
 split
 ·exact ho.mono (by omega) (by omega)
 ·rename_i h1 h2
  have h3:=ho.f1
  have hl:ue h=j5 h+((hZ h).length:Nat):=rfl
  refine⟨ho.b,ho.f0,?_,by omega,?_,?_,fun p hp=>?_,fun p hp=>?_⟩
  ·show j5 h+(((hZ h++[e]).length:Nat):Int)≤_;simp;omega
  ·show(hZ h++[e]).length≤64;simp;omega
  ·show(hZ h++[e]).length≤_;simp;omega
  ·rcases List.mem_append.1 (show p∈hZ h++[e] from hp) with hp|hp
   ·exact ho.r.e p hp
   ·rw[List.mem_singleton.1 hp];exact he
  ·rcases List.mem_append.1 (show p∈hZ h++[e] from hp) with hp|hp
   ·exact ho.r.f p hp
   ·rw[List.mem_singleton.1 hp];exact hf
theorem Ri(hG:HG G){m:Nat}(h:bJ)(ho:Ao m h)(hm:m<1000000000)(e:List bh)(he:e.length≤50000000)(hf:∀o∈e,Fit o):FX G 25 pM ((e,()),(h,()))=some ((vt h e).1,((vt h e).2,())):=by
 refine aI (fn:=Tryz.f25) (hG _ _ rfl) (by kernel_rfl) (by kernel_rfl) ((Vw _ _ _).trans ?_)
 refine aa (Wa hG e (by omega) hf) ?_
 have ha:=ho.add hm (e:=e) (by omega) hf
 unfold vt at ha ⊢
 by_cases h0:du e=0
 case neg=>rw[if_pos h0];exact ae (show(du e != 0)=true by simp[h0]) rfl
 rw[if_neg (by simp[h0])]at ha ⊢
 refine af (show(du e != 0)=false by simp[h0]) ?_
 by_cases h64:64≤(hZ h).length
 ·rw[if_pos h64];exact ae (decide_eq_true (show(((hZ h).length:Nat):Int)≥64 by omega)) rfl
 rw[if_neg h64]at ha ⊢
 refine af (decide_eq_false (show ¬(((hZ h).length:Nat):Int)≥64 by omega)) ?_
 refine ae (eV (show aN (hZ h).length 0 (((hZ h).length:Nat):Int)=true by simp[aN]) (decide_eq_true rfl)) ?_
 refine aa (XD hG e he) ?_
 have ec:cut (hZ h) 0 (((hZ h).length:Nat):Int)=hZ h:=Qj _
 refine ae (fits (show(cut (hZ h) 0 (((hZ h).length:Nat):Int)).length+1≤_ by rw[ec];omega)) ?_
 show Option.bind (FX G 28 rr ((),((Ou h,(j5 h,(cut (hZ h) 0 (((hZ h).length:Nat):Int)++[e],()))),()))) _=_
 rw[ec]
 refine aa (B6 hG _ ha) ?_
 have:ue (Ou h,(j5 h,(hZ h++[e],())))=ue h+1:=by
  show j5 h+(((hZ h++[e]).length:Nat):Int)=j5 h+(((hZ h).length:Nat):Int)+1
  rw[List.length_append];simp only[List.length_cons,List.length_nil];omega
 exact congrArg (fun n:Int=>(some ((n,((0:Int),())),((Ou h,(j5 h,(hZ h++[e],()))),())):Option ((Int×(Int×Unit))×(bJ×Unit)))) this
def hIn(h:bJ)(n:Int):Prop:=j5 h≤n∧n≤ue h
instance (h:bJ) (n:Int):Decidable (hIn h n):=by unfold hIn;infer_instance
def atH(h:bJ)(n:Int):StateT×(Int×Unit):=if hIn h n then(vr ((hZ h).take (n-j5 h).toNat) (Ou h),(0,())) else(zS,(26,()))
theorem m8.take{l:List (List bh)}(h:m8 l)(n:Nat):m8 (l.take n):=h.mem (fun e he=>List.mem_of_mem_take he) (by have:=h.n;simp;omega)
theorem m8.drop{l:List (List bh)}(h:m8 l)(n:Nat):m8 (l.drop n):=h.mem (fun e he=>List.mem_of_mem_drop he) (by have:=h.n;simp;omega)
theorem XE(hG:HG G)(Am:∀o,iI G o){m:Nat}(h:bJ)(ho:Ao m h)(n:Int):FX G 31 Ey ((n,()),(h,()))=some (atH h n,(h,())):=by
 refine aI (fn:=Tryz.f31) (hG _ _ rfl) (by kernel_rfl) (by kernel_rfl) ((VB _ _ _).trans ?_)
 have h1:=ho.f0;have h2:=ho.f1;have h3:=ho.n;have h4:=ho.m1
 have hl:ue h=j5 h+((hZ h).length:Nat):=rfl
 unfold atH
 by_cases ha:n<j5 h
 ·rw[if_neg (show ¬hIn h n by unfold hIn;omega)];exact ae (decide_eq_true ha) rfl
 refine af (decide_eq_false ha) (aa (B6 hG h ho) ?_)
 by_cases hb:n>ue h
 ·rw[if_neg (show ¬hIn h n by unfold hIn;omega)];exact ae (decide_eq_true hb) rfl
 refine af (decide_eq_false hb) ?_
 rw[if_pos (show hIn h n by unfold hIn;omega)]
 obtain⟨k,hk⟩:∃k:Nat,n=j5 h+k:=⟨(n-j5 h).toNat,by omega⟩
 have ew:IntKind.wrap .i64 (n-j5 h)=(k:Int):=by rw[wrap_small (by omega) (by omega)];omega
 refine ae (show aN (hZ h).length 0 (IntKind.wrap .i64 (n-j5 h))=true by rw[ew];simp[aN];omega) ?_
 have ec:cut (hZ h) 0 (IntKind.wrap .i64 (n-j5 h))=(hZ h).take (n-j5 h).toNat:=by
  rw[ew];unfold cut;rw[show Int.toNat (0:Int)=0 from rfl,List.drop_zero,show(n-j5 h).toNat=k by omega];rfl
 exact aa ((congrArg (fun l:List (List bh)=>FX G 18 Bv ((Ou h,l,()),())) ec).trans (XC hG Am (Ou h) _ ho.b (ho.r.take _))) rfl
def lp(h:bJ)(n:Int):Int×bJ:=if hIn h n then(0,(vr ((hZ h).take (n-j5 h).toNat) (Ou h),(n,((hZ h).drop (n-j5 h).toNat,())))) else(26,h)
theorem Ao.comp{m:Nat}{h:bJ}(ho:Ao m h)(n:Int):Ao m (lp h n).2:=by
 unfold lp
 have h1:=ho.f0;have h2:=ho.f1;have h3:=ho.n
 have hl:ue h=j5 h+((hZ h).length:Nat):=rfl
 by_cases hi:hIn h n
 ·rw[if_pos hi]
  unfold hIn at hi
  refine⟨fb.all _ ho.b,by show 0≤n;omega,?_,ho.m1,?_,ho.r.drop _⟩
  ·show n+((((hZ h).drop (n-j5 h).toNat).length:Nat):Int)≤m
   rw[List.length_drop];omega
  ·show((hZ h).drop (n-j5 h).toNat).length≤64
   rw[List.length_drop];omega
 ·rw[if_neg hi];exact ho
theorem Rj(hG:HG G)(Am:∀o,iI G o){m:Nat}(h:bJ)(ho:Ao m h)(n:Int):FX G 27 Bw ((n,()),(h,()))=some (((lp h n).1,()),((lp h n).2,())):=by
 refine aI (fn:=Tryz.f27) (hG _ _ rfl) (by kernel_rfl) (by kernel_rfl) ((Vy _ _ _).trans ?_)
 refine aa (XE hG Am h ho n) ?_
 have h1:=ho.f0;have h2:=ho.f1;have h3:=ho.n;have h4:=ho.m1
 have hl:ue h=j5 h+((hZ h).length:Nat):=rfl
 unfold atH lp
 by_cases hi:hIn h n
 case neg=>rw[if_neg hi,if_neg hi];exact af rfl rfl
 rw[if_pos hi,if_pos hi]
 unfold hIn at hi
 refine ae rfl ?_
 obtain⟨k,hk⟩:∃k:Nat,n=j5 h+k:=⟨(n-j5 h).toNat,by omega⟩
 have ew:IntKind.wrap .i64 (n-j5 h)=(k:Int):=by rw[wrap_small (by omega) (by omega)];omega
 refine ae (show aN (hZ h).length (IntKind.wrap .i64 (n-j5 h)) (((hZ h).length:Nat):Int)=true by rw[ew];simp[aN];omega) ?_
 have ec:cut (hZ h) (IntKind.wrap .i64 (n-j5 h)) (((hZ h).length:Nat):Int)=(hZ h).drop (n-j5 h).toNat:=by
  rw[ew];unfold cut;rw[show(n-j5 h).toNat=k by omega,List.take_of_length_le (by omega)];rfl
 exact congrArg (fun l:List (List bh)=>(some (((0:Int),()),((vr ((hZ h).take (n-j5 h).toNat) (Ou h),(n,(l,()))),())):Option ((Int×Unit)×(bJ×Unit)))) ec
theorem FL(hG:HG G)(n:Int):FX G 26 tw ((n,()),())=some (([Aj 1 (1,n)],()),()):=aI (fn:=Tryz.f26) (hG _ _ rfl) (by kernel_rfl) (by kernel_rfl) (Vx _ _ _)
theorem Je{n:Int}(h0:1≤n)(h1:n≤1048576):du [Aj 1 (1,n)]=0:=by
 have:cz (Aj 1 (1,n))=0:=Qi (.inl rfl) (by unfold dF;exact decide_eq_true ⟨show(1:Int)≤1 by decide,show(1:Int)≤8 by decide,h0,h1⟩)
 unfold du jO jO
 rw[this];rfl
theorem XF(hG:HG G)(Am:∀o,iI G o):FX G 23 Ex ((),())=some ((true,()),()):=by
 refine aI (fn:=Tryz.f23) (hG _ _ rfl) (by kernel_rfl) (by kernel_rfl) ((Vv _ _ _).trans ?_)
 refine aa (FL hG 1) ?_
 have hf:∀o∈[Aj 1 (1,1)],Fit o:=fun o ho=>by rw[List.mem_singleton.1 ho];exact Jc 1
 have ha:vt (zS,(0,([],()))) [Aj 1 (1,1)]=((1,(0,())),(zS,(0,([[Aj 1 (1,1)]],())))):=by
  unfold vt
  rw[if_neg (by rw[Je (by decide) (by decide)];simp),if_neg (by simp[hZ])];rfl
 have h1:=Ri hG (zS,(0,([],()))) Ao.zero (by decide) [Aj 1 (1,1)] (by simp) hf
 rw[ha]at h1
 refine aa h1 ?_
 have Ic:Ao 1 (zS,(0,([[Aj 1 (1,1)]],()))):=by have:=Ao.zero.add (by decide) (e:=[Aj 1 (1,1)]) (by simp) hf;rwa [ha]at this
 have hc:∃t,lp (zS,(0,([[Aj 1 (1,1)]],()))) 1=(0,(t,(1,([],())))):=⟨_,if_pos (by decide)⟩
 obtain⟨t,hc⟩:=hc
 have h2:=Rj hG Am _ Ic 1
 rw[hc]at h2
 refine aa h2 ?_
 refine ae rfl (ae rfl (ae rfl (aa (Jd hG _) (ae rfl ?_))))
 have R8:=Ic.comp 1
 rw[hc]at R8
 exact aa (B6 hG _ R8) rfl
end Go.Vs
