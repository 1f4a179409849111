/- FoldSkips answers true, of data. -/
import Derived.Test.YtpkfpbpbkabkdaaGreatPartsB
import Derived.Test.YtpkfpbpbkabkdaaGreatFormed
import Derived.Test.YtpkfpbpbkabkdaaGreatTop
import Derived.Test.YtpkfpbpbkabkdaaGreatSplits
import Derived.Test.YtpkfpbpbkabkdaaGreatNormalD
set_option linter.unusedVariables false
set_option linter.unusedSimpArgs false
namespace Go.Vs
open Go.Proofs
variable {G:(f:FuncId)→(g:aL)→Option (g.A→Option g.B)}
theorem HK{n:Int}(h:JY (.int .i64) n):J8 n:=by
 have h1:IntKind.min .i64 = -9223372036854775808:=by decide
 have h2:IntKind.max .i64=9223372036854775807:=by decide
 have h:IntKind.min .i64≤n∧n≤IntKind.max .i64:=h
 rw[h1,h2]at h
 unfold J8;omega
theorem SZ{o:aO}(h:JY Bk o)(ht:GY o):Fit o:=by
 obtain⟨_,_,_,_,⟨_,_,h1⟩,⟨_,_,h2⟩,_,_,h3⟩:=h
 exact⟨HK h1,HK h2,HK h3,ht⟩
end Go.Vs
namespace Go.Vs
def gM:List (List aO)→StateT→StateT
 |[],s=>s
 |e::r,s=>gM r (ji s e)
def iI:List (List aO)→StateT→List Bool
 |[],_=>[]
 |e::r,s=>decide ((cy s e).2.1=0)::iI r (ji s e)
theorem ou:∀(l:List (List aO)) (s:StateT),(iI l s).length=l.length
 |[],_=>rfl
 |e::r,s=>by unfold iI;simp[ou r]
theorem P9(s:StateT):ji s []=s:=by
 unfold ji cy iD
 simp
theorem ed.all:∀(l:List (List aO)) {s:StateT},ed s→ed (gM l s)
 |[],_,h=>h
 |e::r,_,h=>ed.all r (h.try e)
theorem Bs.all:∀{l:List (List aO)} {n:Nat} {s:StateT},(∀e∈l,e.length≤8)→Bs n s→Bs (n+24*l.length) (gM l s)
 |[],_,_,_,h=>h
 |e::r,n,s,hl,h=>by
  have h1:Bs (n+24) (ji s e):=h.try.mono (by have:=hl e (by simp);omega)
  exact(Bs.all (fun e he=>hl e (by simp[he])) h1).mono (by simp;omega)
theorem Fz{l:List aj}{x:ID}:(aN l x).isSome=true↔∃v∈l,v.1=x:=by
 unfold aN;rw[List.find?_isSome];simp
theorem FA{l:List an}{x:ID}:(aQ l x).isSome=true↔∃v∈l,v.1=x:=by
 unfold aQ;rw[List.find?_isSome];simp
structure Gr(s t:StateT):Prop where
 v:∀x,(aN s.1.1 x).isSome=true→(aN t.1.1 x).isSome=true
 e:∀x,(aQ s.1.2 x).isSome=true→(aQ t.1.2 x).isSome=true
 nv:s.1.1.length≤t.1.1.length
 ne:s.1.2.length≤t.1.2.length
theorem Gr.rfl(s:StateT):Gr s s:=⟨fun _ h=>h,fun _ h=>h,Nat.le_refl _,Nat.le_refl _⟩
theorem Gr.trans{a b c:StateT}(h:Gr a b)(k:Gr b c):Gr a c:=⟨fun x p=>k.v x (h.v x p),fun x p=>k.e x (h.e x p),Nat.le_trans h.nv k.nv,Nat.le_trans h.ne k.ne⟩
def named(s:StateT)(o:aO):Prop:=if o.1=1 then(aN s.1.1 (ba o)).isSome=true else(aQ s.1.2 (ba o)).isSome=true
theorem named.up{s t:StateT}{o:aO}(h:named s o)(k:Gr s t):named t o:=by
 unfold named at h ⊢
 split
 ·rename_i h1;rw[if_pos h1]at h;exact k.v _ h
 ·rename_i h1;rw[if_neg h1]at h;exact k.e _ h
theorem I5(d:ak)(c:tq)(x:ab):(b6 d c x).1.length=d.1.length∧(b6 d c x).2=d.2:=⟨dZ _ _ _,rfl⟩
theorem NT{s:StateT}{o:aO}(hk:o.1=1∨o.1=3)(h:(oO s o).2.1=0):Gr s (oO s o).1∧named (oO s o).1 o:=by
 unfold oO at h ⊢
 by_cases hm:cO o=0
 case neg=>rw[if_pos hm]at h;exact absurd h hm
 rw[if_neg (by simp[hm])]at h ⊢
 rcases hk with h1|h3
 ·rw[if_pos h1]at h ⊢
  unfold pT at h ⊢
  by_cases h2:(ck s.1 (ba o)).isSome=true
  ·rw[if_pos h2]at h;cases h
  rw[if_neg h2]at h ⊢
  by_cases h4:24≤s.1.1.length
  ·rw[if_pos h4]at h;cases h
  rw[if_neg h4]
  refine⟨⟨fun x hx=>?_,fun x hx=>hx,by show _≤(eX _ _).length;rw[fz];omega,Nat.le_refl _⟩,?_⟩
  ·rw[Fz]at hx ⊢
   obtain⟨v,hv,e⟩:=hx
   exact⟨v,lf.2 (.inr hv),e⟩
  ·unfold named
   rw[if_pos h1,Fz]
   exact⟨_,lf.2 (.inl rfl),rfl⟩
 ·have n1:¬o.1=1:=by omega
  have n2:¬o.1=2:=by omega
  rw[if_neg n1,if_neg n2,if_pos h3]at h ⊢
  unfold rB at h ⊢
  split at h
  ·cases h
  rename_i c1
  split at h
  ·cases h
  rename_i c2
  split at h
  ·cases h
  rename_i c3
  split at h
  ·cases h
  rename_i c4
  split at h
  ·cases h
  rename_i c5
  rw[if_neg c1,if_neg c2,if_neg c3,if_neg c4,if_neg c5]
  have l1:(mR s o).1.length=s.1.1.length:=by unfold mR;rw[(I5 _ _ _).1,(I5 _ _ _).1]
  have l2:(mR s o).2=eR (ba o,(e0,0)) s.1.2:=rfl
  refine⟨⟨fun x hx=>?_,fun x hx=>?_,by show _≤(mR s o).1.length;omega,by show _≤(mR s o).2.length;rw[l2,jQ];omega⟩,?_⟩
  ·exact tS _ (tS _ hx)
  ·show(aQ (mR s o).2 x).isSome=true
   rw[l2]
   rw[FA]at hx ⊢
   obtain⟨v,hv,e⟩:=hx
   exact⟨v,mQ.2 (.inr hv),e⟩
  ·unfold named
   rw[if_neg n1]
   show(aQ (mR s o).2 (ba o)).isSome=true
   rw[l2,FA]
   exact⟨_,mQ.2 (.inl rfl),rfl⟩
theorem KI{s:StateT}{o:aO}(hk:o.1=1∨o.1=3)(h:named s o):(oO s o).2.1≠0:=by
 unfold oO
 by_cases hm:cO o=0
 case neg=>rw[if_pos hm];exact hm
 rw[if_neg (by simp[hm])]
 unfold named at h
 rcases hk with h1|h3
 ·rw[if_pos h1]at h
  rw[if_pos h1]
  unfold pT
  rw[if_pos (show(ck s.1 (ba o)).isSome=true from h)]
  decide
 ·have n1:¬o.1=1:=by omega
  have n2:¬o.1=2:=by omega
  rw[if_neg n1]at h
  rw[if_neg n1,if_neg n2,if_pos h3]
  unfold rB
  rw[if_pos (show(mO s.1 (ba o)).isSome=true from h)]
  decide
structure HL(e:List aO):Prop where
 k:∀o∈e,o.1=1∨o.1=3
 n:e≠[]
theorem Da:∀{e:List aO} {s:StateT},(∀o∈e,o.1=1∨o.1=3)→(ER e s).2.1=0→Gr s (ER e s).1∧∀o∈e,named (ER e s).1 o
 |[],s,_,_=>⟨Gr.rfl s,fun o ho=>by cases ho⟩
 |o::r,s,hk,h=>by
  unfold ER at h ⊢
  by_cases h1:(oO s o).2.1=0
  case neg=>rw[if_pos h1]at h;exact absurd h h1
  rw[if_neg (by simp[h1])]at h ⊢
  obtain⟨g1,n1⟩:=NT (hk o (by simp)) h1
  obtain⟨g2,n2⟩:=Da (fun o ho=>hk o (by simp[ho])) h
  refine⟨g1.trans g2,fun p hp=>?_⟩
  rcases List.mem_cons.1 hp with rfl|hp
  ·exact n1.up g2
  ·exact n2 p hp
theorem pZ{s:StateT}{e:List aO}(h:(cy s e).2.1=0):cy s e=ER e s:=by
 unfold cy at h ⊢
 by_cases hm:iD e=0
 ·rw[if_neg (by simp[hm])]
 ·rw[if_pos hm]at h;exact absurd h hm
theorem NU{s:StateT}{e:List aO}(h:(cy s e).2.1=0):ji s e=(cy s e).1:=by unfold ji;rw[if_neg (by simp[h])]
theorem Qa{s:StateT}{e:List aO}(h:(cy s e).2.1≠0):ji s e=s:=by unfold ji;rw[if_pos h]
theorem FB{s:StateT}{e:List aO}(ha:HL e):Gr s (ji s e):=by
 by_cases h:(cy s e).2.1=0
 ·rw[NU h,pZ h]
  rw[pZ h]at h
  exact(Da ha.k h).1
 ·rw[Qa h];exact Gr.rfl s
theorem Aa:∀{l:List (List aO)} {s:StateT},(∀e∈l,HL e)→Gr s (gM l s)
 |[],s,_=>Gr.rfl s
 |e::r,s,h=>(FB (h e (by simp))).trans (Aa fun e he=>h e (by simp[he]))
theorem FC{s t:StateT}{e:List aO}(ha:HL e)(h:(cy s e).2.1=0)(hg:Gr (ji s e) t):(cy t e).2.1≠0:=fun h2=>by
 rw[NU h,pZ h]at hg
 rw[pZ h]at h
 rw[pZ h2]at h2
 obtain⟨_,hn⟩:=Da ha.k h
 cases e with
 |nil=>exact ha.n rfl
 |cons o r =>
  have h3:=KI (ha.k o (by simp)) ((hn o (by simp)).up hg)
  unfold ER at h2
  rw[if_pos h3]at h2
  exact h3 h2
theorem rj:∀{l:List (List aO)} {s t:StateT},(∀e∈l,HL e)→Gr (gM l s) t→∀i:Nat,(iI l s)[i]? = some true→(iI l t)[i]? = some true→False
 |[],_,_,_,_,i,h,_=>by simp[iI]at h
 |e::r,s,t,ha,hg,0,h1,h2=>by
  simp[iI]at h1 h2
  exact FC (ha e (by simp)) h1 ((Aa fun e he=>ha e (by simp[he])).trans hg) h2
 |e::r,s,t,ha,hg,i+1,h1,h2=>by
  have h1:(iI r (ji s e))[i]? = some true:=h1
  have h2:(iI r (ji t e))[i]? = some true:=h2
  exact rj (l:=r) (s:=ji s e) (t:=ji t e) (fun e he=>ha e (by simp[he])) (Gr.trans (show Gr (gM r (ji s e)) t from hg) (FB (ha e (by simp)))) i h1 h2
end Go.Vs
namespace Go.Vs
open Go.Proofs
variable {G:(f:FuncId)→(g:aL)→Option (g.A→Option g.B)}
structure lW(l:List (List aO)):Prop where
 n:l.length≤1073741824
 e:∀e∈l,e.length≤1073741824
 f:∀e∈l,∀o∈e,Fit o
theorem lW.mem{l m:List (List aO)}(h:lW l)(hs:∀e∈m,e∈l)(hn:m.length≤1073741824):lW m:=⟨hn,fun e he=>h.e e (hs e he),fun e he=>h.f e (hs e he)⟩
theorem NV(hG:HG G)(rI:∀o,fO G o){l:List (List aO)}(h:lW l){e:List aO}(he:e∈l)(s:StateT)(hw:ed s):FX G 102 AA ((s,e,()),())=some ((ji s e,()),()) :=
 V6 hG s e hw (h.e e he) (h.f e he) fun o _=>rI o
theorem S4(hG:HG G)(rI:∀o,fO G o){l:List (List aO)}(h:lW l){e:List aO}(he:e∈l)(s:StateT)(hw:ed s):FX G 63 GG ((s,e,()),())=some (cy s e,()) :=
 V5 hG s e hw (h.e e he) (h.f e he) fun o _=>rI o
theorem NW(hG:HG G)(rI:∀o,fO G o)(s:StateT)(hw:ed s):FX G 102 AA ((s,[],()),())=some ((s,()),()):=by
 have:=V6 hG s [] hw (by simp) (by simp) fun o _=>rI o
 rwa [P9]at this
theorem Xn(hG:HG G)(s:StateT)(e:List aO):FX G 61 Ep ((s,e,()),())=some ((),()):=aJ (fn:=Tryz.f61) (hG _ _ rfl) (by kernel_rfl) (by kernel_rfl) (Vj _ _ _)
theorem Xo(hG:HG G)(rI:∀o,fO G o){l:List (List aO)}(h:lW l){e:List aO}(he:e∈l)(s:StateT)(hw:ed s)(p:List Bool)(hp:p.length≤1073741823) :
  FX G 62 Er ((s,e,()),((p,()),()))=some ((),((p++[decide ((cy s e).2.1=0)],()),())):=by
 refine aJ (fn:=Tryz.f62) (hG _ _ rfl) (by kernel_rfl) (by kernel_rfl) ((Vk _ _ _).trans ?_)
 refine aa (S4 hG rI h he s hw) ?_
 refine ae (fits (by simp;omega)) ?_
 have:((cy s e).2.1==0)=decide ((cy s e).2.1=0):=by rw[Bool.eq_iff_iff];simp
 rw[this];rfl
theorem NX(hG:HG G)(rI:∀o,fO G o)(l:List (List aO))(h:lW l):∀(n i:Nat) (s:StateT),i+n=l.length→ed s →
  LX G 562060 jM Tryz.f60 kX (bA Tryz.prog 60 0) ((((l.length:Nat):Int),((i:Int),())),((zW,((s,()),())),(l,())))=some ((gM (l.drop i) s,()),(l,())):=by
 intro n
 induction n with
 |zero =>
  intro i s hi hw
  refine aK (j:=0) (by kernel_rfl) ((yU _ _ _).trans (af (decide_eq_false (show ¬((i:Int)<((l.length:Nat):Int)) by omega)) ?_))
  rw[List.drop_eq_nil_of_le (by omega)];rfl
 |succ n ih =>
  intro i s hi hw
  have aE:i<l.length:=by omega
  have hm:=List.getElem_mem aE
  refine aK (j:=0) (by kernel_rfl) ((yU _ _ _).trans (ae (bG aE) ?_))
  refine ae (dD (decide_eq_true (show(0:Int)≤(i:Int) by omega)) (bG aE)) (aa (List.getElem?_eq_getElem aE) ?_)
  refine aa (Xn hG s l[i]) (aa (NV hG rI h hm s hw) ?_)
  rw[aP aE h.n,List.drop_eq_getElem_cons aE,gM]
  exact ih (i+1) _ (by omega) (hw.try l[i])
theorem Ab(hG:HG G)(rI:∀o,fO G o)(s:StateT)(l:List (List aO))(hw:ed s)(h:lW l):FX G 500018 kT ((s,()),(l,()))=some ((gM l s,()),(l,())):=by
 refine aJ (fn:=Tryz.f18) (hG _ _ rfl) (by kernel_rfl) (by kernel_rfl) ((Mn _ _ _).trans ?_)
 have h1:FX G 562060 jM ((s,()),(l,()))=some ((gM l s,()),(l,())):=by
  refine aJ (fn:=Tryz.f60) (hG _ _ rfl) (by kernel_rfl) (by kernel_rfl) ((Mp _ _ _).trans ?_)
  refine aa (NW hG rI s hw) ?_
  exact NX hG rI l h l.length 0 s (by omega) hw
 exact aa h1 rfl
theorem NY(hG:HG G)(rI:∀o,fO G o)(l:List (List aO))(h:lW l):∀(n i:Nat) (s:StateT) (p:List Bool),i+n=l.length→p.length=i→ed s →
  LX G 563060 jN Tryz.f60 kY (bA Tryz.prog 60 0) ((((l.length:Nat):Int),((i:Int),())),(((p,()),(zW,((s,()),()))),(l,())))=some ((gM (l.drop i) s,()),(l,((p++iI (l.drop i) s,()),()))):=by
 intro n
 induction n with
 |zero =>
  intro i s p hi hp hw
  refine aK (j:=0) (by kernel_rfl) ((yV _ _ _).trans (af (decide_eq_false (show ¬((i:Int)<((l.length:Nat):Int)) by omega)) ?_))
  rw[List.drop_eq_nil_of_le (by omega),iI,List.append_nil];rfl
 |succ n ih =>
  intro i s p hi hp hw
  have aE:i<l.length:=by omega
  have hm:=List.getElem_mem aE
  have hn:=h.n
  refine aK (j:=0) (by kernel_rfl) ((yV _ _ _).trans (ae (bG aE) ?_))
  refine ae (dD (decide_eq_true (show(0:Int)≤(i:Int) by omega)) (bG aE)) (aa (List.getElem?_eq_getElem aE) ?_)
  refine aa (Xo hG rI h hm s hw p (by omega)) (aa (NV hG rI h hm s hw) ?_)
  rw[aP aE h.n,List.drop_eq_getElem_cons aE,gM,iI]
  have:=ih (i+1) _ (p++[decide ((cy s l[i]).2.1=0)]) (by omega) (by simp;omega) (hw.try l[i])
  rw[List.append_assoc]at this
  exact this
theorem Ac(hG:HG G)(rI:∀o,fO G o)(s:StateT)(l:List (List aO))(hw:ed s)(h:lW l):FX G 500019 kU ((s,()),(l,()))=some ((iI l s,()),(l,())):=by
 refine aJ (fn:=Tryz.f19) (hG _ _ rfl) (by kernel_rfl) (by kernel_rfl) ((Mo _ _ _).trans ?_)
 have h1:FX G 563060 jN ((s,()),(l,(([],()),())))=some ((gM l s,()),(l,((iI l s,()),()))):=by
  refine aJ (fn:=Tryz.f60) (hG _ _ rfl) (by kernel_rfl) (by kernel_rfl) ((Mq _ _ _).trans ?_)
  refine aa (NW hG rI s hw) ?_
  exact NY hG rI l h l.length 0 s [] (by omega) rfl hw
 exact aa h1 rfl
theorem NZ(hG:HG G)(n:Int):FX G 59 yJ ((n,()),())=some (([G4 1 (1,n)],()),()):=aJ (fn:=Tryz.f59) (hG _ _ rfl) (by kernel_rfl) (by kernel_rfl) (Vi _ _ _)
theorem Qb(n:Int):Fit (G4 1 (1,n)):=⟨Sd,Sd,Sd,by show e0.size≤_;simp[e0,ByteArray.size]⟩
theorem I6(l:List (List aO))(hl:l.length≤1073741824)(h:∀e∈l,∃n:Int,e=[G4 1 (1,n)]):lW l :=
 ⟨hl,fun e he=>by obtain⟨n,rfl⟩:=h e he;simp,fun e he o ho=>by obtain⟨n,rfl⟩:=h e he;rw[List.mem_singleton.1 ho];exact Qb n⟩
theorem HM:iI [[G4 1 (1,1)],[G4 1 (1,1)]] zS=[true,false]:=by decide
theorem KJ:(gM [[G4 1 (1,1)]] zS).1.1.length=1:=by decide
theorem Xp(hG:HG G)(rI:∀o,fO G o):FX G 15 Eo ((),())=some ((true,()),()):=by
 refine aJ (fn:=Tryz.f15) (hG _ _ rfl) (by kernel_rfl) (by kernel_rfl) ((Vf _ _ _).trans ?_)
 refine aa (NZ hG 1) (aa (NZ hG 1) ?_)
 have r2:∀e∈[[G4 1 (1,1)],[G4 1 (1,1)]],∃n:Int,e=[G4 1 (1,n)]:=fun e he=>⟨1,by rcases List.mem_cons.1 he with rfl|he;rfl;exact List.mem_singleton.1 he⟩
 have r1:∀e∈[[G4 1 (1,1)]],∃n:Int,e=[G4 1 (1,n)]:=fun e he=>⟨1,List.mem_singleton.1 he⟩
 have h1:=Ac hG rI zS [[G4 1 (1,1)],[G4 1 (1,1)]] ed.zero (I6 _ (by simp) r2)
 rw[HM]at h1
 refine aa h1 ?_
 refine ae rfl (ae rfl (aa rfl (ae rfl (ae rfl (aa rfl (ae rfl ?_))))))
 refine aa (NZ hG 1) ?_
 refine aa (Ab hG rI zS [[G4 1 (1,1)]] ed.zero (I6 _ (by simp) r1)) ?_
 show some ((((((gM [[G4 1 (1,1)]] zS).1.1.length:Nat):Int)==1,()),()))=_
 rw[KJ];rfl
end Go.Vs
namespace Go.Vs
open Go.Proofs
variable {G:(f:FuncId)→(g:aL)→Option (g.A→Option g.B)}
def wy(l:List (List aO)):List (List aO):=(l.take 30).map (·.take 8)
theorem FD(l:List (List aO)):(wy l).length≤30:=by unfold wy;simp;omega
theorem Ad{l:List (List aO)}{e:List aO}(h:e∈wy l):e.length≤8∧∃p∈l,∀o∈e,o∈p:=by
 unfold wy at h
 obtain⟨p,hp,rfl⟩:=List.mem_map.1 h
 exact⟨by simp;omega,p,List.mem_of_mem_take hp,fun o ho=>List.mem_of_mem_take ho⟩
theorem N0{l:List (List aO)}(hf:∀e∈l,∀o∈e,Fit o):lW (wy l) :=
 ⟨by have:=FD l;omega,fun e he=>by have:=(Ad he).1;omega,fun e he o ho=>by obtain⟨_,p,hp,hh⟩:=Ad he;exact hf p hp o (hh o ho)⟩
theorem Xq(hG:HG G)(l:List (List aO))(hl:l.length≤1073741824):FX G 16 rq ((l,()),())=some ((wy l,()),()):=by
 refine aJ (fn:=Tryz.f16) (hG _ _ rfl) (by kernel_rfl) (by kernel_rfl) ((Vg _ _ _).trans ?_)
 have stop:∀(i:Nat) (out:List (List aO)),out=(l.take i).map (·.take 8)→l.length≤i→i≤30→LX G 16 rq Tryz.f16 nS (bA Tryz.prog 16 0) ((l,((i:Int),())),((),(out,())))=some ((wy l,()),()):=by
  intro i out ho h1 h2
  refine aK (j:=0) (by kernel_rfl) ((CG _ _ _).trans ?_)
  refine af (decide_eq_false (show ¬((i:Int)<((l.length:Nat):Int)) by omega)) ?_
  show some ((out,()),())=_
  rw[ho,wy,List.take_of_length_le h1,List.take_of_length_le (show l.length≤30 by omega)];rfl
 have loop:∀(n i:Nat) (out:List (List aO)),out=(l.take i).map (·.take 8)→i+n=30→i≤l.length→LX G 16 rq Tryz.f16 nS (bA Tryz.prog 16 0) ((l,((i:Int),())),((),(out,())))=some ((wy l,()),()):=by
  intro n
  induction n with
  |zero =>
   intro i out ho hi hle
   by_cases aE:i<l.length
   case neg=>exact stop i out ho (by omega) (by omega)
   refine aK (j:=0) (by kernel_rfl) ((CG _ _ _).trans (ae (bG aE) (af (decide_eq_false (show ¬((i:Int)<30) by omega)) ?_)))
   show some ((out,()),())=_
   rw[ho,wy,show i=30 by omega];rfl
  |succ n ih =>
   intro i out ho hi hle
   by_cases aE:i<l.length
   case neg=>exact stop i out ho (by omega) (by omega)
   refine aK (j:=0) (by kernel_rfl) ((CG _ _ _).trans (ae (bG aE) ?_))
   refine ae (decide_eq_true (show((i:Int)<30) by omega)) ?_
   refine aa (bN (List.getElem?_eq_getElem aE)) ?_
   have hs:(l.take (i+1)).map (·.take 8)=out++[l[i].take 8]:=by
    rw[ho,List.take_succ_eq_append_getElem aE,List.map_append];rfl
   have hln:out.length≤30:=by rw[ho];simp;omega
   have step:=ih (i+1) (out++[l[i].take 8]) hs.symm (by omega) (by omega)
   by_cases h:8<l[i].length
   ·refine ae (decide_eq_true (show((l[i].length:Nat):Int)>8 by omega)) ?_
    refine ae (by simp[aR];omega) ?_
    refine ae (fits (show out.length+1≤_ by omega)) ?_
    rw[aP aE hl]
    exact step
   ·refine af (decide_eq_false (show ¬((l[i].length:Nat):Int)>8 by omega)) ?_
    refine ae (fits (show out.length+1≤_ by omega)) ?_
    rw[aP aE hl]
    rw[List.take_of_length_le (show l[i].length≤8 by omega)]at step
    exact step
 exact loop 30 0 [] rfl (by omega) (by omega)
def g9(o:aO):List ID:=(if o.1=1∨o.1=3 then[ba o] else[])++(if o.1=5 then[eT o,bz o] else[])
theorem Xr(hG:HG G)(e:List aO)(he:e.length≤8):FX G 17 tz ((e,()),())=some ((e.flatMap g9,()),()):=by
 refine aJ (fn:=Tryz.f17) (hG _ _ rfl) (by kernel_rfl) (by kernel_rfl) ((Vh _ _ _).trans ?_)
 have h2:∀o,(g9 o).length≤2:=fun o=>by
  unfold g9
  by_cases h5:o.1=5
  ·rw[if_neg (by omega)];split<;>simp
  ·rw[if_neg h5];split<;>simp
 have hln:∀m:List aO,(m.flatMap g9).length≤2*m.length:=fun m=>by
  induction m with
  |nil=>simp
  |cons o r ih=>have:=h2 o;simp only[List.flatMap_cons,List.length_append,List.length_cons];omega
 have loop:∀(n i:Nat) (p:List ID),p=(e.take i).flatMap g9→i+n=e.length→LX G 17 tz Tryz.f17 iA (bA Tryz.prog 17 0) (((i:Int),()),(((e,()),()),(p,())))=some ((e.flatMap g9,()),()):=by
  intro n
  induction n with
  |zero =>
   intro i p hp hi
   refine aK (j:=0) (by kernel_rfl) ((Ip _ _ _).trans (af (decide_eq_false (show ¬((i:Int)<((e.length:Nat):Int)) by omega)) ?_))
   show some ((p,()),())=_
   rw[hp,List.take_of_length_le (by omega)];rfl
  |succ n ih =>
   intro i p hp hi
   have aE:i<e.length:=by omega
   refine aK (j:=0) (by kernel_rfl) ((Ip _ _ _).trans (ae (bG aE) (aa (bN (List.getElem?_eq_getElem aE)) ?_)))
   have hs:(e.take (i+1)).flatMap g9=p++g9 e[i]:=by
    rw[hp,List.take_succ_eq_append_getElem aE,List.flatMap_append];simp
   have hq:=hln (e.take i)
   rw[←hp]at hq
   have YS:(e.take i).length≤8:=by simp;omega
   have step:∀q,g9 e[i]=q→LX G 17 tz Tryz.f17 iA (bA Tryz.prog 17 0) ((((i+1:Nat):Int),()),(((e,()),()),(p++q,())))=some ((e.flatMap g9,()),()):=fun q hq=>ih (i+1) (p++q) (by rw[hs,hq]) (by omega)
   by_cases h1:e[i].1=1
   ·have:=step [ba e[i]] (by unfold g9;rw[if_pos (.inl h1),if_neg (by omega)];rfl)
    refine ae (by simp[h1]) (ae (fits (show p.length+1≤_ by omega)) (af (by simp[h1]) ?_))
    rw[aP aE (by omega)];exact this
   refine af (by simpa using h1) ?_
   by_cases h3:e[i].1=3
   ·have:=step [ba e[i]] (by unfold g9;rw[if_pos (.inr h3),if_neg (by omega)];rfl)
    refine ae (by simp[h3]) (ae (fits (show p.length+1≤_ by omega)) (af (by simp[h3]) ?_))
    rw[aP aE (by omega)];exact this
   refine af (by simpa using h3) ?_
   by_cases h5:e[i].1=5
   ·have:=step [eT e[i],bz e[i]] (by unfold g9;rw[if_neg (by omega),if_pos h5];rfl)
    refine ae (by simp[h5]) (ae (fits (show p.length+2≤_ by omega)) ?_)
    rw[aP aE (by omega)];exact this
   ·have:=step [] (by unfold g9;rw[if_neg (by omega),if_neg h5];rfl)
    rw[List.append_nil]at this
    refine af (by simpa using h5) ?_
    rw[aP aE (by omega)];exact this
 exact loop e.length 0 [] rfl (by omega)
def Ae(e:List aO):Bool:=decide (0<(e.flatMap g9).length)&&e.all fun o=>decide (o.1=1∨o.1=3)
theorem HN{e:List aO}(h:Ae e=true):HL e:=by
 simp only[Ae,Bool.and_eq_true,decide_eq_true_eq,List.all_eq_true]at h
 exact⟨h.2,fun k=>by rw[k]at h;simp at h⟩
theorem Qc(hG:HG G)(rI:∀o,fO G o)(l:List (List aO))(hl:l.length≤1073741824)(hf:∀e∈l,∀o∈e,Fit o):FX G 3 iM ((l,()),())=some ((true,()),()):=by
 refine aJ (fn:=Tryz.f3) (hG _ _ rfl) (by kernel_rfl) (by kernel_rfl) ((Ve _ _ _).trans ?_)
 refine aa (Xp hG rI) ?_
 have S5:=Xq hG l hl
 have lx:=N0 hf
 have ae2:=FD l
 have hl8:∀e∈wy l,e.length≤8:=fun e he=>(Ad he).1
 generalize wy l=m at *
 have fin:∀own:List (List aO),lW own→own.length≤30→(∀e∈own,HL e)→∀(n i:Nat),i+n=own.length →
   LX G 3 iM Tryz.f3 qw (bA Tryz.prog 3 2) ((true,((i:Int),())),((((gM own zS),()),((gM own (gM own zS),()),())),(own,(iI own zS,(iI own (gM own zS),())))))=some ((true,()),()):=by
  intro own ho h30 ha n
  have hda:=ou own zS
  have hdb:=ou own (gM own zS)
  have JJ:=rj (l:=own) (s:=zS) ha (Gr.rfl (gM own zS))
  have hg:Gr (gM own zS) (gM own (gM own zS)):=Aa ha
  generalize iI own zS=d at *
  generalize iI own (gM own zS)=d2 at *
  induction n with
  |zero =>
   intro i hi
   refine aK (j:=2) (by kernel_rfl) ((Io _ _ _).trans (af (decide_eq_false (show ¬((i:Int)<((own.length:Nat):Int)) by omega)) (ae rfl ?_)))
   have h1:=hg.nv;have h2:=hg.ne
   refine ae (decide_eq_true (by show(((gM own (gM own zS)).1.1.length:Nat):Int)≥(((gM own zS).1.1.length:Nat):Int);omega)) ?_
   exact congrArg (fun b:Bool=>some ((b,()),())) (decide_eq_true (by show(((gM own (gM own zS)).1.2.length:Nat):Int)≥(((gM own zS).1.2.length:Nat):Int);omega))
  |succ n ih =>
   intro i hi
   have aE:i<own.length:=by omega
   have h1:i<d.length:=by omega
   have h2:i<d2.length:=by omega
   refine aK (j:=2) (by kernel_rfl) ((Io _ _ _).trans (ae (bG aE) ?_))
   refine af (decide_eq_false (by show ¬((i:Int)≥((d.length:Nat):Int));omega)) (af (decide_eq_false (by show ¬((i:Int)≥((d2.length:Nat):Int));omega)) ?_)
   have h0:decide ((0:Int)≤(i:Int))=true:=decide_eq_true (by omega)
   refine ae (dD h0 (bG h1)) (aa (List.getElem?_eq_getElem (show Int.toNat (i:Int)<d.length from h1)) ?_)
   have step:=ih (i+1) (by omega)
   by_cases hd:d[i]=true
   ·refine ae hd (ae (dD h0 (bG h2)) (aa (List.getElem?_eq_getElem (show Int.toNat (i:Int)<d2.length from h2)) ?_))
    by_cases KQ:d2[i]=true
    ·exact(JJ i (by rw[List.getElem?_eq_getElem h1,hd]) (by rw[List.getElem?_eq_getElem h2,KQ])).elim
    ·refine af (by simpa using KQ) ?_
     rw[aP aE ho.n];exact step
   ·refine af (by simpa using hd) ?_
    rw[aP aE ho.n];exact step
 have inner:∀(i:Nat) (e:List aO) (own:List (List aO)) (_:e.length≤8) (_:own.length≤30)
   (_:Ae e=true→LX G 3 iM Tryz.f3 lN (bA Tryz.prog 3 0) ((l,(true,(IntKind.wrap .i64 ((i:Int)+1),()))),((),(own++[e],())))=some ((true,()),()))
   (_:Ae e=false→LX G 3 iM Tryz.f3 lN (bA Tryz.prog 3 0) ((l,(true,(IntKind.wrap .i64 ((i:Int)+1),()))),((),(own,())))=some ((true,()),())) (n k:Nat),k+n=e.length →
   LX G 3 iM Tryz.f3 lO (bA Tryz.prog 3 1) ((l,(true,((i:Int),(decide (0<(e.flatMap g9).length)&&(e.take k).all fun o=>decide (o.1=1∨o.1=3),((k:Int),()))))),(((e,()),()),(own,())))=some ((true,()),()):=by
  intro i e own he ho hT hF n
  induction n with
  |zero =>
   intro k hk
   refine aK (j:=1) (by kernel_rfl) ((Im _ _ _).trans (af (decide_eq_false (show ¬((k:Int)<((e.length:Nat):Int)) by omega)) ?_))
   rw[List.take_of_length_le (by omega)]
   cases hg:Ae e with
   |true=>exact ae hg (ae (fits (by simp;omega)) (hT hg))
   |false=>exact af hg (hF hg)
  |succ n ih =>
   intro k hk
   have aE:k<e.length:=by omega
   refine aK (j:=1) (by kernel_rfl) ((Im _ _ _).trans (ae (bG aE) ?_))
   have step:=ih (k+1) (by omega)
   rw[List.take_succ_eq_append_getElem aE,List.all_append,←Bool.and_assoc]at step
   have hx:=bN (List.getElem?_eq_getElem aE)
   cases hg:(decide (0<(e.flatMap g9).length)&&(e.take k).all fun o=>decide (o.1=1∨o.1=3)) with
   |false =>
    rw[hg]at step
    refine af rfl ?_
    rw[aP aE (by omega)];exact step
   |true =>
    rw[hg]at step
    refine ae rfl (aa hx ?_)
    by_cases h1:e[k].1=1
    ·refine ae (by simp[h1]) ?_
     rw[aP aE (by omega)]
     have e1:(true&&[e[k]].all fun o=>decide (o.1=1∨o.1=3))=true:=by simp[h1]
     rw[e1]at step;exact step
    ·refine af (by simpa using h1) (aa hx ?_)
     rw[aP aE (by omega)]
     have e3:(e[k].1==3)=(true&&[e[k]].all fun o=>decide (o.1=1∨o.1=3)):=by rw[Bool.eq_iff_iff];simp[h1]
     rw[e3];exact step
 have loop:∀(n i:Nat) (own:List (List aO)),i+n=m.length→own.length≤i→(∀e∈own,e∈m∧HL e)→LX G 3 iM Tryz.f3 lN (bA Tryz.prog 3 0) ((l,(true,((i:Int),()))),((),(own,())))=some ((true,()),()):=by
  intro n
  induction n with
  |zero =>
   intro i own hi ho ha
   refine aK (j:=0) (by kernel_rfl) ((Il _ _ _).trans (aa S5 (af (decide_eq_false (show ¬((i:Int)<((m.length:Nat):Int)) by omega)) ?_)))
   have So:lW own:=lx.mem (fun e he=>(ha e he).1) (by omega)
   have Dc:=ed.all own ed.zero
   refine aa (Ab hG rI zS own ed.zero So) ?_
   refine aa (Ab hG rI _ own Dc So) ?_
   refine aa (Ac hG rI zS own ed.zero So) ?_
   refine aa (Ac hG rI _ own Dc So) ?_
   exact fin own So (by omega) (fun e he=>(ha e he).2) own.length 0 (by omega)
  |succ n ih =>
   intro i own hi ho ha
   have aE:i<m.length:=by omega
   have hm:=List.getElem_mem aE
   refine aK (j:=0) (by kernel_rfl) ((Il _ _ _).trans (aa S5 (ae (bG aE) (aa S5 (aa (bN (List.getElem?_eq_getElem aE)) (aa (Xr hG m[i] (hl8 _ hm)) ?_))))))
   have key:=inner i m[i] own (hl8 _ hm) (by omega) (fun hg=>?_) (fun hg=>?_) m[i].length 0 (by omega)
   ·have e0:decide ((((m[i].flatMap g9).length:Nat):Int)>0)=(decide (0<(m[i].flatMap g9).length)&&([]:List aO).all fun o=>decide (o.1=1∨o.1=3)):=by
     rw[Bool.eq_iff_iff];simp
    show LX G 3 iM Tryz.f3 lO (bA Tryz.prog 3 1) ((l,(true,((i:Int),(decide ((((m[i].flatMap g9).length:Nat):Int)>0),((0:Int),()))))),(((m[i],()),()),(own,())))=_
    rw[e0];exact key
   ·rw[aP aE (by omega)]
    refine ih (i+1) _ (by omega) (by simp;omega) fun e he=>?_
    rcases List.mem_append.1 he with he|he
    ·exact ha e he
    ·rw[List.mem_singleton.1 he];exact⟨hm,HN hg⟩
   ·rw[aP aE (by omega)]
    exact ih (i+1) _ (by omega) (by omega) ha
 exact loop m.length 0 [] (by omega) (by simp) (by simp)
theorem S6(l:List (List aO))(hw:JY (.sl pI) l)(hb:eW (.sl pI) l≤1048576):FX GP 3 iM ((l,()),())=some ((true,()),()):=by
 obtain⟨h1,h2⟩:=EG (l:=l) (m:=1048576) (by omega)
 have ht:∀e∈l,∀o∈e,GY o:=fun e he o ho=>Nat.le_trans (h2 e he o ho) (by omega)
 exact Qc hgP Xm l (by omega) fun e he o ho=>SZ (hw e he o ho) (ht e he o ho)
end Go.Vs
