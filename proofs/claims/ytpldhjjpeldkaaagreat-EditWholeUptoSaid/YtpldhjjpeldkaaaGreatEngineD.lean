/- The value semantics is sound for whole functions; the signatures of the program. -/
import Derived.Test.YtpldhjjpeldkaaaGreatEngineC
import Derived.Scope
import Derived.Test.YtpldhjjpeldkaaaGreatProg
import Derived.KernelRfl
set_option linter.unusedSimpArgs false
set_option linter.unusedVariables false
namespace Go.Vs
variable {P:Program} {Eqs:TypeId→Option K} {Sg:FuncId→Option aJ} {F:(f:FuncId)→(g:aJ)→g.A→Option g.B} {R:Type}
variable {Z Z' Z0:Nat→Prop} {ψ ψ' ψ0:Nat→Value} {h h':Hp} {w w' w0:World} {B0:Nat} {O N:Nat→Prop}
def eQ(st:St):(l:List (Nat×Nat×OK))→HS (l.map (·.2.2))→List wz
 | [],_=>[]
 | (s,id,ok)::r,x=>(id,(nL (look st.tmps s)).head?,.own ok x.1)::eQ st r x.2
theorem tQ(st:St):∀(l:List (Nat×Nat×OK)) (x:HS (l.map (·.2.2))),dn (eQ st l x)=pH l x
 | [],_=>rfl
 | (s,id,ok)::r,x=>by simp only [eQ,pH];rw [←tQ st r x.2];rfl
theorem rO(st:St):∀(l:List (Nat×Nat×OK)) (x:HS (l.map (·.2.2))),(eQ st l x).map (·.1)=l.map (·.2.1)
 | [],_=>rfl
 | (s,id,ok)::r,x=>by simp only [eQ,List.map_cons];rw [rO st r x.2]
theorem wL(st:St):∀(l:List (Nat×Nat×OK)) (x:HS (l.map (·.2.2))),(eQ st l x).filterMap (·.2.1)=l.flatMap fun p=>nL (look st.tmps p.1)
 | [],_=>rfl
 | (s,id,ok)::r,x=>by
  simp only [eQ,List.flatMap_cons]
  rw [dB,wL st r x.2]
  simp only []
  rw [u9]
theorem pU{st:St}{s id:Nat}{ok:OK}{r:List (Nat×Nat×OK)}{x:HS (((s,id,ok)::r).map (·.2.2))}(hd:mr st ((s,id,ok)::r)=some x):dE st.heap ok (look st.tmps s)=some x.1∧mr st r=some x.2:=by
 have e:mr st ((s,id,ok)::r)=(match dE st.heap ok (look st.tmps s),mr st r with
  | some x,some y=>some ((x,y):ok.T×HS (r.map (·.2.2)))
  | _,_=>none):=rfl
 rw [e] at hd
 clear e
 generalize dE st.heap ok (look st.tmps s)=o1 at hd ⊢
 generalize mr st r=o2 at hd ⊢
 cases o1 with
 | none=>cases hd
 | some x1 =>
  cases o2 with
  | none=>cases hd
  | some y1=>have:=Option.some.inj hd;subst this;exact ⟨rfl,rfl⟩
theorem zB{hd:Hp}{st:St}:∀(l:List (Nat×Nat×OK)) (x:HS (l.map (·.2.2))),mr st l=some x→(∀s∈(l.flatMap fun p=>nL (look st.tmps p.1)),hd s=st.heap.get s) →
  ∀e∈eQ st l x,tH Z ψ hd w h' ψ' e
 | [],_,_,_,e,he=>by simp [eQ] at he
 | (s,id,ok)::r,x,hx,hk,e,he=>by
  obtain ⟨h1,h2⟩:=pU hx
  simp only [List.flatMap_cons] at hk
  simp only [eQ] at he
  rcases List.mem_cons.1 he with rfl | he
  ·exact JG h1 fun s hs=>hk s (List.mem_append_left _ hs)
  ·exact zB r x.2 h2 (fun s hs=>hk s (List.mem_append_right _ hs)) e he
theorem Fy{st:St}{s:Nat}{k:K}{r:List (Nat×K)}{x:EP (((s,k)::r).map (·.2))}(hd:pC st ((s,k)::r)=some x):fm k st.heap (look st.tmps s)=some x.1∧pC st r=some x.2:=by
 have e:pC st ((s,k)::r)=(match fm k st.heap (look st.tmps s),pC st r with
  | some x,some y=>some ((x,y):k.T×EP (r.map (·.2)))
  | _,_=>none):=rfl
 rw [e] at hd
 clear e
 generalize fm k st.heap (look st.tmps s)=o1 at hd ⊢
 generalize pC st r=o2 at hd ⊢
 cases o1 with
 | none=>cases hd
 | some x1 =>
  cases o2 with
  | none=>cases hd
  | some y1=>have:=Option.some.inj hd;subst this;exact ⟨rfl,rfl⟩
theorem eg{T:List (Nat×AV)}{n:Nat}{a:Act}(eU:∀p∈T,av Z ψ h w p.2 (a.tmps.getD p.1 undef))(hs:a.tmps.size=n)(hd:a.defers=[]):cK Z ψ h w n (look T) a:=by
 refine ⟨fun d => ?_,hs,hd⟩
 induction T with
 | nil=>simp only [look,av]
 | cons p r ih =>
  obtain ⟨i,v⟩:=p
  simp only [look]
  split
  ·rename_i e;subst e;exact eU _ List.mem_cons_self
  ·exact ih fun p hp=>eU p (List.mem_cons_of_mem _ hp)
section
variable {st:St} {n:Nat} {a:Act}
theorem tR(g:Good Z ψ st.heap.get w B0 O)(t:cK Z ψ st.heap.get w n (look st.tmps) a)(hz:∀b,Z b→Z' b):∀(l:List (Nat×K)) (x:EP (l.map (·.2))),pC st l=some x →
  (∀id b,AV.bF id∈(l.flatMap fun p=>(look st.tmps p.1).cells)→st.heap.get id≠none→ob (ψ id)=some b→Z' b)→∀p∈pG l x,av Z' ψ' h' w p.2 (a.tmps.getD p.1 undef)
 | [],_,_,_,p,hp=>by simp [pG] at hp
 | (s,k)::r,x,hx,hf,p,hp=>by
  obtain ⟨h1,h2⟩:=Fy hx
  simp only [List.flatMap_cons] at hf
  simp only [pG] at hp
  rcases List.mem_cons.1 hp with rfl | hp
  ·exact qH g hz (fun id b bO=>hf id b (List.mem_append_left _ bO)) h1 (t.rep s)
  ·exact tR g t hz r x.2 h2 (fun id b bO=>hf id b (List.mem_append_right _ bO)) p hp
theorem rP(t:cK Z ψ st.heap.get w n (look st.tmps) a):∀(l:List (Src×Nat×BK)) (ids:List Nat),Dq st l=some ids→(∀i∈ids,st.heap.get i≠none) →
  (∀p∈ids.zip (l.map (·.2.1)),h' p.2≠none→ψ' p.2=ψ p.1)→∀p∈jl l,av Z' ψ' h' w p.2 (a.tmps.getD p.1 undef)
 | [],_,_,_,_,p,hp=>by simp [jl] at hp
 | (src,lN,b)::r,ids,hx,hi,iC,p,hp=>by
  simp only [Dq] at hx
  split at hx
  ·rename_i i is h1 h2
   cases hx
   simp only [List.map_cons,List.zip_cons_cons] at iC
   have ih:=rP t r is h2 (fun j hj=>hi j (List.mem_cons_of_mem _ hj)) (fun p hp=>iC p (List.mem_cons_of_mem _ hp)) p
   cases src with
   | slot s =>
    simp only [jl] at hp
    rcases List.mem_cons.1 hp with rfl | hp
    ·simp only [Su] at h1
     obtain ⟨sz,h3⟩:=nY h1
     have h4:=t.rep s
     rw [h3] at h4
     exact xC h4 (hi i List.mem_cons_self) (iC (i,lN) List.mem_cons_self)
    ·exact ih hp
   | cap s j=>exact ih (by simpa only [jl] using hp)
  ·cases hx
theorem Fz{hh:Heap}{ids:List (Nat×Nat)}(hi:∀p∈ids,hh.get p.1≠none)(iC:∀p∈ids,h' p.2≠none→ψ' p.2=ψ p.1):∀(cap:List AV) (is Bz:List Nat) (vs:List Value),ji cap=some is →
  is.map (fun i=>(ids.find? (·.1==i)).map (·.2))=Bz.map some→an Z ψ hh.get w cap vs→an Z' ψ' h' w (Bz.map fun i=>.ref i 0 0 0) vs
 | [],is,Bz,vs,h1,h2,hr=>by
  simp only [ji] at h1
  cases h1
  cases Bz with
  | nil=>simpa only [List.map_nil,an] using hr
  | cons c r=>simp at h2
 | v::cap,is,Bz,vs,h1,h2,hr=>by
  simp only [ji] at h1
  split at h1
  ·rename_i i is' h3 h4
   cases h1
   cases Bz with
   | nil=>simp at h2
   | cons c r =>
    simp only [List.map_cons,List.cons.injEq] at h2
    obtain ⟨h5,h6⟩:=h2
    simp only [List.map_cons,an] at hr ⊢
    obtain ⟨u,us,rfl,h7,h8⟩:=hr
    obtain ⟨sz,rfl⟩:=nY h3
    cases hf:ids.find? (·.1==i) with
    | none=>rw [hf] at h5;cases h5
    | some p =>
     rw [hf] at h5
     have hm:=List.mem_of_find?_eq_some hf
     have he:=List.find?_some hf
     simp only [Option.map_some,Option.some.injEq] at h5
     have TL:p.1=i:=by simpa using he
     refine ⟨u,us,rfl,xC h7 (by rw [←TL];exact hi p hm) (fun hn => ?_),Fz hi iC cap is' r us h4 h6 h8⟩
     rw [←h5,←TL];exact iC p hm (by rw [h5];exact hn)
  ·cases h1
theorem wM(t:cK Z ψ st.heap.get w n (look st.tmps) a){ids:List (Nat×Nat)}(hi:∀p∈ids,st.heap.get p.1≠none)(iC:∀p∈ids,h' p.2≠none→ψ' p.2=ψ p.1):∀(l:List (Nat×FuncId×List Nat)),JD st ids l=true →
  ∀p∈xu l,av Z' ψ' h' w p.2 (a.tmps.getD p.1 undef)
 | [],_,p,hp=>by simp [xu] at hp
 | (s,f,Bz)::r,hx,p,hp=>by
  simp only [JD,Bool.and_eq_true] at hx
  simp only [xu,List.map_cons] at hp
  rcases List.mem_cons.1 hp with rfl | hp
  ·have h1:=hx.1
   split at h1
   ·rename_i f' cap hl
    simp only [Bool.and_eq_true,decide_eq_true_eq] at h1
    obtain ⟨rfl,h2⟩:=h1
    split at h2
    ·rename_i is hri
     have h4:=t.rep s
     rw [hl] at h4
     simp only [av] at h4 ⊢
     obtain ⟨vs,h5,h6⟩:=h4
     exact ⟨vs,h5,Fz hi iC cap is Bz _ hri (of_decide_eq_true h2) h6⟩
    ·cases h2
   ·cases h1
  ·exact wM t hi iC r hx.2 p hp
theorem tS(t:cK Z ψ st.heap.get w n (look st.tmps) a):∀(l:List (Nat×Nat×OK)) (x:HS (l.map (·.2.2))),mr st l=some x→(∀e∈eQ st l x,h' e.1≠none→ψ' e.1=js ψ e.2.1) →
  ∀p∈(l.map fun p=>(p.1,AV.bF p.2.1)),av Z' ψ' h' w p.2 (a.tmps.getD p.1 undef)
 | [],_,_,_,p,hp=>by simp at hp
 | (s,id,ok)::r,x,hx,iC,p,hp=>by
  obtain ⟨h1,h2⟩:=pU hx
  simp only [eQ] at iC
  simp only [List.map_cons] at hp
  rcases List.mem_cons.1 hp with rfl | hp
  ·exact DF h1 (t.rep s) (iC _ List.mem_cons_self)
  ·exact tS t r x.2 h2 (fun e he=>iC e (List.mem_cons_of_mem _ he)) p hp
end
theorem tT{st:St}{m:Nat}:∀(l:List (Nat×Nat×OK)) (x:HS (l.map (·.2.2))),mR st m l=true→∃o,(m,some m,o)∈eQ st l x
 | [],_,h=>by cases h
 | (s,id,ok)::r,x,h=>by
  simp only [mR,Bool.or_eq_true,Bool.and_eq_true,beq_iff_eq] at h
  rcases h with ⟨rfl,h⟩ | h
  ·split at h
   ·rename_i i hl
    have hi:i=id:=by simpa using h
    subst hi
    exact ⟨_,by simp only [eQ,hl,nL,List.head?_cons];exact List.mem_cons_self⟩
   ·cases h
  ·obtain ⟨o,ho⟩:=tT r x.2 h
   exact ⟨o,List.mem_cons_of_mem _ ho⟩
theorem rQ{st:St}{m:Nat}:∀(l:List (Nat×Nat×OK)) (x:HS (l.map (·.2.2))),mr st l=some x→mR st m l=true→st.heap.get m≠none
 | [],_,_,h=>by cases h
 | (s,id,ok)::r,x,hx,h=>by
  obtain ⟨h1,h2⟩:=pU hx
  simp only [mR,Bool.or_eq_true,Bool.and_eq_true,beq_iff_eq] at h
  rcases h with ⟨rfl,h⟩ | h
  ·split at h
   ·rename_i i hl
    have hi:i=id:=by simpa using h
    subst hi
    rw [hl] at h1
    simp only [dE] at h1
    split at h1
    ·rename_i hg;rw [hg];simp
    ·cases h1
   ·cases h
  ·exact rQ r x.2 h2 h
theorem JM{kd:List AV}{hh:Heap}{b:Nat}(hb:o8 Z ψ hh.get kd b):Z b∨Own ψ hh.get b:=hb.imp (fun h=>h) fun ⟨i,_,h2,h3⟩=>⟨i,h2,h3⟩
theorem fJ{sh:Shape}{st:St}{x:sh.T}{n:Nat}{a:Act}(hx:cx sh st=some x)(k:Ok Z0 w0 O ψ0 Z ψ st.heap.get w)(t:cK Z ψ st.heap.get w n (look st.tmps) a) :
  ∃Z' ψ',Ok Z0 w0 O ψ0 Z' ψ' (ao sh x).heap.get w∧cK Z' ψ' (ao sh x).heap.get w n (look (ao sh x).tmps) a:=by
 unfold cx at hx
 split at hx
 ·cases hx
 rename_i ids rm
 split at hx
 ·rename_i xv xb xr hv hb hr BF
  cases hx
  simp only [Bool.and_eq_true] at BF
  obtain ⟨FA,zh,abR,abS⟩:=BF
  obtain ⟨hlen,zj⟩:=iI _ _ _ hb
  have SL:(sh.boxes.map (·.2.1)).length=sh.bs.length:=by simp [Shape.bs]
  let L:List wz:=cm sh.bs st.heap ids (sh.boxes.map (·.2.1)) 9000 xb++eQ st sh.rows xr
  have eH:dn L=(ao sh (xv,xb,xr)).heap:=by
   show dn (_++_)=_
   rw [lW,iH _ _ _ _ _ _ hb SL,tQ];rfl
  have eN:L.map (·.1)=qB sh:=by
   show (_++_:List wz).map _=_
   rw [List.map_append,gr _ _ _ _ _ _ hb SL,rO];rfl
  have eS:L.filterMap (·.2.1)=EU st sh ids:=by
   show (_++_:List wz).filterMap _=_
   rw [List.filterMap_append,jQ _ _ _ _ _ _ hb SL,wL];rfl
  have hn:b4 (L.map (·.1))=true:=by rw [eN];exact zh
  have iC:=xz (ψ:=ψ) hn
  have hz:∀b,Z b→o8 Z ψ st.heap.get (xt st sh ids) b:=fun b hb=>.inl hb
  have HJ:=(qN FA).2 st.heap
  have g':Good (o8 Z ψ st.heap.get (xt st sh ids)) (ed ψ L) (dn L).get w w0.heap.size O:=by
   refine vc k.dD FA hn eS fun e he => ?_
   rcases List.mem_append.1 he with he | he
   ·exact lf k.dD hz sh.bs ids _ 9000 xb hb (fun id b bO h1 h2=>.inr ⟨id,List.mem_append_right _ bO,h1,h2⟩) (fun s hs=>HJ s (List.mem_append_left _ hs)) (fun e he=>iC e (List.mem_append_left _ he)) e he
   ·exact zB sh.rows xr hr (fun s hs=>HJ s (List.mem_append_right _ hs)) e he
  have Nd:∀p∈ids.zip (sh.boxes.map (·.2.1)),(dn L).get p.2≠none→ed ψ L p.2=ψ p.1:=fun p hp bh=>by
   obtain ⟨o,ho⟩:=jR sh.bs ids (sh.boxes.map (·.2.1)) 9000 xb (hh:=st.heap) hlen p hp
   exact iC (p.2,some p.1,o) (List.mem_append_left _ ho) bh
  have uY:∀p∈ids.zip (sh.boxes.map (·.2.1)),st.heap.get p.1≠none:=fun p hp=>zj _ (List.of_mem_zip hp).1
  refine ⟨o8 Z ψ st.heap.get (xt st sh ids),ed ψ L,?_,?_⟩
  ·rw [←eH]
   refine ⟨g',fun b hb=>.inl (k.fj b hb),fun b hb => ?_,k.os,k.tape,k.output,k.size,k.block,fun i hi bh => ?_⟩
   ·rcases JM hb with h1 | ⟨id,h1,h2⟩
    ·exact k.dU b h1
    ·exact .inr (k.dD.live id b h1 h2).2.symm
   ·obtain ⟨o,ho⟩:=Option.ne_none_iff_exists'.1 bh
    obtain ⟨s,hm⟩:=mU ho
    have iM:i∈qB sh:=by rw [←eN];exact List.mem_map.2 ⟨_,hm,rfl⟩
    have h1:=List.all_eq_true.1 abR i iM
    simp only [Bool.or_eq_true,decide_eq_true_eq] at h1
    rcases h1 with (h1 | h1) | h1
    ·omega
    ·obtain ⟨p,hp,he⟩:=List.any_eq_true.1 h1
     simp only [Bool.and_eq_true,beq_iff_eq] at he
     have h2:=Nd p hp (by rw [he.2];exact bh)
     rw [he.1,he.2] at h2
     rw [h2]
     exact k.fix i hi (by have:=uY p hp;rwa [he.1] at this)
    ·obtain ⟨o',my⟩:=tT sh.rows xr h1
     have h2:ed ψ L i=ψ i:=iC (i,some i,o') (List.mem_append_right _ my) bh
     rw [h2]
     exact k.fix i hi (rQ sh.rows xr hr h1)
  ·rw [←eH]
   refine eg (fun p hp => ?_) t.size t.defers
   simp only [ao] at hp
   rcases List.mem_append.1 hp with hp | hp
   ·exact tR k.dD t hz sh.w9 xv hv (fun id b bO h1 h2=>.inr ⟨id,List.mem_append_left _ bO,h1,h2⟩) p hp
   ·rcases List.mem_append.1 hp with hp | hp
    ·exact rP t sh.boxes ids rm zj Nd p hp
    ·rcases List.mem_append.1 hp with hp | hp
     ·exact wM t uY Nd sh.fns abS p hp
     ·exact tS t sh.rows xr hr (fun e he=>iC e (List.mem_append_right _ he)) p hp
 ·cases hx
end Go.Vs
namespace Go.Vs
variable {P:Program} {Eqs:TypeId→Option K} {Sg:FuncId→Option aJ} {F:(f:FuncId)→(g:aJ)→g.A→Option g.B} {R:Type}
variable {Z Z' Z0:Nat→Prop} {ψ ψ' ψ0:Nat→Value} {h h':Hp} {w w' w0:World} {B0:Nat} {O N:Nat→Prop}
def Reach(P:Program)(b:Frame)(cs:List Frame)(sP:Act→World→Prop)(m:Machine):Prop:=∃a' w' todo,sP a' w'∧Steps P m (lone { b.at a' todo with mode:=.returning } cs w')
theorem Reach.head{b:Frame}{cs:List Frame}{sP:Act→World→Prop}{m m':Machine}(h:step P m=.next m')(r:Reach P b cs sP m'):Reach P b cs sP m:=by
 obtain ⟨a,w,todo,h1,h2⟩:=r
 exact ⟨a,w,todo,h1,.head h h2⟩
theorem Reach.steps{b:Frame}{cs:List Frame}{sP:Act→World→Prop}{m m':Machine}(h:Steps P m m')(r:Reach P b cs sP m'):Reach P b cs sP m:=by
 obtain ⟨a,w,todo,h1,h2⟩:=r
 exact ⟨a,w,todo,h1,h.trans h2⟩
theorem pV(V:Env P Eqs Sg F)(hm:P.follows .mixedOrders=true){n:Nat}{ann:Nat→Option Shape}{J:(sh:Shape)→List Item→sh.T→Option R}{ret:St→Option R}{r:R}{b:Frame}{cs:List Frame}{sP:Act→World→Prop}
  (hJ:∀sh c k x Z ψ a w,J sh (.inLoop c::k) x=some r→Ok Z0 w0 O ψ0 Z ψ (ao sh x).heap.get w→cK Z ψ (ao sh x).heap.get w n (look (ao sh x).tmps) a→Reach P b cs sP (lone (b.at a (.code c::.inLoop c::k)) cs w))
  (rp:∀st Z ψ a w,ret st=some r→Ok Z0 w0 O ψ0 Z ψ st.heap.get w→cK Z ψ st.heap.get w n (look st.tmps) a→sP a w) :
  ∀(fu:Nat) (items:List Item) (st:St) (Z:Nat→Prop) (ψ:Nat→Value) (a:Act) (w:World),ax P Eqs Sg F n ann J ret fu items st=some r→Ok Z0 w0 O ψ0 Z ψ st.heap.get w→cK Z ψ st.heap.get w n (look st.tmps) a →
   Reach P b cs sP (lone (b.at a items) cs w)
 | 0,items,st,Z,ψ,a,w,hx,k,t=>by
  cases items<;>simp only [ax] at hx<;>cases hx
 | fu+1,[],st,Z,ψ,a,w,hx,k,t=>⟨a,w,[],rp st Z ψ a w (by simpa only [ax] using hx) k t,.one step_end⟩
 | fu+1,it::Li,st,Z,ψ,a,w,hx,k,t=>by
  have ih:=pV V hm (ann:=ann) hJ rp fu
  have loop:∀c,(match ann (qC c) with
    | none=>none
    | some sh=>match cx sh st with
     | some x=>J sh (.inLoop c::Li) x
     | none=>none)=some r→Reach P b cs sP (lone (b.at a (.code c::.inLoop c::Li)) cs w):=fun c hx=>by
   split at hx
   ·cases hx
   ·rename_i sh hsh
    split at hx
    ·rename_i x hxx
     obtain ⟨Z',ψ',k',t'⟩:=fJ hxx k t
     exact hJ sh c Li x Z' ψ' a w hx k' t'
    ·cases hx
  cases it with
  | inBlock id=>exact .head step_inBlock (ih Li st Z ψ a w (by simpa only [ax] using hx) k t)
  | inScope c=>exact .head step_inScope (ih Li st Z ψ a w (by simpa only [ax] using hx) k t)
  | inLoop c=>exact .head step_inLoop (loop c (by simp only [ax] at hx;exact hx))
  | code c =>
   cases c with
   | skip=>exact .head step_skip (ih Li st Z ψ a w (by simpa only [ax] using hx) k t)
   | label l=>exact .head step_label (ih Li st Z ψ a w (by simpa only [ax] using hx) k t)
   | seq x y=>exact .head step_seq (ih _ st Z ψ a w (by simpa only [ax] using hx) k t)
   | cond c x y =>
    simp only [ax] at hx
    split at hx
    ·rename_i tt ht
     have h1:=pS t c
     rw [ht] at h1
     simp only [av] at h1
     cases tt with
     | true=>exact .head (step_cond h1) (ih _ st Z ψ a w hx k t)
     | false=>exact .head (step_cond h1) (ih _ st Z ψ a w hx k t)
    ·cases hx
   | scope c=>exact .head step_scope (ih _ st Z ψ a w (by simpa only [ax] using hx) k t)
   | block id c=>exact .head step_block (ih _ st Z ψ a w (by simpa only [ax] using hx) k t)
   | loop c =>
    simp only [ax] at hx
    cases fu with
    | zero=>simp only [ax] at hx;cases hx
    | succ fu=>exact .head step_loop (loop c (by simp only [ax] at hx;exact hx))
   | exit id =>
    simp only [ax] at hx
    split at hx
    ·rename_i k' hk;exact .head (step_exit hk) (ih _ st Z ψ a w hx k t)
    ·cases hx
   | ret=>exact ⟨a,w,_,rp st Z ψ a w (by simpa only [ax] using hx) k t,.one step_ret⟩
   | region id ops draw =>
    simp only [ax] at hx
    have hw:=DS V hm (Q:=fun e a w=>e=.normal∧∃dS Z ψ,ax P Eqs Sg F n ann J ret fu Li dS=some r∧Ok Z0 w0 O ψ0 Z ψ dS.heap.get w∧cK Z ψ dS.heap.get w n (look dS.tmps) a) hx k t (fun dS Z ψ a w h1 h2 h3=>⟨rfl,dS,Z,ψ,h1,h2,h3⟩)
    obtain ⟨e,a',w',⟨rfl,dS,Z',ψ',h1,h2,h3⟩,Nc⟩:=hw b Li cs
    exact .steps Nc (ih Li dS Z' ψ' a' w' h1 h2 h3)
   | _=>simp only [ax] at hx;cases hx
  | _=>simp only [ax] at hx;cases hx
theorem pW{hh:Heap}{n:Nat}{s:List (Nat×AV)}{a:Act}(g:Good Z ψ hh.get w B0 O)(t:cK Z ψ hh.get w n (look s) a):∀(l:List ResultVar) (acc:Array Value) (vs:List AV),wi P hh s l=some vs →
  ∃us,(l.foldlM (fun (bs:Array Value) r=>do let y ←(match r with | .tmp t=>pure (a.tmps.getD t undef) | .cell p ty=>do loadVar ty (←asAddr (a.tmps.getD p undef)):Sem Value);pure (bs.push y)) acc:Sem (Array Value)).run P w=.ok (acc++us.toArray) w∧an Z ψ hh.get w vs us
 | [],acc,vs,hx=>by
  simp only [wi] at hx
  cases hx
  exact ⟨[],by simp,by simp only [an]⟩
 | .tmp d::l,acc,vs,hx=>by
  simp only [wi] at hx
  split at hx
  ·rename_i gu h1
   cases hx
   obtain ⟨us,h2,h3⟩:=pW g t l (acc.push (a.tmps.getD d undef)) gu h1
   refine ⟨a.tmps.getD d undef::us,?_,by simp only [an];exact ⟨_,_,rfl,t.rep d,h3⟩⟩
   simp only [List.foldlM_cons,Sem.run_bind,Sem.run_pure,Result.andThen_ok]
   rw [h2];simp
  ·cases hx
 | .cell d ty::l,acc,vs,hx=>by
  simp only [wi] at hx
  split at hx
  ·rename_i id sz off hd
   split at hx
   ·rename_i bt cs hg
    split at hx
    ·rename_i v gu hv h1
     cases hx
     have h4:=t.rep d
     rw [hd] at h4
     simp only [av] at h4
     obtain ⟨ad,h5,h6⟩:=h4
     obtain ⟨gg,ws,e1,e2,e3,e4⟩:=g.box id bt cs hg
     have h7:=h6 (by rw [hg];simp)
     rw [e1] at h7
     simp only [QK,Nat.zero_mul,Nat.zero_add] at h7
     subst h7
     obtain ⟨V,h8,h9⟩:=jn (a:=⟨gg,off,none⟩) (e3.drop off) (fun j u hu=>by
      rw [cf];simp only [World.cell?,e2];rw [List.getElem?_drop] at hu;simpa using hu) hv
     have mv:(loadVar ty ⟨gg,off,none⟩).run P w=.ok V w:=by
      have:=h8
      simpa [Instr.loadAt,Instr.sureAddr] using this
     obtain ⟨us,h2,h3⟩:=pW g t l (acc.push V) gu h1
     refine ⟨V::us,?_,by simp only [an];exact ⟨_,_,rfl,h9,h3⟩⟩
     have xc:(asAddr (a.tmps.getD d undef)).run P w=.ok ⟨gg,off,none⟩ w:=by rw [h5];rfl
     simp only [List.foldlM_cons,Sem.run_bind,xc,Sem.run_pure,Result.andThen_ok,mv]
     rw [h2];simp
    ·cases hx
   ·cases hx
  ·cases hx
theorem FB{fn:Func}{hh:Heap}{n:Nat}{s:List (Nat×AV)}{a:Act}{vs:List AV}(g:Good Z ψ hh.get w B0 O)(t:cK Z ψ hh.get w n (look s) a)(hx:wi P hh s fn.results.toList=some vs) :
  ∃us v,(results fn a.tmps).run P w=.ok v w∧an Z ψ hh.get w vs us∧v=(if us.length=1 then us.headD undef else .tuple us.toArray):=by
 obtain ⟨us,h1,h2⟩:=pW (P:=P) g t fn.results.toList #[] vs hx
 refine ⟨us,_,?_,h2,rfl⟩
 have h3:(fn.results.mapM fun r=>(match r with | .tmp t=>pure (a.tmps.getD t undef) | .cell p ty=>do loadVar ty (←asAddr (a.tmps.getD p undef)):Sem Value)).run P w=.ok us.toArray w:=by
  rw [Array.mapM_eq_foldlM,←Array.foldlM_toList]
  simpa using h1
 have h4:results fn a.tmps=(do
   let vs ←fn.results.mapM fun r=>(match r with | .tmp t=>pure (a.tmps.getD t undef) | .cell p ty=>do loadVar ty (←asAddr (a.tmps.getD p undef)):Sem Value)
   pure (if h:vs.size=1 then vs[0] else .tuple vs)):=rfl
 rw [h4,Sem.run_bind,h3,Result.andThen_ok,Sem.run_pure]
 congr 1
 by_cases h5:us.length=1
 ·obtain ⟨u,rfl⟩:=List.length_eq_one_iff.1 h5
  simp
 ·rw [dif_neg (by simpa using h5),if_neg h5]
end Go.Vs
namespace Go.Vs
variable {P:Program} {Eqs:TypeId→Option K} {Sg:FuncId→Option aJ} {F:(f:FuncId)→(g:aJ)→g.A→Option g.B} {R:Type}
variable {Z Z' Z0:Nat→Prop} {ψ ψ' ψ0:Nat→Value} {h h':Hp} {w w' w0:World} {B0:Nat} {O N:Nat→Prop}
theorem fK:∀(ps:List PK) (ids:List Nat) (s:Nat) (x:EP (kf ps)) (us:List Value),an Z ψ h w ((aN ps ids s x).map (·.2)) us→us.length=ps.length∧∀p∈aN ps ids s x,∃j u,p.1=s+j∧us[j]? = some u∧av Z ψ h w p.2 u
 | [],ids,s,x,us,hr=>by
  simp only [aN,List.map_nil,an] at hr
  subst hr
  exact ⟨rfl,fun p hp=>by simp [aN] at hp⟩
 | .val k::ps,ids,s,x,us,hr=>by
  simp only [aN,List.map_cons,an] at hr
  obtain ⟨u,iz,rfl,h1,h2⟩:=hr
  obtain ⟨h3,h4⟩:=fK ps ids (s+1) x.2 iz h2
  refine ⟨by simp [h3],fun p hp => ?_⟩
  simp only [aN] at hp
  rcases List.mem_cons.1 hp with rfl | hp
  ·exact ⟨0,u,rfl,rfl,h1⟩
  ·obtain ⟨j,u',h5,h6,h7⟩:=h4 p hp
   exact ⟨j+1,u',by omega,by simpa using h6,h7⟩
 | .ref::ps,i::ids,s,x,us,hr=>by
  simp only [aN,List.map_cons,an] at hr
  obtain ⟨u,iz,rfl,h1,h2⟩:=hr
  obtain ⟨h3,h4⟩:=fK ps ids (s+1) x iz h2
  refine ⟨by simp [h3],fun p hp => ?_⟩
  simp only [aN] at hp
  rcases List.mem_cons.1 hp with rfl | hp
  ·exact ⟨0,u,rfl,rfl,h1⟩
  ·obtain ⟨j,u',h5,h6,h7⟩:=h4 p hp
   exact ⟨j+1,u',by omega,by simpa using h6,h7⟩
 | .ref::ps,[],s,x,us,hr=>by
  simp only [aN,List.map_cons,an] at hr
  obtain ⟨u,iz,rfl,h1,h2⟩:=hr
  obtain ⟨h3,h4⟩:=fK ps [] (s+1) x iz h2
  refine ⟨by simp [h3],fun p hp => ?_⟩
  simp only [aN] at hp
  rcases List.mem_cons.1 hp with rfl | hp
  ·exact ⟨0,u,rfl,rfl,h1⟩
  ·obtain ⟨j,u',h5,h6,h7⟩:=h4 p hp
   exact ⟨j+1,u',by omega,by simpa using h6,h7⟩
 | .own::ps,i::ids,s,x,us,hr=>by
  simp only [aN,List.map_cons,an] at hr
  obtain ⟨u,iz,rfl,h1,h2⟩:=hr
  obtain ⟨h3,h4⟩:=fK ps ids (s+1) x iz h2
  refine ⟨by simp [h3],fun p hp => ?_⟩
  simp only [aN] at hp
  rcases List.mem_cons.1 hp with rfl | hp
  ·exact ⟨0,u,rfl,rfl,h1⟩
  ·obtain ⟨j,u',h5,h6,h7⟩:=h4 p hp
   exact ⟨j+1,u',by omega,by simpa using h6,h7⟩
 | .own::ps,[],s,x,us,hr=>by
  simp only [aN,List.map_cons,an] at hr
  obtain ⟨u,iz,rfl,h1,h2⟩:=hr
  obtain ⟨h3,h4⟩:=fK ps [] (s+1) x iz h2
  refine ⟨by simp [h3],fun p hp => ?_⟩
  simp only [aN] at hp
  rcases List.mem_cons.1 hp with rfl | hp
  ·exact ⟨0,u,rfl,rfl,h1⟩
  ·obtain ⟨j,u',h5,h6,h7⟩:=h4 p hp
   exact ⟨j+1,u',by omega,by simpa using h6,h7⟩
 | .EO f m::ps,ids,s,x,us,hr=>by
  simp only [aN,List.map_cons,an] at hr
  obtain ⟨u,iz,rfl,h1,h2⟩:=hr
  obtain ⟨h3,h4⟩:=fK ps (ids.drop m) (s+1) x iz h2
  refine ⟨by simp [h3],fun p hp => ?_⟩
  simp only [aN] at hp
  rcases List.mem_cons.1 hp with rfl | hp
  ·exact ⟨0,u,rfl,rfl,h1⟩
  ·obtain ⟨j,u',h5,h6,h7⟩:=h4 p hp
   exact ⟨j+1,u',by omega,by simpa using h6,h7⟩
 | .agg m::ps,ids,s,x,us,hr=>by
  simp only [aN,List.map_cons,an] at hr
  obtain ⟨u,iz,rfl,h1,h2⟩:=hr
  obtain ⟨h3,h4⟩:=fK ps (ids.drop m) (s+1) x iz h2
  refine ⟨by simp [h3],fun p hp => ?_⟩
  simp only [aN] at hp
  rcases List.mem_cons.1 hp with rfl | hp
  ·exact ⟨0,u,rfl,rfl,h1⟩
  ·obtain ⟨j,u',h5,h6,h7⟩:=h4 p hp
   exact ⟨j+1,u',by omega,by simpa using h6,h7⟩
section
variable {An:FuncId→Nat→Option Shape}
theorem zF(V:Env P Eqs Sg F)(hm:P.follows .mixedOrders=true){f:FuncId}{g:aJ}{fn:Func}{y:g.B}{b:Frame}{cs:List Frame}{sP:Act→World→Prop}
  (rp:∀st Z ψ a w,pI P g fn st=some y→Ok Z0 w0 O ψ0 Z ψ st.heap.get w→cK Z ψ st.heap.get w fn.ntmps (look st.tmps) a→sP a w) :
  ∀(n:Nat) (sh:Shape) (c:Code) (k:List Item) (x:sh.T) (Z:Nat→Prop) (ψ:Nat→Value) (a:Act) (w:World),lO P Eqs Sg An F f g fn n sh (.inLoop c::k) x=some y →
   Ok Z0 w0 O ψ0 Z ψ (ao sh x).heap.get w→cK Z ψ (ao sh x).heap.get w fn.ntmps (look (ao sh x).tmps) a→Reach P b cs sP (lone (b.at a (.code c::.inLoop c::k)) cs w)
 | 0,sh,c,k,x,Z,ψ,a,w,hx,_,_=>by simp only [lO] at hx;cases hx
 | n+1,sh,c,k,x,Z,ψ,a,w,hx,ko,t=>by
  simp only [lO] at hx
  exact pV V hm (fun sh c k x Z ψ a w h1 h2 h3=>zF V hm rp n sh c k x Z ψ a w h1 h2 h3) rp fuel _ _ Z ψ a w hx ko t
theorem DT{n i:Nat}(h:i∈aL n):∃j,j<n∧i=1000+20 * j:=by
 unfold aL at h
 obtain ⟨j,h1,rfl⟩:=List.mem_map.1 h
 exact ⟨j,List.mem_range.1 h1,rfl⟩
theorem ND{α:Type}{l:List α}{a:α}(h:a∈l):(a,a)∈l.zip l:=by
 induction l with
 | nil=>cases h
 | cons b r ih =>
  simp only [List.zip_cons_cons]
  rcases List.mem_cons.1 h with rfl | h
  ·exact List.mem_cons_self
  ·exact List.mem_cons_of_mem _ (ih h)
theorem IA(V:Env P Eqs Sg F)(hm:P.follows .mixedOrders=true){f:FuncId}{g:aJ}{n:Nat}{x:g.A}{y:g.B}(hx:HT P Eqs Sg An F f g n x=some y):Cn P f g x y:=by
 intro Z ψ0 w jS hg hr
 unfold HT at hx
 split at hx
 ·cases hx
 rename_i fn c SM
 have hf:P.funcs[f % 1000]? = some fn∧fn.body=some c:=by
  unfold body at SM
  obtain ⟨fn',h1,h2⟩:=Option.bind_eq_some_iff.1 SM
  obtain ⟨c',h3,h4⟩:=Option.map_eq_some_iff.1 h2
  cases h4
  exact ⟨h1,h3⟩
 split at hx
 ·rename_i hle
  simp only [Bool.and_eq_true,decide_eq_true_eq] at hle
  obtain ⟨hlen,Ub⟩:=fK g.ps (aL g.bs.length) 0 x.1 jS hr
  intro cs
  let b:Frame:={ (default:Frame) with fn:=f % 1000,kind:=.normal }
  let a0:Act:={ tmps:=jS.toArray++Array.replicate (fn.ntmps - jS.toArray.size) undef,defers:=[] }
  have Uc:Frame.enter P (f % 1000) jS.toArray .normal=b.at a0 [.code c]:=by
   simp [Frame.enter,Frame.at,hf.1,hf.2,b,a0]
  have ok0:Ok Z w (Own ψ0 (oc g x)) ψ0 Z ψ0 (entry g x).heap.get w :=
   ⟨hg,fun _ h=>h,fun _ h=>.inl h,rfl,rfl,rfl,Nat.le_refl _,fun _ _ _=>rfl,fun _ _ _=>rfl⟩
  have tr0:cK Z ψ0 (entry g x).heap.get w fn.ntmps (look (entry g x).tmps) a0:=by
   refine eg (fun p hp => ?_) (by simp [a0];omega) rfl
   obtain ⟨j,u,h1,h2,h3⟩:=Ub p hp
   rw [h1]
   have hj:j<jS.length:=(List.getElem?_eq_some_iff.1 h2).1
   have:a0.tmps.getD (0+j) undef=u:=by
    rw [Nat.zero_add,Array.getD_eq_getD_getElem?]
    simp only [a0]
    rw [Array.getElem?_append_left (by simpa using hj)]
    simp [h2]
   rw [this];exact h3
  have rp:∀st Z1 mL a w1,pI P g fn st=some y→Ok Z w (Own ψ0 (oc g x)) ψ0 Z1 mL st.heap.get w1→cK Z1 mL st.heap.get w1 fn.ntmps (look st.tmps) a →
    a.defers=[]∧∃v,(results fn a.tmps).run P w1=.ok v w1∧∃v' Z' ψ',Ending.returned v=.returned v'∧(∀b,Z b→Z' b)∧(∀b,Z' b→Z b∨Own ψ0 (oc g x) b∨w.heap.size≤b)∧cS ψ0 (oc g x) w w1 ∧
     Good Z' ψ' (jv g y).get w1 w.heap.size (Own ψ0 (oc g x))∧(∀i∈aL g.bs.length,ψ' i=ψ0 i)∧av Z' ψ' (jv g y).get w1 (eE (aO g.rs (aL g.bs.length) 2000 3000 y.1)) v':=by
   intro st Z1 mL a w1 rp k t
   refine ⟨t.defers,?_⟩
   unfold pI at rp
   split at rp
   ·cases rp
   rename_i vs sw
   split at rp
   ·rename_i y1 y2 hd hb BF
    cases rp
    simp only [Bool.and_eq_true] at BF
    obtain ⟨FA,zh⟩:=BF
    obtain ⟨us,v,h1,h2,h3⟩:=FB (P:=P) k.dD t sw
    have SL:(aL g.bs.length).length=g.bs.length:=by simp [aL]
    let L:List wz:=cm g.bs st.heap (aL g.bs.length) (aL g.bs.length) 2000 y2++cv g.rs vs 3000 y1
    have eH:dn L=jv g (y1,y2):=by
     show dn (_++_)=_
     rw [lW,iH _ _ _ _ _ _ hb SL,fT];rfl
    have eN:L.map (·.1)=pf g:=by
     show (_++_:List wz).map _=_
     rw [List.map_append,gr _ _ _ _ _ _ hb SL,fb];rfl
    have eS:L.filterMap (·.2.1)=cQ g.bs st.heap (aL g.bs.length)++dz g.rs vs:=by
     show (_++_:List wz).filterMap _=_
     rw [List.filterMap_append,jQ _ _ _ _ _ _ hb SL,ic _ _ _ _ hd]
    have hn:b4 (L.map (·.1))=true:=by rw [eN];exact zh
    have iC:=xz (ψ:=mL) hn
    have hz:∀b,Z1 b→o8 Z1 mL st.heap.get (fD g.rs vs++fC g.bs st.heap (aL g.bs.length)) b:=fun b hb=>.inl hb
    have HJ:=(qN FA).2 st.heap
    have g':Good (o8 Z1 mL st.heap.get (fD g.rs vs++fC g.bs st.heap (aL g.bs.length))) (ed mL L) (dn L).get w1 w.heap.size (Own ψ0 (oc g x)):=by
     refine vc k.dD FA hn eS fun e he => ?_
     rcases List.mem_append.1 he with he | he
     ·exact lf k.dD hz g.bs _ _ 2000 y2 hb (fun id b bO h1 h2=>.inr ⟨id,List.mem_append_right _ bO,h1,h2⟩) (fun s hs=>HJ s (List.mem_append_left _ hs)) (fun e he=>iC e (List.mem_append_left _ he)) e he
     ·exact ju g.rs vs 3000 y1 hd (fun s hs=>HJ s (List.mem_append_right _ hs)) e he
    obtain ⟨CA,zj⟩:=iI _ _ _ hb
    have NF:=qO (ids2:=aL g.bs.length) (Z':=o8 Z1 mL st.heap.get (fD g.rs vs++fC g.bs st.heap (aL g.bs.length))) (ψ':=ed mL L) (h':=(dn L).get) k.dD hz hb SL (fun e he=>iC e (List.mem_append_left _ he)) g.rs vs 3000 y1 us hd
     (fun id b bO h1 h2=>.inr ⟨id,List.mem_append_left _ bO,h1,h2⟩) (fun e he=>iC e (List.mem_append_right _ he)) h2
    refine ⟨v,h1,v,o8 Z1 mL st.heap.get (fD g.rs vs++fC g.bs st.heap (aL g.bs.length)),ed mL L,rfl,fun b hb=>.inl (k.fj b hb),fun b hb => ?_,⟨k.os,k.tape,k.output,k.size,k.block⟩,by rw [←eH];exact g',fun i hi => ?_,?_⟩
    ·rcases JM hb with h4 | ⟨id,h4,h5⟩
     ·exact k.dU b h4
     ·exact .inr (k.dD.live id b h4 h5).2.symm
    ·obtain ⟨o,ho⟩:=jR (hh:=st.heap) g.bs (aL g.bs.length) (aL g.bs.length) 2000 y2 CA (i,i) (ND hi)
     rw [ib hn (List.mem_append_left _ ho)]
     obtain ⟨j,h4,h5⟩:=DT hi
     exact k.fix i (by omega) (zj i hi)
    ·rw [←eH]
     have MM:us.length=(aO g.rs (aL g.bs.length) 2000 3000 y1).length:=NF.length.symm
     rw [h3]
     match hE:aO g.rs (aL g.bs.length) 2000 3000 y1,us,NF,MM with
     | [],[],NF,_=>simp only [eE];simp only [av];exact ⟨#[],rfl,by simpa using NF⟩
     | [e1],[u],NF,_ =>
      simp only [an] at NF
      obtain ⟨u',iz,he,h4,_⟩:=NF
      cases he
      simpa [eE] using h4
     | e1::e2::er,u1::u2::ur,NF,_ =>
      simp only [eE,av]
      exact ⟨(u1::u2::ur).toArray,by simp,by simpa using NF⟩
   ·cases rp
  have reach:=pV V hm (b:=b) (cs:=cs) (fun sh c k x Z ψ a w h1 h2 h3=>zF V hm rp n sh c k x Z ψ a w h1 h2 h3) rp fuel _ _ Z ψ0 a0 w hx ok0 tr0
  obtain ⟨a',w',todo,⟨hd,v,tU,hR⟩,hs⟩:=reach
  rw [←Uc] at hs
  exact ⟨.returned v,w',_,hR,hs,rfl,rfl,hd,rfl,fn,hf.1,tU⟩
 ·cases hx
end
theorem FC(hX:∀f g u,Sg f=some g→g.x=some u→gZ P (f % 1000) u){G:(f:FuncId)→(g:aJ)→Option (g.A→Option g.B)}{An:FuncId→Nat→Option Shape}(Bp:∀t k,Eqs t=some k→k0 P t k)(K4:∀f g,Sg f=some g→iJ P (f % 1000))(hm:P.follows .mixedOrders=true)
  (hG:∀f g u x y,Sg f=some g→G f g=some u→u x=some y→Cn P f g x y):∀(m:Nat) f g x y,Sg f=some g→Fn P Eqs Sg An G m f g x=some y→Cn P f g x y
 | 0,f,g,x,y,hs,hx=>by
  simp only [Fn] at hx
  split at hx
  ·rename_i u hu;exact hG f g u x y hs hu hx
  ·cases hx
 | m+1,f,g,x,y,hs,hx=>by
  simp only [Fn] at hx
  split at hx
  ·rename_i u hu;exact hG f g u x y hs hu hx
  ·exact IA ⟨Bp,fun f g x y h1 h2=>FC hX Bp K4 hm hG m f g x y h1 h2,hX,K4⟩ hm hx
end Go.Vs
namespace Go.Vs
abbrev FT:=(f:FuncId)→(g:aJ)→g.A→Option g.B
variable {P:Program} {Eqs:TypeId→Option K} {Sg:FuncId→Option aJ} {R:Type}
def tg(p:Nat→Prop):Prop:=∃m,∀m',m≤m'→p m'
theorem tg.now{p:Nat→Prop}(h:∀m,p m):tg p:=⟨0,fun m _=>h m⟩
theorem tg.and{p q r:Nat→Prop}(h:tg p)(k:tg q)(hr:∀m,p m→q m→r m):tg r:=by
 obtain ⟨a,ha⟩:=h
 obtain ⟨b,hb⟩:=k
 exact ⟨max a b,fun m hm=>hr m (ha m (by omega)) (hb m (by omega))⟩
theorem tg.imp{p r:Nat→Prop}(h:tg p)(hr:∀m,p m→r m):tg r:=by
 obtain ⟨a,ha⟩:=h
 exact ⟨a,fun m hm=>hr m (ha m hm)⟩
def To(A:Nat→FT)(L:FT):Prop:=∀f g x y,L f g x=some y→tg fun m=>A m f g x=some y
def ToK{α:Type}(A:Nat→α→Option R)(L:α→Option R):Prop:=∀x y,L x=some y→tg fun m=>A m x=some y
def ToJ(A:Nat→(sh:Shape)→List Item→sh.T→Option R)(L:(sh:Shape)→List Item→sh.T→Option R):Prop:=∀sh k x y,L sh k x=some y→tg fun m=>A m sh k x=some y
theorem NG(h:Heap)(id:Nat)(f:FuncId)(vs:List AV):(∀F F':FT,iF Sg F h id f vs some=iF Sg F' h id f vs some) ∨
  ∃ff g x,(∀F F':FT,F ff g x=F' ff g x→iF Sg F h id f vs some=iF Sg F' h id f vs some)∧∀F:FT,F ff g x=none→iF Sg F h id f vs some=none:=by
 unfold iF
 split
 ·exact .inl fun _ _=>rfl
 rename_i g hg
 split
 ·exact .inl fun _ _=>rfl
 split
 ·split
  ·split
   ·rename_i x b hx hb hp
    refine .inr ⟨_,g,(x,b),fun F F' e=>by rw [e],fun F e=>by rw [e];rfl⟩
   ·exact .inl fun _ _=>rfl
  ·split
   ·rename_i x b hx hb hp
    refine .inr ⟨_,g,(x,b),fun F F' e=>by rw [e],fun F e=>by rw [e];rfl⟩
   ·exact .inl fun _ _=>rfl
 ·exact .inl fun _ _=>rfl
theorem Rd{A:Nat→FT}{L:FT}(hA:To A L){h:Heap}{id:Nat}{f:FuncId}{vs:List AV}{e:bE}(he:iF Sg L h id f vs some=some e):tg fun m=>iF Sg (A m) h id f vs some=some e:=by
 rcases NG (Sg:=Sg) h id f vs with k | ⟨ff,g,x,k1,k2⟩
 ·exact .now fun m=>(k _ _).trans he
 ·cases hy:L ff g x with
  | none=>rw [k2 L hy] at he;cases he
  | some y=>exact (hA _ _ _ _ hy).imp fun m hm=>(k1 (A m) L (hm.trans hy.symm)).trans he
theorem FD{A:Nat→FT}{L:FT}(hA:To A L){id:Nat}{h:Heap}{s:List (Nat×AV)}{o:Oper}{e:bE}(he:cI P Eqs Sg L id h s o some=some e):tg fun m=>cI P Eqs Sg (A m) id h s o some=some e:=by
 obtain ⟨dst,op,type,pos,after,guard⟩:=o
 cases op with
 | call c =>
  obtain ⟨callee,args,argTypes⟩:=c
  cases callee with
  | value f =>
   simp only [cI] at he
   split at he
   ·rename_i f' cap hf
    refine (Rd hA he).imp fun m hm => ?_
    simp only [cI,hf]
    exact hm
   ·cases he
  | builtin bi=>cases bi<;>exact .now fun m=>he
  | invoke _ _=>exact .now fun m=>he
 | unOp u _ _=>cases u<;>exact .now fun m=>he
 | makeFunc fn _ _=>cases fn<;>exact .now fun m=>he
 | makeMap _ r=>cases r<;>exact .now fun m=>he
 | next _ b=>cases b<;>exact .now fun m=>he
 | _=>exact .now fun m=>he
theorem tg.all{p:Nat→Nat→Prop}:∀(n:Nat),(∀j,j<n→tg (p j))→tg fun m=>∀j,j<n→p j m
 | 0,_=>.now fun m j hj=>absurd hj (Nat.not_lt_zero _)
 | n+1,h=>(tg.all n fun j hj=>h j (by omega)).and (h n (by omega)) fun m h1 h2 j hj=>by
  by_cases e:j=n
  ·subst e;exact h2
  ·exact h1 j (by omega)
theorem IB{h:Heap}{x:AV}{K:Nat→AV→Heap→Option R}{KL:AV→Heap→Option R}(hK:∀v h y,KL v h=some y→tg fun m=>K m v h=some y){r:R}(he:kA h x KL=some r):tg fun m=>kA h x (K m)=some r:=by
 unfold kA at he ⊢
 split at he
 ·rename_i id
  split at he
  ·rename_i kk vk p hg
   try simp only [hg]
   cases hp:p.2 with
   | nil =>
    simp only [hp,List.isEmpty_nil,cond_true] at he ⊢
    exact hK _ _ _ he
   | cons c l =>
    simp only [hp,List.isEmpty_cons,cond_false] at he ⊢
    have h1:=m0 he
    refine (tg.all _ fun j hj => ?_).imp fun m hm=>l8 (by simp) hm
    have h2:=h1 j hj
    rw [List.getElem?_eq_getElem hj] at h2 ⊢
    simp only [Option.bind_some] at h2 ⊢
    exact hK _ _ _ h2
  ·cases he
 ·cases he
theorem NH{h:Heap}{x:AV}{want:Bool}{K:Nat→AV→Option R}{KL:AV→Option R}(hK:∀v y,KL v=some y→tg fun m=>K m v=some y){r:R}(he:tp h x want KL=some r):tg fun m=>tp h x want (K m)=some r:=by
 unfold tp at he ⊢
 split at he
 ·exact hK _ _ he
 ·rename_i xs hv
  cases qF:xs.isEmpty with
  | true =>
   simp only [qF,cond_true] at he ⊢
   have h1:=m0 he
   exact (tg.all _ fun j hj=>hK _ _ (h1 j hj)).imp fun m hm=>l8 (by decide) hm
  | false =>
   simp only [qF,cond_false] at he ⊢
   exact hK _ _ he
 ·cases he
theorem zG{A:Nat→FT}{L:FT}(hA:To A L){rid:Nat}{draw:Bool}{ops:Array Oper}{b:Array Nat}{K:Nat→St→Option R}{KL:St→Option R}(hK:ToK K KL) :
  ∀(l:List (Nat×Oper)) (st:St) (r:R),bz P Eqs Sg L rid draw ops b l st KL=some r→tg fun m=>bz P Eqs Sg (A m) rid draw ops b l st (K m)=some r
 | [],st,r,he=>hK st r (by simpa only [bz] using he)
 | (i,o)::l,st,r,he=>by
  have ih:=zG hA (rid:=rid) (draw:=draw) (ops:=ops) (b:=b) hK l
  have run:∀st:St,(match (if draw then none else nN P (opId rid i) st o) with
    | some dS=>bz P Eqs Sg L rid draw ops b l dS KL
    | none=>match (if draw then none else tn o) with
    | some x=>kA st.heap (ρ st.tmps x) fun v h=>bz P Eqs Sg L rid draw ops b l (({ st with heap:=h }:St).put o.dst v) KL
    | none=>match (if draw then none else isNil P o) with
    | some (x,want)=>tp st.heap (ρ st.tmps x) want fun v=>bz P Eqs Sg L rid draw ops b l (st.put o.dst v) KL
    | none=>if draw then cI P Eqs Sg L (opId rid i) (gk (ahead rid (b.getD i 0) st.heap) (gm ops b i st.tmps o)) st.tmps o fun e =>
     if (fZ true rid ops b i (b.getD i 0) (gh (gm ops b i st.tmps o) (ahead rid (b.getD i 0) st.heap) e)&&mq (gm ops b i st.tmps o) e)=true then
      bz P Eqs Sg L rid draw ops b l ({ st with heap:=match gh (gm ops b i st.tmps o) (ahead rid (b.getD i 0) st.heap) e with | .wr _ h=>h | e=>e.h st.heap }.put o.dst e.v) KL else none
     else cI P Eqs Sg L (opId rid i) st.heap st.tmps o fun e =>
     if fZ false rid ops b i (2 ^ i - 1) e then bz P Eqs Sg L rid draw ops b l ({ st with heap:=match e with | .wr _ h=>h | e=>e.h st.heap }.put o.dst e.v) KL else none)=some r →
    tg fun m=>(match (if draw then none else nN P (opId rid i) st o) with
    | some dS=>bz P Eqs Sg (A m) rid draw ops b l dS (K m)
    | none=>match (if draw then none else tn o) with
    | some x=>kA st.heap (ρ st.tmps x) fun v h=>bz P Eqs Sg (A m) rid draw ops b l (({ st with heap:=h }:St).put o.dst v) (K m)
    | none=>match (if draw then none else isNil P o) with
    | some (x,want)=>tp st.heap (ρ st.tmps x) want fun v=>bz P Eqs Sg (A m) rid draw ops b l (st.put o.dst v) (K m)
    | none=>if draw then cI P Eqs Sg (A m) (opId rid i) (gk (ahead rid (b.getD i 0) st.heap) (gm ops b i st.tmps o)) st.tmps o fun e =>
     if (fZ true rid ops b i (b.getD i 0) (gh (gm ops b i st.tmps o) (ahead rid (b.getD i 0) st.heap) e)&&mq (gm ops b i st.tmps o) e)=true then
      bz P Eqs Sg (A m) rid draw ops b l ({ st with heap:=match gh (gm ops b i st.tmps o) (ahead rid (b.getD i 0) st.heap) e with | .wr _ h=>h | e=>e.h st.heap }.put o.dst e.v) (K m) else none
     else cI P Eqs Sg (A m) (opId rid i) st.heap st.tmps o fun e =>
     if fZ false rid ops b i (2 ^ i - 1) e then bz P Eqs Sg (A m) rid draw ops b l ({ st with heap:=match e with | .wr _ h=>h | e=>e.h st.heap }.put o.dst e.v) (K m) else none)=some r:=by
   intro st h
   split at h
   ·rename_i dS mZ
    try simp only [mZ]
    exact ih _ r h
   rename_i mZ
   split at h
   ·rename_i x Cs
    try simp only [mZ,Cs]
    exact IB (fun v h y hy=>ih _ y hy) h
   rename_i Cs
   split at h
   ·rename_i x want WV
    try simp only [mZ,Cs,WV]
    exact NH (fun v y hy=>ih _ y hy) h
   rename_i WV
   try simp only [mZ,Cs,WV]
   cases draw with
   | true =>
    simp only [if_true] at h ⊢
    rw [kL] at h
    obtain ⟨e,h1,h2⟩:=Option.bind_eq_some_iff.1 h
    by_cases hc:(fZ true rid ops b i (b.getD i 0) (gh (gm ops b i st.tmps o) (ahead rid (b.getD i 0) st.heap) e)&&mq (gm ops b i st.tmps o) e)=true
    ·rw [if_pos hc] at h2
     refine (FD hA h1).and (ih _ r h2) fun m h3 h4 => ?_
     rw [kL,h3,Option.bind_some,if_pos hc]
     exact h4
    ·rw [if_neg hc] at h2;cases h2
   | false =>
    simp only [Bool.false_eq_true,if_false] at h ⊢
    rw [kL] at h
    obtain ⟨e,h1,h2⟩:=Option.bind_eq_some_iff.1 h
    by_cases hc:fZ false rid ops b i (2 ^ i - 1) e=true
    ·rw [if_pos hc] at h2
     refine (FD hA h1).and (ih _ r h2) fun m h3 h4 => ?_
     rw [kL,h3,Option.bind_some,if_pos hc]
     exact h4
    ·rw [if_neg hc] at h2;cases h2
  simp only [bz] at he ⊢
  split at he
  ·rename_i hg
   try simp only [hg]
   exact run _ he
  ·rename_i j want hg
   try simp only [hg]
   split at he
   ·cases he
   ·rename_i d hd
    try simp only [hd]
    split at he
    ·rename_i t ht
     try simp only [ht]
     cases t<;>cases want<;>simp only [cond_true,cond_false,if_true,if_false,Bool.false_eq_true] at he ⊢<;>first | exact run _ he | exact ih _ r he
    ·rename_i ht
     try simp only [ht]
     exact ih _ r he
    ·cases he
theorem BM{A:Nat→FT}{L:FT}(hA:To A L){n rid:Nat}{ops:Array Oper}{draw:Bool}{K:Nat→St→Option R}{KL:St→Option R}(hK:ToK K KL){st:St}{r:R}
  (he:gT P Eqs Sg L n rid ops draw st KL=some r):tg fun m=>gT P Eqs Sg (A m) n rid ops draw st (K m)=some r:=by
 unfold gT at he ⊢
 by_cases hc:((ops.all fun o=>gS n o)&&(!draw || (tj ops (if draw then Region.before ops else #[])&&(yw ops (if draw then Region.before ops else #[])&&b4 (ops.toList.filterMap (·.dst)))))&&decide (ops.size≤128))=true
 ·dsimp only at he ⊢
  rw [if_pos hc] at he
  refine (zG hA hK _ _ r he).imp fun m hm => ?_
  rw [if_pos hc]
  exact hm
 ·dsimp only at he
  rw [if_neg hc] at he;cases he
theorem fV{A:Nat→FT}{L:FT}(hA:To A L){n:Nat}{ann:Nat→Option Shape}{J:Nat→(sh:Shape)→List Item→sh.T→Option R}{JL:(sh:Shape)→List Item→sh.T→Option R}(hJ:ToJ J JL){ret:St→Option R} :
  ∀(fu:Nat) (items:List Item) (st:St) (r:R),ax P Eqs Sg L n ann JL ret fu items st=some r→tg fun m=>ax P Eqs Sg (A m) n ann (J m) ret fu items st=some r
 | 0,items,st,r,he=>by cases items<;>simp only [ax] at he<;>cases he
 | fu+1,[],st,r,he=>.now fun m=>by simpa only [ax] using he
 | fu+1,it::Li,st,r,he=>by
  have ih:=fV hA (n:=n) (ann:=ann) hJ (ret:=ret) fu
  cases it with
  | inBlock id=>simp only [ax] at he ⊢;exact ih _ _ _ he
  | inScope c=>simp only [ax] at he ⊢;exact ih _ _ _ he
  | inLoop c =>
   simp only [ax] at he ⊢
   split at he
   ·cases he
   ·rename_i sh hsh
    try simp only [hsh]
    split at he
    ·rename_i x hx
     try simp only [hx]
     exact hJ _ _ _ _ he
    ·cases he
  | code c =>
   cases c with
   | cond c x y =>
    simp only [ax] at he ⊢
    split at he
    ·rename_i t ht
     try simp only [ht]
     cases t<;>simp only [cond_true,cond_false] at he ⊢<;>exact ih _ _ _ he
    ·cases he
   | exit id =>
    simp only [ax] at he ⊢
    split at he
    ·rename_i k' hk
     try simp only [hk]
     exact ih _ _ _ he
    ·cases he
   | ret=>exact .now fun m=>by simpa only [ax] using he
   | region id ops draw =>
    simp only [ax] at he ⊢
    exact BM hA (K:=fun m dS=>ax P Eqs Sg (A m) n ann (J m) ret fu Li dS) (fun st y h=>ih Li st y h) he
   | skip=>simp only [ax] at he ⊢;exact ih _ _ _ he
   | label l=>simp only [ax] at he ⊢;exact ih _ _ _ he
   | seq x y=>simp only [ax] at he ⊢;exact ih _ _ _ he
   | block id c=>simp only [ax] at he ⊢;exact ih _ _ _ he
   | scope c=>simp only [ax] at he ⊢;exact ih _ _ _ he
   | loop c=>simp only [ax] at he ⊢;exact ih _ _ _ he
   | _=>simp only [ax] at he;cases he
  | _=>simp only [ax] at he;cases he
section
variable {An:FuncId→Nat→Option Shape} {G:(f:FuncId)→(g:aJ)→Option (g.A→Option g.B)}
def Ud(F F':FT):Prop:=∀f g x y,F f g x=some y→F' f g x=some y
theorem Ud.to{F F':FT}(h:Ud F F'):To (fun _=>F') F:=fun f g x y hy=>.now fun _=>h f g x y hy
theorem tg.get{p:Prop}(h:tg fun _=>p):p:=by obtain ⟨m,hm⟩:=h;exact hm m (Nat.le_refl _)
theorem m6{F F':FT}(h:Ud F F'){f:FuncId}{g:aJ}{fn:Func}:∀(n n':Nat) (sh:Shape) (k:List Item) (x:sh.T) (y:g.B),n≤n'→lO P Eqs Sg An F f g fn n sh k x=some y→lO P Eqs Sg An F' f g fn n' sh k x=some y
 | 0,_,_,_,_,_,_,hx=>by simp only [lO] at hx;cases hx
 | n+1,0,_,_,_,_,hn,_=>by omega
 | n+1,n'+1,sh,k,x,y,hn,hx=>by
  cases k with
  | nil=>simp only [lO] at hx;cases hx
  | cons it k =>
   cases it with
   | inLoop c =>
    simp only [lO] at hx ⊢
    exact (fV h.to (J:=fun _=>lO P Eqs Sg An F' f g fn n') (JL:=lO P Eqs Sg An F f g fn n) (fun sh k x y hy=>.now fun _=>m6 h n n' sh k x y (by omega) hy) _ _ _ _ hx).get
   | _=>simp only [lO] at hx;cases hx
theorem Lj{F F':FT}(h:Ud F F'){f:FuncId}{g:aJ}{n n':Nat}{x:g.A}{y:g.B}(hn:n≤n')(hx:HT P Eqs Sg An F f g n x=some y):HT P Eqs Sg An F' f g n' x=some y:=by
 unfold HT at hx ⊢
 split at hx
 ·cases hx
 ·rename_i fn c hb
  try simp only [hb]
  split at hx
  ·rename_i hc
   simp only [if_pos hc]
   exact (fV h.to (J:=fun _=>lO P Eqs Sg An F' f g fn n') (JL:=lO P Eqs Sg An F f g fn n) (fun sh k x y hy=>.now fun _=>m6 h n n' sh k x y hn hy) _ _ _ _ hx).get
  ·cases hx
theorem xL:∀m,Ud (Fn P Eqs Sg An G m) (Fn P Eqs Sg An G (m+1))
 | 0,f,g,x,y,hx=>by
  simp only [Fn] at hx ⊢
  split at hx
  ·rename_i u hu;(try simp only [hu]);exact hx
  ·cases hx
 | m+1,f,g,x,y,hx=>by
  rw [Fn] at hx ⊢
  split at hx
  ·rename_i u hu;(try simp only [hu]);exact hx
  ·rename_i hu
   try simp only [hu]
   exact Lj (xL m) (Nat.le_succ m) hx
theorem xM{m m':Nat}(h:m≤m'):Ud (Fn P Eqs Sg An G m) (Fn P Eqs Sg An G m'):=by
 induction h with
 | refl=>exact fun _ _ _ _ h=>h
 | step _ ih=>exact fun f g x y hx=>xL _ f g x y (ih f g x y hx)
variable (P Eqs Sg An G) in
open Classical in
noncomputable def Fix:FT:=fun f g x=>if h:∃m y,Fn P Eqs Sg An G m f g x=some y then some (Classical.choose (Classical.choose_spec h)) else none
theorem DU:To (Fn P Eqs Sg An G) (Fix P Eqs Sg An G):=fun f g x y hy=>by
 unfold Fix at hy
 split at hy
 ·rename_i h
  cases hy
  exact ⟨Classical.choose h,fun m' hm=>xM hm _ _ _ _ (Classical.choose_spec (Classical.choose_spec h))⟩
 ·cases hy
theorem NI{m:Nat}{f:FuncId}{g:aJ}{x:g.A}{y:g.B}(h:Fn P Eqs Sg An G m f g x=some y):Fix P Eqs Sg An G f g x=some y:=by
 have he:∃m y,Fn P Eqs Sg An G m f g x=some y:=⟨m,y,h⟩
 cases hy:Fix P Eqs Sg An G f g x with
 | none=>unfold Fix at hy;rw [dif_pos he] at hy;cases hy
 | some y' =>
  obtain ⟨m1,h1⟩:=DU f g x y' hy
  have h2:=h1 (max m m1) (by omega)
  have h3:=xM (show m≤max m m1 by omega) f g x y h
  rw [h2] at h3
  exact h3
variable (P Eqs Sg An G) in
open Classical in
noncomputable def Lp(f:FuncId)(g:aJ)(fn:Func)(sh:Shape)(k:List Item)(x:sh.T):Option g.B :=
 if h:∃m y,lO P Eqs Sg An (Fn P Eqs Sg An G m) f g fn m sh k x=some y then some (Classical.choose (Classical.choose_spec h)) else none
theorem NJ{f:FuncId}{g:aJ}{fn:Func}:ToJ (fun m=>lO P Eqs Sg An (Fn P Eqs Sg An G m) f g fn m) (Lp P Eqs Sg An G f g fn):=fun sh k x y hy=>by
 unfold Lp at hy
 split at hy
 ·rename_i h
  cases hy
  exact ⟨Classical.choose h,fun m' hm=>m6 (xM hm) _ _ _ _ _ _ hm (Classical.choose_spec (Classical.choose_spec h))⟩
 ·cases hy
theorem Xb{m:Nat}{f:FuncId}{g:aJ}{fn:Func}{sh:Shape}{k:List Item}{x:sh.T}{y:g.B}(h:lO P Eqs Sg An (Fn P Eqs Sg An G m) f g fn m sh k x=some y):Lp P Eqs Sg An G f g fn sh k x=some y:=by
 have he:∃m y,lO P Eqs Sg An (Fn P Eqs Sg An G m) f g fn m sh k x=some y:=⟨m,y,h⟩
 cases hy:Lp P Eqs Sg An G f g fn sh k x with
 | none=>unfold Lp at hy;rw [dif_pos he] at hy;cases hy
 | some y' =>
  obtain ⟨m1,h1⟩:=NJ sh k x y' hy
  have h2:=h1 (max m m1) (by omega)
  have h3:=m6 (xM (show m≤max m m1 by omega)) m (max m m1) sh k x y (by omega) h
  exact h2.symm.trans h3
theorem JN{f:FuncId}{g:aJ}{x:g.A}{y:g.B}{fn:Func}{c:Code}(hG:G f g=none)(hb:body P (f % 1000)=some (fn,c))(hc:(decide (g.ps.length≤fn.ntmps)&&decide (g.bs.length≤8))=true)
  (h:ax P Eqs Sg (Fix P Eqs Sg An G) fn.ntmps (An f) (Lp P Eqs Sg An G f g fn) (pI P g fn) fuel [.code c] (entry g x)=some y):Fix P Eqs Sg An G f g x=some y:=by
 obtain ⟨m,hm⟩:=fV (DU (P:=P) (Eqs:=Eqs) (Sg:=Sg) (An:=An) (G:=G)) (NJ (f:=f) (g:=g) (fn:=fn)) _ _ _ _ h
 refine NI (m:=m+1) ?_
 simp only [Fn,hG]
 unfold HT
 simp only [hb,if_pos hc]
 exact hm m (Nat.le_refl _)
theorem CB{f:FuncId}{g:aJ}{x:g.A}{y:g.B}{u:g.A→Option g.B}(hG:G f g=some u)(h:u x=some y):Fix P Eqs Sg An G f g x=some y:=by
 refine NI (m:=0) ?_
 simp only [Fn,hG]
 exact h
theorem NK{f:FuncId}{g:aJ}{fn:Func}{sh:Shape}{c:Code}{k:List Item}{x:sh.T}{y:g.B}
  (h:ax P Eqs Sg (Fix P Eqs Sg An G) fn.ntmps (An f) (Lp P Eqs Sg An G f g fn) (pI P g fn) fuel (.code c::.inLoop c::k) (ao sh x)=some y):Lp P Eqs Sg An G f g fn sh (.inLoop c::k) x=some y:=by
 obtain ⟨m,hm⟩:=fV (DU (P:=P) (Eqs:=Eqs) (Sg:=Sg) (An:=An) (G:=G)) (NJ (f:=f) (g:=g) (fn:=fn)) _ _ _ _ h
 refine Xb (m:=m+1) ?_
 simp only [lO]
 refine (fV (L:=Fn P Eqs Sg An G m) (Ud.to (xL m)) (J:=fun _=>lO P Eqs Sg An (Fn P Eqs Sg An G (m+1)) f g fn m) (JL:=lO P Eqs Sg An (Fn P Eqs Sg An G m) f g fn m) (fun sh k x y hy=>.now fun _=>m6 (xL m) m m sh k x y (Nat.le_refl _) hy) _ _ _ _ (hm m (Nat.le_refl _))).get
theorem xN(hX:∀f g u,Sg f=some g→g.x=some u→gZ P (f % 1000) u)(Bp:∀t k,Eqs t=some k→k0 P t k)(K4:∀f g,Sg f=some g→iJ P (f % 1000))(hm:P.follows .mixedOrders=true)
  (hG:∀f g u x y,Sg f=some g→G f g=some u→u x=some y→Cn P f g x y) {f:FuncId} {g:aJ} {x:g.A} {y:g.B} (hs:Sg f=some g) (h:Fix P Eqs Sg An G f g x=some y):Cn P f g x y:=by
 obtain ⟨m,QX⟩:=DU f g x y h
 exact FC hX Bp K4 hm hG m f g x y hs (QX m (Nat.le_refl _))
end
end Go.Vs
namespace Go.Vs
open Go.Proofs
abbrev ab:=((Int×Int)×Int)
abbrev ID:=(Int×Int)
abbrev ah:=(ID×((List ab)×(ByteArray×Int)))
abbrev af:=(ID×(ByteArray×Int))
abbrev ai:=((List ah)×(List af))
abbrev ak:=(ab×ab)
abbrev StateT:=(ai×(List ak))
abbrev oX:=(ID×ab)
abbrev bw:=(Int×(ID×(ID×(ID×(oX×(oX×(Bool×(ByteArray×Int))))))))
abbrev aC:=((List ah)×((List af)×((List ak)×Unit)))
abbrev k13:K:=(.pair .str (.int .u64))
abbrev gN:K:=(.pair (.int .i64) (.int .i64))
abbrev k68:K:=(.pair .str (.pair (.int .i64) .bool))
abbrev bm:K:=(.pair gN (.int .i64))
abbrev k7:K:=(.pair (.int .i64) (.pair (.int .i64) (.pair .bool (.int .u8))))
abbrev eR:K:=(.pair gN (.pair .str (.int .i64)))
abbrev Qw:K:=(.pair gN bm)
abbrev db:K:=(.pair bm bm)
abbrev dP:K:=(.pair gN (.pair (.sl bm) (.pair .str (.int .i64))))
abbrev cW:K:=(.pair (.sl dP) (.sl eR))
abbrev kN:K:=(.pair cW (.sl db))
abbrev pX:K:=(.pair (.int .i64) (.pair gN (.pair gN (.pair gN (.pair Qw (.pair Qw (.pair .bool (.pair .str (.int .i64)))))))))
abbrev oQ:K:=(.one (.sl pX))
def oo(xs:List ah)(ys:List af):Bool:=decide (xs.length≤50000000)&&(decide (ys.length≤50000000)&&xs.all fun v=>decide (v.2.1.length≤50000000))
def DV(h:Heap)(id:Nat):List AV→Option (Bool×bE)
 | [.agg [.bF a,.bF b]]=>match dE h (.row 48 dP) (.bF a),dE h (.row 56 eR) (.bF b) with
  | some xs,some ys=>if a=b then none else some (oo xs ys,.new (.agg [.bF (id+128),.bF (id+129)]) [(id+128,.own (.row 48 dP) xs),(id+129,.own (.row 56 eR) ys)])
  | _,_=>none
 | _=>none
def sg3:aJ:={ ps:=[.val kN,.val pX],bs:=[],rs:=[.val .bool] }
def sg4:aJ:={ ps:=[.val (.sl oQ),.val gN],bs:=[],rs:=[.val .bool] }
def sg5:aJ:={ ps:=[.val (.sl oQ),.val bm,.val bm],bs:=[],rs:=[.val .bool] }
def sg6:aJ:={ ps:=[.val (.sl oQ),.val gN,.val (.int .i64)],bs:=[],rs:=[.val .bool] }
def sg7:aJ:={ ps:=[.val (.sl oQ),.val gN,.val k68],bs:=[],rs:=[.val .bool] }
def sg8:aJ:={ ps:=[.val (.sl oQ),.val gN],bs:=[],rs:=[.val .bool] }
def sg9:aJ:={ ps:=[.val (.sl oQ)],bs:=[],rs:=[.val .bool] }
def abT:aJ:={ ps:=[.val (.sl oQ)],bs:=[],rs:=[.val .bool] }
def DW:aJ:={ ps:=[.val (.sl oQ),.val oQ],bs:=[],rs:=[.val .bool] }
def NL:aJ:={ ps:=[],bs:=[],rs:=[.val .bool] }
def abU:aJ:={ ps:=[.val kN],bs:=[],rs:=[.val .bool] }
def DX:aJ:={ ps:=[.val kN,.val pX],bs:=[],rs:=[.val kN,.val (.int .i64)] }
def NM:aJ:={ ps:=[.val kN,.val pX],bs:=[],rs:=[.val kN,.val (.int .i64)] }
def BN:aJ:={ ps:=[.val kN,.val kN],bs:=[],rs:=[.val .bool] }
def FE:aJ:={ ps:=[.val (.sl oQ)],bs:=[],rs:=[.val kN] }
def oY:aJ:={ ps:=[.val cW,.val gN],bs:=[],rs:=[.val dP,.val .bool] }
def zH:aJ:={ ps:=[.val gN],bs:=[],rs:=[.val .bool] }
def sQ:aJ:={ ps:=[.val cW,.val bm],bs:=[],rs:=[.val gN,.val .bool] }
def xe:aJ:={ ps:=[.val cW,.val gN],bs:=[],rs:=[.val eR,.val .bool] }
def FF:aJ:={ ps:=[.val cW,.val bm],bs:=[],rs:=[.val (.sl bm)] }
def BO:aJ:={ ps:=[.val bm],bs:=[],rs:=[.val bm] }
def pY:aJ:={ ps:=[.val (.sl bm),.val bm],bs:=[],rs:=[.val (.int .i64)] }
def abV:aJ:={ ps:=[.val cW,.val gN,.val gN],bs:=[],rs:=[.val .bool] }
def Lk:aJ:={ ps:=[.val (.sl bm),.val bm],bs:=[],rs:=[.val bm,.val .bool] }
def zJ:aJ:={ ps:=[.val cW,.val cW],bs:=[],rs:=[.val .bool] }
def DY:aJ:={ ps:=[.val .str],bs:=[],rs:=[.val .bool] }
def Ll:aJ:={ ps:=[.val (.int .i64)],bs:=[],rs:=[.val .bool] }
def FG:aJ:={ ps:=[.val kN,.val oQ],bs:=[],rs:=[.val kN,.val (.int .i64)] }
def FH:aJ:={ ps:=[.val cW],bs:=[],rs:=[.own (.row 46 (.sl bm))] }
def FI:aJ:={ ps:=[.val cW],bs:=[],rs:=[.val (.int .i64)] }
def NO:aJ:={ ps:=[],bs:=[],rs:=[.val kN] }
def FJ:aJ:={ ps:=[.val oQ],bs:=[],rs:=[.val oQ] }
def FK:aJ:={ ps:=[.val kN,.val oQ],bs:=[],rs:=[.val kN,.val (.int .i64)] }
def Lm:aJ:={ ps:=[.val kN,.val oQ],bs:=[],rs:=[.val kN] }
def NP:aJ:={ ps:=[.val kN,.val oQ],bs:=[],rs:=[.val kN] }
def BP:aJ:={ ps:=[.val cW],bs:=[],rs:=[.agg [.own (.row 48 dP),.own (.row 56 eR)]] }
def abW:aJ:={ ps:=[.val (.sl db)],bs:=[],rs:=[.val .bool] }
def abX:aJ:={ ps:=[.val cW],bs:=[],rs:=[.val (.int .i64)] }
def DZ:aJ:={ ps:=[.val oQ],bs:=[],rs:=[.val (.int .i64)] }
def NQ:aJ:={ ps:=[.val (.int .i64)],bs:=[],rs:=[.val oQ] }
def BQ:aJ:={ ps:=[.val pX],bs:=[],rs:=[.val (.int .i64)] }
def BR:aJ:={ ps:=[.val kN,.val (.sl pX)],bs:=[],rs:=[.val kN,.val (.int .i64)] }
def Ln:aJ:={ ps:=[.val pX],bs:=[],rs:=[.val (.int .i64)] }
def D0:aJ:={ ps:=[.val cW,.val dP],bs:=[],rs:=[.val cW] }
def oq:aJ:={ ps:=[.val cW,.val gN,.val gN],bs:=[],rs:=[.val cW] }
def NR:aJ:={ ps:=[.val kN,.val pX],bs:=[],rs:=[.val kN,.val (.int .i64)] }
def NS:aJ:={ ps:=[.val kN,.val pX],bs:=[],rs:=[.val kN,.val (.int .i64)] }
def NT:aJ:={ ps:=[.val kN,.val pX],bs:=[],rs:=[.val kN,.val (.int .i64)] }
def xf:aJ:={ ps:=[.val kN,.val pX],bs:=[],rs:=[.val kN,.val (.int .i64)] }
def zK:aJ:={ ps:=[.val kN,.val pX],bs:=[],rs:=[.val kN,.val (.int .i64)] }
def D1:aJ:={ ps:=[.val (.sl db),.val (.sl db)],bs:=[],rs:=[.val .bool] }
def Lo:aJ:={ ps:=[.val cW,.val bm],bs:=[],rs:=[.val bm,.val .bool] }
def BS:aJ:={ ps:=[.val cW,.val gN],bs:=[],rs:=[.val (.int .i64)] }
def rq:aJ:={ ps:=[.val cW],bs:=[],rs:=[.own (.row 3 (.int .i64))] }
def FL:aJ:={ ps:=[.val (.sl bm),.val (.sl bm)],bs:=[],rs:=[.val .bool] }
def D2:aJ:={ ps:=[.val oQ],bs:=[],rs:=[.val (.int .i64)] }
def D3:aJ:={ ps:=[.val cW],bs:=[],rs:=[.own (.row 32 bm)] }
def D4:aJ:={ ps:=[.val cW],bs:=[],rs:=[.agg [.own (.row 48 dP),.own (.row 56 eR)]] }
def FM:aJ:={ ps:=[.val (.sl db)],bs:=[],rs:=[.own (.row 103 db)] }
def Lq:aJ:={ ps:=[.val bm,.val bm],bs:=[],rs:=[.val (.int .i64)] }
def abY:aJ:={ ps:=[.val cW],bs:=[],rs:=[.val (.int .i64)] }
def FN:aJ:={ ps:=[.val cW],bs:=[],rs:=[.val (.int .i64)] }
def FO:aJ:={ ps:=[.val pX],bs:=[],rs:=[.val pX,.val (.int .i64)] }
def xg:aJ:={ ps:=[.ref,.val pX],bs:=[.box 109 [.own (.row 48 dP),.own (.row 56 eR),.val (.sl db)]],rs:=[.val (.int .i64)] }
def Lr:aJ:={ ps:=[.val pX],bs:=[],rs:=[.val pX] }
def Ls:aJ:={ ps:=[.val Qw],bs:=[],rs:=[.val .bool] }
def FP:aJ:={ ps:=[.val gN,.val gN],bs:=[],rs:=[.val (.int .i64)] }
def Lt:aJ:={ ps:=[.val kN,.val Qw],bs:=[],rs:=[.val Qw,.val (.int .i64)] }
def xh:aJ:={ ps:=[.val cW,.val eR],bs:=[],rs:=[.val cW] }
def xi:aJ:={ ps:=[.val cW,.val Qw,.val bm],bs:=[],rs:=[.val cW] }
def xj:aJ:={ ps:=[.val (.sl db),.val db],bs:=[],rs:=[.val (.sl db)] }
def Lu:aJ:={ ps:=[.val cW,.val bm],bs:=[],rs:=[.val bm] }
def Lv:aJ:={ ps:=[.val cW,.val bm],bs:=[],rs:=[.val cW] }
def FQ:aJ:={ ps:=[.val cW,.val bm,.val bm],bs:=[],rs:=[.val cW] }
def oZ:aJ:={ ps:=[.val (.sl bm)],bs:=[],rs:=[.own (.row 32 bm)] }
def NU:aJ:={ ps:=[.val cW,.val bm],bs:=[],rs:=[.val bm,.val .bool] }
def Lw:aJ:={ ps:=[.val (.sl dP)],bs:=[],rs:=[.own (.row 48 dP)] }
def Lx:aJ:={ ps:=[.val (.sl eR)],bs:=[],rs:=[.own (.row 56 eR)] }
def xk:aJ:={ ps:=[.val (.sl bm)],bs:=[],rs:=[.own (.row 32 bm)] }
def abZ:aJ:={ ps:=[.val cW],bs:=[],rs:=[.val (.sl gN)] }
def ab0:aJ:={ ps:=[.val (.sl gN)],bs:=[],rs:=[.val .bool] }
def ab1:aJ:={ ps:=[.val cW],bs:=[],rs:=[.val .bool] }
def FR:aJ:={ ps:=[.val cW],bs:=[],rs:=[.val (.int .i64),.val (.int .i64),.val (.int .i64),.val (.int .i64)] }
def pZ:aJ:={ ps:=[.val gN],bs:=[],rs:=[.val .bool] }
def BT:aJ:={ ps:=[.val Qw],bs:=[],rs:=[.val .bool] }
def vp:aJ:={ ps:=[.val .str],bs:=[],rs:=[.val .bool] }
def FU:aJ:={ ps:=[.val (.int .i64)],bs:=[],rs:=[.val .bool] }
def FV:aJ:={ ps:=[.ref,.val dP],bs:=[.box 109 [.own (.row 48 dP),.own (.row 56 eR),.val (.sl db)]],rs:=[.val (.int .i64)] }
def NV:aJ:={ ps:=[.ref,.val pX],bs:=[.box 109 [.own (.row 48 dP),.own (.row 56 eR),.val (.sl db)]],rs:=[.val (.int .i64)] }
def m8:aJ:={ ps:=[.ref,.val pX],bs:=[.box 109 [.own (.row 48 dP),.own (.row 56 eR),.val (.sl db)]],rs:=[.val (.int .i64)] }
def zL:aJ:={ ps:=[.ref,.val pX],bs:=[.box 109 [.own (.row 48 dP),.own (.row 56 eR),.val (.sl db)]],rs:=[.val (.int .i64)] }
def xl:aJ:={ ps:=[.ref,.val pX],bs:=[.box 109 [.own (.row 48 dP),.own (.row 56 eR),.val (.sl db)]],rs:=[.val (.int .i64)] }
def p4:aJ:={ ps:=[.ref,.val pX],bs:=[.box 109 [.own (.row 48 dP),.own (.row 56 eR),.val (.sl db)]],rs:=[.val (.int .i64)] }
def NW:aJ:={ ps:=[.ref,.val pX],bs:=[.box 109 [.own (.row 48 dP),.own (.row 56 eR),.val (.sl db)]],rs:=[.val (.int .i64)] }
def NX:aJ:={ ps:=[.val bm],bs:=[],rs:=[.val .bool] }
def FY:aJ:={ ps:=[.val kN,.val bm],bs:=[],rs:=[.val bm] }
def BU:aJ:={ ps:=[.val cW,.val gN,.val (.sl bm)],bs:=[],rs:=[.val cW] }
def wN:aJ:={ ps:=[.val (.sl bm),.val bm,.val bm],bs:=[],rs:=[.own (.row 32 bm)] }
def rR:aJ:={ ps:=[.val (.sl db),.val bm],bs:=[],rs:=[.val bm,.val .bool] }
def wO:aJ:={ ps:=[.val (.sl bm),.val bm],bs:=[],rs:=[.own (.row 32 bm)] }
def FZ:aJ:={ ps:=[.val (.sl bm),.val bm,.val bm],bs:=[],rs:=[.own (.row 32 bm)] }
def F2:aJ:={ ps:=[.val (.sl bm),.val bm],bs:=[],rs:=[.val bm,.val .bool] }
def Xc:aJ:={ ps:=[.val cW,.val bm],bs:=[],rs:=[.val (.int .i64)] }
def F3:aJ:={ ps:=[.val bm],bs:=[],rs:=[.val .bool] }
def oR:aJ:={ ps:=[.ref,.val gN],bs:=[.box 109 [.own (.row 48 dP),.own (.row 56 eR),.val (.sl db)]],rs:=[.val (.int .i64),.val .bool] }
def SO:aJ:={ ps:=[],bs:=[],rs:=[],x:=some (MG 48 dP) }
def SP:aJ:={ ps:=[],bs:=[],rs:=[],x:=some (QI 48 dP) }
def wP:aJ:={ ps:=[.ref,.val gN],bs:=[.box 109 [.own (.row 48 dP),.own (.row 56 eR),.val (.sl db)]],rs:=[.val (.int .i64)] }
def zM:aJ:={ ps:=[.val gN],bs:=[],rs:=[.val bm,.val bm] }
def F4:aJ:={ ps:=[.val kN,.val Qw],bs:=[],rs:=[.val Qw,.val (.int .i64)] }
def zN:aJ:={ ps:=[.val (.sl bm),.val bm,.val bm],bs:=[],rs:=[.own (.row 32 bm)] }
def zO:aJ:={ ps:=[.val cW],bs:=[],rs:=[.val .bool] }
def ma:aJ:={ ps:=[.ref,.val gN],bs:=[.box 109 [.own (.row 48 dP),.own (.row 56 eR),.val (.sl db)]],rs:=[.val (.int .i64),.val .bool] }
def zP:aJ:={ ps:=[.ref,.val bm,.val bm],bs:=[.box 109 [.own (.row 48 dP),.own (.row 56 eR),.val (.sl db)]],rs:=[] }
def zQ:aJ:={ ps:=[.ref,.val bm],bs:=[.box 109 [.own (.row 48 dP),.own (.row 56 eR),.val (.sl db)]],rs:=[.val bm] }
def lx:aJ:={ ps:=[.ref,.val bm],bs:=[.box 109 [.own (.row 48 dP),.own (.row 56 eR),.val (.sl db)]],rs:=[.dZ 0 [(0,5,0)]] }
def F5:aJ:={ ps:=[.val (.sl bm),.val bm],bs:=[],rs:=[.own (.row 32 bm)] }
def SQ:aJ:={ ps:=[],bs:=[],rs:=[],x:=some (QI 56 eR) }
def rS:aJ:={ ps:=[.val (.sl bm),.val bm,.val bm],bs:=[],rs:=[.own (.row 32 bm)] }
def nc:aJ:={ ps:=[.val bm],bs:=[],rs:=[.val bm] }
def p6:aJ:={ ps:=[.val (.sl bm)],bs:=[],rs:=[.own (.row 32 bm)] }
def F6:aJ:={ ps:=[.ref,.val pX],bs:=[.box 109 [.own (.row 48 dP),.own (.row 56 eR),.val (.sl db)]],rs:=[.dZ 0 [(0,5,3),(1,4,2)],.dZ 0 [(0,5,4),(1,4,3)]] }
def CC:aJ:={ ps:=[.val dP,.val gN],bs:=[],rs:=[.val (.int .i64)] }
def zR:aJ:={ ps:=[.val gN,.val gN],bs:=[],rs:=[.val (.int .i64)] }
def SR:aJ:={ ps:=[],bs:=[],rs:=[],x:=some (MG 56 eR) }
def F7:aJ:={ ps:=[.val cW,.val gN],bs:=[],rs:=[.val dP,.val .bool] }
def wQ:aJ:={ ps:=[.val kN,.val bm],bs:=[],rs:=[.val bm] }
def tV:aJ:={ ps:=[.val (.sl bm),.val bm],bs:=[],rs:=[.val .bool] }
def ly:aJ:={ ps:=[.val (.sl bm),.val bm],bs:=[],rs:=[.val (.int .i64)] }
def ng:aJ:={ ps:=[.val (.sl (.sl bm))],bs:=[],rs:=[.own (.row 32 bm)] }
def F8:aJ:={ ps:=[.val cW],bs:=[],rs:=[.val (.int .i64)] }
def CD:aJ:={ ps:=[.val eR,.val gN],bs:=[],rs:=[.val (.int .i64)] }
def F9:aJ:={ ps:=[.val (.sl db),.val db],bs:=[],rs:=[.own (.row 103 db)] }
def CE:aJ:={ ps:=[.val (.sl bm),.val bm],bs:=[],rs:=[.val bm,.val .bool] }
def CF:aJ:={ ps:=[.val bm,.val bm],bs:=[],rs:=[.val (.int .i64)] }
def nh:aJ:={ ps:=[.val (.sl (.sl bm))],bs:=[],rs:=[.own (.row 32 bm)] }
def tW:aJ:={ ps:=[.val (.sl (.int .i64))],bs:=[],rs:=[.val (.int .i64)] }
def zT:aJ:={ ps:=[.val (.int .i64),.val (.int .i64)],bs:=[],rs:=[.val (.int .i64)] }
def Ga:aJ:={ ps:=[.val dP],bs:=[],rs:=[.val gN] }
def tX:aJ:={ ps:=[.val cW,.val bm],bs:=[],rs:=[.val gN,.val .bool] }
def Gb:aJ:={ ps:=[.val (.sl db),.val bm],bs:=[],rs:=[.val bm,.val .bool] }
def Gc:aJ:={ ps:=[.val cW],bs:=[],rs:=[.val (.int .i64),.val (.int .i64),.val (.int .i64),.val (.int .i64)] }
def CG:aJ:={ ps:=[.val db,.val bm],bs:=[],rs:=[.val (.int .i64)] }
def SS:aJ:={ ps:=[],bs:=[],rs:=[],x:=some (MG 103 db) }
def zU:aJ:={ ps:=[.val (.sl bm),.val bm,.val (.int .i64)],bs:=[],rs:=[.val bm,.val .bool] }
def SU:aJ:={ ps:=[],bs:=[],rs:=[],x:=some (MH 32 bm) }
def zX:aJ:={ ps:=[.val (.int .i64)],bs:=[],rs:=[.val .bool] }
def Gd:aJ:={ ps:=[.val db,.ref],bs:=[.box 32 [.val (.int .i64),.val (.int .i64),.val (.int .i64)]],rs:=[.val .bool] }
def Ge:aJ:={ ps:=[.val dP],bs:=[],rs:=[.val .bool] }
def wR:aJ:={ ps:=[.val cW],bs:=[],rs:=[.own (.row 46 (.sl bm))] }
def wS:aJ:={ ps:=[.val cW],bs:=[],rs:=[.val (.int .i64)] }
def tY:aJ:={ ps:=[.val cW],bs:=[],rs:=[.own (.row 32 bm)] }
def SV:aJ:={ ps:=[.val cW],bs:=[],rs:=[.own (.row 124 (.sl gN))] }
def CH:aJ:={ ps:=[.val cW,.val bm],bs:=[],rs:=[.val bm,.val .bool] }
def gF:aJ:={ ps:=[.val cW],bs:=[],rs:=[.own (.row 3 (.int .i64))] }
def wT:aJ:={ ps:=[.val cW,.val bm],bs:=[],rs:=[.val bm,.val .bool] }
def Gf:aJ:={ ps:=[.own,.val (.int .i64),.val (.int .i64)],bs:=[.own (.row 3 (.int .i64))],rs:=[] }
def p7:aJ:={ ps:=[.own,.val (.int .i64)],bs:=[.own (.row 3 (.int .i64))],rs:=[.val (.int .i64)] }
def Gg:aJ:={ ps:=[.val (.sl bm),.val bm],bs:=[],rs:=[.val bm,.val .bool] }
def iO:aJ:={ ps:=[.val (.sl dP),.val gN,.EO 126 0],bs:=[],rs:=[.val (.int .i64),.val .bool] }
def iP:aJ:={ ps:=[.val (.sl eR),.val gN,.EO 138 0],bs:=[],rs:=[.val (.int .i64),.val .bool] }
def jZ:aJ:={ ps:=[.val (.sl bm),.EO 142 0],bs:=[],rs:=[.val bm] }
def j0:aJ:={ ps:=[.val (.sl dP),.EO 150 0,.val gN],bs:=[],rs:=[.val dP,.val .bool] }
def iQ:aJ:={ ps:=[.val (.sl db),.val bm,.EO 155 0],bs:=[],rs:=[.val (.int .i64),.val .bool] }
def iR:aJ:={ ps:=[.val (.sl db),.EO 163 1],bs:=[.box 32 [.val bm]],rs:=[.val (.int .i64)] }
def j4:aJ:={ ps:=[.val (.sl dP),.EO 165 0],bs:=[],rs:=[.val (.int .i64)] }
def Gh:aJ:={ ps:=[],bs:=[],rs:=[],x:=some DV }
def NY:aJ:={ ps:=[],bs:=[],rs:=[] }
def sgs:List (Nat×aJ):=[(3,sg3),(4,sg4),(5,sg5),(6,sg6),(7,sg7),(8,sg8),(9,sg9),(10,abT),(11,DW),(12,NL),(13,abU),(14,DX),(15,NM),(16,BN),(17,FE),(18,oY),(19,zH),(20,sQ),(21,xe),(22,FF),(23,BO),(24,pY),(25,abV),(26,Lk),(27,zJ),(28,DY),(29,Ll),(30,FG),(31,FH),(32,FI),(33,NO),(34,FJ),(35,FK),(36,Lm),(37,NP),(38,BP),(39,abW),(40,abX),(41,DZ),(42,NQ),(43,BQ),(44,BR),(45,Ln),(46,D0),(47,oq),(48,NR),(49,NS),(50,NT),(51,xf),(52,zK),(53,D1),(54,Lo),(55,BS),(56,rq),(57,FL),(58,D2),(59,D3),(60,D4),(61,FM),(62,Lq),(63,abY),(64,FN),(65,FO),(66,xg),(67,Lr),(68,Ls),(69,FP),(70,Lt),(71,xh),(72,xi),(73,xj),(74,Lu),(75,Lv),(76,FQ),(77,oZ),(78,NU),(79,Lw),(80,Lx),(81,xk),(82,abZ),(83,ab0),(84,ab1),(85,FR),(86,pZ),(87,BT),(88,vp),(89,FU),(90,FV),(91,NV),(92,m8),(93,zL),(94,xl),(95,p4),(96,NW),(97,NX),(98,FY),(99,BU),(100,wN),(101,rR),(102,wO),(103,FZ),(104,F2),(105,Xc),(106,F3),(107,oR),(108,SO),(109,SP),(110,wP),(111,zM),(112,F4),(113,zN),(114,zO),(115,ma),(116,zP),(117,zQ),(118,lx),(119,F5),(120,SQ),(121,rS),(122,nc),(123,p6),(124,F6),(126,CC),(127,zR),(130,SR),(131,F7),(132,wQ),(133,tV),(134,ly),(135,ng),(136,F8),(138,CD),(139,F9),(140,CE),(142,CF),(143,nh),(144,tW),(145,zT),(150,Ga),(151,tX),(152,Gb),(153,Gc),(155,CG),(156,SS),(157,zU),(158,SU),(159,zX),(163,Gd),(165,Ge),(166,wR),(167,wS),(171,tY),(173,SV),(176,CH),(177,gF),(179,wT),(180,Gf),(181,p7),(182,Gg),(127125,iO),(139137,iP),(143141,jZ),(151149,j0),(156154,iQ),(164162,iR),(166164,j4),(500060,Gh),(900074,NY)]
def Sg(f:FuncId):Option aJ:=(sgs.find? (fun p=>p.1==f)).map (fun p=>p.2)
def eqs:List (Nat×K):=[(30,gN),(32,bm),(34,Qw),(36,pX),(56,eR),(103,db)]
def Eqs(t:TypeId):Option K:=(eqs.find? (fun p=>p.1==t)).map (fun p=>p.2)
def Xd:Shape:=⟨[(0,.sl (.one (.sl (.pair (.int .i64) (.pair (.pair (.int .i64) (.int .i64)) (.pair (.pair (.int .i64) (.int .i64)) (.pair (.pair (.int .i64) (.int .i64)) (.pair (.pair (.pair (.int .i64) (.int .i64)) (.pair (.pair (.int .i64) (.int .i64)) (.int .i64))) (.pair (.pair (.pair (.int .i64) (.int .i64)) (.pair (.pair (.int .i64) (.int .i64)) (.int .i64))) (.pair .bool (.pair .str (.int .i64)))))))))))),(3,.bool),(6,.int .i64)],[(.slot 4,20000,.box 28 [.val kN]),(.slot 5,20001,.box 28 [.val kN])],[],[]⟩
def Ue:Shape:=⟨[(0,.sl (.one (.sl (.pair (.int .i64) (.pair (.pair (.int .i64) (.int .i64)) (.pair (.pair (.int .i64) (.int .i64)) (.pair (.pair (.int .i64) (.int .i64)) (.pair (.pair (.pair (.int .i64) (.int .i64)) (.pair (.pair (.int .i64) (.int .i64)) (.int .i64))) (.pair (.pair (.pair (.int .i64) (.int .i64)) (.pair (.pair (.int .i64) (.int .i64)) (.int .i64))) (.pair .bool (.pair .str (.int .i64)))))))))))),(3,.bool),(5,.int .i64)],[(.slot 4,20000,.box 28 [.val kN])],[],[]⟩
def zY:Shape:=⟨[(5,.bool),(8,.int .i64),(10,.int .i64),(11,.int .i64)],[(.slot 3,20000,.box 76 [.val oQ]),(.slot 6,20001,.box 28 [.val kN]),(.slot 7,20002,.box 28 [.val kN]),(.slot 9,20003,.box 28 [.val kN])],[],[]⟩
def zZ:Shape:=⟨[(0,.sl (.one (.sl (.pair (.int .i64) (.pair (.pair (.int .i64) (.int .i64)) (.pair (.pair (.int .i64) (.int .i64)) (.pair (.pair (.int .i64) (.int .i64)) (.pair (.pair (.pair (.int .i64) (.int .i64)) (.pair (.pair (.int .i64) (.int .i64)) (.int .i64))) (.pair (.pair (.pair (.int .i64) (.int .i64)) (.pair (.pair (.int .i64) (.int .i64)) (.int .i64))) (.pair .bool (.pair .str (.int .i64)))))))))))),(4,.int .i64)],[(.slot 2,20000,.box 28 [.val kN]),(.slot 3,20001,.box 28 [.val kN])],[],[]⟩
def z5:Shape:=⟨[(6,.int .i64)],[(.slot 2,20000,.box 25 [.val cW]),(.slot 3,20001,.box 30 [.val gN]),(.slot 4,20002,.box 48 [.val (.int .i64),.val (.int .i64),.own (.row 32 bm),.val .str,.val (.int .i64)])],[],[]⟩
def z6:Shape:=⟨[(6,.int .i64)],[(.slot 2,20000,.box 25 [.val cW]),(.slot 3,20001,.box 32 [.val bm]),(.slot 4,20002,.box 30 [.val gN])],[],[]⟩
def z7:Shape:=⟨[(6,.int .i64)],[(.slot 2,20000,.box 25 [.val cW]),(.slot 3,20001,.box 30 [.val gN]),(.slot 4,20002,.box 56 [.val eR])],[],[]⟩
def z8:Shape:=⟨[],[(.slot 2,20000,.box 25 [.val cW]),(.slot 3,20001,.box 32 [.val bm]),(.slot 6,20002,.box 32 [.val bm])],[(5,31000,(.row 32 (.pair (.pair (.int .i64) (.int .i64)) (.int .i64))))],[]⟩
def Aa:Shape:=⟨[(0,.sl (.pair (.pair (.int .i64) (.int .i64)) (.int .i64))),(5,.int .i64)],[(.slot 3,20000,.box 32 [.val bm])],[],[]⟩
def Ab:Shape:=⟨[(5,.int .i64)],[(.slot 2,20000,.box 25 [.val cW]),(.slot 3,20001,.box 25 [.val cW])],[],[]⟩
def Ac:Shape:=⟨[(9,.int .i64)],[(.slot 2,20000,.box 25 [.val cW]),(.slot 3,20001,.box 25 [.val cW])],[],[]⟩
def Ad:Shape:=⟨[(0,.str),(3,.int .i64)],[],[],[]⟩
def vq:Shape:=⟨[(6,.int .i64)],[(.slot 1,20000,.box 25 [.val cW])],[(3,31000,(.row 46 (.sl (.pair (.pair (.int .i64) (.int .i64)) (.int .i64))))),(4,31001,(.row 32 (.pair (.pair (.int .i64) (.int .i64)) (.int .i64)))),(5,31002,(.row 32 (.pair (.pair (.int .i64) (.int .i64)) (.int .i64))))],[]⟩
def vt:Shape:=⟨[(4,.int .i64),(5,.int .i64)],[],[(3,31000,(.row 3 (.int .i64)))],[]⟩
def Ae:Shape:=⟨[(7,.int .i64)],[(.slot 2,20000,.box 28 [.val kN]),(.slot 3,20001,.box 76 [.val oQ]),(.slot 4,20002,.box 28 [.own (.row 48 dP),.own (.row 56 eR),.own (.row 103 db)])],[],[]⟩
def Af:Shape:=⟨[(4,.int .i64)],[(.slot 1,20000,.box 25 [.val cW]),(.slot 2,20001,.box 25 [.own (.row 48 dP),.own (.row 56 eR)]),(.slot 3,20002,.box 25 [.own (.row 48 dP),.own (.row 56 eR)])],[],[]⟩
def Uf:Shape:=⟨[(0,.sl (.pair (.pair (.pair (.int .i64) (.int .i64)) (.int .i64)) (.pair (.pair (.int .i64) (.int .i64)) (.int .i64)))),(3,.int .i64)],[],[],[]⟩
def Ag:Shape:=⟨[(3,.int .i64)],[(.slot 1,20000,.box 76 [.val oQ])],[],[]⟩
def Ah:Shape:=⟨[(18,.sl (.pair (.int .i64) (.pair (.pair (.int .i64) (.int .i64)) (.pair (.pair (.int .i64) (.int .i64)) (.pair (.pair (.int .i64) (.int .i64)) (.pair (.pair (.pair (.int .i64) (.int .i64)) (.pair (.pair (.int .i64) (.int .i64)) (.int .i64))) (.pair (.pair (.pair (.int .i64) (.int .i64)) (.pair (.pair (.int .i64) (.int .i64)) (.int .i64))) (.pair .bool (.pair .str (.int .i64)))))))))),(19,.int .i64),(20,.int .i64)],[(.slot 4,20000,.box 28 [.own (.row 48 dP),.own (.row 56 eR),.own (.row 103 db)]),(.slot 6,20001,.box 109 [.own (.row 48 dP),.own (.row 56 eR),.val (.sl db)])],[],[]⟩
def sR:Shape:=⟨[(6,.bool),(7,.int .i64)],[(.slot 2,20000,.box 25 [.val cW]),(.slot 3,20001,.box 48 [.val dP]),(.slot 4,20002,.box 25 [.own (.row 48 dP),.own (.row 56 eR)]),(.slot 5,20003,.box 25 [.own (.row 48 dP),.val (.sl eR)])],[],[]⟩
def vu:Shape:=⟨[(8,.int .i64)],[(.slot 3,20000,.box 25 [.val cW]),(.slot 4,20001,.box 30 [.val gN]),(.slot 5,20002,.box 30 [.val gN]),(.slot 6,20003,.box 25 [.own (.row 48 dP),.own (.row 56 eR)]),(.slot 7,20004,.box 25 [.own (.row 48 dP),.own (.row 56 eR)])],[],[]⟩
def vv:Shape:=⟨[(9,.int .i64)],[(.slot 3,20000,.box 25 [.val cW]),(.slot 5,20001,.box 30 [.val gN]),(.slot 6,20002,.box 25 [.own (.row 48 dP),.own (.row 56 eR)]),(.slot 7,20003,.box 25 [.own (.row 48 dP),.own (.row 56 eR)])],[],[]⟩
def lz:Shape:=⟨[(12,.sl (.pair (.pair (.pair (.int .i64) (.int .i64)) (.int .i64)) (.pair (.pair (.int .i64) (.int .i64)) (.int .i64)))),(13,.int .i64)],[(.slot 4,20000,.box 28 [.own (.row 48 dP),.own (.row 56 eR),.own (.row 103 db)]),(.slot 8,20001,.box 32 [.val bm]),(.slot 9,20002,.box 32 [.val bm]),(.slot 10,20003,.box 32 [.val bm]),(.slot 11,20004,.box 25 [.val cW])],[],[]⟩
def qa:Shape:=⟨[(7,.bool),(8,.int .i64)],[(.slot 2,20000,.box 28 [.val kN]),(.slot 3,20001,.box 36 [.val pX]),(.slot 4,20002,.box 28 [.own (.row 48 dP),.own (.row 56 eR),.own (.row 103 db)]),(.slot 6,20003,.box 25 [.own (.row 48 dP),.own (.row 56 eR)])],[],[]⟩
def qb:Shape:=⟨[(7,.bool),(9,.int .i64)],[(.slot 2,20000,.box 28 [.val kN]),(.slot 3,20001,.box 36 [.val pX]),(.slot 4,20002,.box 28 [.own (.row 48 dP),.own (.row 56 eR),.own (.row 103 db)]),(.slot 6,20003,.box 25 [.own (.row 48 dP),.own (.row 56 eR)])],[],[]⟩
def Ai:Shape:=⟨[(0,.sl (.pair (.pair (.pair (.int .i64) (.int .i64)) (.int .i64)) (.pair (.pair (.int .i64) (.int .i64)) (.int .i64)))),(1,.sl (.pair (.pair (.pair (.int .i64) (.int .i64)) (.int .i64)) (.pair (.pair (.int .i64) (.int .i64)) (.int .i64)))),(5,.int .i64)],[],[],[]⟩
def Aj:Shape:=⟨[(5,.int .i64)],[(.slot 2,20000,.box 25 [.val cW]),(.slot 3,20001,.box 30 [.val gN])],[],[]⟩
def Ak:Shape:=⟨[(4,.int .i64)],[(.slot 1,20000,.box 25 [.val cW])],[(3,31000,(.row 3 (.int .i64)))],[]⟩
def vw:Shape:=⟨[(5,.int .i64)],[(.slot 1,20000,.box 25 [.val cW])],[(3,31000,(.row 3 (.int .i64)))],[]⟩
def qc:Shape:=⟨[(5,.int .i64),(6,.int .i64)],[(.slot 1,20000,.box 25 [.val cW])],[(3,31000,(.row 3 (.int .i64)))],[]⟩
def Al:Shape:=⟨[(0,.sl (.pair (.pair (.int .i64) (.int .i64)) (.int .i64))),(1,.sl (.pair (.pair (.int .i64) (.int .i64)) (.int .i64))),(5,.int .i64)],[],[],[]⟩
def Am:Shape:=⟨[(17,.sl (.pair (.int .i64) (.pair (.pair (.int .i64) (.int .i64)) (.pair (.pair (.int .i64) (.int .i64)) (.pair (.pair (.int .i64) (.int .i64)) (.pair (.pair (.pair (.int .i64) (.int .i64)) (.pair (.pair (.int .i64) (.int .i64)) (.int .i64))) (.pair (.pair (.pair (.int .i64) (.int .i64)) (.pair (.pair (.int .i64) (.int .i64)) (.int .i64))) (.pair .bool (.pair .str (.int .i64)))))))))),(18,.int .i64),(19,.int .i64)],[],[],[]⟩
def Ao:Shape:=⟨[(4,.int .i64)],[(.slot 1,20000,.box 25 [.val cW])],[(3,31000,(.row 32 (.pair (.pair (.int .i64) (.int .i64)) (.int .i64))))],[]⟩
def Ap:Shape:=⟨[(14,.int .i64),(15,.int .i64)],[(.slot 2,20000,.box 25 [.own (.row 48 dP),.own (.row 56 eR)]),(.slot 3,20001,.box 25 [.own (.row 48 dP),.own (.row 56 eR)])],[],[]⟩
def sS:Shape:=⟨[(6,.bool),(7,.int .i64)],[(.slot 2,20000,.box 25 [.val cW]),(.slot 3,20001,.box 56 [.val eR]),(.slot 4,20002,.box 25 [.own (.row 48 dP),.own (.row 56 eR)]),(.slot 5,20003,.box 25 [.val (.sl dP),.own (.row 56 eR)])],[],[]⟩
def ki:Shape:=⟨[(0,.sl (.pair (.pair (.pair (.int .i64) (.int .i64)) (.int .i64)) (.pair (.pair (.int .i64) (.int .i64)) (.int .i64)))),(8,.bool),(9,.int .i64)],[(.slot 3,20000,.box 103 [.val db])],[(7,31000,(.row 103 (.pair (.pair (.pair (.int .i64) (.int .i64)) (.int .i64)) (.pair (.pair (.int .i64) (.int .i64)) (.int .i64)))))],[]⟩
def vx:Shape:=⟨[(0,.sl (.pair (.pair (.int .i64) (.int .i64)) (.int .i64))),(3,.int .i64),(4,.int .i64)],[],[],[]⟩
def Aq:Shape:=⟨[(0,.sl (.pair (.pair (.int .i64) (.int .i64)) (.int .i64))),(3,.int .i64),(6,.int .i64)],[],[(5,31000,(.row 32 (.pair (.pair (.int .i64) (.int .i64)) (.int .i64))))],[]⟩
def Ug:Shape:=⟨[(4,.int .i64)],[(.slot 1,20000,.box 25 [.val cW])],[(3,31000,(.row 30 (.pair (.int .i64) (.int .i64))))],[]⟩
def Uh:Shape:=⟨[(5,.int .i64)],[(.slot 1,20000,.box 25 [.val cW])],[(3,31000,(.row 30 (.pair (.int .i64) (.int .i64))))],[]⟩
def Ui:Shape:=⟨[(0,.sl (.pair (.int .i64) (.int .i64))),(3,.int .i64)],[],[],[]⟩
def Uj:Shape:=⟨[(3,.int .i64)],[(.slot 1,20000,.box 25 [.val cW])],[],[]⟩
def Uk:Shape:=⟨[(3,.int .i64),(4,.sl (.pair (.pair (.int .i64) (.int .i64)) (.int .i64))),(6,.int .i64)],[(.slot 1,20000,.box 25 [.val cW])],[],[]⟩
def Ul:Shape:=⟨[(9,.int .i64)],[(.slot 1,20000,.box 25 [.val cW])],[],[]⟩
def Um:Shape:=⟨[(9,.int .i64),(10,.int .i64)],[(.slot 1,20000,.box 25 [.val cW])],[],[]⟩
def vz:Shape:=⟨[(6,.int .i64),(7,.int .i64)],[(.slot 1,20000,.box 25 [.val cW])],[],[]⟩
def vA:Shape:=⟨[(0,.str)],[],[(6,31000,.mM)],[]⟩
def lA:Shape:=⟨[(48,.int .i64),(49,.int .i64)],[(.slot 0,1000,.box 109 [.own (.row 48 dP),.own (.row 56 eR),.val (.sl db)]),(.slot 5,20001,.box 28 [.val kN]),(.slot 7,20002,.box 32 [.val bm])],[(9,31000,(.row 32 (.pair (.pair (.int .i64) (.int .i64)) (.int .i64)))),(47,31001,(.row 34 (.pair (.pair (.int .i64) (.int .i64)) (.pair (.pair (.int .i64) (.int .i64)) (.int .i64)))))],[]⟩
def D5:Shape:=⟨[(5,.int .i64),(32,.int .i64),(33,.int .i64)],[(.slot 0,1000,.box 109 [.own (.row 48 dP),.own (.row 56 eR),.val (.sl db)]),(.slot 7,20001,.box 32 [.val bm]),(.slot 8,20002,.box 32 [.val bm])],[(31,31000,(.row 32 (.pair (.pair (.int .i64) (.int .i64)) (.int .i64))))],[]⟩
def vB:Shape:=⟨[(5,.int .i64),(47,.int .i64),(48,.int .i64)],[(.slot 0,1000,.box 109 [.own (.row 48 dP),.own (.row 56 eR),.val (.sl db)])],[(46,31000,(.row 32 (.pair (.pair (.int .i64) (.int .i64)) (.int .i64))))],[]⟩
def mC:Shape:=⟨[(113,.int .i64)],[(.slot 0,1000,.box 109 [.own (.row 48 dP),.own (.row 56 eR),.val (.sl db)]),(.slot 8,20001,.box 32 [.val bm]),(.slot 9,20002,.box 32 [.val bm]),(.slot 10,20003,.box 32 [.val bm])],[],[]⟩
def Ar:Shape:=⟨[(5,.int .i64)],[(.slot 2,20000,.box 28 [.val kN]),(.slot 3,20001,.box 32 [.val bm]),(.slot 4,20002,.box 32 [.val bm])],[],[]⟩
def vC:Shape:=⟨[(2,.sl (.pair (.pair (.int .i64) (.int .i64)) (.int .i64))),(8,.int .i64)],[(.slot 4,20000,.box 30 [.val gN]),(.slot 6,20001,.box 25 [.own (.row 48 dP),.own (.row 56 eR)]),(.slot 7,20002,.box 25 [.own (.row 48 dP),.own (.row 56 eR)])],[],[]⟩
def qQ:Shape:=⟨[(0,.sl (.pair (.pair (.int .i64) (.int .i64)) (.int .i64))),(7,.int .i64),(9,.int .i64)],[(.slot 5,20000,.box 32 [.val bm])],[(8,31000,(.row 32 (.pair (.pair (.int .i64) (.int .i64)) (.int .i64))))],[]⟩
def tZ:Shape:=⟨[(0,.sl (.pair (.pair (.pair (.int .i64) (.int .i64)) (.int .i64)) (.pair (.pair (.int .i64) (.int .i64)) (.int .i64)))),(6,.int .i64)],[(.slot 3,20000,.box 32 [.val bm]),(.slot 4,20001,.box 32 [.val bm])],[],[]⟩
def qR:Shape:=⟨[(0,.sl (.pair (.pair (.int .i64) (.int .i64)) (.int .i64))),(6,.int .i64)],[(.slot 3,20000,.box 32 [.val bm])],[(5,31000,(.row 32 (.pair (.pair (.int .i64) (.int .i64)) (.int .i64))))],[]⟩
def Re:Shape:=⟨[(5,.int .i64),(6,.int .i64)],[(.slot 2,20000,.box 25 [.val cW]),(.slot 3,20001,.box 32 [.val bm])],[],[]⟩
def Rf:Shape:=⟨[(5,.int .i64),(6,.int .i64),(7,.int .i64)],[(.slot 2,20000,.box 25 [.val cW]),(.slot 3,20001,.box 32 [.val bm])],[],[]⟩
def xO:Shape:=⟨[(7,.int .i64)],[(.slot 0,1000,.box 109 [.own (.row 48 dP),.own (.row 56 eR),.val (.sl db)]),(.slot 3,20001,.box 32 [.val bm]),(.slot 4,20002,.box 32 [.val bm]),(.slot 5,20003,.box 32 [.val bm])],[],[]⟩
def ua:Shape:=⟨[(12,.int .i64),(13,.int .i64)],[(.slot 0,1000,.box 109 [.own (.row 48 dP),.own (.row 56 eR),.val (.sl db)]),(.slot 3,20001,.box 32 [.val bm])],[],[]⟩
def ub:Shape:=⟨[(12,.int .i64),(13,.int .i64)],[(.slot 2,20000,.box 28 [.val kN]),(.slot 3,20001,.box 32 [.val bm]),(.slot 4,20002,.box 32 [.val bm])],[],[]⟩
def uc:Shape:=⟨[(0,.sl (.pair (.pair (.int .i64) (.int .i64)) (.int .i64))),(7,.int .i64),(8,.int .i64)],[(.slot 3,20000,.box 32 [.val bm])],[],[]⟩
def ud:Shape:=⟨[(0,.sl (.sl (.pair (.pair (.int .i64) (.int .i64)) (.int .i64)))),(3,.int .i64),(9,.sl (.sl (.pair (.pair (.int .i64) (.int .i64)) (.int .i64)))),(10,.int .i64),(11,.int .i64)],[],[],[]⟩
def ue:Shape:=⟨[(25,.sl (.sl (.pair (.pair (.int .i64) (.int .i64)) (.int .i64)))),(26,.int .i64),(27,.int .i64)],[],[(6,31000,(.row 32 (.pair (.pair (.int .i64) (.int .i64)) (.int .i64))))],[]⟩
def xQ:Shape:=⟨[(3,.int .i64),(6,.sl (.int .i64)),(7,.int .i64),(8,.int .i64)],[],[],[]⟩
def uf:Shape:=⟨[(9,.sl (.pair (.pair (.int .i64) (.int .i64)) (.pair (.sl (.pair (.pair (.int .i64) (.int .i64)) (.int .i64))) (.pair .str (.int .i64))))),(10,.int .i64),(11,.int .i64)],[(.slot 3,20000,.box 32 [.val bm]),(.slot 4,20001,.box 30 [.val gN])],[],[]⟩
def Rg:Shape:=⟨[(12,.int .i64),(13,.int .i64)],[(.slot 1,20000,.box 25 [.val cW]),(.slot 4,20001,.box 183 [.own (.map bm .bool)])],[(3,31000,(.row 46 (.sl bm))),(11,31001,(.row 32 (.pair (.pair (.int .i64) (.int .i64)) (.int .i64))))],[]⟩
def ug:Shape:=⟨[(8,.sl (.pair (.pair (.int .i64) (.int .i64)) (.pair .str (.int .i64)))),(9,.int .i64),(10,.int .i64)],[],[(3,31000,(.row 32 bm))],[]⟩
def Rh:Shape:=⟨[(11,.int .i64),(12,.int .i64)],[(.slot 1,20000,.box 25 [.val cW])],[(3,31000,(.map (.int .i64) (.int .i64))),(4,31001,(.row 124 (.sl gN))),(10,31002,(.row 3 (.int .i64)))],[]⟩
def qS:Shape:=⟨[(18,.sl (.pair (.pair (.int .i64) (.int .i64)) (.pair (.sl (.pair (.pair (.int .i64) (.int .i64)) (.int .i64))) (.pair .str (.int .i64))))),(19,.int .i64),(20,.int .i64)],[],[(3,31000,(.row 3 (.int .i64))),(4,31001,(.map (.pair (.pair (.int .i64) (.int .i64)) (.int .i64)) (.int .i64)))],[]⟩
def uh:Shape:=⟨[(5,.int .i64),(18,.sl (.pair (.pair (.int .i64) (.int .i64)) (.pair (.sl (.pair (.pair (.int .i64) (.int .i64)) (.int .i64))) (.pair .str (.int .i64))))),(19,.int .i64),(20,.int .i64),(30,.sl (.pair (.pair (.int .i64) (.int .i64)) (.int .i64))),(31,.int .i64),(32,.int .i64)],[],[(3,31000,(.row 3 (.int .i64))),(4,31001,(.map (.pair (.pair (.int .i64) (.int .i64)) (.int .i64)) (.int .i64)))],[]⟩
def ot:Shape:=⟨[(4,.mp (.pair (.pair (.int .i64) (.int .i64)) (.int .i64)) (.int .i64))],[],[(3,31000,(.row 3 (.int .i64))),(42,31001,(.iter (.pair (.pair (.int .i64) (.int .i64)) (.int .i64)) (.int .i64)))],[]⟩
def ui:Shape:=⟨[(61,.int .i64),(62,.int .i64)],[],[(3,31000,(.row 3 (.int .i64))),(13,31001,(.row 3 (.int .i64)))],[]⟩
def uj:Shape:=⟨[(11,.sl (.pair (.pair (.int .i64) (.int .i64)) (.pair (.sl (.pair (.pair (.int .i64) (.int .i64)) (.int .i64))) (.pair .str (.int .i64))))),(12,.int .i64),(13,.int .i64)],[(.slot 3,20000,.box 32 [.val bm]),(.slot 4,20001,.box 32 [.val bm])],[],[]⟩
def qT:Shape:=⟨[(1,.int .i64)],[],[(0,1000,(.row 3 (.int .i64)))],[]⟩
def g9:Shape:=⟨[(0,.sl (.pair (.pair (.int .i64) (.int .i64)) (.pair (.sl (.pair (.pair (.int .i64) (.int .i64)) (.int .i64))) (.pair .str (.int .i64))))),(8,.int .i64),(9,.int .i64),(10,.int .i64)],[(.slot 4,20000,.box 30 [.val gN])],[],[(2,126,[])]⟩
def hM:Shape:=⟨[(0,.sl (.pair (.pair (.int .i64) (.int .i64)) (.pair .str (.int .i64)))),(8,.int .i64),(9,.int .i64),(10,.int .i64)],[(.slot 4,20000,.box 30 [.val gN])],[],[(2,138,[])]⟩
def jw:Shape:=⟨[(0,.sl (.pair (.pair (.int .i64) (.int .i64)) (.int .i64))),(6,.int .i64)],[(.slot 4,20000,.box 32 [.val bm]),(.slot 5,20001,.box 32 [.val bm])],[],[(1,142,[])]⟩
def lB:Shape:=⟨[(11,.sl (.pair (.pair (.int .i64) (.int .i64)) (.pair (.sl (.pair (.pair (.int .i64) (.int .i64)) (.int .i64))) (.pair .str (.int .i64))))),(12,.int .i64),(13,.int .i64)],[(.slot 5,20000,.box 30 [.val gN]),(.slot 6,20001,.box 48 [.val (.int .i64),.val (.int .i64),.own (.row 32 bm),.val .str,.val (.int .i64)])],[],[(1,150,[])]⟩
def hP:Shape:=⟨[(0,.sl (.pair (.pair (.pair (.int .i64) (.int .i64)) (.int .i64)) (.pair (.pair (.int .i64) (.int .i64)) (.int .i64)))),(8,.int .i64),(9,.int .i64),(10,.int .i64)],[(.slot 4,20000,.box 32 [.val bm])],[],[(2,155,[])]⟩
def jx:Shape:=⟨[(0,.sl (.pair (.pair (.pair (.int .i64) (.int .i64)) (.int .i64)) (.pair (.pair (.int .i64) (.int .i64)) (.int .i64)))),(7,.int .i64),(8,.int .i64)],[(.cap 1 0,1000,.box 32 [.val bm])],[],[(1,163,[1000])]⟩
def jy:Shape:=⟨[(5,.int .i64),(8,.sl (.pair (.pair (.int .i64) (.int .i64)) (.pair (.sl (.pair (.pair (.int .i64) (.int .i64)) (.int .i64))) (.pair .str (.int .i64))))),(9,.int .i64),(10,.int .i64)],[],[],[(1,165,[])]⟩
def Un:Shape:=⟨[(4,.int .i64),(7,.bool),(8,.bool),(9,.int .i64)],[(.slot 1,20000,.box 25 [.val cW])],[],[]⟩
def Uo:Shape:=⟨[(7,.bool),(8,.bool),(10,.int .i64)],[(.slot 1,20000,.box 25 [.val cW])],[],[]⟩
def ans:List (Nat×List (Nat×Shape)):=[(63,[(12,Un),(17,Uo)]),(9,[(5,Xd)]),(10,[(4,Ue)]),(11,[(8,zY)]),(17,[(3,zZ)]),(18,[(2,z5)]),(20,[(2,z6)]),(21,[(2,z7)]),(22,[(6,z8)]),(24,[(2,Aa)]),(27,[(4,Ab),(12,Ac)]),(28,[(2,Ad)]),(31,[(5,vq)]),(32,[(4,vt)]),(35,[(5,Ae)]),(38,[(3,Af)]),(39,[(2,Uf)]),(41,[(4,Ag)]),(44,[(3,Ah)]),(46,[(4,sR)]),(47,[(3,vu),(8,vv)]),(51,[(18,lz)]),(52,[(4,qa),(12,qb)]),(53,[(4,Ai)]),(55,[(2,Aj)]),(56,[(3,Ak),(7,vw),(10,qc)]),(57,[(4,Al)]),(58,[(4,Am)]),(59,[(3,Ao)]),(60,[(3,Ap)]),(71,[(4,sS)]),(73,[(7,ki)]),(77,[(3,vx),(9,Aq)]),(82,[(3,Ug),(7,Uh)]),(83,[(2,Ui)]),(84,[(2,Uj),(9,Uk),(15,Ul),(18,Um)]),(85,[(3,vz)]),(88,[(2,vA)]),(92,[(8,lA)]),(93,[(6,D5),(11,vB)]),(95,[(19,mC)]),(98,[(2,Ar)]),(99,[(3,vC)]),(100,[(6,qQ)]),(101,[(2,tZ)]),(102,[(3,qR)]),(105,[(3,Re),(6,Rf)]),(117,[(3,xO)]),(118,[(2,ua)]),(132,[(2,ub)]),(134,[(2,uc)]),(143,[(3,ud),(11,ue)]),(144,[(3,xQ)]),(151,[(2,uf)]),(166,[(4,Rg)]),(171,[(3,ug)]),(173,[(4,Rh)]),(177,[(4,qS),(8,uh),(14,ot),(21,ui)]),(179,[(2,uj)]),(181,[(1,qT)]),(127125,[(3,g9)]),(139137,[(3,hM)]),(143141,[(5,jw)]),(151149,[(2,lB)]),(156154,[(3,hP)]),(164162,[(2,jx)]),(166164,[(3,jy)])]
def An(f:FuncId)(key:Nat):Option Shape:=(ans.find? (fun p=>p.1==f)).bind fun p=>(p.2.find? (fun q=>q.1==key)).map (fun q=>q.2)
abbrev JT(g:aJ):=(sh:Shape)→List Item→sh.T→Option g.B
noncomputable def bZ(f:FuncId)(g:aJ)(fn:Func)(F:FT)(J:JT g)(x:g.A):Option g.B:=ax Tryz.prog Eqs Sg F fn.ntmps (An f) J (pI Tryz.prog g fn) fuel [.code (fn.body.getD .skip)] (entry g x)
noncomputable def fR(f j:Nat)(g:aJ)(fn:Func)(sh:Shape)(F:FT)(J:JT g)(x:sh.T):Option g.B:=ax Tryz.prog Eqs Sg F fn.ntmps (An f) J (pI Tryz.prog g fn) fuel (round (aP Tryz.prog (f % 1000) j)) (ao sh x)
end Go.Vs
namespace Go.Vs
open Go.Proofs
variable {G:(f:FuncId)→(g:aJ)→Option (g.A→Option g.B)}
noncomputable abbrev FX(G:(f:FuncId)→(g:aJ)→Option (g.A→Option g.B)):FT:=Fix Tryz.prog Eqs Sg An G
noncomputable abbrev LX(G:(f:FuncId)→(g:aJ)→Option (g.A→Option g.B))(f:FuncId)(g:aJ)(fn:Func):JT g:=Lp Tryz.prog Eqs Sg An G f g fn
abbrev HG(G:(f:FuncId)→(g:aJ)→Option (g.A→Option g.B)):Prop:=∀f g,(f==166 || f==167)=false→G f g=none
theorem au{f:FuncId}{g:aJ}{fn:Func}{x:g.A}{y:g.B}(hG:G f g=none)(hb:body Tryz.prog (f % 1000)=some (fn,fn.body.getD .skip))(hc:(decide (g.ps.length≤fn.ntmps)&&decide (g.bs.length≤8))=true)
  (h:bZ f g fn (FX G) (LX G f g fn) x=some y):FX G f g x=some y:=JN hG hb hc h
theorem ar{f j:Nat}{g:aJ}{fn:Func}{sh:Shape}{x:sh.T}{y:g.B}(hs:(match aP Tryz.prog (f % 1000) j with | .inLoop _::_=>true | _=>false)=true)
  (h:fR f j g fn sh (FX G) (LX G f g fn) x=some y):LX G f g fn sh (aP Tryz.prog (f % 1000) j) x=some y:=by
 unfold fR at h
 generalize aP Tryz.prog (f % 1000) j=s at hs h ⊢
 split at hs
 ·exact NK h
 ·cases hs
end Go.Vs
