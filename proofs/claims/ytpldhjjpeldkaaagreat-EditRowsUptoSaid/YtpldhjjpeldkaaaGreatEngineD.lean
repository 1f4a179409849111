/- The value semantics is sound for whole functions; the signatures of the program. -/
import Derived.Test.YtpldhjjpeldkaaaGreatEngineC
import Derived.Scope
import Derived.Test.YtpldhjjpeldkaaaGreatProg
import Derived.KernelRfl
set_option linter.unusedSimpArgs false
set_option linter.unusedVariables false
namespace Go.Vs
variable {P:Program} {Eqs:TypeId→Option K} {Sg:FuncId→Option aJ} {F:(f:FuncId)→(g:aJ)→g.A→Option g.B} {R:Type}
variable {Z Z' Z0:Nat→Prop} {ψ ψ' ψ0:Nat→Value} {h h':Hp} {w w' w0:World} {B0:Nat} {O N:Nat→Prop}
def eL(st:St):(l:List (Nat×Nat×OK))→HB (l.map (·.2.2))→List wu
 | [],_=>[]
 | (s,id,ok)::r,x=>(id,(nI (look st.tmps s)).head?,.own ok x.1)::eL st r x.2
theorem tN(st:St):∀(l:List (Nat×Nat×OK)) (x:HB (l.map (·.2.2))),dk (eL st l x)=pz l x
 | [],_=>rfl
 | (s,id,ok)::r,x=>by simp only [eL,pz];rw [←tN st r x.2];rfl
theorem rJ(st:St):∀(l:List (Nat×Nat×OK)) (x:HB (l.map (·.2.2))),(eL st l x).map (·.1)=l.map (·.2.1)
 | [],_=>rfl
 | (s,id,ok)::r,x=>by simp only [eL,List.map_cons];rw [rJ st r x.2]
theorem wI(st:St):∀(l:List (Nat×Nat×OK)) (x:HB (l.map (·.2.2))),(eL st l x).filterMap (·.2.1)=l.flatMap fun p=>nI (look st.tmps p.1)
 | [],_=>rfl
 | (s,id,ok)::r,x=>by
  simp only [eL,List.flatMap_cons]
  rw [dz,wI st r x.2]
  simp only []
  rw [uZ]
theorem pR{st:St}{s id:Nat}{ok:OK}{r:List (Nat×Nat×OK)}{x:HB (((s,id,ok)::r).map (·.2.2))}(hd:mn st ((s,id,ok)::r)=some x):dB st.heap ok (look st.tmps s)=some x.1∧mn st r=some x.2:=by
 have e:mn st ((s,id,ok)::r)=(match dB st.heap ok (look st.tmps s),mn st r with
  | some x,some y=>some ((x,y):ok.T×HB (r.map (·.2.2)))
  | _,_=>none):=rfl
 rw [e] at hd
 clear e
 generalize dB st.heap ok (look st.tmps s)=o1 at hd ⊢
 generalize mn st r=o2 at hd ⊢
 cases o1 with
 | none=>cases hd
 | some x1 =>
  cases o2 with
  | none=>cases hd
  | some y1=>have:=Option.some.inj hd;subst this;exact ⟨rfl,rfl⟩
theorem zu{hd:Hp}{st:St}:∀(l:List (Nat×Nat×OK)) (x:HB (l.map (·.2.2))),mn st l=some x→(∀s∈(l.flatMap fun p=>nI (look st.tmps p.1)),hd s=st.heap.get s) →
  ∀e∈eL st l x,tE Z ψ hd w h' ψ' e
 | [],_,_,_,e,he=>by simp [eL] at he
 | (s,id,ok)::r,x,hx,hk,e,he=>by
  obtain ⟨h1,h2⟩:=pR hx
  simp only [List.flatMap_cons] at hk
  simp only [eL] at he
  rcases List.mem_cons.1 he with rfl | he
  ·exact Jq h1 fun s hs=>hk s (List.mem_append_left _ hs)
  ·exact zu r x.2 h2 (fun s hs=>hk s (List.mem_append_right _ hs)) e he
theorem Fj{st:St}{s:Nat}{k:K}{r:List (Nat×K)}{x:ED (((s,k)::r).map (·.2))}(hd:pw st ((s,k)::r)=some x):fj k st.heap (look st.tmps s)=some x.1∧pw st r=some x.2:=by
 have e:pw st ((s,k)::r)=(match fj k st.heap (look st.tmps s),pw st r with
  | some x,some y=>some ((x,y):k.T×ED (r.map (·.2)))
  | _,_=>none):=rfl
 rw [e] at hd
 clear e
 generalize fj k st.heap (look st.tmps s)=o1 at hd ⊢
 generalize pw st r=o2 at hd ⊢
 cases o1 with
 | none=>cases hd
 | some x1 =>
  cases o2 with
  | none=>cases hd
  | some y1=>have:=Option.some.inj hd;subst this;exact ⟨rfl,rfl⟩
theorem dY{T:List (Nat×AV)}{n:Nat}{a:Act}(eQ:∀p∈T,av Z ψ h w p.2 (a.tmps.getD p.1 undef))(hs:a.tmps.size=n)(hd:a.defers=[]):cJ Z ψ h w n (look T) a:=by
 refine ⟨fun d => ?_,hs,hd⟩
 induction T with
 | nil=>simp only [look,av]
 | cons p r ih =>
  obtain ⟨i,v⟩:=p
  simp only [look]
  split
  ·rename_i e;subst e;exact eQ _ List.mem_cons_self
  ·exact ih fun p hp=>eQ p (List.mem_cons_of_mem _ hp)
section
variable {st:St} {n:Nat} {a:Act}
theorem tO(g:Good Z ψ st.heap.get w B0 O)(t:cJ Z ψ st.heap.get w n (look st.tmps) a)(hz:∀b,Z b→Z' b):∀(l:List (Nat×K)) (x:ED (l.map (·.2))),pw st l=some x →
  (∀id b,AV.bF id∈(l.flatMap fun p=>(look st.tmps p.1).cells)→st.heap.get id≠none→ob (ψ id)=some b→Z' b)→∀p∈py l x,av Z' ψ' h' w p.2 (a.tmps.getD p.1 undef)
 | [],_,_,_,p,hp=>by simp [py] at hp
 | (s,k)::r,x,hx,hf,p,hp=>by
  obtain ⟨h1,h2⟩:=Fj hx
  simp only [List.flatMap_cons] at hf
  simp only [py] at hp
  rcases List.mem_cons.1 hp with rfl | hp
  ·exact qC g hz (fun id b bO=>hf id b (List.mem_append_left _ bO)) h1 (t.rep s)
  ·exact tO g t hz r x.2 h2 (fun id b bO=>hf id b (List.mem_append_right _ bO)) p hp
theorem rK(t:cJ Z ψ st.heap.get w n (look st.tmps) a):∀(l:List (Src×Nat×BK)) (ids:List Nat),De st l=some ids→(∀i∈ids,st.heap.get i≠none) →
  (∀p∈ids.zip (l.map (·.2.1)),h' p.2≠none→ψ' p.2=ψ p.1)→∀p∈ji l,av Z' ψ' h' w p.2 (a.tmps.getD p.1 undef)
 | [],_,_,_,_,p,hp=>by simp [ji] at hp
 | (src,lK,b)::r,ids,hx,hi,iC,p,hp=>by
  simp only [De] at hx
  split at hx
  ·rename_i i is h1 h2
   cases hx
   simp only [List.map_cons,List.zip_cons_cons] at iC
   have ih:=rK t r is h2 (fun j hj=>hi j (List.mem_cons_of_mem _ hj)) (fun p hp=>iC p (List.mem_cons_of_mem _ hp)) p
   cases src with
   | slot s =>
    simp only [ji] at hp
    rcases List.mem_cons.1 hp with rfl | hp
    ·simp only [Si] at h1
     obtain ⟨sz,h3⟩:=nV h1
     have h4:=t.rep s
     rw [h3] at h4
     exact xx h4 (hi i List.mem_cons_self) (iC (i,lK) List.mem_cons_self)
    ·exact ih hp
   | cap s j=>exact ih (by simpa only [ji] using hp)
  ·cases hx
theorem Fk{hh:Heap}{ids:List (Nat×Nat)}(hi:∀p∈ids,hh.get p.1≠none)(iC:∀p∈ids,h' p.2≠none→ψ' p.2=ψ p.1):∀(cap:List AV) (is Bu:List Nat) (vs:List Value),jg cap=some is →
  is.map (fun i=>(ids.find? (·.1==i)).map (·.2))=Bu.map some→an Z ψ hh.get w cap vs→an Z' ψ' h' w (Bu.map fun i=>.ref i 0 0 0) vs
 | [],is,Bu,vs,h1,h2,hr=>by
  simp only [jg] at h1
  cases h1
  cases Bu with
  | nil=>simpa only [List.map_nil,an] using hr
  | cons c r=>simp at h2
 | v::cap,is,Bu,vs,h1,h2,hr=>by
  simp only [jg] at h1
  split at h1
  ·rename_i i is' h3 h4
   cases h1
   cases Bu with
   | nil=>simp at h2
   | cons c r =>
    simp only [List.map_cons,List.cons.injEq] at h2
    obtain ⟨h5,h6⟩:=h2
    simp only [List.map_cons,an] at hr ⊢
    obtain ⟨u,us,rfl,h7,h8⟩:=hr
    obtain ⟨sz,rfl⟩:=nV h3
    cases hf:ids.find? (·.1==i) with
    | none=>rw [hf] at h5;cases h5
    | some p =>
     rw [hf] at h5
     have hm:=List.mem_of_find?_eq_some hf
     have he:=List.find?_some hf
     simp only [Option.map_some,Option.some.injEq] at h5
     have TD:p.1=i:=by simpa using he
     refine ⟨u,us,rfl,xx h7 (by rw [←TD];exact hi p hm) (fun hn => ?_),Fk hi iC cap is' r us h4 h6 h8⟩
     rw [←h5,←TD];exact iC p hm (by rw [h5];exact hn)
  ·cases h1
theorem wJ(t:cJ Z ψ st.heap.get w n (look st.tmps) a){ids:List (Nat×Nat)}(hi:∀p∈ids,st.heap.get p.1≠none)(iC:∀p∈ids,h' p.2≠none→ψ' p.2=ψ p.1):∀(l:List (Nat×FuncId×List Nat)),Jn st ids l=true →
  ∀p∈xp l,av Z' ψ' h' w p.2 (a.tmps.getD p.1 undef)
 | [],_,p,hp=>by simp [xp] at hp
 | (s,f,Bu)::r,hx,p,hp=>by
  simp only [Jn,Bool.and_eq_true] at hx
  simp only [xp,List.map_cons] at hp
  rcases List.mem_cons.1 hp with rfl | hp
  ·have h1:=hx.1
   split at h1
   ·rename_i f' cap hl
    simp only [Bool.and_eq_true,decide_eq_true_eq] at h1
    obtain ⟨rfl,h2⟩:=h1
    split at h2
    ·rename_i is hri
     have h4:=t.rep s
     rw [hl] at h4
     simp only [av] at h4 ⊢
     obtain ⟨vs,h5,h6⟩:=h4
     exact ⟨vs,h5,Fk hi iC cap is Bu _ hri (of_decide_eq_true h2) h6⟩
    ·cases h2
   ·cases h1
  ·exact wJ t hi iC r hx.2 p hp
theorem tP(t:cJ Z ψ st.heap.get w n (look st.tmps) a):∀(l:List (Nat×Nat×OK)) (x:HB (l.map (·.2.2))),mn st l=some x→(∀e∈eL st l x,h' e.1≠none→ψ' e.1=jq ψ e.2.1) →
  ∀p∈(l.map fun p=>(p.1,AV.bF p.2.1)),av Z' ψ' h' w p.2 (a.tmps.getD p.1 undef)
 | [],_,_,_,p,hp=>by simp at hp
 | (s,id,ok)::r,x,hx,iC,p,hp=>by
  obtain ⟨h1,h2⟩:=pR hx
  simp only [eL] at iC
  simp only [List.map_cons] at hp
  rcases List.mem_cons.1 hp with rfl | hp
  ·exact Du h1 (t.rep s) (iC _ List.mem_cons_self)
  ·exact tP t r x.2 h2 (fun e he=>iC e (List.mem_cons_of_mem _ he)) p hp
end
theorem tQ{st:St}{m:Nat}:∀(l:List (Nat×Nat×OK)) (x:HB (l.map (·.2.2))),mP st m l=true→∃o,(m,some m,o)∈eL st l x
 | [],_,h=>by cases h
 | (s,id,ok)::r,x,h=>by
  simp only [mP,Bool.or_eq_true,Bool.and_eq_true,beq_iff_eq] at h
  rcases h with ⟨rfl,h⟩ | h
  ·split at h
   ·rename_i i hl
    have hi:i=id:=by simpa using h
    subst hi
    exact ⟨_,by simp only [eL,hl,nI,List.head?_cons];exact List.mem_cons_self⟩
   ·cases h
  ·obtain ⟨o,ho⟩:=tQ r x.2 h
   exact ⟨o,List.mem_cons_of_mem _ ho⟩
theorem rL{st:St}{m:Nat}:∀(l:List (Nat×Nat×OK)) (x:HB (l.map (·.2.2))),mn st l=some x→mP st m l=true→st.heap.get m≠none
 | [],_,_,h=>by cases h
 | (s,id,ok)::r,x,hx,h=>by
  obtain ⟨h1,h2⟩:=pR hx
  simp only [mP,Bool.or_eq_true,Bool.and_eq_true,beq_iff_eq] at h
  rcases h with ⟨rfl,h⟩ | h
  ·split at h
   ·rename_i i hl
    have hi:i=id:=by simpa using h
    subst hi
    rw [hl] at h1
    simp only [dB] at h1
    split at h1
    ·rename_i hg;rw [hg];simp
    ·cases h1
   ·cases h
  ·exact rL r x.2 h2 h
theorem Jw{kb:List AV}{hh:Heap}{b:Nat}(hb:o4 Z ψ hh.get kb b):Z b∨Own ψ hh.get b:=hb.imp (fun h=>h) fun ⟨i,_,h2,h3⟩=>⟨i,h2,h3⟩
theorem fH{sh:Shape}{st:St}{x:sh.T}{n:Nat}{a:Act}(hx:cv sh st=some x)(k:Ok Z0 w0 O ψ0 Z ψ st.heap.get w)(t:cJ Z ψ st.heap.get w n (look st.tmps) a) :
  ∃Z' ψ',Ok Z0 w0 O ψ0 Z' ψ' (ao sh x).heap.get w∧cJ Z' ψ' (ao sh x).heap.get w n (look (ao sh x).tmps) a:=by
 unfold cv at hx
 split at hx
 ·cases hx
 rename_i ids rh
 split at hx
 ·rename_i xv xb xr hv hb hr BA
  cases hx
  simp only [Bool.and_eq_true] at BA
  obtain ⟨Fl,y0,abH,abI⟩:=BA
  obtain ⟨hlen,zd⟩:=iI _ _ _ hb
  have SA:(sh.boxes.map (·.2.1)).length=sh.bs.length:=by simp [Shape.bs]
  let L:List wu:=ck sh.bs st.heap ids (sh.boxes.map (·.2.1)) 9000 xb++eL st sh.rows xr
  have eH:dk L=(ao sh (xv,xb,xr)).heap:=by
   show dk (_++_)=_
   rw [lT,iH _ _ _ _ _ _ hb SA,tN];rfl
  have eN:L.map (·.1)=qw sh:=by
   show (_++_:List wu).map _=_
   rw [List.map_append,gr _ _ _ _ _ _ hb SA,rJ];rfl
  have eS:L.filterMap (·.2.1)=EH st sh ids:=by
   show (_++_:List wu).filterMap _=_
   rw [List.filterMap_append,jO _ _ _ _ _ _ hb SA,wI];rfl
  have hn:bZ (L.map (·.1))=true:=by rw [eN];exact y0
  have iC:=xw (ψ:=ψ) hn
  have hz:∀b,Z b→o4 Z ψ st.heap.get (xn st sh ids) b:=fun b hb=>.inl hb
  have Hs:=(qI Fl).2 st.heap
  have g':Good (o4 Z ψ st.heap.get (xn st sh ids)) (dX ψ L) (dk L).get w w0.heap.size O:=by
   refine u4 k.dL Fl hn eS fun e he => ?_
   rcases List.mem_append.1 he with he | he
   ·exact k0 k.dL hz sh.bs ids _ 9000 xb hb (fun id b bO h1 h2=>.inr ⟨id,List.mem_append_right _ bO,h1,h2⟩) (fun s hs=>Hs s (List.mem_append_left _ hs)) (fun e he=>iC e (List.mem_append_left _ he)) e he
   ·exact zu sh.rows xr hr (fun s hs=>Hs s (List.mem_append_right _ hs)) e he
  have M1:∀p∈ids.zip (sh.boxes.map (·.2.1)),(dk L).get p.2≠none→dX ψ L p.2=ψ p.1:=fun p hp bj=>by
   obtain ⟨o,ho⟩:=jP sh.bs ids (sh.boxes.map (·.2.1)) 9000 xb (hh:=st.heap) hlen p hp
   exact iC (p.2,some p.1,o) (List.mem_append_left _ ho) bj
  have uT:∀p∈ids.zip (sh.boxes.map (·.2.1)),st.heap.get p.1≠none:=fun p hp=>zd _ (List.of_mem_zip hp).1
  refine ⟨o4 Z ψ st.heap.get (xn st sh ids),dX ψ L,?_,?_⟩
  ·rw [←eH]
   refine ⟨g',fun b hb=>.inl (k.fg b hb),fun b hb => ?_,k.os,k.tape,k.output,k.size,k.block,fun i hi bj => ?_⟩
   ·rcases Jw hb with h1 | ⟨id,h1,h2⟩
    ·exact k.dQ b h1
    ·exact .inr (k.dL.live id b h1 h2).2.symm
   ·obtain ⟨o,ho⟩:=Option.ne_none_iff_exists'.1 bj
    obtain ⟨s,hm⟩:=mS ho
    have iM:i∈qw sh:=by rw [←eN];exact List.mem_map.2 ⟨_,hm,rfl⟩
    have h1:=List.all_eq_true.1 abH i iM
    simp only [Bool.or_eq_true,decide_eq_true_eq] at h1
    rcases h1 with (h1 | h1) | h1
    ·omega
    ·obtain ⟨p,hp,he⟩:=List.any_eq_true.1 h1
     simp only [Bool.and_eq_true,beq_iff_eq] at he
     have h2:=M1 p hp (by rw [he.2];exact bj)
     rw [he.1,he.2] at h2
     rw [h2]
     exact k.fix i hi (by have:=uT p hp;rwa [he.1] at this)
    ·obtain ⟨o',mu⟩:=tQ sh.rows xr h1
     have h2:dX ψ L i=ψ i:=iC (i,some i,o') (List.mem_append_right _ mu) bj
     rw [h2]
     exact k.fix i hi (rL sh.rows xr hr h1)
  ·rw [←eH]
   refine dY (fun p hp => ?_) t.size t.defers
   simp only [ao] at hp
   rcases List.mem_append.1 hp with hp | hp
   ·exact tO k.dL t hz sh.w6 xv hv (fun id b bO h1 h2=>.inr ⟨id,List.mem_append_left _ bO,h1,h2⟩) p hp
   ·rcases List.mem_append.1 hp with hp | hp
    ·exact rK t sh.boxes ids rh zd M1 p hp
    ·rcases List.mem_append.1 hp with hp | hp
     ·exact wJ t uT M1 sh.fns abI p hp
     ·exact tP t sh.rows xr hr (fun e he=>iC e (List.mem_append_right _ he)) p hp
 ·cases hx
end Go.Vs
namespace Go.Vs
variable {P:Program} {Eqs:TypeId→Option K} {Sg:FuncId→Option aJ} {F:(f:FuncId)→(g:aJ)→g.A→Option g.B} {R:Type}
variable {Z Z' Z0:Nat→Prop} {ψ ψ' ψ0:Nat→Value} {h h':Hp} {w w' w0:World} {B0:Nat} {O N:Nat→Prop}
def Reach(P:Program)(b:Frame)(cs:List Frame)(sK:Act→World→Prop)(m:Machine):Prop:=∃a' w' todo,sK a' w'∧Steps P m (lone { b.at a' todo with mode:=.returning } cs w')
theorem Reach.head{b:Frame}{cs:List Frame}{sK:Act→World→Prop}{m m':Machine}(h:step P m=.next m')(r:Reach P b cs sK m'):Reach P b cs sK m:=by
 obtain ⟨a,w,todo,h1,h2⟩:=r
 exact ⟨a,w,todo,h1,.head h h2⟩
theorem Reach.steps{b:Frame}{cs:List Frame}{sK:Act→World→Prop}{m m':Machine}(h:Steps P m m')(r:Reach P b cs sK m'):Reach P b cs sK m:=by
 obtain ⟨a,w,todo,h1,h2⟩:=r
 exact ⟨a,w,todo,h1,h.trans h2⟩
theorem pS(V:Env P Eqs Sg F)(hm:P.follows .mixedOrders=true){n:Nat}{ann:Nat→Option Shape}{J:(sh:Shape)→List Item→sh.T→Option R}{ret:St→Option R}{r:R}{b:Frame}{cs:List Frame}{sK:Act→World→Prop}
  (hJ:∀sh c k x Z ψ a w,J sh (.inLoop c::k) x=some r→Ok Z0 w0 O ψ0 Z ψ (ao sh x).heap.get w→cJ Z ψ (ao sh x).heap.get w n (look (ao sh x).tmps) a→Reach P b cs sK (lone (b.at a (.code c::.inLoop c::k)) cs w))
  (ri:∀st Z ψ a w,ret st=some r→Ok Z0 w0 O ψ0 Z ψ st.heap.get w→cJ Z ψ st.heap.get w n (look st.tmps) a→sK a w) :
  ∀(fu:Nat) (items:List Item) (st:St) (Z:Nat→Prop) (ψ:Nat→Value) (a:Act) (w:World),ax P Eqs Sg F n ann J ret fu items st=some r→Ok Z0 w0 O ψ0 Z ψ st.heap.get w→cJ Z ψ st.heap.get w n (look st.tmps) a →
   Reach P b cs sK (lone (b.at a items) cs w)
 | 0,items,st,Z,ψ,a,w,hx,k,t=>by
  cases items<;>simp only [ax] at hx<;>cases hx
 | fu+1,[],st,Z,ψ,a,w,hx,k,t=>⟨a,w,[],ri st Z ψ a w (by simpa only [ax] using hx) k t,.one step_end⟩
 | fu+1,it::K4,st,Z,ψ,a,w,hx,k,t=>by
  have ih:=pS V hm (ann:=ann) hJ ri fu
  have loop:∀c,(match ann (qx c) with
    | none=>none
    | some sh=>match cv sh st with
     | some x=>J sh (.inLoop c::K4) x
     | none=>none)=some r→Reach P b cs sK (lone (b.at a (.code c::.inLoop c::K4)) cs w):=fun c hx=>by
   split at hx
   ·cases hx
   ·rename_i sh hsh
    split at hx
    ·rename_i x hxx
     obtain ⟨Z',ψ',k',t'⟩:=fH hxx k t
     exact hJ sh c K4 x Z' ψ' a w hx k' t'
    ·cases hx
  cases it with
  | inBlock id=>exact .head step_inBlock (ih K4 st Z ψ a w (by simpa only [ax] using hx) k t)
  | inScope c=>exact .head step_inScope (ih K4 st Z ψ a w (by simpa only [ax] using hx) k t)
  | inLoop c=>exact .head step_inLoop (loop c (by simp only [ax] at hx;exact hx))
  | code c =>
   cases c with
   | skip=>exact .head step_skip (ih K4 st Z ψ a w (by simpa only [ax] using hx) k t)
   | label l=>exact .head step_label (ih K4 st Z ψ a w (by simpa only [ax] using hx) k t)
   | seq x y=>exact .head step_seq (ih _ st Z ψ a w (by simpa only [ax] using hx) k t)
   | cond c x y =>
    simp only [ax] at hx
    split at hx
    ·rename_i tt ht
     have h1:=pP t c
     rw [ht] at h1
     simp only [av] at h1
     cases tt with
     | true=>exact .head (step_cond h1) (ih _ st Z ψ a w hx k t)
     | false=>exact .head (step_cond h1) (ih _ st Z ψ a w hx k t)
    ·cases hx
   | scope c=>exact .head step_scope (ih _ st Z ψ a w (by simpa only [ax] using hx) k t)
   | block id c=>exact .head step_block (ih _ st Z ψ a w (by simpa only [ax] using hx) k t)
   | loop c =>
    simp only [ax] at hx
    cases fu with
    | zero=>simp only [ax] at hx;cases hx
    | succ fu=>exact .head step_loop (loop c (by simp only [ax] at hx;exact hx))
   | exit id =>
    simp only [ax] at hx
    split at hx
    ·rename_i k' hk;exact .head (step_exit hk) (ih _ st Z ψ a w hx k t)
    ·cases hx
   | ret=>exact ⟨a,w,_,ri st Z ψ a w (by simpa only [ax] using hx) k t,.one step_ret⟩
   | region id ops draw =>
    simp only [ax] at hx
    have hw:=DJ V hm (Q:=fun e a w=>e=.normal∧∃dP Z ψ,ax P Eqs Sg F n ann J ret fu K4 dP=some r∧Ok Z0 w0 O ψ0 Z ψ dP.heap.get w∧cJ Z ψ dP.heap.get w n (look dP.tmps) a) hx k t (fun dP Z ψ a w h1 h2 h3=>⟨rfl,dP,Z,ψ,h1,h2,h3⟩)
    obtain ⟨e,a',w',⟨rfl,dP,Z',ψ',h1,h2,h3⟩,M0⟩:=hw b K4 cs
    exact .steps M0 (ih K4 dP Z' ψ' a' w' h1 h2 h3)
   | _=>simp only [ax] at hx;cases hx
  | _=>simp only [ax] at hx;cases hx
theorem pT{hh:Heap}{n:Nat}{s:List (Nat×AV)}{a:Act}(g:Good Z ψ hh.get w B0 O)(t:cJ Z ψ hh.get w n (look s) a):∀(l:List ResultVar) (acc:Array Value) (vs:List AV),wc P hh s l=some vs →
  ∃us,(l.foldlM (fun (bs:Array Value) r=>do let y ←(match r with | .tmp t=>pure (a.tmps.getD t undef) | .cell p ty=>do loadVar ty (←asAddr (a.tmps.getD p undef)):Sem Value);pure (bs.push y)) acc:Sem (Array Value)).run P w=.ok (acc++us.toArray) w∧an Z ψ hh.get w vs us
 | [],acc,vs,hx=>by
  simp only [wc] at hx
  cases hx
  exact ⟨[],by simp,by simp only [an]⟩
 | .tmp d::l,acc,vs,hx=>by
  simp only [wc] at hx
  split at hx
  ·rename_i gu h1
   cases hx
   obtain ⟨us,h2,h3⟩:=pT g t l (acc.push (a.tmps.getD d undef)) gu h1
   refine ⟨a.tmps.getD d undef::us,?_,by simp only [an];exact ⟨_,_,rfl,t.rep d,h3⟩⟩
   simp only [List.foldlM_cons,Sem.run_bind,Sem.run_pure,Result.andThen_ok]
   rw [h2];simp
  ·cases hx
 | .cell d ty::l,acc,vs,hx=>by
  simp only [wc] at hx
  split at hx
  ·rename_i id sz off hd
   split at hx
   ·rename_i bt cs hg
    split at hx
    ·rename_i v gu hv h1
     cases hx
     have h4:=t.rep d
     rw [hd] at h4
     simp only [av] at h4
     obtain ⟨ad,h5,h6⟩:=h4
     obtain ⟨gg,ws,e1,e2,e3,e4⟩:=g.box id bt cs hg
     have h7:=h6 (by rw [hg];simp)
     rw [e1] at h7
     simp only [Qy,Nat.zero_mul,Nat.zero_add] at h7
     subst h7
     obtain ⟨V,h8,h9⟩:=jl (a:=⟨gg,off,none⟩) (e3.drop off) (fun j u hu=>by
      rw [cd];simp only [World.cell?,e2];rw [List.getElem?_drop] at hu;simpa using hu) hv
     have mq:(loadVar ty ⟨gg,off,none⟩).run P w=.ok V w:=by
      have:=h8
      simpa [Instr.loadAt,Instr.sureAddr] using this
     obtain ⟨us,h2,h3⟩:=pT g t l (acc.push V) gu h1
     refine ⟨V::us,?_,by simp only [an];exact ⟨_,_,rfl,h9,h3⟩⟩
     have w7:(asAddr (a.tmps.getD d undef)).run P w=.ok ⟨gg,off,none⟩ w:=by rw [h5];rfl
     simp only [List.foldlM_cons,Sem.run_bind,w7,Sem.run_pure,Result.andThen_ok,mq]
     rw [h2];simp
    ·cases hx
   ·cases hx
  ·cases hx
theorem Fm{fn:Func}{hh:Heap}{n:Nat}{s:List (Nat×AV)}{a:Act}{vs:List AV}(g:Good Z ψ hh.get w B0 O)(t:cJ Z ψ hh.get w n (look s) a)(hx:wc P hh s fn.results.toList=some vs) :
  ∃us v,(results fn a.tmps).run P w=.ok v w∧an Z ψ hh.get w vs us∧v=(if us.length=1 then us.headD undef else .tuple us.toArray):=by
 obtain ⟨us,h1,h2⟩:=pT (P:=P) g t fn.results.toList #[] vs hx
 refine ⟨us,_,?_,h2,rfl⟩
 have h3:(fn.results.mapM fun r=>(match r with | .tmp t=>pure (a.tmps.getD t undef) | .cell p ty=>do loadVar ty (←asAddr (a.tmps.getD p undef)):Sem Value)).run P w=.ok us.toArray w:=by
  rw [Array.mapM_eq_foldlM,←Array.foldlM_toList]
  simpa using h1
 have h4:results fn a.tmps=(do
   let vs ←fn.results.mapM fun r=>(match r with | .tmp t=>pure (a.tmps.getD t undef) | .cell p ty=>do loadVar ty (←asAddr (a.tmps.getD p undef)):Sem Value)
   pure (if h:vs.size=1 then vs[0] else .tuple vs)):=rfl
 rw [h4,Sem.run_bind,h3,Result.andThen_ok,Sem.run_pure]
 congr 1
 by_cases h5:us.length=1
 ·obtain ⟨u,rfl⟩:=List.length_eq_one_iff.1 h5
  simp
 ·rw [dif_neg (by simpa using h5),if_neg h5]
end Go.Vs
namespace Go.Vs
variable {P:Program} {Eqs:TypeId→Option K} {Sg:FuncId→Option aJ} {F:(f:FuncId)→(g:aJ)→g.A→Option g.B} {R:Type}
variable {Z Z' Z0:Nat→Prop} {ψ ψ' ψ0:Nat→Value} {h h':Hp} {w w' w0:World} {B0:Nat} {O N:Nat→Prop}
theorem fJ:∀(ps:List PK) (ids:List Nat) (s:Nat) (x:ED (kd ps)) (us:List Value),an Z ψ h w ((aN ps ids s x).map (·.2)) us→us.length=ps.length∧∀p∈aN ps ids s x,∃j u,p.1=s+j∧us[j]? = some u∧av Z ψ h w p.2 u
 | [],ids,s,x,us,hr=>by
  simp only [aN,List.map_nil,an] at hr
  subst hr
  exact ⟨rfl,fun p hp=>by simp [aN] at hp⟩
 | .val k::ps,ids,s,x,us,hr=>by
  simp only [aN,List.map_cons,an] at hr
  obtain ⟨u,iz,rfl,h1,h2⟩:=hr
  obtain ⟨h3,h4⟩:=fJ ps ids (s+1) x.2 iz h2
  refine ⟨by simp [h3],fun p hp => ?_⟩
  simp only [aN] at hp
  rcases List.mem_cons.1 hp with rfl | hp
  ·exact ⟨0,u,rfl,rfl,h1⟩
  ·obtain ⟨j,u',h5,h6,h7⟩:=h4 p hp
   exact ⟨j+1,u',by omega,by simpa using h6,h7⟩
 | .ref::ps,i::ids,s,x,us,hr=>by
  simp only [aN,List.map_cons,an] at hr
  obtain ⟨u,iz,rfl,h1,h2⟩:=hr
  obtain ⟨h3,h4⟩:=fJ ps ids (s+1) x iz h2
  refine ⟨by simp [h3],fun p hp => ?_⟩
  simp only [aN] at hp
  rcases List.mem_cons.1 hp with rfl | hp
  ·exact ⟨0,u,rfl,rfl,h1⟩
  ·obtain ⟨j,u',h5,h6,h7⟩:=h4 p hp
   exact ⟨j+1,u',by omega,by simpa using h6,h7⟩
 | .ref::ps,[],s,x,us,hr=>by
  simp only [aN,List.map_cons,an] at hr
  obtain ⟨u,iz,rfl,h1,h2⟩:=hr
  obtain ⟨h3,h4⟩:=fJ ps [] (s+1) x iz h2
  refine ⟨by simp [h3],fun p hp => ?_⟩
  simp only [aN] at hp
  rcases List.mem_cons.1 hp with rfl | hp
  ·exact ⟨0,u,rfl,rfl,h1⟩
  ·obtain ⟨j,u',h5,h6,h7⟩:=h4 p hp
   exact ⟨j+1,u',by omega,by simpa using h6,h7⟩
 | .own::ps,i::ids,s,x,us,hr=>by
  simp only [aN,List.map_cons,an] at hr
  obtain ⟨u,iz,rfl,h1,h2⟩:=hr
  obtain ⟨h3,h4⟩:=fJ ps ids (s+1) x iz h2
  refine ⟨by simp [h3],fun p hp => ?_⟩
  simp only [aN] at hp
  rcases List.mem_cons.1 hp with rfl | hp
  ·exact ⟨0,u,rfl,rfl,h1⟩
  ·obtain ⟨j,u',h5,h6,h7⟩:=h4 p hp
   exact ⟨j+1,u',by omega,by simpa using h6,h7⟩
 | .own::ps,[],s,x,us,hr=>by
  simp only [aN,List.map_cons,an] at hr
  obtain ⟨u,iz,rfl,h1,h2⟩:=hr
  obtain ⟨h3,h4⟩:=fJ ps [] (s+1) x iz h2
  refine ⟨by simp [h3],fun p hp => ?_⟩
  simp only [aN] at hp
  rcases List.mem_cons.1 hp with rfl | hp
  ·exact ⟨0,u,rfl,rfl,h1⟩
  ·obtain ⟨j,u',h5,h6,h7⟩:=h4 p hp
   exact ⟨j+1,u',by omega,by simpa using h6,h7⟩
 | .EC f m::ps,ids,s,x,us,hr=>by
  simp only [aN,List.map_cons,an] at hr
  obtain ⟨u,iz,rfl,h1,h2⟩:=hr
  obtain ⟨h3,h4⟩:=fJ ps (ids.drop m) (s+1) x iz h2
  refine ⟨by simp [h3],fun p hp => ?_⟩
  simp only [aN] at hp
  rcases List.mem_cons.1 hp with rfl | hp
  ·exact ⟨0,u,rfl,rfl,h1⟩
  ·obtain ⟨j,u',h5,h6,h7⟩:=h4 p hp
   exact ⟨j+1,u',by omega,by simpa using h6,h7⟩
 | .agg m::ps,ids,s,x,us,hr=>by
  simp only [aN,List.map_cons,an] at hr
  obtain ⟨u,iz,rfl,h1,h2⟩:=hr
  obtain ⟨h3,h4⟩:=fJ ps (ids.drop m) (s+1) x iz h2
  refine ⟨by simp [h3],fun p hp => ?_⟩
  simp only [aN] at hp
  rcases List.mem_cons.1 hp with rfl | hp
  ·exact ⟨0,u,rfl,rfl,h1⟩
  ·obtain ⟨j,u',h5,h6,h7⟩:=h4 p hp
   exact ⟨j+1,u',by omega,by simpa using h6,h7⟩
section
variable {An:FuncId→Nat→Option Shape}
theorem zw(V:Env P Eqs Sg F)(hm:P.follows .mixedOrders=true){f:FuncId}{g:aJ}{fn:Func}{y:g.B}{b:Frame}{cs:List Frame}{sK:Act→World→Prop}
  (ri:∀st Z ψ a w,pC P g fn st=some y→Ok Z0 w0 O ψ0 Z ψ st.heap.get w→cJ Z ψ st.heap.get w fn.ntmps (look st.tmps) a→sK a w) :
  ∀(n:Nat) (sh:Shape) (c:Code) (k:List Item) (x:sh.T) (Z:Nat→Prop) (ψ:Nat→Value) (a:Act) (w:World),lL P Eqs Sg An F f g fn n sh (.inLoop c::k) x=some y →
   Ok Z0 w0 O ψ0 Z ψ (ao sh x).heap.get w→cJ Z ψ (ao sh x).heap.get w fn.ntmps (look (ao sh x).tmps) a→Reach P b cs sK (lone (b.at a (.code c::.inLoop c::k)) cs w)
 | 0,sh,c,k,x,Z,ψ,a,w,hx,_,_=>by simp only [lL] at hx;cases hx
 | n+1,sh,c,k,x,Z,ψ,a,w,hx,ko,t=>by
  simp only [lL] at hx
  exact pS V hm (fun sh c k x Z ψ a w h1 h2 h3=>zw V hm ri n sh c k x Z ψ a w h1 h2 h3) ri fuel _ _ Z ψ a w hx ko t
theorem DK{n i:Nat}(h:i∈aL n):∃j,j<n∧i=1000+20 * j:=by
 unfold aL at h
 obtain ⟨j,h1,rfl⟩:=List.mem_map.1 h
 exact ⟨j,List.mem_range.1 h1,rfl⟩
theorem Ns{α:Type}{l:List α}{a:α}(h:a∈l):(a,a)∈l.zip l:=by
 induction l with
 | nil=>cases h
 | cons b r ih =>
  simp only [List.zip_cons_cons]
  rcases List.mem_cons.1 h with rfl | h
  ·exact List.mem_cons_self
  ·exact List.mem_cons_of_mem _ (ih h)
theorem Ii(V:Env P Eqs Sg F)(hm:P.follows .mixedOrders=true){f:FuncId}{g:aJ}{n:Nat}{x:g.A}{y:g.B}(hx:HC P Eqs Sg An F f g n x=some y):Ch P f g x y:=by
 intro Z ψ0 w jQ hg hr
 unfold HC at hx
 split at hx
 ·cases hx
 rename_i fn c SB
 have hf:P.funcs[f % 1000]? = some fn∧fn.body=some c:=by
  unfold body at SB
  obtain ⟨fn',h1,h2⟩:=Option.bind_eq_some_iff.1 SB
  obtain ⟨c',h3,h4⟩:=Option.map_eq_some_iff.1 h2
  cases h4
  exact ⟨h1,h3⟩
 split at hx
 ·rename_i hle
  simp only [Bool.and_eq_true,decide_eq_true_eq] at hle
  obtain ⟨hlen,T3⟩:=fJ g.ps (aL g.bs.length) 0 x.1 jQ hr
  intro cs
  let b:Frame:={ (default:Frame) with fn:=f % 1000,kind:=.normal }
  let a0:Act:={ tmps:=jQ.toArray++Array.replicate (fn.ntmps - jQ.toArray.size) undef,defers:=[] }
  have T4:Frame.enter P (f % 1000) jQ.toArray .normal=b.at a0 [.code c]:=by
   simp [Frame.enter,Frame.at,hf.1,hf.2,b,a0]
  have ok0:Ok Z w (Own ψ0 (n6 g x)) ψ0 Z ψ0 (entry g x).heap.get w :=
   ⟨hg,fun _ h=>h,fun _ h=>.inl h,rfl,rfl,rfl,Nat.le_refl _,fun _ _ _=>rfl,fun _ _ _=>rfl⟩
  have tr0:cJ Z ψ0 (entry g x).heap.get w fn.ntmps (look (entry g x).tmps) a0:=by
   refine dY (fun p hp => ?_) (by simp [a0];omega) rfl
   obtain ⟨j,u,h1,h2,h3⟩:=T3 p hp
   rw [h1]
   have hj:j<jQ.length:=(List.getElem?_eq_some_iff.1 h2).1
   have:a0.tmps.getD (0+j) undef=u:=by
    rw [Nat.zero_add,Array.getD_eq_getD_getElem?]
    simp only [a0]
    rw [Array.getElem?_append_left (by simpa using hj)]
    simp [h2]
   rw [this];exact h3
  have ri:∀st Z1 mJ a w1,pC P g fn st=some y→Ok Z w (Own ψ0 (n6 g x)) ψ0 Z1 mJ st.heap.get w1→cJ Z1 mJ st.heap.get w1 fn.ntmps (look st.tmps) a →
    a.defers=[]∧∃v,(results fn a.tmps).run P w1=.ok v w1∧∃v' Z' ψ',Ending.returned v=.returned v'∧(∀b,Z b→Z' b)∧(∀b,Z' b→Z b∨Own ψ0 (n6 g x) b∨w.heap.size≤b)∧cQ ψ0 (n6 g x) w w1 ∧
     Good Z' ψ' (jt g y).get w1 w.heap.size (Own ψ0 (n6 g x))∧(∀i∈aL g.bs.length,ψ' i=ψ0 i)∧av Z' ψ' (jt g y).get w1 (ep (aO g.rs (aL g.bs.length) 2000 3000 y.1)) v':=by
   intro st Z1 mJ a w1 ri k t
   refine ⟨t.defers,?_⟩
   unfold pC at ri
   split at ri
   ·cases ri
   rename_i vs so
   split at ri
   ·rename_i y1 y2 hd hb BA
    cases ri
    simp only [Bool.and_eq_true] at BA
    obtain ⟨Fl,y0⟩:=BA
    obtain ⟨us,v,h1,h2,h3⟩:=Fm (P:=P) k.dL t so
    have SA:(aL g.bs.length).length=g.bs.length:=by simp [aL]
    let L:List wu:=ck g.bs st.heap (aL g.bs.length) (aL g.bs.length) 2000 y2++cr g.rs vs 3000 y1
    have eH:dk L=jt g (y1,y2):=by
     show dk (_++_)=_
     rw [lT,iH _ _ _ _ _ _ hb SA,fS];rfl
    have eN:L.map (·.1)=o8 g:=by
     show (_++_:List wu).map _=_
     rw [List.map_append,gr _ _ _ _ _ _ hb SA,eY];rfl
    have eS:L.filterMap (·.2.1)=cP g.bs st.heap (aL g.bs.length)++dx g.rs vs:=by
     show (_++_:List wu).filterMap _=_
     rw [List.filterMap_append,jO _ _ _ _ _ _ hb SA,ic _ _ _ _ hd]
    have hn:bZ (L.map (·.1))=true:=by rw [eN];exact y0
    have iC:=xw (ψ:=mJ) hn
    have hz:∀b,Z1 b→o4 Z1 mJ st.heap.get (fC g.rs vs++fB g.bs st.heap (aL g.bs.length)) b:=fun b hb=>.inl hb
    have Hs:=(qI Fl).2 st.heap
    have g':Good (o4 Z1 mJ st.heap.get (fC g.rs vs++fB g.bs st.heap (aL g.bs.length))) (dX mJ L) (dk L).get w1 w.heap.size (Own ψ0 (n6 g x)):=by
     refine u4 k.dL Fl hn eS fun e he => ?_
     rcases List.mem_append.1 he with he | he
     ·exact k0 k.dL hz g.bs _ _ 2000 y2 hb (fun id b bO h1 h2=>.inr ⟨id,List.mem_append_right _ bO,h1,h2⟩) (fun s hs=>Hs s (List.mem_append_left _ hs)) (fun e he=>iC e (List.mem_append_left _ he)) e he
     ·exact js g.rs vs 3000 y1 hd (fun s hs=>Hs s (List.mem_append_right _ hs)) e he
    obtain ⟨Ct,zd⟩:=iI _ _ _ hb
    have Nt:=qJ (ids2:=aL g.bs.length) (Z':=o4 Z1 mJ st.heap.get (fC g.rs vs++fB g.bs st.heap (aL g.bs.length))) (ψ':=dX mJ L) (h':=(dk L).get) k.dL hz hb SA (fun e he=>iC e (List.mem_append_left _ he)) g.rs vs 3000 y1 us hd
     (fun id b bO h1 h2=>.inr ⟨id,List.mem_append_left _ bO,h1,h2⟩) (fun e he=>iC e (List.mem_append_right _ he)) h2
    refine ⟨v,h1,v,o4 Z1 mJ st.heap.get (fC g.rs vs++fB g.bs st.heap (aL g.bs.length)),dX mJ L,rfl,fun b hb=>.inl (k.fg b hb),fun b hb => ?_,⟨k.os,k.tape,k.output,k.size,k.block⟩,by rw [←eH];exact g',fun i hi => ?_,?_⟩
    ·rcases Jw hb with h4 | ⟨id,h4,h5⟩
     ·exact k.dQ b h4
     ·exact .inr (k.dL.live id b h4 h5).2.symm
    ·obtain ⟨o,ho⟩:=jP (hh:=st.heap) g.bs (aL g.bs.length) (aL g.bs.length) 2000 y2 Ct (i,i) (Ns hi)
     rw [ib hn (List.mem_append_left _ ho)]
     obtain ⟨j,h4,h5⟩:=DK hi
     exact k.fix i (by omega) (zd i hi)
    ·rw [←eH]
     have MB:us.length=(aO g.rs (aL g.bs.length) 2000 3000 y1).length:=Nt.length.symm
     rw [h3]
     match hE:aO g.rs (aL g.bs.length) 2000 3000 y1,us,Nt,MB with
     | [],[],Nt,_=>simp only [ep];simp only [av];exact ⟨#[],rfl,by simpa using Nt⟩
     | [e1],[u],Nt,_ =>
      simp only [an] at Nt
      obtain ⟨u',iz,he,h4,_⟩:=Nt
      cases he
      simpa [ep] using h4
     | e1::e2::er,u1::u2::ur,Nt,_ =>
      simp only [ep,av]
      exact ⟨(u1::u2::ur).toArray,by simp,by simpa using Nt⟩
   ·cases ri
  have reach:=pS V hm (b:=b) (cs:=cs) (fun sh c k x Z ψ a w h1 h2 h3=>zw V hm ri n sh c k x Z ψ a w h1 h2 h3) ri fuel _ _ Z ψ0 a0 w hx ok0 tr0
  obtain ⟨a',w',todo,⟨hd,v,tR,hR⟩,hs⟩:=reach
  rw [←T4] at hs
  exact ⟨.returned v,w',_,hR,hs,rfl,rfl,hd,rfl,fn,hf.1,tR⟩
 ·cases hx
end
theorem Fp(hX:∀f g u,Sg f=some g→g.x=some u→gY P (f % 1000) u){G:(f:FuncId)→(g:aJ)→Option (g.A→Option g.B)}{An:FuncId→Nat→Option Shape}(Bk:∀t k,Eqs t=some k→kX P t k)(KQ:∀f g,Sg f=some g→iJ P (f % 1000))(hm:P.follows .mixedOrders=true)
  (hG:∀f g u x y,Sg f=some g→G f g=some u→u x=some y→Ch P f g x y):∀(m:Nat) f g x y,Sg f=some g→Fn P Eqs Sg An G m f g x=some y→Ch P f g x y
 | 0,f,g,x,y,hs,hx=>by
  simp only [Fn] at hx
  split at hx
  ·rename_i u hu;exact hG f g u x y hs hu hx
  ·cases hx
 | m+1,f,g,x,y,hs,hx=>by
  simp only [Fn] at hx
  split at hx
  ·rename_i u hu;exact hG f g u x y hs hu hx
  ·exact Ii ⟨Bk,fun f g x y h1 h2=>Fp hX Bk KQ hm hG m f g x y h1 h2,hX,KQ⟩ hm hx
end Go.Vs
namespace Go.Vs
abbrev FT:=(f:FuncId)→(g:aJ)→g.A→Option g.B
variable {P:Program} {Eqs:TypeId→Option K} {Sg:FuncId→Option aJ} {R:Type}
def td(p:Nat→Prop):Prop:=∃m,∀m',m≤m'→p m'
theorem td.now{p:Nat→Prop}(h:∀m,p m):td p:=⟨0,fun m _=>h m⟩
theorem td.and{p q r:Nat→Prop}(h:td p)(k:td q)(hr:∀m,p m→q m→r m):td r:=by
 obtain ⟨a,ha⟩:=h
 obtain ⟨b,hb⟩:=k
 exact ⟨max a b,fun m hm=>hr m (ha m (by omega)) (hb m (by omega))⟩
theorem td.imp{p r:Nat→Prop}(h:td p)(hr:∀m,p m→r m):td r:=by
 obtain ⟨a,ha⟩:=h
 exact ⟨a,fun m hm=>hr m (ha m hm)⟩
def To(A:Nat→FT)(L:FT):Prop:=∀f g x y,L f g x=some y→td fun m=>A m f g x=some y
def ToK{α:Type}(A:Nat→α→Option R)(L:α→Option R):Prop:=∀x y,L x=some y→td fun m=>A m x=some y
def ToJ(A:Nat→(sh:Shape)→List Item→sh.T→Option R)(L:(sh:Shape)→List Item→sh.T→Option R):Prop:=∀sh k x y,L sh k x=some y→td fun m=>A m sh k x=some y
theorem Nu(h:Heap)(id:Nat)(f:FuncId)(vs:List AV):(∀F F':FT,iF Sg F h id f vs some=iF Sg F' h id f vs some) ∨
  ∃ff g x,(∀F F':FT,F ff g x=F' ff g x→iF Sg F h id f vs some=iF Sg F' h id f vs some)∧∀F:FT,F ff g x=none→iF Sg F h id f vs some=none:=by
 unfold iF
 split
 ·exact .inl fun _ _=>rfl
 rename_i g hg
 split
 ·exact .inl fun _ _=>rfl
 split
 ·split
  ·split
   ·rename_i x b hx hb hp
    refine .inr ⟨_,g,(x,b),fun F F' e=>by rw [e],fun F e=>by rw [e];rfl⟩
   ·exact .inl fun _ _=>rfl
  ·split
   ·rename_i x b hx hb hp
    refine .inr ⟨_,g,(x,b),fun F F' e=>by rw [e],fun F e=>by rw [e];rfl⟩
   ·exact .inl fun _ _=>rfl
 ·exact .inl fun _ _=>rfl
theorem Q1{A:Nat→FT}{L:FT}(hA:To A L){h:Heap}{id:Nat}{f:FuncId}{vs:List AV}{e:bE}(he:iF Sg L h id f vs some=some e):td fun m=>iF Sg (A m) h id f vs some=some e:=by
 rcases Nu (Sg:=Sg) h id f vs with k | ⟨ff,g,x,k1,k2⟩
 ·exact .now fun m=>(k _ _).trans he
 ·cases hy:L ff g x with
  | none=>rw [k2 L hy] at he;cases he
  | some y=>exact (hA _ _ _ _ hy).imp fun m hm=>(k1 (A m) L (hm.trans hy.symm)).trans he
theorem Fq{A:Nat→FT}{L:FT}(hA:To A L){id:Nat}{h:Heap}{s:List (Nat×AV)}{o:Oper}{e:bE}(he:cH P Eqs Sg L id h s o some=some e):td fun m=>cH P Eqs Sg (A m) id h s o some=some e:=by
 obtain ⟨dst,op,type,pos,after,guard⟩:=o
 cases op with
 | call c =>
  obtain ⟨callee,args,argTypes⟩:=c
  cases callee with
  | value f =>
   simp only [cH] at he
   split at he
   ·rename_i f' cap hf
    refine (Q1 hA he).imp fun m hm => ?_
    simp only [cH,hf]
    exact hm
   ·cases he
  | builtin bi=>cases bi<;>exact .now fun m=>he
  | invoke _ _=>exact .now fun m=>he
 | unOp u _ _=>cases u<;>exact .now fun m=>he
 | makeFunc fn _ _=>cases fn<;>exact .now fun m=>he
 | makeMap _ r=>cases r<;>exact .now fun m=>he
 | next _ b=>cases b<;>exact .now fun m=>he
 | _=>exact .now fun m=>he
theorem td.all{p:Nat→Nat→Prop}:∀(n:Nat),(∀j,j<n→td (p j))→td fun m=>∀j,j<n→p j m
 | 0,_=>.now fun m j hj=>absurd hj (Nat.not_lt_zero _)
 | n+1,h=>(td.all n fun j hj=>h j (by omega)).and (h n (by omega)) fun m h1 h2 j hj=>by
  by_cases e:j=n
  ·subst e;exact h2
  ·exact h1 j (by omega)
theorem Ij{h:Heap}{x:AV}{K:Nat→AV→Heap→Option R}{KL:AV→Heap→Option R}(hK:∀v h y,KL v h=some y→td fun m=>K m v h=some y){r:R}(he:kx h x KL=some r):td fun m=>kx h x (K m)=some r:=by
 unfold kx at he ⊢
 split at he
 ·rename_i id
  split at he
  ·rename_i kk vk p hg
   try simp only [hg]
   cases hp:p.2 with
   | nil =>
    simp only [hp,List.isEmpty_nil,cond_true] at he ⊢
    exact hK _ _ _ he
   | cons c l =>
    simp only [hp,List.isEmpty_cons,cond_false] at he ⊢
    have h1:=mY he
    refine (td.all _ fun j hj => ?_).imp fun m hm=>lY (by simp) hm
    have h2:=h1 j hj
    rw [List.getElem?_eq_getElem hj] at h2 ⊢
    simp only [Option.bind_some] at h2 ⊢
    exact hK _ _ _ h2
  ·cases he
 ·cases he
theorem Nv{h:Heap}{x:AV}{want:Bool}{K:Nat→AV→Option R}{KL:AV→Option R}(hK:∀v y,KL v=some y→td fun m=>K m v=some y){r:R}(he:tk h x want KL=some r):td fun m=>tk h x want (K m)=some r:=by
 unfold tk at he ⊢
 split at he
 ·exact hK _ _ he
 ·rename_i xs hv
  cases qA:xs.isEmpty with
  | true =>
   simp only [qA,cond_true] at he ⊢
   have h1:=mY he
   exact (td.all _ fun j hj=>hK _ _ (h1 j hj)).imp fun m hm=>lY (by decide) hm
  | false =>
   simp only [qA,cond_false] at he ⊢
   exact hK _ _ he
 ·cases he
theorem zx{A:Nat→FT}{L:FT}(hA:To A L){rid:Nat}{draw:Bool}{ops:Array Oper}{b:Array Nat}{K:Nat→St→Option R}{KL:St→Option R}(hK:ToK K KL) :
  ∀(l:List (Nat×Oper)) (st:St) (r:R),bw P Eqs Sg L rid draw ops b l st KL=some r→td fun m=>bw P Eqs Sg (A m) rid draw ops b l st (K m)=some r
 | [],st,r,he=>hK st r (by simpa only [bw] using he)
 | (i,o)::l,st,r,he=>by
  have ih:=zx hA (rid:=rid) (draw:=draw) (ops:=ops) (b:=b) hK l
  have run:∀st:St,(match (if draw then none else nK P (opId rid i) st o) with
    | some dP=>bw P Eqs Sg L rid draw ops b l dP KL
    | none=>match (if draw then none else tj o) with
    | some x=>kx st.heap (ρ st.tmps x) fun v h=>bw P Eqs Sg L rid draw ops b l (({ st with heap:=h }:St).put o.dst v) KL
    | none=>match (if draw then none else isNil P o) with
    | some (x,want)=>tk st.heap (ρ st.tmps x) want fun v=>bw P Eqs Sg L rid draw ops b l (st.put o.dst v) KL
    | none=>if draw then cH P Eqs Sg L (opId rid i) (gk (ahead rid (b.getD i 0) st.heap) (gm ops b i st.tmps o)) st.tmps o fun e =>
     if (fZ true rid ops b i (b.getD i 0) (gh (gm ops b i st.tmps o) (ahead rid (b.getD i 0) st.heap) e)&&ml (gm ops b i st.tmps o) e)=true then
      bw P Eqs Sg L rid draw ops b l ({ st with heap:=match gh (gm ops b i st.tmps o) (ahead rid (b.getD i 0) st.heap) e with | .wr _ h=>h | e=>e.h st.heap }.put o.dst e.v) KL else none
     else cH P Eqs Sg L (opId rid i) st.heap st.tmps o fun e =>
     if fZ false rid ops b i (2 ^ i - 1) e then bw P Eqs Sg L rid draw ops b l ({ st with heap:=match e with | .wr _ h=>h | e=>e.h st.heap }.put o.dst e.v) KL else none)=some r →
    td fun m=>(match (if draw then none else nK P (opId rid i) st o) with
    | some dP=>bw P Eqs Sg (A m) rid draw ops b l dP (K m)
    | none=>match (if draw then none else tj o) with
    | some x=>kx st.heap (ρ st.tmps x) fun v h=>bw P Eqs Sg (A m) rid draw ops b l (({ st with heap:=h }:St).put o.dst v) (K m)
    | none=>match (if draw then none else isNil P o) with
    | some (x,want)=>tk st.heap (ρ st.tmps x) want fun v=>bw P Eqs Sg (A m) rid draw ops b l (st.put o.dst v) (K m)
    | none=>if draw then cH P Eqs Sg (A m) (opId rid i) (gk (ahead rid (b.getD i 0) st.heap) (gm ops b i st.tmps o)) st.tmps o fun e =>
     if (fZ true rid ops b i (b.getD i 0) (gh (gm ops b i st.tmps o) (ahead rid (b.getD i 0) st.heap) e)&&ml (gm ops b i st.tmps o) e)=true then
      bw P Eqs Sg (A m) rid draw ops b l ({ st with heap:=match gh (gm ops b i st.tmps o) (ahead rid (b.getD i 0) st.heap) e with | .wr _ h=>h | e=>e.h st.heap }.put o.dst e.v) (K m) else none
     else cH P Eqs Sg (A m) (opId rid i) st.heap st.tmps o fun e =>
     if fZ false rid ops b i (2 ^ i - 1) e then bw P Eqs Sg (A m) rid draw ops b l ({ st with heap:=match e with | .wr _ h=>h | e=>e.h st.heap }.put o.dst e.v) (K m) else none)=some r:=by
   intro st h
   split at h
   ·rename_i dP mX
    try simp only [mX]
    exact ih _ r h
   rename_i mX
   split at h
   ·rename_i x Cm
    try simp only [mX,Cm]
    exact Ij (fun v h y hy=>ih _ y hy) h
   rename_i Cm
   split at h
   ·rename_i x want WK
    try simp only [mX,Cm,WK]
    exact Nv (fun v y hy=>ih _ y hy) h
   rename_i WK
   try simp only [mX,Cm,WK]
   cases draw with
   | true =>
    simp only [if_true] at h ⊢
    rw [kI] at h
    obtain ⟨e,h1,h2⟩:=Option.bind_eq_some_iff.1 h
    by_cases hc:(fZ true rid ops b i (b.getD i 0) (gh (gm ops b i st.tmps o) (ahead rid (b.getD i 0) st.heap) e)&&ml (gm ops b i st.tmps o) e)=true
    ·rw [if_pos hc] at h2
     refine (Fq hA h1).and (ih _ r h2) fun m h3 h4 => ?_
     rw [kI,h3,Option.bind_some,if_pos hc]
     exact h4
    ·rw [if_neg hc] at h2;cases h2
   | false =>
    simp only [Bool.false_eq_true,if_false] at h ⊢
    rw [kI] at h
    obtain ⟨e,h1,h2⟩:=Option.bind_eq_some_iff.1 h
    by_cases hc:fZ false rid ops b i (2 ^ i - 1) e=true
    ·rw [if_pos hc] at h2
     refine (Fq hA h1).and (ih _ r h2) fun m h3 h4 => ?_
     rw [kI,h3,Option.bind_some,if_pos hc]
     exact h4
    ·rw [if_neg hc] at h2;cases h2
  simp only [bw] at he ⊢
  split at he
  ·rename_i hg
   try simp only [hg]
   exact run _ he
  ·rename_i j want hg
   try simp only [hg]
   split at he
   ·cases he
   ·rename_i d hd
    try simp only [hd]
    split at he
    ·rename_i t ht
     try simp only [ht]
     cases t<;>cases want<;>simp only [cond_true,cond_false,if_true,if_false,Bool.false_eq_true] at he ⊢<;>first | exact run _ he | exact ih _ r he
    ·rename_i ht
     try simp only [ht]
     exact ih _ r he
    ·cases he
theorem BF{A:Nat→FT}{L:FT}(hA:To A L){n rid:Nat}{ops:Array Oper}{draw:Bool}{K:Nat→St→Option R}{KL:St→Option R}(hK:ToK K KL){st:St}{r:R}
  (he:gS P Eqs Sg L n rid ops draw st KL=some r):td fun m=>gS P Eqs Sg (A m) n rid ops draw st (K m)=some r:=by
 unfold gS at he ⊢
 by_cases hc:((ops.all fun o=>gR n o)&&(!draw || (tg ops (if draw then Region.before ops else #[])&&(yq ops (if draw then Region.before ops else #[])&&bZ (ops.toList.filterMap (·.dst)))))&&decide (ops.size≤128))=true
 ·dsimp only at he ⊢
  rw [if_pos hc] at he
  refine (zx hA hK _ _ r he).imp fun m hm => ?_
  rw [if_pos hc]
  exact hm
 ·dsimp only at he
  rw [if_neg hc] at he;cases he
theorem fU{A:Nat→FT}{L:FT}(hA:To A L){n:Nat}{ann:Nat→Option Shape}{J:Nat→(sh:Shape)→List Item→sh.T→Option R}{JL:(sh:Shape)→List Item→sh.T→Option R}(hJ:ToJ J JL){ret:St→Option R} :
  ∀(fu:Nat) (items:List Item) (st:St) (r:R),ax P Eqs Sg L n ann JL ret fu items st=some r→td fun m=>ax P Eqs Sg (A m) n ann (J m) ret fu items st=some r
 | 0,items,st,r,he=>by cases items<;>simp only [ax] at he<;>cases he
 | fu+1,[],st,r,he=>.now fun m=>by simpa only [ax] using he
 | fu+1,it::K4,st,r,he=>by
  have ih:=fU hA (n:=n) (ann:=ann) hJ (ret:=ret) fu
  cases it with
  | inBlock id=>simp only [ax] at he ⊢;exact ih _ _ _ he
  | inScope c=>simp only [ax] at he ⊢;exact ih _ _ _ he
  | inLoop c =>
   simp only [ax] at he ⊢
   split at he
   ·cases he
   ·rename_i sh hsh
    try simp only [hsh]
    split at he
    ·rename_i x hx
     try simp only [hx]
     exact hJ _ _ _ _ he
    ·cases he
  | code c =>
   cases c with
   | cond c x y =>
    simp only [ax] at he ⊢
    split at he
    ·rename_i t ht
     try simp only [ht]
     cases t<;>simp only [cond_true,cond_false] at he ⊢<;>exact ih _ _ _ he
    ·cases he
   | exit id =>
    simp only [ax] at he ⊢
    split at he
    ·rename_i k' hk
     try simp only [hk]
     exact ih _ _ _ he
    ·cases he
   | ret=>exact .now fun m=>by simpa only [ax] using he
   | region id ops draw =>
    simp only [ax] at he ⊢
    exact BF hA (K:=fun m dP=>ax P Eqs Sg (A m) n ann (J m) ret fu K4 dP) (fun st y h=>ih K4 st y h) he
   | skip=>simp only [ax] at he ⊢;exact ih _ _ _ he
   | label l=>simp only [ax] at he ⊢;exact ih _ _ _ he
   | seq x y=>simp only [ax] at he ⊢;exact ih _ _ _ he
   | block id c=>simp only [ax] at he ⊢;exact ih _ _ _ he
   | scope c=>simp only [ax] at he ⊢;exact ih _ _ _ he
   | loop c=>simp only [ax] at he ⊢;exact ih _ _ _ he
   | _=>simp only [ax] at he;cases he
  | _=>simp only [ax] at he;cases he
section
variable {An:FuncId→Nat→Option Shape} {G:(f:FuncId)→(g:aJ)→Option (g.A→Option g.B)}
def T5(F F':FT):Prop:=∀f g x y,F f g x=some y→F' f g x=some y
theorem T5.to{F F':FT}(h:T5 F F'):To (fun _=>F') F:=fun f g x y hy=>.now fun _=>h f g x y hy
theorem td.get{p:Prop}(h:td fun _=>p):p:=by obtain ⟨m,hm⟩:=h;exact hm m (Nat.le_refl _)
theorem mZ{F F':FT}(h:T5 F F'){f:FuncId}{g:aJ}{fn:Func}:∀(n n':Nat) (sh:Shape) (k:List Item) (x:sh.T) (y:g.B),n≤n'→lL P Eqs Sg An F f g fn n sh k x=some y→lL P Eqs Sg An F' f g fn n' sh k x=some y
 | 0,_,_,_,_,_,_,hx=>by simp only [lL] at hx;cases hx
 | n+1,0,_,_,_,_,hn,_=>by omega
 | n+1,n'+1,sh,k,x,y,hn,hx=>by
  cases k with
  | nil=>simp only [lL] at hx;cases hx
  | cons it k =>
   cases it with
   | inLoop c =>
    simp only [lL] at hx ⊢
    exact (fU h.to (J:=fun _=>lL P Eqs Sg An F' f g fn n') (JL:=lL P Eqs Sg An F f g fn n) (fun sh k x y hy=>.now fun _=>mZ h n n' sh k x y (by omega) hy) _ _ _ _ hx).get
   | _=>simp only [lL] at hx;cases hx
theorem K5{F F':FT}(h:T5 F F'){f:FuncId}{g:aJ}{n n':Nat}{x:g.A}{y:g.B}(hn:n≤n')(hx:HC P Eqs Sg An F f g n x=some y):HC P Eqs Sg An F' f g n' x=some y:=by
 unfold HC at hx ⊢
 split at hx
 ·cases hx
 ·rename_i fn c hb
  try simp only [hb]
  split at hx
  ·rename_i hc
   simp only [if_pos hc]
   exact (fU h.to (J:=fun _=>lL P Eqs Sg An F' f g fn n') (JL:=lL P Eqs Sg An F f g fn n) (fun sh k x y hy=>.now fun _=>mZ h n n' sh k x y hn hy) _ _ _ _ hx).get
  ·cases hx
theorem xI:∀m,T5 (Fn P Eqs Sg An G m) (Fn P Eqs Sg An G (m+1))
 | 0,f,g,x,y,hx=>by
  simp only [Fn] at hx ⊢
  split at hx
  ·rename_i u hu;(try simp only [hu]);exact hx
  ·cases hx
 | m+1,f,g,x,y,hx=>by
  rw [Fn] at hx ⊢
  split at hx
  ·rename_i u hu;(try simp only [hu]);exact hx
  ·rename_i hu
   try simp only [hu]
   exact K5 (xI m) (Nat.le_succ m) hx
theorem xJ{m m':Nat}(h:m≤m'):T5 (Fn P Eqs Sg An G m) (Fn P Eqs Sg An G m'):=by
 induction h with
 | refl=>exact fun _ _ _ _ h=>h
 | step _ ih=>exact fun f g x y hx=>xI _ f g x y (ih f g x y hx)
variable (P Eqs Sg An G) in
open Classical in
noncomputable def Fix:FT:=fun f g x=>if h:∃m y,Fn P Eqs Sg An G m f g x=some y then some (Classical.choose (Classical.choose_spec h)) else none
theorem DL:To (Fn P Eqs Sg An G) (Fix P Eqs Sg An G):=fun f g x y hy=>by
 unfold Fix at hy
 split at hy
 ·rename_i h
  cases hy
  exact ⟨Classical.choose h,fun m' hm=>xJ hm _ _ _ _ (Classical.choose_spec (Classical.choose_spec h))⟩
 ·cases hy
theorem Nw{m:Nat}{f:FuncId}{g:aJ}{x:g.A}{y:g.B}(h:Fn P Eqs Sg An G m f g x=some y):Fix P Eqs Sg An G f g x=some y:=by
 have he:∃m y,Fn P Eqs Sg An G m f g x=some y:=⟨m,y,h⟩
 cases hy:Fix P Eqs Sg An G f g x with
 | none=>unfold Fix at hy;rw [dif_pos he] at hy;cases hy
 | some y' =>
  obtain ⟨m1,h1⟩:=DL f g x y' hy
  have h2:=h1 (max m m1) (by omega)
  have h3:=xJ (show m≤max m m1 by omega) f g x y h
  rw [h2] at h3
  exact h3
variable (P Eqs Sg An G) in
open Classical in
noncomputable def Lp(f:FuncId)(g:aJ)(fn:Func)(sh:Shape)(k:List Item)(x:sh.T):Option g.B :=
 if h:∃m y,lL P Eqs Sg An (Fn P Eqs Sg An G m) f g fn m sh k x=some y then some (Classical.choose (Classical.choose_spec h)) else none
theorem Nx{f:FuncId}{g:aJ}{fn:Func}:ToJ (fun m=>lL P Eqs Sg An (Fn P Eqs Sg An G m) f g fn m) (Lp P Eqs Sg An G f g fn):=fun sh k x y hy=>by
 unfold Lp at hy
 split at hy
 ·rename_i h
  cases hy
  exact ⟨Classical.choose h,fun m' hm=>mZ (xJ hm) _ _ _ _ _ _ hm (Classical.choose_spec (Classical.choose_spec h))⟩
 ·cases hy
theorem WT{m:Nat}{f:FuncId}{g:aJ}{fn:Func}{sh:Shape}{k:List Item}{x:sh.T}{y:g.B}(h:lL P Eqs Sg An (Fn P Eqs Sg An G m) f g fn m sh k x=some y):Lp P Eqs Sg An G f g fn sh k x=some y:=by
 have he:∃m y,lL P Eqs Sg An (Fn P Eqs Sg An G m) f g fn m sh k x=some y:=⟨m,y,h⟩
 cases hy:Lp P Eqs Sg An G f g fn sh k x with
 | none=>unfold Lp at hy;rw [dif_pos he] at hy;cases hy
 | some y' =>
  obtain ⟨m1,h1⟩:=Nx sh k x y' hy
  have h2:=h1 (max m m1) (by omega)
  have h3:=mZ (xJ (show m≤max m m1 by omega)) m (max m m1) sh k x y (by omega) h
  exact h2.symm.trans h3
theorem Jx{f:FuncId}{g:aJ}{x:g.A}{y:g.B}{fn:Func}{c:Code}(hG:G f g=none)(hb:body P (f % 1000)=some (fn,c))(hc:(decide (g.ps.length≤fn.ntmps)&&decide (g.bs.length≤8))=true)
  (h:ax P Eqs Sg (Fix P Eqs Sg An G) fn.ntmps (An f) (Lp P Eqs Sg An G f g fn) (pC P g fn) fuel [.code c] (entry g x)=some y):Fix P Eqs Sg An G f g x=some y:=by
 obtain ⟨m,hm⟩:=fU (DL (P:=P) (Eqs:=Eqs) (Sg:=Sg) (An:=An) (G:=G)) (Nx (f:=f) (g:=g) (fn:=fn)) _ _ _ _ h
 refine Nw (m:=m+1) ?_
 simp only [Fn,hG]
 unfold HC
 simp only [hb,if_pos hc]
 exact hm m (Nat.le_refl _)
theorem Cu{f:FuncId}{g:aJ}{x:g.A}{y:g.B}{u:g.A→Option g.B}(hG:G f g=some u)(h:u x=some y):Fix P Eqs Sg An G f g x=some y:=by
 refine Nw (m:=0) ?_
 simp only [Fn,hG]
 exact h
theorem Ny{f:FuncId}{g:aJ}{fn:Func}{sh:Shape}{c:Code}{k:List Item}{x:sh.T}{y:g.B}
  (h:ax P Eqs Sg (Fix P Eqs Sg An G) fn.ntmps (An f) (Lp P Eqs Sg An G f g fn) (pC P g fn) fuel (.code c::.inLoop c::k) (ao sh x)=some y):Lp P Eqs Sg An G f g fn sh (.inLoop c::k) x=some y:=by
 obtain ⟨m,hm⟩:=fU (DL (P:=P) (Eqs:=Eqs) (Sg:=Sg) (An:=An) (G:=G)) (Nx (f:=f) (g:=g) (fn:=fn)) _ _ _ _ h
 refine WT (m:=m+1) ?_
 simp only [lL]
 refine (fU (L:=Fn P Eqs Sg An G m) (T5.to (xI m)) (J:=fun _=>lL P Eqs Sg An (Fn P Eqs Sg An G (m+1)) f g fn m) (JL:=lL P Eqs Sg An (Fn P Eqs Sg An G m) f g fn m) (fun sh k x y hy=>.now fun _=>mZ (xI m) m m sh k x y (Nat.le_refl _) hy) _ _ _ _ (hm m (Nat.le_refl _))).get
theorem xK(hX:∀f g u,Sg f=some g→g.x=some u→gY P (f % 1000) u)(Bk:∀t k,Eqs t=some k→kX P t k)(KQ:∀f g,Sg f=some g→iJ P (f % 1000))(hm:P.follows .mixedOrders=true)
  (hG:∀f g u x y,Sg f=some g→G f g=some u→u x=some y→Ch P f g x y) {f:FuncId} {g:aJ} {x:g.A} {y:g.B} (hs:Sg f=some g) (h:Fix P Eqs Sg An G f g x=some y):Ch P f g x y:=by
 obtain ⟨m,QL⟩:=DL f g x y h
 exact Fp hX Bk KQ hm hG m f g x y hs (QL m (Nat.le_refl _))
end
end Go.Vs
namespace Go.Vs
open Go.Proofs
abbrev ab:=((Int×Int)×Int)
abbrev ID:=(Int×Int)
abbrev ah:=(ID×((List ab)×(ByteArray×Int)))
abbrev af:=(ID×(ByteArray×Int))
abbrev ai:=((List ah)×(List af))
abbrev ak:=(ab×ab)
abbrev StateT:=(ai×(List ak))
abbrev oU:=(ID×ab)
abbrev bB:=(Int×(ID×(ID×(ID×(oU×(oU×(Bool×(ByteArray×Int))))))))
abbrev aC:=((List ah)×((List af)×((List ak)×Unit)))
abbrev k13:K:=(.pair .str (.int .u64))
abbrev gN:K:=(.pair (.int .i64) (.int .i64))
abbrev k68:K:=(.pair .str (.pair (.int .i64) .bool))
abbrev bm:K:=(.pair gN (.int .i64))
abbrev k7:K:=(.pair (.int .i64) (.pair (.int .i64) (.pair .bool (.int .u8))))
abbrev eO:K:=(.pair gN (.pair .str (.int .i64)))
abbrev Qj:K:=(.pair gN bm)
abbrev da:K:=(.pair bm bm)
abbrev dM:K:=(.pair gN (.pair (.sl bm) (.pair .str (.int .i64))))
abbrev cY:K:=(.pair (.sl dM) (.sl eO))
abbrev kK:K:=(.pair cY (.sl da))
abbrev rj:K:=(.pair (.int .i64) (.pair gN (.pair gN (.pair gN (.pair Qj (.pair Qj (.pair .bool (.pair .str (.int .i64)))))))))
abbrev sL:K:=(.one (.sl rj))
def og(xs:List ah)(ys:List af):Bool:=decide (xs.length≤50000000)&&(decide (ys.length≤50000000)&&xs.all fun v=>decide (v.2.1.length≤50000000))
def DM(h:Heap)(id:Nat):List AV→Option (Bool×bE)
 | [.agg [.bF a,.bF b]]=>match dB h (.row 48 dM) (.bF a),dB h (.row 56 eO) (.bF b) with
  | some xs,some ys=>if a=b then none else some (og xs ys,.new (.agg [.bF (id+128),.bF (id+129)]) [(id+128,.own (.row 48 dM) xs),(id+129,.own (.row 56 eO) ys)])
  | _,_=>none
 | _=>none
def sg3:aJ:={ ps:=[.val kK,.val rj],bs:=[],rs:=[.val .bool] }
def sg4:aJ:={ ps:=[.val (.sl sL),.val gN],bs:=[],rs:=[.val .bool] }
def sg5:aJ:={ ps:=[.val (.sl sL),.val bm,.val bm],bs:=[],rs:=[.val .bool] }
def sg6:aJ:={ ps:=[.val (.sl sL),.val gN,.val (.int .i64)],bs:=[],rs:=[.val .bool] }
def sg7:aJ:={ ps:=[.val (.sl sL),.val gN,.val k68],bs:=[],rs:=[.val .bool] }
def sg8:aJ:={ ps:=[.val (.sl sL),.val gN],bs:=[],rs:=[.val .bool] }
def Q2:aJ:={ ps:=[.val (.sl sL)],bs:=[],rs:=[.val .bool] }
def abJ:aJ:={ ps:=[.val (.sl sL)],bs:=[],rs:=[.val .bool] }
def abK:aJ:={ ps:=[.val (.sl sL),.val sL],bs:=[],rs:=[.val .bool] }
def Nz:aJ:={ ps:=[],bs:=[],rs:=[.val .bool] }
def abL:aJ:={ ps:=[.val kK],bs:=[],rs:=[.val .bool] }
def K6:aJ:={ ps:=[.val kK,.val rj],bs:=[],rs:=[.val kK,.val (.int .i64)] }
def NA:aJ:={ ps:=[.val kK,.val rj],bs:=[],rs:=[.val kK,.val (.int .i64)] }
def K7:aJ:={ ps:=[.val kK,.val kK],bs:=[],rs:=[.val .bool] }
def abM:aJ:={ ps:=[.val (.sl sL)],bs:=[],rs:=[.val kK] }
def oV:aJ:={ ps:=[.val cY,.val gN],bs:=[],rs:=[.val dM,.val .bool] }
def zy:aJ:={ ps:=[.val gN],bs:=[],rs:=[.val .bool] }
def sM:aJ:={ ps:=[.val cY,.val bm],bs:=[],rs:=[.val gN,.val .bool] }
def w9:aJ:={ ps:=[.val cY,.val gN],bs:=[],rs:=[.val eO,.val .bool] }
def Fs:aJ:={ ps:=[.val cY,.val bm],bs:=[],rs:=[.val (.sl bm)] }
def BG:aJ:={ ps:=[.val bm],bs:=[],rs:=[.val bm] }
def pU:aJ:={ ps:=[.val (.sl bm),.val bm],bs:=[],rs:=[.val (.int .i64)] }
def abN:aJ:={ ps:=[.val cY,.val gN,.val gN],bs:=[],rs:=[.val .bool] }
def K8:aJ:={ ps:=[.val (.sl bm),.val bm],bs:=[],rs:=[.val bm,.val .bool] }
def zz:aJ:={ ps:=[.val cY,.val cY],bs:=[],rs:=[.val .bool] }
def DN:aJ:={ ps:=[.val .str],bs:=[],rs:=[.val .bool] }
def K9:aJ:={ ps:=[.val (.int .i64)],bs:=[],rs:=[.val .bool] }
def Ft:aJ:={ ps:=[.val kK,.val sL],bs:=[],rs:=[.val kK,.val (.int .i64)] }
def Fu:aJ:={ ps:=[.val cY],bs:=[],rs:=[.own (.row 46 (.sl bm))] }
def Fv:aJ:={ ps:=[.val cY],bs:=[],rs:=[.val (.int .i64)] }
def Ik:aJ:={ ps:=[],bs:=[],rs:=[.val kK] }
def BH:aJ:={ ps:=[.val sL],bs:=[],rs:=[.val sL] }
def DO:aJ:={ ps:=[.val kK,.val sL],bs:=[],rs:=[.val kK,.val (.int .i64)] }
def NB:aJ:={ ps:=[.val kK,.val sL],bs:=[],rs:=[.val kK] }
def NC:aJ:={ ps:=[.val kK,.val sL],bs:=[],rs:=[.val kK] }
def BI:aJ:={ ps:=[.val cY],bs:=[],rs:=[.agg [.own (.row 48 dM),.own (.row 56 eO)]] }
def abO:aJ:={ ps:=[.val (.sl da)],bs:=[],rs:=[.val .bool] }
def abP:aJ:={ ps:=[.val cY],bs:=[],rs:=[.val (.int .i64)] }
def Fw:aJ:={ ps:=[.val sL],bs:=[],rs:=[.val (.int .i64)] }
def ND:aJ:={ ps:=[.val (.int .i64)],bs:=[],rs:=[.val sL] }
def BJ:aJ:={ ps:=[.val rj],bs:=[],rs:=[.val (.int .i64)] }
def BL:aJ:={ ps:=[.val kK,.val (.sl rj)],bs:=[],rs:=[.val kK,.val (.int .i64)] }
def La:aJ:={ ps:=[.val rj],bs:=[],rs:=[.val (.int .i64)] }
def DP:aJ:={ ps:=[.val cY,.val dM],bs:=[],rs:=[.val cY] }
def oi:aJ:={ ps:=[.val cY,.val gN,.val gN],bs:=[],rs:=[.val cY] }
def NF:aJ:={ ps:=[.val kK,.val rj],bs:=[],rs:=[.val kK,.val (.int .i64)] }
def NG:aJ:={ ps:=[.val kK,.val rj],bs:=[],rs:=[.val kK,.val (.int .i64)] }
def NH:aJ:={ ps:=[.val kK,.val rj],bs:=[],rs:=[.val kK,.val (.int .i64)] }
def xc:aJ:={ ps:=[.val kK,.val rj],bs:=[],rs:=[.val kK,.val (.int .i64)] }
def zB:aJ:={ ps:=[.val kK,.val rj],bs:=[],rs:=[.val kK,.val (.int .i64)] }
def DQ:aJ:={ ps:=[.val (.sl da),.val (.sl da)],bs:=[],rs:=[.val .bool] }
def Lb:aJ:={ ps:=[.val cY,.val bm],bs:=[],rs:=[.val bm,.val .bool] }
def BM:aJ:={ ps:=[.val cY,.val gN],bs:=[],rs:=[.val (.int .i64)] }
def rk:aJ:={ ps:=[.val cY],bs:=[],rs:=[.own (.row 3 (.int .i64))] }
def Fx:aJ:={ ps:=[.val (.sl bm),.val (.sl bm)],bs:=[],rs:=[.val .bool] }
def DR:aJ:={ ps:=[.val sL],bs:=[],rs:=[.val (.int .i64)] }
def DS:aJ:={ ps:=[.val cY],bs:=[],rs:=[.own (.row 32 bm)] }
def DT:aJ:={ ps:=[.val cY],bs:=[],rs:=[.agg [.own (.row 48 dM),.own (.row 56 eO)]] }
def Fy:aJ:={ ps:=[.val (.sl da)],bs:=[],rs:=[.own (.row 103 da)] }
def Lc:aJ:={ ps:=[.val bm,.val bm],bs:=[],rs:=[.val (.int .i64)] }
def abQ:aJ:={ ps:=[.val cY],bs:=[],rs:=[.val (.int .i64)] }
def Fz:aJ:={ ps:=[.val cY],bs:=[],rs:=[.val (.int .i64)] }
def FA:aJ:={ ps:=[.val rj],bs:=[],rs:=[.val rj,.val (.int .i64)] }
def xd:aJ:={ ps:=[.ref,.val rj],bs:=[.box 109 [.own (.row 48 dM),.own (.row 56 eO),.val (.sl da)]],rs:=[.val (.int .i64)] }
def Ld:aJ:={ ps:=[.val rj],bs:=[],rs:=[.val rj] }
def Le:aJ:={ ps:=[.val Qj],bs:=[],rs:=[.val .bool] }
def FB:aJ:={ ps:=[.val gN,.val gN],bs:=[],rs:=[.val (.int .i64)] }
def Lf:aJ:={ ps:=[.val kK,.val Qj],bs:=[],rs:=[.val Qj,.val (.int .i64)] }
def xe:aJ:={ ps:=[.val cY,.val eO],bs:=[],rs:=[.val cY] }
def xf:aJ:={ ps:=[.val cY,.val Qj,.val bm],bs:=[],rs:=[.val cY] }
def xg:aJ:={ ps:=[.val (.sl da),.val da],bs:=[],rs:=[.val (.sl da)] }
def Lg:aJ:={ ps:=[.val cY,.val bm],bs:=[],rs:=[.val bm] }
def Lh:aJ:={ ps:=[.val cY,.val bm],bs:=[],rs:=[.val cY] }
def FC:aJ:={ ps:=[.val cY,.val bm,.val bm],bs:=[],rs:=[.val cY] }
def oW:aJ:={ ps:=[.val (.sl bm)],bs:=[],rs:=[.own (.row 32 bm)] }
def NI:aJ:={ ps:=[.val cY,.val bm],bs:=[],rs:=[.val bm,.val .bool] }
def Li:aJ:={ ps:=[.val (.sl dM)],bs:=[],rs:=[.own (.row 48 dM)] }
def Lj:aJ:={ ps:=[.val (.sl eO)],bs:=[],rs:=[.own (.row 56 eO)] }
def xh:aJ:={ ps:=[.val (.sl bm)],bs:=[],rs:=[.own (.row 32 bm)] }
def abR:aJ:={ ps:=[.val cY],bs:=[],rs:=[.own (.row 30 gN)] }
def abS:aJ:={ ps:=[.val (.sl gN)],bs:=[],rs:=[.val .bool] }
def abT:aJ:={ ps:=[.val cY],bs:=[],rs:=[.val .bool] }
def FD:aJ:={ ps:=[.val cY],bs:=[],rs:=[.val (.int .i64),.val (.int .i64),.val (.int .i64),.val (.int .i64)] }
def pV:aJ:={ ps:=[.val gN],bs:=[],rs:=[.val .bool] }
def BN:aJ:={ ps:=[.val Qj],bs:=[],rs:=[.val .bool] }
def vj:aJ:={ ps:=[.val .str],bs:=[],rs:=[.val .bool] }
def FE:aJ:={ ps:=[.val (.int .i64)],bs:=[],rs:=[.val .bool] }
def FF:aJ:={ ps:=[.ref,.val dM],bs:=[.box 109 [.own (.row 48 dM),.own (.row 56 eO),.val (.sl da)]],rs:=[.val (.int .i64)] }
def NJ:aJ:={ ps:=[.ref,.val rj],bs:=[.box 109 [.own (.row 48 dM),.own (.row 56 eO),.val (.sl da)]],rs:=[.val (.int .i64)] }
def om:aJ:={ ps:=[.ref,.val rj],bs:=[.box 109 [.own (.row 48 dM),.own (.row 56 eO),.val (.sl da)]],rs:=[.val (.int .i64)] }
def zF:aJ:={ ps:=[.ref,.val rj],bs:=[.box 109 [.own (.row 48 dM),.own (.row 56 eO),.val (.sl da)]],rs:=[.val (.int .i64)] }
def xi:aJ:={ ps:=[.ref,.val rj],bs:=[.box 109 [.own (.row 48 dM),.own (.row 56 eO),.val (.sl da)]],rs:=[.val (.int .i64)] }
def pW:aJ:={ ps:=[.ref,.val rj],bs:=[.box 109 [.own (.row 48 dM),.own (.row 56 eO),.val (.sl da)]],rs:=[.val (.int .i64)] }
def NK:aJ:={ ps:=[.ref,.val rj],bs:=[.box 109 [.own (.row 48 dM),.own (.row 56 eO),.val (.sl da)]],rs:=[.val (.int .i64)] }
def NL:aJ:={ ps:=[.val bm],bs:=[],rs:=[.val .bool] }
def FG:aJ:={ ps:=[.val kK,.val bm],bs:=[],rs:=[.val bm] }
def BO:aJ:={ ps:=[.val cY,.val gN,.val (.sl bm)],bs:=[],rs:=[.val cY] }
def wK:aJ:={ ps:=[.val (.sl bm),.val bm,.val bm],bs:=[],rs:=[.own (.row 32 bm)] }
def rM:aJ:={ ps:=[.val (.sl da),.val bm],bs:=[],rs:=[.val bm,.val .bool] }
def wL:aJ:={ ps:=[.val (.sl bm),.val bm],bs:=[],rs:=[.own (.row 32 bm)] }
def FH:aJ:={ ps:=[.val (.sl bm),.val bm,.val bm],bs:=[],rs:=[.own (.row 32 bm)] }
def FI:aJ:={ ps:=[.val (.sl bm),.val bm],bs:=[],rs:=[.val bm,.val .bool] }
def WU:aJ:={ ps:=[.val cY,.val bm],bs:=[],rs:=[.val (.int .i64)] }
def FJ:aJ:={ ps:=[.val bm],bs:=[],rs:=[.val .bool] }
def oO:aJ:={ ps:=[.ref,.val gN],bs:=[.box 109 [.own (.row 48 dM),.own (.row 56 eO),.val (.sl da)]],rs:=[.val (.int .i64),.val .bool] }
def SC:aJ:={ ps:=[],bs:=[],rs:=[],x:=some (Mv 48 dM) }
def SD:aJ:={ ps:=[],bs:=[],rs:=[],x:=some (Qw 48 dM) }
def wM:aJ:={ ps:=[.ref,.val gN],bs:=[.box 109 [.own (.row 48 dM),.own (.row 56 eO),.val (.sl da)]],rs:=[.val (.int .i64)] }
def zG:aJ:={ ps:=[.val gN],bs:=[],rs:=[.val bm,.val bm] }
def FK:aJ:={ ps:=[.val kK,.val Qj],bs:=[],rs:=[.val Qj,.val (.int .i64)] }
def zH:aJ:={ ps:=[.val (.sl bm),.val bm,.val bm],bs:=[],rs:=[.own (.row 32 bm)] }
def zJ:aJ:={ ps:=[.val cY],bs:=[],rs:=[.val .bool] }
def l6:aJ:={ ps:=[.ref,.val gN],bs:=[.box 109 [.own (.row 48 dM),.own (.row 56 eO),.val (.sl da)]],rs:=[.val (.int .i64),.val .bool] }
def zK:aJ:={ ps:=[.ref,.val bm,.val bm],bs:=[.box 109 [.own (.row 48 dM),.own (.row 56 eO),.val (.sl da)]],rs:=[] }
def zL:aJ:={ ps:=[.ref,.val bm],bs:=[.box 109 [.own (.row 48 dM),.own (.row 56 eO),.val (.sl da)]],rs:=[.val bm] }
def lq:aJ:={ ps:=[.ref,.val bm],bs:=[.box 109 [.own (.row 48 dM),.own (.row 56 eO),.val (.sl da)]],rs:=[.dW 0 [(0,5,0)]] }
def FL:aJ:={ ps:=[.val (.sl bm),.val bm],bs:=[],rs:=[.own (.row 32 bm)] }
def SF:aJ:={ ps:=[],bs:=[],rs:=[],x:=some (Qw 56 eO) }
def rN:aJ:={ ps:=[.val (.sl bm),.val bm,.val bm],bs:=[],rs:=[.own (.row 32 bm)] }
def m0:aJ:={ ps:=[.val bm],bs:=[],rs:=[.val bm] }
def pX:aJ:={ ps:=[.val (.sl bm)],bs:=[],rs:=[.own (.row 32 bm)] }
def FM:aJ:={ ps:=[.ref,.val rj],bs:=[.box 109 [.own (.row 48 dM),.own (.row 56 eO),.val (.sl da)]],rs:=[.dW 0 [(0,5,3),(1,4,2)],.dW 0 [(0,5,4),(1,4,3)]] }
def Cv:aJ:={ ps:=[.val dM,.val gN],bs:=[],rs:=[.val (.int .i64)] }
def zM:aJ:={ ps:=[.val gN,.val gN],bs:=[],rs:=[.val (.int .i64)] }
def SH:aJ:={ ps:=[],bs:=[],rs:=[],x:=some (Mv 56 eO) }
def FN:aJ:={ ps:=[.val cY,.val gN],bs:=[],rs:=[.val dM,.val .bool] }
def wN:aJ:={ ps:=[.val kK,.val bm],bs:=[],rs:=[.val bm] }
def tS:aJ:={ ps:=[.val (.sl bm),.val bm],bs:=[],rs:=[.val .bool] }
def lr:aJ:={ ps:=[.val (.sl bm),.val bm],bs:=[],rs:=[.val (.int .i64)] }
def m6:aJ:={ ps:=[.val (.sl (.sl bm))],bs:=[],rs:=[.own (.row 32 bm)] }
def FO:aJ:={ ps:=[.val cY],bs:=[],rs:=[.val (.int .i64)] }
def Cw:aJ:={ ps:=[.val eO,.val gN],bs:=[],rs:=[.val (.int .i64)] }
def FP:aJ:={ ps:=[.val (.sl da),.val da],bs:=[],rs:=[.own (.row 103 da)] }
def Cx:aJ:={ ps:=[.val (.sl bm),.val bm],bs:=[],rs:=[.val bm,.val .bool] }
def Cz:aJ:={ ps:=[.val bm,.val bm],bs:=[],rs:=[.val (.int .i64)] }
def m8:aJ:={ ps:=[.val (.sl (.sl bm))],bs:=[],rs:=[.own (.row 32 bm)] }
def tT:aJ:={ ps:=[.val (.sl (.int .i64))],bs:=[],rs:=[.val (.int .i64)] }
def zN:aJ:={ ps:=[.val (.int .i64),.val (.int .i64)],bs:=[],rs:=[.val (.int .i64)] }
def FQ:aJ:={ ps:=[.val dM],bs:=[],rs:=[.val gN] }
def tU:aJ:={ ps:=[.val cY,.val bm],bs:=[],rs:=[.val gN,.val .bool] }
def FR:aJ:={ ps:=[.val (.sl da),.val bm],bs:=[],rs:=[.val bm,.val .bool] }
def FU:aJ:={ ps:=[.val cY],bs:=[],rs:=[.val (.int .i64),.val (.int .i64),.val (.int .i64),.val (.int .i64)] }
def CA:aJ:={ ps:=[.val da,.val bm],bs:=[],rs:=[.val (.int .i64)] }
def SI:aJ:={ ps:=[],bs:=[],rs:=[],x:=some (Mv 103 da) }
def zO:aJ:={ ps:=[.val (.sl bm),.val bm,.val (.int .i64)],bs:=[],rs:=[.val bm,.val .bool] }
def SJ:aJ:={ ps:=[],bs:=[],rs:=[],x:=some (Mw 32 bm) }
def zP:aJ:={ ps:=[.val (.int .i64)],bs:=[],rs:=[.val .bool] }
def FV:aJ:={ ps:=[.val da,.ref],bs:=[.box 32 [.val (.int .i64),.val (.int .i64),.val (.int .i64)]],rs:=[.val .bool] }
def FY:aJ:={ ps:=[.val dM],bs:=[],rs:=[.val .bool] }
def wO:aJ:={ ps:=[.val cY],bs:=[],rs:=[.own (.row 46 (.sl bm))] }
def wP:aJ:={ ps:=[.val cY],bs:=[],rs:=[.val (.int .i64)] }
def tV:aJ:={ ps:=[.val cY],bs:=[],rs:=[.own (.row 32 bm)] }
def SK:aJ:={ ps:=[.val cY],bs:=[],rs:=[.own (.row 124 (.sl gN))] }
def CB:aJ:={ ps:=[.val cY,.val bm],bs:=[],rs:=[.val bm,.val .bool] }
def gF:aJ:={ ps:=[.val cY],bs:=[],rs:=[.own (.row 3 (.int .i64))] }
def wQ:aJ:={ ps:=[.val cY,.val bm],bs:=[],rs:=[.val bm,.val .bool] }
def FZ:aJ:={ ps:=[.own,.val (.int .i64),.val (.int .i64)],bs:=[.own (.row 3 (.int .i64))],rs:=[] }
def pY:aJ:={ ps:=[.own,.val (.int .i64)],bs:=[.own (.row 3 (.int .i64))],rs:=[.val (.int .i64)] }
def F2:aJ:={ ps:=[.val (.sl bm),.val bm],bs:=[],rs:=[.val bm,.val .bool] }
def iO:aJ:={ ps:=[.val (.sl dM),.val gN,.EC 126 0],bs:=[],rs:=[.val (.int .i64),.val .bool] }
def iP:aJ:={ ps:=[.val (.sl eO),.val gN,.EC 138 0],bs:=[],rs:=[.val (.int .i64),.val .bool] }
def jX:aJ:={ ps:=[.val (.sl bm),.EC 142 0],bs:=[],rs:=[.val bm] }
def jY:aJ:={ ps:=[.val (.sl dM),.EC 150 0,.val gN],bs:=[],rs:=[.val dM,.val .bool] }
def iQ:aJ:={ ps:=[.val (.sl da),.val bm,.EC 155 0],bs:=[],rs:=[.val (.int .i64),.val .bool] }
def iR:aJ:={ ps:=[.val (.sl da),.EC 163 1],bs:=[.box 32 [.val bm]],rs:=[.val (.int .i64)] }
def jZ:aJ:={ ps:=[.val (.sl dM),.EC 165 0],bs:=[],rs:=[.val (.int .i64)] }
def F3:aJ:={ ps:=[],bs:=[],rs:=[],x:=some DM }
def NM:aJ:={ ps:=[],bs:=[],rs:=[] }
def sgs:List (Nat×aJ):=[(3,sg3),(4,sg4),(5,sg5),(6,sg6),(7,sg7),(8,sg8),(9,Q2),(10,abJ),(11,abK),(12,Nz),(13,abL),(14,K6),(15,NA),(16,K7),(17,abM),(18,oV),(19,zy),(20,sM),(21,w9),(22,Fs),(23,BG),(24,pU),(25,abN),(26,K8),(27,zz),(28,DN),(29,K9),(30,Ft),(31,Fu),(32,Fv),(33,Ik),(34,BH),(35,DO),(36,NB),(37,NC),(38,BI),(39,abO),(40,abP),(41,Fw),(42,ND),(43,BJ),(44,BL),(45,La),(46,DP),(47,oi),(48,NF),(49,NG),(50,NH),(51,xc),(52,zB),(53,DQ),(54,Lb),(55,BM),(56,rk),(57,Fx),(58,DR),(59,DS),(60,DT),(61,Fy),(62,Lc),(63,abQ),(64,Fz),(65,FA),(66,xd),(67,Ld),(68,Le),(69,FB),(70,Lf),(71,xe),(72,xf),(73,xg),(74,Lg),(75,Lh),(76,FC),(77,oW),(78,NI),(79,Li),(80,Lj),(81,xh),(82,abR),(83,abS),(84,abT),(85,FD),(86,pV),(87,BN),(88,vj),(89,FE),(90,FF),(91,NJ),(92,om),(93,zF),(94,xi),(95,pW),(96,NK),(97,NL),(98,FG),(99,BO),(100,wK),(101,rM),(102,wL),(103,FH),(104,FI),(105,WU),(106,FJ),(107,oO),(108,SC),(109,SD),(110,wM),(111,zG),(112,FK),(113,zH),(114,zJ),(115,l6),(116,zK),(117,zL),(118,lq),(119,FL),(120,SF),(121,rN),(122,m0),(123,pX),(124,FM),(126,Cv),(127,zM),(130,SH),(131,FN),(132,wN),(133,tS),(134,lr),(135,m6),(136,FO),(138,Cw),(139,FP),(140,Cx),(142,Cz),(143,m8),(144,tT),(145,zN),(150,FQ),(151,tU),(152,FR),(153,FU),(155,CA),(156,SI),(157,zO),(158,SJ),(159,zP),(163,FV),(165,FY),(166,wO),(167,wP),(171,tV),(173,SK),(176,CB),(177,gF),(179,wQ),(180,FZ),(181,pY),(182,F2),(127125,iO),(139137,iP),(143141,jX),(151149,jY),(156154,iQ),(164162,iR),(166164,jZ),(500060,F3),(900074,NM)]
def Sg(f:FuncId):Option aJ:=(sgs.find? (fun p=>p.1==f)).map (fun p=>p.2)
def eqs:List (Nat×K):=[(30,gN),(32,bm),(34,Qj),(36,rj),(56,eO),(103,da)]
def Eqs(t:TypeId):Option K:=(eqs.find? (fun p=>p.1==t)).map (fun p=>p.2)
def F4:Shape:=⟨[(0,.sl (.one (.sl (.pair (.int .i64) (.pair (.pair (.int .i64) (.int .i64)) (.pair (.pair (.int .i64) (.int .i64)) (.pair (.pair (.int .i64) (.int .i64)) (.pair (.pair (.pair (.int .i64) (.int .i64)) (.pair (.pair (.int .i64) (.int .i64)) (.int .i64))) (.pair (.pair (.pair (.int .i64) (.int .i64)) (.pair (.pair (.int .i64) (.int .i64)) (.int .i64))) (.pair .bool (.pair .str (.int .i64)))))))))))),(3,.bool),(6,.int .i64)],[(.slot 4,20000,.box 28 [.val kK]),(.slot 5,20001,.box 28 [.val kK])],[],[]⟩
def T6:Shape:=⟨[(0,.sl (.one (.sl (.pair (.int .i64) (.pair (.pair (.int .i64) (.int .i64)) (.pair (.pair (.int .i64) (.int .i64)) (.pair (.pair (.int .i64) (.int .i64)) (.pair (.pair (.pair (.int .i64) (.int .i64)) (.pair (.pair (.int .i64) (.int .i64)) (.int .i64))) (.pair (.pair (.pair (.int .i64) (.int .i64)) (.pair (.pair (.int .i64) (.int .i64)) (.int .i64))) (.pair .bool (.pair .str (.int .i64)))))))))))),(3,.bool),(5,.int .i64)],[(.slot 4,20000,.box 28 [.val kK])],[],[]⟩
def T7:Shape:=⟨[(5,.bool),(8,.int .i64),(10,.int .i64),(11,.int .i64)],[(.slot 3,20000,.box 76 [.val sL]),(.slot 6,20001,.box 28 [.val kK]),(.slot 7,20002,.box 28 [.val kK]),(.slot 9,20003,.box 28 [.val kK])],[],[]⟩
def T8:Shape:=⟨[(0,.sl (.one (.sl (.pair (.int .i64) (.pair (.pair (.int .i64) (.int .i64)) (.pair (.pair (.int .i64) (.int .i64)) (.pair (.pair (.int .i64) (.int .i64)) (.pair (.pair (.pair (.int .i64) (.int .i64)) (.pair (.pair (.int .i64) (.int .i64)) (.int .i64))) (.pair (.pair (.pair (.int .i64) (.int .i64)) (.pair (.pair (.int .i64) (.int .i64)) (.int .i64))) (.pair .bool (.pair .str (.int .i64)))))))))))),(4,.int .i64)],[(.slot 2,20000,.box 28 [.val kK]),(.slot 3,20001,.box 28 [.val kK])],[],[]⟩
def zQ:Shape:=⟨[(6,.int .i64)],[(.slot 2,20000,.box 25 [.val cY]),(.slot 3,20001,.box 30 [.val gN]),(.slot 4,20002,.box 48 [.val (.int .i64),.val (.int .i64),.own (.row 32 bm),.val .str,.val (.int .i64)])],[],[]⟩
def zR:Shape:=⟨[(6,.int .i64)],[(.slot 2,20000,.box 25 [.val cY]),(.slot 3,20001,.box 32 [.val bm]),(.slot 4,20002,.box 30 [.val gN])],[],[]⟩
def zT:Shape:=⟨[(6,.int .i64)],[(.slot 2,20000,.box 25 [.val cY]),(.slot 3,20001,.box 30 [.val gN]),(.slot 4,20002,.box 56 [.val eO])],[],[]⟩
def zU:Shape:=⟨[],[(.slot 2,20000,.box 25 [.val cY]),(.slot 3,20001,.box 32 [.val bm]),(.slot 6,20002,.box 32 [.val bm])],[(5,31000,(.row 32 (.pair (.pair (.int .i64) (.int .i64)) (.int .i64))))],[]⟩
def zX:Shape:=⟨[(0,.sl (.pair (.pair (.int .i64) (.int .i64)) (.int .i64))),(5,.int .i64)],[(.slot 3,20000,.box 32 [.val bm])],[],[]⟩
def zY:Shape:=⟨[(5,.int .i64)],[(.slot 2,20000,.box 25 [.val cY]),(.slot 3,20001,.box 25 [.val cY])],[],[]⟩
def zZ:Shape:=⟨[(9,.int .i64)],[(.slot 2,20000,.box 25 [.val cY]),(.slot 3,20001,.box 25 [.val cY])],[],[]⟩
def z5:Shape:=⟨[(0,.str),(3,.int .i64)],[],[],[]⟩
def vl:Shape:=⟨[(6,.int .i64)],[(.slot 1,20000,.box 25 [.val cY])],[(3,31000,(.row 46 (.sl (.pair (.pair (.int .i64) (.int .i64)) (.int .i64))))),(4,31001,(.row 32 (.pair (.pair (.int .i64) (.int .i64)) (.int .i64)))),(5,31002,(.row 32 (.pair (.pair (.int .i64) (.int .i64)) (.int .i64))))],[]⟩
def vm:Shape:=⟨[(4,.int .i64),(5,.int .i64)],[],[(3,31000,(.row 3 (.int .i64)))],[]⟩
def z6:Shape:=⟨[(7,.int .i64)],[(.slot 2,20000,.box 28 [.val kK]),(.slot 3,20001,.box 76 [.val sL]),(.slot 4,20002,.box 28 [.own (.row 48 dM),.own (.row 56 eO),.own (.row 103 da)])],[],[]⟩
def z7:Shape:=⟨[(4,.int .i64)],[(.slot 1,20000,.box 25 [.val cY]),(.slot 2,20001,.box 25 [.own (.row 48 dM),.own (.row 56 eO)]),(.slot 3,20002,.box 25 [.own (.row 48 dM),.own (.row 56 eO)])],[],[]⟩
def T9:Shape:=⟨[(0,.sl (.pair (.pair (.pair (.int .i64) (.int .i64)) (.int .i64)) (.pair (.pair (.int .i64) (.int .i64)) (.int .i64)))),(3,.int .i64)],[],[],[]⟩
def z8:Shape:=⟨[(3,.int .i64)],[(.slot 1,20000,.box 76 [.val sL])],[],[]⟩
def Aa:Shape:=⟨[(18,.sl (.pair (.int .i64) (.pair (.pair (.int .i64) (.int .i64)) (.pair (.pair (.int .i64) (.int .i64)) (.pair (.pair (.int .i64) (.int .i64)) (.pair (.pair (.pair (.int .i64) (.int .i64)) (.pair (.pair (.int .i64) (.int .i64)) (.int .i64))) (.pair (.pair (.pair (.int .i64) (.int .i64)) (.pair (.pair (.int .i64) (.int .i64)) (.int .i64))) (.pair .bool (.pair .str (.int .i64)))))))))),(19,.int .i64),(20,.int .i64)],[(.slot 4,20000,.box 28 [.own (.row 48 dM),.own (.row 56 eO),.own (.row 103 da)]),(.slot 6,20001,.box 109 [.own (.row 48 dM),.own (.row 56 eO),.val (.sl da)])],[],[]⟩
def sN:Shape:=⟨[(6,.bool),(7,.int .i64)],[(.slot 2,20000,.box 25 [.val cY]),(.slot 3,20001,.box 48 [.val dM]),(.slot 4,20002,.box 25 [.own (.row 48 dM),.own (.row 56 eO)]),(.slot 5,20003,.box 25 [.own (.row 48 dM),.val (.sl eO)])],[],[]⟩
def vn:Shape:=⟨[(8,.int .i64)],[(.slot 3,20000,.box 25 [.val cY]),(.slot 4,20001,.box 30 [.val gN]),(.slot 5,20002,.box 30 [.val gN]),(.slot 6,20003,.box 25 [.own (.row 48 dM),.own (.row 56 eO)]),(.slot 7,20004,.box 25 [.own (.row 48 dM),.own (.row 56 eO)])],[],[]⟩
def vo:Shape:=⟨[(9,.int .i64)],[(.slot 3,20000,.box 25 [.val cY]),(.slot 5,20001,.box 30 [.val gN]),(.slot 6,20002,.box 25 [.own (.row 48 dM),.own (.row 56 eO)]),(.slot 7,20003,.box 25 [.own (.row 48 dM),.own (.row 56 eO)])],[],[]⟩
def lu:Shape:=⟨[(12,.sl (.pair (.pair (.pair (.int .i64) (.int .i64)) (.int .i64)) (.pair (.pair (.int .i64) (.int .i64)) (.int .i64)))),(13,.int .i64)],[(.slot 4,20000,.box 28 [.own (.row 48 dM),.own (.row 56 eO),.own (.row 103 da)]),(.slot 8,20001,.box 32 [.val bm]),(.slot 9,20002,.box 32 [.val bm]),(.slot 10,20003,.box 32 [.val bm]),(.slot 11,20004,.box 25 [.val cY])],[],[]⟩
def pZ:Shape:=⟨[(7,.bool),(8,.int .i64)],[(.slot 2,20000,.box 28 [.val kK]),(.slot 3,20001,.box 36 [.val rj]),(.slot 4,20002,.box 28 [.own (.row 48 dM),.own (.row 56 eO),.own (.row 103 da)]),(.slot 6,20003,.box 25 [.own (.row 48 dM),.own (.row 56 eO)])],[],[]⟩
def p4:Shape:=⟨[(7,.bool),(9,.int .i64)],[(.slot 2,20000,.box 28 [.val kK]),(.slot 3,20001,.box 36 [.val rj]),(.slot 4,20002,.box 28 [.own (.row 48 dM),.own (.row 56 eO),.own (.row 103 da)]),(.slot 6,20003,.box 25 [.own (.row 48 dM),.own (.row 56 eO)])],[],[]⟩
def Ab:Shape:=⟨[(0,.sl (.pair (.pair (.pair (.int .i64) (.int .i64)) (.int .i64)) (.pair (.pair (.int .i64) (.int .i64)) (.int .i64)))),(1,.sl (.pair (.pair (.pair (.int .i64) (.int .i64)) (.int .i64)) (.pair (.pair (.int .i64) (.int .i64)) (.int .i64)))),(5,.int .i64)],[],[],[]⟩
def Ac:Shape:=⟨[(5,.int .i64)],[(.slot 2,20000,.box 25 [.val cY]),(.slot 3,20001,.box 30 [.val gN])],[],[]⟩
def Ad:Shape:=⟨[(4,.int .i64)],[(.slot 1,20000,.box 25 [.val cY])],[(3,31000,(.row 3 (.int .i64)))],[]⟩
def vp:Shape:=⟨[(5,.int .i64)],[(.slot 1,20000,.box 25 [.val cY])],[(3,31000,(.row 3 (.int .i64)))],[]⟩
def p6:Shape:=⟨[(5,.int .i64),(6,.int .i64)],[(.slot 1,20000,.box 25 [.val cY])],[(3,31000,(.row 3 (.int .i64)))],[]⟩
def Ae:Shape:=⟨[(0,.sl (.pair (.pair (.int .i64) (.int .i64)) (.int .i64))),(1,.sl (.pair (.pair (.int .i64) (.int .i64)) (.int .i64))),(5,.int .i64)],[],[],[]⟩
def Af:Shape:=⟨[(17,.sl (.pair (.int .i64) (.pair (.pair (.int .i64) (.int .i64)) (.pair (.pair (.int .i64) (.int .i64)) (.pair (.pair (.int .i64) (.int .i64)) (.pair (.pair (.pair (.int .i64) (.int .i64)) (.pair (.pair (.int .i64) (.int .i64)) (.int .i64))) (.pair (.pair (.pair (.int .i64) (.int .i64)) (.pair (.pair (.int .i64) (.int .i64)) (.int .i64))) (.pair .bool (.pair .str (.int .i64)))))))))),(18,.int .i64),(19,.int .i64)],[],[],[]⟩
def Ag:Shape:=⟨[(4,.int .i64)],[(.slot 1,20000,.box 25 [.val cY])],[(3,31000,(.row 32 (.pair (.pair (.int .i64) (.int .i64)) (.int .i64))))],[]⟩
def Ah:Shape:=⟨[(14,.int .i64),(15,.int .i64)],[(.slot 2,20000,.box 25 [.own (.row 48 dM),.own (.row 56 eO)]),(.slot 3,20001,.box 25 [.own (.row 48 dM),.own (.row 56 eO)])],[],[]⟩
def sO:Shape:=⟨[(6,.bool),(7,.int .i64)],[(.slot 2,20000,.box 25 [.val cY]),(.slot 3,20001,.box 56 [.val eO]),(.slot 4,20002,.box 25 [.own (.row 48 dM),.own (.row 56 eO)]),(.slot 5,20003,.box 25 [.val (.sl dM),.own (.row 56 eO)])],[],[]⟩
def kg:Shape:=⟨[(0,.sl (.pair (.pair (.pair (.int .i64) (.int .i64)) (.int .i64)) (.pair (.pair (.int .i64) (.int .i64)) (.int .i64)))),(8,.bool),(9,.int .i64)],[(.slot 3,20000,.box 103 [.val da])],[(7,31000,(.row 103 (.pair (.pair (.pair (.int .i64) (.int .i64)) (.int .i64)) (.pair (.pair (.int .i64) (.int .i64)) (.int .i64)))))],[]⟩
def vq:Shape:=⟨[(0,.sl (.pair (.pair (.int .i64) (.int .i64)) (.int .i64))),(3,.int .i64),(4,.int .i64)],[],[],[]⟩
def Ai:Shape:=⟨[(0,.sl (.pair (.pair (.int .i64) (.int .i64)) (.int .i64))),(3,.int .i64),(6,.int .i64)],[],[(5,31000,(.row 32 (.pair (.pair (.int .i64) (.int .i64)) (.int .i64))))],[]⟩
def Ua:Shape:=⟨[(4,.int .i64)],[(.slot 1,20000,.box 25 [.val cY])],[(3,31000,(.row 30 (.pair (.int .i64) (.int .i64))))],[]⟩
def Ub:Shape:=⟨[(5,.int .i64)],[(.slot 1,20000,.box 25 [.val cY])],[(3,31000,(.row 30 (.pair (.int .i64) (.int .i64))))],[]⟩
def Uc:Shape:=⟨[(0,.sl (.pair (.int .i64) (.int .i64))),(3,.int .i64)],[],[],[]⟩
def Ud:Shape:=⟨[(3,.int .i64)],[(.slot 1,20000,.box 25 [.val cY])],[],[]⟩
def Ue:Shape:=⟨[(3,.int .i64),(4,.sl (.pair (.pair (.int .i64) (.int .i64)) (.int .i64))),(6,.int .i64)],[(.slot 1,20000,.box 25 [.val cY])],[],[]⟩
def Uf:Shape:=⟨[(9,.int .i64)],[(.slot 1,20000,.box 25 [.val cY])],[],[]⟩
def Ug:Shape:=⟨[(9,.int .i64),(10,.int .i64)],[(.slot 1,20000,.box 25 [.val cY])],[],[]⟩
def vt:Shape:=⟨[(6,.int .i64),(7,.int .i64)],[(.slot 1,20000,.box 25 [.val cY])],[],[]⟩
def vu:Shape:=⟨[(0,.str)],[],[(6,31000,.mK)],[]⟩
def lx:Shape:=⟨[(48,.int .i64),(49,.int .i64)],[(.slot 0,1000,.box 109 [.own (.row 48 dM),.own (.row 56 eO),.val (.sl da)]),(.slot 5,20001,.box 28 [.val kK]),(.slot 7,20002,.box 32 [.val bm])],[(9,31000,(.row 32 (.pair (.pair (.int .i64) (.int .i64)) (.int .i64)))),(47,31001,(.row 34 (.pair (.pair (.int .i64) (.int .i64)) (.pair (.pair (.int .i64) (.int .i64)) (.int .i64)))))],[]⟩
def DU:Shape:=⟨[(5,.int .i64),(32,.int .i64),(33,.int .i64)],[(.slot 0,1000,.box 109 [.own (.row 48 dM),.own (.row 56 eO),.val (.sl da)]),(.slot 7,20001,.box 32 [.val bm]),(.slot 8,20002,.box 32 [.val bm])],[(31,31000,(.row 32 (.pair (.pair (.int .i64) (.int .i64)) (.int .i64))))],[]⟩
def vv:Shape:=⟨[(5,.int .i64),(47,.int .i64),(48,.int .i64)],[(.slot 0,1000,.box 109 [.own (.row 48 dM),.own (.row 56 eO),.val (.sl da)])],[(46,31000,(.row 32 (.pair (.pair (.int .i64) (.int .i64)) (.int .i64))))],[]⟩
def mz:Shape:=⟨[(113,.int .i64)],[(.slot 0,1000,.box 109 [.own (.row 48 dM),.own (.row 56 eO),.val (.sl da)]),(.slot 8,20001,.box 32 [.val bm]),(.slot 9,20002,.box 32 [.val bm]),(.slot 10,20003,.box 32 [.val bm])],[],[]⟩
def Aj:Shape:=⟨[(5,.int .i64)],[(.slot 2,20000,.box 28 [.val kK]),(.slot 3,20001,.box 32 [.val bm]),(.slot 4,20002,.box 32 [.val bm])],[],[]⟩
def vw:Shape:=⟨[(2,.sl (.pair (.pair (.int .i64) (.int .i64)) (.int .i64))),(8,.int .i64)],[(.slot 4,20000,.box 30 [.val gN]),(.slot 6,20001,.box 25 [.own (.row 48 dM),.own (.row 56 eO)]),(.slot 7,20002,.box 25 [.own (.row 48 dM),.own (.row 56 eO)])],[],[]⟩
def qL:Shape:=⟨[(0,.sl (.pair (.pair (.int .i64) (.int .i64)) (.int .i64))),(7,.int .i64),(9,.int .i64)],[(.slot 5,20000,.box 32 [.val bm])],[(8,31000,(.row 32 (.pair (.pair (.int .i64) (.int .i64)) (.int .i64))))],[]⟩
def tW:Shape:=⟨[(0,.sl (.pair (.pair (.pair (.int .i64) (.int .i64)) (.int .i64)) (.pair (.pair (.int .i64) (.int .i64)) (.int .i64)))),(6,.int .i64)],[(.slot 3,20000,.box 32 [.val bm]),(.slot 4,20001,.box 32 [.val bm])],[],[]⟩
def qM:Shape:=⟨[(0,.sl (.pair (.pair (.int .i64) (.int .i64)) (.int .i64))),(6,.int .i64)],[(.slot 3,20000,.box 32 [.val bm])],[(5,31000,(.row 32 (.pair (.pair (.int .i64) (.int .i64)) (.int .i64))))],[]⟩
def Q3:Shape:=⟨[(5,.int .i64),(6,.int .i64)],[(.slot 2,20000,.box 25 [.val cY]),(.slot 3,20001,.box 32 [.val bm])],[],[]⟩
def Q4:Shape:=⟨[(5,.int .i64),(6,.int .i64),(7,.int .i64)],[(.slot 2,20000,.box 25 [.val cY]),(.slot 3,20001,.box 32 [.val bm])],[],[]⟩
def xL:Shape:=⟨[(7,.int .i64)],[(.slot 0,1000,.box 109 [.own (.row 48 dM),.own (.row 56 eO),.val (.sl da)]),(.slot 3,20001,.box 32 [.val bm]),(.slot 4,20002,.box 32 [.val bm]),(.slot 5,20003,.box 32 [.val bm])],[],[]⟩
def tX:Shape:=⟨[(12,.int .i64),(13,.int .i64)],[(.slot 0,1000,.box 109 [.own (.row 48 dM),.own (.row 56 eO),.val (.sl da)]),(.slot 3,20001,.box 32 [.val bm])],[],[]⟩
def tY:Shape:=⟨[(12,.int .i64),(13,.int .i64)],[(.slot 2,20000,.box 28 [.val kK]),(.slot 3,20001,.box 32 [.val bm]),(.slot 4,20002,.box 32 [.val bm])],[],[]⟩
def tZ:Shape:=⟨[(0,.sl (.pair (.pair (.int .i64) (.int .i64)) (.int .i64))),(7,.int .i64),(8,.int .i64)],[(.slot 3,20000,.box 32 [.val bm])],[],[]⟩
def ua:Shape:=⟨[(0,.sl (.sl (.pair (.pair (.int .i64) (.int .i64)) (.int .i64)))),(3,.int .i64),(9,.sl (.sl (.pair (.pair (.int .i64) (.int .i64)) (.int .i64)))),(10,.int .i64),(11,.int .i64)],[],[],[]⟩
def ub:Shape:=⟨[(25,.sl (.sl (.pair (.pair (.int .i64) (.int .i64)) (.int .i64)))),(26,.int .i64),(27,.int .i64)],[],[(6,31000,(.row 32 (.pair (.pair (.int .i64) (.int .i64)) (.int .i64))))],[]⟩
def xM:Shape:=⟨[(3,.int .i64),(6,.sl (.int .i64)),(7,.int .i64),(8,.int .i64)],[],[],[]⟩
def uc:Shape:=⟨[(9,.sl (.pair (.pair (.int .i64) (.int .i64)) (.pair (.sl (.pair (.pair (.int .i64) (.int .i64)) (.int .i64))) (.pair .str (.int .i64))))),(10,.int .i64),(11,.int .i64)],[(.slot 3,20000,.box 32 [.val bm]),(.slot 4,20001,.box 30 [.val gN])],[],[]⟩
def Q5:Shape:=⟨[(12,.int .i64),(13,.int .i64)],[(.slot 1,20000,.box 25 [.val cY]),(.slot 4,20001,.box 183 [.own (.map bm .bool)])],[(3,31000,(.row 46 (.sl bm))),(11,31001,(.row 32 (.pair (.pair (.int .i64) (.int .i64)) (.int .i64))))],[]⟩
def ud:Shape:=⟨[(8,.sl (.pair (.pair (.int .i64) (.int .i64)) (.pair .str (.int .i64)))),(9,.int .i64),(10,.int .i64)],[],[(3,31000,(.row 32 bm))],[]⟩
def Q6:Shape:=⟨[(11,.int .i64),(12,.int .i64)],[(.slot 1,20000,.box 25 [.val cY])],[(3,31000,(.map (.int .i64) (.int .i64))),(4,31001,(.row 124 (.sl gN))),(10,31002,(.row 3 (.int .i64)))],[]⟩
def qN:Shape:=⟨[(18,.sl (.pair (.pair (.int .i64) (.int .i64)) (.pair (.sl (.pair (.pair (.int .i64) (.int .i64)) (.int .i64))) (.pair .str (.int .i64))))),(19,.int .i64),(20,.int .i64)],[],[(3,31000,(.row 3 (.int .i64))),(4,31001,(.map (.pair (.pair (.int .i64) (.int .i64)) (.int .i64)) (.int .i64)))],[]⟩
def ue:Shape:=⟨[(5,.int .i64),(18,.sl (.pair (.pair (.int .i64) (.int .i64)) (.pair (.sl (.pair (.pair (.int .i64) (.int .i64)) (.int .i64))) (.pair .str (.int .i64))))),(19,.int .i64),(20,.int .i64),(30,.sl (.pair (.pair (.int .i64) (.int .i64)) (.int .i64))),(31,.int .i64),(32,.int .i64)],[],[(3,31000,(.row 3 (.int .i64))),(4,31001,(.map (.pair (.pair (.int .i64) (.int .i64)) (.int .i64)) (.int .i64)))],[]⟩
def oo:Shape:=⟨[(4,.mp (.pair (.pair (.int .i64) (.int .i64)) (.int .i64)) (.int .i64))],[],[(3,31000,(.row 3 (.int .i64))),(42,31001,(.iter (.pair (.pair (.int .i64) (.int .i64)) (.int .i64)) (.int .i64)))],[]⟩
def uf:Shape:=⟨[(61,.int .i64),(62,.int .i64)],[],[(3,31000,(.row 3 (.int .i64))),(13,31001,(.row 3 (.int .i64)))],[]⟩
def ug:Shape:=⟨[(11,.sl (.pair (.pair (.int .i64) (.int .i64)) (.pair (.sl (.pair (.pair (.int .i64) (.int .i64)) (.int .i64))) (.pair .str (.int .i64))))),(12,.int .i64),(13,.int .i64)],[(.slot 3,20000,.box 32 [.val bm]),(.slot 4,20001,.box 32 [.val bm])],[],[]⟩
def qO:Shape:=⟨[(1,.int .i64)],[],[(0,1000,(.row 3 (.int .i64)))],[]⟩
def g8:Shape:=⟨[(0,.sl (.pair (.pair (.int .i64) (.int .i64)) (.pair (.sl (.pair (.pair (.int .i64) (.int .i64)) (.int .i64))) (.pair .str (.int .i64))))),(8,.int .i64),(9,.int .i64),(10,.int .i64)],[(.slot 4,20000,.box 30 [.val gN])],[],[(2,126,[])]⟩
def g9:Shape:=⟨[(0,.sl (.pair (.pair (.int .i64) (.int .i64)) (.pair .str (.int .i64)))),(8,.int .i64),(9,.int .i64),(10,.int .i64)],[(.slot 4,20000,.box 30 [.val gN])],[],[(2,138,[])]⟩
def ju:Shape:=⟨[(0,.sl (.pair (.pair (.int .i64) (.int .i64)) (.int .i64))),(6,.int .i64)],[(.slot 4,20000,.box 32 [.val bm]),(.slot 5,20001,.box 32 [.val bm])],[],[(1,142,[])]⟩
def ly:Shape:=⟨[(11,.sl (.pair (.pair (.int .i64) (.int .i64)) (.pair (.sl (.pair (.pair (.int .i64) (.int .i64)) (.int .i64))) (.pair .str (.int .i64))))),(12,.int .i64),(13,.int .i64)],[(.slot 5,20000,.box 30 [.val gN]),(.slot 6,20001,.box 48 [.val (.int .i64),.val (.int .i64),.own (.row 32 bm),.val .str,.val (.int .i64)])],[],[(1,150,[])]⟩
def hM:Shape:=⟨[(0,.sl (.pair (.pair (.pair (.int .i64) (.int .i64)) (.int .i64)) (.pair (.pair (.int .i64) (.int .i64)) (.int .i64)))),(8,.int .i64),(9,.int .i64),(10,.int .i64)],[(.slot 4,20000,.box 32 [.val bm])],[],[(2,155,[])]⟩
def jv:Shape:=⟨[(0,.sl (.pair (.pair (.pair (.int .i64) (.int .i64)) (.int .i64)) (.pair (.pair (.int .i64) (.int .i64)) (.int .i64)))),(7,.int .i64),(8,.int .i64)],[(.cap 1 0,1000,.box 32 [.val bm])],[],[(1,163,[1000])]⟩
def jw:Shape:=⟨[(5,.int .i64),(8,.sl (.pair (.pair (.int .i64) (.int .i64)) (.pair (.sl (.pair (.pair (.int .i64) (.int .i64)) (.int .i64))) (.pair .str (.int .i64))))),(9,.int .i64),(10,.int .i64)],[],[],[(1,165,[])]⟩
def ans:List (Nat×List (Nat×Shape)):=[(9,[(5,F4)]),(10,[(4,T6)]),(11,[(8,T7)]),(17,[(3,T8)]),(18,[(2,zQ)]),(20,[(2,zR)]),(21,[(2,zT)]),(22,[(6,zU)]),(24,[(2,zX)]),(27,[(4,zY),(12,zZ)]),(28,[(2,z5)]),(31,[(5,vl)]),(32,[(4,vm)]),(35,[(5,z6)]),(38,[(3,z7)]),(39,[(2,T9)]),(41,[(4,z8)]),(44,[(3,Aa)]),(46,[(4,sN)]),(47,[(3,vn),(8,vo)]),(51,[(18,lu)]),(52,[(4,pZ),(12,p4)]),(53,[(4,Ab)]),(55,[(2,Ac)]),(56,[(3,Ad),(7,vp),(10,p6)]),(57,[(4,Ae)]),(58,[(4,Af)]),(59,[(3,Ag)]),(60,[(3,Ah)]),(71,[(4,sO)]),(73,[(7,kg)]),(77,[(3,vq),(9,Ai)]),(82,[(3,Ua),(7,Ub)]),(83,[(2,Uc)]),(84,[(2,Ud),(9,Ue),(15,Uf),(18,Ug)]),(85,[(3,vt)]),(88,[(2,vu)]),(92,[(8,lx)]),(93,[(6,DU),(11,vv)]),(95,[(19,mz)]),(98,[(2,Aj)]),(99,[(3,vw)]),(100,[(6,qL)]),(101,[(2,tW)]),(102,[(3,qM)]),(105,[(3,Q3),(6,Q4)]),(117,[(3,xL)]),(118,[(2,tX)]),(132,[(2,tY)]),(134,[(2,tZ)]),(143,[(3,ua),(11,ub)]),(144,[(3,xM)]),(151,[(2,uc)]),(166,[(4,Q5)]),(171,[(3,ud)]),(173,[(4,Q6)]),(177,[(4,qN),(8,ue),(14,oo),(21,uf)]),(179,[(2,ug)]),(181,[(1,qO)]),(127125,[(3,g8)]),(139137,[(3,g9)]),(143141,[(5,ju)]),(151149,[(2,ly)]),(156154,[(3,hM)]),(164162,[(2,jv)]),(166164,[(3,jw)])]
def An(f:FuncId)(key:Nat):Option Shape:=(ans.find? (fun p=>p.1==f)).bind fun p=>(p.2.find? (fun q=>q.1==key)).map (fun q=>q.2)
abbrev JT(g:aJ):=(sh:Shape)→List Item→sh.T→Option g.B
noncomputable def bY(f:FuncId)(g:aJ)(fn:Func)(F:FT)(J:JT g)(x:g.A):Option g.B:=ax Tryz.prog Eqs Sg F fn.ntmps (An f) J (pC Tryz.prog g fn) fuel [.code (fn.body.getD .skip)] (entry g x)
noncomputable def fV(f j:Nat)(g:aJ)(fn:Func)(sh:Shape)(F:FT)(J:JT g)(x:sh.T):Option g.B:=ax Tryz.prog Eqs Sg F fn.ntmps (An f) J (pC Tryz.prog g fn) fuel (round (aP Tryz.prog (f % 1000) j)) (ao sh x)
end Go.Vs
namespace Go.Vs
open Go.Proofs
variable {G:(f:FuncId)→(g:aJ)→Option (g.A→Option g.B)}
noncomputable abbrev FX(G:(f:FuncId)→(g:aJ)→Option (g.A→Option g.B)):FT:=Fix Tryz.prog Eqs Sg An G
noncomputable abbrev LX(G:(f:FuncId)→(g:aJ)→Option (g.A→Option g.B))(f:FuncId)(g:aJ)(fn:Func):JT g:=Lp Tryz.prog Eqs Sg An G f g fn
abbrev HG(G:(f:FuncId)→(g:aJ)→Option (g.A→Option g.B)):Prop:=∀f g,(f==166 || f==167)=false→G f g=none
theorem ar{f:FuncId}{g:aJ}{fn:Func}{x:g.A}{y:g.B}(hG:G f g=none)(hb:body Tryz.prog (f % 1000)=some (fn,fn.body.getD .skip))(hc:(decide (g.ps.length≤fn.ntmps)&&decide (g.bs.length≤8))=true)
  (h:bY f g fn (FX G) (LX G f g fn) x=some y):FX G f g x=some y:=Jx hG hb hc h
theorem au{f j:Nat}{g:aJ}{fn:Func}{sh:Shape}{x:sh.T}{y:g.B}(hs:(match aP Tryz.prog (f % 1000) j with | .inLoop _::_=>true | _=>false)=true)
  (h:fV f j g fn sh (FX G) (LX G f g fn) x=some y):LX G f g fn sh (aP Tryz.prog (f % 1000) j) x=some y:=by
 unfold fV at h
 generalize aP Tryz.prog (f % 1000) j=s at hs h ⊢
 split at hs
 ·exact Ny h
 ·cases hs
end Go.Vs
