/- The value semantics is sound for whole functions; the signatures of the program. -/
import Derived.Test.YtpldhjjpeldkaaaGreatEngineC
import Derived.Scope
import Derived.Test.YtpldhjjpeldkaaaGreatProg
import Derived.KernelRfl
set_option linter.unusedSimpArgs false
set_option linter.unusedVariables false
namespace Go.Vs
variable {P:Program} {Eqs:TypeId→Option K} {Sg:FuncId→Option aL} {F:(f:FuncId)→(g:aL)→g.A→Option g.B} {R:Type}
variable {Z Z' Z0:Nat→Prop} {ψ ψ' ψ0:Nat→Value} {h h':Hp} {w w' w0:World} {B0:Nat} {O N:Nat→Prop}
def eT(st:St):(l:List (Nat×Nat×OK))→Ic (l.map (·.2.2))→List xk
 | [],_=>[]
 | (s,id,ok)::r,x=>(id,(n6 (look st.tmps s)).head?,.own ok x.1)::eT st r x.2
theorem ug(st:St):∀(l:List (Nat×Nat×OK)) (x:Ic (l.map (·.2.2))),dv (eT st l x)=qa l x
 | [],_=>rfl
 | (s,id,ok)::r,x=>by simp only [eT,qa];rw [←ug st r x.2];rfl
theorem so(st:St):∀(l:List (Nat×Nat×OK)) (x:Ic (l.map (·.2.2))),(eT st l x).map (·.1)=l.map (·.2.1)
 | [],_=>rfl
 | (s,id,ok)::r,x=>by simp only [eT,List.map_cons];rw [so st r x.2]
theorem xD(st:St):∀(l:List (Nat×Nat×OK)) (x:Ic (l.map (·.2.2))),(eT st l x).filterMap (·.2.1)=l.flatMap fun p=>n6 (look st.tmps p.1)
 | [],_=>rfl
 | (s,id,ok)::r,x=>by
  simp only [eT,List.flatMap_cons]
  rw [dE,xD st r x.2]
  simp only []
  rw [vD]
theorem ql{st:St}{s id:Nat}{ok:OK}{r:List (Nat×Nat×OK)}{x:Ic (((s,id,ok)::r).map (·.2.2))}(hd:mG st ((s,id,ok)::r)=some x):dG st.heap ok (look st.tmps s)=some x.1∧mG st r=some x.2:=by
 have e:mG st ((s,id,ok)::r)=(match dG st.heap ok (look st.tmps s),mG st r with
  | some x,some y=>some ((x,y):ok.T×Ic (r.map (·.2.2)))
  | _,_=>none):=rfl
 rw [e] at hd
 clear e
 generalize dG st.heap ok (look st.tmps s)=o1 at hd ⊢
 generalize mG st r=o2 at hd ⊢
 cases o1 with
 | none=>cases hd
 | some x1 =>
  cases o2 with
  | none=>cases hd
  | some y1=>have:=Option.some.inj hd;subst this;exact ⟨rfl,rfl⟩
theorem Al{hd:Hp}{st:St}:∀(l:List (Nat×Nat×OK)) (x:Ic (l.map (·.2.2))),mG st l=some x→(∀s∈(l.flatMap fun p=>n6 (look st.tmps p.1)),hd s=st.heap.get s) →
  ∀e∈eT st l x,tY Z ψ hd w h' ψ' e
 | [],_,_,_,e,he=>by simp [eT] at he
 | (s,id,ok)::r,x,hx,hk,e,he=>by
  obtain ⟨h1,h2⟩:=ql hx
  simp only [List.flatMap_cons] at hk
  simp only [eT] at he
  rcases List.mem_cons.1 he with rfl | he
  ·exact Ke h1 fun s hs=>hk s (List.mem_append_left _ hs)
  ·exact Al r x.2 h2 (fun s hs=>hk s (List.mem_append_right _ hs)) e he
theorem Gd{st:St}{s:Nat}{k:K}{r:List (Nat×K)}{x:Fq (((s,k)::r).map (·.2))}(hd:p6 st ((s,k)::r)=some x):fD k st.heap (look st.tmps s)=some x.1∧p6 st r=some x.2:=by
 have e:p6 st ((s,k)::r)=(match fD k st.heap (look st.tmps s),p6 st r with
  | some x,some y=>some ((x,y):k.T×Fq (r.map (·.2)))
  | _,_=>none):=rfl
 rw [e] at hd
 clear e
 generalize fD k st.heap (look st.tmps s)=o1 at hd ⊢
 generalize p6 st r=o2 at hd ⊢
 cases o1 with
 | none=>cases hd
 | some x1 =>
  cases o2 with
  | none=>cases hd
  | some y1=>have:=Option.some.inj hd;subst this;exact ⟨rfl,rfl⟩
theorem eu{T:List (Nat×AV)}{n:Nat}{a:Act}(eg:∀p∈T,av Z ψ h w p.2 (a.tmps.getD p.1 undef))(hs:a.tmps.size=n)(hd:a.defers=[]):cO Z ψ h w n (look T) a:=by
 refine ⟨fun d => ?_,hs,hd⟩
 induction T with
 | nil=>simp only [look,av]
 | cons p r ih =>
  obtain ⟨i,v⟩:=p
  simp only [look]
  split
  ·rename_i e;subst e;exact eg _ List.mem_cons_self
  ·exact ih fun p hp=>eg p (List.mem_cons_of_mem _ hp)
section
variable {st:St} {n:Nat} {a:Act}
theorem uh(g:Good Z ψ st.heap.get w B0 O)(t:cO Z ψ st.heap.get w n (look st.tmps) a)(hz:∀b,Z b→Z' b):∀(l:List (Nat×K)) (x:Fq (l.map (·.2))),p6 st l=some x →
  (∀id b,AV.bC id∈(l.flatMap fun p=>(look st.tmps p.1).cells)→st.heap.get id≠none→ob (ψ id)=some b→Z' b)→∀p∈p7 l x,av Z' ψ' h' w p.2 (a.tmps.getD p.1 undef)
 | [],_,_,_,p,hp=>by simp [p7] at hp
 | (s,k)::r,x,hx,hf,p,hp=>by
  obtain ⟨h1,h2⟩:=Gd hx
  simp only [List.flatMap_cons] at hf
  simp only [p7] at hp
  rcases List.mem_cons.1 hp with rfl | hp
  ·exact qV g hz (fun id b bI=>hf id b (List.mem_append_left _ bI)) h1 (t.rep s)
  ·exact uh g t hz r x.2 h2 (fun id b bI=>hf id b (List.mem_append_right _ bI)) p hp
theorem sq(t:cO Z ψ st.heap.get w n (look st.tmps) a):∀(l:List (Src×Nat×BK)) (ids:List Nat),DY st l=some ids→(∀i∈ids,st.heap.get i≠none) →
  (∀p∈ids.zip (l.map (·.2.1)),h' p.2≠none→ψ' p.2=ψ p.1)→∀p∈jv l,av Z' ψ' h' w p.2 (a.tmps.getD p.1 undef)
 | [],_,_,_,_,p,hp=>by simp [jv] at hp
 | (src,lR,b)::r,ids,hx,hi,iK,p,hp=>by
  simp only [DY] at hx
  split at hx
  ·rename_i i is h1 h2
   cases hx
   simp only [List.map_cons,List.zip_cons_cons] at iK
   have ih:=sq t r is h2 (fun j hj=>hi j (List.mem_cons_of_mem _ hj)) (fun p hp=>iK p (List.mem_cons_of_mem _ hp)) p
   cases src with
   | slot s =>
    simp only [jv] at hp
    rcases List.mem_cons.1 hp with rfl | hp
    ·simp only [Tv] at h1
     obtain ⟨sz,h3⟩:=ow h1
     have h4:=t.rep s
     rw [h3] at h4
     exact yx h4 (hi i List.mem_cons_self) (iK (i,lR) List.mem_cons_self)
    ·exact ih hp
   | cap s j=>exact ih (by simpa only [jv] using hp)
  ·cases hx
theorem Ge{hh:Heap}{ids:List (Nat×Nat)}(hi:∀p∈ids,hh.get p.1≠none)(iK:∀p∈ids,h' p.2≠none→ψ' p.2=ψ p.1):∀(cap:List AV) (is B9:List Nat) (vs:List Value),jt cap=some is →
  is.map (fun i=>(ids.find? (·.1==i)).map (·.2))=B9.map some→aq Z ψ hh.get w cap vs→aq Z' ψ' h' w (B9.map fun i=>.ref i 0 0 0) vs
 | [],is,B9,vs,h1,h2,hr=>by
  simp only [jt] at h1
  cases h1
  cases B9 with
  | nil=>simpa only [List.map_nil,aq] using hr
  | cons c r=>simp at h2
 | v::cap,is,B9,vs,h1,h2,hr=>by
  simp only [jt] at h1
  split at h1
  ·rename_i i is' h3 h4
   cases h1
   cases B9 with
   | nil=>simp at h2
   | cons c r =>
    simp only [List.map_cons,List.cons.injEq] at h2
    obtain ⟨h5,h6⟩:=h2
    simp only [List.map_cons,aq] at hr ⊢
    obtain ⟨u,us,rfl,h7,h8⟩:=hr
    obtain ⟨sz,rfl⟩:=ow h3
    cases hf:ids.find? (·.1==i) with
    | none=>rw [hf] at h5;cases h5
    | some p =>
     rw [hf] at h5
     have hm:=List.mem_of_find?_eq_some hf
     have he:=List.find?_some hf
     simp only [Option.map_some,Option.some.injEq] at h5
     have UB:p.1=i:=by simpa using he
     refine ⟨u,us,rfl,yx h7 (by rw [←UB];exact hi p hm) (fun hn => ?_),Ge hi iK cap is' r us h4 h6 h8⟩
     rw [←h5,←UB];exact iK p hm (by rw [h5];exact hn)
  ·cases h1
theorem xF(t:cO Z ψ st.heap.get w n (look st.tmps) a){ids:List (Nat×Nat)}(hi:∀p∈ids,st.heap.get p.1≠none)(iK:∀p∈ids,h' p.2≠none→ψ' p.2=ψ p.1):∀(l:List (Nat×FuncId×List Nat)),Kb st ids l=true →
  ∀p∈yp l,av Z' ψ' h' w p.2 (a.tmps.getD p.1 undef)
 | [],_,p,hp=>by simp [yp] at hp
 | (s,f,B9)::r,hx,p,hp=>by
  simp only [Kb,Bool.and_eq_true] at hx
  simp only [yp,List.map_cons] at hp
  rcases List.mem_cons.1 hp with rfl | hp
  ·have h1:=hx.1
   split at h1
   ·rename_i f' cap hl
    simp only [Bool.and_eq_true,decide_eq_true_eq] at h1
    obtain ⟨rfl,h2⟩:=h1
    split at h2
    ·rename_i is hri
     have h4:=t.rep s
     rw [hl] at h4
     simp only [av] at h4 ⊢
     obtain ⟨vs,h5,h6⟩:=h4
     exact ⟨vs,h5,Ge hi iK cap is B9 _ hri (of_decide_eq_true h2) h6⟩
    ·cases h2
   ·cases h1
  ·exact xF t hi iK r hx.2 p hp
theorem uj(t:cO Z ψ st.heap.get w n (look st.tmps) a):∀(l:List (Nat×Nat×OK)) (x:Ic (l.map (·.2.2))),mG st l=some x→(∀e∈eT st l x,h' e.1≠none→ψ' e.1=jB ψ e.2.1) →
  ∀p∈(l.map fun p=>(p.1,AV.bC p.2.1)),av Z' ψ' h' w p.2 (a.tmps.getD p.1 undef)
 | [],_,_,_,p,hp=>by simp at hp
 | (s,id,ok)::r,x,hx,iK,p,hp=>by
  obtain ⟨h1,h2⟩:=ql hx
  simp only [eT] at iK
  simp only [List.map_cons] at hp
  rcases List.mem_cons.1 hp with rfl | hp
  ·exact D9 h1 (t.rep s) (iK _ List.mem_cons_self)
  ·exact uj t r x.2 h2 (fun e he=>iK e (List.mem_cons_of_mem _ he)) p hp
end
theorem uk{st:St}{m:Nat}:∀(l:List (Nat×Nat×OK)) (x:Ic (l.map (·.2.2))),ng st m l=true→∃o,(m,some m,o)∈eT st l x
 | [],_,h=>by cases h
 | (s,id,ok)::r,x,h=>by
  simp only [ng,Bool.or_eq_true,Bool.and_eq_true,beq_iff_eq] at h
  rcases h with ⟨rfl,h⟩ | h
  ·split at h
   ·rename_i i hl
    have hi:i=id:=by simpa using h
    subst hi
    exact ⟨_,by simp only [eT,hl,n6,List.head?_cons];exact List.mem_cons_self⟩
   ·cases h
  ·obtain ⟨o,ho⟩:=uk r x.2 h
   exact ⟨o,List.mem_cons_of_mem _ ho⟩
theorem sr{st:St}{m:Nat}:∀(l:List (Nat×Nat×OK)) (x:Ic (l.map (·.2.2))),mG st l=some x→ng st m l=true→st.heap.get m≠none
 | [],_,_,h=>by cases h
 | (s,id,ok)::r,x,hx,h=>by
  obtain ⟨h1,h2⟩:=ql hx
  simp only [ng,Bool.or_eq_true,Bool.and_eq_true,beq_iff_eq] at h
  rcases h with ⟨rfl,h⟩ | h
  ·split at h
   ·rename_i i hl
    have hi:i=id:=by simpa using h
    subst hi
    rw [hl] at h1
    simp only [dG] at h1
    split at h1
    ·rename_i hg;rw [hg];simp
    ·cases h1
   ·cases h
  ·exact sr r x.2 h2 h
theorem Kj{kj:List AV}{hh:Heap}{b:Nat}(hb:pP Z ψ hh.get kj b):Z b∨Own ψ hh.get b:=hb.imp (fun h=>h) fun ⟨i,_,h2,h3⟩=>⟨i,h2,h3⟩
theorem fP{sh:Shape}{st:St}{x:sh.T}{n:Nat}{a:Act}(hx:cz sh st=some x)(k:Ok Z0 w0 O ψ0 Z ψ st.heap.get w)(t:cO Z ψ st.heap.get w n (look st.tmps) a) :
  ∃Z' ψ',Ok Z0 w0 O ψ0 Z' ψ' (ar sh x).heap.get w∧cO Z' ψ' (ar sh x).heap.get w n (look (ar sh x).tmps) a:=by
 unfold cz at hx
 split at hx
 ·cases hx
 rename_i ids mJ
 split at hx
 ·rename_i xv xb xr hv hb hr Ci
  cases hx
  simp only [Bool.and_eq_true] at Ci
  obtain ⟨Gf,zZ,acW,acX⟩:=Ci
  obtain ⟨hlen,z6⟩:=iR _ _ _ hb
  have TK:(sh.boxes.map (·.2.1)).length=sh.bs.length:=by simp [Shape.bs]
  let L:List xk:=cr sh.bs st.heap ids (sh.boxes.map (·.2.1)) 9000 xb++eT st sh.rows xr
  have eH:dv L=(ar sh (xv,xb,xr)).heap:=by
   show dv (_++_)=_
   rw [ma,iQ _ _ _ _ _ _ hb TK,ug];rfl
  have eN:L.map (·.1)=qP sh:=by
   show (_++_:List xk).map _=_
   rw [List.map_append,gI _ _ _ _ _ _ hb TK,so];rfl
  have eS:L.filterMap (·.2.1)=Fv st sh ids:=by
   show (_++_:List xk).filterMap _=_
   rw [List.filterMap_append,jW _ _ _ _ _ _ hb TK,xD];rfl
  have hn:b6 (L.map (·.1))=true:=by rw [eN];exact zZ
  have iK:=yw (ψ:=ψ) hn
  have hz:∀b,Z b→pP Z ψ st.heap.get (yn st sh ids) b:=fun b hb=>.inl hb
  have CV:=(q7 Gf).2 st.heap
  have g':Good (pP Z ψ st.heap.get (yn st sh ids)) (ep ψ L) (dv L).get w w0.heap.size O:=by
   refine vE k.dQ Gf hn eS fun e he => ?_
   rcases List.mem_append.1 he with he | he
   ·exact la k.dQ hz sh.bs ids _ 9000 xb hb (fun id b bI h1 h2=>.inr ⟨id,List.mem_append_right _ bI,h1,h2⟩) (fun s hs=>CV s (List.mem_append_left _ hs)) (fun e he=>iK e (List.mem_append_left _ he)) e he
   ·exact Al sh.rows xr hr (fun s hs=>CV s (List.mem_append_right _ hs)) e he
  have N0:∀p∈ids.zip (sh.boxes.map (·.2.1)),(dv L).get p.2≠none→ep ψ L p.2=ψ p.1:=fun p hp bc=>by
   obtain ⟨o,ho⟩:=jX sh.bs ids (sh.boxes.map (·.2.1)) 9000 xb (hh:=st.heap) hlen p hp
   exact iK (p.2,some p.1,o) (List.mem_append_left _ ho) bc
  have vu:∀p∈ids.zip (sh.boxes.map (·.2.1)),st.heap.get p.1≠none:=fun p hp=>z6 _ (List.of_mem_zip hp).1
  refine ⟨pP Z ψ st.heap.get (yn st sh ids),ep ψ L,?_,?_⟩
  ·rw [←eH]
   refine ⟨g',fun b hb=>.inl (k.fw b hb),fun b hb => ?_,k.os,k.tape,k.output,k.size,k.block,fun i hi bc => ?_⟩
   ·rcases Kj hb with h1 | ⟨id,h1,h2⟩
    ·exact k.dX b h1
    ·exact .inr (k.dQ.live id b h1 h2).2.symm
   ·obtain ⟨o,ho⟩:=Option.ne_none_iff_exists'.1 bc
    obtain ⟨s,hm⟩:=nk ho
    have fB:i∈qP sh:=by rw [←eN];exact List.mem_map.2 ⟨_,hm,rfl⟩
    have h1:=List.all_eq_true.1 acW i fB
    simp only [Bool.or_eq_true,decide_eq_true_eq] at h1
    rcases h1 with (h1 | h1) | h1
    ·omega
    ·obtain ⟨p,hp,he⟩:=List.any_eq_true.1 h1
     simp only [Bool.and_eq_true,beq_iff_eq] at he
     have h2:=N0 p hp (by rw [he.2];exact bc)
     rw [he.1,he.2] at h2
     rw [h2]
     exact k.fix i hi (by have:=vu p hp;rwa [he.1] at this)
    ·obtain ⟨o',mL⟩:=uk sh.rows xr h1
     have h2:ep ψ L i=ψ i:=iK (i,some i,o') (List.mem_append_right _ mL) bc
     rw [h2]
     exact k.fix i hi (sr sh.rows xr hr h1)
  ·rw [←eH]
   refine eu (fun p hp => ?_) t.size t.defers
   simp only [ar] at hp
   rcases List.mem_append.1 hp with hp | hp
   ·exact uh k.dQ t hz sh.xZ xv hv (fun id b bI h1 h2=>.inr ⟨id,List.mem_append_left _ bI,h1,h2⟩) p hp
   ·rcases List.mem_append.1 hp with hp | hp
    ·exact sq t sh.boxes ids mJ z6 N0 p hp
    ·rcases List.mem_append.1 hp with hp | hp
     ·exact xF t vu N0 sh.fns acX p hp
     ·exact uj t sh.rows xr hr (fun e he=>iK e (List.mem_append_right _ he)) p hp
 ·cases hx
end Go.Vs
namespace Go.Vs
variable {P:Program} {Eqs:TypeId→Option K} {Sg:FuncId→Option aL} {F:(f:FuncId)→(g:aL)→g.A→Option g.B} {R:Type}
variable {Z Z' Z0:Nat→Prop} {ψ ψ' ψ0:Nat→Value} {h h':Hp} {w w' w0:World} {B0:Nat} {O N:Nat→Prop}
def Reach(P:Program)(b:Frame)(cs:List Frame)(tf:Act→World→Prop)(m:Machine):Prop:=∃a' w' todo,tf a' w'∧Steps P m (lone { b.at a' todo with mode:=.returning } cs w')
theorem Reach.head{b:Frame}{cs:List Frame}{tf:Act→World→Prop}{m m':Machine}(h:step P m=.next m')(r:Reach P b cs tf m'):Reach P b cs tf m:=by
 obtain ⟨a,w,todo,h1,h2⟩:=r
 exact ⟨a,w,todo,h1,.head h h2⟩
theorem Reach.steps{b:Frame}{cs:List Frame}{tf:Act→World→Prop}{m m':Machine}(h:Steps P m m')(r:Reach P b cs tf m'):Reach P b cs tf m:=by
 obtain ⟨a,w,todo,h1,h2⟩:=r
 exact ⟨a,w,todo,h1,h.trans h2⟩
theorem qm(V:Env P Eqs Sg F)(hm:P.follows .mixedOrders=true){n:Nat}{ann:Nat→Option Shape}{J:(sh:Shape)→List Item→sh.T→Option R}{ret:St→Option R}{r:R}{b:Frame}{cs:List Frame}{tf:Act→World→Prop}
  (hJ:∀sh c k x Z ψ a w,J sh (.inLoop c::k) x=some r→Ok Z0 w0 O ψ0 Z ψ (ar sh x).heap.get w→cO Z ψ (ar sh x).heap.get w n (look (ar sh x).tmps) a→Reach P b cs tf (lone (b.at a (.code c::.inLoop c::k)) cs w))
  (rL:∀st Z ψ a w,ret st=some r→Ok Z0 w0 O ψ0 Z ψ st.heap.get w→cO Z ψ st.heap.get w n (look st.tmps) a→tf a w) :
  ∀(fu:Nat) (items:List Item) (st:St) (Z:Nat→Prop) (ψ:Nat→Value) (a:Act) (w:World),ax P Eqs Sg F n ann J ret fu items st=some r→Ok Z0 w0 O ψ0 Z ψ st.heap.get w→cO Z ψ st.heap.get w n (look st.tmps) a →
   Reach P b cs tf (lone (b.at a items) cs w)
 | 0,items,st,Z,ψ,a,w,hx,k,t=>by
  cases items<;>simp only [ax] at hx<;>cases hx
 | fu+1,[],st,Z,ψ,a,w,hx,k,t=>⟨a,w,[],rL st Z ψ a w (by simpa only [ax] using hx) k t,.one step_end⟩
 | fu+1,it::L7,st,Z,ψ,a,w,hx,k,t=>by
  have ih:=qm V hm (ann:=ann) hJ rL fu
  have loop:∀c,(match ann (qQ c) with
    | none=>none
    | some sh=>match cz sh st with
     | some x=>J sh (.inLoop c::L7) x
     | none=>none)=some r→Reach P b cs tf (lone (b.at a (.code c::.inLoop c::L7)) cs w):=fun c hx=>by
   split at hx
   ·cases hx
   ·rename_i sh hsh
    split at hx
    ·rename_i x hxx
     obtain ⟨Z',ψ',k',t'⟩:=fP hxx k t
     exact hJ sh c L7 x Z' ψ' a w hx k' t'
    ·cases hx
  cases it with
  | inBlock id=>exact .head step_inBlock (ih L7 st Z ψ a w (by simpa only [ax] using hx) k t)
  | inScope c=>exact .head step_inScope (ih L7 st Z ψ a w (by simpa only [ax] using hx) k t)
  | inLoop c=>exact .head step_inLoop (loop c (by simp only [ax] at hx;exact hx))
  | code c =>
   cases c with
   | skip=>exact .head step_skip (ih L7 st Z ψ a w (by simpa only [ax] using hx) k t)
   | label l=>exact .head step_label (ih L7 st Z ψ a w (by simpa only [ax] using hx) k t)
   | seq x y=>exact .head step_seq (ih _ st Z ψ a w (by simpa only [ax] using hx) k t)
   | cond c x y =>
    simp only [ax] at hx
    split at hx
    ·rename_i tt ht
     have h1:=qj t c
     rw [ht] at h1
     simp only [av] at h1
     cases tt with
     | true=>exact .head (step_cond h1) (ih _ st Z ψ a w hx k t)
     | false=>exact .head (step_cond h1) (ih _ st Z ψ a w hx k t)
    ·cases hx
   | scope c=>exact .head step_scope (ih _ st Z ψ a w (by simpa only [ax] using hx) k t)
   | block id c=>exact .head step_block (ih _ st Z ψ a w (by simpa only [ax] using hx) k t)
   | loop c =>
    simp only [ax] at hx
    cases fu with
    | zero=>simp only [ax] at hx;cases hx
    | succ fu=>exact .head step_loop (loop c (by simp only [ax] at hx;exact hx))
   | exit id =>
    simp only [ax] at hx
    split at hx
    ·rename_i k' hk;exact .head (step_exit hk) (ih _ st Z ψ a w hx k t)
    ·cases hx
   | ret=>exact ⟨a,w,_,rL st Z ψ a w (by simpa only [ax] using hx) k t,.one step_ret⟩
   | region id ops draw =>
    simp only [ax] at hx
    have hw:=Eo V hm (Q:=fun e a w=>e=.normal∧∃dW Z ψ,ax P Eqs Sg F n ann J ret fu L7 dW=some r∧Ok Z0 w0 O ψ0 Z ψ dW.heap.get w∧cO Z ψ dW.heap.get w n (look dW.tmps) a) hx k t (fun dW Z ψ a w h1 h2 h3=>⟨rfl,dW,Z,ψ,h1,h2,h3⟩)
    obtain ⟨e,a',w',⟨rfl,dW,Z',ψ',h1,h2,h3⟩,NZ⟩:=hw b L7 cs
    exact .steps NZ (ih L7 dW Z' ψ' a' w' h1 h2 h3)
   | _=>simp only [ax] at hx;cases hx
  | _=>simp only [ax] at hx;cases hx
theorem qn{hh:Heap}{n:Nat}{s:List (Nat×AV)}{a:Act}(g:Good Z ψ hh.get w B0 O)(t:cO Z ψ hh.get w n (look s) a):∀(l:List ResultVar) (acc:Array Value) (vs:List AV),w9 P hh s l=some vs →
  ∃us,(l.foldlM (fun (bs:Array Value) r=>do let y ←(match r with | .tmp t=>pure (a.tmps.getD t undef) | .cell p ty=>do loadVar ty (←asAddr (a.tmps.getD p undef)):Sem Value);pure (bs.push y)) acc:Sem (Array Value)).run P w=.ok (acc++us.toArray) w∧aq Z ψ hh.get w vs us
 | [],acc,vs,hx=>by
  simp only [w9] at hx
  cases hx
  exact ⟨[],by simp,by simp only [aq]⟩
 | .tmp d::l,acc,vs,hx=>by
  simp only [w9] at hx
  split at hx
  ·rename_i gK h1
   cases hx
   obtain ⟨us,h2,h3⟩:=qn g t l (acc.push (a.tmps.getD d undef)) gK h1
   refine ⟨a.tmps.getD d undef::us,?_,by simp only [aq];exact ⟨_,_,rfl,t.rep d,h3⟩⟩
   simp only [List.foldlM_cons,Sem.run_bind,Sem.run_pure,Result.andThen_ok]
   rw [h2];simp
  ·cases hx
 | .cell d ty::l,acc,vs,hx=>by
  simp only [w9] at hx
  split at hx
  ·rename_i id sz off hd
   split at hx
   ·rename_i bt cs hg
    split at hx
    ·rename_i v gK hv h1
     cases hx
     have h4:=t.rep d
     rw [hd] at h4
     simp only [av] at h4
     obtain ⟨ad,h5,h6⟩:=h4
     obtain ⟨gg,ws,e1,e2,e3,e4⟩:=g.box id bt cs hg
     have h7:=h6 (by rw [hg];simp)
     rw [e1] at h7
     simp only [Ru,Nat.zero_mul,Nat.zero_add] at h7
     subst h7
     obtain ⟨V,h8,h9⟩:=jx (a:=⟨gg,off,none⟩) (e3.drop off) (fun j u hu=>by
      rw [ck];simp only [World.cell?,e2];rw [List.getElem?_drop] at hu;simpa using hu) hv
     have mI:(loadVar ty ⟨gg,off,none⟩).run P w=.ok V w:=by
      have:=h8
      simpa [Instr.loadAt,Instr.sureAddr] using this
     obtain ⟨us,h2,h3⟩:=qn g t l (acc.push V) gK h1
     refine ⟨V::us,?_,by simp only [aq];exact ⟨_,_,rfl,h9,h3⟩⟩
     have ya:(asAddr (a.tmps.getD d undef)).run P w=.ok ⟨gg,off,none⟩ w:=by rw [h5];rfl
     simp only [List.foldlM_cons,Sem.run_bind,ya,Sem.run_pure,Result.andThen_ok,mI]
     rw [h2];simp
    ·cases hx
   ·cases hx
  ·cases hx
theorem Gg{fn:Func}{hh:Heap}{n:Nat}{s:List (Nat×AV)}{a:Act}{vs:List AV}(g:Good Z ψ hh.get w B0 O)(t:cO Z ψ hh.get w n (look s) a)(hx:w9 P hh s fn.results.toList=some vs) :
  ∃us v,(results fn a.tmps).run P w=.ok v w∧aq Z ψ hh.get w vs us∧v=(if us.length=1 then us.headD undef else .tuple us.toArray):=by
 obtain ⟨us,h1,h2⟩:=qn (P:=P) g t fn.results.toList #[] vs hx
 refine ⟨us,_,?_,h2,rfl⟩
 have h3:(fn.results.mapM fun r=>(match r with | .tmp t=>pure (a.tmps.getD t undef) | .cell p ty=>do loadVar ty (←asAddr (a.tmps.getD p undef)):Sem Value)).run P w=.ok us.toArray w:=by
  rw [Array.mapM_eq_foldlM,←Array.foldlM_toList]
  simpa using h1
 have h4:results fn a.tmps=(do
   let vs ←fn.results.mapM fun r=>(match r with | .tmp t=>pure (a.tmps.getD t undef) | .cell p ty=>do loadVar ty (←asAddr (a.tmps.getD p undef)):Sem Value)
   pure (if h:vs.size=1 then vs[0] else .tuple vs)):=rfl
 rw [h4,Sem.run_bind,h3,Result.andThen_ok,Sem.run_pure]
 congr 1
 by_cases h5:us.length=1
 ·obtain ⟨u,rfl⟩:=List.length_eq_one_iff.1 h5
  simp
 ·rw [dif_neg (by simpa using h5),if_neg h5]
end Go.Vs
namespace Go.Vs
variable {P:Program} {Eqs:TypeId→Option K} {Sg:FuncId→Option aL} {F:(f:FuncId)→(g:aL)→g.A→Option g.B} {R:Type}
variable {Z Z' Z0:Nat→Prop} {ψ ψ' ψ0:Nat→Value} {h h':Hp} {w w' w0:World} {B0:Nat} {O N:Nat→Prop}
theorem fQ:∀(ps:List PK) (ids:List Nat) (s:Nat) (x:Fq (kl ps)) (us:List Value),aq Z ψ h w ((aR ps ids s x).map (·.2)) us→us.length=ps.length∧∀p∈aR ps ids s x,∃j u,p.1=s+j∧us[j]? = some u∧av Z ψ h w p.2 u
 | [],ids,s,x,us,hr=>by
  simp only [aR,List.map_nil,aq] at hr
  subst hr
  exact ⟨rfl,fun p hp=>by simp [aR] at hp⟩
 | .val k::ps,ids,s,x,us,hr=>by
  simp only [aR,List.map_cons,aq] at hr
  obtain ⟨u,iH,rfl,h1,h2⟩:=hr
  obtain ⟨h3,h4⟩:=fQ ps ids (s+1) x.2 iH h2
  refine ⟨by simp [h3],fun p hp => ?_⟩
  simp only [aR] at hp
  rcases List.mem_cons.1 hp with rfl | hp
  ·exact ⟨0,u,rfl,rfl,h1⟩
  ·obtain ⟨j,u',h5,h6,h7⟩:=h4 p hp
   exact ⟨j+1,u',by omega,by simpa using h6,h7⟩
 | .ref::ps,i::ids,s,x,us,hr=>by
  simp only [aR,List.map_cons,aq] at hr
  obtain ⟨u,iH,rfl,h1,h2⟩:=hr
  obtain ⟨h3,h4⟩:=fQ ps ids (s+1) x iH h2
  refine ⟨by simp [h3],fun p hp => ?_⟩
  simp only [aR] at hp
  rcases List.mem_cons.1 hp with rfl | hp
  ·exact ⟨0,u,rfl,rfl,h1⟩
  ·obtain ⟨j,u',h5,h6,h7⟩:=h4 p hp
   exact ⟨j+1,u',by omega,by simpa using h6,h7⟩
 | .ref::ps,[],s,x,us,hr=>by
  simp only [aR,List.map_cons,aq] at hr
  obtain ⟨u,iH,rfl,h1,h2⟩:=hr
  obtain ⟨h3,h4⟩:=fQ ps [] (s+1) x iH h2
  refine ⟨by simp [h3],fun p hp => ?_⟩
  simp only [aR] at hp
  rcases List.mem_cons.1 hp with rfl | hp
  ·exact ⟨0,u,rfl,rfl,h1⟩
  ·obtain ⟨j,u',h5,h6,h7⟩:=h4 p hp
   exact ⟨j+1,u',by omega,by simpa using h6,h7⟩
 | .own::ps,i::ids,s,x,us,hr=>by
  simp only [aR,List.map_cons,aq] at hr
  obtain ⟨u,iH,rfl,h1,h2⟩:=hr
  obtain ⟨h3,h4⟩:=fQ ps ids (s+1) x iH h2
  refine ⟨by simp [h3],fun p hp => ?_⟩
  simp only [aR] at hp
  rcases List.mem_cons.1 hp with rfl | hp
  ·exact ⟨0,u,rfl,rfl,h1⟩
  ·obtain ⟨j,u',h5,h6,h7⟩:=h4 p hp
   exact ⟨j+1,u',by omega,by simpa using h6,h7⟩
 | .own::ps,[],s,x,us,hr=>by
  simp only [aR,List.map_cons,aq] at hr
  obtain ⟨u,iH,rfl,h1,h2⟩:=hr
  obtain ⟨h3,h4⟩:=fQ ps [] (s+1) x iH h2
  refine ⟨by simp [h3],fun p hp => ?_⟩
  simp only [aR] at hp
  rcases List.mem_cons.1 hp with rfl | hp
  ·exact ⟨0,u,rfl,rfl,h1⟩
  ·obtain ⟨j,u',h5,h6,h7⟩:=h4 p hp
   exact ⟨j+1,u',by omega,by simpa using h6,h7⟩
 | .Fp f m::ps,ids,s,x,us,hr=>by
  simp only [aR,List.map_cons,aq] at hr
  obtain ⟨u,iH,rfl,h1,h2⟩:=hr
  obtain ⟨h3,h4⟩:=fQ ps (ids.drop m) (s+1) x iH h2
  refine ⟨by simp [h3],fun p hp => ?_⟩
  simp only [aR] at hp
  rcases List.mem_cons.1 hp with rfl | hp
  ·exact ⟨0,u,rfl,rfl,h1⟩
  ·obtain ⟨j,u',h5,h6,h7⟩:=h4 p hp
   exact ⟨j+1,u',by omega,by simpa using h6,h7⟩
 | .agg m::ps,ids,s,x,us,hr=>by
  simp only [aR,List.map_cons,aq] at hr
  obtain ⟨u,iH,rfl,h1,h2⟩:=hr
  obtain ⟨h3,h4⟩:=fQ ps (ids.drop m) (s+1) x iH h2
  refine ⟨by simp [h3],fun p hp => ?_⟩
  simp only [aR] at hp
  rcases List.mem_cons.1 hp with rfl | hp
  ·exact ⟨0,u,rfl,rfl,h1⟩
  ·obtain ⟨j,u',h5,h6,h7⟩:=h4 p hp
   exact ⟨j+1,u',by omega,by simpa using h6,h7⟩
section
variable {An:FuncId→Nat→Option Shape}
theorem Am(V:Env P Eqs Sg F)(hm:P.follows .mixedOrders=true){f:FuncId}{g:aL}{fn:Func}{y:g.B}{b:Frame}{cs:List Frame}{tf:Act→World→Prop}
  (rL:∀st Z ψ a w,nh P g fn st=some y→Ok Z0 w0 O ψ0 Z ψ st.heap.get w→cO Z ψ st.heap.get w fn.ntmps (look st.tmps) a→tf a w) :
  ∀(n:Nat) (sh:Shape) (c:Code) (k:List Item) (x:sh.T) (Z:Nat→Prop) (ψ:Nat→Value) (a:Act) (w:World),lS P Eqs Sg An F f g fn n sh (.inLoop c::k) x=some y →
   Ok Z0 w0 O ψ0 Z ψ (ar sh x).heap.get w→cO Z ψ (ar sh x).heap.get w fn.ntmps (look (ar sh x).tmps) a→Reach P b cs tf (lone (b.at a (.code c::.inLoop c::k)) cs w)
 | 0,sh,c,k,x,Z,ψ,a,w,hx,_,_=>by simp only [lS] at hx;cases hx
 | n+1,sh,c,k,x,Z,ψ,a,w,hx,ko,t=>by
  simp only [lS] at hx
  exact qm V hm (fun sh c k x Z ψ a w h1 h2 h3=>Am V hm rL n sh c k x Z ψ a w h1 h2 h3) rL fuel _ _ Z ψ a w hx ko t
theorem Ep{n i:Nat}(h:i∈aP n):∃j,j<n∧i=1000+20 * j:=by
 unfold aP at h
 obtain ⟨j,h1,rfl⟩:=List.mem_map.1 h
 exact ⟨j,List.mem_range.1 h1,rfl⟩
theorem Oq{α:Type}{l:List α}{a:α}(h:a∈l):(a,a)∈l.zip l:=by
 induction l with
 | nil=>cases h
 | cons b r ih =>
  simp only [List.zip_cons_cons]
  rcases List.mem_cons.1 h with rfl | h
  ·exact List.mem_cons_self
  ·exact List.mem_cons_of_mem _ (ih h)
theorem IX(V:Env P Eqs Sg F)(hm:P.follows .mixedOrders=true){f:FuncId}{g:aL}{n:Nat}{x:g.A}{y:g.B}(hx:Ie P Eqs Sg An F f g n x=some y):Cg P f g x y:=by
 intro Z ψ0 w jY hg hr
 unfold Ie at hx
 split at hx
 ·cases hx
 rename_i fn c TL
 have hf:P.funcs[f % 1000]? = some fn∧fn.body=some c:=by
  unfold body at TL
  obtain ⟨fn',h1,h2⟩:=Option.bind_eq_some_iff.1 TL
  obtain ⟨c',h3,h4⟩:=Option.map_eq_some_iff.1 h2
  cases h4
  exact ⟨h1,h3⟩
 split at hx
 ·rename_i hle
  simp only [Bool.and_eq_true,decide_eq_true_eq] at hle
  obtain ⟨hlen,U3⟩:=fQ g.ps (aP g.bs.length) 0 x.1 jY hr
  intro cs
  let b:Frame:={ (default:Frame) with fn:=f % 1000,kind:=.normal }
  let a0:Act:={ tmps:=jY.toArray++Array.replicate (fn.ntmps - jY.toArray.size) undef,defers:=[] }
  have U4:Frame.enter P (f % 1000) jY.toArray .normal=b.at a0 [.code c]:=by
   simp [Frame.enter,Frame.at,hf.1,hf.2,b,a0]
  have ok0:Ok Z w (Own ψ0 (oD g x)) ψ0 Z ψ0 (entry g x).heap.get w :=
   ⟨hg,fun _ h=>h,fun _ h=>.inl h,rfl,rfl,rfl,Nat.le_refl _,fun _ _ _=>rfl,fun _ _ _=>rfl⟩
  have tr0:cO Z ψ0 (entry g x).heap.get w fn.ntmps (look (entry g x).tmps) a0:=by
   refine eu (fun p hp => ?_) (by simp [a0];omega) rfl
   obtain ⟨j,u,h1,h2,h3⟩:=U3 p hp
   rw [h1]
   have hj:j<jY.length:=(List.getElem?_eq_some_iff.1 h2).1
   have:a0.tmps.getD (0+j) undef=u:=by
    rw [Nat.zero_add,Array.getD_eq_getD_getElem?]
    simp only [a0]
    rw [Array.getElem?_append_left (by simpa using hj)]
    simp [h2]
   rw [this];exact h3
  have rL:∀st Z1 mY a w1,nh P g fn st=some y→Ok Z w (Own ψ0 (oD g x)) ψ0 Z1 mY st.heap.get w1→cO Z1 mY st.heap.get w1 fn.ntmps (look st.tmps) a →
    a.defers=[]∧∃v,(results fn a.tmps).run P w1=.ok v w1∧∃v' Z' ψ',Ending.returned v=.returned v'∧(∀b,Z b→Z' b)∧(∀b,Z' b→Z b∨Own ψ0 (oD g x) b∨w.heap.size≤b)∧cV ψ0 (oD g x) w w1 ∧
     Good Z' ψ' (jE g y).get w1 w.heap.size (Own ψ0 (oD g x))∧(∀i∈aP g.bs.length,ψ' i=ψ0 i)∧av Z' ψ' (jE g y).get w1 (eJ (aS g.rs (aP g.bs.length) 2000 3000 y.1)) v':=by
   intro st Z1 mY a w1 rL k t
   refine ⟨t.defers,?_⟩
   unfold nh at rL
   split at rL
   ·cases rL
   rename_i vs sO
   split at rL
   ·rename_i y1 y2 hd hb Ci
    cases rL
    simp only [Bool.and_eq_true] at Ci
    obtain ⟨Gf,zZ⟩:=Ci
    obtain ⟨us,v,h1,h2,h3⟩:=Gg (P:=P) k.dQ t sO
    have TK:(aP g.bs.length).length=g.bs.length:=by simp [aP]
    let L:List xk:=cr g.bs st.heap (aP g.bs.length) (aP g.bs.length) 2000 y2++cx g.rs vs 3000 y1
    have eH:dv L=jE g (y1,y2):=by
     show dv (_++_)=_
     rw [ma,iQ _ _ _ _ _ _ hb TK,gh];rfl
    have eN:L.map (·.1)=pT g:=by
     show (_++_:List xk).map _=_
     rw [List.map_append,gI _ _ _ _ _ _ hb TK,fh];rfl
    have eS:L.filterMap (·.2.1)=cU g.bs st.heap (aP g.bs.length)++dC g.rs vs:=by
     show (_++_:List xk).filterMap _=_
     rw [List.filterMap_append,jW _ _ _ _ _ _ hb TK,iv _ _ _ _ hd]
    have hn:b6 (L.map (·.1))=true:=by rw [eN];exact zZ
    have iK:=yw (ψ:=mY) hn
    have hz:∀b,Z1 b→pP Z1 mY st.heap.get (fK g.rs vs++fJ g.bs st.heap (aP g.bs.length)) b:=fun b hb=>.inl hb
    have CV:=(q7 Gf).2 st.heap
    have g':Good (pP Z1 mY st.heap.get (fK g.rs vs++fJ g.bs st.heap (aP g.bs.length))) (ep mY L) (dv L).get w1 w.heap.size (Own ψ0 (oD g x)):=by
     refine vE k.dQ Gf hn eS fun e he => ?_
     rcases List.mem_append.1 he with he | he
     ·exact la k.dQ hz g.bs _ _ 2000 y2 hb (fun id b bI h1 h2=>.inr ⟨id,List.mem_append_right _ bI,h1,h2⟩) (fun s hs=>CV s (List.mem_append_left _ hs)) (fun e he=>iK e (List.mem_append_left _ he)) e he
     ·exact jD g.rs vs 3000 y1 hd (fun s hs=>CV s (List.mem_append_right _ hs)) e he
    obtain ⟨C6,z6⟩:=iR _ _ _ hb
    have Ot:=q8 (ids2:=aP g.bs.length) (Z':=pP Z1 mY st.heap.get (fK g.rs vs++fJ g.bs st.heap (aP g.bs.length))) (ψ':=ep mY L) (h':=(dv L).get) k.dQ hz hb TK (fun e he=>iK e (List.mem_append_left _ he)) g.rs vs 3000 y1 us hd
     (fun id b bI h1 h2=>.inr ⟨id,List.mem_append_left _ bI,h1,h2⟩) (fun e he=>iK e (List.mem_append_right _ he)) h2
    refine ⟨v,h1,v,pP Z1 mY st.heap.get (fK g.rs vs++fJ g.bs st.heap (aP g.bs.length)),ep mY L,rfl,fun b hb=>.inl (k.fw b hb),fun b hb => ?_,⟨k.os,k.tape,k.output,k.size,k.block⟩,by rw [←eH];exact g',fun i hi => ?_,?_⟩
    ·rcases Kj hb with h4 | ⟨id,h4,h5⟩
     ·exact k.dX b h4
     ·exact .inr (k.dQ.live id b h4 h5).2.symm
    ·obtain ⟨o,ho⟩:=jX (hh:=st.heap) g.bs (aP g.bs.length) (aP g.bs.length) 2000 y2 C6 (i,i) (Oq hi)
     rw [iu hn (List.mem_append_left _ ho)]
     obtain ⟨j,h4,h5⟩:=Ep hi
     exact k.fix i (by omega) (z6 i hi)
    ·rw [←eH]
     have Nx:us.length=(aS g.rs (aP g.bs.length) 2000 3000 y1).length:=Ot.length.symm
     rw [h3]
     match hE:aS g.rs (aP g.bs.length) 2000 3000 y1,us,Ot,Nx with
     | [],[],Ot,_=>simp only [eJ];simp only [av];exact ⟨#[],rfl,by simpa using Ot⟩
     | [e1],[u],Ot,_ =>
      simp only [aq] at Ot
      obtain ⟨u',iH,he,h4,_⟩:=Ot
      cases he
      simpa [eJ] using h4
     | e1::e2::er,u1::u2::ur,Ot,_ =>
      simp only [eJ,av]
      exact ⟨(u1::u2::ur).toArray,by simp,by simpa using Ot⟩
   ·cases rL
  have reach:=qm V hm (b:=b) (cs:=cs) (fun sh c k x Z ψ a w h1 h2 h3=>Am V hm rL n sh c k x Z ψ a w h1 h2 h3) rL fuel _ _ Z ψ0 a0 w hx ok0 tr0
  obtain ⟨a',w',todo,⟨hd,v,ye,hR⟩,hs⟩:=reach
  rw [←U4] at hs
  exact ⟨.returned v,w',_,hR,hs,rfl,rfl,hd,rfl,fn,hf.1,ye⟩
 ·cases hx
end
theorem Gh(hX:∀f g u,Sg f=some g→g.x=some u→ia P (f % 1000) u){G:(f:FuncId)→(g:aL)→Option (g.A→Option g.B)}{An:FuncId→Nat→Option Shape}(BZ:∀t k,Eqs t=some k→kZ P t k)(LP:∀f g,Sg f=some g→iS P (f % 1000))(hm:P.follows .mixedOrders=true)
  (hG:∀f g u x y,Sg f=some g→G f g=some u→u x=some y→Cg P f g x y):∀(m:Nat) f g x y,Sg f=some g→Fn P Eqs Sg An G m f g x=some y→Cg P f g x y
 | 0,f,g,x,y,hs,hx=>by
  simp only [Fn] at hx
  split at hx
  ·rename_i u hu;exact hG f g u x y hs hu hx
  ·cases hx
 | m+1,f,g,x,y,hs,hx=>by
  simp only [Fn] at hx
  split at hx
  ·rename_i u hu;exact hG f g u x y hs hu hx
  ·exact IX ⟨BZ,fun f g x y h1 h2=>Gh hX BZ LP hm hG m f g x y h1 h2,hX,LP⟩ hm hx
end Go.Vs
namespace Go.Vs
abbrev FT:=(f:FuncId)→(g:aL)→g.A→Option g.B
variable {P:Program} {Eqs:TypeId→Option K} {Sg:FuncId→Option aL} {R:Type}
def tE(p:Nat→Prop):Prop:=∃m,∀m',m≤m'→p m'
theorem tE.now{p:Nat→Prop}(h:∀m,p m):tE p:=⟨0,fun m _=>h m⟩
theorem tE.and{p q r:Nat→Prop}(h:tE p)(k:tE q)(hr:∀m,p m→q m→r m):tE r:=by
 obtain ⟨a,ha⟩:=h
 obtain ⟨b,hb⟩:=k
 exact ⟨max a b,fun m hm=>hr m (ha m (by omega)) (hb m (by omega))⟩
theorem tE.imp{p r:Nat→Prop}(h:tE p)(hr:∀m,p m→r m):tE r:=by
 obtain ⟨a,ha⟩:=h
 exact ⟨a,fun m hm=>hr m (ha m hm)⟩
def To(A:Nat→FT)(L:FT):Prop:=∀f g x y,L f g x=some y→tE fun m=>A m f g x=some y
def ToK{α:Type}(A:Nat→α→Option R)(L:α→Option R):Prop:=∀x y,L x=some y→tE fun m=>A m x=some y
def ToJ(A:Nat→(sh:Shape)→List Item→sh.T→Option R)(L:(sh:Shape)→List Item→sh.T→Option R):Prop:=∀sh k x y,L sh k x=some y→tE fun m=>A m sh k x=some y
theorem Ou(h:Heap)(id:Nat)(f:FuncId)(vs:List AV):(∀F F':FT,iO Sg F h id f vs some=iO Sg F' h id f vs some) ∨
  ∃ff g x,(∀F F':FT,F ff g x=F' ff g x→iO Sg F h id f vs some=iO Sg F' h id f vs some)∧∀F:FT,F ff g x=none→iO Sg F h id f vs some=none:=by
 unfold iO
 split
 ·exact .inl fun _ _=>rfl
 rename_i g hg
 split
 ·exact .inl fun _ _=>rfl
 split
 ·split
  ·split
   ·rename_i x b hx hb hp
    refine .inr ⟨_,g,(x,b),fun F F' e=>by rw [e],fun F e=>by rw [e];rfl⟩
   ·exact .inl fun _ _=>rfl
  ·split
   ·rename_i x b hx hb hp
    refine .inr ⟨_,g,(x,b),fun F F' e=>by rw [e],fun F e=>by rw [e];rfl⟩
   ·exact .inl fun _ _=>rfl
 ·exact .inl fun _ _=>rfl
theorem RZ{A:Nat→FT}{L:FT}(hA:To A L){h:Heap}{id:Nat}{f:FuncId}{vs:List AV}{e:bA}(he:iO Sg L h id f vs some=some e):tE fun m=>iO Sg (A m) h id f vs some=some e:=by
 rcases Ou (Sg:=Sg) h id f vs with k | ⟨ff,g,x,k1,k2⟩
 ·exact .now fun m=>(k _ _).trans he
 ·cases hy:L ff g x with
  | none=>rw [k2 L hy] at he;cases he
  | some y=>exact (hA _ _ _ _ hy).imp fun m hm=>(k1 (A m) L (hm.trans hy.symm)).trans he
theorem Gi{A:Nat→FT}{L:FT}(hA:To A L){id:Nat}{h:Heap}{s:List (Nat×AV)}{o:Oper}{e:bA}(he:cJ P Eqs Sg L id h s o some=some e):tE fun m=>cJ P Eqs Sg (A m) id h s o some=some e:=by
 obtain ⟨dst,op,type,pos,after,guard⟩:=o
 cases op with
 | call c =>
  obtain ⟨callee,args,argTypes⟩:=c
  cases callee with
  | value f =>
   simp only [cJ] at he
   split at he
   ·rename_i f' cap hf
    refine (RZ hA he).imp fun m hm => ?_
    simp only [cJ,hf]
    exact hm
   ·cases he
  | builtin bi=>cases bi<;>exact .now fun m=>he
  | invoke _ _=>exact .now fun m=>he
 | unOp u _ _=>cases u<;>exact .now fun m=>he
 | makeFunc fn _ _=>cases fn<;>exact .now fun m=>he
 | makeMap _ r=>cases r<;>exact .now fun m=>he
 | next _ b=>cases b<;>exact .now fun m=>he
 | _=>exact .now fun m=>he
theorem tE.all{p:Nat→Nat→Prop}:∀(n:Nat),(∀j,j<n→tE (p j))→tE fun m=>∀j,j<n→p j m
 | 0,_=>.now fun m j hj=>absurd hj (Nat.not_lt_zero _)
 | n+1,h=>(tE.all n fun j hj=>h j (by omega)).and (h n (by omega)) fun m h1 h2 j hj=>by
  by_cases e:j=n
  ·subst e;exact h2
  ·exact h1 j (by omega)
theorem IY{h:Heap}{x:AV}{K:Nat→AV→Heap→Option R}{KL:AV→Heap→Option R}(hK:∀v h y,KL v h=some y→tE fun m=>K m v h=some y){r:R}(he:kB h x KL=some r):tE fun m=>kB h x (K m)=some r:=by
 unfold kB at he ⊢
 split at he
 ·rename_i id
  split at he
  ·rename_i kk vk p hg
   try simp only [hg]
   cases hp:p.2 with
   | nil =>
    simp only [hp,List.isEmpty_nil,cond_true] at he ⊢
    exact hK _ _ _ he
   | cons c l =>
    simp only [hp,List.isEmpty_cons,cond_false] at he ⊢
    have h1:=nt he
    refine (tE.all _ fun j hj => ?_).imp fun m hm=>mi (by simp) hm
    have h2:=h1 j hj
    rw [List.getElem?_eq_getElem hj] at h2 ⊢
    simp only [Option.bind_some] at h2 ⊢
    exact hK _ _ _ h2
  ·cases he
 ·cases he
theorem Ov{h:Heap}{x:AV}{want:Bool}{K:Nat→AV→Option R}{KL:AV→Option R}(hK:∀v y,KL v=some y→tE fun m=>K m v=some y){r:R}(he:tL h x want KL=some r):tE fun m=>tL h x want (K m)=some r:=by
 unfold tL at he ⊢
 split at he
 ·exact hK _ _ he
 ·rename_i xs hv
  cases qT:xs.isEmpty with
  | true =>
   simp only [qT,cond_true] at he ⊢
   have h1:=nt he
   exact (tE.all _ fun j hj=>hK _ _ (h1 j hj)).imp fun m hm=>mi (by decide) hm
  | false =>
   simp only [qT,cond_false] at he ⊢
   exact hK _ _ he
 ·cases he
theorem Ao{A:Nat→FT}{L:FT}(hA:To A L){rid:Nat}{draw:Bool}{ops:Array Oper}{b:Array Nat}{K:Nat→St→Option R}{KL:St→Option R}(hK:ToK K KL) :
  ∀(l:List (Nat×Oper)) (st:St) (r:R),br P Eqs Sg L rid draw ops b l st KL=some r→tE fun m=>br P Eqs Sg (A m) rid draw ops b l st (K m)=some r
 | [],st,r,he=>hK st r (by simpa only [br] using he)
 | (i,o)::l,st,r,he=>by
  have ih:=Ao hA (rid:=rid) (draw:=draw) (ops:=ops) (b:=b) hK l
  have run:∀st:St,(match (if draw then none else oa P (opId rid i) st o) with
    | some dW=>br P Eqs Sg L rid draw ops b l dW KL
    | none=>match (if draw then none else tK o) with
    | some x=>kB st.heap (ρ st.tmps x) fun v h=>br P Eqs Sg L rid draw ops b l (({ st with heap:=h }:St).put o.dst v) KL
    | none=>match (if draw then none else isNil P o) with
    | some (x,want)=>tL st.heap (ρ st.tmps x) want fun v=>br P Eqs Sg L rid draw ops b l (st.put o.dst v) KL
    | none=>if draw then cJ P Eqs Sg L (opId rid i) (gF (ahead rid (b.getD i 0) st.heap) (gG ops b i st.tmps o)) st.tmps o fun e =>
     if (gu true rid ops b i (b.getD i 0) (gx (gG ops b i st.tmps o) (ahead rid (b.getD i 0) st.heap) e)&&mF (gG ops b i st.tmps o) e)=true then
      br P Eqs Sg L rid draw ops b l ({ st with heap:=match gx (gG ops b i st.tmps o) (ahead rid (b.getD i 0) st.heap) e with | .wr _ h=>h | e=>e.h st.heap }.put o.dst e.v) KL else none
     else cJ P Eqs Sg L (opId rid i) st.heap st.tmps o fun e =>
     if gu false rid ops b i (2 ^ i - 1) e then br P Eqs Sg L rid draw ops b l ({ st with heap:=match e with | .wr _ h=>h | e=>e.h st.heap }.put o.dst e.v) KL else none)=some r →
    tE fun m=>(match (if draw then none else oa P (opId rid i) st o) with
    | some dW=>br P Eqs Sg (A m) rid draw ops b l dW (K m)
    | none=>match (if draw then none else tK o) with
    | some x=>kB st.heap (ρ st.tmps x) fun v h=>br P Eqs Sg (A m) rid draw ops b l (({ st with heap:=h }:St).put o.dst v) (K m)
    | none=>match (if draw then none else isNil P o) with
    | some (x,want)=>tL st.heap (ρ st.tmps x) want fun v=>br P Eqs Sg (A m) rid draw ops b l (st.put o.dst v) (K m)
    | none=>if draw then cJ P Eqs Sg (A m) (opId rid i) (gF (ahead rid (b.getD i 0) st.heap) (gG ops b i st.tmps o)) st.tmps o fun e =>
     if (gu true rid ops b i (b.getD i 0) (gx (gG ops b i st.tmps o) (ahead rid (b.getD i 0) st.heap) e)&&mF (gG ops b i st.tmps o) e)=true then
      br P Eqs Sg (A m) rid draw ops b l ({ st with heap:=match gx (gG ops b i st.tmps o) (ahead rid (b.getD i 0) st.heap) e with | .wr _ h=>h | e=>e.h st.heap }.put o.dst e.v) (K m) else none
     else cJ P Eqs Sg (A m) (opId rid i) st.heap st.tmps o fun e =>
     if gu false rid ops b i (2 ^ i - 1) e then br P Eqs Sg (A m) rid draw ops b l ({ st with heap:=match e with | .wr _ h=>h | e=>e.h st.heap }.put o.dst e.v) (K m) else none)=some r:=by
   intro st h
   split at h
   ·rename_i dW ns
    try simp only [ns]
    exact ih _ r h
   rename_i ns
   split at h
   ·rename_i x C0
    try simp only [ns,C0]
    exact IY (fun v h y hy=>ih _ y hy) h
   rename_i C0
   split at h
   ·rename_i x want X7
    try simp only [ns,C0,X7]
    exact Ov (fun v y hy=>ih _ y hy) h
   rename_i X7
   try simp only [ns,C0,X7]
   cases draw with
   | true =>
    simp only [if_true] at h ⊢
    rw [kK] at h
    obtain ⟨e,h1,h2⟩:=Option.bind_eq_some_iff.1 h
    by_cases hc:(gu true rid ops b i (b.getD i 0) (gx (gG ops b i st.tmps o) (ahead rid (b.getD i 0) st.heap) e)&&mF (gG ops b i st.tmps o) e)=true
    ·rw [if_pos hc] at h2
     refine (Gi hA h1).and (ih _ r h2) fun m h3 h4 => ?_
     rw [kK,h3,Option.bind_some,if_pos hc]
     exact h4
    ·rw [if_neg hc] at h2;cases h2
   | false =>
    simp only [Bool.false_eq_true,if_false] at h ⊢
    rw [kK] at h
    obtain ⟨e,h1,h2⟩:=Option.bind_eq_some_iff.1 h
    by_cases hc:gu false rid ops b i (2 ^ i - 1) e=true
    ·rw [if_pos hc] at h2
     refine (Gi hA h1).and (ih _ r h2) fun m h3 h4 => ?_
     rw [kK,h3,Option.bind_some,if_pos hc]
     exact h4
    ·rw [if_neg hc] at h2;cases h2
  simp only [br] at he ⊢
  split at he
  ·rename_i hg
   try simp only [hg]
   exact run _ he
  ·rename_i j want hg
   try simp only [hg]
   split at he
   ·cases he
   ·rename_i d hd
    try simp only [hd]
    split at he
    ·rename_i t ht
     try simp only [ht]
     cases t<;>cases want<;>simp only [cond_true,cond_false,if_true,if_false,Bool.false_eq_true] at he ⊢<;>first | exact run _ he | exact ih _ r he
    ·rename_i ht
     try simp only [ht]
     exact ih _ r he
    ·cases he
theorem Cn{A:Nat→FT}{L:FT}(hA:To A L){n rid:Nat}{ops:Array Oper}{draw:Bool}{K:Nat→St→Option R}{KL:St→Option R}(hK:ToK K KL){st:St}{r:R}
  (he:g8 P Eqs Sg L n rid ops draw st KL=some r):tE fun m=>g8 P Eqs Sg (A m) n rid ops draw st (K m)=some r:=by
 unfold g8 at he ⊢
 by_cases hc:((ops.all fun o=>g6 n o)&&(!draw || (tH ops (if draw then Region.before ops else #[])&&(zk ops (if draw then Region.before ops else #[])&&b6 (ops.toList.filterMap (·.dst)))))&&decide (ops.size≤128))=true
 ·dsimp only at he ⊢
  rw [if_pos hc] at he
  refine (Ao hA hK _ _ r he).imp fun m hm => ?_
  rw [if_pos hc]
  exact hm
 ·dsimp only at he
  rw [if_neg hc] at he;cases he
theorem gj{A:Nat→FT}{L:FT}(hA:To A L){n:Nat}{ann:Nat→Option Shape}{J:Nat→(sh:Shape)→List Item→sh.T→Option R}{JL:(sh:Shape)→List Item→sh.T→Option R}(hJ:ToJ J JL){ret:St→Option R} :
  ∀(fu:Nat) (items:List Item) (st:St) (r:R),ax P Eqs Sg L n ann JL ret fu items st=some r→tE fun m=>ax P Eqs Sg (A m) n ann (J m) ret fu items st=some r
 | 0,items,st,r,he=>by cases items<;>simp only [ax] at he<;>cases he
 | fu+1,[],st,r,he=>.now fun m=>by simpa only [ax] using he
 | fu+1,it::L7,st,r,he=>by
  have ih:=gj hA (n:=n) (ann:=ann) hJ (ret:=ret) fu
  cases it with
  | inBlock id=>simp only [ax] at he ⊢;exact ih _ _ _ he
  | inScope c=>simp only [ax] at he ⊢;exact ih _ _ _ he
  | inLoop c =>
   simp only [ax] at he ⊢
   split at he
   ·cases he
   ·rename_i sh hsh
    try simp only [hsh]
    split at he
    ·rename_i x hx
     try simp only [hx]
     exact hJ _ _ _ _ he
    ·cases he
  | code c =>
   cases c with
   | cond c x y =>
    simp only [ax] at he ⊢
    split at he
    ·rename_i t ht
     try simp only [ht]
     cases t<;>simp only [cond_true,cond_false] at he ⊢<;>exact ih _ _ _ he
    ·cases he
   | exit id =>
    simp only [ax] at he ⊢
    split at he
    ·rename_i k' hk
     try simp only [hk]
     exact ih _ _ _ he
    ·cases he
   | ret=>exact .now fun m=>by simpa only [ax] using he
   | region id ops draw =>
    simp only [ax] at he ⊢
    exact Cn hA (K:=fun m dW=>ax P Eqs Sg (A m) n ann (J m) ret fu L7 dW) (fun st y h=>ih L7 st y h) he
   | skip=>simp only [ax] at he ⊢;exact ih _ _ _ he
   | label l=>simp only [ax] at he ⊢;exact ih _ _ _ he
   | seq x y=>simp only [ax] at he ⊢;exact ih _ _ _ he
   | block id c=>simp only [ax] at he ⊢;exact ih _ _ _ he
   | scope c=>simp only [ax] at he ⊢;exact ih _ _ _ he
   | loop c=>simp only [ax] at he ⊢;exact ih _ _ _ he
   | _=>simp only [ax] at he;cases he
  | _=>simp only [ax] at he;cases he
section
variable {An:FuncId→Nat→Option Shape} {G:(f:FuncId)→(g:aL)→Option (g.A→Option g.B)}
def U5(F F':FT):Prop:=∀f g x y,F f g x=some y→F' f g x=some y
theorem U5.to{F F':FT}(h:U5 F F'):To (fun _=>F') F:=fun f g x y hy=>.now fun _=>h f g x y hy
theorem tE.get{p:Prop}(h:tE fun _=>p):p:=by obtain ⟨m,hm⟩:=h;exact hm m (Nat.le_refl _)
theorem nu{F F':FT}(h:U5 F F'){f:FuncId}{g:aL}{fn:Func}:∀(n n':Nat) (sh:Shape) (k:List Item) (x:sh.T) (y:g.B),n≤n'→lS P Eqs Sg An F f g fn n sh k x=some y→lS P Eqs Sg An F' f g fn n' sh k x=some y
 | 0,_,_,_,_,_,_,hx=>by simp only [lS] at hx;cases hx
 | n+1,0,_,_,_,_,hn,_=>by omega
 | n+1,n'+1,sh,k,x,y,hn,hx=>by
  cases k with
  | nil=>simp only [lS] at hx;cases hx
  | cons it k =>
   cases it with
   | inLoop c =>
    simp only [lS] at hx ⊢
    exact (gj h.to (J:=fun _=>lS P Eqs Sg An F' f g fn n') (JL:=lS P Eqs Sg An F f g fn n) (fun sh k x y hy=>.now fun _=>nu h n n' sh k x y (by omega) hy) _ _ _ _ hx).get
   | _=>simp only [lS] at hx;cases hx
theorem L8{F F':FT}(h:U5 F F'){f:FuncId}{g:aL}{n n':Nat}{x:g.A}{y:g.B}(hn:n≤n')(hx:Ie P Eqs Sg An F f g n x=some y):Ie P Eqs Sg An F' f g n' x=some y:=by
 unfold Ie at hx ⊢
 split at hx
 ·cases hx
 ·rename_i fn c hb
  try simp only [hb]
  split at hx
  ·rename_i hc
   simp only [if_pos hc]
   exact (gj h.to (J:=fun _=>lS P Eqs Sg An F' f g fn n') (JL:=lS P Eqs Sg An F f g fn n) (fun sh k x y hy=>.now fun _=>nu h n n' sh k x y hn hy) _ _ _ _ hx).get
  ·cases hx
theorem yI:∀m,U5 (Fn P Eqs Sg An G m) (Fn P Eqs Sg An G (m+1))
 | 0,f,g,x,y,hx=>by
  simp only [Fn] at hx ⊢
  split at hx
  ·rename_i u hu;(try simp only [hu]);exact hx
  ·cases hx
 | m+1,f,g,x,y,hx=>by
  rw [Fn] at hx ⊢
  split at hx
  ·rename_i u hu;(try simp only [hu]);exact hx
  ·rename_i hu
   try simp only [hu]
   exact L8 (yI m) (Nat.le_succ m) hx
theorem yJ{m m':Nat}(h:m≤m'):U5 (Fn P Eqs Sg An G m) (Fn P Eqs Sg An G m'):=by
 induction h with
 | refl=>exact fun _ _ _ _ h=>h
 | step _ ih=>exact fun f g x y hx=>yI _ f g x y (ih f g x y hx)
variable (P Eqs Sg An G) in
open Classical in
noncomputable def Fix:FT:=fun f g x=>if h:∃m y,Fn P Eqs Sg An G m f g x=some y then some (Classical.choose (Classical.choose_spec h)) else none
theorem Er:To (Fn P Eqs Sg An G) (Fix P Eqs Sg An G):=fun f g x y hy=>by
 unfold Fix at hy
 split at hy
 ·rename_i h
  cases hy
  exact ⟨Classical.choose h,fun m' hm=>yJ hm _ _ _ _ (Classical.choose_spec (Classical.choose_spec h))⟩
 ·cases hy
theorem Ow{m:Nat}{f:FuncId}{g:aL}{x:g.A}{y:g.B}(h:Fn P Eqs Sg An G m f g x=some y):Fix P Eqs Sg An G f g x=some y:=by
 have he:∃m y,Fn P Eqs Sg An G m f g x=some y:=⟨m,y,h⟩
 cases hy:Fix P Eqs Sg An G f g x with
 | none=>unfold Fix at hy;rw [dif_pos he] at hy;cases hy
 | some y' =>
  obtain ⟨m1,h1⟩:=Er f g x y' hy
  have h2:=h1 (max m m1) (by omega)
  have h3:=yJ (show m≤max m m1 by omega) f g x y h
  rw [h2] at h3
  exact h3
variable (P Eqs Sg An G) in
open Classical in
noncomputable def Lp(f:FuncId)(g:aL)(fn:Func)(sh:Shape)(k:List Item)(x:sh.T):Option g.B :=
 if h:∃m y,lS P Eqs Sg An (Fn P Eqs Sg An G m) f g fn m sh k x=some y then some (Classical.choose (Classical.choose_spec h)) else none
theorem Ox{f:FuncId}{g:aL}{fn:Func}:ToJ (fun m=>lS P Eqs Sg An (Fn P Eqs Sg An G m) f g fn m) (Lp P Eqs Sg An G f g fn):=fun sh k x y hy=>by
 unfold Lp at hy
 split at hy
 ·rename_i h
  cases hy
  exact ⟨Classical.choose h,fun m' hm=>nu (yJ hm) _ _ _ _ _ _ hm (Classical.choose_spec (Classical.choose_spec h))⟩
 ·cases hy
theorem Yf{m:Nat}{f:FuncId}{g:aL}{fn:Func}{sh:Shape}{k:List Item}{x:sh.T}{y:g.B}(h:lS P Eqs Sg An (Fn P Eqs Sg An G m) f g fn m sh k x=some y):Lp P Eqs Sg An G f g fn sh k x=some y:=by
 have he:∃m y,lS P Eqs Sg An (Fn P Eqs Sg An G m) f g fn m sh k x=some y:=⟨m,y,h⟩
 cases hy:Lp P Eqs Sg An G f g fn sh k x with
 | none=>unfold Lp at hy;rw [dif_pos he] at hy;cases hy
 | some y' =>
  obtain ⟨m1,h1⟩:=Ox sh k x y' hy
  have h2:=h1 (max m m1) (by omega)
  have h3:=nu (yJ (show m≤max m m1 by omega)) m (max m m1) sh k x y (by omega) h
  exact h2.symm.trans h3
theorem Es{f:FuncId}{g:aL}{x:g.A}{y:g.B}{fn:Func}{c:Code}(hG:G f g=none)(hb:body P (f % 1000)=some (fn,c))(hc:(decide (g.ps.length≤fn.ntmps)&&decide (g.bs.length≤8))=true)
  (h:ax P Eqs Sg (Fix P Eqs Sg An G) fn.ntmps (An f) (Lp P Eqs Sg An G f g fn) (nh P g fn) fuel [.code c] (entry g x)=some y):Fix P Eqs Sg An G f g x=some y:=by
 obtain ⟨m,hm⟩:=gj (Er (P:=P) (Eqs:=Eqs) (Sg:=Sg) (An:=An) (G:=G)) (Ox (f:=f) (g:=g) (fn:=fn)) _ _ _ _ h
 refine Ow (m:=m+1) ?_
 simp only [Fn,hG]
 unfold Ie
 simp only [hb,if_pos hc]
 exact hm m (Nat.le_refl _)
theorem vP{f:FuncId}{g:aL}{x:g.A}{y:g.B}{u:g.A→Option g.B}(hG:G f g=some u)(h:u x=some y):Fix P Eqs Sg An G f g x=some y:=by
 refine Ow (m:=0) ?_
 simp only [Fn,hG]
 exact h
theorem IZ{f:FuncId}{g:aL}{fn:Func}{sh:Shape}{c:Code}{k:List Item}{x:sh.T}{y:g.B}
  (h:ax P Eqs Sg (Fix P Eqs Sg An G) fn.ntmps (An f) (Lp P Eqs Sg An G f g fn) (nh P g fn) fuel (.code c::.inLoop c::k) (ar sh x)=some y):Lp P Eqs Sg An G f g fn sh (.inLoop c::k) x=some y:=by
 obtain ⟨m,hm⟩:=gj (Er (P:=P) (Eqs:=Eqs) (Sg:=Sg) (An:=An) (G:=G)) (Ox (f:=f) (g:=g) (fn:=fn)) _ _ _ _ h
 refine Yf (m:=m+1) ?_
 simp only [lS]
 refine (gj (L:=Fn P Eqs Sg An G m) (U5.to (yI m)) (J:=fun _=>lS P Eqs Sg An (Fn P Eqs Sg An G (m+1)) f g fn m) (JL:=lS P Eqs Sg An (Fn P Eqs Sg An G m) f g fn m) (fun sh k x y hy=>.now fun _=>nu (yI m) m m sh k x y (Nat.le_refl _) hy) _ _ _ _ (hm m (Nat.le_refl _))).get
theorem um(hX:∀f g u,Sg f=some g→g.x=some u→ia P (f % 1000) u)(BZ:∀t k,Eqs t=some k→kZ P t k)(LP:∀f g,Sg f=some g→iS P (f % 1000))(hm:P.follows .mixedOrders=true)
  (hG:∀f g u x y,Sg f=some g→G f g=some u→u x=some y→Cg P f g x y) {f:FuncId} {g:aL} {x:g.A} {y:g.B} (hs:Sg f=some g) (h:Fix P Eqs Sg An G f g x=some y):Cg P f g x y:=by
 obtain ⟨m,RH⟩:=Er f g x y h
 exact Gh hX BZ LP hm hG m f g x y hs (RH m (Nat.le_refl _))
end
end Go.Vs
namespace Go.Vs
open Go.Proofs
abbrev ae:=((Int×Int)×Int)
abbrev ID:=(Int×Int)
abbrev aj:=(ID×((List ae)×(ByteArray×Int)))
abbrev au:=(ID×(ByteArray×Int))
abbrev ai:=((List aj)×(List au))
abbrev aM:=(ae×ae)
abbrev StateT:=(ai×(List aM))
abbrev vf:=(ID×ae)
abbrev bW:=(Int×(ID×(ID×(ID×(vf×(vf×(Bool×(ByteArray×Int))))))))
abbrev aG:=((List aj)×((List au)×((List aM)×Unit)))
abbrev k13:K:=(.pair .str (.int .u64))
abbrev gX:K:=(.pair (.int .i64) (.int .i64))
abbrev k68:K:=(.pair .str (.pair (.int .i64) .bool))
abbrev bg:K:=(.pair gX (.int .i64))
abbrev k7:K:=(.pair (.int .i64) (.pair (.int .i64) (.pair .bool (.int .u8))))
abbrev eU:K:=(.pair gX (.pair .str (.int .i64)))
abbrev Rd:K:=(.pair gX bg)
abbrev di:K:=(.pair bg bg)
abbrev dR:K:=(.pair gX (.pair (.sl bg) (.pair .str (.int .i64))))
abbrev cX:K:=(.pair (.sl dR) (.sl eU))
abbrev kM:K:=(.pair cX (.sl di))
abbrev rM:K:=(.pair (.int .i64) (.pair gX (.pair gX (.pair gX (.pair Rd (.pair Rd (.pair .bool (.pair .str (.int .i64)))))))))
abbrev tg:K:=(.one (.sl rM))
def oI(xs:List aj)(ys:List au):Bool:=decide (xs.length≤50000000)&&(decide (ys.length≤50000000)&&xs.all fun v=>decide (v.2.1.length≤50000000))
def Et(h:Heap)(id:Nat):List AV→Option (Bool×bA)
 | [.agg [.bC a,.bC b]]=>match dG h (.row 48 dR) (.bC a),dG h (.row 56 eU) (.bC b) with
  | some xs,some ys=>if a=b then none else some (oI xs ys,.new (.agg [.bC (id+128),.bC (id+129)]) [(id+128,.own (.row 48 dR) xs),(id+129,.own (.row 56 eU) ys)])
  | _,_=>none
 | _=>none
def sg3:aL:={ ps:=[.val kM,.val rM],bs:=[],rs:=[.val .bool] }
def sg4:aL:={ ps:=[.val (.sl tg),.val gX],bs:=[],rs:=[.val .bool] }
def sg5:aL:={ ps:=[.val (.sl tg),.val bg,.val bg],bs:=[],rs:=[.val .bool] }
def sg6:aL:={ ps:=[.val (.sl tg),.val gX,.val (.int .i64)],bs:=[],rs:=[.val .bool] }
def sg7:aL:={ ps:=[.val (.sl tg),.val gX,.val k68],bs:=[],rs:=[.val .bool] }
def sg8:aL:={ ps:=[.val (.sl tg),.val gX],bs:=[],rs:=[.val .bool] }
def sg9:aL:={ ps:=[.val (.sl tg)],bs:=[],rs:=[.val .bool] }
def lT:aL:={ ps:=[.val (.sl tg)],bs:=[],rs:=[.val .bool] }
def acY:aL:={ ps:=[.val (.sl tg),.val tg],bs:=[],rs:=[.val .bool] }
def Oy:aL:={ ps:=[],bs:=[],rs:=[.val .bool] }
def acZ:aL:={ ps:=[.val kM],bs:=[],rs:=[.val .bool] }
def L9:aL:={ ps:=[.val kM,.val rM],bs:=[],rs:=[.val kM,.val (.int .i64)] }
def ac0:aL:={ ps:=[.val kM,.val rM],bs:=[],rs:=[.val kM,.val (.int .i64)] }
def I0:aL:={ ps:=[.val kM,.val kM],bs:=[],rs:=[.val .bool] }
def ac1:aL:={ ps:=[.val (.sl tg)],bs:=[],rs:=[.val kM] }
def Eu:aL:={ ps:=[.val cX,.val gX],bs:=[],rs:=[.val dR,.val .bool] }
def Ma:aL:={ ps:=[.val gX],bs:=[],rs:=[.val .bool] }
def Ap:aL:={ ps:=[.val cX,.val bg],bs:=[],rs:=[.val gX,.val .bool] }
def Ev:aL:={ ps:=[.val cX,.val gX],bs:=[],rs:=[.val eU,.val .bool] }
def Gj:aL:={ ps:=[.val cX,.val bg],bs:=[],rs:=[.val (.sl bg)] }
def Mb:aL:={ ps:=[.val bg],bs:=[],rs:=[.val bg] }
def Aq:aL:={ ps:=[.val (.sl bg),.val bg],bs:=[],rs:=[.val (.int .i64)] }
def ac2:aL:={ ps:=[.val cX,.val gX,.val gX],bs:=[],rs:=[.val .bool] }
def ac3:aL:={ ps:=[.val (.sl bg),.val bg],bs:=[],rs:=[.val bg,.val .bool] }
def Ar:aL:={ ps:=[.val cX,.val cX],bs:=[],rs:=[.val .bool] }
def yf:aL:={ ps:=[.val .str],bs:=[],rs:=[.val .bool] }
def As:aL:={ ps:=[.val (.int .i64)],bs:=[],rs:=[.val .bool] }
def Gk:aL:={ ps:=[.val kM,.val tg],bs:=[],rs:=[.val kM,.val (.int .i64)] }
def Gl:aL:={ ps:=[.val cX],bs:=[],rs:=[.own (.row 46 (.sl bg))] }
def Gm:aL:={ ps:=[.val cX],bs:=[],rs:=[.val (.int .i64)] }
def I2:aL:={ ps:=[],bs:=[],rs:=[.val kM] }
def Ew:aL:={ ps:=[.val tg],bs:=[],rs:=[.val tg] }
def ac4:aL:={ ps:=[.val kM,.val tg],bs:=[],rs:=[.val kM,.val (.int .i64)] }
def Oz:aL:={ ps:=[.val kM,.val tg],bs:=[],rs:=[.val kM] }
def ac5:aL:={ ps:=[.val kM,.val tg],bs:=[],rs:=[.val kM] }
def Co:aL:={ ps:=[.val cX],bs:=[],rs:=[.agg [.own (.row 48 dR),.own (.row 56 eU)]] }
def vQ:aL:={ ps:=[.val (.sl di)],bs:=[],rs:=[.val .bool] }
def yg:aL:={ ps:=[.val cX],bs:=[],rs:=[.val (.int .i64)] }
def ac6:aL:={ ps:=[.val tg],bs:=[],rs:=[.val (.int .i64)] }
def OC:aL:={ ps:=[.val (.int .i64)],bs:=[],rs:=[.val tg] }
def Cp:aL:={ ps:=[.val rM],bs:=[],rs:=[.val (.int .i64)] }
def Cq:aL:={ ps:=[.val kM,.val (.sl rM)],bs:=[],rs:=[.val kM,.val (.int .i64)] }
def ac7:aL:={ ps:=[.val rM],bs:=[],rs:=[.val (.int .i64)] }
def ac8:aL:={ ps:=[.val cX,.val dR],bs:=[],rs:=[.val cX] }
def ac9:aL:={ ps:=[.val cX,.val gX,.val gX],bs:=[],rs:=[.val cX] }
def ada:aL:={ ps:=[.val kM,.val rM],bs:=[],rs:=[.val kM,.val (.int .i64)] }
def adb:aL:={ ps:=[.val kM,.val rM],bs:=[],rs:=[.val kM,.val (.int .i64)] }
def ade:aL:={ ps:=[.val kM,.val rM],bs:=[],rs:=[.val kM,.val (.int .i64)] }
def adf:aL:={ ps:=[.val kM,.val rM],bs:=[],rs:=[.val kM,.val (.int .i64)] }
def adg:aL:={ ps:=[.val kM,.val rM],bs:=[],rs:=[.val kM,.val (.int .i64)] }
def Ex:aL:={ ps:=[.val (.sl di),.val (.sl di)],bs:=[],rs:=[.val .bool] }
def Mc:aL:={ ps:=[.val cX,.val bg],bs:=[],rs:=[.val bg,.val .bool] }
def Cr:aL:={ ps:=[.val cX,.val gX],bs:=[],rs:=[.val (.int .i64)] }
def rN:aL:={ ps:=[.val cX],bs:=[],rs:=[.own (.row 3 (.int .i64))] }
def Ey:aL:={ ps:=[.val (.sl bg),.val (.sl bg)],bs:=[],rs:=[.val .bool] }
def Ez:aL:={ ps:=[.val tg],bs:=[],rs:=[.val (.int .i64)] }
def EA:aL:={ ps:=[.val cX],bs:=[],rs:=[.own (.row 32 bg)] }
def EB:aL:={ ps:=[.val cX],bs:=[],rs:=[.agg [.own (.row 48 dR),.own (.row 56 eU)]] }
def Gn:aL:={ ps:=[.val (.sl di)],bs:=[],rs:=[.own (.row 103 di)] }
def Md:aL:={ ps:=[.val bg,.val bg],bs:=[],rs:=[.val (.int .i64)] }
def pJ:aL:={ ps:=[.val cX],bs:=[],rs:=[.val (.int .i64)] }
def OD:aL:={ ps:=[.val cX],bs:=[],rs:=[.val (.int .i64)] }
def Gp:aL:={ ps:=[.val rM],bs:=[],rs:=[.val rM,.val (.int .i64)] }
def yh:aL:={ ps:=[.ref,.val rM],bs:=[.box 109 [.own (.row 48 dR),.own (.row 56 eU),.val (.sl di)]],rs:=[.val (.int .i64)] }
def adh:aL:={ ps:=[.val rM],bs:=[],rs:=[.val rM] }
def adi:aL:={ ps:=[.val Rd],bs:=[],rs:=[.val .bool] }
def I3:aL:={ ps:=[.val gX,.val gX],bs:=[],rs:=[.val (.int .i64)] }
def adk:aL:={ ps:=[.val kM,.val Rd],bs:=[],rs:=[.val Rd,.val (.int .i64)] }
def adl:aL:={ ps:=[.val cX,.val eU],bs:=[],rs:=[.val cX] }
def adm:aL:={ ps:=[.val cX,.val Rd,.val bg],bs:=[],rs:=[.val cX] }
def adn:aL:={ ps:=[.val (.sl di),.val di],bs:=[],rs:=[.val (.sl di)] }
def ado:aL:={ ps:=[.val cX,.val bg],bs:=[],rs:=[.val bg] }
def adp:aL:={ ps:=[.val cX,.val bg],bs:=[],rs:=[.val cX] }
def adq:aL:={ ps:=[.val cX,.val bg,.val bg],bs:=[],rs:=[.val cX] }
def Au:aL:={ ps:=[.val (.sl bg)],bs:=[],rs:=[.own (.row 32 bg)] }
def OE:aL:={ ps:=[.val cX,.val bg],bs:=[],rs:=[.val bg,.val .bool] }
def Me:aL:={ ps:=[.val (.sl dR)],bs:=[],rs:=[.own (.row 48 dR)] }
def Mf:aL:={ ps:=[.val (.sl eU)],bs:=[],rs:=[.own (.row 56 eU)] }
def yi:aL:={ ps:=[.val (.sl bg)],bs:=[],rs:=[.own (.row 32 bg)] }
def yj:aL:={ ps:=[.val cX],bs:=[],rs:=[.val (.sl gX)] }
def uo:aL:={ ps:=[.val (.sl gX)],bs:=[],rs:=[.val .bool] }
def kD:aL:={ ps:=[.val cX],bs:=[],rs:=[.val .bool] }
def Gq:aL:={ ps:=[.val cX],bs:=[],rs:=[.val (.int .i64),.val (.int .i64),.val (.int .i64),.val (.int .i64)] }
def qo:aL:={ ps:=[.val gX],bs:=[],rs:=[.val .bool] }
def Cs:aL:={ ps:=[.val Rd],bs:=[],rs:=[.val .bool] }
def vR:aL:={ ps:=[.val .str],bs:=[],rs:=[.val .bool] }
def Gr:aL:={ ps:=[.val (.int .i64)],bs:=[],rs:=[.val .bool] }
def Gs:aL:={ ps:=[.ref,.val dR],bs:=[.box 109 [.own (.row 48 dR),.own (.row 56 eU),.val (.sl di)]],rs:=[.val (.int .i64)] }
def OF:aL:={ ps:=[.ref,.val rM],bs:=[.box 109 [.own (.row 48 dR),.own (.row 56 eU),.val (.sl di)]],rs:=[.val (.int .i64)] }
def oJ:aL:={ ps:=[.ref,.val rM],bs:=[.box 109 [.own (.row 48 dR),.own (.row 56 eU),.val (.sl di)]],rs:=[.val (.int .i64)] }
def Av:aL:={ ps:=[.ref,.val rM],bs:=[.box 109 [.own (.row 48 dR),.own (.row 56 eU),.val (.sl di)]],rs:=[.val (.int .i64)] }
def yk:aL:={ ps:=[.ref,.val rM],bs:=[.box 109 [.own (.row 48 dR),.own (.row 56 eU),.val (.sl di)]],rs:=[.val (.int .i64)] }
def qp:aL:={ ps:=[.ref,.val rM],bs:=[.box 109 [.own (.row 48 dR),.own (.row 56 eU),.val (.sl di)]],rs:=[.val (.int .i64)] }
def OG:aL:={ ps:=[.ref,.val rM],bs:=[.box 109 [.own (.row 48 dR),.own (.row 56 eU),.val (.sl di)]],rs:=[.val (.int .i64)] }
def adr:aL:={ ps:=[.val bg],bs:=[],rs:=[.val .bool] }
def ads:aL:={ ps:=[.val kM,.val bg],bs:=[],rs:=[.val bg] }
def adt:aL:={ ps:=[.val cX,.val gX,.val (.sl bg)],bs:=[],rs:=[.val cX] }
def Yg:aL:={ ps:=[.val (.sl bg),.val bg,.val bg],bs:=[],rs:=[.own (.row 32 bg)] }
def Yh:aL:={ ps:=[.val (.sl di),.val bg],bs:=[],rs:=[.val bg,.val .bool] }
def Yi:aL:={ ps:=[.val (.sl bg),.val bg],bs:=[],rs:=[.own (.row 32 bg)] }
def Yj:aL:={ ps:=[.val (.sl bg),.val bg,.val bg],bs:=[],rs:=[.own (.row 32 bg)] }
def Gt:aL:={ ps:=[.val (.sl bg),.val bg],bs:=[],rs:=[.val bg,.val .bool] }
def nw:aL:={ ps:=[.val cX,.val bg],bs:=[],rs:=[.val (.int .i64)] }
def Gu:aL:={ ps:=[.val bg],bs:=[],rs:=[.val .bool] }
def py:aL:={ ps:=[.ref,.val gX],bs:=[.box 109 [.own (.row 48 dR),.own (.row 56 eU),.val (.sl di)]],rs:=[.val (.int .i64),.val .bool] }
def TM:aL:={ ps:=[],bs:=[],rs:=[],x:=some (Nr 48 dR) }
def TN:aL:={ ps:=[],bs:=[],rs:=[],x:=some (Rs 48 dR) }
def xG:aL:={ ps:=[.ref,.val gX],bs:=[.box 109 [.own (.row 48 dR),.own (.row 56 eU),.val (.sl di)]],rs:=[.val (.int .i64)] }
def Aw:aL:={ ps:=[.val gX],bs:=[],rs:=[.val bg,.val bg] }
def Gv:aL:={ ps:=[.val kM,.val Rd],bs:=[],rs:=[.val Rd,.val (.int .i64)] }
def Ax:aL:={ ps:=[.val (.sl bg),.val bg,.val bg],bs:=[],rs:=[.own (.row 32 bg)] }
def Ay:aL:={ ps:=[.val cX],bs:=[],rs:=[.val .bool] }
def ml:aL:={ ps:=[.ref,.val gX],bs:=[.box 109 [.own (.row 48 dR),.own (.row 56 eU),.val (.sl di)]],rs:=[.val (.int .i64),.val .bool] }
def Az:aL:={ ps:=[.ref,.val bg,.val bg],bs:=[.box 109 [.own (.row 48 dR),.own (.row 56 eU),.val (.sl di)]],rs:=[] }
def AA:aL:={ ps:=[.ref,.val bg],bs:=[.box 109 [.own (.row 48 dR),.own (.row 56 eU),.val (.sl di)]],rs:=[.val bg] }
def lu:aL:={ ps:=[.ref,.val bg],bs:=[.box 109 [.own (.row 48 dR),.own (.row 56 eU),.val (.sl di)]],rs:=[.ed 0 [(0,5,0)]] }
def Gx:aL:={ ps:=[.val (.sl bg),.val bg],bs:=[],rs:=[.own (.row 32 bg)] }
def TO:aL:={ ps:=[],bs:=[],rs:=[],x:=some (Rs 56 eU) }
def ss:aL:={ ps:=[.val (.sl bg),.val bg,.val bg],bs:=[],rs:=[.own (.row 32 bg)] }
def nC:aL:={ ps:=[.val bg],bs:=[],rs:=[.val bg] }
def qq:aL:={ ps:=[.val (.sl bg)],bs:=[],rs:=[.own (.row 32 bg)] }
def Gy:aL:={ ps:=[.ref,.val rM],bs:=[.box 109 [.own (.row 48 dR),.own (.row 56 eU),.val (.sl di)]],rs:=[.ed 0 [(0,5,3),(1,4,2)],.ed 0 [(0,5,4),(1,4,3)]] }
def C7:aL:={ ps:=[.val dR,.val gX],bs:=[],rs:=[.val (.int .i64)] }
def AB:aL:={ ps:=[.val gX,.val gX],bs:=[],rs:=[.val (.int .i64)] }
def TP:aL:={ ps:=[],bs:=[],rs:=[],x:=some (Nr 56 eU) }
def Gz:aL:={ ps:=[.val cX,.val gX],bs:=[],rs:=[.val dR,.val .bool] }
def xH:aL:={ ps:=[.val kM,.val bg],bs:=[],rs:=[.val bg] }
def uq:aL:={ ps:=[.val (.sl bg),.val bg],bs:=[],rs:=[.val .bool] }
def lx:aL:={ ps:=[.val (.sl bg),.val bg],bs:=[],rs:=[.val (.int .i64)] }
def nD:aL:={ ps:=[.val (.sl (.sl bg))],bs:=[],rs:=[.own (.row 32 bg)] }
def GA:aL:={ ps:=[.val cX],bs:=[],rs:=[.val (.int .i64)] }
def C8:aL:={ ps:=[.val eU,.val gX],bs:=[],rs:=[.val (.int .i64)] }
def GB:aL:={ ps:=[.val (.sl di),.val di],bs:=[],rs:=[.own (.row 103 di)] }
def C9:aL:={ ps:=[.val (.sl bg),.val bg],bs:=[],rs:=[.val bg,.val .bool] }
def Da:aL:={ ps:=[.val bg,.val bg],bs:=[],rs:=[.val (.int .i64)] }
def nE:aL:={ ps:=[.val (.sl (.sl bg))],bs:=[],rs:=[.own (.row 32 bg)] }
def uu:aL:={ ps:=[.val (.sl (.int .i64))],bs:=[],rs:=[.val (.int .i64)] }
def AD:aL:={ ps:=[.val (.int .i64),.val (.int .i64)],bs:=[],rs:=[.val (.int .i64)] }
def GC:aL:={ ps:=[.val dR],bs:=[],rs:=[.val gX] }
def ux:aL:={ ps:=[.val cX,.val bg],bs:=[],rs:=[.val gX,.val .bool] }
def GD:aL:={ ps:=[.val (.sl di),.val bg],bs:=[],rs:=[.val bg,.val .bool] }
def GF:aL:={ ps:=[.val cX],bs:=[],rs:=[.val (.int .i64),.val (.int .i64),.val (.int .i64),.val (.int .i64)] }
def Db:aL:={ ps:=[.val di,.val bg],bs:=[],rs:=[.val (.int .i64)] }
def TQ:aL:={ ps:=[],bs:=[],rs:=[],x:=some (Nr 103 di) }
def AE:aL:={ ps:=[.val (.sl bg),.val bg,.val (.int .i64)],bs:=[],rs:=[.val bg,.val .bool] }
def TR:aL:={ ps:=[],bs:=[],rs:=[],x:=some (Ns 32 bg) }
def AF:aL:={ ps:=[.val (.int .i64)],bs:=[],rs:=[.val .bool] }
def GG:aL:={ ps:=[.val di,.ref],bs:=[.box 32 [.val (.int .i64),.val (.int .i64),.val (.int .i64)]],rs:=[.val .bool] }
def GH:aL:={ ps:=[.val dR],bs:=[],rs:=[.val .bool] }
def xI:aL:={ ps:=[.val cX],bs:=[],rs:=[.own (.row 46 (.sl bg))] }
def xJ:aL:={ ps:=[.val cX],bs:=[],rs:=[.val (.int .i64)] }
def uy:aL:={ ps:=[.val cX],bs:=[],rs:=[.own (.row 32 bg)] }
def TS:aL:={ ps:=[.val cX],bs:=[],rs:=[.own (.row 124 (.sl gX))] }
def Dc:aL:={ ps:=[.val cX,.val bg],bs:=[],rs:=[.val bg,.val .bool] }
def gP:aL:={ ps:=[.val cX],bs:=[],rs:=[.own (.row 3 (.int .i64))] }
def xK:aL:={ ps:=[.val cX,.val bg],bs:=[],rs:=[.val bg,.val .bool] }
def GI:aL:={ ps:=[.own,.val (.int .i64),.val (.int .i64)],bs:=[.own (.row 3 (.int .i64))],rs:=[] }
def qu:aL:={ ps:=[.own,.val (.int .i64)],bs:=[.own (.row 3 (.int .i64))],rs:=[.val (.int .i64)] }
def GJ:aL:={ ps:=[.val (.sl bg),.val bg],bs:=[],rs:=[.val bg,.val .bool] }
def iW:aL:={ ps:=[.val (.sl dR),.val gX,.Fp 126 0],bs:=[],rs:=[.val (.int .i64),.val .bool] }
def iX:aL:={ ps:=[.val (.sl eU),.val gX,.Fp 138 0],bs:=[],rs:=[.val (.int .i64),.val .bool] }
def j8:aL:={ ps:=[.val (.sl bg),.Fp 142 0],bs:=[],rs:=[.val bg] }
def j9:aL:={ ps:=[.val (.sl dR),.Fp 150 0,.val gX],bs:=[],rs:=[.val dR,.val .bool] }
def iY:aL:={ ps:=[.val (.sl di),.val bg,.Fp 155 0],bs:=[],rs:=[.val (.int .i64),.val .bool] }
def iZ:aL:={ ps:=[.val (.sl di),.Fp 163 1],bs:=[.box 32 [.val bg]],rs:=[.val (.int .i64)] }
def kb:aL:={ ps:=[.val (.sl dR),.Fp 165 0],bs:=[],rs:=[.val (.int .i64)] }
def GK:aL:={ ps:=[],bs:=[],rs:=[],x:=some Et }
def OH:aL:={ ps:=[],bs:=[],rs:=[] }
def sgs:List (Nat×aL):=[(3,sg3),(4,sg4),(5,sg5),(6,sg6),(7,sg7),(8,sg8),(9,sg9),(10,lT),(11,acY),(12,Oy),(13,acZ),(14,L9),(15,ac0),(16,I0),(17,ac1),(18,Eu),(19,Ma),(20,Ap),(21,Ev),(22,Gj),(23,Mb),(24,Aq),(25,ac2),(26,ac3),(27,Ar),(28,yf),(29,As),(30,Gk),(31,Gl),(32,Gm),(33,I2),(34,Ew),(35,ac4),(36,Oz),(37,ac5),(38,Co),(39,vQ),(40,yg),(41,ac6),(42,OC),(43,Cp),(44,Cq),(45,ac7),(46,ac8),(47,ac9),(48,ada),(49,adb),(50,ade),(51,adf),(52,adg),(53,Ex),(54,Mc),(55,Cr),(56,rN),(57,Ey),(58,Ez),(59,EA),(60,EB),(61,Gn),(62,Md),(63,pJ),(64,OD),(65,Gp),(66,yh),(67,adh),(68,adi),(69,I3),(70,adk),(71,adl),(72,adm),(73,adn),(74,ado),(75,adp),(76,adq),(77,Au),(78,OE),(79,Me),(80,Mf),(81,yi),(82,yj),(83,uo),(84,kD),(85,Gq),(86,qo),(87,Cs),(88,vR),(89,Gr),(90,Gs),(91,OF),(92,oJ),(93,Av),(94,yk),(95,qp),(96,OG),(97,adr),(98,ads),(99,adt),(100,Yg),(101,Yh),(102,Yi),(103,Yj),(104,Gt),(105,nw),(106,Gu),(107,py),(108,TM),(109,TN),(110,xG),(111,Aw),(112,Gv),(113,Ax),(114,Ay),(115,ml),(116,Az),(117,AA),(118,lu),(119,Gx),(120,TO),(121,ss),(122,nC),(123,qq),(124,Gy),(126,C7),(127,AB),(130,TP),(131,Gz),(132,xH),(133,uq),(134,lx),(135,nD),(136,GA),(138,C8),(139,GB),(140,C9),(142,Da),(143,nE),(144,uu),(145,AD),(150,GC),(151,ux),(152,GD),(153,GF),(155,Db),(156,TQ),(157,AE),(158,TR),(159,AF),(163,GG),(165,GH),(166,xI),(167,xJ),(171,uy),(173,TS),(176,Dc),(177,gP),(179,xK),(180,GI),(181,qu),(182,GJ),(127125,iW),(139137,iX),(143141,j8),(151149,j9),(156154,iY),(164162,iZ),(166164,kb),(500060,GK),(900074,OH)]
def Sg(f:FuncId):Option aL:=(sgs.find? (fun p=>p.1==f)).map (fun p=>p.2)
def eqs:List (Nat×K):=[(30,gX),(32,bg),(34,Rd),(36,rM),(56,eU),(103,di)]
def Eqs(t:TypeId):Option K:=(eqs.find? (fun p=>p.1==t)).map (fun p=>p.2)
def Yk:Shape:=⟨[(0,.sl (.one (.sl (.pair (.int .i64) (.pair (.pair (.int .i64) (.int .i64)) (.pair (.pair (.int .i64) (.int .i64)) (.pair (.pair (.int .i64) (.int .i64)) (.pair (.pair (.pair (.int .i64) (.int .i64)) (.pair (.pair (.int .i64) (.int .i64)) (.int .i64))) (.pair (.pair (.pair (.int .i64) (.int .i64)) (.pair (.pair (.int .i64) (.int .i64)) (.int .i64))) (.pair .bool (.pair .str (.int .i64)))))))))))),(3,.bool),(6,.int .i64)],[(.slot 4,20000,.box 28 [.val kM]),(.slot 5,20001,.box 28 [.val kM])],[],[]⟩
def vS:Shape:=⟨[(0,.sl (.one (.sl (.pair (.int .i64) (.pair (.pair (.int .i64) (.int .i64)) (.pair (.pair (.int .i64) (.int .i64)) (.pair (.pair (.int .i64) (.int .i64)) (.pair (.pair (.pair (.int .i64) (.int .i64)) (.pair (.pair (.int .i64) (.int .i64)) (.int .i64))) (.pair (.pair (.pair (.int .i64) (.int .i64)) (.pair (.pair (.int .i64) (.int .i64)) (.int .i64))) (.pair .bool (.pair .str (.int .i64)))))))))))),(3,.bool),(5,.int .i64)],[(.slot 4,20000,.box 28 [.val kM])],[],[]⟩
def U6:Shape:=⟨[(5,.bool),(8,.int .i64),(10,.int .i64),(11,.int .i64)],[(.slot 3,20000,.box 76 [.val tg]),(.slot 6,20001,.box 28 [.val kM]),(.slot 7,20002,.box 28 [.val kM]),(.slot 9,20003,.box 28 [.val kM])],[],[]⟩
def U7:Shape:=⟨[(0,.sl (.one (.sl (.pair (.int .i64) (.pair (.pair (.int .i64) (.int .i64)) (.pair (.pair (.int .i64) (.int .i64)) (.pair (.pair (.int .i64) (.int .i64)) (.pair (.pair (.pair (.int .i64) (.int .i64)) (.pair (.pair (.int .i64) (.int .i64)) (.int .i64))) (.pair (.pair (.pair (.int .i64) (.int .i64)) (.pair (.pair (.int .i64) (.int .i64)) (.int .i64))) (.pair .bool (.pair .str (.int .i64)))))))))))),(4,.int .i64)],[(.slot 2,20000,.box 28 [.val kM]),(.slot 3,20001,.box 28 [.val kM])],[],[]⟩
def AG:Shape:=⟨[(6,.int .i64)],[(.slot 2,20000,.box 25 [.val cX]),(.slot 3,20001,.box 30 [.val gX]),(.slot 4,20002,.box 48 [.val (.int .i64),.val (.int .i64),.own (.row 32 bg),.val .str,.val (.int .i64)])],[],[]⟩
def AH:Shape:=⟨[(6,.int .i64)],[(.slot 2,20000,.box 25 [.val cX]),(.slot 3,20001,.box 32 [.val bg]),(.slot 4,20002,.box 30 [.val gX])],[],[]⟩
def AI:Shape:=⟨[(6,.int .i64)],[(.slot 2,20000,.box 25 [.val cX]),(.slot 3,20001,.box 30 [.val gX]),(.slot 4,20002,.box 56 [.val eU])],[],[]⟩
def AJ:Shape:=⟨[],[(.slot 2,20000,.box 25 [.val cX]),(.slot 3,20001,.box 32 [.val bg]),(.slot 6,20002,.box 32 [.val bg])],[(5,31000,(.row 32 (.pair (.pair (.int .i64) (.int .i64)) (.int .i64))))],[]⟩
def AK:Shape:=⟨[(0,.sl (.pair (.pair (.int .i64) (.int .i64)) (.int .i64))),(5,.int .i64)],[(.slot 3,20000,.box 32 [.val bg])],[],[]⟩
def AL:Shape:=⟨[(5,.int .i64)],[(.slot 2,20000,.box 25 [.val cX]),(.slot 3,20001,.box 25 [.val cX])],[],[]⟩
def AM:Shape:=⟨[(9,.int .i64)],[(.slot 2,20000,.box 25 [.val cX]),(.slot 3,20001,.box 25 [.val cX])],[],[]⟩
def AO:Shape:=⟨[(0,.str),(3,.int .i64)],[],[],[]⟩
def vT:Shape:=⟨[(6,.int .i64)],[(.slot 1,20000,.box 25 [.val cX])],[(3,31000,(.row 46 (.sl (.pair (.pair (.int .i64) (.int .i64)) (.int .i64))))),(4,31001,(.row 32 (.pair (.pair (.int .i64) (.int .i64)) (.int .i64)))),(5,31002,(.row 32 (.pair (.pair (.int .i64) (.int .i64)) (.int .i64))))],[]⟩
def vU:Shape:=⟨[(4,.int .i64),(5,.int .i64)],[],[(3,31000,(.row 3 (.int .i64)))],[]⟩
def U8:Shape:=⟨[(7,.int .i64)],[(.slot 2,20000,.box 28 [.val kM]),(.slot 3,20001,.box 76 [.val tg]),(.slot 4,20002,.box 28 [.own (.row 48 dR),.own (.row 56 eU),.own (.row 103 di)])],[],[]⟩
def AP:Shape:=⟨[(4,.int .i64)],[(.slot 1,20000,.box 25 [.val cX]),(.slot 2,20001,.box 25 [.own (.row 48 dR),.own (.row 56 eU)]),(.slot 3,20002,.box 25 [.own (.row 48 dR),.own (.row 56 eU)])],[],[]⟩
def AQ:Shape:=⟨[(0,.sl (.pair (.pair (.pair (.int .i64) (.int .i64)) (.int .i64)) (.pair (.pair (.int .i64) (.int .i64)) (.int .i64)))),(3,.int .i64)],[],[],[]⟩
def U9:Shape:=⟨[(3,.int .i64)],[(.slot 1,20000,.box 76 [.val tg])],[],[]⟩
def AR:Shape:=⟨[(18,.sl (.pair (.int .i64) (.pair (.pair (.int .i64) (.int .i64)) (.pair (.pair (.int .i64) (.int .i64)) (.pair (.pair (.int .i64) (.int .i64)) (.pair (.pair (.pair (.int .i64) (.int .i64)) (.pair (.pair (.int .i64) (.int .i64)) (.int .i64))) (.pair (.pair (.pair (.int .i64) (.int .i64)) (.pair (.pair (.int .i64) (.int .i64)) (.int .i64))) (.pair .bool (.pair .str (.int .i64)))))))))),(19,.int .i64),(20,.int .i64)],[(.slot 4,20000,.box 28 [.own (.row 48 dR),.own (.row 56 eU),.own (.row 103 di)]),(.slot 6,20001,.box 109 [.own (.row 48 dR),.own (.row 56 eU),.val (.sl di)])],[],[]⟩
def Va:Shape:=⟨[(6,.bool),(7,.int .i64)],[(.slot 2,20000,.box 25 [.val cX]),(.slot 3,20001,.box 48 [.val dR]),(.slot 4,20002,.box 25 [.own (.row 48 dR),.own (.row 56 eU)]),(.slot 5,20003,.box 25 [.own (.row 48 dR),.val (.sl eU)])],[],[]⟩
def Vb:Shape:=⟨[(8,.int .i64)],[(.slot 3,20000,.box 25 [.val cX]),(.slot 4,20001,.box 30 [.val gX]),(.slot 5,20002,.box 30 [.val gX]),(.slot 6,20003,.box 25 [.own (.row 48 dR),.own (.row 56 eU)]),(.slot 7,20004,.box 25 [.own (.row 48 dR),.own (.row 56 eU)])],[],[]⟩
def Vc:Shape:=⟨[(9,.int .i64)],[(.slot 3,20000,.box 25 [.val cX]),(.slot 5,20001,.box 30 [.val gX]),(.slot 6,20002,.box 25 [.own (.row 48 dR),.own (.row 56 eU)]),(.slot 7,20003,.box 25 [.own (.row 48 dR),.own (.row 56 eU)])],[],[]⟩
def Vd:Shape:=⟨[(12,.sl (.pair (.pair (.pair (.int .i64) (.int .i64)) (.int .i64)) (.pair (.pair (.int .i64) (.int .i64)) (.int .i64)))),(13,.int .i64)],[(.slot 4,20000,.box 28 [.own (.row 48 dR),.own (.row 56 eU),.own (.row 103 di)]),(.slot 8,20001,.box 32 [.val bg]),(.slot 9,20002,.box 32 [.val bg]),(.slot 10,20003,.box 32 [.val bg]),(.slot 11,20004,.box 25 [.val cX])],[],[]⟩
def Ve:Shape:=⟨[(7,.bool),(8,.int .i64)],[(.slot 2,20000,.box 28 [.val kM]),(.slot 3,20001,.box 36 [.val rM]),(.slot 4,20002,.box 28 [.own (.row 48 dR),.own (.row 56 eU),.own (.row 103 di)]),(.slot 6,20003,.box 25 [.own (.row 48 dR),.own (.row 56 eU)])],[],[]⟩
def Vf:Shape:=⟨[(7,.bool),(9,.int .i64)],[(.slot 2,20000,.box 28 [.val kM]),(.slot 3,20001,.box 36 [.val rM]),(.slot 4,20002,.box 28 [.own (.row 48 dR),.own (.row 56 eU),.own (.row 103 di)]),(.slot 6,20003,.box 25 [.own (.row 48 dR),.own (.row 56 eU)])],[],[]⟩
def AS:Shape:=⟨[(0,.sl (.pair (.pair (.pair (.int .i64) (.int .i64)) (.int .i64)) (.pair (.pair (.int .i64) (.int .i64)) (.int .i64)))),(1,.sl (.pair (.pair (.pair (.int .i64) (.int .i64)) (.int .i64)) (.pair (.pair (.int .i64) (.int .i64)) (.int .i64)))),(5,.int .i64)],[],[],[]⟩
def AT:Shape:=⟨[(5,.int .i64)],[(.slot 2,20000,.box 25 [.val cX]),(.slot 3,20001,.box 30 [.val gX])],[],[]⟩
def AU:Shape:=⟨[(4,.int .i64)],[(.slot 1,20000,.box 25 [.val cX])],[(3,31000,(.row 3 (.int .i64)))],[]⟩
def vW:Shape:=⟨[(5,.int .i64)],[(.slot 1,20000,.box 25 [.val cX])],[(3,31000,(.row 3 (.int .i64)))],[]⟩
def qv:Shape:=⟨[(5,.int .i64),(6,.int .i64)],[(.slot 1,20000,.box 25 [.val cX])],[(3,31000,(.row 3 (.int .i64)))],[]⟩
def AW:Shape:=⟨[(0,.sl (.pair (.pair (.int .i64) (.int .i64)) (.int .i64))),(1,.sl (.pair (.pair (.int .i64) (.int .i64)) (.int .i64))),(5,.int .i64)],[],[],[]⟩
def AX:Shape:=⟨[(17,.sl (.pair (.int .i64) (.pair (.pair (.int .i64) (.int .i64)) (.pair (.pair (.int .i64) (.int .i64)) (.pair (.pair (.int .i64) (.int .i64)) (.pair (.pair (.pair (.int .i64) (.int .i64)) (.pair (.pair (.int .i64) (.int .i64)) (.int .i64))) (.pair (.pair (.pair (.int .i64) (.int .i64)) (.pair (.pair (.int .i64) (.int .i64)) (.int .i64))) (.pair .bool (.pair .str (.int .i64)))))))))),(18,.int .i64),(19,.int .i64)],[],[],[]⟩
def AY:Shape:=⟨[(4,.int .i64)],[(.slot 1,20000,.box 25 [.val cX])],[(3,31000,(.row 32 (.pair (.pair (.int .i64) (.int .i64)) (.int .i64))))],[]⟩
def AZ:Shape:=⟨[(14,.int .i64),(15,.int .i64)],[(.slot 2,20000,.box 25 [.own (.row 48 dR),.own (.row 56 eU)]),(.slot 3,20001,.box 25 [.own (.row 48 dR),.own (.row 56 eU)])],[],[]⟩
def Vg:Shape:=⟨[(6,.bool),(7,.int .i64)],[(.slot 2,20000,.box 25 [.val cX]),(.slot 3,20001,.box 56 [.val eU]),(.slot 4,20002,.box 25 [.own (.row 48 dR),.own (.row 56 eU)]),(.slot 5,20003,.box 25 [.val (.sl dR),.own (.row 56 eU)])],[],[]⟩
def Vh:Shape:=⟨[(0,.sl (.pair (.pair (.pair (.int .i64) (.int .i64)) (.int .i64)) (.pair (.pair (.int .i64) (.int .i64)) (.int .i64)))),(8,.bool),(9,.int .i64)],[(.slot 3,20000,.box 103 [.val di])],[(7,31000,(.row 103 (.pair (.pair (.pair (.int .i64) (.int .i64)) (.int .i64)) (.pair (.pair (.int .i64) (.int .i64)) (.int .i64)))))],[]⟩
def vX:Shape:=⟨[(0,.sl (.pair (.pair (.int .i64) (.int .i64)) (.int .i64))),(3,.int .i64),(4,.int .i64)],[],[],[]⟩
def A1:Shape:=⟨[(0,.sl (.pair (.pair (.int .i64) (.int .i64)) (.int .i64))),(3,.int .i64),(6,.int .i64)],[],[(5,31000,(.row 32 (.pair (.pair (.int .i64) (.int .i64)) (.int .i64))))],[]⟩
def A2:Shape:=⟨[(4,.int .i64)],[(.slot 1,20000,.box 25 [.val cX])],[(3,31000,(.row 30 (.pair (.int .i64) (.int .i64))))],[]⟩
def vY:Shape:=⟨[(5,.int .i64)],[(.slot 1,20000,.box 25 [.val cX])],[(3,31000,(.row 30 (.pair (.int .i64) (.int .i64))))],[]⟩
def vZ:Shape:=⟨[(0,.sl (.pair (.int .i64) (.int .i64))),(3,.int .i64)],[],[],[]⟩
def th:Shape:=⟨[(3,.int .i64)],[(.slot 1,20000,.box 25 [.val cX])],[],[]⟩
def v5:Shape:=⟨[(3,.int .i64),(4,.sl (.pair (.pair (.int .i64) (.int .i64)) (.int .i64))),(6,.int .i64)],[(.slot 1,20000,.box 25 [.val cX])],[],[]⟩
def v7:Shape:=⟨[(9,.int .i64)],[(.slot 1,20000,.box 25 [.val cX])],[],[]⟩
def ti:Shape:=⟨[(9,.int .i64),(10,.int .i64)],[(.slot 1,20000,.box 25 [.val cX])],[],[]⟩
def wa:Shape:=⟨[(6,.int .i64),(7,.int .i64)],[(.slot 1,20000,.box 25 [.val cX])],[],[]⟩
def wb:Shape:=⟨[(0,.str)],[],[(6,31000,.mZ)],[]⟩
def ly:Shape:=⟨[(48,.int .i64),(49,.int .i64)],[(.slot 0,1000,.box 109 [.own (.row 48 dR),.own (.row 56 eU),.val (.sl di)]),(.slot 5,20001,.box 28 [.val kM]),(.slot 7,20002,.box 32 [.val bg])],[(9,31000,(.row 32 (.pair (.pair (.int .i64) (.int .i64)) (.int .i64)))),(47,31001,(.row 34 (.pair (.pair (.int .i64) (.int .i64)) (.pair (.pair (.int .i64) (.int .i64)) (.int .i64)))))],[]⟩
def EC:Shape:=⟨[(5,.int .i64),(32,.int .i64),(33,.int .i64)],[(.slot 0,1000,.box 109 [.own (.row 48 dR),.own (.row 56 eU),.val (.sl di)]),(.slot 7,20001,.box 32 [.val bg]),(.slot 8,20002,.box 32 [.val bg])],[(31,31000,(.row 32 (.pair (.pair (.int .i64) (.int .i64)) (.int .i64))))],[]⟩
def wc:Shape:=⟨[(5,.int .i64),(47,.int .i64),(48,.int .i64)],[(.slot 0,1000,.box 109 [.own (.row 48 dR),.own (.row 56 eU),.val (.sl di)])],[(46,31000,(.row 32 (.pair (.pair (.int .i64) (.int .i64)) (.int .i64))))],[]⟩
def mQ:Shape:=⟨[(113,.int .i64)],[(.slot 0,1000,.box 109 [.own (.row 48 dR),.own (.row 56 eU),.val (.sl di)]),(.slot 8,20001,.box 32 [.val bg]),(.slot 9,20002,.box 32 [.val bg]),(.slot 10,20003,.box 32 [.val bg])],[],[]⟩
def Vi:Shape:=⟨[(5,.int .i64)],[(.slot 2,20000,.box 28 [.val kM]),(.slot 3,20001,.box 32 [.val bg]),(.slot 4,20002,.box 32 [.val bg])],[],[]⟩
def Vj:Shape:=⟨[(2,.sl (.pair (.pair (.int .i64) (.int .i64)) (.int .i64))),(8,.int .i64)],[(.slot 4,20000,.box 30 [.val gX]),(.slot 6,20001,.box 25 [.own (.row 48 dR),.own (.row 56 eU)]),(.slot 7,20002,.box 25 [.own (.row 48 dR),.own (.row 56 eU)])],[],[]⟩
def R1:Shape:=⟨[(0,.sl (.pair (.pair (.int .i64) (.int .i64)) (.int .i64))),(7,.int .i64),(9,.int .i64)],[(.slot 5,20000,.box 32 [.val bg])],[(8,31000,(.row 32 (.pair (.pair (.int .i64) (.int .i64)) (.int .i64))))],[]⟩
def R4:Shape:=⟨[(0,.sl (.pair (.pair (.pair (.int .i64) (.int .i64)) (.int .i64)) (.pair (.pair (.int .i64) (.int .i64)) (.int .i64)))),(6,.int .i64)],[(.slot 3,20000,.box 32 [.val bg]),(.slot 4,20001,.box 32 [.val bg])],[],[]⟩
def R5:Shape:=⟨[(0,.sl (.pair (.pair (.int .i64) (.int .i64)) (.int .i64))),(6,.int .i64)],[(.slot 3,20000,.box 32 [.val bg])],[(5,31000,(.row 32 (.pair (.pair (.int .i64) (.int .i64)) (.int .i64))))],[]⟩
def rf:Shape:=⟨[(5,.int .i64),(6,.int .i64)],[(.slot 2,20000,.box 25 [.val cX]),(.slot 3,20001,.box 32 [.val bg])],[],[]⟩
def oK:Shape:=⟨[(5,.int .i64),(6,.int .i64),(7,.int .i64)],[(.slot 2,20000,.box 25 [.val cX]),(.slot 3,20001,.box 32 [.val bg])],[],[]⟩
def yK:Shape:=⟨[(7,.int .i64)],[(.slot 0,1000,.box 109 [.own (.row 48 dR),.own (.row 56 eU),.val (.sl di)]),(.slot 3,20001,.box 32 [.val bg]),(.slot 4,20002,.box 32 [.val bg]),(.slot 5,20003,.box 32 [.val bg])],[],[]⟩
def uz:Shape:=⟨[(12,.int .i64),(13,.int .i64)],[(.slot 0,1000,.box 109 [.own (.row 48 dR),.own (.row 56 eU),.val (.sl di)]),(.slot 3,20001,.box 32 [.val bg])],[],[]⟩
def uA:Shape:=⟨[(12,.int .i64),(13,.int .i64)],[(.slot 2,20000,.box 28 [.val kM]),(.slot 3,20001,.box 32 [.val bg]),(.slot 4,20002,.box 32 [.val bg])],[],[]⟩
def uB:Shape:=⟨[(0,.sl (.pair (.pair (.int .i64) (.int .i64)) (.int .i64))),(7,.int .i64),(8,.int .i64)],[(.slot 3,20000,.box 32 [.val bg])],[],[]⟩
def uC:Shape:=⟨[(0,.sl (.sl (.pair (.pair (.int .i64) (.int .i64)) (.int .i64)))),(3,.int .i64),(9,.sl (.sl (.pair (.pair (.int .i64) (.int .i64)) (.int .i64)))),(10,.int .i64),(11,.int .i64)],[],[],[]⟩
def uD:Shape:=⟨[(25,.sl (.sl (.pair (.pair (.int .i64) (.int .i64)) (.int .i64)))),(26,.int .i64),(27,.int .i64)],[],[(6,31000,(.row 32 (.pair (.pair (.int .i64) (.int .i64)) (.int .i64))))],[]⟩
def yL:Shape:=⟨[(3,.int .i64),(6,.sl (.int .i64)),(7,.int .i64),(8,.int .i64)],[],[],[]⟩
def uE:Shape:=⟨[(9,.sl (.pair (.pair (.int .i64) (.int .i64)) (.pair (.sl (.pair (.pair (.int .i64) (.int .i64)) (.int .i64))) (.pair .str (.int .i64))))),(10,.int .i64),(11,.int .i64)],[(.slot 3,20000,.box 32 [.val bg]),(.slot 4,20001,.box 30 [.val gX])],[],[]⟩
def R6:Shape:=⟨[(12,.int .i64),(13,.int .i64)],[(.slot 1,20000,.box 25 [.val cX]),(.slot 4,20001,.box 183 [.own (.map bg .bool)])],[(3,31000,(.row 46 (.sl bg))),(11,31001,(.row 32 (.pair (.pair (.int .i64) (.int .i64)) (.int .i64))))],[]⟩
def uF:Shape:=⟨[(8,.sl (.pair (.pair (.int .i64) (.int .i64)) (.pair .str (.int .i64)))),(9,.int .i64),(10,.int .i64)],[],[(3,31000,(.row 32 bg))],[]⟩
def R7:Shape:=⟨[(11,.int .i64),(12,.int .i64)],[(.slot 1,20000,.box 25 [.val cX])],[(3,31000,(.map (.int .i64) (.int .i64))),(4,31001,(.row 124 (.sl gX))),(10,31002,(.row 3 (.int .i64)))],[]⟩
def rh:Shape:=⟨[(18,.sl (.pair (.pair (.int .i64) (.int .i64)) (.pair (.sl (.pair (.pair (.int .i64) (.int .i64)) (.int .i64))) (.pair .str (.int .i64))))),(19,.int .i64),(20,.int .i64)],[],[(3,31000,(.row 3 (.int .i64))),(4,31001,(.map (.pair (.pair (.int .i64) (.int .i64)) (.int .i64)) (.int .i64)))],[]⟩
def uG:Shape:=⟨[(5,.int .i64),(18,.sl (.pair (.pair (.int .i64) (.int .i64)) (.pair (.sl (.pair (.pair (.int .i64) (.int .i64)) (.int .i64))) (.pair .str (.int .i64))))),(19,.int .i64),(20,.int .i64),(30,.sl (.pair (.pair (.int .i64) (.int .i64)) (.int .i64))),(31,.int .i64),(32,.int .i64)],[],[(3,31000,(.row 3 (.int .i64))),(4,31001,(.map (.pair (.pair (.int .i64) (.int .i64)) (.int .i64)) (.int .i64)))],[]⟩
def oL:Shape:=⟨[(4,.mp (.pair (.pair (.int .i64) (.int .i64)) (.int .i64)) (.int .i64))],[],[(3,31000,(.row 3 (.int .i64))),(42,31001,(.iter (.pair (.pair (.int .i64) (.int .i64)) (.int .i64)) (.int .i64)))],[]⟩
def uH:Shape:=⟨[(61,.int .i64),(62,.int .i64)],[],[(3,31000,(.row 3 (.int .i64))),(13,31001,(.row 3 (.int .i64)))],[]⟩
def uI:Shape:=⟨[(11,.sl (.pair (.pair (.int .i64) (.int .i64)) (.pair (.sl (.pair (.pair (.int .i64) (.int .i64)) (.int .i64))) (.pair .str (.int .i64))))),(12,.int .i64),(13,.int .i64)],[(.slot 3,20000,.box 32 [.val bg]),(.slot 4,20001,.box 32 [.val bg])],[],[]⟩
def ri:Shape:=⟨[(1,.int .i64)],[],[(0,1000,(.row 3 (.int .i64)))],[]⟩
def ig:Shape:=⟨[(0,.sl (.pair (.pair (.int .i64) (.int .i64)) (.pair (.sl (.pair (.pair (.int .i64) (.int .i64)) (.int .i64))) (.pair .str (.int .i64))))),(8,.int .i64),(9,.int .i64),(10,.int .i64)],[(.slot 4,20000,.box 30 [.val gX])],[],[(2,126,[])]⟩
def ij:Shape:=⟨[(0,.sl (.pair (.pair (.int .i64) (.int .i64)) (.pair .str (.int .i64)))),(8,.int .i64),(9,.int .i64),(10,.int .i64)],[(.slot 4,20000,.box 30 [.val gX])],[],[(2,138,[])]⟩
def jF:Shape:=⟨[(0,.sl (.pair (.pair (.int .i64) (.int .i64)) (.int .i64))),(6,.int .i64)],[(.slot 4,20000,.box 32 [.val bg]),(.slot 5,20001,.box 32 [.val bg])],[],[(1,142,[])]⟩
def lz:Shape:=⟨[(11,.sl (.pair (.pair (.int .i64) (.int .i64)) (.pair (.sl (.pair (.pair (.int .i64) (.int .i64)) (.int .i64))) (.pair .str (.int .i64))))),(12,.int .i64),(13,.int .i64)],[(.slot 5,20000,.box 30 [.val gX]),(.slot 6,20001,.box 48 [.val (.int .i64),.val (.int .i64),.own (.row 32 bg),.val .str,.val (.int .i64)])],[],[(1,150,[])]⟩
def il:Shape:=⟨[(0,.sl (.pair (.pair (.pair (.int .i64) (.int .i64)) (.int .i64)) (.pair (.pair (.int .i64) (.int .i64)) (.int .i64)))),(8,.int .i64),(9,.int .i64),(10,.int .i64)],[(.slot 4,20000,.box 32 [.val bg])],[],[(2,155,[])]⟩
def jG:Shape:=⟨[(0,.sl (.pair (.pair (.pair (.int .i64) (.int .i64)) (.int .i64)) (.pair (.pair (.int .i64) (.int .i64)) (.int .i64)))),(7,.int .i64),(8,.int .i64)],[(.cap 1 0,1000,.box 32 [.val bg])],[],[(1,163,[1000])]⟩
def jH:Shape:=⟨[(5,.int .i64),(8,.sl (.pair (.pair (.int .i64) (.int .i64)) (.pair (.sl (.pair (.pair (.int .i64) (.int .i64)) (.int .i64))) (.pair .str (.int .i64))))),(9,.int .i64),(10,.int .i64)],[],[],[(1,165,[])]⟩
def oM:Shape:=⟨[(4,.int .i64),(7,.bool),(8,.bool),(9,.int .i64)],[(.slot 1,20000,.box 25 [.val cX])],[],[]⟩
def oO:Shape:=⟨[(7,.bool),(8,.bool),(10,.int .i64)],[(.slot 1,20000,.box 25 [.val cX])],[],[]⟩
def ans:List (Nat×List (Nat×Shape)):=[(63,[(12,oM),(17,oO)]),(9,[(5,Yk)]),(10,[(4,vS)]),(11,[(8,U6)]),(17,[(3,U7)]),(18,[(2,AG)]),(20,[(2,AH)]),(21,[(2,AI)]),(22,[(6,AJ)]),(24,[(2,AK)]),(27,[(4,AL),(12,AM)]),(28,[(2,AO)]),(31,[(5,vT)]),(32,[(4,vU)]),(35,[(5,U8)]),(38,[(3,AP)]),(39,[(2,AQ)]),(41,[(4,U9)]),(44,[(3,AR)]),(46,[(4,Va)]),(47,[(3,Vb),(8,Vc)]),(51,[(18,Vd)]),(52,[(4,Ve),(12,Vf)]),(53,[(4,AS)]),(55,[(2,AT)]),(56,[(3,AU),(7,vW),(10,qv)]),(57,[(4,AW)]),(58,[(4,AX)]),(59,[(3,AY)]),(60,[(3,AZ)]),(71,[(4,Vg)]),(73,[(7,Vh)]),(77,[(3,vX),(9,A1)]),(82,[(3,A2),(7,vY)]),(83,[(2,vZ)]),(84,[(2,th),(9,v5),(15,v7),(18,ti)]),(85,[(3,wa)]),(88,[(2,wb)]),(92,[(8,ly)]),(93,[(6,EC),(11,wc)]),(95,[(19,mQ)]),(98,[(2,Vi)]),(99,[(3,Vj)]),(100,[(6,R1)]),(101,[(2,R4)]),(102,[(3,R5)]),(105,[(3,rf),(6,oK)]),(117,[(3,yK)]),(118,[(2,uz)]),(132,[(2,uA)]),(134,[(2,uB)]),(143,[(3,uC),(11,uD)]),(144,[(3,yL)]),(151,[(2,uE)]),(166,[(4,R6)]),(171,[(3,uF)]),(173,[(4,R7)]),(177,[(4,rh),(8,uG),(14,oL),(21,uH)]),(179,[(2,uI)]),(181,[(1,ri)]),(127125,[(3,ig)]),(139137,[(3,ij)]),(143141,[(5,jF)]),(151149,[(2,lz)]),(156154,[(3,il)]),(164162,[(2,jG)]),(166164,[(3,jH)])]
def An(f:FuncId)(key:Nat):Option Shape:=(ans.find? (fun p=>p.1==f)).bind fun p=>(p.2.find? (fun q=>q.1==key)).map (fun q=>q.2)
abbrev JT(g:aL):=(sh:Shape)→List Item→sh.T→Option g.B
noncomputable def cC(f:FuncId)(g:aL)(fn:Func)(F:FT)(J:JT g)(x:g.A):Option g.B:=ax Tryz.prog Eqs Sg F fn.ntmps (An f) J (nh Tryz.prog g fn) fuel [.code (fn.body.getD .skip)] (entry g x)
noncomputable def gQ(f j:Nat)(g:aL)(fn:Func)(sh:Shape)(F:FT)(J:JT g)(x:sh.T):Option g.B:=ax Tryz.prog Eqs Sg F fn.ntmps (An f) J (nh Tryz.prog g fn) fuel (round (aX Tryz.prog (f % 1000) j)) (ar sh x)
end Go.Vs
namespace Go.Vs
open Go.Proofs
variable {G:(f:FuncId)→(g:aL)→Option (g.A→Option g.B)}
noncomputable abbrev FX(G:(f:FuncId)→(g:aL)→Option (g.A→Option g.B)):FT:=Fix Tryz.prog Eqs Sg An G
noncomputable abbrev LX(G:(f:FuncId)→(g:aL)→Option (g.A→Option g.B))(f:FuncId)(g:aL)(fn:Func):JT g:=Lp Tryz.prog Eqs Sg An G f g fn
abbrev HG(G:(f:FuncId)→(g:aL)→Option (g.A→Option g.B)):Prop:=∀f g,(f==166 || f==167)=false→G f g=none
theorem aC{f:FuncId}{g:aL}{fn:Func}{x:g.A}{y:g.B}(hG:G f g=none)(hb:body Tryz.prog (f % 1000)=some (fn,fn.body.getD .skip))(hc:(decide (g.ps.length≤fn.ntmps)&&decide (g.bs.length≤8))=true)
  (h:cC f g fn (FX G) (LX G f g fn) x=some y):FX G f g x=some y:=Es hG hb hc h
theorem aw{f j:Nat}{g:aL}{fn:Func}{sh:Shape}{x:sh.T}{y:g.B}(hs:(match aX Tryz.prog (f % 1000) j with | .inLoop _::_=>true | _=>false)=true)
  (h:gQ f j g fn sh (FX G) (LX G f g fn) x=some y):LX G f g fn sh (aX Tryz.prog (f % 1000) j) x=some y:=by
 unfold gQ at h
 generalize aX Tryz.prog (f % 1000) j=s at hs h ⊢
 split at hs
 ·exact IZ h
 ·cases hs
end Go.Vs
