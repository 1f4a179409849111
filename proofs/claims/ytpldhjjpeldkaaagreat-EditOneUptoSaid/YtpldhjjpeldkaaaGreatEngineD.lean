/- The value semantics is sound for whole functions; the signatures of the program. -/
import Derived.Test.YtpldhjjpeldkaaaGreatEngineC
import Derived.Scope
import Derived.Test.YtpldhjjpeldkaaaGreatProg
import Derived.KernelRfl
set_option linter.unusedSimpArgs false
set_option linter.unusedVariables false
namespace Go.Vs
variable {P:Program} {Eqs:TypeId→Option K} {Sg:FuncId→Option aL} {F:(f:FuncId)→(g:aL)→g.A→Option g.B} {R:Type}
variable {Z Z' Z0:Nat→Prop} {ψ ψ' ψ0:Nat→Value} {h h':Hp} {w w' w0:World} {B0:Nat} {O N:Nat→Prop}
def eT(st:St):(l:List (Nat×Nat×OK))→HY (l.map (·.2.2))→List wR
 | [],_=>[]
 | (s,id,ok)::r,x=>(id,(nN (look st.tmps s)).head?,.own ok x.1)::eT st r x.2
theorem uc(st:St):∀(l:List (Nat×Nat×OK)) (x:HY (l.map (·.2.2))),dm (eT st l x)=pP l x
 | [],_=>rfl
 | (s,id,ok)::r,x=>by simp only [eT,pP];rw [←uc st r x.2];rfl
theorem rU(st:St):∀(l:List (Nat×Nat×OK)) (x:HY (l.map (·.2.2))),(eT st l x).map (·.1)=l.map (·.2.1)
 | [],_=>rfl
 | (s,id,ok)::r,x=>by simp only [eT,List.map_cons];rw [rU st r x.2]
theorem w7(st:St):∀(l:List (Nat×Nat×OK)) (x:HY (l.map (·.2.2))),(eT st l x).filterMap (·.2.1)=l.flatMap fun p=>nN (look st.tmps p.1)
 | [],_=>rfl
 | (s,id,ok)::r,x=>by
  simp only [eT,List.flatMap_cons]
  rw [dB,w7 st r x.2]
  simp only []
  rw [vo]
theorem p4{st:St}{s id:Nat}{ok:OK}{r:List (Nat×Nat×OK)}{x:HY (((s,id,ok)::r).map (·.2.2))}(hd:mo st ((s,id,ok)::r)=some x):dD st.heap ok (look st.tmps s)=some x.1∧mo st r=some x.2:=by
 have e:mo st ((s,id,ok)::r)=(match dD st.heap ok (look st.tmps s),mo st r with
  | some x,some y=>some ((x,y):ok.T×HY (r.map (·.2.2)))
  | _,_=>none):=rfl
 rw [e] at hd
 clear e
 generalize dD st.heap ok (look st.tmps s)=o1 at hd ⊢
 generalize mo st r=o2 at hd ⊢
 cases o1 with
 | none=>cases hd
 | some x1 =>
  cases o2 with
  | none=>cases hd
  | some y1=>have:=Option.some.inj hd;subst this;exact ⟨rfl,rfl⟩
theorem z5{hd:Hp}{st:St}:∀(l:List (Nat×Nat×OK)) (x:HY (l.map (·.2.2))),mo st l=some x→(∀s∈(l.flatMap fun p=>nN (look st.tmps p.1)),hd s=st.heap.get s) →
  ∀e∈eT st l x,tT Z ψ hd w h' ψ' e
 | [],_,_,_,e,he=>by simp [eT] at he
 | (s,id,ok)::r,x,hx,hk,e,he=>by
  obtain ⟨h1,h2⟩:=p4 hx
  simp only [List.flatMap_cons] at hk
  simp only [eT] at he
  rcases List.mem_cons.1 he with rfl | he
  ·exact JQ h1 fun s hs=>hk s (List.mem_append_left _ hs)
  ·exact z5 r x.2 h2 (fun s hs=>hk s (List.mem_append_right _ hs)) e he
theorem FM{st:St}{s:Nat}{k:K}{r:List (Nat×K)}{x:E4 (((s,k)::r).map (·.2))}(hd:pN st ((s,k)::r)=some x):fw k st.heap (look st.tmps s)=some x.1∧pN st r=some x.2:=by
 have e:pN st ((s,k)::r)=(match fw k st.heap (look st.tmps s),pN st r with
  | some x,some y=>some ((x,y):k.T×E4 (r.map (·.2)))
  | _,_=>none):=rfl
 rw [e] at hd
 clear e
 generalize fw k st.heap (look st.tmps s)=o1 at hd ⊢
 generalize pN st r=o2 at hd ⊢
 cases o1 with
 | none=>cases hd
 | some x1 =>
  cases o2 with
  | none=>cases hd
  | some y1=>have:=Option.some.inj hd;subst this;exact ⟨rfl,rfl⟩
theorem eu{T:List (Nat×AV)}{n:Nat}{a:Act}(eg:∀p∈T,ax Z ψ h w p.2 (a.tmps.getD p.1 undef))(hs:a.tmps.size=n)(hd:a.defers=[]):cM Z ψ h w n (look T) a:=by
 refine ⟨fun d => ?_,hs,hd⟩
 induction T with
 | nil=>simp only [look,ax]
 | cons p r ih =>
  obtain ⟨i,v⟩:=p
  simp only [look]
  split
  ·rename_i e;subst e;exact eg _ List.mem_cons_self
  ·exact ih fun p hp=>eg p (List.mem_cons_of_mem _ hp)
section
variable {st:St} {n:Nat} {a:Act}
theorem ud(g:Good Z ψ st.heap.get w B0 O)(t:cM Z ψ st.heap.get w n (look st.tmps) a)(hz:∀b,Z b→Z' b):∀(l:List (Nat×K)) (x:E4 (l.map (·.2))),pN st l=some x →
  (∀id b,AV.bF id∈(l.flatMap fun p=>(look st.tmps p.1).cells)→st.heap.get id≠none→ob (ψ id)=some b→Z' b)→∀p∈pO l x,ax Z' ψ' h' w p.2 (a.tmps.getD p.1 undef)
 | [],_,_,_,p,hp=>by simp [pO] at hp
 | (s,k)::r,x,hx,hf,p,hp=>by
  obtain ⟨h1,h2⟩:=FM hx
  simp only [List.flatMap_cons] at hf
  simp only [pO] at hp
  rcases List.mem_cons.1 hp with rfl | hp
  ·exact qM g hz (fun id b bO=>hf id b (List.mem_append_left _ bO)) h1 (t.rep s)
  ·exact ud g t hz r x.2 h2 (fun id b bO=>hf id b (List.mem_append_right _ bO)) p hp
theorem rW(t:cM Z ψ st.heap.get w n (look st.tmps) a):∀(l:List (Src×Nat×BK)) (ids:List Nat),DG st l=some ids→(∀i∈ids,st.heap.get i≠none) →
  (∀p∈ids.zip (l.map (·.2.1)),h' p.2≠none→ψ' p.2=ψ p.1)→∀p∈jl l,ax Z' ψ' h' w p.2 (a.tmps.getD p.1 undef)
 | [],_,_,_,_,p,hp=>by simp [jl] at hp
 | (src,lM,b)::r,ids,hx,hi,iE,p,hp=>by
  simp only [DG] at hx
  split at hx
  ·rename_i i is h1 h2
   cases hx
   simp only [List.map_cons,List.zip_cons_cons] at iE
   have ih:=rW t r is h2 (fun j hj=>hi j (List.mem_cons_of_mem _ hj)) (fun p hp=>iE p (List.mem_cons_of_mem _ hp)) p
   cases src with
   | slot s =>
    simp only [jl] at hp
    rcases List.mem_cons.1 hp with rfl | hp
    ·simp only [S6] at h1
     obtain ⟨sz,h3⟩:=n6 h1
     have h4:=t.rep s
     rw [h3] at h4
     exact ya h4 (hi i List.mem_cons_self) (iE (i,lM) List.mem_cons_self)
    ·exact ih hp
   | cap s j=>exact ih (by simpa only [jl] using hp)
  ·cases hx
theorem FN{hh:Heap}{ids:List (Nat×Nat)}(hi:∀p∈ids,hh.get p.1≠none)(iE:∀p∈ids,h' p.2≠none→ψ' p.2=ψ p.1):∀(cap:List AV) (is BP:List Nat) (vs:List Value),ji cap=some is →
  is.map (fun i=>(ids.find? (·.1==i)).map (·.2))=BP.map some→ao Z ψ hh.get w cap vs→ao Z' ψ' h' w (BP.map fun i=>.ref i 0 0 0) vs
 | [],is,BP,vs,h1,h2,hr=>by
  simp only [ji] at h1
  cases h1
  cases BP with
  | nil=>simpa only [List.map_nil,ao] using hr
  | cons c r=>simp at h2
 | v::cap,is,BP,vs,h1,h2,hr=>by
  simp only [ji] at h1
  split at h1
  ·rename_i i is' h3 h4
   cases h1
   cases BP with
   | nil=>simp at h2
   | cons c r =>
    simp only [List.map_cons,List.cons.injEq] at h2
    obtain ⟨h5,h6⟩:=h2
    simp only [List.map_cons,ao] at hr ⊢
    obtain ⟨u,us,rfl,h7,h8⟩:=hr
    obtain ⟨sz,rfl⟩:=n6 h3
    cases hf:ids.find? (·.1==i) with
    | none=>rw [hf] at h5;cases h5
    | some p =>
     rw [hf] at h5
     have hm:=List.mem_of_find?_eq_some hf
     have he:=List.find?_some hf
     simp only [Option.map_some,Option.some.injEq] at h5
     have Ue:p.1=i:=by simpa using he
     refine ⟨u,us,rfl,ya h7 (by rw [←Ue];exact hi p hm) (fun hn => ?_),FN hi iE cap is' r us h4 h6 h8⟩
     rw [←h5,←Ue];exact iE p hm (by rw [h5];exact hn)
  ·cases h1
theorem w8(t:cM Z ψ st.heap.get w n (look st.tmps) a){ids:List (Nat×Nat)}(hi:∀p∈ids,st.heap.get p.1≠none)(iE:∀p∈ids,h' p.2≠none→ψ' p.2=ψ p.1):∀(l:List (Nat×FuncId×List Nat)),JN st ids l=true →
  ∀p∈xT l,ax Z' ψ' h' w p.2 (a.tmps.getD p.1 undef)
 | [],_,p,hp=>by simp [xT] at hp
 | (s,f,BP)::r,hx,p,hp=>by
  simp only [JN,Bool.and_eq_true] at hx
  simp only [xT,List.map_cons] at hp
  rcases List.mem_cons.1 hp with rfl | hp
  ·have h1:=hx.1
   split at h1
   ·rename_i f' cap hl
    simp only [Bool.and_eq_true,decide_eq_true_eq] at h1
    obtain ⟨rfl,h2⟩:=h1
    split at h2
    ·rename_i is hri
     have h4:=t.rep s
     rw [hl] at h4
     simp only [ax] at h4 ⊢
     obtain ⟨vs,h5,h6⟩:=h4
     exact ⟨vs,h5,FN hi iE cap is BP _ hri (of_decide_eq_true h2) h6⟩
    ·cases h2
   ·cases h1
  ·exact w8 t hi iE r hx.2 p hp
theorem ue(t:cM Z ψ st.heap.get w n (look st.tmps) a):∀(l:List (Nat×Nat×OK)) (x:HY (l.map (·.2.2))),mo st l=some x→(∀e∈eT st l x,h' e.1≠none→ψ' e.1=js ψ e.2.1) →
  ∀p∈(l.map fun p=>(p.1,AV.bF p.2.1)),ax Z' ψ' h' w p.2 (a.tmps.getD p.1 undef)
 | [],_,_,_,p,hp=>by simp at hp
 | (s,id,ok)::r,x,hx,iE,p,hp=>by
  obtain ⟨h1,h2⟩:=p4 hx
  simp only [eT] at iE
  simp only [List.map_cons] at hp
  rcases List.mem_cons.1 hp with rfl | hp
  ·exact DR h1 (t.rep s) (iE _ List.mem_cons_self)
  ·exact ue t r x.2 h2 (fun e he=>iE e (List.mem_cons_of_mem _ he)) p hp
end
theorem uf{st:St}{m:Nat}:∀(l:List (Nat×Nat×OK)) (x:HY (l.map (·.2.2))),mT st m l=true→∃o,(m,some m,o)∈eT st l x
 | [],_,h=>by cases h
 | (s,id,ok)::r,x,h=>by
  simp only [mT,Bool.or_eq_true,Bool.and_eq_true,beq_iff_eq] at h
  rcases h with ⟨rfl,h⟩ | h
  ·split at h
   ·rename_i i hl
    have hi:i=id:=by simpa using h
    subst hi
    exact ⟨_,by simp only [eT,hl,nN,List.head?_cons];exact List.mem_cons_self⟩
   ·cases h
  ·obtain ⟨o,ho⟩:=uf r x.2 h
   exact ⟨o,List.mem_cons_of_mem _ ho⟩
theorem rX{st:St}{m:Nat}:∀(l:List (Nat×Nat×OK)) (x:HY (l.map (·.2.2))),mo st l=some x→mT st m l=true→st.heap.get m≠none
 | [],_,_,h=>by cases h
 | (s,id,ok)::r,x,hx,h=>by
  obtain ⟨h1,h2⟩:=p4 hx
  simp only [mT,Bool.or_eq_true,Bool.and_eq_true,beq_iff_eq] at h
  rcases h with ⟨rfl,h⟩ | h
  ·split at h
   ·rename_i i hl
    have hi:i=id:=by simpa using h
    subst hi
    rw [hl] at h1
    simp only [dD] at h1
    split at h1
    ·rename_i hg;rw [hg];simp
    ·cases h1
   ·cases h
  ·exact rX r x.2 h2 h
theorem JW{ke:List AV}{hh:Heap}{b:Nat}(hb:po Z ψ hh.get ke b):Z b∨Own ψ hh.get b:=hb.imp (fun h=>h) fun ⟨i,_,h2,h3⟩=>⟨i,h2,h3⟩
theorem fJ{sh:Shape}{st:St}{x:sh.T}{n:Nat}{a:Act}(hx:cy sh st=some x)(k:Ok Z0 w0 O ψ0 Z ψ st.heap.get w)(t:cM Z ψ st.heap.get w n (look st.tmps) a) :
  ∃Z' ψ',Ok Z0 w0 O ψ0 Z' ψ' (aq sh x).heap.get w∧cM Z' ψ' (aq sh x).heap.get w n (look (aq sh x).tmps) a:=by
 unfold cy at hx
 split at hx
 ·cases hx
 rename_i ids mu
 split at hx
 ·rename_i xv xb xr hv hb hr BV
  cases hx
  simp only [Bool.and_eq_true] at BV
  obtain ⟨FO,zG,acg,ach⟩:=BV
  obtain ⟨hlen,zJ⟩:=iL _ _ _ hb
  have Tl:(sh.boxes.map (·.2.1)).length=sh.bs.length:=by simp [Shape.bs]
  let L:List wR:=cq sh.bs st.heap ids (sh.boxes.map (·.2.1)) 9000 xb++eT st sh.rows xr
  have eH:dm L=(aq sh (xv,xb,xr)).heap:=by
   show dm (_++_)=_
   rw [lU,iK _ _ _ _ _ _ hb Tl,uc];rfl
  have eN:L.map (·.1)=qG sh:=by
   show (_++_:List wR).map _=_
   rw [List.map_append,gE _ _ _ _ _ _ hb Tl,rU];rfl
  have eS:L.filterMap (·.2.1)=E8 st sh ids:=by
   show (_++_:List wR).filterMap _=_
   rw [List.filterMap_append,jQ _ _ _ _ _ _ hb Tl,w7];rfl
  have hn:b4 (L.map (·.1))=true:=by rw [eN];exact zG
  have iE:=xZ (ψ:=ψ) hn
  have hz:∀b,Z b→po Z ψ st.heap.get (xS st sh ids) b:=fun b hb=>.inl hb
  have HQ:=(qS FO).2 st.heap
  have g':Good (po Z ψ st.heap.get (xS st sh ids)) (ep ψ L) (dm L).get w w0.heap.size O:=by
   refine vp k.dO FO hn eS fun e he => ?_
   rcases List.mem_append.1 he with he | he
   ·exact k9 k.dO hz sh.bs ids _ 9000 xb hb (fun id b bO h1 h2=>.inr ⟨id,List.mem_append_right _ bO,h1,h2⟩) (fun s hs=>HQ s (List.mem_append_left _ hs)) (fun e he=>iE e (List.mem_append_left _ he)) e he
   ·exact z5 sh.rows xr hr (fun s hs=>HQ s (List.mem_append_right _ hs)) e he
  have Ns:∀p∈ids.zip (sh.boxes.map (·.2.1)),(dm L).get p.2≠none→ep ψ L p.2=ψ p.1:=fun p hp bj=>by
   obtain ⟨o,ho⟩:=jR sh.bs ids (sh.boxes.map (·.2.1)) 9000 xb (hh:=st.heap) hlen p hp
   exact iE (p.2,some p.1,o) (List.mem_append_left _ ho) bj
  have vg:∀p∈ids.zip (sh.boxes.map (·.2.1)),st.heap.get p.1≠none:=fun p hp=>zJ _ (List.of_mem_zip hp).1
  refine ⟨po Z ψ st.heap.get (xS st sh ids),ep ψ L,?_,?_⟩
  ·rw [←eH]
   refine ⟨g',fun b hb=>.inl (k.fm b hb),fun b hb => ?_,k.os,k.tape,k.output,k.size,k.block,fun i hi bj => ?_⟩
   ·rcases JW hb with h1 | ⟨id,h1,h2⟩
    ·exact k.dU b h1
    ·exact .inr (k.dO.live id b h1 h2).2.symm
   ·obtain ⟨o,ho⟩:=Option.ne_none_iff_exists'.1 bj
    obtain ⟨s,hm⟩:=mW ho
    have gm:i∈qG sh:=by rw [←eN];exact List.mem_map.2 ⟨_,hm,rfl⟩
    have h1:=List.all_eq_true.1 acg i gm
    simp only [Bool.or_eq_true,decide_eq_true_eq] at h1
    rcases h1 with (h1 | h1) | h1
    ·omega
    ·obtain ⟨p,hp,he⟩:=List.any_eq_true.1 h1
     simp only [Bool.and_eq_true,beq_iff_eq] at he
     have h2:=Ns p hp (by rw [he.2];exact bj)
     rw [he.1,he.2] at h2
     rw [h2]
     exact k.fix i hi (by have:=vg p hp;rwa [he.1] at this)
    ·obtain ⟨o',my⟩:=uf sh.rows xr h1
     have h2:ep ψ L i=ψ i:=iE (i,some i,o') (List.mem_append_right _ my) bj
     rw [h2]
     exact k.fix i hi (rX sh.rows xr hr h1)
  ·rw [←eH]
   refine eu (fun p hp => ?_) t.size t.defers
   simp only [aq] at hp
   rcases List.mem_append.1 hp with hp | hp
   ·exact ud k.dO t hz sh.xx xv hv (fun id b bO h1 h2=>.inr ⟨id,List.mem_append_left _ bO,h1,h2⟩) p hp
   ·rcases List.mem_append.1 hp with hp | hp
    ·exact rW t sh.boxes ids mu zJ Ns p hp
    ·rcases List.mem_append.1 hp with hp | hp
     ·exact w8 t vg Ns sh.fns ach p hp
     ·exact ue t sh.rows xr hr (fun e he=>iE e (List.mem_append_right _ he)) p hp
 ·cases hx
end Go.Vs
namespace Go.Vs
variable {P:Program} {Eqs:TypeId→Option K} {Sg:FuncId→Option aL} {F:(f:FuncId)→(g:aL)→g.A→Option g.B} {R:Type}
variable {Z Z' Z0:Nat→Prop} {ψ ψ' ψ0:Nat→Value} {h h':Hp} {w w' w0:World} {B0:Nat} {O N:Nat→Prop}
def Reach(P:Program)(b:Frame)(cs:List Frame)(sY:Act→World→Prop)(m:Machine):Prop:=∃a' w' todo,sY a' w'∧Steps P m (lone { b.at a' todo with mode:=.returning } cs w')
theorem Reach.head{b:Frame}{cs:List Frame}{sY:Act→World→Prop}{m m':Machine}(h:step P m=.next m')(r:Reach P b cs sY m'):Reach P b cs sY m:=by
 obtain ⟨a,w,todo,h1,h2⟩:=r
 exact ⟨a,w,todo,h1,.head h h2⟩
theorem Reach.steps{b:Frame}{cs:List Frame}{sY:Act→World→Prop}{m m':Machine}(h:Steps P m m')(r:Reach P b cs sY m'):Reach P b cs sY m:=by
 obtain ⟨a,w,todo,h1,h2⟩:=r
 exact ⟨a,w,todo,h1,h.trans h2⟩
theorem p6(V:Env P Eqs Sg F)(hm:P.follows .mixedOrders=true){n:Nat}{ann:Nat→Option Shape}{J:(sh:Shape)→List Item→sh.T→Option R}{ret:St→Option R}{r:R}{b:Frame}{cs:List Frame}{sY:Act→World→Prop}
  (hJ:∀sh c k x Z ψ a w,J sh (.inLoop c::k) x=some r→Ok Z0 w0 O ψ0 Z ψ (aq sh x).heap.get w→cM Z ψ (aq sh x).heap.get w n (look (aq sh x).tmps) a→Reach P b cs sY (lone (b.at a (.code c::.inLoop c::k)) cs w))
  (rz:∀st Z ψ a w,ret st=some r→Ok Z0 w0 O ψ0 Z ψ st.heap.get w→cM Z ψ st.heap.get w n (look st.tmps) a→sY a w) :
  ∀(fu:Nat) (items:List Item) (st:St) (Z:Nat→Prop) (ψ:Nat→Value) (a:Act) (w:World),aA P Eqs Sg F n ann J ret fu items st=some r→Ok Z0 w0 O ψ0 Z ψ st.heap.get w→cM Z ψ st.heap.get w n (look st.tmps) a →
   Reach P b cs sY (lone (b.at a items) cs w)
 | 0,items,st,Z,ψ,a,w,hx,k,t=>by
  cases items<;>simp only [aA] at hx<;>cases hx
 | fu+1,[],st,Z,ψ,a,w,hx,k,t=>⟨a,w,[],rz st Z ψ a w (by simpa only [aA] using hx) k t,.one step_end⟩
 | fu+1,it::Ly,st,Z,ψ,a,w,hx,k,t=>by
  have ih:=p6 V hm (ann:=ann) hJ rz fu
  have loop:∀c,(match ann (qH c) with
    | none=>none
    | some sh=>match cy sh st with
     | some x=>J sh (.inLoop c::Ly) x
     | none=>none)=some r→Reach P b cs sY (lone (b.at a (.code c::.inLoop c::Ly)) cs w):=fun c hx=>by
   split at hx
   ·cases hx
   ·rename_i sh hsh
    split at hx
    ·rename_i x hxx
     obtain ⟨Z',ψ',k',t'⟩:=fJ hxx k t
     exact hJ sh c Ly x Z' ψ' a w hx k' t'
    ·cases hx
  cases it with
  | inBlock id=>exact .head step_inBlock (ih Ly st Z ψ a w (by simpa only [aA] using hx) k t)
  | inScope c=>exact .head step_inScope (ih Ly st Z ψ a w (by simpa only [aA] using hx) k t)
  | inLoop c=>exact .head step_inLoop (loop c (by simp only [aA] at hx;exact hx))
  | code c =>
   cases c with
   | skip=>exact .head step_skip (ih Ly st Z ψ a w (by simpa only [aA] using hx) k t)
   | label l=>exact .head step_label (ih Ly st Z ψ a w (by simpa only [aA] using hx) k t)
   | seq x y=>exact .head step_seq (ih _ st Z ψ a w (by simpa only [aA] using hx) k t)
   | cond c x y =>
    simp only [aA] at hx
    split at hx
    ·rename_i tt ht
     have h1:=pY t c
     rw [ht] at h1
     simp only [ax] at h1
     cases tt with
     | true=>exact .head (step_cond h1) (ih _ st Z ψ a w hx k t)
     | false=>exact .head (step_cond h1) (ih _ st Z ψ a w hx k t)
    ·cases hx
   | scope c=>exact .head step_scope (ih _ st Z ψ a w (by simpa only [aA] using hx) k t)
   | block id c=>exact .head step_block (ih _ st Z ψ a w (by simpa only [aA] using hx) k t)
   | loop c =>
    simp only [aA] at hx
    cases fu with
    | zero=>simp only [aA] at hx;cases hx
    | succ fu=>exact .head step_loop (loop c (by simp only [aA] at hx;exact hx))
   | exit id =>
    simp only [aA] at hx
    split at hx
    ·rename_i k' hk;exact .head (step_exit hk) (ih _ st Z ψ a w hx k t)
    ·cases hx
   | ret=>exact ⟨a,w,_,rz st Z ψ a w (by simpa only [aA] using hx) k t,.one step_ret⟩
   | region id ops draw =>
    simp only [aA] at hx
    have hw:=D5 V hm (Q:=fun e a w=>e=.normal∧∃dS Z ψ,aA P Eqs Sg F n ann J ret fu Ly dS=some r∧Ok Z0 w0 O ψ0 Z ψ dS.heap.get w∧cM Z ψ dS.heap.get w n (look dS.tmps) a) hx k t (fun dS Z ψ a w h1 h2 h3=>⟨rfl,dS,Z,ψ,h1,h2,h3⟩)
    obtain ⟨e,a',w',⟨rfl,dS,Z',ψ',h1,h2,h3⟩,Nr⟩:=hw b Ly cs
    exact .steps Nr (ih Ly dS Z' ψ' a' w' h1 h2 h3)
   | _=>simp only [aA] at hx;cases hx
  | _=>simp only [aA] at hx;cases hx
theorem p7{hh:Heap}{n:Nat}{s:List (Nat×AV)}{a:Act}(g:Good Z ψ hh.get w B0 O)(t:cM Z ψ hh.get w n (look s) a):∀(l:List ResultVar) (acc:Array Value) (vs:List AV),wI P hh s l=some vs →
  ∃us,(l.foldlM (fun (bs:Array Value) r=>do let y ←(match r with | .tmp t=>pure (a.tmps.getD t undef) | .cell p ty=>do loadVar ty (←asAddr (a.tmps.getD p undef)):Sem Value);pure (bs.push y)) acc:Sem (Array Value)).run P w=.ok (acc++us.toArray) w∧ao Z ψ hh.get w vs us
 | [],acc,vs,hx=>by
  simp only [wI] at hx
  cases hx
  exact ⟨[],by simp,by simp only [ao]⟩
 | .tmp d::l,acc,vs,hx=>by
  simp only [wI] at hx
  split at hx
  ·rename_i gF h1
   cases hx
   obtain ⟨us,h2,h3⟩:=p7 g t l (acc.push (a.tmps.getD d undef)) gF h1
   refine ⟨a.tmps.getD d undef::us,?_,by simp only [ao];exact ⟨_,_,rfl,t.rep d,h3⟩⟩
   simp only [List.foldlM_cons,Sem.run_bind,Sem.run_pure,Result.andThen_ok]
   rw [h2];simp
  ·cases hx
 | .cell d ty::l,acc,vs,hx=>by
  simp only [wI] at hx
  split at hx
  ·rename_i id sz off hd
   split at hx
   ·rename_i bt cs hg
    split at hx
    ·rename_i v gF hv h1
     cases hx
     have h4:=t.rep d
     rw [hd] at h4
     simp only [ax] at h4
     obtain ⟨ad,h5,h6⟩:=h4
     obtain ⟨gg,ws,e1,e2,e3,e4⟩:=g.box id bt cs hg
     have h7:=h6 (by rw [hg];simp)
     rw [e1] at h7
     simp only [Rh,Nat.zero_mul,Nat.zero_add] at h7
     subst h7
     obtain ⟨V,h8,h9⟩:=jn (a:=⟨gg,off,none⟩) (e3.drop off) (fun j u hu=>by
      rw [cf];simp only [World.cell?,e2];rw [List.getElem?_drop] at hu;simpa using hu) hv
     have mr:(loadVar ty ⟨gg,off,none⟩).run P w=.ok V w:=by
      have:=h8
      simpa [Instr.loadAt,Instr.sureAddr] using this
     obtain ⟨us,h2,h3⟩:=p7 g t l (acc.push V) gF h1
     refine ⟨V::us,?_,by simp only [ao];exact ⟨_,_,rfl,h9,h3⟩⟩
     have xy:(asAddr (a.tmps.getD d undef)).run P w=.ok ⟨gg,off,none⟩ w:=by rw [h5];rfl
     simp only [List.foldlM_cons,Sem.run_bind,xy,Sem.run_pure,Result.andThen_ok,mr]
     rw [h2];simp
    ·cases hx
   ·cases hx
  ·cases hx
theorem FP{fn:Func}{hh:Heap}{n:Nat}{s:List (Nat×AV)}{a:Act}{vs:List AV}(g:Good Z ψ hh.get w B0 O)(t:cM Z ψ hh.get w n (look s) a)(hx:wI P hh s fn.results.toList=some vs) :
  ∃us v,(results fn a.tmps).run P w=.ok v w∧ao Z ψ hh.get w vs us∧v=(if us.length=1 then us.headD undef else .tuple us.toArray):=by
 obtain ⟨us,h1,h2⟩:=p7 (P:=P) g t fn.results.toList #[] vs hx
 refine ⟨us,_,?_,h2,rfl⟩
 have h3:(fn.results.mapM fun r=>(match r with | .tmp t=>pure (a.tmps.getD t undef) | .cell p ty=>do loadVar ty (←asAddr (a.tmps.getD p undef)):Sem Value)).run P w=.ok us.toArray w:=by
  rw [Array.mapM_eq_foldlM,←Array.foldlM_toList]
  simpa using h1
 have h4:results fn a.tmps=(do
   let vs ←fn.results.mapM fun r=>(match r with | .tmp t=>pure (a.tmps.getD t undef) | .cell p ty=>do loadVar ty (←asAddr (a.tmps.getD p undef)):Sem Value)
   pure (if h:vs.size=1 then vs[0] else .tuple vs)):=rfl
 rw [h4,Sem.run_bind,h3,Result.andThen_ok,Sem.run_pure]
 congr 1
 by_cases h5:us.length=1
 ·obtain ⟨u,rfl⟩:=List.length_eq_one_iff.1 h5
  simp
 ·rw [dif_neg (by simpa using h5),if_neg h5]
end Go.Vs
namespace Go.Vs
variable {P:Program} {Eqs:TypeId→Option K} {Sg:FuncId→Option aL} {F:(f:FuncId)→(g:aL)→g.A→Option g.B} {R:Type}
variable {Z Z' Z0:Nat→Prop} {ψ ψ' ψ0:Nat→Value} {h h':Hp} {w w' w0:World} {B0:Nat} {O N:Nat→Prop}
theorem fK:∀(ps:List PK) (ids:List Nat) (s:Nat) (x:E4 (kg ps)) (us:List Value),ao Z ψ h w ((aQ ps ids s x).map (·.2)) us→us.length=ps.length∧∀p∈aQ ps ids s x,∃j u,p.1=s+j∧us[j]? = some u∧ax Z ψ h w p.2 u
 | [],ids,s,x,us,hr=>by
  simp only [aQ,List.map_nil,ao] at hr
  subst hr
  exact ⟨rfl,fun p hp=>by simp [aQ] at hp⟩
 | .val k::ps,ids,s,x,us,hr=>by
  simp only [aQ,List.map_cons,ao] at hr
  obtain ⟨u,iB,rfl,h1,h2⟩:=hr
  obtain ⟨h3,h4⟩:=fK ps ids (s+1) x.2 iB h2
  refine ⟨by simp [h3],fun p hp => ?_⟩
  simp only [aQ] at hp
  rcases List.mem_cons.1 hp with rfl | hp
  ·exact ⟨0,u,rfl,rfl,h1⟩
  ·obtain ⟨j,u',h5,h6,h7⟩:=h4 p hp
   exact ⟨j+1,u',by omega,by simpa using h6,h7⟩
 | .ref::ps,i::ids,s,x,us,hr=>by
  simp only [aQ,List.map_cons,ao] at hr
  obtain ⟨u,iB,rfl,h1,h2⟩:=hr
  obtain ⟨h3,h4⟩:=fK ps ids (s+1) x iB h2
  refine ⟨by simp [h3],fun p hp => ?_⟩
  simp only [aQ] at hp
  rcases List.mem_cons.1 hp with rfl | hp
  ·exact ⟨0,u,rfl,rfl,h1⟩
  ·obtain ⟨j,u',h5,h6,h7⟩:=h4 p hp
   exact ⟨j+1,u',by omega,by simpa using h6,h7⟩
 | .ref::ps,[],s,x,us,hr=>by
  simp only [aQ,List.map_cons,ao] at hr
  obtain ⟨u,iB,rfl,h1,h2⟩:=hr
  obtain ⟨h3,h4⟩:=fK ps [] (s+1) x iB h2
  refine ⟨by simp [h3],fun p hp => ?_⟩
  simp only [aQ] at hp
  rcases List.mem_cons.1 hp with rfl | hp
  ·exact ⟨0,u,rfl,rfl,h1⟩
  ·obtain ⟨j,u',h5,h6,h7⟩:=h4 p hp
   exact ⟨j+1,u',by omega,by simpa using h6,h7⟩
 | .own::ps,i::ids,s,x,us,hr=>by
  simp only [aQ,List.map_cons,ao] at hr
  obtain ⟨u,iB,rfl,h1,h2⟩:=hr
  obtain ⟨h3,h4⟩:=fK ps ids (s+1) x iB h2
  refine ⟨by simp [h3],fun p hp => ?_⟩
  simp only [aQ] at hp
  rcases List.mem_cons.1 hp with rfl | hp
  ·exact ⟨0,u,rfl,rfl,h1⟩
  ·obtain ⟨j,u',h5,h6,h7⟩:=h4 p hp
   exact ⟨j+1,u',by omega,by simpa using h6,h7⟩
 | .own::ps,[],s,x,us,hr=>by
  simp only [aQ,List.map_cons,ao] at hr
  obtain ⟨u,iB,rfl,h1,h2⟩:=hr
  obtain ⟨h3,h4⟩:=fK ps [] (s+1) x iB h2
  refine ⟨by simp [h3],fun p hp => ?_⟩
  simp only [aQ] at hp
  rcases List.mem_cons.1 hp with rfl | hp
  ·exact ⟨0,u,rfl,rfl,h1⟩
  ·obtain ⟨j,u',h5,h6,h7⟩:=h4 p hp
   exact ⟨j+1,u',by omega,by simpa using h6,h7⟩
 | .E3 f m::ps,ids,s,x,us,hr=>by
  simp only [aQ,List.map_cons,ao] at hr
  obtain ⟨u,iB,rfl,h1,h2⟩:=hr
  obtain ⟨h3,h4⟩:=fK ps (ids.drop m) (s+1) x iB h2
  refine ⟨by simp [h3],fun p hp => ?_⟩
  simp only [aQ] at hp
  rcases List.mem_cons.1 hp with rfl | hp
  ·exact ⟨0,u,rfl,rfl,h1⟩
  ·obtain ⟨j,u',h5,h6,h7⟩:=h4 p hp
   exact ⟨j+1,u',by omega,by simpa using h6,h7⟩
 | .agg m::ps,ids,s,x,us,hr=>by
  simp only [aQ,List.map_cons,ao] at hr
  obtain ⟨u,iB,rfl,h1,h2⟩:=hr
  obtain ⟨h3,h4⟩:=fK ps (ids.drop m) (s+1) x iB h2
  refine ⟨by simp [h3],fun p hp => ?_⟩
  simp only [aQ] at hp
  rcases List.mem_cons.1 hp with rfl | hp
  ·exact ⟨0,u,rfl,rfl,h1⟩
  ·obtain ⟨j,u',h5,h6,h7⟩:=h4 p hp
   exact ⟨j+1,u',by omega,by simpa using h6,h7⟩
section
variable {An:FuncId→Nat→Option Shape}
theorem z6(V:Env P Eqs Sg F)(hm:P.follows .mixedOrders=true){f:FuncId}{g:aL}{fn:Func}{y:g.B}{b:Frame}{cs:List Frame}{sY:Act→World→Prop}
  (rz:∀st Z ψ a w,pQ P g fn st=some y→Ok Z0 w0 O ψ0 Z ψ st.heap.get w→cM Z ψ st.heap.get w fn.ntmps (look st.tmps) a→sY a w) :
  ∀(n:Nat) (sh:Shape) (c:Code) (k:List Item) (x:sh.T) (Z:Nat→Prop) (ψ:Nat→Value) (a:Act) (w:World),lN P Eqs Sg An F f g fn n sh (.inLoop c::k) x=some y →
   Ok Z0 w0 O ψ0 Z ψ (aq sh x).heap.get w→cM Z ψ (aq sh x).heap.get w fn.ntmps (look (aq sh x).tmps) a→Reach P b cs sY (lone (b.at a (.code c::.inLoop c::k)) cs w)
 | 0,sh,c,k,x,Z,ψ,a,w,hx,_,_=>by simp only [lN] at hx;cases hx
 | n+1,sh,c,k,x,Z,ψ,a,w,hx,ko,t=>by
  simp only [lN] at hx
  exact p6 V hm (fun sh c k x Z ψ a w h1 h2 h3=>z6 V hm rz n sh c k x Z ψ a w h1 h2 h3) rz fuel _ _ Z ψ a w hx ko t
theorem D6{n i:Nat}(h:i∈aP n):∃j,j<n∧i=1000+20 * j:=by
 unfold aP at h
 obtain ⟨j,h1,rfl⟩:=List.mem_map.1 h
 exact ⟨j,List.mem_range.1 h1,rfl⟩
theorem NS{α:Type}{l:List α}{a:α}(h:a∈l):(a,a)∈l.zip l:=by
 induction l with
 | nil=>cases h
 | cons b r ih =>
  simp only [List.zip_cons_cons]
  rcases List.mem_cons.1 h with rfl | h
  ·exact List.mem_cons_self
  ·exact List.mem_cons_of_mem _ (ih h)
theorem II(V:Env P Eqs Sg F)(hm:P.follows .mixedOrders=true){f:FuncId}{g:aL}{n:Nat}{x:g.A}{y:g.B}(hx:HZ P Eqs Sg An F f g n x=some y):CB P f g x y:=by
 intro Z ψ0 w jS hg hr
 unfold HZ at hx
 split at hx
 ·cases hx
 rename_i fn c Tn
 have hf:P.funcs[f % 1000]? = some fn∧fn.body=some c:=by
  unfold body at Tn
  obtain ⟨fn',h1,h2⟩:=Option.bind_eq_some_iff.1 Tn
  obtain ⟨c',h3,h4⟩:=Option.map_eq_some_iff.1 h2
  cases h4
  exact ⟨h1,h3⟩
 split at hx
 ·rename_i hle
  simp only [Bool.and_eq_true,decide_eq_true_eq] at hle
  obtain ⟨hlen,UD⟩:=fK g.ps (aP g.bs.length) 0 x.1 jS hr
  intro cs
  let b:Frame:={ (default:Frame) with fn:=f % 1000,kind:=.normal }
  let a0:Act:={ tmps:=jS.toArray++Array.replicate (fn.ntmps - jS.toArray.size) undef,defers:=[] }
  have UE:Frame.enter P (f % 1000) jS.toArray .normal=b.at a0 [.code c]:=by
   simp [Frame.enter,Frame.at,hf.1,hf.2,b,a0]
  have ok0:Ok Z w (Own ψ0 (og g x)) ψ0 Z ψ0 (entry g x).heap.get w :=
   ⟨hg,fun _ h=>h,fun _ h=>.inl h,rfl,rfl,rfl,Nat.le_refl _,fun _ _ _=>rfl,fun _ _ _=>rfl⟩
  have tr0:cM Z ψ0 (entry g x).heap.get w fn.ntmps (look (entry g x).tmps) a0:=by
   refine eu (fun p hp => ?_) (by simp [a0];omega) rfl
   obtain ⟨j,u,h1,h2,h3⟩:=UD p hp
   rw [h1]
   have hj:j<jS.length:=(List.getElem?_eq_some_iff.1 h2).1
   have:a0.tmps.getD (0+j) undef=u:=by
    rw [Nat.zero_add,Array.getD_eq_getD_getElem?]
    simp only [a0]
    rw [Array.getElem?_append_left (by simpa using hj)]
    simp [h2]
   rw [this];exact h3
  have rz:∀st Z1 mN a w1,pQ P g fn st=some y→Ok Z w (Own ψ0 (og g x)) ψ0 Z1 mN st.heap.get w1→cM Z1 mN st.heap.get w1 fn.ntmps (look st.tmps) a →
    a.defers=[]∧∃v,(results fn a.tmps).run P w1=.ok v w1∧∃v' Z' ψ',Ending.returned v=.returned v'∧(∀b,Z b→Z' b)∧(∀b,Z' b→Z b∨Own ψ0 (og g x) b∨w.heap.size≤b)∧cT ψ0 (og g x) w w1 ∧
     Good Z' ψ' (jv g y).get w1 w.heap.size (Own ψ0 (og g x))∧(∀i∈aP g.bs.length,ψ' i=ψ0 i)∧ax Z' ψ' (jv g y).get w1 (eI (aR g.rs (aP g.bs.length) 2000 3000 y.1)) v':=by
   intro st Z1 mN a w1 rz k t
   refine ⟨t.defers,?_⟩
   unfold pQ at rz
   split at rz
   ·cases rz
   rename_i vs sH
   split at rz
   ·rename_i y1 y2 hd hb BV
    cases rz
    simp only [Bool.and_eq_true] at BV
    obtain ⟨FO,zG⟩:=BV
    obtain ⟨us,v,h1,h2,h3⟩:=FP (P:=P) k.dO t sH
    have Tl:(aP g.bs.length).length=g.bs.length:=by simp [aP]
    let L:List wR:=cq g.bs st.heap (aP g.bs.length) (aP g.bs.length) 2000 y2++cw g.rs vs 3000 y1
    have eH:dm L=jv g (y1,y2):=by
     show dm (_++_)=_
     rw [lU,iK _ _ _ _ _ _ hb Tl,fT];rfl
    have eN:L.map (·.1)=pz g:=by
     show (_++_:List wR).map _=_
     rw [List.map_append,gE _ _ _ _ _ _ hb Tl,fe];rfl
    have eS:L.filterMap (·.2.1)=cS g.bs st.heap (aP g.bs.length)++dz g.rs vs:=by
     show (_++_:List wR).filterMap _=_
     rw [List.filterMap_append,jQ _ _ _ _ _ _ hb Tl,il _ _ _ _ hd]
    have hn:b4 (L.map (·.1))=true:=by rw [eN];exact zG
    have iE:=xZ (ψ:=mN) hn
    have hz:∀b,Z1 b→po Z1 mN st.heap.get (fD g.rs vs++fC g.bs st.heap (aP g.bs.length)) b:=fun b hb=>.inl hb
    have HQ:=(qS FO).2 st.heap
    have g':Good (po Z1 mN st.heap.get (fD g.rs vs++fC g.bs st.heap (aP g.bs.length))) (ep mN L) (dm L).get w1 w.heap.size (Own ψ0 (og g x)):=by
     refine vp k.dO FO hn eS fun e he => ?_
     rcases List.mem_append.1 he with he | he
     ·exact k9 k.dO hz g.bs _ _ 2000 y2 hb (fun id b bO h1 h2=>.inr ⟨id,List.mem_append_right _ bO,h1,h2⟩) (fun s hs=>HQ s (List.mem_append_left _ hs)) (fun e he=>iE e (List.mem_append_left _ he)) e he
     ·exact ju g.rs vs 3000 y1 hd (fun s hs=>HQ s (List.mem_append_right _ hs)) e he
    obtain ⟨CO,zJ⟩:=iL _ _ _ hb
    have NT:=qT (ids2:=aP g.bs.length) (Z':=po Z1 mN st.heap.get (fD g.rs vs++fC g.bs st.heap (aP g.bs.length))) (ψ':=ep mN L) (h':=(dm L).get) k.dO hz hb Tl (fun e he=>iE e (List.mem_append_left _ he)) g.rs vs 3000 y1 us hd
     (fun id b bO h1 h2=>.inr ⟨id,List.mem_append_left _ bO,h1,h2⟩) (fun e he=>iE e (List.mem_append_right _ he)) h2
    refine ⟨v,h1,v,po Z1 mN st.heap.get (fD g.rs vs++fC g.bs st.heap (aP g.bs.length)),ep mN L,rfl,fun b hb=>.inl (k.fm b hb),fun b hb => ?_,⟨k.os,k.tape,k.output,k.size,k.block⟩,by rw [←eH];exact g',fun i hi => ?_,?_⟩
    ·rcases JW hb with h4 | ⟨id,h4,h5⟩
     ·exact k.dU b h4
     ·exact .inr (k.dO.live id b h4 h5).2.symm
    ·obtain ⟨o,ho⟩:=jR (hh:=st.heap) g.bs (aP g.bs.length) (aP g.bs.length) 2000 y2 CO (i,i) (NS hi)
     rw [ij hn (List.mem_append_left _ ho)]
     obtain ⟨j,h4,h5⟩:=D6 hi
     exact k.fix i (by omega) (zJ i hi)
    ·rw [←eH]
     have MZ:us.length=(aR g.rs (aP g.bs.length) 2000 3000 y1).length:=NT.length.symm
     rw [h3]
     match hE:aR g.rs (aP g.bs.length) 2000 3000 y1,us,NT,MZ with
     | [],[],NT,_=>simp only [eI];simp only [ax];exact ⟨#[],rfl,by simpa using NT⟩
     | [e1],[u],NT,_ =>
      simp only [ao] at NT
      obtain ⟨u',iB,he,h4,_⟩:=NT
      cases he
      simpa [eI] using h4
     | e1::e2::er,u1::u2::ur,NT,_ =>
      simp only [eI,ax]
      exact ⟨(u1::u2::ur).toArray,by simp,by simpa using NT⟩
   ·cases rz
  have reach:=p6 V hm (b:=b) (cs:=cs) (fun sh c k x Z ψ a w h1 h2 h3=>z6 V hm rz n sh c k x Z ψ a w h1 h2 h3) rz fuel _ _ Z ψ0 a0 w hx ok0 tr0
  obtain ⟨a',w',todo,⟨hd,v,ug,hR⟩,hs⟩:=reach
  rw [←UE] at hs
  exact ⟨.returned v,w',_,hR,hs,rfl,rfl,hd,rfl,fn,hf.1,ug⟩
 ·cases hx
end
theorem FQ(hX:∀f g u,Sg f=some g→g.x=some u→g6 P (f % 1000) u){G:(f:FuncId)→(g:aL)→Option (g.A→Option g.B)}{An:FuncId→Nat→Option Shape}(BG:∀t k,Eqs t=some k→kY P t k)(Lj:∀f g,Sg f=some g→iM P (f % 1000))(hm:P.follows .mixedOrders=true)
  (hG:∀f g u x y,Sg f=some g→G f g=some u→u x=some y→CB P f g x y):∀(m:Nat) f g x y,Sg f=some g→Fn P Eqs Sg An G m f g x=some y→CB P f g x y
 | 0,f,g,x,y,hs,hx=>by
  simp only [Fn] at hx
  split at hx
  ·rename_i u hu;exact hG f g u x y hs hu hx
  ·cases hx
 | m+1,f,g,x,y,hs,hx=>by
  simp only [Fn] at hx
  split at hx
  ·rename_i u hu;exact hG f g u x y hs hu hx
  ·exact II ⟨BG,fun f g x y h1 h2=>FQ hX BG Lj hm hG m f g x y h1 h2,hX,Lj⟩ hm hx
end Go.Vs
namespace Go.Vs
abbrev FT:=(f:FuncId)→(g:aL)→g.A→Option g.B
variable {P:Program} {Eqs:TypeId→Option K} {Sg:FuncId→Option aL} {R:Type}
def tx(p:Nat→Prop):Prop:=∃m,∀m',m≤m'→p m'
theorem tx.now{p:Nat→Prop}(h:∀m,p m):tx p:=⟨0,fun m _=>h m⟩
theorem tx.and{p q r:Nat→Prop}(h:tx p)(k:tx q)(hr:∀m,p m→q m→r m):tx r:=by
 obtain ⟨a,ha⟩:=h
 obtain ⟨b,hb⟩:=k
 exact ⟨max a b,fun m hm=>hr m (ha m (by omega)) (hb m (by omega))⟩
theorem tx.imp{p r:Nat→Prop}(h:tx p)(hr:∀m,p m→r m):tx r:=by
 obtain ⟨a,ha⟩:=h
 exact ⟨a,fun m hm=>hr m (ha m hm)⟩
def To(A:Nat→FT)(L:FT):Prop:=∀f g x y,L f g x=some y→tx fun m=>A m f g x=some y
def ToK{α:Type}(A:Nat→α→Option R)(L:α→Option R):Prop:=∀x y,L x=some y→tx fun m=>A m x=some y
def ToJ(A:Nat→(sh:Shape)→List Item→sh.T→Option R)(L:(sh:Shape)→List Item→sh.T→Option R):Prop:=∀sh k x y,L sh k x=some y→tx fun m=>A m sh k x=some y
theorem NU(h:Heap)(id:Nat)(f:FuncId)(vs:List AV):(∀F F':FT,iI Sg F h id f vs some=iI Sg F' h id f vs some) ∨
  ∃ff g x,(∀F F':FT,F ff g x=F' ff g x→iI Sg F h id f vs some=iI Sg F' h id f vs some)∧∀F:FT,F ff g x=none→iI Sg F h id f vs some=none:=by
 unfold iI
 split
 ·exact .inl fun _ _=>rfl
 rename_i g hg
 split
 ·exact .inl fun _ _=>rfl
 split
 ·split
  ·split
   ·rename_i x b hx hb hp
    refine .inr ⟨_,g,(x,b),fun F F' e=>by rw [e],fun F e=>by rw [e];rfl⟩
   ·exact .inl fun _ _=>rfl
  ·split
   ·rename_i x b hx hb hp
    refine .inr ⟨_,g,(x,b),fun F F' e=>by rw [e],fun F e=>by rw [e];rfl⟩
   ·exact .inl fun _ _=>rfl
 ·exact .inl fun _ _=>rfl
theorem RM{A:Nat→FT}{L:FT}(hA:To A L){h:Heap}{id:Nat}{f:FuncId}{vs:List AV}{e:bE}(he:iI Sg L h id f vs some=some e):tx fun m=>iI Sg (A m) h id f vs some=some e:=by
 rcases NU (Sg:=Sg) h id f vs with k | ⟨ff,g,x,k1,k2⟩
 ·exact .now fun m=>(k _ _).trans he
 ·cases hy:L ff g x with
  | none=>rw [k2 L hy] at he;cases he
  | some y=>exact (hA _ _ _ _ hy).imp fun m hm=>(k1 (A m) L (hm.trans hy.symm)).trans he
theorem FR{A:Nat→FT}{L:FT}(hA:To A L){id:Nat}{h:Heap}{s:List (Nat×AV)}{o:Oper}{e:bE}(he:cJ P Eqs Sg L id h s o some=some e):tx fun m=>cJ P Eqs Sg (A m) id h s o some=some e:=by
 obtain ⟨dst,op,type,pos,after,guard⟩:=o
 cases op with
 | call c =>
  obtain ⟨callee,args,argTypes⟩:=c
  cases callee with
  | value f =>
   simp only [cJ] at he
   split at he
   ·rename_i f' cap hf
    refine (RM hA he).imp fun m hm => ?_
    simp only [cJ,hf]
    exact hm
   ·cases he
  | builtin bi=>cases bi<;>exact .now fun m=>he
  | invoke _ _=>exact .now fun m=>he
 | unOp u _ _=>cases u<;>exact .now fun m=>he
 | makeFunc fn _ _=>cases fn<;>exact .now fun m=>he
 | makeMap _ r=>cases r<;>exact .now fun m=>he
 | next _ b=>cases b<;>exact .now fun m=>he
 | _=>exact .now fun m=>he
theorem tx.all{p:Nat→Nat→Prop}:∀(n:Nat),(∀j,j<n→tx (p j))→tx fun m=>∀j,j<n→p j m
 | 0,_=>.now fun m j hj=>absurd hj (Nat.not_lt_zero _)
 | n+1,h=>(tx.all n fun j hj=>h j (by omega)).and (h n (by omega)) fun m h1 h2 j hj=>by
  by_cases e:j=n
  ·subst e;exact h2
  ·exact h1 j (by omega)
theorem IJ{h:Heap}{x:AV}{K:Nat→AV→Heap→Option R}{KL:AV→Heap→Option R}(hK:∀v h y,KL v h=some y→tx fun m=>K m v h=some y){r:R}(he:ky h x KL=some r):tx fun m=>ky h x (K m)=some r:=by
 unfold ky at he ⊢
 split at he
 ·rename_i id
  split at he
  ·rename_i kk vk p hg
   try simp only [hg]
   cases hp:p.2 with
   | nil =>
    simp only [hp,List.isEmpty_nil,cond_true] at he ⊢
    exact hK _ _ _ he
   | cons c l =>
    simp only [hp,List.isEmpty_cons,cond_false] at he ⊢
    have h1:=m8 he
    refine (tx.all _ fun j hj => ?_).imp fun m hm=>lZ (by simp) hm
    have h2:=h1 j hj
    rw [List.getElem?_eq_getElem hj] at h2 ⊢
    simp only [Option.bind_some] at h2 ⊢
    exact hK _ _ _ h2
  ·cases he
 ·cases he
theorem NV{h:Heap}{x:AV}{want:Bool}{K:Nat→AV→Option R}{KL:AV→Option R}(hK:∀v y,KL v=some y→tx fun m=>K m v=some y){r:R}(he:tG h x want KL=some r):tx fun m=>tG h x want (K m)=some r:=by
 unfold tG at he ⊢
 split at he
 ·exact hK _ _ he
 ·rename_i xs hv
  cases qK:xs.isEmpty with
  | true =>
   simp only [qK,cond_true] at he ⊢
   have h1:=m8 he
   exact (tx.all _ fun j hj=>hK _ _ (h1 j hj)).imp fun m hm=>lZ (by decide) hm
  | false =>
   simp only [qK,cond_false] at he ⊢
   exact hK _ _ he
 ·cases he
theorem z7{A:Nat→FT}{L:FT}(hA:To A L){rid:Nat}{draw:Bool}{ops:Array Oper}{b:Array Nat}{K:Nat→St→Option R}{KL:St→Option R}(hK:ToK K KL) :
  ∀(l:List (Nat×Oper)) (st:St) (r:R),bA P Eqs Sg L rid draw ops b l st KL=some r→tx fun m=>bA P Eqs Sg (A m) rid draw ops b l st (K m)=some r
 | [],st,r,he=>hK st r (by simpa only [bA] using he)
 | (i,o)::l,st,r,he=>by
  have ih:=z7 hA (rid:=rid) (draw:=draw) (ops:=ops) (b:=b) hK l
  have run:∀st:St,(match (if draw then none else nP P (opId rid i) st o) with
    | some dS=>bA P Eqs Sg L rid draw ops b l dS KL
    | none=>match (if draw then none else tF o) with
    | some x=>ky st.heap (ρ st.tmps x) fun v h=>bA P Eqs Sg L rid draw ops b l (({ st with heap:=h }:St).put o.dst v) KL
    | none=>match (if draw then none else isNil P o) with
    | some (x,want)=>tG st.heap (ρ st.tmps x) want fun v=>bA P Eqs Sg L rid draw ops b l (st.put o.dst v) KL
    | none=>if draw then cJ P Eqs Sg L (opId rid i) (gx (ahead rid (b.getD i 0) st.heap) (gy ops b i st.tmps o)) st.tmps o fun e =>
     if (gh true rid ops b i (b.getD i 0) (gk (gy ops b i st.tmps o) (ahead rid (b.getD i 0) st.heap) e)&&mn (gy ops b i st.tmps o) e)=true then
      bA P Eqs Sg L rid draw ops b l ({ st with heap:=match gk (gy ops b i st.tmps o) (ahead rid (b.getD i 0) st.heap) e with | .wr _ h=>h | e=>e.h st.heap }.put o.dst e.v) KL else none
     else cJ P Eqs Sg L (opId rid i) st.heap st.tmps o fun e =>
     if gh false rid ops b i (2 ^ i - 1) e then bA P Eqs Sg L rid draw ops b l ({ st with heap:=match e with | .wr _ h=>h | e=>e.h st.heap }.put o.dst e.v) KL else none)=some r →
    tx fun m=>(match (if draw then none else nP P (opId rid i) st o) with
    | some dS=>bA P Eqs Sg (A m) rid draw ops b l dS (K m)
    | none=>match (if draw then none else tF o) with
    | some x=>ky st.heap (ρ st.tmps x) fun v h=>bA P Eqs Sg (A m) rid draw ops b l (({ st with heap:=h }:St).put o.dst v) (K m)
    | none=>match (if draw then none else isNil P o) with
    | some (x,want)=>tG st.heap (ρ st.tmps x) want fun v=>bA P Eqs Sg (A m) rid draw ops b l (st.put o.dst v) (K m)
    | none=>if draw then cJ P Eqs Sg (A m) (opId rid i) (gx (ahead rid (b.getD i 0) st.heap) (gy ops b i st.tmps o)) st.tmps o fun e =>
     if (gh true rid ops b i (b.getD i 0) (gk (gy ops b i st.tmps o) (ahead rid (b.getD i 0) st.heap) e)&&mn (gy ops b i st.tmps o) e)=true then
      bA P Eqs Sg (A m) rid draw ops b l ({ st with heap:=match gk (gy ops b i st.tmps o) (ahead rid (b.getD i 0) st.heap) e with | .wr _ h=>h | e=>e.h st.heap }.put o.dst e.v) (K m) else none
     else cJ P Eqs Sg (A m) (opId rid i) st.heap st.tmps o fun e =>
     if gh false rid ops b i (2 ^ i - 1) e then bA P Eqs Sg (A m) rid draw ops b l ({ st with heap:=match e with | .wr _ h=>h | e=>e.h st.heap }.put o.dst e.v) (K m) else none)=some r:=by
   intro st h
   split at h
   ·rename_i dS m6
    try simp only [m6]
    exact ih _ r h
   rename_i m6
   split at h
   ·rename_i x CG
    try simp only [m6,CG]
    exact IJ (fun v h y hy=>ih _ y hy) h
   rename_i CG
   split at h
   ·rename_i x want Xr
    try simp only [m6,CG,Xr]
    exact NV (fun v y hy=>ih _ y hy) h
   rename_i Xr
   try simp only [m6,CG,Xr]
   cases draw with
   | true =>
    simp only [if_true] at h ⊢
    rw [kK] at h
    obtain ⟨e,h1,h2⟩:=Option.bind_eq_some_iff.1 h
    by_cases hc:(gh true rid ops b i (b.getD i 0) (gk (gy ops b i st.tmps o) (ahead rid (b.getD i 0) st.heap) e)&&mn (gy ops b i st.tmps o) e)=true
    ·rw [if_pos hc] at h2
     refine (FR hA h1).and (ih _ r h2) fun m h3 h4 => ?_
     rw [kK,h3,Option.bind_some,if_pos hc]
     exact h4
    ·rw [if_neg hc] at h2;cases h2
   | false =>
    simp only [Bool.false_eq_true,if_false] at h ⊢
    rw [kK] at h
    obtain ⟨e,h1,h2⟩:=Option.bind_eq_some_iff.1 h
    by_cases hc:gh false rid ops b i (2 ^ i - 1) e=true
    ·rw [if_pos hc] at h2
     refine (FR hA h1).and (ih _ r h2) fun m h3 h4 => ?_
     rw [kK,h3,Option.bind_some,if_pos hc]
     exact h4
    ·rw [if_neg hc] at h2;cases h2
  simp only [bA] at he ⊢
  split at he
  ·rename_i hg
   try simp only [hg]
   exact run _ he
  ·rename_i j want hg
   try simp only [hg]
   split at he
   ·cases he
   ·rename_i d hd
    try simp only [hd]
    split at he
    ·rename_i t ht
     try simp only [ht]
     cases t<;>cases want<;>simp only [cond_true,cond_false,if_true,if_false,Bool.false_eq_true] at he ⊢<;>first | exact run _ he | exact ih _ r he
    ·rename_i ht
     try simp only [ht]
     exact ih _ r he
    ·cases he
theorem B2{A:Nat→FT}{L:FT}(hA:To A L){n rid:Nat}{ops:Array Oper}{draw:Bool}{K:Nat→St→Option R}{KL:St→Option R}(hK:ToK K KL){st:St}{r:R}
  (he:gV P Eqs Sg L n rid ops draw st KL=some r):tx fun m=>gV P Eqs Sg (A m) n rid ops draw st (K m)=some r:=by
 unfold gV at he ⊢
 by_cases hc:((ops.all fun o=>gT n o)&&(!draw || (tC ops (if draw then Region.before ops else #[])&&(yT ops (if draw then Region.before ops else #[])&&b4 (ops.toList.filterMap (·.dst)))))&&decide (ops.size≤128))=true
 ·dsimp only at he ⊢
  rw [if_pos hc] at he
  refine (z7 hA hK _ _ r he).imp fun m hm => ?_
  rw [if_pos hc]
  exact hm
 ·dsimp only at he
  rw [if_neg hc] at he;cases he
theorem fV{A:Nat→FT}{L:FT}(hA:To A L){n:Nat}{ann:Nat→Option Shape}{J:Nat→(sh:Shape)→List Item→sh.T→Option R}{JL:(sh:Shape)→List Item→sh.T→Option R}(hJ:ToJ J JL){ret:St→Option R} :
  ∀(fu:Nat) (items:List Item) (st:St) (r:R),aA P Eqs Sg L n ann JL ret fu items st=some r→tx fun m=>aA P Eqs Sg (A m) n ann (J m) ret fu items st=some r
 | 0,items,st,r,he=>by cases items<;>simp only [aA] at he<;>cases he
 | fu+1,[],st,r,he=>.now fun m=>by simpa only [aA] using he
 | fu+1,it::Ly,st,r,he=>by
  have ih:=fV hA (n:=n) (ann:=ann) hJ (ret:=ret) fu
  cases it with
  | inBlock id=>simp only [aA] at he ⊢;exact ih _ _ _ he
  | inScope c=>simp only [aA] at he ⊢;exact ih _ _ _ he
  | inLoop c =>
   simp only [aA] at he ⊢
   split at he
   ·cases he
   ·rename_i sh hsh
    try simp only [hsh]
    split at he
    ·rename_i x hx
     try simp only [hx]
     exact hJ _ _ _ _ he
    ·cases he
  | code c =>
   cases c with
   | cond c x y =>
    simp only [aA] at he ⊢
    split at he
    ·rename_i t ht
     try simp only [ht]
     cases t<;>simp only [cond_true,cond_false] at he ⊢<;>exact ih _ _ _ he
    ·cases he
   | exit id =>
    simp only [aA] at he ⊢
    split at he
    ·rename_i k' hk
     try simp only [hk]
     exact ih _ _ _ he
    ·cases he
   | ret=>exact .now fun m=>by simpa only [aA] using he
   | region id ops draw =>
    simp only [aA] at he ⊢
    exact B2 hA (K:=fun m dS=>aA P Eqs Sg (A m) n ann (J m) ret fu Ly dS) (fun st y h=>ih Ly st y h) he
   | skip=>simp only [aA] at he ⊢;exact ih _ _ _ he
   | label l=>simp only [aA] at he ⊢;exact ih _ _ _ he
   | seq x y=>simp only [aA] at he ⊢;exact ih _ _ _ he
   | block id c=>simp only [aA] at he ⊢;exact ih _ _ _ he
   | scope c=>simp only [aA] at he ⊢;exact ih _ _ _ he
   | loop c=>simp only [aA] at he ⊢;exact ih _ _ _ he
   | _=>simp only [aA] at he;cases he
  | _=>simp only [aA] at he;cases he
section
variable {An:FuncId→Nat→Option Shape} {G:(f:FuncId)→(g:aL)→Option (g.A→Option g.B)}
def UF(F F':FT):Prop:=∀f g x y,F f g x=some y→F' f g x=some y
theorem UF.to{F F':FT}(h:UF F F'):To (fun _=>F') F:=fun f g x y hy=>.now fun _=>h f g x y hy
theorem tx.get{p:Prop}(h:tx fun _=>p):p:=by obtain ⟨m,hm⟩:=h;exact hm m (Nat.le_refl _)
theorem nc{F F':FT}(h:UF F F'){f:FuncId}{g:aL}{fn:Func}:∀(n n':Nat) (sh:Shape) (k:List Item) (x:sh.T) (y:g.B),n≤n'→lN P Eqs Sg An F f g fn n sh k x=some y→lN P Eqs Sg An F' f g fn n' sh k x=some y
 | 0,_,_,_,_,_,_,hx=>by simp only [lN] at hx;cases hx
 | n+1,0,_,_,_,_,hn,_=>by omega
 | n+1,n'+1,sh,k,x,y,hn,hx=>by
  cases k with
  | nil=>simp only [lN] at hx;cases hx
  | cons it k =>
   cases it with
   | inLoop c =>
    simp only [lN] at hx ⊢
    exact (fV h.to (J:=fun _=>lN P Eqs Sg An F' f g fn n') (JL:=lN P Eqs Sg An F f g fn n) (fun sh k x y hy=>.now fun _=>nc h n n' sh k x y (by omega) hy) _ _ _ _ hx).get
   | _=>simp only [lN] at hx;cases hx
theorem LA{F F':FT}(h:UF F F'){f:FuncId}{g:aL}{n n':Nat}{x:g.A}{y:g.B}(hn:n≤n')(hx:HZ P Eqs Sg An F f g n x=some y):HZ P Eqs Sg An F' f g n' x=some y:=by
 unfold HZ at hx ⊢
 split at hx
 ·cases hx
 ·rename_i fn c hb
  try simp only [hb]
  split at hx
  ·rename_i hc
   simp only [if_pos hc]
   exact (fV h.to (J:=fun _=>lN P Eqs Sg An F' f g fn n') (JL:=lN P Eqs Sg An F f g fn n) (fun sh k x y hy=>.now fun _=>nc h n n' sh k x y hn hy) _ _ _ _ hx).get
  ·cases hx
theorem yk:∀m,UF (Fn P Eqs Sg An G m) (Fn P Eqs Sg An G (m+1))
 | 0,f,g,x,y,hx=>by
  simp only [Fn] at hx ⊢
  split at hx
  ·rename_i u hu;(try simp only [hu]);exact hx
  ·cases hx
 | m+1,f,g,x,y,hx=>by
  rw [Fn] at hx ⊢
  split at hx
  ·rename_i u hu;(try simp only [hu]);exact hx
  ·rename_i hu
   try simp only [hu]
   exact LA (yk m) (Nat.le_succ m) hx
theorem yl{m m':Nat}(h:m≤m'):UF (Fn P Eqs Sg An G m) (Fn P Eqs Sg An G m'):=by
 induction h with
 | refl=>exact fun _ _ _ _ h=>h
 | step _ ih=>exact fun f g x y hx=>yk _ f g x y (ih f g x y hx)
variable (P Eqs Sg An G) in
open Classical in
noncomputable def Fix:FT:=fun f g x=>if h:∃m y,Fn P Eqs Sg An G m f g x=some y then some (Classical.choose (Classical.choose_spec h)) else none
theorem D7:To (Fn P Eqs Sg An G) (Fix P Eqs Sg An G):=fun f g x y hy=>by
 unfold Fix at hy
 split at hy
 ·rename_i h
  cases hy
  exact ⟨Classical.choose h,fun m' hm=>yl hm _ _ _ _ (Classical.choose_spec (Classical.choose_spec h))⟩
 ·cases hy
theorem NW{m:Nat}{f:FuncId}{g:aL}{x:g.A}{y:g.B}(h:Fn P Eqs Sg An G m f g x=some y):Fix P Eqs Sg An G f g x=some y:=by
 have he:∃m y,Fn P Eqs Sg An G m f g x=some y:=⟨m,y,h⟩
 cases hy:Fix P Eqs Sg An G f g x with
 | none=>unfold Fix at hy;rw [dif_pos he] at hy;cases hy
 | some y' =>
  obtain ⟨m1,h1⟩:=D7 f g x y' hy
  have h2:=h1 (max m m1) (by omega)
  have h3:=yl (show m≤max m m1 by omega) f g x y h
  rw [h2] at h3
  exact h3
variable (P Eqs Sg An G) in
open Classical in
noncomputable def Lp(f:FuncId)(g:aL)(fn:Func)(sh:Shape)(k:List Item)(x:sh.T):Option g.B :=
 if h:∃m y,lN P Eqs Sg An (Fn P Eqs Sg An G m) f g fn m sh k x=some y then some (Classical.choose (Classical.choose_spec h)) else none
theorem NX{f:FuncId}{g:aL}{fn:Func}:ToJ (fun m=>lN P Eqs Sg An (Fn P Eqs Sg An G m) f g fn m) (Lp P Eqs Sg An G f g fn):=fun sh k x y hy=>by
 unfold Lp at hy
 split at hy
 ·rename_i h
  cases hy
  exact ⟨Classical.choose h,fun m' hm=>nc (yl hm) _ _ _ _ _ _ hm (Classical.choose_spec (Classical.choose_spec h))⟩
 ·cases hy
theorem Xz{m:Nat}{f:FuncId}{g:aL}{fn:Func}{sh:Shape}{k:List Item}{x:sh.T}{y:g.B}(h:lN P Eqs Sg An (Fn P Eqs Sg An G m) f g fn m sh k x=some y):Lp P Eqs Sg An G f g fn sh k x=some y:=by
 have he:∃m y,lN P Eqs Sg An (Fn P Eqs Sg An G m) f g fn m sh k x=some y:=⟨m,y,h⟩
 cases hy:Lp P Eqs Sg An G f g fn sh k x with
 | none=>unfold Lp at hy;rw [dif_pos he] at hy;cases hy
 | some y' =>
  obtain ⟨m1,h1⟩:=NX sh k x y' hy
  have h2:=h1 (max m m1) (by omega)
  have h3:=nc (yl (show m≤max m m1 by omega)) m (max m m1) sh k x y (by omega) h
  exact h2.symm.trans h3
theorem JX{f:FuncId}{g:aL}{x:g.A}{y:g.B}{fn:Func}{c:Code}(hG:G f g=none)(hb:body P (f % 1000)=some (fn,c))(hc:(decide (g.ps.length≤fn.ntmps)&&decide (g.bs.length≤8))=true)
  (h:aA P Eqs Sg (Fix P Eqs Sg An G) fn.ntmps (An f) (Lp P Eqs Sg An G f g fn) (pQ P g fn) fuel [.code c] (entry g x)=some y):Fix P Eqs Sg An G f g x=some y:=by
 obtain ⟨m,hm⟩:=fV (D7 (P:=P) (Eqs:=Eqs) (Sg:=Sg) (An:=An) (G:=G)) (NX (f:=f) (g:=g) (fn:=fn)) _ _ _ _ h
 refine NW (m:=m+1) ?_
 simp only [Fn,hG]
 unfold HZ
 simp only [hb,if_pos hc]
 exact hm m (Nat.le_refl _)
theorem CP{f:FuncId}{g:aL}{x:g.A}{y:g.B}{u:g.A→Option g.B}(hG:G f g=some u)(h:u x=some y):Fix P Eqs Sg An G f g x=some y:=by
 refine NW (m:=0) ?_
 simp only [Fn,hG]
 exact h
theorem NY{f:FuncId}{g:aL}{fn:Func}{sh:Shape}{c:Code}{k:List Item}{x:sh.T}{y:g.B}
  (h:aA P Eqs Sg (Fix P Eqs Sg An G) fn.ntmps (An f) (Lp P Eqs Sg An G f g fn) (pQ P g fn) fuel (.code c::.inLoop c::k) (aq sh x)=some y):Lp P Eqs Sg An G f g fn sh (.inLoop c::k) x=some y:=by
 obtain ⟨m,hm⟩:=fV (D7 (P:=P) (Eqs:=Eqs) (Sg:=Sg) (An:=An) (G:=G)) (NX (f:=f) (g:=g) (fn:=fn)) _ _ _ _ h
 refine Xz (m:=m+1) ?_
 simp only [lN]
 refine (fV (L:=Fn P Eqs Sg An G m) (UF.to (yk m)) (J:=fun _=>lN P Eqs Sg An (Fn P Eqs Sg An G (m+1)) f g fn m) (JL:=lN P Eqs Sg An (Fn P Eqs Sg An G m) f g fn m) (fun sh k x y hy=>.now fun _=>nc (yk m) m m sh k x y (Nat.le_refl _) hy) _ _ _ _ (hm m (Nat.le_refl _))).get
theorem ym(hX:∀f g u,Sg f=some g→g.x=some u→g6 P (f % 1000) u)(BG:∀t k,Eqs t=some k→kY P t k)(Lj:∀f g,Sg f=some g→iM P (f % 1000))(hm:P.follows .mixedOrders=true)
  (hG:∀f g u x y,Sg f=some g→G f g=some u→u x=some y→CB P f g x y) {f:FuncId} {g:aL} {x:g.A} {y:g.B} (hs:Sg f=some g) (h:Fix P Eqs Sg An G f g x=some y):CB P f g x y:=by
 obtain ⟨m,Ru⟩:=D7 f g x y h
 exact FQ hX BG Lj hm hG m f g x y hs (Ru m (Nat.le_refl _))
end
end Go.Vs
namespace Go.Vs
open Go.Proofs
abbrev ae:=((Int×Int)×Int)
abbrev ID:=(Int×Int)
abbrev ai:=(ID×((List ae)×(ByteArray×Int)))
abbrev ah:=(ID×(ByteArray×Int))
abbrev aj:=((List ai)×(List ah))
abbrev an:=(ae×ae)
abbrev StateT:=(aj×(List an))
abbrev o8:=(ID×ae)
abbrev bY:=(Int×(ID×(ID×(ID×(o8×(o8×(Bool×(ByteArray×Int))))))))
abbrev aE:=((List ai)×((List ah)×((List an)×Unit)))
abbrev k13:K:=(.pair .str (.int .u64))
abbrev gQ:K:=(.pair (.int .i64) (.int .i64))
abbrev k68:K:=(.pair .str (.pair (.int .i64) .bool))
abbrev bp:K:=(.pair gQ (.int .i64))
abbrev k7:K:=(.pair (.int .i64) (.pair (.int .i64) (.pair .bool (.int .u8))))
abbrev dV:K:=(.pair gQ (.pair .str (.int .i64)))
abbrev Q2:K:=(.pair gQ bp)
abbrev cZ:K:=(.pair bp bp)
abbrev dr:K:=(.pair gQ (.pair (.sl bp) (.pair .str (.int .i64))))
abbrev cW:K:=(.pair (.sl dr) (.sl dV))
abbrev jf:K:=(.pair cW (.sl cZ))
abbrev qa:K:=(.pair (.int .i64) (.pair gQ (.pair gQ (.pair gQ (.pair Q2 (.pair Q2 (.pair .bool (.pair .str (.int .i64)))))))))
abbrev BH:K:=(.one (.sl qa))
def ot(xs:List ai)(ys:List ah):Bool:=decide (xs.length≤50000000)&&(decide (ys.length≤50000000)&&xs.all fun v=>decide (v.2.1.length≤50000000))
def D8(h:Heap)(id:Nat):List AV→Option (Bool×bE)
 | [.agg [.bF a,.bF b]]=>match dD h (.row 48 dr) (.bF a),dD h (.row 56 dV) (.bF b) with
  | some xs,some ys=>if a=b then none else some (ot xs ys,.new (.agg [.bF (id+128),.bF (id+129)]) [(id+128,.own (.row 48 dr) xs),(id+129,.own (.row 56 dV) ys)])
  | _,_=>none
 | _=>none
def Wm:aL:={ ps:=[.val jf,.val qa],bs:=[],rs:=[.val .bool] }
def sg4:aL:={ ps:=[.val (.sl BH),.val gQ],bs:=[],rs:=[.val .bool] }
def sg5:aL:={ ps:=[.val (.sl BH),.val bp,.val bp],bs:=[],rs:=[.val .bool] }
def sg6:aL:={ ps:=[.val (.sl BH),.val gQ,.val (.int .i64)],bs:=[],rs:=[.val .bool] }
def sg7:aL:={ ps:=[.val (.sl BH),.val gQ,.val k68],bs:=[],rs:=[.val .bool] }
def sg8:aL:={ ps:=[.val (.sl BH),.val gQ],bs:=[],rs:=[.val .bool] }
def sg9:aL:={ ps:=[.val (.sl BH)],bs:=[],rs:=[.val .bool] }
def aci:aL:={ ps:=[.val (.sl BH)],bs:=[],rs:=[.val .bool] }
def acj:aL:={ ps:=[.val (.sl BH),.val BH],bs:=[],rs:=[.val .bool] }
def NZ:aL:={ ps:=[],bs:=[],rs:=[.val .bool] }
def D9:aL:={ ps:=[.val jf],bs:=[],rs:=[.val .bool] }
def Ea:aL:={ ps:=[.val jf,.val qa],bs:=[],rs:=[.val jf,.val (.int .i64)] }
def N0:aL:={ ps:=[.val jf,.val qa],bs:=[],rs:=[.val jf,.val (.int .i64)] }
def N1:aL:={ ps:=[.val jf,.val jf],bs:=[],rs:=[.val .bool] }
def ack:aL:={ ps:=[.val (.sl BH)],bs:=[],rs:=[.val jf] }
def o9:aL:={ ps:=[.val cW,.val gQ],bs:=[],rs:=[.val dr,.val .bool] }
def xC:aL:={ ps:=[.val gQ],bs:=[],rs:=[.val .bool] }
def sZ:aL:={ ps:=[.val cW,.val bp],bs:=[],rs:=[.val gQ,.val .bool] }
def vD:aL:={ ps:=[.val cW,.val gQ],bs:=[],rs:=[.val dV,.val .bool] }
def FU:aL:={ ps:=[.val cW,.val bp],bs:=[],rs:=[.val (.sl bp)] }
def B3:aL:={ ps:=[.val bp],bs:=[],rs:=[.val bp] }
def qb:aL:={ ps:=[.val (.sl bp),.val bp],bs:=[],rs:=[.val (.int .i64)] }
def acm:aL:={ ps:=[.val cW,.val gQ,.val gQ],bs:=[],rs:=[.val .bool] }
def LB:aL:={ ps:=[.val (.sl bp),.val bp],bs:=[],rs:=[.val bp,.val .bool] }
def z8:aL:={ ps:=[.val cW,.val cW],bs:=[],rs:=[.val .bool] }
def vE:aL:={ ps:=[.val .str],bs:=[],rs:=[.val .bool] }
def xD:aL:={ ps:=[.val (.int .i64)],bs:=[],rs:=[.val .bool] }
def N2:aL:={ ps:=[.val jf,.val BH],bs:=[],rs:=[.val jf,.val (.int .i64)] }
def FV:aL:={ ps:=[.val cW],bs:=[],rs:=[.own (.row 46 (.sl bp))] }
def FY:aL:={ ps:=[.val cW],bs:=[],rs:=[.val (.int .i64)] }
def N3:aL:={ ps:=[],bs:=[],rs:=[.val jf] }
def acn:aL:={ ps:=[.val BH],bs:=[],rs:=[.val BH] }
def aco:aL:={ ps:=[.val jf,.val BH],bs:=[],rs:=[.val jf,.val (.int .i64)] }
def acp:aL:={ ps:=[.val jf,.val BH],bs:=[],rs:=[.val jf] }
def acq:aL:={ ps:=[.val jf,.val BH],bs:=[],rs:=[.val jf] }
def B4:aL:={ ps:=[.val cW],bs:=[],rs:=[.agg [.own (.row 48 dr),.own (.row 56 dV)]] }
def B5:aL:={ ps:=[.val (.sl cZ)],bs:=[],rs:=[.val .bool] }
def Eb:aL:={ ps:=[.val cW],bs:=[],rs:=[.val (.int .i64)] }
def acr:aL:={ ps:=[.val BH],bs:=[],rs:=[.val (.int .i64)] }
def N4:aL:={ ps:=[.val (.int .i64)],bs:=[],rs:=[.val BH] }
def B6:aL:={ ps:=[.val qa],bs:=[],rs:=[.val (.int .i64)] }
def FZ:aL:={ ps:=[.val jf,.val (.sl qa)],bs:=[],rs:=[.val jf,.val (.int .i64)] }
def N5:aL:={ ps:=[.val qa],bs:=[],rs:=[.val (.int .i64)] }
def Ec:aL:={ ps:=[.val cW,.val dr],bs:=[],rs:=[.val cW] }
def ou:aL:={ ps:=[.val cW,.val gQ,.val gQ],bs:=[],rs:=[.val cW] }
def N6:aL:={ ps:=[.val jf,.val qa],bs:=[],rs:=[.val jf,.val (.int .i64)] }
def N7:aL:={ ps:=[.val jf,.val qa],bs:=[],rs:=[.val jf,.val (.int .i64)] }
def N8:aL:={ ps:=[.val jf,.val qa],bs:=[],rs:=[.val jf,.val (.int .i64)] }
def xF:aL:={ ps:=[.val jf,.val qa],bs:=[],rs:=[.val jf,.val (.int .i64)] }
def Aa:aL:={ ps:=[.val jf,.val qa],bs:=[],rs:=[.val jf,.val (.int .i64)] }
def Ed:aL:={ ps:=[.val (.sl cZ),.val (.sl cZ)],bs:=[],rs:=[.val .bool] }
def LC:aL:={ ps:=[.val cW,.val bp],bs:=[],rs:=[.val bp,.val .bool] }
def B7:aL:={ ps:=[.val cW,.val gQ],bs:=[],rs:=[.val (.int .i64)] }
def rB:aL:={ ps:=[.val cW],bs:=[],rs:=[.own (.row 3 (.int .i64))] }
def Ee:aL:={ ps:=[.val (.sl bp),.val (.sl bp)],bs:=[],rs:=[.val .bool] }
def IK:aL:={ ps:=[.val BH],bs:=[],rs:=[.val (.int .i64)] }
def Ef:aL:={ ps:=[.val cW],bs:=[],rs:=[.own (.row 32 bp)] }
def F2:aL:={ ps:=[.val cW],bs:=[],rs:=[.agg [.own (.row 48 dr),.own (.row 56 dV)]] }
def IL:aL:={ ps:=[.val (.sl cZ)],bs:=[],rs:=[.own (.row 103 cZ)] }
def IM:aL:={ ps:=[.val bp,.val bp],bs:=[],rs:=[.val (.int .i64)] }
def pe:aL:={ ps:=[.val cW],bs:=[],rs:=[.val (.int .i64)] }
def Eg:aL:={ ps:=[.val cW],bs:=[],rs:=[.val (.int .i64)] }
def F3:aL:={ ps:=[.val qa],bs:=[],rs:=[.val qa,.val (.int .i64)] }
def xG:aL:={ ps:=[.ref,.val qa],bs:=[.box 109 [.own (.row 48 dr),.own (.row 56 dV),.val (.sl cZ)]],rs:=[.val (.int .i64)] }
def LD:aL:={ ps:=[.val qa],bs:=[],rs:=[.val qa] }
def LF:aL:={ ps:=[.val Q2],bs:=[],rs:=[.val .bool] }
def Eh:aL:={ ps:=[.val gQ,.val gQ],bs:=[],rs:=[.val (.int .i64)] }
def LG:aL:={ ps:=[.val jf,.val Q2],bs:=[],rs:=[.val Q2,.val (.int .i64)] }
def xH:aL:={ ps:=[.val cW,.val dV],bs:=[],rs:=[.val cW] }
def xI:aL:={ ps:=[.val cW,.val Q2,.val bp],bs:=[],rs:=[.val cW] }
def xJ:aL:={ ps:=[.val (.sl cZ),.val cZ],bs:=[],rs:=[.val (.sl cZ)] }
def LH:aL:={ ps:=[.val cW,.val bp],bs:=[],rs:=[.val bp] }
def LI:aL:={ ps:=[.val cW,.val bp],bs:=[],rs:=[.val cW] }
def F4:aL:={ ps:=[.val cW,.val bp,.val bp],bs:=[],rs:=[.val cW] }
def ov:aL:={ ps:=[.val (.sl bp)],bs:=[],rs:=[.own (.row 32 bp)] }
def N9:aL:={ ps:=[.val cW,.val bp],bs:=[],rs:=[.val bp,.val .bool] }
def LJ:aL:={ ps:=[.val (.sl dr)],bs:=[],rs:=[.own (.row 48 dr)] }
def LK:aL:={ ps:=[.val (.sl dV)],bs:=[],rs:=[.own (.row 56 dV)] }
def xK:aL:={ ps:=[.val (.sl bp)],bs:=[],rs:=[.own (.row 32 bp)] }
def xL:aL:={ ps:=[.val cW],bs:=[],rs:=[.val (.sl gQ)] }
def uh:aL:={ ps:=[.val (.sl gQ)],bs:=[],rs:=[.val .bool] }
def kA:aL:={ ps:=[.val cW],bs:=[],rs:=[.val .bool] }
def F5:aL:={ ps:=[.val cW],bs:=[],rs:=[.val (.int .i64),.val (.int .i64),.val (.int .i64),.val (.int .i64)] }
def qc:aL:={ ps:=[.val gQ],bs:=[],rs:=[.val .bool] }
def B8:aL:={ ps:=[.val Q2],bs:=[],rs:=[.val .bool] }
def vF:aL:={ ps:=[.val .str],bs:=[],rs:=[.val .bool] }
def F6:aL:={ ps:=[.val (.int .i64)],bs:=[],rs:=[.val .bool] }
def F7:aL:={ ps:=[.ref,.val dr],bs:=[.box 109 [.own (.row 48 dr),.own (.row 56 dV),.val (.sl cZ)]],rs:=[.val (.int .i64)] }
def Oa:aL:={ ps:=[.ref,.val qa],bs:=[.box 109 [.own (.row 48 dr),.own (.row 56 dV),.val (.sl cZ)]],rs:=[.val (.int .i64)] }
def ng:aL:={ ps:=[.ref,.val qa],bs:=[.box 109 [.own (.row 48 dr),.own (.row 56 dV),.val (.sl cZ)]],rs:=[.val (.int .i64)] }
def Ab:aL:={ ps:=[.ref,.val qa],bs:=[.box 109 [.own (.row 48 dr),.own (.row 56 dV),.val (.sl cZ)]],rs:=[.val (.int .i64)] }
def xM:aL:={ ps:=[.ref,.val qa],bs:=[.box 109 [.own (.row 48 dr),.own (.row 56 dV),.val (.sl cZ)]],rs:=[.val (.int .i64)] }
def qd:aL:={ ps:=[.ref,.val qa],bs:=[.box 109 [.own (.row 48 dr),.own (.row 56 dV),.val (.sl cZ)]],rs:=[.val (.int .i64)] }
def Oc:aL:={ ps:=[.ref,.val qa],bs:=[.box 109 [.own (.row 48 dr),.own (.row 56 dV),.val (.sl cZ)]],rs:=[.val (.int .i64)] }
def Od:aL:={ ps:=[.val bp],bs:=[],rs:=[.val .bool] }
def F8:aL:={ ps:=[.val jf,.val bp],bs:=[],rs:=[.val bp] }
def B9:aL:={ ps:=[.val cW,.val gQ,.val (.sl bp)],bs:=[],rs:=[.val cW] }
def w9:aL:={ ps:=[.val (.sl bp),.val bp,.val bp],bs:=[],rs:=[.own (.row 32 bp)] }
def rY:aL:={ ps:=[.val (.sl cZ),.val bp],bs:=[],rs:=[.val bp,.val .bool] }
def xc:aL:={ ps:=[.val (.sl bp),.val bp],bs:=[],rs:=[.own (.row 32 bp)] }
def F9:aL:={ ps:=[.val (.sl bp),.val bp,.val bp],bs:=[],rs:=[.own (.row 32 bp)] }
def Ga:aL:={ ps:=[.val (.sl bp),.val bp],bs:=[],rs:=[.val bp,.val .bool] }
def nh:aL:={ ps:=[.val cW,.val bp],bs:=[],rs:=[.val (.int .i64)] }
def Gb:aL:={ ps:=[.val bp],bs:=[],rs:=[.val .bool] }
def oY:aL:={ ps:=[.ref,.val gQ],bs:=[.box 109 [.own (.row 48 dr),.own (.row 56 dV),.val (.sl cZ)]],rs:=[.val (.int .i64),.val .bool] }
def Tp:aL:={ ps:=[],bs:=[],rs:=[],x:=some (MT 48 dr) }
def Tq:aL:={ ps:=[],bs:=[],rs:=[],x:=some (Rf 48 dr) }
def xd:aL:={ ps:=[.ref,.val gQ],bs:=[.box 109 [.own (.row 48 dr),.own (.row 56 dV),.val (.sl cZ)]],rs:=[.val (.int .i64)] }
def Ac:aL:={ ps:=[.val gQ],bs:=[],rs:=[.val bp,.val bp] }
def Gc:aL:={ ps:=[.val jf,.val Q2],bs:=[],rs:=[.val Q2,.val (.int .i64)] }
def Ad:aL:={ ps:=[.val (.sl bp),.val bp,.val bp],bs:=[],rs:=[.own (.row 32 bp)] }
def Ae:aL:={ ps:=[.val cW],bs:=[],rs:=[.val .bool] }
def l8:aL:={ ps:=[.ref,.val gQ],bs:=[.box 109 [.own (.row 48 dr),.own (.row 56 dV),.val (.sl cZ)]],rs:=[.val (.int .i64),.val .bool] }
def Af:aL:={ ps:=[.ref,.val bp,.val bp],bs:=[.box 109 [.own (.row 48 dr),.own (.row 56 dV),.val (.sl cZ)]],rs:=[] }
def Ag:aL:={ ps:=[.ref,.val bp],bs:=[.box 109 [.own (.row 48 dr),.own (.row 56 dV),.val (.sl cZ)]],rs:=[.val bp] }
def lr:aL:={ ps:=[.ref,.val bp],bs:=[.box 109 [.own (.row 48 dr),.own (.row 56 dV),.val (.sl cZ)]],rs:=[.ed 0 [(0,5,0)]] }
def Gd:aL:={ ps:=[.val (.sl bp),.val bp],bs:=[],rs:=[.own (.row 32 bp)] }
def Ts:aL:={ ps:=[],bs:=[],rs:=[],x:=some (Rf 56 dV) }
def rZ:aL:={ ps:=[.val (.sl bp),.val bp,.val bp],bs:=[],rs:=[.own (.row 32 bp)] }
def ni:aL:={ ps:=[.val bp],bs:=[],rs:=[.val bp] }
def qe:aL:={ ps:=[.val (.sl bp)],bs:=[],rs:=[.own (.row 32 bp)] }
def Ge:aL:={ ps:=[.ref,.val qa],bs:=[.box 109 [.own (.row 48 dr),.own (.row 56 dV),.val (.sl cZ)]],rs:=[.ed 0 [(0,5,3),(1,4,2)],.ed 0 [(0,5,4),(1,4,3)]] }
def CQ:aL:={ ps:=[.val dr,.val gQ],bs:=[],rs:=[.val (.int .i64)] }
def Ah:aL:={ ps:=[.val gQ,.val gQ],bs:=[],rs:=[.val (.int .i64)] }
def Tt:aL:={ ps:=[],bs:=[],rs:=[],x:=some (MT 56 dV) }
def Gf:aL:={ ps:=[.val cW,.val gQ],bs:=[],rs:=[.val dr,.val .bool] }
def xe:aL:={ ps:=[.val jf,.val bp],bs:=[],rs:=[.val bp] }
def ui:aL:={ ps:=[.val (.sl bp),.val bp],bs:=[],rs:=[.val .bool] }
def lu:aL:={ ps:=[.val (.sl bp),.val bp],bs:=[],rs:=[.val (.int .i64)] }
def nj:aL:={ ps:=[.val (.sl (.sl bp))],bs:=[],rs:=[.own (.row 32 bp)] }
def Gg:aL:={ ps:=[.val cW],bs:=[],rs:=[.val (.int .i64)] }
def CR:aL:={ ps:=[.val dV,.val gQ],bs:=[],rs:=[.val (.int .i64)] }
def Gh:aL:={ ps:=[.val (.sl cZ),.val cZ],bs:=[],rs:=[.own (.row 103 cZ)] }
def CS:aL:={ ps:=[.val (.sl bp),.val bp],bs:=[],rs:=[.val bp,.val .bool] }
def CT:aL:={ ps:=[.val bp,.val bp],bs:=[],rs:=[.val (.int .i64)] }
def nk:aL:={ ps:=[.val (.sl (.sl bp))],bs:=[],rs:=[.own (.row 32 bp)] }
def uj:aL:={ ps:=[.val (.sl (.int .i64))],bs:=[],rs:=[.val (.int .i64)] }
def Ai:aL:={ ps:=[.val (.int .i64),.val (.int .i64)],bs:=[],rs:=[.val (.int .i64)] }
def Gi:aL:={ ps:=[.val dr],bs:=[],rs:=[.val gQ] }
def uk:aL:={ ps:=[.val cW,.val bp],bs:=[],rs:=[.val gQ,.val .bool] }
def Gj:aL:={ ps:=[.val (.sl cZ),.val bp],bs:=[],rs:=[.val bp,.val .bool] }
def Gk:aL:={ ps:=[.val cW],bs:=[],rs:=[.val (.int .i64),.val (.int .i64),.val (.int .i64),.val (.int .i64)] }
def CU:aL:={ ps:=[.val cZ,.val bp],bs:=[],rs:=[.val (.int .i64)] }
def Tu:aL:={ ps:=[],bs:=[],rs:=[],x:=some (MT 103 cZ) }
def Aj:aL:={ ps:=[.val (.sl bp),.val bp,.val (.int .i64)],bs:=[],rs:=[.val bp,.val .bool] }
def Tv:aL:={ ps:=[],bs:=[],rs:=[],x:=some (MU 32 bp) }
def Ak:aL:={ ps:=[.val (.int .i64)],bs:=[],rs:=[.val .bool] }
def Gl:aL:={ ps:=[.val cZ,.ref],bs:=[.box 32 [.val (.int .i64),.val (.int .i64),.val (.int .i64)]],rs:=[.val .bool] }
def Gm:aL:={ ps:=[.val dr],bs:=[],rs:=[.val .bool] }
def xf:aL:={ ps:=[.val cW],bs:=[],rs:=[.own (.row 46 (.sl bp))] }
def xg:aL:={ ps:=[.val cW],bs:=[],rs:=[.val (.int .i64)] }
def um:aL:={ ps:=[.val cW],bs:=[],rs:=[.own (.row 32 bp)] }
def Tw:aL:={ ps:=[.val cW],bs:=[],rs:=[.own (.row 124 (.sl gQ))] }
def CV:aL:={ ps:=[.val cW,.val bp],bs:=[],rs:=[.val bp,.val .bool] }
def gL:aL:={ ps:=[.val cW],bs:=[],rs:=[.own (.row 3 (.int .i64))] }
def xh:aL:={ ps:=[.val cW,.val bp],bs:=[],rs:=[.val bp,.val .bool] }
def Gn:aL:={ ps:=[.own,.val (.int .i64),.val (.int .i64)],bs:=[.own (.row 3 (.int .i64))],rs:=[] }
def qf:aL:={ ps:=[.own,.val (.int .i64)],bs:=[.own (.row 3 (.int .i64))],rs:=[.val (.int .i64)] }
def Gp:aL:={ ps:=[.val (.sl bp),.val bp],bs:=[],rs:=[.val bp,.val .bool] }
def iQ:aL:={ ps:=[.val (.sl dr),.val gQ,.E3 126 0],bs:=[],rs:=[.val (.int .i64),.val .bool] }
def iR:aL:={ ps:=[.val (.sl dV),.val gQ,.E3 138 0],bs:=[],rs:=[.val (.int .i64),.val .bool] }
def jZ:aL:={ ps:=[.val (.sl bp),.E3 142 0],bs:=[],rs:=[.val bp] }
def j0:aL:={ ps:=[.val (.sl dr),.E3 150 0,.val gQ],bs:=[],rs:=[.val dr,.val .bool] }
def iS:aL:={ ps:=[.val (.sl cZ),.val bp,.E3 155 0],bs:=[],rs:=[.val (.int .i64),.val .bool] }
def iU:aL:={ ps:=[.val (.sl cZ),.E3 163 1],bs:=[.box 32 [.val bp]],rs:=[.val (.int .i64)] }
def j4:aL:={ ps:=[.val (.sl dr),.E3 165 0],bs:=[],rs:=[.val (.int .i64)] }
def Gq:aL:={ ps:=[],bs:=[],rs:=[],x:=some D8 }
def Oe:aL:={ ps:=[],bs:=[],rs:=[] }
def sgs:List (Nat×aL):=[(3,Wm),(4,sg4),(5,sg5),(6,sg6),(7,sg7),(8,sg8),(9,sg9),(10,aci),(11,acj),(12,NZ),(13,D9),(14,Ea),(15,N0),(16,N1),(17,ack),(18,o9),(19,xC),(20,sZ),(21,vD),(22,FU),(23,B3),(24,qb),(25,acm),(26,LB),(27,z8),(28,vE),(29,xD),(30,N2),(31,FV),(32,FY),(33,N3),(34,acn),(35,aco),(36,acp),(37,acq),(38,B4),(39,B5),(40,Eb),(41,acr),(42,N4),(43,B6),(44,FZ),(45,N5),(46,Ec),(47,ou),(48,N6),(49,N7),(50,N8),(51,xF),(52,Aa),(53,Ed),(54,LC),(55,B7),(56,rB),(57,Ee),(58,IK),(59,Ef),(60,F2),(61,IL),(62,IM),(63,pe),(64,Eg),(65,F3),(66,xG),(67,LD),(68,LF),(69,Eh),(70,LG),(71,xH),(72,xI),(73,xJ),(74,LH),(75,LI),(76,F4),(77,ov),(78,N9),(79,LJ),(80,LK),(81,xK),(82,xL),(83,uh),(84,kA),(85,F5),(86,qc),(87,B8),(88,vF),(89,F6),(90,F7),(91,Oa),(92,ng),(93,Ab),(94,xM),(95,qd),(96,Oc),(97,Od),(98,F8),(99,B9),(100,w9),(101,rY),(102,xc),(103,F9),(104,Ga),(105,nh),(106,Gb),(107,oY),(108,Tp),(109,Tq),(110,xd),(111,Ac),(112,Gc),(113,Ad),(114,Ae),(115,l8),(116,Af),(117,Ag),(118,lr),(119,Gd),(120,Ts),(121,rZ),(122,ni),(123,qe),(124,Ge),(126,CQ),(127,Ah),(130,Tt),(131,Gf),(132,xe),(133,ui),(134,lu),(135,nj),(136,Gg),(138,CR),(139,Gh),(140,CS),(142,CT),(143,nk),(144,uj),(145,Ai),(150,Gi),(151,uk),(152,Gj),(153,Gk),(155,CU),(156,Tu),(157,Aj),(158,Tv),(159,Ak),(163,Gl),(165,Gm),(166,xf),(167,xg),(171,um),(173,Tw),(176,CV),(177,gL),(179,xh),(180,Gn),(181,qf),(182,Gp),(127125,iQ),(139137,iR),(143141,jZ),(151149,j0),(156154,iS),(164162,iU),(166164,j4),(500060,Gq),(900074,Oe)]
def Sg(f:FuncId):Option aL:=(sgs.find? (fun p=>p.1==f)).map (fun p=>p.2)
def eqs:List (Nat×K):=[(30,gQ),(32,bp),(34,Q2),(36,qa),(56,dV),(103,cZ)]
def Eqs(t:TypeId):Option K:=(eqs.find? (fun p=>p.1==t)).map (fun p=>p.2)
def XA:Shape:=⟨[(0,.sl (.one (.sl (.pair (.int .i64) (.pair (.pair (.int .i64) (.int .i64)) (.pair (.pair (.int .i64) (.int .i64)) (.pair (.pair (.int .i64) (.int .i64)) (.pair (.pair (.pair (.int .i64) (.int .i64)) (.pair (.pair (.int .i64) (.int .i64)) (.int .i64))) (.pair (.pair (.pair (.int .i64) (.int .i64)) (.pair (.pair (.int .i64) (.int .i64)) (.int .i64))) (.pair .bool (.pair .str (.int .i64)))))))))))),(3,.bool),(6,.int .i64)],[(.slot 4,20000,.box 28 [.val jf]),(.slot 5,20001,.box 28 [.val jf])],[],[]⟩
def UG:Shape:=⟨[(0,.sl (.one (.sl (.pair (.int .i64) (.pair (.pair (.int .i64) (.int .i64)) (.pair (.pair (.int .i64) (.int .i64)) (.pair (.pair (.int .i64) (.int .i64)) (.pair (.pair (.pair (.int .i64) (.int .i64)) (.pair (.pair (.int .i64) (.int .i64)) (.int .i64))) (.pair (.pair (.pair (.int .i64) (.int .i64)) (.pair (.pair (.int .i64) (.int .i64)) (.int .i64))) (.pair .bool (.pair .str (.int .i64)))))))))))),(3,.bool),(5,.int .i64)],[(.slot 4,20000,.box 28 [.val jf])],[],[]⟩
def UH:Shape:=⟨[(5,.bool),(8,.int .i64),(10,.int .i64),(11,.int .i64)],[(.slot 3,20000,.box 76 [.val BH]),(.slot 6,20001,.box 28 [.val jf]),(.slot 7,20002,.box 28 [.val jf]),(.slot 9,20003,.box 28 [.val jf])],[],[]⟩
def UI:Shape:=⟨[(0,.sl (.one (.sl (.pair (.int .i64) (.pair (.pair (.int .i64) (.int .i64)) (.pair (.pair (.int .i64) (.int .i64)) (.pair (.pair (.int .i64) (.int .i64)) (.pair (.pair (.pair (.int .i64) (.int .i64)) (.pair (.pair (.int .i64) (.int .i64)) (.int .i64))) (.pair (.pair (.pair (.int .i64) (.int .i64)) (.pair (.pair (.int .i64) (.int .i64)) (.int .i64))) (.pair .bool (.pair .str (.int .i64)))))))))))),(4,.int .i64)],[(.slot 2,20000,.box 28 [.val jf]),(.slot 3,20001,.box 28 [.val jf])],[],[]⟩
def Al:Shape:=⟨[(6,.int .i64)],[(.slot 2,20000,.box 25 [.val cW]),(.slot 3,20001,.box 30 [.val gQ]),(.slot 4,20002,.box 48 [.val (.int .i64),.val (.int .i64),.own (.row 32 bp),.val .str,.val (.int .i64)])],[],[]⟩
def Am:Shape:=⟨[(6,.int .i64)],[(.slot 2,20000,.box 25 [.val cW]),(.slot 3,20001,.box 32 [.val bp]),(.slot 4,20002,.box 30 [.val gQ])],[],[]⟩
def Ao:Shape:=⟨[(6,.int .i64)],[(.slot 2,20000,.box 25 [.val cW]),(.slot 3,20001,.box 30 [.val gQ]),(.slot 4,20002,.box 56 [.val dV])],[],[]⟩
def Ap:Shape:=⟨[],[(.slot 2,20000,.box 25 [.val cW]),(.slot 3,20001,.box 32 [.val bp]),(.slot 6,20002,.box 32 [.val bp])],[(5,31000,(.row 32 (.pair (.pair (.int .i64) (.int .i64)) (.int .i64))))],[]⟩
def Aq:Shape:=⟨[(0,.sl (.pair (.pair (.int .i64) (.int .i64)) (.int .i64))),(5,.int .i64)],[(.slot 3,20000,.box 32 [.val bp])],[],[]⟩
def Ar:Shape:=⟨[(5,.int .i64)],[(.slot 2,20000,.box 25 [.val cW]),(.slot 3,20001,.box 25 [.val cW])],[],[]⟩
def As:Shape:=⟨[(9,.int .i64)],[(.slot 2,20000,.box 25 [.val cW]),(.slot 3,20001,.box 25 [.val cW])],[],[]⟩
def Au:Shape:=⟨[(0,.str),(3,.int .i64)],[],[],[]⟩
def vG:Shape:=⟨[(6,.int .i64)],[(.slot 1,20000,.box 25 [.val cW])],[(3,31000,(.row 46 (.sl (.pair (.pair (.int .i64) (.int .i64)) (.int .i64))))),(4,31001,(.row 32 (.pair (.pair (.int .i64) (.int .i64)) (.int .i64)))),(5,31002,(.row 32 (.pair (.pair (.int .i64) (.int .i64)) (.int .i64))))],[]⟩
def vH:Shape:=⟨[(4,.int .i64),(5,.int .i64)],[],[(3,31000,(.row 3 (.int .i64)))],[]⟩
def UJ:Shape:=⟨[(7,.int .i64)],[(.slot 2,20000,.box 28 [.val jf]),(.slot 3,20001,.box 76 [.val BH]),(.slot 4,20002,.box 28 [.own (.row 48 dr),.own (.row 56 dV),.own (.row 103 cZ)])],[],[]⟩
def Av:Shape:=⟨[(4,.int .i64)],[(.slot 1,20000,.box 25 [.val cW]),(.slot 2,20001,.box 25 [.own (.row 48 dr),.own (.row 56 dV)]),(.slot 3,20002,.box 25 [.own (.row 48 dr),.own (.row 56 dV)])],[],[]⟩
def Aw:Shape:=⟨[(0,.sl (.pair (.pair (.pair (.int .i64) (.int .i64)) (.int .i64)) (.pair (.pair (.int .i64) (.int .i64)) (.int .i64)))),(3,.int .i64)],[],[],[]⟩
def UK:Shape:=⟨[(3,.int .i64)],[(.slot 1,20000,.box 76 [.val BH])],[],[]⟩
def Ei:Shape:=⟨[(18,.sl (.pair (.int .i64) (.pair (.pair (.int .i64) (.int .i64)) (.pair (.pair (.int .i64) (.int .i64)) (.pair (.pair (.int .i64) (.int .i64)) (.pair (.pair (.pair (.int .i64) (.int .i64)) (.pair (.pair (.int .i64) (.int .i64)) (.int .i64))) (.pair (.pair (.pair (.int .i64) (.int .i64)) (.pair (.pair (.int .i64) (.int .i64)) (.int .i64))) (.pair .bool (.pair .str (.int .i64)))))))))),(19,.int .i64),(20,.int .i64)],[(.slot 4,20000,.box 28 [.own (.row 48 dr),.own (.row 56 dV),.own (.row 103 cZ)]),(.slot 6,20001,.box 109 [.own (.row 48 dr),.own (.row 56 dV),.val (.sl cZ)])],[],[]⟩
def s5:Shape:=⟨[(6,.bool),(7,.int .i64)],[(.slot 2,20000,.box 25 [.val cW]),(.slot 3,20001,.box 48 [.val dr]),(.slot 4,20002,.box 25 [.own (.row 48 dr),.own (.row 56 dV)]),(.slot 5,20003,.box 25 [.own (.row 48 dr),.val (.sl dV)])],[],[]⟩
def vI:Shape:=⟨[(8,.int .i64)],[(.slot 3,20000,.box 25 [.val cW]),(.slot 4,20001,.box 30 [.val gQ]),(.slot 5,20002,.box 30 [.val gQ]),(.slot 6,20003,.box 25 [.own (.row 48 dr),.own (.row 56 dV)]),(.slot 7,20004,.box 25 [.own (.row 48 dr),.own (.row 56 dV)])],[],[]⟩
def vJ:Shape:=⟨[(9,.int .i64)],[(.slot 3,20000,.box 25 [.val cW]),(.slot 5,20001,.box 30 [.val gQ]),(.slot 6,20002,.box 25 [.own (.row 48 dr),.own (.row 56 dV)]),(.slot 7,20003,.box 25 [.own (.row 48 dr),.own (.row 56 dV)])],[],[]⟩
def lx:Shape:=⟨[(12,.sl (.pair (.pair (.pair (.int .i64) (.int .i64)) (.int .i64)) (.pair (.pair (.int .i64) (.int .i64)) (.int .i64)))),(13,.int .i64)],[(.slot 4,20000,.box 28 [.own (.row 48 dr),.own (.row 56 dV),.own (.row 103 cZ)]),(.slot 8,20001,.box 32 [.val bp]),(.slot 9,20002,.box 32 [.val bp]),(.slot 10,20003,.box 32 [.val bp]),(.slot 11,20004,.box 25 [.val cW])],[],[]⟩
def qg:Shape:=⟨[(7,.bool),(8,.int .i64)],[(.slot 2,20000,.box 28 [.val jf]),(.slot 3,20001,.box 36 [.val qa]),(.slot 4,20002,.box 28 [.own (.row 48 dr),.own (.row 56 dV),.own (.row 103 cZ)]),(.slot 6,20003,.box 25 [.own (.row 48 dr),.own (.row 56 dV)])],[],[]⟩
def qh:Shape:=⟨[(7,.bool),(9,.int .i64)],[(.slot 2,20000,.box 28 [.val jf]),(.slot 3,20001,.box 36 [.val qa]),(.slot 4,20002,.box 28 [.own (.row 48 dr),.own (.row 56 dV),.own (.row 103 cZ)]),(.slot 6,20003,.box 25 [.own (.row 48 dr),.own (.row 56 dV)])],[],[]⟩
def Ax:Shape:=⟨[(0,.sl (.pair (.pair (.pair (.int .i64) (.int .i64)) (.int .i64)) (.pair (.pair (.int .i64) (.int .i64)) (.int .i64)))),(1,.sl (.pair (.pair (.pair (.int .i64) (.int .i64)) (.int .i64)) (.pair (.pair (.int .i64) (.int .i64)) (.int .i64)))),(5,.int .i64)],[],[],[]⟩
def Ay:Shape:=⟨[(5,.int .i64)],[(.slot 2,20000,.box 25 [.val cW]),(.slot 3,20001,.box 30 [.val gQ])],[],[]⟩
def Az:Shape:=⟨[(4,.int .i64)],[(.slot 1,20000,.box 25 [.val cW])],[(3,31000,(.row 3 (.int .i64)))],[]⟩
def vK:Shape:=⟨[(5,.int .i64)],[(.slot 1,20000,.box 25 [.val cW])],[(3,31000,(.row 3 (.int .i64)))],[]⟩
def qi:Shape:=⟨[(5,.int .i64),(6,.int .i64)],[(.slot 1,20000,.box 25 [.val cW])],[(3,31000,(.row 3 (.int .i64)))],[]⟩
def AA:Shape:=⟨[(0,.sl (.pair (.pair (.int .i64) (.int .i64)) (.int .i64))),(1,.sl (.pair (.pair (.int .i64) (.int .i64)) (.int .i64))),(5,.int .i64)],[],[],[]⟩
def Ej:Shape:=⟨[(17,.sl (.pair (.int .i64) (.pair (.pair (.int .i64) (.int .i64)) (.pair (.pair (.int .i64) (.int .i64)) (.pair (.pair (.int .i64) (.int .i64)) (.pair (.pair (.pair (.int .i64) (.int .i64)) (.pair (.pair (.int .i64) (.int .i64)) (.int .i64))) (.pair (.pair (.pair (.int .i64) (.int .i64)) (.pair (.pair (.int .i64) (.int .i64)) (.int .i64))) (.pair .bool (.pair .str (.int .i64)))))))))),(18,.int .i64),(19,.int .i64)],[],[],[]⟩
def AB:Shape:=⟨[(4,.int .i64)],[(.slot 1,20000,.box 25 [.val cW])],[(3,31000,(.row 32 (.pair (.pair (.int .i64) (.int .i64)) (.int .i64))))],[]⟩
def AD:Shape:=⟨[(14,.int .i64),(15,.int .i64)],[(.slot 2,20000,.box 25 [.own (.row 48 dr),.own (.row 56 dV)]),(.slot 3,20001,.box 25 [.own (.row 48 dr),.own (.row 56 dV)])],[],[]⟩
def s6:Shape:=⟨[(6,.bool),(7,.int .i64)],[(.slot 2,20000,.box 25 [.val cW]),(.slot 3,20001,.box 56 [.val dV]),(.slot 4,20002,.box 25 [.own (.row 48 dr),.own (.row 56 dV)]),(.slot 5,20003,.box 25 [.val (.sl dr),.own (.row 56 dV)])],[],[]⟩
def kj:Shape:=⟨[(0,.sl (.pair (.pair (.pair (.int .i64) (.int .i64)) (.int .i64)) (.pair (.pair (.int .i64) (.int .i64)) (.int .i64)))),(8,.bool),(9,.int .i64)],[(.slot 3,20000,.box 103 [.val cZ])],[(7,31000,(.row 103 (.pair (.pair (.pair (.int .i64) (.int .i64)) (.int .i64)) (.pair (.pair (.int .i64) (.int .i64)) (.int .i64)))))],[]⟩
def vL:Shape:=⟨[(0,.sl (.pair (.pair (.int .i64) (.int .i64)) (.int .i64))),(3,.int .i64),(4,.int .i64)],[],[],[]⟩
def AE:Shape:=⟨[(0,.sl (.pair (.pair (.int .i64) (.int .i64)) (.int .i64))),(3,.int .i64),(6,.int .i64)],[],[(5,31000,(.row 32 (.pair (.pair (.int .i64) (.int .i64)) (.int .i64))))],[]⟩
def AF:Shape:=⟨[(4,.int .i64)],[(.slot 1,20000,.box 25 [.val cW])],[(3,31000,(.row 30 (.pair (.int .i64) (.int .i64))))],[]⟩
def vM:Shape:=⟨[(5,.int .i64)],[(.slot 1,20000,.box 25 [.val cW])],[(3,31000,(.row 30 (.pair (.int .i64) (.int .i64))))],[]⟩
def vN:Shape:=⟨[(0,.sl (.pair (.int .i64) (.int .i64))),(3,.int .i64)],[],[],[]⟩
def s8:Shape:=⟨[(3,.int .i64)],[(.slot 1,20000,.box 25 [.val cW])],[],[]⟩
def vO:Shape:=⟨[(3,.int .i64),(4,.sl (.pair (.pair (.int .i64) (.int .i64)) (.int .i64))),(6,.int .i64)],[(.slot 1,20000,.box 25 [.val cW])],[],[]⟩
def vP:Shape:=⟨[(9,.int .i64)],[(.slot 1,20000,.box 25 [.val cW])],[],[]⟩
def ta:Shape:=⟨[(9,.int .i64),(10,.int .i64)],[(.slot 1,20000,.box 25 [.val cW])],[],[]⟩
def vQ:Shape:=⟨[(6,.int .i64),(7,.int .i64)],[(.slot 1,20000,.box 25 [.val cW])],[],[]⟩
def vR:Shape:=⟨[(0,.str)],[],[(6,31000,.mO)],[]⟩
def ly:Shape:=⟨[(48,.int .i64),(49,.int .i64)],[(.slot 0,1000,.box 109 [.own (.row 48 dr),.own (.row 56 dV),.val (.sl cZ)]),(.slot 5,20001,.box 28 [.val jf]),(.slot 7,20002,.box 32 [.val bp])],[(9,31000,(.row 32 (.pair (.pair (.int .i64) (.int .i64)) (.int .i64)))),(47,31001,(.row 34 (.pair (.pair (.int .i64) (.int .i64)) (.pair (.pair (.int .i64) (.int .i64)) (.int .i64)))))],[]⟩
def Ek:Shape:=⟨[(5,.int .i64),(32,.int .i64),(33,.int .i64)],[(.slot 0,1000,.box 109 [.own (.row 48 dr),.own (.row 56 dV),.val (.sl cZ)]),(.slot 7,20001,.box 32 [.val bp]),(.slot 8,20002,.box 32 [.val bp])],[(31,31000,(.row 32 (.pair (.pair (.int .i64) (.int .i64)) (.int .i64))))],[]⟩
def vS:Shape:=⟨[(5,.int .i64),(47,.int .i64),(48,.int .i64)],[(.slot 0,1000,.box 109 [.own (.row 48 dr),.own (.row 56 dV),.val (.sl cZ)])],[(46,31000,(.row 32 (.pair (.pair (.int .i64) (.int .i64)) (.int .i64))))],[]⟩
def mD:Shape:=⟨[(113,.int .i64)],[(.slot 0,1000,.box 109 [.own (.row 48 dr),.own (.row 56 dV),.val (.sl cZ)]),(.slot 8,20001,.box 32 [.val bp]),(.slot 9,20002,.box 32 [.val bp]),(.slot 10,20003,.box 32 [.val bp])],[],[]⟩
def AG:Shape:=⟨[(5,.int .i64)],[(.slot 2,20000,.box 28 [.val jf]),(.slot 3,20001,.box 32 [.val bp]),(.slot 4,20002,.box 32 [.val bp])],[],[]⟩
def vT:Shape:=⟨[(2,.sl (.pair (.pair (.int .i64) (.int .i64)) (.int .i64))),(8,.int .i64)],[(.slot 4,20000,.box 30 [.val gQ]),(.slot 6,20001,.box 25 [.own (.row 48 dr),.own (.row 56 dV)]),(.slot 7,20002,.box 25 [.own (.row 48 dr),.own (.row 56 dV)])],[],[]⟩
def qV:Shape:=⟨[(0,.sl (.pair (.pair (.int .i64) (.int .i64)) (.int .i64))),(7,.int .i64),(9,.int .i64)],[(.slot 5,20000,.box 32 [.val bp])],[(8,31000,(.row 32 (.pair (.pair (.int .i64) (.int .i64)) (.int .i64))))],[]⟩
def uo:Shape:=⟨[(0,.sl (.pair (.pair (.pair (.int .i64) (.int .i64)) (.int .i64)) (.pair (.pair (.int .i64) (.int .i64)) (.int .i64)))),(6,.int .i64)],[(.slot 3,20000,.box 32 [.val bp]),(.slot 4,20001,.box 32 [.val bp])],[],[]⟩
def qW:Shape:=⟨[(0,.sl (.pair (.pair (.int .i64) (.int .i64)) (.int .i64))),(6,.int .i64)],[(.slot 3,20000,.box 32 [.val bp])],[(5,31000,(.row 32 (.pair (.pair (.int .i64) (.int .i64)) (.int .i64))))],[]⟩
def qX:Shape:=⟨[(5,.int .i64),(6,.int .i64)],[(.slot 2,20000,.box 25 [.val cW]),(.slot 3,20001,.box 32 [.val bp])],[],[]⟩
def ow:Shape:=⟨[(5,.int .i64),(6,.int .i64),(7,.int .i64)],[(.slot 2,20000,.box 25 [.val cW]),(.slot 3,20001,.box 32 [.val bp])],[],[]⟩
def yn:Shape:=⟨[(7,.int .i64)],[(.slot 0,1000,.box 109 [.own (.row 48 dr),.own (.row 56 dV),.val (.sl cZ)]),(.slot 3,20001,.box 32 [.val bp]),(.slot 4,20002,.box 32 [.val bp]),(.slot 5,20003,.box 32 [.val bp])],[],[]⟩
def uq:Shape:=⟨[(12,.int .i64),(13,.int .i64)],[(.slot 0,1000,.box 109 [.own (.row 48 dr),.own (.row 56 dV),.val (.sl cZ)]),(.slot 3,20001,.box 32 [.val bp])],[],[]⟩
def uu:Shape:=⟨[(12,.int .i64),(13,.int .i64)],[(.slot 2,20000,.box 28 [.val jf]),(.slot 3,20001,.box 32 [.val bp]),(.slot 4,20002,.box 32 [.val bp])],[],[]⟩
def ux:Shape:=⟨[(0,.sl (.pair (.pair (.int .i64) (.int .i64)) (.int .i64))),(7,.int .i64),(8,.int .i64)],[(.slot 3,20000,.box 32 [.val bp])],[],[]⟩
def uy:Shape:=⟨[(0,.sl (.sl (.pair (.pair (.int .i64) (.int .i64)) (.int .i64)))),(3,.int .i64),(9,.sl (.sl (.pair (.pair (.int .i64) (.int .i64)) (.int .i64)))),(10,.int .i64),(11,.int .i64)],[],[],[]⟩
def uz:Shape:=⟨[(25,.sl (.sl (.pair (.pair (.int .i64) (.int .i64)) (.int .i64)))),(26,.int .i64),(27,.int .i64)],[],[(6,31000,(.row 32 (.pair (.pair (.int .i64) (.int .i64)) (.int .i64))))],[]⟩
def yp:Shape:=⟨[(3,.int .i64),(6,.sl (.int .i64)),(7,.int .i64),(8,.int .i64)],[],[],[]⟩
def uA:Shape:=⟨[(9,.sl (.pair (.pair (.int .i64) (.int .i64)) (.pair (.sl (.pair (.pair (.int .i64) (.int .i64)) (.int .i64))) (.pair .str (.int .i64))))),(10,.int .i64),(11,.int .i64)],[(.slot 3,20000,.box 32 [.val bp]),(.slot 4,20001,.box 30 [.val gQ])],[],[]⟩
def RN:Shape:=⟨[(12,.int .i64),(13,.int .i64)],[(.slot 1,20000,.box 25 [.val cW]),(.slot 4,20001,.box 183 [.own (.map bp .bool)])],[(3,31000,(.row 46 (.sl bp))),(11,31001,(.row 32 (.pair (.pair (.int .i64) (.int .i64)) (.int .i64))))],[]⟩
def uB:Shape:=⟨[(8,.sl (.pair (.pair (.int .i64) (.int .i64)) (.pair .str (.int .i64)))),(9,.int .i64),(10,.int .i64)],[],[(3,31000,(.row 32 bp))],[]⟩
def RO:Shape:=⟨[(11,.int .i64),(12,.int .i64)],[(.slot 1,20000,.box 25 [.val cW])],[(3,31000,(.map (.int .i64) (.int .i64))),(4,31001,(.row 124 (.sl gQ))),(10,31002,(.row 3 (.int .i64)))],[]⟩
def qY:Shape:=⟨[(18,.sl (.pair (.pair (.int .i64) (.int .i64)) (.pair (.sl (.pair (.pair (.int .i64) (.int .i64)) (.int .i64))) (.pair .str (.int .i64))))),(19,.int .i64),(20,.int .i64)],[],[(3,31000,(.row 3 (.int .i64))),(4,31001,(.map (.pair (.pair (.int .i64) (.int .i64)) (.int .i64)) (.int .i64)))],[]⟩
def uC:Shape:=⟨[(5,.int .i64),(18,.sl (.pair (.pair (.int .i64) (.int .i64)) (.pair (.sl (.pair (.pair (.int .i64) (.int .i64)) (.int .i64))) (.pair .str (.int .i64))))),(19,.int .i64),(20,.int .i64),(30,.sl (.pair (.pair (.int .i64) (.int .i64)) (.int .i64))),(31,.int .i64),(32,.int .i64)],[],[(3,31000,(.row 3 (.int .i64))),(4,31001,(.map (.pair (.pair (.int .i64) (.int .i64)) (.int .i64)) (.int .i64)))],[]⟩
def ox:Shape:=⟨[(4,.mp (.pair (.pair (.int .i64) (.int .i64)) (.int .i64)) (.int .i64))],[],[(3,31000,(.row 3 (.int .i64))),(42,31001,(.iter (.pair (.pair (.int .i64) (.int .i64)) (.int .i64)) (.int .i64)))],[]⟩
def uD:Shape:=⟨[(61,.int .i64),(62,.int .i64)],[],[(3,31000,(.row 3 (.int .i64))),(13,31001,(.row 3 (.int .i64)))],[]⟩
def uE:Shape:=⟨[(11,.sl (.pair (.pair (.int .i64) (.int .i64)) (.pair (.sl (.pair (.pair (.int .i64) (.int .i64)) (.int .i64))) (.pair .str (.int .i64))))),(12,.int .i64),(13,.int .i64)],[(.slot 3,20000,.box 32 [.val bp]),(.slot 4,20001,.box 32 [.val bp])],[],[]⟩
def qZ:Shape:=⟨[(1,.int .i64)],[],[(0,1000,(.row 3 (.int .i64)))],[]⟩
def hM:Shape:=⟨[(0,.sl (.pair (.pair (.int .i64) (.int .i64)) (.pair (.sl (.pair (.pair (.int .i64) (.int .i64)) (.int .i64))) (.pair .str (.int .i64))))),(8,.int .i64),(9,.int .i64),(10,.int .i64)],[(.slot 4,20000,.box 30 [.val gQ])],[],[(2,126,[])]⟩
def hY:Shape:=⟨[(0,.sl (.pair (.pair (.int .i64) (.int .i64)) (.pair .str (.int .i64)))),(8,.int .i64),(9,.int .i64),(10,.int .i64)],[(.slot 4,20000,.box 30 [.val gQ])],[],[(2,138,[])]⟩
def jw:Shape:=⟨[(0,.sl (.pair (.pair (.int .i64) (.int .i64)) (.int .i64))),(6,.int .i64)],[(.slot 4,20000,.box 32 [.val bp]),(.slot 5,20001,.box 32 [.val bp])],[],[(1,142,[])]⟩
def lz:Shape:=⟨[(11,.sl (.pair (.pair (.int .i64) (.int .i64)) (.pair (.sl (.pair (.pair (.int .i64) (.int .i64)) (.int .i64))) (.pair .str (.int .i64))))),(12,.int .i64),(13,.int .i64)],[(.slot 5,20000,.box 30 [.val gQ]),(.slot 6,20001,.box 48 [.val (.int .i64),.val (.int .i64),.own (.row 32 bp),.val .str,.val (.int .i64)])],[],[(1,150,[])]⟩
def hZ:Shape:=⟨[(0,.sl (.pair (.pair (.pair (.int .i64) (.int .i64)) (.int .i64)) (.pair (.pair (.int .i64) (.int .i64)) (.int .i64)))),(8,.int .i64),(9,.int .i64),(10,.int .i64)],[(.slot 4,20000,.box 32 [.val bp])],[],[(2,155,[])]⟩
def jx:Shape:=⟨[(0,.sl (.pair (.pair (.pair (.int .i64) (.int .i64)) (.int .i64)) (.pair (.pair (.int .i64) (.int .i64)) (.int .i64)))),(7,.int .i64),(8,.int .i64)],[(.cap 1 0,1000,.box 32 [.val bp])],[],[(1,163,[1000])]⟩
def jy:Shape:=⟨[(5,.int .i64),(8,.sl (.pair (.pair (.int .i64) (.int .i64)) (.pair (.sl (.pair (.pair (.int .i64) (.int .i64)) (.int .i64))) (.pair .str (.int .i64))))),(9,.int .i64),(10,.int .i64)],[],[],[(1,165,[])]⟩
def oy:Shape:=⟨[(4,.int .i64),(7,.bool),(8,.bool),(9,.int .i64)],[(.slot 1,20000,.box 25 [.val cW])],[],[]⟩
def oz:Shape:=⟨[(7,.bool),(8,.bool),(10,.int .i64)],[(.slot 1,20000,.box 25 [.val cW])],[],[]⟩
def ans:List (Nat×List (Nat×Shape)):=[(63,[(12,oy),(17,oz)]),(9,[(5,XA)]),(10,[(4,UG)]),(11,[(8,UH)]),(17,[(3,UI)]),(18,[(2,Al)]),(20,[(2,Am)]),(21,[(2,Ao)]),(22,[(6,Ap)]),(24,[(2,Aq)]),(27,[(4,Ar),(12,As)]),(28,[(2,Au)]),(31,[(5,vG)]),(32,[(4,vH)]),(35,[(5,UJ)]),(38,[(3,Av)]),(39,[(2,Aw)]),(41,[(4,UK)]),(44,[(3,Ei)]),(46,[(4,s5)]),(47,[(3,vI),(8,vJ)]),(51,[(18,lx)]),(52,[(4,qg),(12,qh)]),(53,[(4,Ax)]),(55,[(2,Ay)]),(56,[(3,Az),(7,vK),(10,qi)]),(57,[(4,AA)]),(58,[(4,Ej)]),(59,[(3,AB)]),(60,[(3,AD)]),(71,[(4,s6)]),(73,[(7,kj)]),(77,[(3,vL),(9,AE)]),(82,[(3,AF),(7,vM)]),(83,[(2,vN)]),(84,[(2,s8),(9,vO),(15,vP),(18,ta)]),(85,[(3,vQ)]),(88,[(2,vR)]),(92,[(8,ly)]),(93,[(6,Ek),(11,vS)]),(95,[(19,mD)]),(98,[(2,AG)]),(99,[(3,vT)]),(100,[(6,qV)]),(101,[(2,uo)]),(102,[(3,qW)]),(105,[(3,qX),(6,ow)]),(117,[(3,yn)]),(118,[(2,uq)]),(132,[(2,uu)]),(134,[(2,ux)]),(143,[(3,uy),(11,uz)]),(144,[(3,yp)]),(151,[(2,uA)]),(166,[(4,RN)]),(171,[(3,uB)]),(173,[(4,RO)]),(177,[(4,qY),(8,uC),(14,ox),(21,uD)]),(179,[(2,uE)]),(181,[(1,qZ)]),(127125,[(3,hM)]),(139137,[(3,hY)]),(143141,[(5,jw)]),(151149,[(2,lz)]),(156154,[(3,hZ)]),(164162,[(2,jx)]),(166164,[(3,jy)])]
def An(f:FuncId)(key:Nat):Option Shape:=(ans.find? (fun p=>p.1==f)).bind fun p=>(p.2.find? (fun q=>q.1==key)).map (fun q=>q.2)
abbrev JT(g:aL):=(sh:Shape)→List Item→sh.T→Option g.B
noncomputable def bW(f:FuncId)(g:aL)(fn:Func)(F:FT)(J:JT g)(x:g.A):Option g.B:=aA Tryz.prog Eqs Sg F fn.ntmps (An f) J (pQ Tryz.prog g fn) fuel [.code (fn.body.getD .skip)] (entry g x)
noncomputable def eW(f j:Nat)(g:aL)(fn:Func)(sh:Shape)(F:FT)(J:JT g)(x:sh.T):Option g.B:=aA Tryz.prog Eqs Sg F fn.ntmps (An f) J (pQ Tryz.prog g fn) fuel (round (aM Tryz.prog (f % 1000) j)) (aq sh x)
end Go.Vs
namespace Go.Vs
open Go.Proofs
variable {G:(f:FuncId)→(g:aL)→Option (g.A→Option g.B)}
noncomputable abbrev FX(G:(f:FuncId)→(g:aL)→Option (g.A→Option g.B)):FT:=Fix Tryz.prog Eqs Sg An G
noncomputable abbrev LX(G:(f:FuncId)→(g:aL)→Option (g.A→Option g.B))(f:FuncId)(g:aL)(fn:Func):JT g:=Lp Tryz.prog Eqs Sg An G f g fn
abbrev HG(G:(f:FuncId)→(g:aL)→Option (g.A→Option g.B)):Prop:=∀f g,(f==166 || f==167)=false→G f g=none
theorem aw{f:FuncId}{g:aL}{fn:Func}{x:g.A}{y:g.B}(hG:G f g=none)(hb:body Tryz.prog (f % 1000)=some (fn,fn.body.getD .skip))(hc:(decide (g.ps.length≤fn.ntmps)&&decide (g.bs.length≤8))=true)
  (h:bW f g fn (FX G) (LX G f g fn) x=some y):FX G f g x=some y:=JX hG hb hc h
theorem ar{f j:Nat}{g:aL}{fn:Func}{sh:Shape}{x:sh.T}{y:g.B}(hs:(match aM Tryz.prog (f % 1000) j with | .inLoop _::_=>true | _=>false)=true)
  (h:eW f j g fn sh (FX G) (LX G f g fn) x=some y):LX G f g fn sh (aM Tryz.prog (f % 1000) j) x=some y:=by
 unfold eW at h
 generalize aM Tryz.prog (f % 1000) j=s at hs h ⊢
 split at hs
 ·exact NY h
 ·cases hs
end Go.Vs
